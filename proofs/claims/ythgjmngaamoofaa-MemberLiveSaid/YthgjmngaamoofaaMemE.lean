/- walk with each of the two callbacks. -/
import Derived.Test.YthgjmngaamoofaaMemD
namespace Go.Proofs.Ythgjmngaamoofaa
open Go.RowKit
set_option linter.unusedVariables false

namespace Pl
def Tab.ks (T : Tab) (j : Nat) : List Nat := (List.range j).filter T.known
def Tab.word (T : Tab) (k : Nat) : List Value := [.int .i64 k, .int .i64 (T.st k), .int .i64 (T.inc k)]
def Tab.words (T : Tab) (j : Nat) : List Value := (T.ks j).flatMap T.word
theorem Tab.ks_yes {T : Tab} {j : Nat} (h : T.known j = true) : T.ks (j + 1) = T.ks j ++ [j] := by unfold Tab.ks; rw [List.range_succ, List.filter_append]; simp [h]
theorem Tab.ks_no {T : Tab} {j : Nat} (h : T.known j = false) : T.ks (j + 1) = T.ks j := by unfold Tab.ks; rw [List.range_succ, List.filter_append]; simp [h]
theorem Tab.ks_len (T : Tab) (j : Nat) : (T.ks j).length ≤ j := by unfold Tab.ks; exact Nat.le_trans (List.length_filter_le _ _) (by simp)
end Pl

theorem info29 : (Try.prog.info? 29).map (fun i => (i.zero, i.size, i.bytes)) = some (some (.agg #[.int .i64 0, .int .i64 0, .int .i64 0]), 3, 24) := by kernel_rfl
theorem info3 : (Try.prog.info? 3).map (fun i => (i.zero, i.size, i.bytes)) = some (some (.int .i64 0), 1, 8) := by kernel_rfl

theorem far2 {w w1 : World} {o1 o2 : Obj} {row : Option Nat} (hg : ((w.alloc o1).alloc o2).grownBy w1 row) {c : Nat} (hc : c < w.heap.size) (hne : some c ≠ row) : w1.heap[c]? = w.heap[c]? :=
  (hg.block c (by simp; omega) hne).trans ((Below.heap_alloc _ _ _ (by simp; omega)).trans (Below.heap_alloc _ _ _ hc))

theorem own_slice {w : World} {base T size n : Nat} {v : Value} {xs : List Value} (h : w.ownsRow base T size v (n + 1) xs) : ∃ g cap, v = .slice (some ⟨g, 0, none⟩) (n + 1) cap := by
  rcases h.2 with ⟨_, h0⟩ | ⟨g, cap, cur, e, _⟩
  · omega
  · exact ⟨g, cap, e⟩

theorem own_shape {w : World} {base T size n : Nat} {v : Value} {xs : List Value} (h : w.ownsRow base T size v n xs) : ∃ ao cap, v = .slice ao n cap := by
  rcases h.2 with ⟨rfl, h0⟩ | ⟨g, cap, cur, e, _⟩
  · exact ⟨none, 0, by rw [h0]⟩
  · exact ⟨_, cap, e⟩
theorem ownsRow_base {w : World} {b b' T size n : Nat} {v : Value} {xs : List Value} (h : w.ownsRow b T size v n xs) (hb : b' ≤ b) : w.ownsRow b' T size v n xs :=
  ⟨h.1, h.2.imp id (fun ⟨g, cap, cur, e, h1, rest⟩ => ⟨g, cap, cur, e, by omega, rest⟩)⟩
theorem ownsRow_below {w w' : World} {b T size n : Nat} {v : Value} {xs : List Value} (h : w.ownsRow b T size v n xs) (hb : Below w.heap.size w w') : w'.ownsRow b T size v n xs :=
  ⟨h.1, h.2.imp id (fun ⟨g, cap, cur, e, h1, h2, rest⟩ => ⟨g, cap, cur, e, h1, (hb.block g (Array.getElem?_eq_some_iff.1 h2).1).trans h2, rest⟩)⟩

theorem cb_all (c n : Nat) (a s i : Int) (v : Value) (xs : List Value) (w : World) (hn : n ≤ 1000) (hc : c < w.heap.size) (cv : w.cell? ⟨c, 0, none⟩ = some v) (fv : w.frozen? ⟨c, 0, none⟩ = false) (ho : w.ownsRow (c + 1) 29 3 v n xs) :
    Calls Try.prog 14 #[.agg #[.int .i64 a, .int .i64 s, .int .i64 i], .pointer (some ⟨c, 0, none⟩)] w fun e w' => e = .returned (.tuple #[]) ∧ Below c w w' ∧ ∃ v', w'.cell? ⟨c, 0, none⟩ = some v' ∧ w'.frozen? ⟨c, 0, none⟩ = false ∧ w'.ownsRow (c + 1) 29 3 v' (n + 1) (xs ++ [.int .i64 a, .int .i64 s, .int .i64 i]) := by
  obtain ⟨i0, hi, hz0, hz1, hz2⟩ := info_parts info29
  have hne : some c ≠ v.ownBlock := fun e => by have := ho.lt c e.symm; omega
  have hlt : ∀ g, v.ownBlock = some g → c + 1 ≤ g := fun g hg => (ho.lt g hg).1
  have hnew : ((w.alloc (.cells #[.int .i64 a, .int .i64 s, .int .i64 i] 40)).alloc (.cells #[.int .i64 a, .int .i64 s, .int .i64 i] 29)).heap[w.heap.size + 1]? = some (.cells #[.int .i64 a, .int .i64 s, .int .i64 i] 29) := by
    have := heap_alloc_new (w.alloc (.cells #[.int .i64 a, .int .i64 s, .int .i64 i] 40)) (.cells #[.int .i64 a, .int .i64 s, .int .i64 i] 29)
    simpa using this
  have HNEW := Lib.hid (World.news_of_block hnew)
  have OWN2 := Lib.hid (World.ownsRow.alloc (World.ownsRow.alloc ho (.cells #[.int .i64 a, .int .i64 s, .int .i64 i] 40)) (.cells #[.int .i64 a, .int .i64 s, .int .i64 i] 29))
  have HNE := Lib.hid hne
  have HLT := Lib.hid hlt
  have CV := Lib.hid cv
  have FV := Lib.hid fv
  clear ho hne hlt hnew
  go_enter Try.func14, Try.ntmps14
  go_wp2_with (at_builtin; refine wpList_append_own _ rfl (.tmp 3) (.tmp 5) 22 rfl (c + 1) 29 i0 (.agg #[.int .i64 0, .int .i64 0, .int .i64 0]) 3 24 Try.underlying22 hi hz0 hz1 hz2 rfl (by decide) v n xs rfl OWN2.out ⟨w.heap.size + 1, 0, none⟩ 1 1 [.int .i64 a, .int .i64 s, .int .i64 i] rfl rfl HNEW.out (by simp [Value.oneCell']) (by unfold maxLen; omega) (by omega) (by simp; omega) ?_; intro v1 w1 hown1 hgrow1 hat1; obtain ⟨g1, cp1, hv1⟩ := own_slice hown1; subst hv1; have hblk := far2 hgrow1 hc HNE.out; have pc : w1.cell? ⟨c, 0, none⟩ = _ := (World.cell?_of_block hblk).trans CV.out; have pf : w1.frozen? ⟨c, 0, none⟩ = _ := (World.frozen?_of_block hblk).trans FV.out; have HOW := Lib.hid hown1; have HGR := Lib.hid hgrow1; clear hown1 hgrow1 hat1 hblk)
  refine bodyPost_end (v := .tuple #[]) (results_none Try.results14 _ _ _) rfl ⟨rfl, ?_, _, World.cell?_setCell_same _ _ _ pc, ?_, ownsRow_setCell_below HOW.out (by show c < c + 1; omega) _⟩
  · exact ((((Below.refl c w).alloc (by omega) _).alloc (by simp; omega) _).grown HGR.out (by simp; omega) (fun g hg => by have := HLT.out g hg; omega)).setCell (by exact Nat.le_refl c) _
  · rw [World.frozen?_setCell]; exact pf

theorem walk_all (B c : Nat) (sf : Int) (T : Pl.Tab) (w : World) (h : TabAt w B sf T) (hBc : B < c) (hc : c < w.heap.size) (cv : w.cell? ⟨c, 0, none⟩ = some (.slice none 0 0)) (fv : w.frozen? ⟨c, 0, none⟩ = false) :
    Calls Try.prog 13 #[.pointer (some ⟨B, 0, none⟩), .func (.func 14) #[] #[.pointer (some ⟨c, 0, none⟩)]] w fun e w' => e = .returned (.tuple #[]) ∧ Below c w w' ∧ ∃ v', w'.cell? ⟨c, 0, none⟩ = some v' ∧ w'.frozen? ⟨c, 0, none⟩ = false ∧ w'.ownsRow (c + 1) 29 3 v' (T.ks 8).length (T.words 8) := by
  have kn0 : w.cell? ⟨B, 1, none⟩ = some (.bool (T.known 0)) := h.kn 0 (by decide)
  have kn1 : w.cell? ⟨B, 2, none⟩ = some (.bool (T.known 1)) := h.kn 1 (by decide)
  have kn2 : w.cell? ⟨B, 3, none⟩ = some (.bool (T.known 2)) := h.kn 2 (by decide)
  have kn3 : w.cell? ⟨B, 4, none⟩ = some (.bool (T.known 3)) := h.kn 3 (by decide)
  have kn4 : w.cell? ⟨B, 5, none⟩ = some (.bool (T.known 4)) := h.kn 4 (by decide)
  have kn5 : w.cell? ⟨B, 6, none⟩ = some (.bool (T.known 5)) := h.kn 5 (by decide)
  have kn6 : w.cell? ⟨B, 7, none⟩ = some (.bool (T.known 6)) := h.kn 6 (by decide)
  have kn7 : w.cell? ⟨B, 8, none⟩ = some (.bool (T.known 7)) := h.kn 7 (by decide)
  have HH := Lib.hid h
  have CV := Lib.hid cv
  have FV := Lib.hid fv
  clear h cv fv
  go_enter Try.func13, Try.ntmps13
  go_wp2_with fail
  clear kn0 kn1 kn2 kn3 kn4 kn5 kn6 kn7
  go_loopw [12, 4, 5] (fun i x y wr => ∃ (j : Nat) (v : Value), j ≤ 8 ∧ i = .int .i64 j ∧ Below c w wr ∧ wr.cell? ⟨c, 0, none⟩ = some v ∧ wr.frozen? ⟨c, 0, none⟩ = false ∧ wr.ownsRow (c + 1) 29 3 v (T.ks j).length (T.words j)) (fun i _ _ _ => 8 - (intOf i).toNat)
  case atStart => exact ⟨0, .slice none 0 0, by decide, rfl, Below.refl _ _, CV.out, FV.out, ⟨rfl, .inl ⟨rfl, rfl⟩⟩⟩
  case round =>
    obtain ⟨j, v, hj, rfl, bel, cv, fv, own⟩ := hrel
    by_cases hj8 : j < 8
    · have BEL := Lib.hid bel
      have CV2 := Lib.hid cv
      have FV2 := Lib.hid fv
      have OWN := Lib.hid own
      clear bel cv fv own
      have hidx : ∀ w, (Instr.index 39 (.agg #[Value.bool (T.known 0), Value.bool (T.known 1), Value.bool (T.known 2), Value.bool (T.known 3), Value.bool (T.known 4), Value.bool (T.known 5), Value.bool (T.known 6), Value.bool (T.known 7)]) (.int .i64 (j : Int))).run Try.prog w = .ok (.bool (T.known j)) w := by
        have : j = 0 ∨ j = 1 ∨ j = 2 ∨ j = 3 ∨ j = 4 ∨ j = 5 ∨ j = 6 ∨ j = 7 := by omega
        rcases this with rfl | rfl | rfl | rfl | rfl | rfl | rfl | rfl <;> intro w <;> rfl
      have a0 : (j : Int) < 8 := by omega
      cases hkn : T.known j
      · rw [hkn] at hidx
        have HKN := Lib.hid hkn
        clear hkn
        go_wp2_with fail
        all_goals exact ⟨⟨j + 1, v, by omega, rfl, BEL.out, CV2.out, FV2.out, by unfold Pl.Tab.words; rw [Pl.Tab.ks_no HKN.out]; exact OWN.out⟩, by simp [intOf]; omega⟩
      · rw [hkn] at hidx
        have HA := HH.out
        have c0 := (BEL.out.cell (p := ⟨B, 9 + j * 3, none⟩) hBc).trans (HA.no j hj8)
        rw [hkn, if_pos rfl] at c0
        have c1 := (BEL.out.cell (p := ⟨B, 9 + j * 3 + 1, none⟩) hBc).trans (HA.st j hj8)
        have c2 := (BEL.out.cell (p := ⟨B, 9 + j * 3 + 2, none⟩) hBc).trans (HA.inc j hj8)
        have HKN := Lib.hid hkn
        clear hkn HA
        go_wp2_with fail
        refine (cb_all c (T.ks j).length j (T.st j) (T.inc j) v (T.words j) _ (by have := T.ks_len j; omega) (Nat.lt_of_lt_of_le hc BEL.out.size) CV2.out FV2.out OWN.out).mono ?_
        rintro e w2 ⟨rfl, b2, v2, cv2, fv2, own2⟩
        have BEL2 := Lib.hid (BEL.out.trans b2)
        have CV3 := Lib.hid cv2
        have FV3 := Lib.hid fv2
        have OWN3 := Lib.hid own2
        clear b2 cv2 fv2 own2 c0 c1 c2
        go_wp2_with fail
        all_goals refine ⟨⟨j + 1, v2, by omega, rfl, BEL2.out, CV3.out, FV3.out, ?_⟩, by simp [intOf]; omega⟩
        all_goals (unfold Pl.Tab.words; rw [Pl.Tab.ks_yes HKN.out, List.flatMap_append, List.length_append]; exact OWN3.out)
    · obtain rfl : j = 8 := by omega
      have BEL := Lib.hid bel
      have CV2 := Lib.hid cv
      have FV2 := Lib.hid fv
      have OWN := Lib.hid own
      clear bel cv fv own hj8
      go_wp2_with fail
      exact bodyPost_end (v := .tuple #[]) (results_none Try.results13 _ _ _) rfl ⟨rfl, BEL.out, _, CV2.out, FV2.out, OWN.out⟩
end Go.Proofs.Ythgjmngaamoofaa
