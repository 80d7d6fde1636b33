/- All, Live, Others, Ints. -/
import Derived.Test.YthgjmngaamoofaaMemE
namespace Go.Proofs.Ythgjmngaamoofaa
open Go.RowKit
set_option linter.unusedVariables false

namespace Pl
def Tab.lv (T : Tab) (j : Nat) : List Nat := (T.ks j).filter fun k => there (T.st k)
def ints (l : List Nat) : List Value := l.map (fun (k : Nat) => Value.int .i64 (k : Int))
theorem ints_append (l m : List Nat) : ints (l ++ m) = ints l ++ ints m := List.map_append
theorem ints_length (l : List Nat) : (ints l).length = l.length := List.length_map _
theorem Tab.lv_no {T : Tab} {j : Nat} (h : T.known j = false) : T.lv (j + 1) = T.lv j := by unfold Tab.lv; rw [Tab.ks_no h]
theorem Tab.lv_there {T : Tab} {j : Nat} (h : T.known j = true) (h1 : there (T.st j) = true) : T.lv (j + 1) = T.lv j ++ [j] := by unfold Tab.lv; rw [Tab.ks_yes h, List.filter_append]; simp [h1]
theorem Tab.lv_away {T : Tab} {j : Nat} (h : T.known j = true) (h1 : there (T.st j) = false) : T.lv (j + 1) = T.lv j := by unfold Tab.lv; rw [Tab.ks_yes h, List.filter_append]; simp [h1]
theorem Tab.lv_len (T : Tab) (j : Nat) : (T.lv j).length ≤ j := Nat.le_trans (List.length_filter_le _ _) (T.ks_len j)
end Pl

theorem cb_there (c n : Nat) (a s i : Int) (v : Value) (xs : List Value) (w : World) (hth : Pl.there s = true) (hn : n ≤ 1000) (hc : c < w.heap.size) (cv : w.cell? ⟨c, 0, none⟩ = some v) (fv : w.frozen? ⟨c, 0, none⟩ = false) (ho : w.ownsRow (c + 1) 3 1 v n xs) :
    Calls Try.prog 15 #[.agg #[.int .i64 a, .int .i64 s, .int .i64 i], .pointer (some ⟨c, 0, none⟩)] w fun e w' => e = .returned (.tuple #[]) ∧ Below c w w' ∧ ∃ v', w'.cell? ⟨c, 0, none⟩ = some v' ∧ w'.frozen? ⟨c, 0, none⟩ = false ∧ w'.ownsRow (c + 1) 3 1 v' (n + 1) (xs ++ [.int .i64 a]) := by
  obtain ⟨i0, hi, hz0, hz1, hz2⟩ := info_parts info3
  have hne : some c ≠ v.ownBlock := fun e => by have := ho.lt c e.symm; omega
  have hlt : ∀ g, v.ownBlock = some g → c + 1 ≤ g := fun g hg => (ho.lt g hg).1
  have hb0 : Below w.heap.size w (w.alloc (.cells #[.int .i64 a, .int .i64 s, .int .i64 i] 40)) := (Below.refl _ _).alloc (Nat.le_refl _) _
  have x0 : (w.alloc (.cells #[.int .i64 a, .int .i64 s, .int .i64 i] 40)).cell? ⟨w.heap.size, 0, none⟩ = some (.int .i64 a) := by rw [World.cell?_alloc_at _ _ _ _ rfl]; rfl
  have hls : w.heap.size < (w.alloc (.cells #[.int .i64 a, .int .i64 s, .int .i64 i] 40)).heap.size := by simp
  have HX := Lib.hid x0
  have HLS := Lib.hid hls
  have HB0 := Lib.hid hb0
  have HO := Lib.hid ho
  have HNE := Lib.hid hne
  have HLT := Lib.hid hlt
  have CV := Lib.hid cv
  have FV := Lib.hid fv
  clear ho hne hlt cv fv hb0 x0 hls
  go_enter Try.func15, Try.ntmps15
  go_wp2_with fail
  refine (there_any a s i _).mono ?_
  rintro e w2 ⟨rfl, b2⟩
  rw [hth]
  have b3 : Below w.heap.size w w2 := HB0.out.trans (b2.mono HB0.out.size)
  have q0 := (b2.cell (p := ⟨w.heap.size, 0, none⟩) HLS.out).trans HX.out
  have cv := (b3.cell (p := ⟨c, 0, none⟩) hc).trans CV.out
  have fv := (b3.frozen (p := ⟨c, 0, none⟩) hc).trans FV.out
  have own2 : w2.ownsRow (c + 1) 3 1 v n xs := by
    refine ⟨HO.out.1, ?_⟩
    rcases HO.out.2 with hn | ⟨g, cap, cur, hvg, hbg, hg, rest⟩
    · exact .inl hn
    · exact .inr ⟨g, cap, cur, hvg, hbg, (b3.block g (Array.getElem?_eq_some_iff.1 hg).1).trans hg, rest⟩
  have hnew : (w2.alloc (.cells #[.int .i64 a] 3)).heap[w2.heap.size]? = some (.cells #[.int .i64 a] 3) := heap_alloc_new w2 _
  have hc2 : c < w2.heap.size := Nat.lt_of_lt_of_le hc b3.size
  have HNEW := Lib.hid (World.news_of_block hnew)
  have OWN2 := Lib.hid (World.ownsRow.alloc own2 (.cells #[.int .i64 a] 3))
  have HB3 := Lib.hid b3
  have CV2 := Lib.hid cv
  have FV2 := Lib.hid fv
  clear b2 b3 own2 hnew fv
  go_wp2_with (at_builtin; refine wpList_append_own _ rfl (.tmp 5) (.tmp 8) 32 rfl (c + 1) 3 i0 (.int .i64 0) 1 8 Try.underlying32 hi hz0 hz1 hz2 rfl (by decide) v n xs rfl OWN2.out ⟨w2.heap.size, 0, none⟩ 1 1 [.int .i64 a] rfl rfl HNEW.out (by simp [Value.oneCell']) (by unfold maxLen; omega) (by omega) (by simp; omega) ?_; intro v1 w1 hown1 hgrow1 hat1; obtain ⟨g1, cp1, hv1⟩ := own_slice hown1; subst hv1; have hblk : w1.heap[c]? = w2.heap[c]? := (hgrow1.block c (by simp; omega) HNE.out).trans (Below.heap_alloc _ _ _ hc2); have pc : w1.cell? ⟨c, 0, none⟩ = _ := (World.cell?_of_block hblk).trans CV2.out; have pf : w1.frozen? ⟨c, 0, none⟩ = _ := (World.frozen?_of_block hblk).trans FV2.out; have HOW := Lib.hid hown1; have HGR := Lib.hid hgrow1; clear hown1 hgrow1 hat1 hblk)
  refine bodyPost_end (v := .tuple #[]) (results_none Try.results15 _ _ _) rfl ⟨rfl, ?_, _, World.cell?_setCell_same _ _ _ pc, ?_, ownsRow_setCell_below HOW.out (by show c < c + 1; omega) _⟩
  · have hb3 : Below c w w2 := HB3.out.mono (by omega)
    exact ((hb3.alloc (by omega) _).grown HGR.out (by simp; omega) (fun g hg => by have := HLT.out g hg; omega)).setCell (by exact Nat.le_refl c) _
  · rw [World.frozen?_setCell]; exact pf

theorem cb_away (c : Nat) (a s i : Int) (w : World) (hth : Pl.there s = false) :
    Calls Try.prog 15 #[.agg #[.int .i64 a, .int .i64 s, .int .i64 i], .pointer (some ⟨c, 0, none⟩)] w fun e w' => e = .returned (.tuple #[]) ∧ Below w.heap.size w w' := by
  have hb0 : Below w.heap.size w (w.alloc (.cells #[.int .i64 a, .int .i64 s, .int .i64 i] 40)) := (Below.refl _ _).alloc (Nat.le_refl _) _
  have HB0 := Lib.hid hb0
  clear hb0
  go_enter Try.func15, Try.ntmps15
  go_wp2_with fail
  refine (there_any a s i _).mono ?_
  rintro e w2 ⟨rfl, b2⟩
  rw [hth]
  have HB3 := Lib.hid (HB0.out.trans (b2.mono HB0.out.size))
  clear b2
  go_wp2_with fail
  exact bodyPost_end (v := .tuple #[]) (results_none Try.results15 _ _ _) rfl ⟨rfl, HB3.out⟩

theorem walk_live (B c : Nat) (sf : Int) (T : Pl.Tab) (w : World) (h : TabAt w B sf T) (hBc : B < c) (hc : c < w.heap.size) (cv : w.cell? ⟨c, 0, none⟩ = some (.slice none 0 0)) (fv : w.frozen? ⟨c, 0, none⟩ = false) :
    Calls Try.prog 13 #[.pointer (some ⟨B, 0, none⟩), .func (.func 15) #[] #[.pointer (some ⟨c, 0, none⟩)]] w fun e w' => e = .returned (.tuple #[]) ∧ Below c w w' ∧ ∃ v', w'.cell? ⟨c, 0, none⟩ = some v' ∧ w'.frozen? ⟨c, 0, none⟩ = false ∧ w'.ownsRow (c + 1) 3 1 v' (T.lv 8).length (Pl.ints (T.lv 8)) := by
  have kn0 : w.cell? ⟨B, 1, none⟩ = some (.bool (T.known 0)) := h.kn 0 (by decide)
  have kn1 : w.cell? ⟨B, 2, none⟩ = some (.bool (T.known 1)) := h.kn 1 (by decide)
  have kn2 : w.cell? ⟨B, 3, none⟩ = some (.bool (T.known 2)) := h.kn 2 (by decide)
  have kn3 : w.cell? ⟨B, 4, none⟩ = some (.bool (T.known 3)) := h.kn 3 (by decide)
  have kn4 : w.cell? ⟨B, 5, none⟩ = some (.bool (T.known 4)) := h.kn 4 (by decide)
  have kn5 : w.cell? ⟨B, 6, none⟩ = some (.bool (T.known 5)) := h.kn 5 (by decide)
  have kn6 : w.cell? ⟨B, 7, none⟩ = some (.bool (T.known 6)) := h.kn 6 (by decide)
  have kn7 : w.cell? ⟨B, 8, none⟩ = some (.bool (T.known 7)) := h.kn 7 (by decide)
  have HH := Lib.hid h
  have CV := Lib.hid cv
  have FV := Lib.hid fv
  clear h cv fv
  go_enter Try.func13, Try.ntmps13
  go_wp2_with fail
  clear kn0 kn1 kn2 kn3 kn4 kn5 kn6 kn7
  go_loopw [12, 4, 5] (fun i x y wr => ∃ (j : Nat) (v : Value), j ≤ 8 ∧ i = .int .i64 j ∧ Below c w wr ∧ wr.cell? ⟨c, 0, none⟩ = some v ∧ wr.frozen? ⟨c, 0, none⟩ = false ∧ wr.ownsRow (c + 1) 3 1 v (T.lv j).length (Pl.ints (T.lv j))) (fun i _ _ _ => 8 - (intOf i).toNat)
  case atStart => exact ⟨0, .slice none 0 0, by decide, rfl, Below.refl _ _, CV.out, FV.out, ⟨rfl, .inl ⟨rfl, rfl⟩⟩⟩
  case round =>
    obtain ⟨j, v, hj, rfl, bel, cv, fv, own⟩ := hrel
    by_cases hj8 : j < 8
    · have BEL := Lib.hid bel
      have CV2 := Lib.hid cv
      have FV2 := Lib.hid fv
      have OWN := Lib.hid own
      clear bel cv fv own
      have hidx : ∀ w, (Instr.index 39 (.agg #[Value.bool (T.known 0), Value.bool (T.known 1), Value.bool (T.known 2), Value.bool (T.known 3), Value.bool (T.known 4), Value.bool (T.known 5), Value.bool (T.known 6), Value.bool (T.known 7)]) (.int .i64 (j : Int))).run Try.prog w = .ok (.bool (T.known j)) w := by
        have : j = 0 ∨ j = 1 ∨ j = 2 ∨ j = 3 ∨ j = 4 ∨ j = 5 ∨ j = 6 ∨ j = 7 := by omega
        rcases this with rfl | rfl | rfl | rfl | rfl | rfl | rfl | rfl <;> intro w <;> rfl
      have a0 : (j : Int) < 8 := by omega
      cases hkn : T.known j
      · rw [hkn] at hidx
        have HKN := Lib.hid hkn
        clear hkn
        go_wp2_with fail
        all_goals exact ⟨⟨j + 1, v, by omega, rfl, BEL.out, CV2.out, FV2.out, by rw [Pl.Tab.lv_no HKN.out]; exact OWN.out⟩, by simp [intOf]; omega⟩
      · rw [hkn] at hidx
        have HA := HH.out
        have c0 := (BEL.out.cell (p := ⟨B, 9 + j * 3, none⟩) hBc).trans (HA.no j hj8)
        rw [hkn, if_pos rfl] at c0
        have c1 := (BEL.out.cell (p := ⟨B, 9 + j * 3 + 1, none⟩) hBc).trans (HA.st j hj8)
        have c2 := (BEL.out.cell (p := ⟨B, 9 + j * 3 + 2, none⟩) hBc).trans (HA.inc j hj8)
        have HKN := Lib.hid hkn
        clear hkn HA
        go_wp2_with fail
        cases hth : Pl.there (T.st j)
        · refine (cb_away c j (T.st j) (T.inc j) _ hth).mono ?_
          rintro e w2 ⟨rfl, b2⟩
          have hcw := Nat.lt_of_lt_of_le hc BEL.out.size
          have BEL2 := Lib.hid (BEL.out.trans (b2.mono (by omega : c ≤ _)))
          have CV3 := Lib.hid ((b2.cell (p := ⟨c, 0, none⟩) hcw).trans CV2.out)
          have FV3 := Lib.hid ((b2.frozen (p := ⟨c, 0, none⟩) hcw).trans FV2.out)
          have own2 : w2.ownsRow (c + 1) 3 1 v (T.lv j).length (Pl.ints (T.lv j)) := by
            refine ⟨OWN.out.1, ?_⟩
            rcases OWN.out.2 with hn | ⟨g, cap, cur, hvg, hbg, hg, rest⟩
            · exact .inl hn
            · exact .inr ⟨g, cap, cur, hvg, hbg, (b2.block g (Array.getElem?_eq_some_iff.1 hg).1).trans hg, rest⟩
          have OWN3 := Lib.hid own2
          have HTH := Lib.hid hth
          clear b2 own2 c0 c1 c2 hth
          go_wp2_with fail
          all_goals exact ⟨⟨j + 1, v, by omega, rfl, BEL2.out, CV3.out, FV3.out, by rw [Pl.Tab.lv_away HKN.out HTH.out]; exact OWN3.out⟩, by simp [intOf]; omega⟩
        · refine (cb_there c (T.lv j).length j (T.st j) (T.inc j) v (Pl.ints (T.lv j)) _ hth (by have := T.lv_len j; omega) (Nat.lt_of_lt_of_le hc BEL.out.size) CV2.out FV2.out OWN.out).mono ?_
          rintro e w2 ⟨rfl, b2, v2, cv2, fv2, own2⟩
          have BEL2 := Lib.hid (BEL.out.trans b2)
          have CV3 := Lib.hid cv2
          have FV3 := Lib.hid fv2
          have OWN3 := Lib.hid own2
          have HTH := Lib.hid hth
          clear b2 cv2 fv2 own2 c0 c1 c2 hth
          go_wp2_with fail
          all_goals refine ⟨⟨j + 1, v2, by omega, rfl, BEL2.out, CV3.out, FV3.out, ?_⟩, by simp [intOf]; omega⟩
          all_goals (rw [Pl.Tab.lv_there HKN.out HTH.out, Pl.ints_append, List.length_append]; exact OWN3.out)
    · obtain rfl : j = 8 := by omega
      have BEL := Lib.hid bel
      have CV2 := Lib.hid cv
      have FV2 := Lib.hid fv
      have OWN := Lib.hid own
      clear bel cv fv own hj8
      go_wp2_with fail
      exact bodyPost_end (v := .tuple #[]) (results_none Try.results13 _ _ _) rfl ⟨rfl, BEL.out, _, CV2.out, FV2.out, OWN.out⟩

theorem all_any (B : Nat) (sf : Int) (T : Pl.Tab) (w : World) (h : TabAt w B sf T) :
    Calls Try.prog 7 #[.pointer (some ⟨B, 0, none⟩)] w fun e w' => ∃ v', e = .returned v' ∧ Below w.heap.size w w' ∧ w'.ownsRow w.heap.size 29 3 v' (T.ks 8).length (T.words 8) := by
  have hmf : ∀ (fn : Fn) (first cap : Array Value) (w : World), (Instr.makeFunc fn first cap).run Try.prog w = .ok (.func fn first cap) w := fun _ _ _ _ => rfl
  have hb : Below w.heap.size w (w.alloc (.cells #[.slice none 0 0] 22)) := (Below.refl _ _).alloc (Nat.le_refl _) _
  have W := walk_all B w.heap.size sf T (w.alloc (.cells #[.slice none 0 0] 22)) (h.below hb) h.lt (by simp) (by rw [World.cell?_alloc_at _ _ _ _ rfl]; rfl) (by simp)
  have HW := Lib.hid W
  have HB := Lib.hid hb
  clear h W hb
  go_enter Try.func7, Try.ntmps7
  go_wp2_with fail
  refine HW.out.mono ?_
  rintro e w2 ⟨rfl, b2, v2, cv2, fv2, own2⟩
  obtain ⟨ao, cap, rfl⟩ := own_shape own2
  have hsz : w.heap.size ≤ w2.heap.size := (HB.out.trans b2).size
  have HB2 := Lib.hid ((HB.out.trans b2).setCell (p := ⟨w.heap.size, 0, none⟩) (Nat.le_refl _) (.slice ao (T.ks 8).length cap))
  have OWN2 := Lib.hid (ownsRow_base (ownsRow_setCell_below own2 (a := ⟨w.heap.size, 0, none⟩) (by show w.heap.size < w.heap.size + 1; omega) (.slice ao (T.ks 8).length cap)) (Nat.le_succ _))
  clear HW b2 own2 HB
  go_wp2_with fail
  have c2 : (w2.setCell ⟨w.heap.size, 0, none⟩ (.slice ao (T.ks 8).length cap)).cell? ⟨w.heap.size, 0, none⟩ = some (.slice ao (T.ks 8).length cap) := World.cell?_setCell_same _ _ _ cv2
  exact bodyPost_ret (v := .slice ao (T.ks 8).length cap) (by simp [results, Try.results7, go_sem, c2]) rfl ⟨_, rfl, HB2.out, OWN2.out⟩

theorem live_any (B : Nat) (sf : Int) (T : Pl.Tab) (w : World) (h : TabAt w B sf T) :
    Calls Try.prog 9 #[.pointer (some ⟨B, 0, none⟩)] w fun e w' => ∃ v', e = .returned v' ∧ Below w.heap.size w w' ∧ w'.ownsRow w.heap.size 3 1 v' (T.lv 8).length (Pl.ints (T.lv 8)) := by
  have hmf : ∀ (fn : Fn) (first cap : Array Value) (w : World), (Instr.makeFunc fn first cap).run Try.prog w = .ok (.func fn first cap) w := fun _ _ _ _ => rfl
  have hb : Below w.heap.size w (w.alloc (.cells #[.slice none 0 0] 32)) := (Below.refl _ _).alloc (Nat.le_refl _) _
  have W := walk_live B w.heap.size sf T (w.alloc (.cells #[.slice none 0 0] 32)) (h.below hb) h.lt (by simp) (by rw [World.cell?_alloc_at _ _ _ _ rfl]; rfl) (by simp)
  have HW := Lib.hid W
  have HB := Lib.hid hb
  clear h W hb
  go_enter Try.func9, Try.ntmps9
  go_wp2_with fail
  refine HW.out.mono ?_
  rintro e w2 ⟨rfl, b2, v2, cv2, fv2, own2⟩
  obtain ⟨ao, cap, rfl⟩ := own_shape own2
  have hsz : w.heap.size ≤ w2.heap.size := (HB.out.trans b2).size
  have HB2 := Lib.hid ((HB.out.trans b2).setCell (p := ⟨w.heap.size, 0, none⟩) (Nat.le_refl _) (.slice ao (T.lv 8).length cap))
  have OWN2 := Lib.hid (ownsRow_base (ownsRow_setCell_below own2 (a := ⟨w.heap.size, 0, none⟩) (by show w.heap.size < w.heap.size + 1; omega) (.slice ao (T.lv 8).length cap)) (Nat.le_succ _))
  clear HW b2 own2 HB
  go_wp2_with fail
  have c2 : (w2.setCell ⟨w.heap.size, 0, none⟩ (.slice ao (T.lv 8).length cap)).cell? ⟨w.heap.size, 0, none⟩ = some (.slice ao (T.lv 8).length cap) := World.cell?_setCell_same _ _ _ cv2
  exact bodyPost_ret (v := .slice ao (T.lv 8).length cap) (by simp [results, Try.results9, go_sem, c2]) rfl ⟨_, rfl, HB2.out, OWN2.out⟩

/-- Integers in memory. -/
def IntsAt (w : World) (ao : Option Addr) (l : List Nat) : Prop := ∀ i (h : i < l.length), ∃ g off, ao = some ⟨g, off, none⟩ ∧ g < w.heap.size ∧ w.cell? ⟨g, off + i, none⟩ = some (.int .i64 ((l[i] : Nat) : Int))
theorem IntsAt.below {w w' : World} {ao : Option Addr} {l : List Nat} (h : IntsAt w ao l) (hb : Below w.heap.size w w') : IntsAt w' ao l := fun i hi => by
  obtain ⟨g, off, h1, h2, h3⟩ := h i hi
  exact ⟨g, off, h1, Nat.lt_of_lt_of_le h2 hb.size, (hb.cell (p := ⟨g, off + i, none⟩) h2).trans h3⟩
theorem ints_of {w : World} {base : Nat} {v : Value} {l : List Nat} (h : w.ownsRow base 3 1 v l.length (Pl.ints l)) : ∃ ao cap, v = .slice ao l.length cap ∧ IntsAt w ao l := by
  rcases h.2 with ⟨rfl, h0⟩ | ⟨g, cap, cur, rfl, hb, hg, _, _, _, ht⟩
  · exact ⟨none, 0, by rw [h0], fun i hi => absurd hi (by omega)⟩
  · refine ⟨_, cap, rfl, fun i hi => ⟨g, 0, rfl, (Array.getElem?_eq_some_iff.1 hg).1, ?_⟩⟩
    have h2 : (Pl.ints l)[i]? = cur.toList[i]? := by
      rw [← ht, List.getElem?_take, if_pos (by omega)]
    have h3 : cur.toList[i]? = some (.int .i64 ((l[i] : Nat) : Int)) := by
      rw [← h2]; unfold Pl.ints; rw [List.getElem?_map, List.getElem?_eq_getElem hi]; rfl
    have h4 := World.news_of_block hg _ _ h3
    rw [Go.WideShapes.add_plain] at h4
    exact h4

theorem ints_same (a b : Option Addr) (ca cb : Nat) (l : List Nat) (w : World) (ha : IntsAt w a l) (hb : IntsAt w b l) (hn : l.length ≤ 1000) :
    Calls Try.prog 8 #[.slice a l.length ca, .slice b l.length cb] w fun e w' => e = .returned (.bool true) ∧ Below w.heap.size w w' := by
  have HA := Lib.hid ha
  have HB := Lib.hid hb
  clear ha hb
  have e0 : ((l.length : Int) != (l.length : Int)) = false := by simp
  go_enter Try.func8, Try.ntmps8
  go_wp2_with fail
  clear e0
  go_loopw [13, 5] (fun i x wr => ∃ (j : Nat), j ≤ l.length ∧ i = .int .i64 j ∧ Below w.heap.size w wr) (fun i _ _ => l.length - (intOf i).toNat)
  case atStart => exact ⟨0, Nat.zero_le _, rfl, Below.refl _ _⟩
  case round =>
    obtain ⟨j, hj, rfl, bel⟩ := hrel
    have BEL := Lib.hid bel
    by_cases hjl : j < l.length
    · obtain ⟨g, off, hgo, hg2, hc⟩ := HA.out.below bel j hjl
      obtain ⟨g', off', hgo', hg2', hc'⟩ := HB.out.below bel j hjl
      subst hgo
      subst hgo'
      generalize ((l[j] : Nat) : Int) = x at *
      have e0 : (x != x) = false := by simp
      clear bel
      go_wp2_with fail
      go_quiet (fail)
      go_wp2_with fail
      all_goals exact ⟨⟨j + 1, by omega, rfl, below_drewN BEL.out _⟩, by simp [intOf]; omega⟩
    · clear bel
      go_wp2_with fail
      go_ret
      exact ⟨rfl, BEL.out⟩
end Go.Proofs.Ythgjmngaamoofaa
