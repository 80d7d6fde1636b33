/- Others; the document's example. -/
import Derived.Test.YthgjmngaamoofaaMemF
namespace Go.Proofs.Ythgjmngaamoofaa
open Go.RowKit
set_option linter.unusedVariables false

namespace Pl
/-- Those but the own one. -/
def but (sf : Int) (l : List Nat) : List Nat := l.filter fun k => (k : Int) != sf
theorem but_len (sf : Int) (l : List Nat) : (but sf l).length ≤ l.length := List.length_filter_le _ _
theorem but_yes {sf : Int} {l : List Nat} {j : Nat} (h : j < l.length) (h1 : (((l[j] : Nat) : Int) != sf) = true) : but sf (l.take (j + 1)) = but sf (l.take j) ++ [l[j]] := by
  unfold but; rw [List.take_add_one, List.getElem?_eq_getElem h, List.filter_append]
  simp only [Option.toList_some, List.filter_cons, h1, if_true, List.filter_nil]
theorem but_no {sf : Int} {l : List Nat} {j : Nat} (h : j < l.length) (h1 : (((l[j] : Nat) : Int) != sf) = false) : but sf (l.take (j + 1)) = but sf (l.take j) := by
  unfold but; rw [List.take_add_one, List.getElem?_eq_getElem h, List.filter_append]
  simp only [Option.toList_some, List.filter_cons, h1, Bool.false_eq_true, if_false, List.filter_nil, List.append_nil]
end Pl

theorem others_any (B : Nat) (sf : Int) (T : Pl.Tab) (w : World) (h : TabAt w B sf T) :
    Calls Try.prog 10 #[.pointer (some ⟨B, 0, none⟩)] w fun e w' => ∃ v', e = .returned v' ∧ Below w.heap.size w w' ∧ w'.ownsRow w.heap.size 3 1 v' (Pl.but sf (T.lv 8)).length (Pl.ints (Pl.but sf (T.lv 8))) := by
  obtain ⟨i0, hi, hz0, hz1, hz2⟩ := info_parts info3
  have HH := Lib.hid h
  clear h
  go_enter Try.func10, Try.ntmps10
  go_wp2_with fail
  refine (live_any B sf T w HH.out).mono ?_
  rintro e w1 ⟨v1, rfl, b1, own1⟩
  have hll := T.lv_len 8
  have HH1 := Lib.hid (HH.out.below b1)
  obtain ⟨l, hl⟩ : ∃ l, l = T.lv 8 := ⟨_, rfl⟩
  rw [← hl] at own1 hll
  have HL := Lib.hid hl
  obtain ⟨ao, cap, rfl, hE⟩ := ints_of own1
  have HE := Lib.hid hE
  have HB1 := Lib.hid b1
  clear hl own1 hE b1
  go_wp2_with fail
  go_loopw [8, 2, 4] (fun i o x wr => ∃ (j : Nat), j ≤ l.length ∧ i = .int .i64 j ∧ wr.ownsRow w1.heap.size 3 1 o (Pl.but sf (l.take j)).length (Pl.ints (Pl.but sf (l.take j))) ∧ Below w1.heap.size w1 wr) (fun i _ _ _ => l.length - (intOf i).toNat)
  case atStart => exact ⟨0, Nat.zero_le _, rfl, ⟨rfl, .inl ⟨rfl, rfl⟩⟩, Below.refl _ _⟩
  case round =>
    obtain ⟨j, hj, rfl, own, bel⟩ := hrel
    by_cases hjl : j < l.length
    · obtain ⟨g, off, hgo, hg2, hc⟩ := HE.out.below bel j hjl
      subst hgo
      have c0 := (HH1.out.below bel).own
      have hlen : (Pl.but sf (l.take j)).length ≤ 8 := Nat.le_trans (Pl.but_len _ _) (by rw [List.length_take]; omega)
      cases hp : (((l[j] : Nat) : Int) != sf)
      · have HP := Lib.hid (Pl.but_no hjl hp)
        have OWN := Lib.hid own
        have BEL := Lib.hid bel
        clear own bel
        generalize ((l[j] : Nat) : Int) = x at *
        go_wp2_with fail
        all_goals exact ⟨⟨j + 1, by omega, rfl, by rw [HP.out]; exact OWN.out, BEL.out⟩, by simp [intOf]; omega⟩
      · have HP := Lib.hid (Pl.but_yes hjl hp)
        have hsz := bel.size
        have hnew : (wr.alloc (.cells #[.int .i64 ((l[j] : Nat) : Int)] 3)).heap[wr.heap.size]? = some (.cells #[.int .i64 ((l[j] : Nat) : Int)] 3) := heap_alloc_new wr _
        have HNEW := Lib.hid (World.news_of_block hnew)
        have OWN := Lib.hid own
        have OWN2 := Lib.hid (World.ownsRow.alloc own (.cells #[.int .i64 ((l[j] : Nat) : Int)] 3))
        have BEL := Lib.hid bel
        have HX : Hid (Pl.ints (Pl.but sf (l.take j) ++ [l[j]]) = Pl.ints (Pl.but sf (l.take j)) ++ [.int .i64 ((l[j] : Nat) : Int)]) := Pl.ints_append _ _
        clear own bel hnew
        generalize ((l[j] : Nat) : Int) = x at *
        go_wp2_with (at_builtin; refine wpList_append_own _ rfl (.tmp 18) (.tmp 20) 32 rfl w1.heap.size 3 i0 (.int .i64 0) 1 8 Try.underlying32 hi hz0 hz1 hz2 rfl (by decide) _ _ _ rfl OWN2.out ⟨wr.heap.size, 0, none⟩ 1 1 [.int .i64 x] rfl rfl HNEW.out (by simp [Value.oneCell']) (by unfold maxLen; omega) (by omega) (by simp; omega) ?_; intro v2 w2 hown2 hgrow2 hat2; have HOW := Lib.hid hown2; have HGR := Lib.hid hgrow2; clear hown2 hgrow2 hat2)
        all_goals refine ⟨⟨j + 1, by omega, rfl, ?_, ?_⟩, by simp [intOf]; omega⟩
        · rw [HP.out, HX.out, List.length_append]; exact HOW.out
        · exact (BEL.out.alloc hsz _).grown HGR.out (by simp; omega) (fun j hj => (OWN.out.lt j hj).1)
    · obtain rfl : j = l.length := by omega
      have OWN := Lib.hid own
      have BEL := Lib.hid bel
      clear own bel hjl
      go_wp2_with fail
      go_ret
      rw [List.take_length, HL.out] at OWN
      exact ⟨_, rfl, HB1.out.trans (BEL.out.mono HB1.out.size), ownsRow_base OWN.out HB1.out.size⟩
end Go.Proofs.Ythgjmngaamoofaa
