/- The document's example. -/
import Derived.Test.YthgjmngaamoofaaMemG
namespace Go.Proofs.Ythgjmngaamoofaa
open Go.RowKit
set_option linter.unusedVariables false

namespace Pl
def ex : Nat → Int × Int
  | 0 => (2, 1)
  | 1 => (1, 1)
  | 2 => (1, 2)
  | 3 => (3, 2)
  | _ => (2, 2)
def alT : Nat → Tab
  | 0 => Tab.none.hear 0 1 0
  | j + 1 => (alT j).hear 3 (ex j).1 (ex j).2
end Pl

theorem ex_step (B j : Nat) (s i : Int) (b : Bool) (w wr : World) (A : TabAt wr B 0 (Pl.alT j)) (hB : w.heap.size ≤ B) (bel : Below w.heap.size w wr)
    (h1 : (Pl.alT j).said 3 s i = b) (h2 : Pl.err 3 s i = 0) (h3 : (Pl.alT j).hear 3 s i = Pl.alT (j + 1)) :
    Calls Try.prog 6 #[.pointer (some ⟨B, 0, none⟩), .agg #[.int .i64 3, .int .i64 s, .int .i64 i]] (wr.alloc (.cells #[.int .i64 s, .int .i64 i, .bool b] 37)) fun e w' =>
      e = .returned (.tuple #[.bool b, .int .i64 0]) ∧ TabAt w' B 0 (Pl.alT (j + 1)) ∧ Below w.heap.size w w' ∧ w'.cell? ⟨wr.heap.size, 2, none⟩ = some (.bool b) := by
  have b1 : Below wr.heap.size wr (wr.alloc (.cells #[.int .i64 s, .int .i64 i, .bool b] 37)) := (Below.refl _ _).alloc (Nat.le_refl _) _
  refine (hear_any B 3 s i 0 (Pl.alT j) _ (A.below b1)).mono ?_
  rintro e w' ⟨rfl, A', t⟩
  rw [h1, h2]
  rw [h3] at A'
  refine ⟨rfl, A', t.below (bel.alloc bel.size _) hB, ?_⟩
  have hlt := A.lt
  refine (World.cell?_of_block (t.same wr.heap.size (by simp) (by omega))).trans ?_
  rw [World.cell?_alloc_at _ _ _ _ rfl]; rfl

theorem alive_ok (w : World) : Calls Try.prog 4 #[] w fun e w' => e = .returned (.bool true) ∧ Below w.heap.size w w' := by
  go_enter Try.func4, Try.ntmps4
  go_wp2_with fail
  refine (new_ok 0 w (by decide)).mono ?_
  rintro e w1 ⟨rfl, A1, b1⟩
  have HA1 : Hid (TabAt w1 w.heap.size 0 (Pl.alT 0)) := Lib.hid A1
  have HB1 := Lib.hid b1
  clear A1 b1
  go_wp2_with fail
  go_loopw [26, 4, 5, 6] (fun i x y z wr => ∃ (j : Nat), j ≤ 5 ∧ i = .int .i64 j ∧ TabAt wr w.heap.size 0 (Pl.alT j) ∧ Below w.heap.size w wr) (fun i _ _ _ _ => 5 - (intOf i).toNat)
  case atStart => exact ⟨0, by decide, rfl, HA1.out, HB1.out⟩
  case round =>
    obtain ⟨j, hj, rfl, A, bel⟩ := hrel
    clear HA1 HB1
    by_cases hj5 : j < 5
    · have hj' : j = 0 ∨ j = 1 ∨ j = 2 ∨ j = 3 ∨ j = 4 := by omega
      rcases hj' with rfl | rfl | rfl | rfl | rfl
      · have ST := Lib.hid (ex_step w.heap.size 0 2 1 true w wr A (Nat.le_refl _) bel (by decide) (by decide) rfl)
        clear A bel
        have hidx : ∀ w, (Instr.index 38 (.agg #[.int .i64 2, .int .i64 1, .bool true, .int .i64 1, .int .i64 1, .bool false, .int .i64 1, .int .i64 2, .bool true, .int .i64 3, .int .i64 2, .bool true, .int .i64 2, .int .i64 2, .bool false]) (.int .i64 0)).run Try.prog w = .ok (.agg #[.int .i64 2, .int .i64 1, .bool true]) w := fun _ => by rfl
        go_wp2_with fail
        refine ST.out.mono ?_
        rintro e w2 ⟨rfl, A2, b2, c2⟩
        have HA2 := Lib.hid A2
        have HB2 := Lib.hid b2
        clear A2 b2 ST
        go_wp2_with fail
        all_goals exact ⟨⟨1, by decide, rfl, HA2.out, HB2.out⟩, by simp [intOf]⟩
      · have ST := Lib.hid (ex_step w.heap.size 1 1 1 false w wr A (Nat.le_refl _) bel (by decide) (by decide) rfl)
        clear A bel
        have hidx : ∀ w, (Instr.index 38 (.agg #[.int .i64 2, .int .i64 1, .bool true, .int .i64 1, .int .i64 1, .bool false, .int .i64 1, .int .i64 2, .bool true, .int .i64 3, .int .i64 2, .bool true, .int .i64 2, .int .i64 2, .bool false]) (.int .i64 1)).run Try.prog w = .ok (.agg #[.int .i64 1, .int .i64 1, .bool false]) w := fun _ => by rfl
        go_wp2_with fail
        refine ST.out.mono ?_
        rintro e w2 ⟨rfl, A2, b2, c2⟩
        have HA2 := Lib.hid A2
        have HB2 := Lib.hid b2
        clear A2 b2 ST
        go_wp2_with fail
        all_goals exact ⟨⟨2, by decide, rfl, HA2.out, HB2.out⟩, by simp [intOf]⟩
      · have ST := Lib.hid (ex_step w.heap.size 2 1 2 true w wr A (Nat.le_refl _) bel (by decide) (by decide) rfl)
        clear A bel
        have hidx : ∀ w, (Instr.index 38 (.agg #[.int .i64 2, .int .i64 1, .bool true, .int .i64 1, .int .i64 1, .bool false, .int .i64 1, .int .i64 2, .bool true, .int .i64 3, .int .i64 2, .bool true, .int .i64 2, .int .i64 2, .bool false]) (.int .i64 2)).run Try.prog w = .ok (.agg #[.int .i64 1, .int .i64 2, .bool true]) w := fun _ => by rfl
        go_wp2_with fail
        refine ST.out.mono ?_
        rintro e w2 ⟨rfl, A2, b2, c2⟩
        have HA2 := Lib.hid A2
        have HB2 := Lib.hid b2
        clear A2 b2 ST
        go_wp2_with fail
        all_goals exact ⟨⟨3, by decide, rfl, HA2.out, HB2.out⟩, by simp [intOf]⟩
      · have ST := Lib.hid (ex_step w.heap.size 3 3 2 true w wr A (Nat.le_refl _) bel (by decide) (by decide) rfl)
        clear A bel
        have hidx : ∀ w, (Instr.index 38 (.agg #[.int .i64 2, .int .i64 1, .bool true, .int .i64 1, .int .i64 1, .bool false, .int .i64 1, .int .i64 2, .bool true, .int .i64 3, .int .i64 2, .bool true, .int .i64 2, .int .i64 2, .bool false]) (.int .i64 3)).run Try.prog w = .ok (.agg #[.int .i64 3, .int .i64 2, .bool true]) w := fun _ => by rfl
        go_wp2_with fail
        refine ST.out.mono ?_
        rintro e w2 ⟨rfl, A2, b2, c2⟩
        have HA2 := Lib.hid A2
        have HB2 := Lib.hid b2
        clear A2 b2 ST
        go_wp2_with fail
        all_goals exact ⟨⟨4, by decide, rfl, HA2.out, HB2.out⟩, by simp [intOf]⟩
      · have ST := Lib.hid (ex_step w.heap.size 4 2 2 false w wr A (Nat.le_refl _) bel (by decide) (by decide) rfl)
        clear A bel
        have hidx : ∀ w, (Instr.index 38 (.agg #[.int .i64 2, .int .i64 1, .bool true, .int .i64 1, .int .i64 1, .bool false, .int .i64 1, .int .i64 2, .bool true, .int .i64 3, .int .i64 2, .bool true, .int .i64 2, .int .i64 2, .bool false]) (.int .i64 4)).run Try.prog w = .ok (.agg #[.int .i64 2, .int .i64 2, .bool false]) w := fun _ => by rfl
        go_wp2_with fail
        refine ST.out.mono ?_
        rintro e w2 ⟨rfl, A2, b2, c2⟩
        have HA2 := Lib.hid A2
        have HB2 := Lib.hid b2
        clear A2 b2 ST
        go_wp2_with fail
        all_goals exact ⟨⟨5, by decide, rfl, HA2.out, HB2.out⟩, by simp [intOf]⟩
    · obtain rfl : j = 5 := by omega
      have HA := Lib.hid A
      have HB := Lib.hid bel
      clear A bel hj5
      go_wp2_with fail
      refine (hear_nil 0 0 0 _).mono ?_
      rintro e w2 ⟨rfl, b2⟩
      have HA2 := Lib.hid (HA.out.below b2)
      have HB2 := Lib.hid (HB.out.trans (b2.mono HB.out.size))
      clear b2 HA HB
      go_wp2_with fail
      refine (others_any w.heap.size 0 _ w2 HA2.out).mono ?_
      rintro e w3 ⟨v3, rfl, b3, own3⟩
      obtain ⟨a3, c3, rfl⟩ := own_shape own3
      have HA3 := Lib.hid (HA2.out.below b3)
      have HB3 := Lib.hid (HB2.out.trans (b3.mono HB2.out.size))
      clear own3 b3 HA2 HB2
      rw [show (Pl.but 0 ((Pl.alT 5).lv 8)).length = 0 from by decide]
      go_wp2_with fail
      refine (live_any w.heap.size 0 _ w3 HA3.out).mono ?_
      rintro e w4 ⟨v4, rfl, b4, own4⟩
      obtain ⟨a4, c4, rfl⟩ := own_shape own4
      have HB4 := Lib.hid (HB3.out.trans (b4.mono HB3.out.size))
      clear own4 b4 HA3 HB3
      rw [show ((Pl.alT 5).lv 8).length = 1 from by decide]
      go_wp2_with fail
      go_ret
      exact ⟨rfl, HB4.out⟩
end Go.Proofs.Ythgjmngaamoofaa
