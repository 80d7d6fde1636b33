/- Hear in one contract; New. -/
import Derived.Test.YthgjmngaamoofaaMemC
namespace Go.Proofs.Ythgjmngaamoofaa
open Go.RowKit
set_option linter.unusedVariables false

namespace Pl
def Tab.said (T : Tab) (n s i : Int) : Bool := may n s i && T.news n.toNat s i
def Tab.hear (T : Tab) (n s i : Int) : Tab := if T.said n s i = true then T.set n.toNat s i else T
def err (n s i : Int) : Int := if may n s i = true then 0 else 2
end Pl

theorem hear_any (B : Nat) (n s i sf : Int) (T : Pl.Tab) (w : World) (h : TabAt w B sf T) :
    Calls Try.prog 6 #[.pointer (some ⟨B, 0, none⟩), .agg #[.int .i64 n, .int .i64 s, .int .i64 i]] w fun e w' => e = .returned (.tuple #[.bool (T.said n s i), .int .i64 (Pl.err n s i)]) ∧ TabAt w' B sf (T.hear n s i) ∧ Turned w w' B := by
  cases hm : Pl.may n s i with
  | false =>
    have h1 : T.said n s i = false := by unfold Pl.Tab.said; rw [hm]; rfl
    refine (hear_arg B n s i w hm).mono ?_
    rintro e w' ⟨rfl, hb⟩
    rw [h1, show Pl.err n s i = 2 from by unfold Pl.err; rw [hm]; rfl, show T.hear n s i = T from by unfold Pl.Tab.hear; rw [h1]; rfl]
    exact ⟨rfl, h.below hb, Turned.of_below hb⟩
  | true =>
    have hm' := hm
    unfold Pl.may at hm'
    simp only [Bool.and_eq_true] at hm'
    obtain ⟨x0, x7⟩ := (Pl.inB_iff _ _ _).1 hm'.1
    obtain ⟨k, rfl⟩ := Int.eq_ofNat_of_zero_le x0
    have hk : k < 8 := by omega
    have h1 : T.said k s i = T.news k s i := by unfold Pl.Tab.said; rw [hm]; rfl
    rw [show Pl.err k s i = 0 from by unfold Pl.err; rw [hm]; rfl]
    have hear : ∀ b, T.news k s i = b → (T.said k s i = b ∧ T.hear k s i = if b = true then T.set k s i else T) := fun b hb => by
      refine ⟨h1.trans hb, ?_⟩
      unfold Pl.Tab.hear; rw [h1, hb]; rfl
    cases hkn : T.known k with
    | false =>
      obtain ⟨q1, q2⟩ := hear true (by unfold Pl.Tab.news; rw [hkn]; rfl)
      rw [q1, q2]
      exact hear_fresh B k s i sf T w hk h hm hkn
    | true =>
      cases hc : decide (Pl.cmp s i (T.st k) (T.inc k) ≤ 0) with
      | true =>
        obtain ⟨q1, q2⟩ := hear false (by unfold Pl.Tab.news; rw [hkn, hc]; rfl)
        rw [q1, q2]
        refine (hear_old B k s i sf T w hk h hm hkn hc).mono ?_
        rintro e w' ⟨rfl, hb⟩
        exact ⟨rfl, h.below hb, Turned.of_below hb⟩
      | false =>
        obtain ⟨q1, q2⟩ := hear true (by unfold Pl.Tab.news; rw [hkn, hc]; rfl)
        rw [q1, q2]
        exact hear_new B k s i sf T w hk h hm hkn hc

theorem tab_fresh (w : World) (sf : Int) : TabAt (w.alloc (.cells #[.int .i64 sf, .bool false, .bool false, .bool false, .bool false, .bool false, .bool false, .bool false, .bool false,
    .int .i64 0, .int .i64 0, .int .i64 0, .int .i64 0, .int .i64 0, .int .i64 0, .int .i64 0, .int .i64 0, .int .i64 0, .int .i64 0, .int .i64 0, .int .i64 0,
    .int .i64 0, .int .i64 0, .int .i64 0, .int .i64 0, .int .i64 0, .int .i64 0, .int .i64 0, .int .i64 0, .int .i64 0, .int .i64 0, .int .i64 0, .int .i64 0] 43)) w.heap.size sf Pl.Tab.none := by
  have key : ∀ k, k < 8 → k = 0 ∨ k = 1 ∨ k = 2 ∨ k = 3 ∨ k = 4 ∨ k = 5 ∨ k = 6 ∨ k = 7 := fun k hk => by omega
  refine ⟨by simp, ?_, fun k hk => ?_, fun k hk => ?_, fun k hk => ?_, fun k hk => ?_, fun o => by simp⟩
  · rw [World.cell?_alloc_at _ _ _ _ rfl]; rfl
  all_goals
    rw [World.cell?_alloc_at _ _ _ _ rfl]
    rcases key k hk with rfl | rfl | rfl | rfl | rfl | rfl | rfl | rfl <;> rfl

theorem new_ok (sf : Int) (w : World) (hm : Pl.may sf 1 0 = true) :
    Calls Try.prog 5 #[.int .i64 sf, .int .i64 0] w fun e w' => e = .returned (.tuple #[.pointer (some ⟨w.heap.size, 0, none⟩), .int .i64 0]) ∧ TabAt w' w.heap.size sf (Pl.Tab.none.hear sf 1 0) ∧ Below w.heap.size w w' := by
  have A := tab_fresh w sf
  have hb : Below w.heap.size w (w.alloc (.cells #[.int .i64 sf, .bool false, .bool false, .bool false, .bool false, .bool false, .bool false, .bool false, .bool false,
    .int .i64 0, .int .i64 0, .int .i64 0, .int .i64 0, .int .i64 0, .int .i64 0, .int .i64 0, .int .i64 0, .int .i64 0, .int .i64 0, .int .i64 0, .int .i64 0,
    .int .i64 0, .int .i64 0, .int .i64 0, .int .i64 0, .int .i64 0, .int .i64 0, .int .i64 0, .int .i64 0, .int .i64 0, .int .i64 0, .int .i64 0, .int .i64 0] 43)) := (Below.refl _ _).alloc (Nat.le_refl _) _
  have HA := Lib.hid A
  have HB := Lib.hid hb
  clear A hb
  go_enter Try.func5, Try.ntmps5
  go_wp2_with fail
  refine (hear_any w.heap.size sf 1 0 sf Pl.Tab.none _ HA.out).mono ?_
  rintro e w1 ⟨rfl, A1, t1⟩
  rw [show Pl.err sf 1 0 = 0 from by unfold Pl.err; rw [hm]; rfl]
  have HA1 := Lib.hid A1
  have HB1 := Lib.hid (t1.below HB.out (Nat.le_refl _))
  clear A1 t1 HA HB
  go_wp2_with fail
  refine bodyPost_ret (v := .tuple #[.pointer (some ⟨w.heap.size, 0, none⟩), .int .i64 0]) (by simp [results, Try.results5, go_sem]) rfl ⟨rfl, HA1.out, HB1.out⟩

theorem new_no (sf : Int) (w : World) (hm : Pl.may sf 1 0 = false) :
    Calls Try.prog 5 #[.int .i64 sf, .int .i64 0] w fun e w' => e = .returned (.tuple #[.pointer none, .int .i64 2]) ∧ Below w.heap.size w w' := by
  have A := tab_fresh w sf
  have hb : Below w.heap.size w (w.alloc (.cells #[.int .i64 sf, .bool false, .bool false, .bool false, .bool false, .bool false, .bool false, .bool false, .bool false,
    .int .i64 0, .int .i64 0, .int .i64 0, .int .i64 0, .int .i64 0, .int .i64 0, .int .i64 0, .int .i64 0, .int .i64 0, .int .i64 0, .int .i64 0, .int .i64 0,
    .int .i64 0, .int .i64 0, .int .i64 0, .int .i64 0, .int .i64 0, .int .i64 0, .int .i64 0, .int .i64 0, .int .i64 0, .int .i64 0, .int .i64 0, .int .i64 0] 43)) := (Below.refl _ _).alloc (Nat.le_refl _) _
  have HA := Lib.hid A
  have HB := Lib.hid hb
  clear A hb
  go_enter Try.func5, Try.ntmps5
  go_wp2_with fail
  refine (hear_any w.heap.size sf 1 0 sf Pl.Tab.none _ HA.out).mono ?_
  rintro e w1 ⟨rfl, A1, t1⟩
  rw [show Pl.err sf 1 0 = 2 from by unfold Pl.err; rw [hm]; rfl]
  have HA1 := Lib.hid A1
  have HB1 := Lib.hid (t1.below HB.out (Nat.le_refl _))
  clear A1 t1 HA HB
  go_wp2_with fail
  refine bodyPost_ret (v := .tuple #[.pointer none, .int .i64 2]) (by simp [results, Try.results5, go_sem]) rfl ⟨rfl, HB1.out⟩

end Go.Proofs.Ythgjmngaamoofaa
