/- The walks of the layer sat. -/
import Derived.Test.YtldgnkceecgacaaRows
import Derived.Test.YtldgnkceecgacaaPlain
import Derived.WalkKit
import Derived.ProofKit
import Derived.Lib.Hide
import Derived.Deep.QuietTactic
import Derived.BigQuiet
import Derived.WalkSmall
namespace Go.Proofs.Ytldgnkceecgacaa
open Go.RowKit

theorem ret_int {a b : Int} (h : a = b) : Ending.returned (.int .i64 a) = .returned (.int .i64 b) := by rw [h]
theorem ret_two {a b c d : Int} (h : a = b) (h' : c = d) : Ending.returned (.tuple #[.int .i64 a, .int .i64 c]) = .returned (.tuple #[.int .i64 b, .int .i64 d]) := by rw [h, h']

theorem within_any (n lo hi : Int) (w : World) : Calls Try.prog 16 #[.int .i64 n, .int .i64 lo, .int .i64 hi] w fun e w' => e = .returned (.int .i64 (Pl.within n lo hi)) ∧ w = w' := by
  have H : Hid (Pl.within n lo hi = if hi < n then hi else if n < lo then lo else n) := rfl
  go_enter Try.func16, Try.ntmps16
  go_wp2
  all_goals go_ret
  all_goals
    refine ⟨ret_int ?_, rfl⟩
    rw [H.out]
    (repeat' split) <;> omega
theorem withinR_any (n lo hi : Int) (w : World) : Calls Try.prog 25 #[.int .i64 n, .int .i64 lo, .int .i64 hi] w fun e w' => e = .returned (.int .i64 (Pl.within n lo hi)) ∧ w = w' := by
  have H : Hid (Pl.within n lo hi = if hi < n then hi else if n < lo then lo else n) := rfl
  go_enter Try.func25, Try.ntmps25
  go_wp2
  all_goals go_ret
  all_goals
    refine ⟨ret_int ?_, rfl⟩
    rw [H.out]
    (repeat' split) <;> omega
theorem clamp_any (n : Int) (w : World) : Calls Try.prog 15 #[.int .i64 n] w fun e w' => e = .returned (.int .i64 (Pl.clamp n)) ∧ w = w' := by
  go_enter Try.func15, Try.ntmps15
  go_wp2_with fail
  refine (within_any _ _ _ _).mono ?_
  rintro e w' ⟨rfl, rfl⟩
  go_wp2
  go_ret
  exact ⟨rfl, rfl⟩
theorem clampR_any (n : Int) (w : World) : Calls Try.prog 19 #[.int .i64 n] w fun e w' => e = .returned (.int .i64 (Pl.clamp n)) ∧ w = w' := by
  have H := Lib.hid (Pl.clamp_lo n)
  have H' := Lib.hid (Pl.clamp_hi n)
  have H'' := Lib.hid (Pl.clamp_id n)
  go_enter Try.func19, Try.ntmps19
  go_wp2
  all_goals go_ret
  · exact ⟨ret_int (H.out (by omega)).symm, rfl⟩
  · exact ⟨ret_int (H'.out (by omega)).symm, rfl⟩
  · exact ⟨ret_int (H''.out (by omega) (by omega)).symm, rfl⟩
theorem sum_any (a b : Int) (w : World) (ha : -1099511627776 ≤ a) (ha' : a ≤ 1099511627776) (hb : -1099511627776 ≤ b) (hb' : b ≤ 1099511627776) :
    Calls Try.prog 36 #[.agg #[.int .i64 a, .int .i64 b]] w fun e w' => e = .returned (.int .i64 (a + b)) ∧ Below w.heap.size w w' := by
  go_enter Try.func36, Try.ntmps36
  go_wp2
  go_ret
  exact ⟨rfl, (Below.refl _ _).alloc (Nat.le_refl _) _⟩
theorem difference_any (a b : Int) (w : World) (ha : -1099511627776 ≤ a) (ha' : a ≤ 1099511627776) (hb : -1099511627776 ≤ b) (hb' : b ≤ 1099511627776) :
    Calls Try.prog 37 #[.agg #[.int .i64 a, .int .i64 b]] w fun e w' => e = .returned (.int .i64 (a - b)) ∧ Below w.heap.size w w' := by
  go_enter Try.func37, Try.ntmps37
  go_wp2
  go_ret
  exact ⟨rfl, (Below.refl _ _).alloc (Nat.le_refl _) _⟩
theorem product_any (a b : Int) (w : World) (ha : -1099511627776 ≤ a) (ha' : a ≤ 1099511627776) (hb : -1099511627776 ≤ b) (hb' : b ≤ 1099511627776) :
    Calls Try.prog 38 #[.agg #[.int .i64 a, .int .i64 b]] w fun e w' => (∃ n, e = .returned (.int .i64 n) ∧ Pl.clamp n = Pl.clamp (a * b)) ∧ Below w.heap.size w w' := by
  by_cases ha0 : a = 0
  · subst ha0
    go_enter Try.func38, Try.ntmps38
    go_wp2
    go_ret
    exact ⟨⟨_, rfl, by simp⟩, (Below.refl _ _).alloc (Nat.le_refl _) _⟩
  by_cases hb0 : b = 0
  · subst hb0
    have t : (a == 0) = false := by simp [ha0]
    go_enter Try.func38, Try.ntmps38
    go_wp2
    go_ret
    exact ⟨⟨_, rfl, by simp⟩, (Below.refl _ _).alloc (Nat.le_refl _) _⟩
  have t : (a == 0) = false := by simp [ha0]
  have t' : (b == 0) = false := by simp [hb0]
  clear ha0
  go_enter Try.func38, Try.ntmps38
  go_wp2_with fail
  generalize hm : wrap64 (a * b) = m
  have HM := Lib.hid hm
  clear hm
  go_quiet (fail)
  go_wp2
  all_goals go_ret
  all_goals refine ⟨⟨_, rfl, ?_⟩, below_drewN ((Below.refl _ _).alloc (Nat.le_refl _) _) _⟩
  · rw [← HM.out]; exact Pl.prod_back ha ha' hb hb' hb0 (by rw [HM.out]; assumption)
  · exact Pl.prod_same ha ha' hb0 (by rw [HM.out]; assumption) (by assumption)
  · exact Pl.prod_other ha ha' hb0 (by rw [HM.out]; assumption) (by assumption)
end Go.Proofs.Ytldgnkceecgacaa
