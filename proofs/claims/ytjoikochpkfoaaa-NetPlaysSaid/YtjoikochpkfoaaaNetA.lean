/- Bytes in memory; two nodes' pair; the map of those that are parted. -/
import Derived.Test.YtjoikochpkfoaaaRows
import Derived.WalkKit
import Derived.ProofKit
import Derived.Lib.Hide
import Derived.Deep.QuietTactic
import Derived.BigQuiet
import Derived.BigRegion
import Derived.WalkSmall
import Derived.WalkLawsBesides
import Derived.Deep.RegionHeld3
import Derived.Deep.AppendLies
import Derived.Deep.OwnRows
namespace Go.Proofs.Ytjoikochpkfoaaa
open Go.RowKit
set_option linter.unusedVariables false

theorem ret_int {k : IntKind} {a b : Int} (h : a = b) : Ending.returned (.int k a) = .returned (.int k b) := by rw [h]

namespace Pl
/-- Are these two nodes? -/
def pair (a b : Int) : Bool := decide (0 ≤ min a b) && (decide (max a b < 8) && (min a b != max a b))
end Pl

theorem of_lt (a b : Int) (w : World) (h : a < b) : Calls Try.prog 22 #[.int .i64 a, .int .i64 b] w fun e w' => e = .returned (.tuple #[.agg #[.int .i64 a, .int .i64 b], .bool (decide (0 ≤ a) && decide (b < 8))]) ∧ Below w.heap.size w w' := by
  have h1 : ¬ b < a := by omega
  have h2 : a ≠ b := by omega
  by_cases c0 : 0 ≤ a
  · by_cases c1 : b < 8
    · go_enter Try.func22, Try.ntmps22
      go_wp2_with fail
      go_region
      all_goals go_wp2_with fail
      all_goals exact bodyPost_ret (v := .tuple #[.agg #[.int .i64 a, .int .i64 b], .bool true]) (by simp [results, Try.results22, go_sem, h2]) rfl ⟨by simp [*], (((Below.refl _ _).alloc (Nat.le_refl _) _).alloc (by simp) _).drew⟩
    · have d1 := decide_eq_false c1
      go_enter Try.func22, Try.ntmps22
      go_wp2_with fail
      go_region
      all_goals go_wp2_with fail
      all_goals exact bodyPost_ret (v := .tuple #[.agg #[.int .i64 a, .int .i64 b], .bool false]) (by simp [results, Try.results22, go_sem]) rfl ⟨by simp [*], (((Below.refl _ _).alloc (Nat.le_refl _) _).alloc (by simp) _).drew⟩
  · have d0 := decide_eq_false c0
    go_enter Try.func22, Try.ntmps22
    go_wp2_with fail
    go_region
    all_goals go_wp2_with fail
    all_goals exact bodyPost_ret (v := .tuple #[.agg #[.int .i64 a, .int .i64 b], .bool false]) (by simp [results, Try.results22, go_sem]) rfl ⟨by simp [*], (((Below.refl _ _).alloc (Nat.le_refl _) _).alloc (by simp) _).drew⟩

theorem of_gt (a b : Int) (w : World) (h : b < a) : Calls Try.prog 22 #[.int .i64 a, .int .i64 b] w fun e w' => e = .returned (.tuple #[.agg #[.int .i64 b, .int .i64 a], .bool (decide (0 ≤ b) && decide (a < 8))]) ∧ Below w.heap.size w w' := by
  have h1 : ¬ a < b := by omega
  have h2 : b ≠ a := by omega
  by_cases c0 : 0 ≤ b
  · by_cases c1 : a < 8
    · go_enter Try.func22, Try.ntmps22
      go_wp2_with fail
      go_region
      all_goals go_wp2_with fail
      all_goals exact bodyPost_ret (v := .tuple #[.agg #[.int .i64 b, .int .i64 a], .bool true]) (by simp [results, Try.results22, go_sem, h2]) rfl ⟨by simp [*], (((Below.refl _ _).alloc (Nat.le_refl _) _).alloc (by simp) _).drew⟩
    · have d1 := decide_eq_false c1
      go_enter Try.func22, Try.ntmps22
      go_wp2_with fail
      go_region
      all_goals go_wp2_with fail
      all_goals exact bodyPost_ret (v := .tuple #[.agg #[.int .i64 b, .int .i64 a], .bool false]) (by simp [results, Try.results22, go_sem]) rfl ⟨by simp [*], (((Below.refl _ _).alloc (Nat.le_refl _) _).alloc (by simp) _).drew⟩
  · have d0 := decide_eq_false c0
    go_enter Try.func22, Try.ntmps22
    go_wp2_with fail
    go_region
    all_goals go_wp2_with fail
    all_goals exact bodyPost_ret (v := .tuple #[.agg #[.int .i64 b, .int .i64 a], .bool false]) (by simp [results, Try.results22, go_sem]) rfl ⟨by simp [*], (((Below.refl _ _).alloc (Nat.le_refl _) _).alloc (by simp) _).drew⟩


theorem of_eq (a : Int) (w : World) : Calls Try.prog 22 #[.int .i64 a, .int .i64 a] w fun e w' => e = .returned (.tuple #[.agg #[.int .i64 a, .int .i64 a], .bool false]) ∧ Below w.heap.size w w' := by
  have h2 : (a != a) = false := by simp
  by_cases c0 : 0 ≤ a
  · by_cases c1 : a < 8
    · go_enter Try.func22, Try.ntmps22
      go_wp2_with fail
      go_region
      all_goals go_wp2_with fail
      all_goals exact bodyPost_ret (v := .tuple #[.agg #[.int .i64 a, .int .i64 a], .bool false]) (by simp [results, Try.results22, go_sem]) rfl ⟨by simp [*], (((Below.refl _ _).alloc (Nat.le_refl _) _).alloc (by simp) _).drew⟩
    · have d1 := decide_eq_false c1
      go_enter Try.func22, Try.ntmps22
      go_wp2_with fail
      go_region
      all_goals go_wp2_with fail
      all_goals exact bodyPost_ret (v := .tuple #[.agg #[.int .i64 a, .int .i64 a], .bool false]) (by simp [results, Try.results22, go_sem]) rfl ⟨by simp [*], (((Below.refl _ _).alloc (Nat.le_refl _) _).alloc (by simp) _).drew⟩
  · have d0 := decide_eq_false c0
    go_enter Try.func22, Try.ntmps22
    go_wp2_with fail
    go_region
    all_goals go_wp2_with fail
    all_goals exact bodyPost_ret (v := .tuple #[.agg #[.int .i64 a, .int .i64 a], .bool false]) (by simp [results, Try.results22, go_sem]) rfl ⟨by simp [*], (((Below.refl _ _).alloc (Nat.le_refl _) _).alloc (by simp) _).drew⟩


theorem of_any (a b : Int) (w : World) : Calls Try.prog 22 #[.int .i64 a, .int .i64 b] w fun e w' => e = .returned (.tuple #[.agg #[.int .i64 (min a b), .int .i64 (max a b)], .bool (Pl.pair a b)]) ∧ Below w.heap.size w w' := by
  unfold Pl.pair
  rcases Int.lt_trichotomy a b with h | h | h
  · rw [show min a b = a from by omega, show max a b = b from by omega, show (a != b) = true from by simp; omega, Bool.and_true]
    exact of_lt a b w h
  · subst h
    rw [show min a a = a from by omega, show max a a = a from by omega, show (a != a) = false from by simp, Bool.and_false, Bool.and_false]
    exact of_eq a w
  · rw [show min a b = b from by omega, show max a b = a from by omega, show (b != a) = true from by simp; omega, Bool.and_true]
    exact of_gt a b w h

end Go.Proofs.Ytjoikochpkfoaaa
