/- The small functions of a word: Within, may, compare, there. -/
import Derived.Test.YthgjmngaamoofaaRows
import Derived.WalkKit
import Derived.ProofKit
import Derived.Lib.Hide
import Derived.Deep.QuietTactic
import Derived.BigQuiet
import Derived.BigRegion
import Derived.WalkSmall
import Derived.WalkLawsBesides
import Derived.Deep.RegionHeld3
import Derived.Deep.AppendLies
namespace Go.Proofs.Ythgjmngaamoofaa
open Go.RowKit
set_option linter.unusedVariables false

namespace Pl
def within (n lo hi : Int) : Int := if hi < n then hi else if n < lo then lo else n
def inB (n lo hi : Int) : Bool := within n lo hi == n
theorem inB_iff (n lo hi : Int) : inB n lo hi = true ↔ lo ≤ n ∧ n ≤ hi := by
  unfold inB within; rw [beq_iff_eq]; (repeat' split) <;> omega
theorem inB_no (n lo hi : Int) : inB n lo hi = false ↔ ¬ (lo ≤ n ∧ n ≤ hi) := by rw [← inB_iff]; simp
/-- May a word be? -/
def may (node st inc : Int) : Bool := inB node 0 7 && (inB st 1 4 && inB inc 0 1099511627776)
/-- Above 0 if the first word counts more. -/
def cmp (s i s' i' : Int) : Int := if i' < i then 1 else if i < i' then -1 else if s' < s then 1 else if s < s' then -1 else 0
def there (st : Int) : Bool := st == 1 || st == 2
end Pl

theorem ret_int {k : IntKind} {a b : Int} (h : a = b) : Ending.returned (.int k a) = .returned (.int k b) := by rw [h]

theorem within_any (n lo hi : Int) (w : World) : Calls Try.prog 17 #[.int .i64 n, .int .i64 lo, .int .i64 hi] w fun e w' => e = .returned (.int .i64 (Pl.within n lo hi)) ∧ w' = w := by
  have H : Hid (Pl.within n lo hi = if hi < n then hi else if n < lo then lo else n) := rfl
  go_enter Try.func17, Try.ntmps17
  go_wp2
  all_goals go_ret
  all_goals
    refine ⟨ret_int ?_, rfl⟩
    rw [H.out]
    (repeat' split) <;> omega

theorem may_any (node st inc : Int) (w : World) : Calls Try.prog 11 #[.agg #[.int .i64 node, .int .i64 st, .int .i64 inc]] w fun e w' => e = .returned (.bool (Pl.may node st inc)) ∧ Below w.heap.size w w' := by
  have hm : Pl.may node st inc = (Pl.inB node 0 7 && (Pl.inB st 1 4 && Pl.inB inc 0 1099511627776)) := rfl
  cases h0 : (Pl.within node 0 7 == node)
  · have hm : Pl.may node st inc = false := by rw [hm]; unfold Pl.inB; rw [h0]; rfl
    rw [hm]
    clear hm
    go_enter Try.func11, Try.ntmps11
    go_wp2_with fail
    go_quiet ((go_at_call 17; exact Calls.quiet_of_same (within_any _ _ _ _)))
    go_wp2
    go_ret
    exact ⟨rfl, below_drewN ((Below.refl _ _).alloc (Nat.le_refl _) _) _⟩
  · cases h1 : (Pl.within st 1 4 == st)
    · have hm : Pl.may node st inc = false := by rw [hm]; unfold Pl.inB; rw [h0, h1]; rfl
      rw [hm]
      clear hm
      go_enter Try.func11, Try.ntmps11
      go_wp2_with fail
      go_quiet ((go_at_call 17; exact Calls.quiet_of_same (within_any _ _ _ _)))
      go_wp2
      go_ret
      exact ⟨rfl, below_drewN ((Below.refl _ _).alloc (Nat.le_refl _) _) _⟩
    · have hm : Pl.may node st inc = (Pl.within inc 0 1099511627776 == inc) := by rw [hm]; unfold Pl.inB; rw [h0, h1]; rfl
      rw [hm]
      clear hm
      go_enter Try.func11, Try.ntmps11
      go_wp2_with fail
      go_quiet ((go_at_call 17; exact Calls.quiet_of_same (within_any _ _ _ _)))
      go_wp2
      go_ret
      exact ⟨rfl, below_drewN ((Below.refl _ _).alloc (Nat.le_refl _) _) _⟩

theorem cmp_any (n s i n' s' i' : Int) (w : World) : Calls Try.prog 12 #[.agg #[.int .i64 n, .int .i64 s, .int .i64 i], .agg #[.int .i64 n', .int .i64 s', .int .i64 i']] w fun e w' => e = .returned (.int .i64 (Pl.cmp s i s' i')) ∧ Below w.heap.size w w' := by
  have H : Hid (Pl.cmp s i s' i' = if i' < i then 1 else if i < i' then -1 else if s' < s then 1 else if s < s' then -1 else 0) := rfl
  go_enter Try.func12, Try.ntmps12
  go_wp2
  all_goals go_ret
  all_goals
    refine ⟨ret_int ?_, ((Below.refl _ _).alloc (Nat.le_refl _) _).alloc (by simp) _⟩
    rw [H.out]
    (repeat' split) <;> omega

theorem there_any (n s i : Int) (w : World) : Calls Try.prog 16 #[.agg #[.int .i64 n, .int .i64 s, .int .i64 i]] w fun e w' => e = .returned (.bool (Pl.there s)) ∧ Below w.heap.size w w' := by
  unfold Pl.there
  cases h1 : (s == 1)
  · cases h2 : (s == 2)
    · go_enter Try.func16, Try.ntmps16
      go_wp2
      go_ret
      exact ⟨rfl, (Below.refl _ _).alloc (Nat.le_refl _) _⟩
    · go_enter Try.func16, Try.ntmps16
      go_wp2
      go_ret
      exact ⟨rfl, (Below.refl _ _).alloc (Nat.le_refl _) _⟩
  · go_enter Try.func16, Try.ntmps16
    go_wp2
    go_ret
    exact ⟨rfl, (Below.refl _ _).alloc (Nat.le_refl _) _⟩
end Go.Proofs.Ythgjmngaamoofaa
