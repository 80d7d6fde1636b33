/- The walks of within, Read, and of Write where it is refused. -/
import Derived.Test.YtjkaegdlpmpneaaRows
import Derived.WalkKit
import Derived.ProofKit
import Derived.Lib.Hide
import Derived.Deep.QuietTactic
import Derived.BigQuiet
import Derived.BigRegion
import Derived.WalkSmall
import Derived.WalkLawsBesides
import Derived.Deep.RegionHeld3
import Derived.Deep.AppendLies
namespace Go.Proofs.Ytjkaegdlpmpneaa
open Go.RowKit
set_option linter.unusedVariables false

namespace Pl
def within (n lo hi : Int) : Int := if hi < n then hi else if n < lo then lo else n
def inB (n lo hi : Int) : Bool := within n lo hi == n
theorem inB_iff (n lo hi : Int) : inB n lo hi = true ↔ lo ≤ n ∧ n ≤ hi := by
  unfold inB within; rw [beq_iff_eq]; (repeat' split) <;> omega
theorem inB_no (n lo hi : Int) : inB n lo hi = false ↔ ¬ (lo ≤ n ∧ n ≤ hi) := by rw [← inB_iff]; simp
end Pl

theorem ret_int {k : IntKind} {a b : Int} (h : a = b) : Ending.returned (.int k a) = .returned (.int k b) := by rw [h]

theorem within_any (n lo hi : Int) (w : World) : Calls Try.prog 22 #[.int .i64 n, .int .i64 lo, .int .i64 hi] w fun e w' => e = .returned (.int .i64 (Pl.within n lo hi)) ∧ w = w' := by
  have H : Hid (Pl.within n lo hi = if hi < n then hi else if n < lo then lo else n) := rfl
  go_enter Try.func22, Try.ntmps22
  go_wp2
  all_goals go_ret
  all_goals
    refine ⟨ret_int ?_, rfl⟩
    rw [H.out]
    (repeat' split) <;> omega
theorem inB_any (n lo hi : Int) (w : World) : Calls Try.prog 19 #[.int .i64 n, .int .i64 lo, .int .i64 hi] w fun e w' => e = .returned (.bool (Pl.inB n lo hi)) ∧ w = w' := by
  go_enter Try.func19, Try.ntmps19
  go_wp2_with (go_at_call 22; refine (within_any _ _ _ _).mono ?_; rintro e w' ⟨rfl, rfl⟩)
  go_ret
  exact ⟨rfl, rfl⟩

/-- The object's cells: of each workload its replicas and its fence. -/
structure CellsAt (w : World) (B : Nat) (rep fen : Nat → Int) : Prop where
  rep : ∀ k, k < 8 → w.cell? ⟨B, k * 2, none⟩ = some (.int .i64 (rep k))
  fen : ∀ k, k < 8 → w.cell? ⟨B, k * 2 + 1, none⟩ = some (.int .i64 (fen k))

theorem read_ok (B k : Nat) (rep fen : Nat → Int) (w : World) (hk : k < 8) (hB : B < w.heap.size) (h : CellsAt w B rep fen) :
    Calls Try.prog 8 #[.pointer (some ⟨B, 0, none⟩), .int .i64 k] w fun e w' => e = .returned (.tuple #[.int .i64 (rep k), .int .i64 (fen k), .int .i64 0]) ∧ Below w.heap.size w w' := by
  have hmf : ∀ (fn : Fn) (first cap : Array Value) (w : World), (Instr.makeFunc fn first cap).run Try.prog w = .ok (.func fn first cap) w := fun _ _ _ _ => rfl
  have c0 := h.rep k hk
  have c1 := h.fen k hk
  have hin : Pl.inB k 0 7 = true := (Pl.inB_iff _ _ _).2 (by omega)
  go_enter Try.func8, Try.ntmps8
  go_wp2_with (first | (go_at_call 19; refine (inB_any _ _ _ _).mono ?_; rintro e w' ⟨rfl, rfl⟩) | go_in)
  go_region
  all_goals (go_wp2; go_region)
  all_goals go_wp2
  all_goals (refine bodyPost_ret (v := .tuple #[.int .i64 (rep k), .int .i64 (fen k), .int .i64 0]) (by simp [results, Try.results8, go_sem]) rfl ⟨rfl, ?_⟩)
  all_goals exact ((((Below.refl _ _).alloc (Nat.le_refl _) _).alloc (by simp) _).drew).drew

theorem read_no (B : Nat) (work : Int) (w : World) (h : Pl.inB work 0 7 = false) :
    Calls Try.prog 8 #[.pointer (some ⟨B, 0, none⟩), .int .i64 work] w fun e w' => e = .returned (.tuple #[.int .i64 0, .int .i64 0, .int .i64 2]) ∧ Below w.heap.size w w' := by
  have hmf : ∀ (fn : Fn) (first cap : Array Value) (w : World), (Instr.makeFunc fn first cap).run Try.prog w = .ok (.func fn first cap) w := fun _ _ _ _ => rfl
  go_enter Try.func8, Try.ntmps8
  go_wp2_with (first | (go_at_call 19; refine (inB_any _ _ _ _).mono ?_; rintro e w' ⟨rfl, rfl⟩) | go_in)
  go_region
  all_goals go_wp2
  all_goals (refine bodyPost_ret (v := .tuple #[.int .i64 0, .int .i64 0, .int .i64 2]) (by simp [results, Try.results8, go_sem]) rfl ⟨rfl, ?_⟩)
  all_goals exact ((((Below.refl _ _).alloc (Nat.le_refl _) _).alloc (by simp) _)).drew

theorem write_work (B : Nat) (work f r b : Int) (w : World) (h : Pl.inB work 0 7 = false) :
    Calls Try.prog 9 #[.pointer (some ⟨B, 0, none⟩), .int .i64 work, .int .i64 f, .int .i64 r, .int .i64 b] w fun e w' => e = .returned (.int .i64 2) ∧ Below w.heap.size w w' := by
  have hmf : ∀ (fn : Fn) (first cap : Array Value) (w : World), (Instr.makeFunc fn first cap).run Try.prog w = .ok (.func fn first cap) w := fun _ _ _ _ => rfl
  go_enter Try.func9, Try.ntmps9
  go_wp2_with (first | (go_at_call 19; refine (inB_any _ _ _ _).mono ?_; rintro e w' ⟨rfl, rfl⟩) | go_in)
  go_ret
  exact ⟨rfl, (((((Below.refl _ _).alloc (Nat.le_refl _) _).alloc (by simp) _).alloc (by simp; omega) _).alloc (by simp; omega) _).alloc (by simp; omega) _⟩

theorem write_arg (B k : Nat) (f r b : Int) (w : World) (hk : k < 8) (h : (Pl.inB r 0 1000 && Pl.inB b 0 7) = false) :
    Calls Try.prog 9 #[.pointer (some ⟨B, 0, none⟩), .int .i64 k, .int .i64 f, .int .i64 r, .int .i64 b] w fun e w' => e = .returned (.int .i64 2) ∧ Below w.heap.size w w' := by
  have hmf : ∀ (fn : Fn) (first cap : Array Value) (w : World), (Instr.makeFunc fn first cap).run Try.prog w = .ok (.func fn first cap) w := fun _ _ _ _ => rfl
  have hin : Pl.inB k 0 7 = true := (Pl.inB_iff _ _ _).2 (by omega)
  cases h1 : Pl.inB r 0 1000
  · clear h
    go_enter Try.func9, Try.ntmps9
    go_wp2_with (first | (go_at_call 19; refine (inB_any _ _ _ _).mono ?_; rintro e w' ⟨rfl, rfl⟩) | go_in)
    go_ret
    exact ⟨rfl, (((((Below.refl _ _).alloc (Nat.le_refl _) _).alloc (by simp) _).alloc (by simp; omega) _).alloc (by simp; omega) _).alloc (by simp; omega) _⟩
  · have h2 : Pl.inB b 0 7 = false := by rw [h1] at h; exact h
    clear h
    go_enter Try.func9, Try.ntmps9
    go_wp2_with (first | (go_at_call 19; refine (inB_any _ _ _ _).mono ?_; rintro e w' ⟨rfl, rfl⟩) | go_in)
    go_ret
    exact ⟨rfl, (((((Below.refl _ _).alloc (Nat.le_refl _) _).alloc (by simp) _).alloc (by simp; omega) _).alloc (by simp; omega) _).alloc (by simp; omega) _⟩

/-- The world behind the five boxes that Write makes of its parameters. -/
abbrev boxed (w : World) (B k : Nat) (f r b : Int) : World :=
  ((((w.alloc (.cells #[.pointer (some ⟨B, 0, none⟩)] 24)).alloc (.cells #[.int .i64 k] 3)).alloc (.cells #[.int .i64 f] 3)).alloc (.cells #[.int .i64 r] 3)).alloc (.cells #[.int .i64 b] 3)
theorem boxed_below (w : World) (B k : Nat) (f r b : Int) : Below w.heap.size w (boxed w B k f r b) :=
  (((((Below.refl _ _).alloc (Nat.le_refl _) _).alloc (by simp) _).alloc (by simp; omega) _).alloc (by simp; omega) _).alloc (by simp; omega) _

theorem write_fence (B k : Nat) (f r b : Int) (rep fen : Nat → Int) (w : World) (hk : k < 8) (hB : B < w.heap.size) (h : CellsAt w B rep fen) (h1 : Pl.inB r 0 1000 = true) (h2 : Pl.inB b 0 7 = true) (h3 : (fen k != f) = true) :
    Calls Try.prog 9 #[.pointer (some ⟨B, 0, none⟩), .int .i64 k, .int .i64 f, .int .i64 r, .int .i64 b] w fun e w' => e = .returned (.int .i64 13) ∧ Below w.heap.size w w' := by
  have hmf : ∀ (fn : Fn) (first cap : Array Value) (w : World), (Instr.makeFunc fn first cap).run Try.prog w = .ok (.func fn first cap) w := fun _ _ _ _ => rfl
  have hin : Pl.inB k 0 7 = true := (Pl.inB_iff _ _ _).2 (by omega)
  have c0 := ((boxed_below w B k f r b).cell (p := ⟨B, k * 2, none⟩) hB).trans (h.rep k hk)
  have c1 := ((boxed_below w B k f r b).cell (p := ⟨B, k * 2 + 1, none⟩) hB).trans (h.fen k hk)
  go_enter Try.func9, Try.ntmps9
  go_wp2_with (first | (go_at_call 19; refine (inB_any _ _ _ _).mono ?_; rintro e w' ⟨rfl, rfl⟩) | go_in)
  go_quiet (fail)
  go_wp2
  go_ret
  exact ⟨rfl, below_drewN ((((((Below.refl _ _).alloc (Nat.le_refl _) _).alloc (by simp) _).alloc (by simp; omega) _).alloc (by simp; omega) _).alloc (by simp; omega) _) _⟩
end Go.Proofs.Ytjkaegdlpmpneaa
