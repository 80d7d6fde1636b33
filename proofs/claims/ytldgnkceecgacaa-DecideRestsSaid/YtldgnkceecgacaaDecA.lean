/- The walks of RightPolicy, of the program and of the reference. -/
import Derived.Test.YtldgnkceecgacaaSatB
import Derived.Test.YtldgnkceecgacaaDecPlain
namespace Go.Proofs.Ytldgnkceecgacaa
open Go.RowKit
set_option linter.unusedVariables false

/-- A policy as a value. -/
abbrev polV (p : Pl.Pol) : Value := .agg #[.int .i64 p.mn, .int .i64 p.mx, .int .i64 p.goal, .int .i64 p.slack, .int .i64 p.up, .int .i64 p.down, .int .i64 p.cool]

theorem evwithin_any (n lo hi : Int) (w : World) : Calls Try.prog 44 #[.int .i64 n, .int .i64 lo, .int .i64 hi] w fun e w' => e = .returned (.bool (Pl.inB n lo hi)) ∧ w = w' := by
  go_enter Try.func44, Try.ntmps44
  go_wp2_with (go_at_call 16; refine (within_any _ _ _ _).mono ?_; rintro e w' ⟨rfl, rfl⟩)
  go_ret
  exact ⟨rfl, rfl⟩

theorem ret_bool {a b : Bool} (h : a = b) : Ending.returned (.bool a) = .returned (.bool b) := by rw [h]

set_option maxHeartbeats 1000000 in
theorem right_any (p : Pl.Pol) (w : World) : Calls Try.prog 33 #[polV p] w fun e w' => e = .returned (.bool (Pl.rightB p)) ∧ Below w.heap.size w w' := by
  have H : Hid (Pl.rightB p = (Pl.inB p.mx 0 1000 && Pl.inB p.mn 0 p.mx && Pl.inB p.goal 1 1073741824 && Pl.inB p.slack 0 100 && Pl.inB p.up 1 1000 && Pl.inB p.down 1 1000 && Pl.inB p.cool 0 1000)) := rfl
  cases c0 : Pl.inB p.mx 0 1000
  · go_enter Try.func33, Try.ntmps33
    go_wp2_with (go_at_call 44; refine (evwithin_any _ _ _ _).mono ?_; rintro e w' ⟨rfl, rfl⟩)
    go_ret
    exact ⟨ret_bool (by rw [H.out]; simp [c0]), (Below.refl _ _).alloc (Nat.le_refl _) _⟩
  · cases c1 : Pl.inB p.mn 0 p.mx
    · go_enter Try.func33, Try.ntmps33
      go_wp2_with (go_at_call 44; refine (evwithin_any _ _ _ _).mono ?_; rintro e w' ⟨rfl, rfl⟩)
      go_ret
      exact ⟨ret_bool (by rw [H.out]; simp [c0, c1]), (Below.refl _ _).alloc (Nat.le_refl _) _⟩
    · cases c2 : Pl.inB p.goal 1 1073741824
      · go_enter Try.func33, Try.ntmps33
        go_wp2_with (go_at_call 44; refine (evwithin_any _ _ _ _).mono ?_; rintro e w' ⟨rfl, rfl⟩)
        go_ret
        exact ⟨ret_bool (by rw [H.out]; simp [c0, c1, c2]), (Below.refl _ _).alloc (Nat.le_refl _) _⟩
      · cases c3 : Pl.inB p.slack 0 100
        · go_enter Try.func33, Try.ntmps33
          go_wp2_with (go_at_call 44; refine (evwithin_any _ _ _ _).mono ?_; rintro e w' ⟨rfl, rfl⟩)
          go_ret
          exact ⟨ret_bool (by rw [H.out]; simp [c0, c1, c2, c3]), (Below.refl _ _).alloc (Nat.le_refl _) _⟩
        · cases c4 : Pl.inB p.up 1 1000
          · go_enter Try.func33, Try.ntmps33
            go_wp2_with (go_at_call 44; refine (evwithin_any _ _ _ _).mono ?_; rintro e w' ⟨rfl, rfl⟩)
            go_ret
            exact ⟨ret_bool (by rw [H.out]; simp [c0, c1, c2, c3, c4]), (Below.refl _ _).alloc (Nat.le_refl _) _⟩
          · cases c5 : Pl.inB p.down 1 1000
            · go_enter Try.func33, Try.ntmps33
              go_wp2_with (go_at_call 44; refine (evwithin_any _ _ _ _).mono ?_; rintro e w' ⟨rfl, rfl⟩)
              go_ret
              exact ⟨ret_bool (by rw [H.out]; simp [c0, c1, c2, c3, c4, c5]), (Below.refl _ _).alloc (Nat.le_refl _) _⟩
            · cases c6 : Pl.inB p.cool 0 1000
              · go_enter Try.func33, Try.ntmps33
                go_wp2_with (go_at_call 44; refine (evwithin_any _ _ _ _).mono ?_; rintro e w' ⟨rfl, rfl⟩)
                go_ret
                exact ⟨ret_bool (by rw [H.out]; simp [c0, c1, c2, c3, c4, c5, c6]), (Below.refl _ _).alloc (Nat.le_refl _) _⟩
              · go_enter Try.func33, Try.ntmps33
                go_wp2_with (go_at_call 44; refine (evwithin_any _ _ _ _).mono ?_; rintro e w' ⟨rfl, rfl⟩)
                go_ret
                exact ⟨ret_bool (by rw [H.out]; simp [c0, c1, c2, c3, c4, c5, c6]), (Below.refl _ _).alloc (Nat.le_refl _) _⟩
end Go.Proofs.Ytldgnkceecgacaa
