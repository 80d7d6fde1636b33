/- The walk of the reference's RightPolicy, and of Asked of both. -/
import Derived.Test.YtldgnkceecgacaaDecA
namespace Go.Proofs.Ytldgnkceecgacaa
open Go.RowKit
set_option linter.unusedVariables false

theorem right_false {p : Pl.Pol} (h : ¬ Pl.Right p) : false = Pl.rightB p := by
  cases c : Pl.rightB p
  · rfl
  · exact absurd ((Pl.rightB_iff p).1 c) h
theorem right_true {p : Pl.Pol} (h : Pl.Right p) : true = Pl.rightB p := ((Pl.rightB_iff p).2 h).symm

set_option maxHeartbeats 2000000 in
theorem rightR_any (p : Pl.Pol) (w : World) : Calls Try.prog 41 #[polV p] w fun e w' => e = .returned (.bool (Pl.rightB p)) ∧ Below w.heap.size w w' := by
  have H0 := Lib.hid (right_false (p := p))
  have H1 := Lib.hid (right_true (p := p))
  by_cases c0 : 0 ≤ p.mn
  · by_cases c1 : p.mn ≤ p.mx
    · by_cases c2 : p.mx ≤ 1000
      · by_cases c3 : 1 ≤ p.goal
        · by_cases c4 : p.goal ≤ 1073741824
          · by_cases c5 : 0 ≤ p.slack
            · by_cases c6 : p.slack ≤ 100
              · by_cases c7 : 1 ≤ p.up
                · by_cases c8 : p.up ≤ 1000
                  · by_cases c9 : 1 ≤ p.down
                    · by_cases c10 : p.down ≤ 1000
                      · by_cases c11 : 0 ≤ p.cool
                        · by_cases c12 : p.cool ≤ 1000
                          · go_enter Try.func41, Try.ntmps41
                            go_wp2
                            go_ret
                            exact ⟨ret_bool (H1.out ⟨by omega, c2, c0, c1, c3, c4, c5, c6, c7, c8, c9, c10, c11, c12⟩), (Below.refl _ _).alloc (Nat.le_refl _) _⟩
                          · go_enter Try.func41, Try.ntmps41
                            go_wp2
                            go_ret
                            exact ⟨ret_bool (H0.out (fun r => by have := r.cool1; omega)), (Below.refl _ _).alloc (Nat.le_refl _) _⟩
                        · go_enter Try.func41, Try.ntmps41
                          go_wp2
                          go_ret
                          exact ⟨ret_bool (H0.out (fun r => by have := r.cool0; omega)), (Below.refl _ _).alloc (Nat.le_refl _) _⟩
                      · go_enter Try.func41, Try.ntmps41
                        go_wp2
                        go_ret
                        exact ⟨ret_bool (H0.out (fun r => by have := r.down1; omega)), (Below.refl _ _).alloc (Nat.le_refl _) _⟩
                    · go_enter Try.func41, Try.ntmps41
                      go_wp2
                      go_ret
                      exact ⟨ret_bool (H0.out (fun r => by have := r.down0; omega)), (Below.refl _ _).alloc (Nat.le_refl _) _⟩
                  · go_enter Try.func41, Try.ntmps41
                    go_wp2
                    go_ret
                    exact ⟨ret_bool (H0.out (fun r => by have := r.up1; omega)), (Below.refl _ _).alloc (Nat.le_refl _) _⟩
                · go_enter Try.func41, Try.ntmps41
                  go_wp2
                  go_ret
                  exact ⟨ret_bool (H0.out (fun r => by have := r.up0; omega)), (Below.refl _ _).alloc (Nat.le_refl _) _⟩
              · go_enter Try.func41, Try.ntmps41
                go_wp2
                go_ret
                exact ⟨ret_bool (H0.out (fun r => by have := r.slack1; omega)), (Below.refl _ _).alloc (Nat.le_refl _) _⟩
            · go_enter Try.func41, Try.ntmps41
              go_wp2
              go_ret
              exact ⟨ret_bool (H0.out (fun r => by have := r.slack0; omega)), (Below.refl _ _).alloc (Nat.le_refl _) _⟩
          · go_enter Try.func41, Try.ntmps41
            go_wp2
            go_ret
            exact ⟨ret_bool (H0.out (fun r => by have := r.goal1; omega)), (Below.refl _ _).alloc (Nat.le_refl _) _⟩
        · go_enter Try.func41, Try.ntmps41
          go_wp2
          go_ret
          exact ⟨ret_bool (H0.out (fun r => by have := r.goal0; omega)), (Below.refl _ _).alloc (Nat.le_refl _) _⟩
      · go_enter Try.func41, Try.ntmps41
        go_wp2
        go_ret
        exact ⟨ret_bool (H0.out (fun r => by have := r.mx1; omega)), (Below.refl _ _).alloc (Nat.le_refl _) _⟩
    · go_enter Try.func41, Try.ntmps41
      go_wp2
      go_ret
      exact ⟨ret_bool (H0.out (fun r => by have := r.mn1; omega)), (Below.refl _ _).alloc (Nat.le_refl _) _⟩
  · go_enter Try.func41, Try.ntmps41
    go_wp2
    go_ret
    exact ⟨ret_bool (H0.out (fun r => by have := r.mn0; omega)), (Below.refl _ _).alloc (Nat.le_refl _) _⟩
end Go.Proofs.Ytldgnkceecgacaa
