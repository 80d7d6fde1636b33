/- The walk of alive of layer decide. -/
import Derived.Test.YtldgnkceecgacaaDecF
import Derived.Test.YtldgnkceecgacaaDecG
namespace Go.Proofs.Ytldgnkceecgacaa
open Go.RowKit
set_option linter.unusedVariables false

def exP : Pl.Pol := ⟨1, 9, 10, 10, 2, 1, 0⟩
theorem ex_at (w : World) : PolAt (w.alloc (.cells #[.int .i64 1, .int .i64 9, .int .i64 10, .int .i64 10, .int .i64 2, .int .i64 1, .int .i64 0] 35)) w.heap.size exP := PolAt.box w exP

theorem step_ex (load now n : Int) (w : World) (hk : Pl.okB exP now = true) (h : Pl.stepF exP load now = n) :
    Calls Try.prog 27 #[.agg #[.int .i64 1, .int .i64 9, .int .i64 10, .int .i64 10, .int .i64 2, .int .i64 1, .int .i64 0], .int .i64 load, .int .i64 now] w fun e w' => e = .returned (.tuple #[.int .i64 n, .int .i64 0]) ∧ Below w.heap.size w w' :=
  h ▸ step_ok exP load now w hk

theorem steps_ex (load now n m : Int) (w : World) (hk : Pl.okB exP now = true) (h : Pl.stepsN exP load now = n) (h' : Pl.stepsEnd exP load now = m) :
    Calls Try.prog 29 #[.agg #[.int .i64 1, .int .i64 9, .int .i64 10, .int .i64 10, .int .i64 2, .int .i64 1, .int .i64 0], .int .i64 load, .int .i64 now] w fun e w' => e = .returned (.tuple #[.int .i64 n, .int .i64 m, .int .i64 0]) ∧ Below w.heap.size w w' := by
  subst h h'
  exact steps_ok exP load now w hk
theorem step_ex_no (load now : Int) (w : World) (hk : Pl.okB exP now = false) :
    Calls Try.prog 27 #[.agg #[.int .i64 1, .int .i64 9, .int .i64 10, .int .i64 10, .int .i64 2, .int .i64 1, .int .i64 0], .int .i64 load, .int .i64 now] w fun e w' => e = .returned (.tuple #[.int .i64 0, .int .i64 2]) ∧ Below w.heap.size w w' :=
  step_no exP load now w hk
theorem stable_ex (w : World) : Calls Try.prog 31 #[.slice (some ⟨w.heap.size, 0, none⟩) 1 1, .int .i64 2, .int .i64 5] (w.alloc (.cells #[.int .i64 4] 3)) fun e w' => e = .returned (.int .i64 4) ∧ Below (w.alloc (.cells #[.int .i64 4] 3)).heap.size (w.alloc (.cells #[.int .i64 4] 3)) w' := by
  have h := stable_any (some ⟨w.heap.size, 0, none⟩) 1 [4] 2 5 (w.alloc (.cells #[.int .i64 4] 3)) (by decide) ⟨(fun h => by cases h), fun _ => ⟨w.heap.size, 0, rfl, by simp, fun j hj => by
    obtain rfl : j = 0 := by simpa using hj
    rw [World.cell?_alloc_at _ _ _ _ rfl]; rfl⟩⟩
  have e : Pl.stableF [4] 2 5 = 4 := by decide +kernel
  rw [e] at h
  exact h

set_option maxHeartbeats 1000000 in
theorem alive11_any (w : World) : Calls Try.prog 26 #[] w fun e w' => e = .returned (.bool true) ∧ Below w.heap.size w w' := by
  have i0 : ∀ (x0 x1 x2 x3 x4 x5 x6 x7 : Value) w, (Instr.index 57 (.agg #[x0, x1, x2, x3, x4, x5, x6, x7]) (.int .i64 0)).run Try.prog w = .ok (.agg #[x0, x1]) w := fun _ _ _ _ _ _ _ _ _ => by kernel_rfl
  have i1 : ∀ (x0 x1 x2 x3 x4 x5 x6 x7 : Value) w, (Instr.index 57 (.agg #[x0, x1, x2, x3, x4, x5, x6, x7]) (.int .i64 1)).run Try.prog w = .ok (.agg #[x2, x3]) w := fun _ _ _ _ _ _ _ _ _ => by kernel_rfl
  have i2 : ∀ (x0 x1 x2 x3 x4 x5 x6 x7 : Value) w, (Instr.index 57 (.agg #[x0, x1, x2, x3, x4, x5, x6, x7]) (.int .i64 2)).run Try.prog w = .ok (.agg #[x4, x5]) w := fun _ _ _ _ _ _ _ _ _ => by kernel_rfl
  have i3 : ∀ (x0 x1 x2 x3 x4 x5 x6 x7 : Value) w, (Instr.index 57 (.agg #[x0, x1, x2, x3, x4, x5, x6, x7]) (.int .i64 3)).run Try.prog w = .ok (.agg #[x6, x7]) w := fun _ _ _ _ _ _ _ _ _ => by kernel_rfl
  go_enter Try.func26, Try.ntmps26
  go_wp2_with fail
  refine wp_loop_rounds 5 ?_
  rw [rounds_succ]
  go_wp2_with fail
  refine (step_ex 54 5 5 _ (by decide +kernel) (by decide +kernel)).mono ?_
  rintro e w1 ⟨rfl, hb1⟩
  have c1 : w1.cell? ⟨w.heap.size + 1, 1, none⟩ = some (.int .i64 5) := (hb1.cell (p := ⟨w.heap.size + 1, 1, none⟩) (by simp)).trans (by rw [World.cell?_alloc_at _ _ _ _ (by simp)]; rfl)
  have HP1 : PolAt w1 w.heap.size exP := ((ex_at w).below ((Below.refl _ _).alloc (Nat.le_refl _) (.cells #[.int .i64 54, .int .i64 5] 56)) (by simp)).below hb1 (by simp; omega)
  have hs1 : w.heap.size + 2 ≤ w1.heap.size := by have := hb1.size; simpa using this
  have hB1 : Below w.heap.size w w1 := (((Below.refl _ _).alloc (Nat.le_refl _) _).alloc (by simp) _).trans (hb1.mono (by simp; omega))
  clear hb1
  obtain ⟨g0, g1, g2, g3, g4, g5, g6⟩ : PolAt (w1.alloc (.cells #[.int .i64 56, .int .i64 6] 56)) w.heap.size exP := HP1.below ((Below.refl _ _).alloc (Nat.le_refl _) _) (by omega)
  simp only [exP] at g0 g1 g2 g3 g4 g5 g6
  go_wp2_with fail
  rw [rounds_succ]
  go_wp2_with fail
  clear g0 g1 g2 g3 g4 g5 g6 c1
  refine (step_ex 56 5 6 _ (by decide +kernel) (by decide +kernel)).mono ?_
  rintro e w2 ⟨rfl, hb2⟩
  have c2 : w2.cell? ⟨w1.heap.size, 1, none⟩ = some (.int .i64 6) := (hb2.cell (p := ⟨w1.heap.size, 1, none⟩) (by simp)).trans (by rw [World.cell?_alloc_at _ _ _ _ rfl]; rfl)
  have HP2 : PolAt w2 w.heap.size exP := (HP1.below ((Below.refl _ _).alloc (Nat.le_refl _) _) (by omega)).below hb2 (by simp; omega)
  have hs2 : w1.heap.size + 1 ≤ w2.heap.size := by have := hb2.size; simpa using this
  have hB2 : Below w.heap.size w w2 := (hB1.alloc (by omega) _).trans (hb2.mono (by simp; omega))
  clear hb2
  obtain ⟨g0, g1, g2, g3, g4, g5, g6⟩ : PolAt (w2.alloc (.cells #[.int .i64 99, .int .i64 7] 56)) w.heap.size exP := HP2.below ((Below.refl _ _).alloc (Nat.le_refl _) _) (by omega)
  simp only [exP] at g0 g1 g2 g3 g4 g5 g6
  go_wp2_with fail
  rw [rounds_succ]
  go_wp2_with fail
  clear g0 g1 g2 g3 g4 g5 g6 c2
  refine (step_ex 99 5 7 _ (by decide +kernel) (by decide +kernel)).mono ?_
  rintro e w3 ⟨rfl, hb3⟩
  have c3 : w3.cell? ⟨w2.heap.size, 1, none⟩ = some (.int .i64 7) := (hb3.cell (p := ⟨w2.heap.size, 1, none⟩) (by simp)).trans (by rw [World.cell?_alloc_at _ _ _ _ rfl]; rfl)
  have HP3 : PolAt w3 w.heap.size exP := (HP2.below ((Below.refl _ _).alloc (Nat.le_refl _) _) (by omega)).below hb3 (by simp; omega)
  have hs3 : w2.heap.size + 1 ≤ w3.heap.size := by have := hb3.size; simpa using this
  have hB3 : Below w.heap.size w w3 := (hB2.alloc (by omega) _).trans (hb3.mono (by simp; omega))
  clear hb3
  obtain ⟨g0, g1, g2, g3, g4, g5, g6⟩ : PolAt (w3.alloc (.cells #[.int .i64 0, .int .i64 4] 56)) w.heap.size exP := HP3.below ((Below.refl _ _).alloc (Nat.le_refl _) _) (by omega)
  simp only [exP] at g0 g1 g2 g3 g4 g5 g6
  go_wp2_with fail
  rw [rounds_succ]
  go_wp2_with fail
  clear g0 g1 g2 g3 g4 g5 g6 c3
  refine (step_ex 0 5 4 _ (by decide +kernel) (by decide +kernel)).mono ?_
  rintro e w4 ⟨rfl, hb4⟩
  have c4 : w4.cell? ⟨w3.heap.size, 1, none⟩ = some (.int .i64 4) := (hb4.cell (p := ⟨w3.heap.size, 1, none⟩) (by simp)).trans (by rw [World.cell?_alloc_at _ _ _ _ rfl]; rfl)
  have HP4 : PolAt w4 w.heap.size exP := (HP3.below ((Below.refl _ _).alloc (Nat.le_refl _) _) (by omega)).below hb4 (by simp; omega)
  have hs4 : w3.heap.size + 1 ≤ w4.heap.size := by have := hb4.size; simpa using this
  have hB4 : Below w.heap.size w w4 := (hB3.alloc (by omega) _).trans (hb4.mono (by simp; omega))
  clear hb4
  obtain ⟨g0, g1, g2, g3, g4, g5, g6⟩ : PolAt w4 w.heap.size exP := id HP4
  simp only [exP] at g0 g1 g2 g3 g4 g5 g6
  go_wp2_with fail
  rw [rounds_succ]
  go_wp2_with fail
  clear g0 g1 g2 g3 g4 g5 g6 c4 i0 i1 i2 i3
  refine (steps_ex 99 5 2 9 _ (by decide +kernel) (by decide +kernel) (by decide +kernel)).mono ?_
  rintro e w5 ⟨rfl, hb5⟩
  have HP5 := HP4.below hb5 (by omega)
  have hs5 := hb5.size
  have hB5 := hB4.trans (hb5.mono (by omega))
  clear hb5 hB1 hB2 hB3 hB4 HP1 HP2 HP3 HP4
  obtain ⟨g0, g1, g2, g3, g4, g5, g6⟩ := HP5
  simp only [exP] at g0 g1 g2 g3 g4 g5 g6
  go_wp2_with fail
  refine (step_ex_no 1 (-1) _ (by decide +kernel)).mono ?_
  rintro e w6 ⟨rfl, hb6⟩
  have hs6 := hb6.size
  have hB6 := hB5.trans (hb6.mono (by omega))
  clear hb6 hB5 g0 g1 g2 g3 g4 g5 g6
  go_wp2_with fail
  refine (stable_ex w6).mono ?_
  rintro e w7 ⟨rfl, hb7⟩
  have hB7 := (hB6.alloc (by omega) _).trans (hb7.mono (by simp; omega))
  go_wp2
  go_ret
  exact ⟨rfl, hB7⟩
end Go.Proofs.Ytldgnkceecgacaa
