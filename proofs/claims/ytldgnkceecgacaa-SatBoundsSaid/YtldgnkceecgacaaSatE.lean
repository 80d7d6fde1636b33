/- The walk of SatBounds. -/
import Derived.Test.YtldgnkceecgacaaSatC
namespace Go.Proofs.Ytldgnkceecgacaa
open Go.RowKit
set_option linter.unusedVariables false

set_option maxHeartbeats 1000000 in
theorem bounds_walk (a b c : Int) (w : World) (wa : (Lit.int .i64 a).wf = true) (wb : (Lit.int .i64 b).wf = true) (wc : (Lit.int .i64 c).wf = true) :
    Calls Try.prog 7 #[.int .i64 a, .int .i64 b, .int .i64 c] w fun e w' => e = .returned (.bool true) ∧ Below w.heap.size w w' := by
  clear wa wb wc
  have b1 := Pl.add_bd a b
  have b2 := Pl.sub_bd a b
  have b3 := Pl.mul_bd a b
  have b4 := Pl.clamp_bd a
  have b5 := Pl.sub_bd b a
  have t1 : (Pl.add a b != Pl.add b a) = false := by rw [Pl.add_comm]; simp
  have t2 : (Pl.mul a b != Pl.mul b a) = false := by rw [Pl.mul_comm]; simp
  have t3 : (Pl.sub a b != -Pl.sub b a) = false := by rw [Pl.sub_neg]; simp
  have i0 : ∀ (x0 x1 x2 x3 : Value) w, (Instr.index 33 (.agg #[x0, x1, x2, x3]) (.int .i64 0)).run Try.prog w = .ok x0 w := fun _ _ _ _ _ => by kernel_rfl
  have i1 : ∀ (x0 x1 x2 x3 : Value) w, (Instr.index 33 (.agg #[x0, x1, x2, x3]) (.int .i64 1)).run Try.prog w = .ok x1 w := fun _ _ _ _ _ => by kernel_rfl
  have i2 : ∀ (x0 x1 x2 x3 : Value) w, (Instr.index 33 (.agg #[x0, x1, x2, x3]) (.int .i64 2)).run Try.prog w = .ok x2 w := fun _ _ _ _ _ => by kernel_rfl
  have i3 : ∀ (x0 x1 x2 x3 : Value) w, (Instr.index 33 (.agg #[x0, x1, x2, x3]) (.int .i64 3)).run Try.prog w = .ok x3 w := fun _ _ _ _ _ => by kernel_rfl
  go_enter Try.func7, Try.ntmps7
  go_wp2_with fail
  refine (alive1_any w).mono ?_
  rintro e w1 ⟨rfl, hb⟩
  go_wp2_with fail
  refine (add_any _ _ _).mono ?_
  rintro e w2 ⟨rfl, hb2⟩
  replace hb := hb.trans (hb2.mono hb.size)
  go_wp2_with fail
  refine (sub_any _ _ _).mono ?_
  rintro e w3 ⟨rfl, hb3⟩
  replace hb := hb.trans (hb3.mono hb.size)
  go_wp2_with fail
  refine (mul_any _ _ _).mono ?_
  rintro e w4 ⟨rfl, hb4⟩
  replace hb := hb.trans (hb4.mono hb.size)
  go_wp2_with fail
  refine (clamp_any _ _).mono ?_
  rintro e w' ⟨rfl, rfl⟩
  clear hb2 hb3 hb4
  go_wp2_with fail
  refine wp_loop_rounds 5 ?_
  rw [rounds_succ]
  go_wp2_with fail
  rw [rounds_succ]
  go_wp2_with fail
  rw [rounds_succ]
  go_wp2_with fail
  rw [rounds_succ]
  go_wp2_with fail
  rw [rounds_succ]
  clear i0 i1 i2 i3 b1 b2 b3 b4
  by_cases hbc : b ≤ c
  · have m1 := Pl.add_mono (a := a) hbc
    have m2 := Pl.sub_anti (a := a) hbc
    by_cases ha : 0 ≤ a
    · have m3 := Pl.mul_mono ha hbc
      go_wp2_with (first | (go_at_call 17; refine (add_any _ _ _).mono ?_; rintro e w2 ⟨rfl, hb2⟩; replace hb := hb.trans (hb2.mono hb.size); clear hb2) | (go_at_call 21; refine (sub_any _ _ _).mono ?_; rintro e w2 ⟨rfl, hb2⟩; replace hb := hb.trans (hb2.mono hb.size); clear hb2) | (go_at_call 23; refine (mul_any _ _ _).mono ?_; rintro e w2 ⟨rfl, hb2⟩; replace hb := hb.trans (hb2.mono hb.size); clear hb2))
      go_ret
      exact ⟨rfl, by assumption⟩
    · go_wp2_with (first | (go_at_call 17; refine (add_any _ _ _).mono ?_; rintro e w2 ⟨rfl, hb2⟩; replace hb := hb.trans (hb2.mono hb.size); clear hb2) | (go_at_call 21; refine (sub_any _ _ _).mono ?_; rintro e w2 ⟨rfl, hb2⟩; replace hb := hb.trans (hb2.mono hb.size); clear hb2) | (go_at_call 23; refine (mul_any _ _ _).mono ?_; rintro e w2 ⟨rfl, hb2⟩; replace hb := hb.trans (hb2.mono hb.size); clear hb2))
      go_ret
      exact ⟨rfl, by assumption⟩
  · go_wp2_with (first | (go_at_call 17; refine (add_any _ _ _).mono ?_; rintro e w2 ⟨rfl, hb2⟩; replace hb := hb.trans (hb2.mono hb.size); clear hb2) | (go_at_call 21; refine (sub_any _ _ _).mono ?_; rintro e w2 ⟨rfl, hb2⟩; replace hb := hb.trans (hb2.mono hb.size); clear hb2) | (go_at_call 23; refine (mul_any _ _ _).mono ?_; rintro e w2 ⟨rfl, hb2⟩; replace hb := hb.trans (hb2.mono hb.size); clear hb2))
    go_ret
    exact ⟨rfl, by assumption⟩
end Go.Proofs.Ytldgnkceecgacaa
