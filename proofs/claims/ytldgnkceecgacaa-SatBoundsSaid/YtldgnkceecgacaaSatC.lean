/- The walks of the five laws of the layer sat: each returns true at every input. -/
import Derived.Test.YtldgnkceecgacaaSatB
import Derived.Test.YtldgnkceecgacaaPlainB
namespace Go.Proofs.Ytldgnkceecgacaa
open Go.RowKit
set_option linter.unusedVariables false

theorem wf64 {n : Int} (h : (Lit.int .i64 n).wf = true) : -9223372036854775808 ≤ n ∧ n ≤ 9223372036854775807 := by
  simpa [Lit.wf, IntKind.min, IntKind.max, IntKind.signed, IntKind.bits] using h

set_option maxRecDepth 100000 in
theorem alive1_any (w : World) : Calls Try.prog 13 #[] w fun e w' => e = .returned (.bool true) ∧ Below w.heap.size w w' := by
  have Q1 : Hid (Pl.ceilQ 7 2 = 4) := by unfold Hid; decide +kernel
  have Q2 : Hid (Pl.ceilQ (-7) 2 = -3) := by unfold Hid; decide +kernel
  have E1 : Hid (Pl.ceilE 2 = 0) := by unfold Hid; decide +kernel
  have A1 : Hid (Pl.add 1099511627776 1 = 1099511627776) := by unfold Hid; decide +kernel
  have M1 : Hid (Pl.mul 1073741824 (-1073741824) = -1099511627776) := by unfold Hid; decide +kernel
  go_enter Try.func13, Try.ntmps13
  go_wp2_with fail
  refine (ceil_any _ _ _).mono ?_
  rintro e w' ⟨rfl, rfl⟩
  rw [Q1.out, E1.out]
  go_wp2_with fail
  refine (ceil_any _ _ _).mono ?_
  rintro e w' ⟨rfl, rfl⟩
  rw [Q2.out, E1.out]
  go_wp2_with fail
  refine (add_any _ _ _).mono ?_
  rintro e w1 ⟨rfl, hb⟩
  rw [A1.out]
  go_wp2_with fail
  refine (mul_any _ _ _).mono ?_
  rintro e w2 ⟨rfl, hb2⟩
  rw [M1.out]
  go_wp2
  go_ret
  exact ⟨rfl, hb.trans (hb2.mono hb.size)⟩

theorem divides_walk (a b : Int) (w : World) (wa : (Lit.int .i64 a).wf = true) (wb : (Lit.int .i64 b).wf = true) :
    Calls Try.prog 3 #[.int .i64 a, .int .i64 b] w fun e w' => e = .returned (.bool true) ∧ Below w.heap.size w w' := by
  by_cases h : 0 < b
  · have h1 := Pl.divides (a := a) h
    have e1 : (Pl.ceilE b == 0) = true := by rw [Pl.ceilE_pos (Pl.clamp_pos h)]; rfl
    have h2 := Pl.clamp_bd a
    have h3 := Pl.clamp_bd b
    have h4 := h1.1
    have h5 := h1.2
    clear h1 wa wb
    go_enter Try.func3, Try.ntmps3
    go_wp2_with fail
    refine (alive1_any w).mono ?_
    rintro e w1 ⟨rfl, hb⟩
    go_wp2_with (first | (go_at_call 14; refine (ceil_any _ _ _).mono ?_; rintro e w' ⟨rfl, rfl⟩) | (go_at_call 15; refine (clamp_any _ _).mono ?_; rintro e w' ⟨rfl, rfl⟩))
    go_ret
    exact ⟨rfl, hb⟩
  · have h0 : b ≤ 0 := by omega
    have e1 : (Pl.ceilE b == 2) = true := by rw [Pl.ceilE_neg (Pl.clamp_nonpos h0)]; rfl
    have e2 : (Pl.ceilQ a b == 0) = true := by rw [Pl.ceilQ_neg (Pl.clamp_nonpos h0)]; rfl
    clear h wa wb
    go_enter Try.func3, Try.ntmps3
    go_wp2_with fail
    refine (alive1_any w).mono ?_
    rintro e w1 ⟨rfl, hb⟩
    go_wp2_with (first | (go_at_call 14; refine (ceil_any _ _ _).mono ?_; rintro e w' ⟨rfl, rfl⟩) | (go_at_call 15; refine (clamp_any _ _).mono ?_; rintro e w' ⟨rfl, rfl⟩))
    go_ret
    exact ⟨rfl, hb⟩

theorem within_walk (n lo hi : Int) (w : World) (wn : (Lit.int .i64 n).wf = true) (wlo : (Lit.int .i64 lo).wf = true) (whi : (Lit.int .i64 hi).wf = true) :
    Calls Try.prog 4 #[.int .i64 n, .int .i64 lo, .int .i64 hi] w fun e w' => e = .returned (.bool true) ∧ Below w.heap.size w w' := by
  clear wn wlo whi
  by_cases h : hi < lo
  · by_cases h1 : Pl.within n lo hi = hi
    · have t1 : (Pl.within n lo hi == hi) = true := by simpa using h1
      clear h1
      go_enter Try.func4, Try.ntmps4
      go_wp2_with fail
      refine (alive1_any w).mono ?_
      rintro e w1 ⟨rfl, hb⟩
      go_wp2_with (go_at_call 16; refine (within_any _ _ _ _).mono ?_; rintro e w' ⟨rfl, rfl⟩)
      go_ret
      exact ⟨rfl, hb⟩
    · have t1 : (Pl.within n lo hi == hi) = false := by simpa using h1
      have t2 : (Pl.within n lo hi == lo) = true := by simpa using Pl.within_out h h1
      clear h1
      go_enter Try.func4, Try.ntmps4
      go_wp2_with fail
      refine (alive1_any w).mono ?_
      rintro e w1 ⟨rfl, hb⟩
      go_wp2_with (go_at_call 16; refine (within_any _ _ _ _).mono ?_; rintro e w' ⟨rfl, rfl⟩)
      go_ret
      exact ⟨rfl, hb⟩
  · have h0 : lo ≤ hi := by omega
    obtain ⟨b1, b2⟩ := Pl.within_bd (n := n) h0
    have t3 : (Pl.within (Pl.within n lo hi) lo hi == Pl.within n lo hi) = true := by simpa using Pl.within_id b1 b2
    by_cases h1 : n < lo
    · clear h
      go_enter Try.func4, Try.ntmps4
      go_wp2_with fail
      refine (alive1_any w).mono ?_
      rintro e w1 ⟨rfl, hb⟩
      go_wp2_with (go_at_call 16; refine (within_any _ _ _ _).mono ?_; rintro e w' ⟨rfl, rfl⟩)
      go_ret
      exact ⟨rfl, hb⟩
    by_cases h2 : hi < n
    · clear h
      go_enter Try.func4, Try.ntmps4
      go_wp2_with fail
      refine (alive1_any w).mono ?_
      rintro e w1 ⟨rfl, hb⟩
      go_wp2_with (go_at_call 16; refine (within_any _ _ _ _).mono ?_; rintro e w' ⟨rfl, rfl⟩)
      go_ret
      exact ⟨rfl, hb⟩
    · have t4 : (Pl.within n lo hi == n) = true := by simpa using Pl.within_id (by omega) (by omega)
      clear h
      go_enter Try.func4, Try.ntmps4
      go_wp2_with fail
      refine (alive1_any w).mono ?_
      rintro e w1 ⟨rfl, hb⟩
      go_wp2_with (go_at_call 16; refine (within_any _ _ _ _).mono ?_; rintro e w' ⟨rfl, rfl⟩)
      go_ret
      exact ⟨rfl, hb⟩
end Go.Proofs.Ytldgnkceecgacaa
