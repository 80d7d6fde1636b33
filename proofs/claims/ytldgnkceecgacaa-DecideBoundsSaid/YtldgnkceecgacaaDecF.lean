/- The walks of Steps, of the program and of the reference. -/
import Derived.Test.YtldgnkceecgacaaDecE
namespace Go.Proofs.Ytldgnkceecgacaa
open Go.RowKit
set_option linter.unusedVariables false

theorem ret_three {a b c a' b' c' : Int} (h : a = a') (h' : b = b') (h'' : c = c') : Ending.returned (.tuple #[.int .i64 a, .int .i64 b, .int .i64 c]) = .returned (.tuple #[.int .i64 a', .int .i64 b', .int .i64 c']) := by rw [h, h', h'']
theorem okB_step {p : Pl.Pol} {load x : Int} (h : Pl.okB p x = true) : Pl.okB p (Pl.stepF p load x) = true := by
  unfold Pl.okB at h ⊢
  simp only [Bool.and_eq_true] at h ⊢
  have r := (Pl.inB_iff _ _ _).1 h.2
  exact ⟨h.1, (Pl.inB_iff _ _ _).2 (Pl.step_range ((Pl.rightB_iff p).1 h.1) load r.1 r.2)⟩
theorem stepsN_ok {p : Pl.Pol} {load now : Int} (h : Pl.okB p now = true) : Pl.stepsN p load now = ((Pl.run p load 1001 0 now).1 : Int) := by unfold Pl.stepsN; rw [if_pos h]
theorem stepsEnd_ok {p : Pl.Pol} {load now : Int} (h : Pl.okB p now = true) : Pl.stepsEnd p load now = (Pl.run p load 1001 0 now).2 := by unfold Pl.stepsEnd; rw [if_pos h]
theorem run_rest {p : Pl.Pol} {load : Int} {f k : Nat} {x : Int} (h : Pl.stepF p load x = x) : Pl.run p load f k x = (k, x) := by
  cases f with
  | zero => rfl
  | succ f => simp only [Pl.run]; rw [if_pos h]
theorem run_on {p : Pl.Pol} {load : Int} {f k : Nat} {x : Int} (h : ¬ Pl.stepF p load x = x) : Pl.run p load (f + 1) k x = Pl.run p load f (k + 1) (Pl.stepF p load x) := by
  simp only [Pl.run]; rw [if_neg h]

theorem steps_no (p : Pl.Pol) (load now : Int) (w : World) (h : Pl.okB p now = false) : Calls Try.prog 29 #[polV p, .int .i64 load, .int .i64 now] w fun e w' => e = .returned (.tuple #[.int .i64 0, .int .i64 0, .int .i64 2]) ∧ Below w.heap.size w w' := by
  have hb0 := polBox_below w p
  have HP := PolAt.box w p
  go_enter Try.func29, Try.ntmps29
  go_wp2_with fail
  refine wp_loop_rounds 1 ?_
  rw [rounds_succ]
  go_wp2_with fail
  refine (step_no p load now _ h).mono ?_
  rintro e w1 ⟨rfl, hb1⟩
  go_wp2
  go_ret3
  exact ⟨rfl, hb0.trans (hb1.mono (by simp))⟩

set_option maxHeartbeats 1000000 in
theorem steps_ok (p : Pl.Pol) (load now : Int) (w : World) (h : Pl.okB p now = true) : Calls Try.prog 29 #[polV p, .int .i64 load, .int .i64 now] w fun e w' => e = .returned (.tuple #[.int .i64 (Pl.stepsN p load now), .int .i64 (Pl.stepsEnd p load now), .int .i64 0]) ∧ Below w.heap.size w w' := by
  have hb0 := polBox_below w p
  have HP := PolAt.box w p
  have HN := Lib.hid (stepsN_ok (load := load) h)
  have HE := Lib.hid (stepsEnd_ok (load := load) h)
  have HK := Lib.hid h
  clear h
  go_enter Try.func29, Try.ntmps29
  go_wp2_with fail
  go_loopw [6, 7] (fun n x wr => ∃ (k f : Nat) (y : Int), k + f = 1001 ∧ n = .int .i64 k ∧ x = .int .i64 y ∧ Pl.okB p y = true ∧ Pl.run p load 1001 0 now = Pl.run p load f k y ∧ PolAt wr w.heap.size p ∧ Below w.heap.size w wr ∧ w.heap.size < wr.heap.size) (fun n _ _ => 1002 - (intOf n).toNat)
  case atStart => exact ⟨0, 1001, now, rfl, rfl, rfl, HK.out, rfl, HP, hb0, by simp⟩
  case round =>
    obtain ⟨k, f, y, hkf, rfl, rfl, hok, hrun, hP, hb, hs⟩ := hrel
    have HO := Lib.hid hok
    have HR := Lib.hid hrun
    have HP' := hP
    clear hok hrun HP hb0
    obtain ⟨f0, f1, f2, f3, f4, f5, f6⟩ := hP
    have hk : k ≤ 1001 := by omega
    have HKF := Lib.hid hkf
    clear hkf
    go_wp2_with fail
    refine (step_ok p load y _ HO.out).mono ?_
    rintro e w1 ⟨rfl, hb1⟩
    have hP1 := HP'.below hb1 hs
    have hb1' := hb.trans (hb1.mono hb.size)
    have hs1 : w.heap.size < w1.heap.size := Nat.lt_of_lt_of_le hs hb1.size
    clear f0 f1 f2 f3 f4 f5 f6 HP' hb hb1
    by_cases hy : Pl.stepF p load y = y
    · have hy1 : (Pl.stepF p load y == y) = true := by simpa using hy
      have HY := Lib.hid hy
      clear hy
      go_wp2
      go_ret3
      exact ⟨ret_three (by rw [HN.out, HR.out, run_rest HY.out]) (by rw [HE.out, HR.out, run_rest HY.out]) rfl, hb1'⟩
    · have hy1 : (Pl.stepF p load y == y) = false := by simpa using hy
      have HY := Lib.hid hy
      clear hy
      by_cases hl : k = 1001
      · subst hl
        have hf : f = 0 := by have := HKF.out; omega
        have HF := Lib.hid hf
        clear hf
        go_wp2
        go_ret3
        exact ⟨ret_three (by rw [HN.out, HR.out, HF.out]; rfl) (by rw [HE.out, HR.out, HF.out]; rfl) rfl, hb1'⟩
      · have hl1 : ((k : Int) == 1001) = false := by simp; omega
        have hl2 : k < 1001 := by omega
        clear hl
        go_wp2
        go_roundw
        case rel => exact ⟨k + 1, f - 1, Pl.stepF p load y, by have := HKF.out; omega, by go_num, rfl, okB_step HO.out, by rw [HR.out]; obtain ⟨f', rfl⟩ : ∃ f', f = f' + 1 := ⟨f - 1, by have := HKF.out; omega⟩; exact run_on HY.out, hP1, hb1', hs1⟩
        case measure => simp [intOf]; omega
theorem stepsR_no (p : Pl.Pol) (load now : Int) (w : World) (h : Pl.okB p now = false) : Calls Try.prog 30 #[polV p, .int .i64 load, .int .i64 now] w fun e w' => e = .returned (.tuple #[.int .i64 0, .int .i64 0, .int .i64 2]) ∧ Below w.heap.size w w' := by
  have hb0 := polBox_below w p
  have HP := PolAt.box w p
  go_enter Try.func30, Try.ntmps30
  go_wp2_with fail
  refine wp_loop_rounds 1 ?_
  rw [rounds_succ]
  go_wp2_with fail
  refine (stepR_no p load now _ h).mono ?_
  rintro e w1 ⟨rfl, hb1⟩
  go_wp2
  go_ret3
  exact ⟨rfl, hb0.trans (hb1.mono (by simp))⟩

set_option maxHeartbeats 1000000 in
theorem stepsR_ok (p : Pl.Pol) (load now : Int) (w : World) (h : Pl.okB p now = true) : Calls Try.prog 30 #[polV p, .int .i64 load, .int .i64 now] w fun e w' => e = .returned (.tuple #[.int .i64 (Pl.stepsN p load now), .int .i64 (Pl.stepsEnd p load now), .int .i64 0]) ∧ Below w.heap.size w w' := by
  have hb0 := polBox_below w p
  have HP := PolAt.box w p
  have HN := Lib.hid (stepsN_ok (load := load) h)
  have HE := Lib.hid (stepsEnd_ok (load := load) h)
  have HK := Lib.hid h
  clear h
  go_enter Try.func30, Try.ntmps30
  go_wp2_with fail
  go_loopw [2, 9] (fun x n wr => ∃ (k f : Nat) (y : Int), k + f = 1001 ∧ n = .int .i64 k ∧ x = .int .i64 y ∧ Pl.okB p y = true ∧ Pl.run p load 1001 0 now = Pl.run p load f k y ∧ PolAt wr w.heap.size p ∧ Below w.heap.size w wr ∧ w.heap.size < wr.heap.size) (fun _ n _ => 1002 - (intOf n).toNat)
  case atStart => exact ⟨0, 1001, now, rfl, rfl, rfl, HK.out, rfl, HP, hb0, by simp⟩
  case round =>
    obtain ⟨k, f, y, hkf, rfl, rfl, hok, hrun, hP, hb, hs⟩ := hrel
    have HO := Lib.hid hok
    have HR := Lib.hid hrun
    have HP' := hP
    clear hok hrun HP hb0
    obtain ⟨f0, f1, f2, f3, f4, f5, f6⟩ := hP
    have hk : k ≤ 1001 := by omega
    have HKF := Lib.hid hkf
    clear hkf
    go_wp2_with fail
    refine (stepR_ok p load y _ HO.out).mono ?_
    rintro e w1 ⟨rfl, hb1⟩
    have hP1 := HP'.below hb1 hs
    have hb1' := hb.trans (hb1.mono hb.size)
    have hs1 : w.heap.size < w1.heap.size := Nat.lt_of_lt_of_le hs hb1.size
    clear f0 f1 f2 f3 f4 f5 f6 HP' hb hb1
    by_cases hy : Pl.stepF p load y = y
    · have hy1 : (Pl.stepF p load y == y) = true := by simpa using hy
      have HY := Lib.hid hy
      clear hy
      go_wp2
      go_ret3
      exact ⟨ret_three (by rw [HN.out, HR.out, run_rest HY.out]) (by rw [HE.out, HR.out, run_rest HY.out]) rfl, hb1'⟩
    · have hy1 : (Pl.stepF p load y == y) = false := by simpa using hy
      have HY := Lib.hid hy
      clear hy
      by_cases hl : k = 1001
      · subst hl
        have hf : f = 0 := by have := HKF.out; omega
        have HF := Lib.hid hf
        clear hf
        go_wp2
        go_ret3
        exact ⟨ret_three (by rw [HN.out, HR.out, HF.out]; rfl) (by rw [HE.out, HR.out, HF.out]; rfl) rfl, hb1'⟩
      · have hl1 : ((k : Int) == 1001) = false := by simp; omega
        have hl2 : k < 1001 := by omega
        clear hl
        go_wp2
        go_roundw
        case rel => exact ⟨k + 1, f - 1, Pl.stepF p load y, by have := HKF.out; omega, by go_num, rfl, okB_step HO.out, by rw [HR.out]; obtain ⟨f', rfl⟩ : ∃ f', f = f' + 1 := ⟨f - 1, by have := HKF.out; omega⟩; exact run_on HY.out, hP1, hb1', hs1⟩
        case measure => simp [intOf]; omega
end Go.Proofs.Ytldgnkceecgacaa
