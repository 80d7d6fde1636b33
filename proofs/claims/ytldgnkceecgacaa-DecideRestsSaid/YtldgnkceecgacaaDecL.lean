/- The walk of DecideRests. -/
import Derived.Test.YtldgnkceecgacaaDecJ
namespace Go.Proofs.Ytldgnkceecgacaa
open Go.RowKit Go.ChangeShapes Go.WideShapes
set_option linter.unusedVariables false

theorem okB_itx {p : Pl.Pol} {load now : Int} (h : Pl.okB p now = true) (k : Nat) : Pl.okB p (Pl.itx p load now k) = true := by
  induction k with
  | zero => exact h
  | succ k ih => exact okB_step ih
theorem stepQ_itx {p : Pl.Pol} {load now : Int} (h : Pl.okB p now = true) (k : Nat) : Pl.stepQ p load (Pl.itx p load now k) = Pl.itx p load now (k + 1) := stepQ_ok (okB_itx h k)
theorem stepE_itx {p : Pl.Pol} {load now : Int} (h : Pl.okB p now = true) (k : Nat) : Pl.stepE p (Pl.itx p load now k) = 0 := stepE_ok (okB_itx h k)

theorem drests_no (p : Pl.Pol) (load now : Int) (w : World) (hk : Pl.okB p now = false) :
    Calls Try.prog 12 #[polV p, .int .i64 load, .int .i64 now] w fun e w' => e = .returned (.bool true) ∧ Below w.heap.size w w' := by
  have hb0 := polBox_below w p
  have HP := PolAt.box w p
  have HK := Lib.hid hk
  clear hk
  go_enter Try.func12, Try.ntmps12
  go_wp2_with fail
  refine (alive11_any _).mono ?_
  rintro e w1 ⟨rfl, hb1⟩
  have HP1 := HP.below hb1 (by simp)
  have hs1 := hb1.size
  simp at hs1
  replace hb1 := hb0.trans (hb1.mono (by simp))
  clear hb0 HP
  obtain ⟨f0, f1, f2, f3, f4, f5, f6⟩ := HP1
  go_wp2_with fail
  refine (steps_no p load now _ HK.out).mono ?_
  rintro e w2 ⟨rfl, hb2⟩
  replace hb2 := hb1.trans (hb2.mono (by omega))
  clear f0 f1 f2 f3 f4 f5 f6
  go_wp2
  go_ret
  exact ⟨rfl, hb2⟩

set_option maxHeartbeats 2000000 in
theorem drests_up (p : Pl.Pol) (load now : Int) (w : World) (hk : Pl.okB p now = true) (hdir : now ≤ Pl.askF p (Pl.cut load)) :
    Calls Try.prog 12 #[polV p, .int .i64 load, .int .i64 now] w fun e w' => e = .returned (.bool true) ∧ Below w.heap.size w w' := by
  have hb0 := polBox_below w p
  have HP := PolAt.box w p
  obtain ⟨hR, hn0, hn1⟩ := okB_bd hk
  obtain ⟨N, hN, hrun, hne, hrest⟩ := Pl.rests hR load hn0 hn1
  have HN : Hid (Pl.stepsN p load now = (N : Int)) := by rw [Hid, stepsN_ok hk, hrun]
  have HE : Hid (Pl.stepsEnd p load now = Pl.itx p load now N) := by rw [Hid, stepsEnd_ok hk, hrun]
  have HK := Lib.hid hk
  have HD := Lib.hid hdir
  have HNE := Lib.hid hne
  have HRE := Lib.hid hrest
  have HR := Lib.hid hR
  have H0 := Lib.hid hn0
  have H1 := Lib.hid hn1
  clear hk hdir hne hrest hR hrun hn0 hn1
  go_enter Try.func12, Try.ntmps12
  go_wp2_with fail
  refine (alive11_any _).mono ?_
  rintro e w1 ⟨rfl, hb1⟩
  have HP1 := HP.below hb1 (by simp)
  have hs1 := hb1.size
  simp at hs1
  replace hb1 := hb0.trans (hb1.mono (by simp))
  clear hb0 HP
  have HP1' := HP1
  obtain ⟨f0, f1, f2, f3, f4, f5, f6⟩ := HP1
  go_wp2_with fail
  refine (steps_ok p load now _ HK.out).mono ?_
  rintro e w2 ⟨rfl, hb2⟩
  have HP2 := HP1'.below hb2 (by omega)
  have hs2 : w.heap.size < w2.heap.size := by have := hb2.size; omega
  replace hb2 := hb1.trans (hb2.mono (by omega))
  clear f0 f1 f2 f3 f4 f5 f6 HP1' hb1
  rw [HN.out, HE.out]
  go_wp2_with fail
  go_loopw [10, 11, 38] (fun at_ way i wr => ∃ (k : Nat) (W : Int), k ≤ N ∧ i = .int .i64 k ∧ at_ = .int .i64 (Pl.itx p load now k) ∧ way = .int .i64 W ∧ (0 ≤ W ∧ W ≤ 1000) ∧ PolAt wr w.heap.size p ∧ Below w.heap.size w wr ∧ w.heap.size < wr.heap.size) (fun _ _ i _ => N - (intOf i).toNat)
  case atStart => exact ⟨0, 0, Nat.zero_le _, rfl, rfl, rfl, by decide, HP2, hb2, hs2⟩
  case round =>
    obtain ⟨k, W, hk, rfl, rfl, rfl, hW, HPr, hbr, hsr⟩ := hrel
    have hW1 := hW.1
    have hW2 := hW.2
    clear hW HP2 hb2 hs2
    have HP' := HPr
    obtain ⟨f0, f1, f2, f3, f4, f5, f6⟩ := HPr
    by_cases hlt : k < N
    · have HQ := Lib.hid (stepQ_itx (load := load) HK.out k)
      have HEk := Lib.hid (stepE_itx (load := load) HK.out k)
      have hy := Pl.itx_range HR.out load H0.out H1.out k
      have hz := Pl.itx_range HR.out load H0.out H1.out (k + 1)
      have hnek := HNE.out k hlt
      have hdk : Pl.itx p load now k ≤ Pl.itx p load now (k + 1) := (Pl.itx_up HR.out load HD.out k).2
      have hzy : Pl.itx p load now (k + 1) ≠ Pl.itx p load now k := hnek
      have hstr : Pl.itx p load now k < Pl.itx p load now (k + 1) := by omega
      have t1 : (Pl.itx p load now (k + 1) == Pl.itx p load now k) = false := by simpa using hzy
      clear hnek hdk hzy
      go_wp2_with fail
      refine (step_any p load _ _).mono ?_
      rintro e w3 ⟨rfl, hb3⟩
      rw [HQ.out, HEk.out]
      have HP3 := HP'.below hb3 hsr
      have hs3 : w.heap.size < w3.heap.size := Nat.lt_of_lt_of_le hsr hb3.size
      replace hb3 := hbr.trans (hb3.mono hbr.size)
      clear f0 f1 f2 f3 f4 f5 f6 HP' hbr hsr
      generalize hzz : Pl.itx p load now (k + 1) = z at *
      generalize Pl.itx p load now k = y at *
      have HZ := Lib.hid hzz
      clear hzz
      go_wp2
      all_goals
        go_roundw
        case rel => exact ⟨k + 1, z - y, by omega, by go_num, by rw [HZ.out], by first | rfl | go_num, by omega, HP3, hb3, hs3⟩
        case measure => simp [intOf]; omega
    · obtain rfl : k = N := by omega
      have HQ : Hid (Pl.stepQ p load (Pl.itx p load now k) = Pl.itx p load now k) := (stepQ_ok (okB_itx HK.out k)).trans HRE.out
      have HEk := Lib.hid (stepE_itx (load := load) HK.out k)
      go_wp2_with fail
      refine (step_any p load _ _).mono ?_
      rintro e w3 ⟨rfl, hb3⟩
      rw [HQ.out, HEk.out]
      replace hb3 := hbr.trans (hb3.mono hbr.size)
      clear f0 f1 f2 f3 f4 f5 f6 HP' hbr hsr
      generalize Pl.itx p load now k = y at *
      go_wp2
      go_ret
      exact ⟨rfl, hb3⟩

set_option maxHeartbeats 2000000 in
theorem drests_down (p : Pl.Pol) (load now : Int) (w : World) (hk : Pl.okB p now = true) (hdir : Pl.askF p (Pl.cut load) ≤ now) :
    Calls Try.prog 12 #[polV p, .int .i64 load, .int .i64 now] w fun e w' => e = .returned (.bool true) ∧ Below w.heap.size w w' := by
  have hb0 := polBox_below w p
  have HP := PolAt.box w p
  obtain ⟨hR, hn0, hn1⟩ := okB_bd hk
  obtain ⟨N, hN, hrun, hne, hrest⟩ := Pl.rests hR load hn0 hn1
  have HN : Hid (Pl.stepsN p load now = (N : Int)) := by rw [Hid, stepsN_ok hk, hrun]
  have HE : Hid (Pl.stepsEnd p load now = Pl.itx p load now N) := by rw [Hid, stepsEnd_ok hk, hrun]
  have HK := Lib.hid hk
  have HD := Lib.hid hdir
  have HNE := Lib.hid hne
  have HRE := Lib.hid hrest
  have HR := Lib.hid hR
  have H0 := Lib.hid hn0
  have H1 := Lib.hid hn1
  clear hk hdir hne hrest hR hrun hn0 hn1
  go_enter Try.func12, Try.ntmps12
  go_wp2_with fail
  refine (alive11_any _).mono ?_
  rintro e w1 ⟨rfl, hb1⟩
  have HP1 := HP.below hb1 (by simp)
  have hs1 := hb1.size
  simp at hs1
  replace hb1 := hb0.trans (hb1.mono (by simp))
  clear hb0 HP
  have HP1' := HP1
  obtain ⟨f0, f1, f2, f3, f4, f5, f6⟩ := HP1
  go_wp2_with fail
  refine (steps_ok p load now _ HK.out).mono ?_
  rintro e w2 ⟨rfl, hb2⟩
  have HP2 := HP1'.below hb2 (by omega)
  have hs2 : w.heap.size < w2.heap.size := by have := hb2.size; omega
  replace hb2 := hb1.trans (hb2.mono (by omega))
  clear f0 f1 f2 f3 f4 f5 f6 HP1' hb1
  rw [HN.out, HE.out]
  go_wp2_with fail
  go_loopw [10, 11, 38] (fun at_ way i wr => ∃ (k : Nat) (W : Int), k ≤ N ∧ i = .int .i64 k ∧ at_ = .int .i64 (Pl.itx p load now k) ∧ way = .int .i64 W ∧ (-1000 ≤ W ∧ W ≤ 0) ∧ PolAt wr w.heap.size p ∧ Below w.heap.size w wr ∧ w.heap.size < wr.heap.size) (fun _ _ i _ => N - (intOf i).toNat)
  case atStart => exact ⟨0, 0, Nat.zero_le _, rfl, rfl, rfl, by decide, HP2, hb2, hs2⟩
  case round =>
    obtain ⟨k, W, hk, rfl, rfl, rfl, hW, HPr, hbr, hsr⟩ := hrel
    have hW1 := hW.1
    have hW2 := hW.2
    clear hW HP2 hb2 hs2
    have HP' := HPr
    obtain ⟨f0, f1, f2, f3, f4, f5, f6⟩ := HPr
    by_cases hlt : k < N
    · have HQ := Lib.hid (stepQ_itx (load := load) HK.out k)
      have HEk := Lib.hid (stepE_itx (load := load) HK.out k)
      have hy := Pl.itx_range HR.out load H0.out H1.out k
      have hz := Pl.itx_range HR.out load H0.out H1.out (k + 1)
      have hnek := HNE.out k hlt
      have hdk : Pl.itx p load now (k + 1) ≤ Pl.itx p load now k := (Pl.itx_down HR.out load HD.out k).2
      have hzy : Pl.itx p load now (k + 1) ≠ Pl.itx p load now k := hnek
      have hstr : Pl.itx p load now (k + 1) < Pl.itx p load now k := by omega
      have t1 : (Pl.itx p load now (k + 1) == Pl.itx p load now k) = false := by simpa using hzy
      clear hnek hdk hzy
      go_wp2_with fail
      refine (step_any p load _ _).mono ?_
      rintro e w3 ⟨rfl, hb3⟩
      rw [HQ.out, HEk.out]
      have HP3 := HP'.below hb3 hsr
      have hs3 : w.heap.size < w3.heap.size := Nat.lt_of_lt_of_le hsr hb3.size
      replace hb3 := hbr.trans (hb3.mono hbr.size)
      clear f0 f1 f2 f3 f4 f5 f6 HP' hbr hsr
      generalize hzz : Pl.itx p load now (k + 1) = z at *
      generalize Pl.itx p load now k = y at *
      have HZ := Lib.hid hzz
      clear hzz
      go_wp2
      all_goals
        go_roundw
        case rel => exact ⟨k + 1, z - y, by omega, by go_num, by rw [HZ.out], by first | rfl | go_num, by omega, HP3, hb3, hs3⟩
        case measure => simp [intOf]; omega
    · obtain rfl : k = N := by omega
      have HQ : Hid (Pl.stepQ p load (Pl.itx p load now k) = Pl.itx p load now k) := (stepQ_ok (okB_itx HK.out k)).trans HRE.out
      have HEk := Lib.hid (stepE_itx (load := load) HK.out k)
      go_wp2_with fail
      refine (step_any p load _ _).mono ?_
      rintro e w3 ⟨rfl, hb3⟩
      rw [HQ.out, HEk.out]
      replace hb3 := hbr.trans (hb3.mono hbr.size)
      clear f0 f1 f2 f3 f4 f5 f6 HP' hbr hsr
      generalize Pl.itx p load now k = y at *
      go_wp2
      go_ret
      exact ⟨rfl, hb3⟩

theorem drests_walk (v : Value) (load now : Int) (w : World) (hv : IsPol v) (wl : (Lit.int .i64 load).wf = true) (wn : (Lit.int .i64 now).wf = true) :
    Calls Try.prog 12 #[v, .int .i64 load, .int .i64 now] w fun e w' => e = .returned (.bool true) ∧ Below w.heap.size w w' := by
  obtain ⟨p, rfl⟩ := hv
  cases hk : Pl.okB p now
  · exact drests_no p load now w hk
  · rcases Int.le_total now (Pl.askF p (Pl.cut load)) with h | h
    · exact drests_up p load now w hk h
    · exact drests_down p load now w hk h
end Go.Proofs.Ytldgnkceecgacaa
