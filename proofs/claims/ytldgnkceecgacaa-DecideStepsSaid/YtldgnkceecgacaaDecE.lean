/- The walk of the reference's Step. -/
import Derived.Test.YtldgnkceecgacaaDecD
namespace Go.Proofs.Ytldgnkceecgacaa
open Go.RowKit
set_option linter.unusedVariables false

theorem stepR_no (p : Pl.Pol) (load now : Int) (w : World) (h : Pl.okB p now = false) : Calls Try.prog 28 #[polV p, .int .i64 load, .int .i64 now] w fun e w' => e = .returned (.tuple #[.int .i64 0, .int .i64 2]) ∧ Below w.heap.size w w' := by
  have hb0 := polBox_below w p
  have HP := PolAt.box w p
  cases hr : Pl.rightB p
  · clear h
    go_enter Try.func28, Try.ntmps28
    go_wp2_with fail
    refine (rightR_any p _).mono ?_
    rintro e w1 ⟨rfl, hb1⟩
    go_wp2
    go_ret2
    exact ⟨rfl, hb0.trans (hb1.mono (by simp))⟩
  · have hi : Pl.inB now 0 1000 = false := by unfold Pl.okB at h; rw [hr] at h; exact h
    have t := (Pl.inB_no _ _ _).1 hi
    clear h hi
    by_cases hn : now < 0
    · clear t
      go_enter Try.func28, Try.ntmps28
      go_wp2_with fail
      refine (rightR_any p _).mono ?_
      rintro e w1 ⟨rfl, hb1⟩
      go_wp2
      go_ret2
      exact ⟨rfl, hb0.trans (hb1.mono (by simp))⟩
    · have hn' : 1000 < now := by omega
      clear t hn
      go_enter Try.func28, Try.ntmps28
      go_wp2_with fail
      refine (rightR_any p _).mono ?_
      rintro e w1 ⟨rfl, hb1⟩
      go_wp2
      go_ret2
      exact ⟨rfl, hb0.trans (hb1.mono (by simp))⟩

set_option maxHeartbeats 2000000 in
theorem stepR_ok (p : Pl.Pol) (load now : Int) (w : World) (h : Pl.okB p now = true) : Calls Try.prog 28 #[polV p, .int .i64 load, .int .i64 now] w fun e w' => e = .returned (.tuple #[.int .i64 (Pl.stepF p load now), .int .i64 0]) ∧ Below w.heap.size w w' := by
  have hb0 := polBox_below w p
  have HP := PolAt.box w p
  have hr : Pl.rightB p = true := by unfold Pl.okB at h; simp at h; exact h.1
  have hi : Pl.inB now 0 1000 = true := by unfold Pl.okB at h; simp at h; exact h.2
  have hR := (Pl.rightB_iff p).1 hr
  have hn := (Pl.inB_iff _ _ _).1 hi
  have hn0 := hn.1
  have hn1 := hn.2
  have hd0 := hR.down0
  have hd1 := hR.down1
  have hu0 := hR.up0
  have hu1 := hR.up1
  have HR := Lib.hid hR
  clear hR hi h hn
  have HW : Hid (Pl.stepF p load now = Pl.within (if Pl.calmB p (Pl.cut load) now = true then Pl.within now p.mn p.mx else Pl.askF p (Pl.cut load)) (now - p.down) (now + p.up)) := rfl
  have HC : Hid (Pl.calmB p (Pl.cut load) now = (decide (0 < now) && decide (Pl.mul 100 (Pl.offF (Pl.cut load) (Pl.mul now p.goal)) ≤ Pl.mul p.slack (Pl.mul now p.goal)))) := rfl
  have HO : Hid (Pl.offF (Pl.cut load) (Pl.mul now p.goal) = if 0 ≤ Pl.sub (Pl.cut load) (Pl.mul now p.goal) then Pl.sub (Pl.cut load) (Pl.mul now p.goal) else -Pl.sub (Pl.cut load) (Pl.mul now p.goal)) := rfl
  have hsb := Pl.sub_bd (Pl.cut load) (Pl.mul now p.goal)
  go_enter Try.func28, Try.ntmps28
  go_wp2_with fail
  refine (rightR_any p _).mono ?_
  rintro e w1 ⟨rfl, hb1⟩
  have HP1 := HP.below hb1 (by simp)
  have hs1 := hb1.size
  simp at hs1
  replace hb1 := hb0.trans (hb1.mono (by simp))
  clear hb0 HP
  go_wp2_with fail
  refine (withinR_any _ _ _ _).mono ?_
  rintro e w' ⟨rfl, rfl⟩
  rw [show Pl.within load 0 1099511627776 = Pl.cut load from rfl]
  generalize Pl.cut load = ld at *
  have HP1' := HP1
  obtain ⟨f0, f1, f2, f3, f4, f5, f6⟩ := HP1
  go_wp2_with fail
  refine (mulR_any _ _ _).mono ?_
  rintro e w' ⟨rfl, rfl⟩
  generalize Pl.mul now p.goal = c at *
  go_wp2_with fail
  refine (subR_any _ _ _).mono ?_
  rintro e w' ⟨rfl, rfl⟩
  generalize Pl.sub ld c = s at *
  by_cases hsg : 0 ≤ s
  · have ho : Pl.offF ld c = s := by rw [HO.out, if_pos hsg]
    obtain rfl : s = Pl.offF ld c := ho.symm
    clear ho HO
    go_wp2_with fail
    refine (askedR_any p ld _ HR.out).mono ?_
    rintro e w2 ⟨rfl, hb2⟩
    have HP2 := HP1'.below hb2 (by omega)
    have hs2 := hb2.size
    replace hb2 := hb1.trans (hb2.mono (by omega))
    clear hb1 HP1' f0 f1 f2 f3 f4 f5 f6
    obtain ⟨f0, f1, f2, f3, f4, f5, f6⟩ := HP2
    generalize Pl.offF ld c = o at *
    generalize Pl.askF p ld = x at *
    by_cases hz : 0 < now
    · have hd : decide (0 < now) = true := by simpa using hz
      by_cases hq : Pl.mul 100 o ≤ Pl.mul p.slack c
      · have HF : Hid (Pl.stepF p load now = Pl.within (Pl.within now p.mn p.mx) (now - p.down) (now + p.up)) := by
          unfold Hid; rw [HW.out, HC.out, if_pos (by simp [hz, hq])]
        go_wp2_with fail
        go_quiet ((go_at_call 24; exact Calls.quiet_of_same ((mulR_any _ _ _).mono fun _ _ h => ⟨h.1, h.2.symm⟩)))
        go_wp2_with (go_at_call 25; refine (withinR_any _ _ _ _).mono ?_; rintro e w' ⟨rfl, rfl⟩)
        go_ret2
        exact ⟨ret_two HF.out.symm rfl, below_drewN hb2 _⟩
      · have HF : Hid (Pl.stepF p load now = Pl.within x (now - p.down) (now + p.up)) := by
          unfold Hid; rw [HW.out, HC.out, if_neg (by simp [hq])]
        have hq' : Pl.mul p.slack c < Pl.mul 100 o := by omega
        clear hq
        go_wp2_with fail
        go_quiet ((go_at_call 24; exact Calls.quiet_of_same ((mulR_any _ _ _).mono fun _ _ h => ⟨h.1, h.2.symm⟩)))
        go_wp2_with (go_at_call 25; refine (withinR_any _ _ _ _).mono ?_; rintro e w' ⟨rfl, rfl⟩)
        go_ret2
        exact ⟨ret_two HF.out.symm rfl, below_drewN hb2 _⟩
    · have hd : decide (0 < now) = false := by simpa using hz
      have HF : Hid (Pl.stepF p load now = Pl.within x (now - p.down) (now + p.up)) := by
        unfold Hid; rw [HW.out, HC.out, if_neg (by simp [hz])]
      clear hz
      go_wp2_with fail
      go_quiet (fail)
      go_wp2_with (go_at_call 25; refine (withinR_any _ _ _ _).mono ?_; rintro e w' ⟨rfl, rfl⟩)
      go_ret2
      exact ⟨ret_two HF.out.symm rfl, below_drewN hb2 _⟩
  · have ho : Pl.offF ld c = -s := by rw [HO.out, if_neg hsg]
    have hsg' : s < 0 := by omega
    have HN := Lib.hid ho
    clear ho HO hsg
    go_wp2_with fail
    rw [← HN.out]
    refine (askedR_any p ld _ HR.out).mono ?_
    rintro e w2 ⟨rfl, hb2⟩
    have HP2 := HP1'.below hb2 (by omega)
    have hs2 := hb2.size
    replace hb2 := hb1.trans (hb2.mono (by omega))
    clear hb1 HP1' f0 f1 f2 f3 f4 f5 f6
    obtain ⟨f0, f1, f2, f3, f4, f5, f6⟩ := HP2
    generalize Pl.offF ld c = o at *
    generalize Pl.askF p ld = x at *
    by_cases hz : 0 < now
    · have hd : decide (0 < now) = true := by simpa using hz
      by_cases hq : Pl.mul 100 o ≤ Pl.mul p.slack c
      · have HF : Hid (Pl.stepF p load now = Pl.within (Pl.within now p.mn p.mx) (now - p.down) (now + p.up)) := by
          unfold Hid; rw [HW.out, HC.out, if_pos (by simp [hz, hq])]
        go_wp2_with fail
        go_quiet ((go_at_call 24; exact Calls.quiet_of_same ((mulR_any _ _ _).mono fun _ _ h => ⟨h.1, h.2.symm⟩)))
        go_wp2_with (go_at_call 25; refine (withinR_any _ _ _ _).mono ?_; rintro e w' ⟨rfl, rfl⟩)
        go_ret2
        exact ⟨ret_two HF.out.symm rfl, below_drewN hb2 _⟩
      · have HF : Hid (Pl.stepF p load now = Pl.within x (now - p.down) (now + p.up)) := by
          unfold Hid; rw [HW.out, HC.out, if_neg (by simp [hq])]
        have hq' : Pl.mul p.slack c < Pl.mul 100 o := by omega
        clear hq
        go_wp2_with fail
        go_quiet ((go_at_call 24; exact Calls.quiet_of_same ((mulR_any _ _ _).mono fun _ _ h => ⟨h.1, h.2.symm⟩)))
        go_wp2_with (go_at_call 25; refine (withinR_any _ _ _ _).mono ?_; rintro e w' ⟨rfl, rfl⟩)
        go_ret2
        exact ⟨ret_two HF.out.symm rfl, below_drewN hb2 _⟩
    · have hd : decide (0 < now) = false := by simpa using hz
      have HF : Hid (Pl.stepF p load now = Pl.within x (now - p.down) (now + p.up)) := by
        unfold Hid; rw [HW.out, HC.out, if_neg (by simp [hz])]
      clear hz
      go_wp2_with fail
      go_quiet (fail)
      go_wp2_with (go_at_call 25; refine (withinR_any _ _ _ _).mono ?_; rintro e w' ⟨rfl, rfl⟩)
      go_ret2
      exact ⟨ret_two HF.out.symm rfl, below_drewN hb2 _⟩
end Go.Proofs.Ytldgnkceecgacaa
