/- The walk of Step. -/
import Derived.Test.YtldgnkceecgacaaDecC
namespace Go.Proofs.Ytldgnkceecgacaa
open Go.RowKit
set_option linter.unusedVariables false

theorem stepQ_no {p : Pl.Pol} {load now : Int} (h : Pl.okB p now = false) : Pl.stepQ p load now = 0 := by unfold Pl.stepQ; rw [h]; rfl
theorem stepE_no {p : Pl.Pol} {now : Int} (h : Pl.okB p now = false) : Pl.stepE p now = 2 := by unfold Pl.stepE; rw [h]; rfl
theorem stepQ_ok {p : Pl.Pol} {load now : Int} (h : Pl.okB p now = true) : Pl.stepQ p load now = Pl.stepF p load now := by unfold Pl.stepQ; rw [h]; rfl
theorem stepE_ok {p : Pl.Pol} {now : Int} (h : Pl.okB p now = true) : Pl.stepE p now = 0 := by unfold Pl.stepE; rw [h]; rfl

/-- A step that may not be: no number, and the error. -/
theorem step_no (p : Pl.Pol) (load now : Int) (w : World) (h : Pl.okB p now = false) : Calls Try.prog 27 #[polV p, .int .i64 load, .int .i64 now] w fun e w' => e = .returned (.tuple #[.int .i64 0, .int .i64 2]) ∧ Below w.heap.size w w' := by
  have hb0 := polBox_below w p
  have HP := PolAt.box w p
  cases hr : Pl.rightB p
  · clear h
    go_enter Try.func27, Try.ntmps27
    go_wp2_with fail
    refine (right_any p _).mono ?_
    rintro e w1 ⟨rfl, hb1⟩
    go_wp2
    go_ret2
    exact ⟨rfl, hb0.trans (hb1.mono (by simp))⟩
  · have hi : Pl.inB now 0 1000 = false := by unfold Pl.okB at h; rw [hr] at h; exact h
    have t : (Pl.within now 0 1000 != now) = true := by unfold Pl.inB at hi; rw [bne, hi]; rfl
    clear h hi
    go_enter Try.func27, Try.ntmps27
    go_wp2_with fail
    refine (right_any p _).mono ?_
    rintro e w1 ⟨rfl, hb1⟩
    go_wp2_with fail
    refine (hold_any _ _ _ _).mono ?_
    rintro e w2 ⟨rfl, hb2⟩
    go_wp2
    go_ret2
    exact ⟨rfl, (hb0.trans (hb1.mono (by simp))).trans (hb2.mono (by have := hb1.size; simp at this; omega))⟩

set_option maxHeartbeats 1000000 in
theorem step_ok (p : Pl.Pol) (load now : Int) (w : World) (h : Pl.okB p now = true) : Calls Try.prog 27 #[polV p, .int .i64 load, .int .i64 now] w fun e w' => e = .returned (.tuple #[.int .i64 (Pl.stepF p load now), .int .i64 0]) ∧ Below w.heap.size w w' := by
  have hb0 := polBox_below w p
  have HP := PolAt.box w p
  have hr : Pl.rightB p = true := by unfold Pl.okB at h; simp at h; exact h.1
  have hi : Pl.inB now 0 1000 = true := by unfold Pl.okB at h; simp at h; exact h.2
  have t : (Pl.within now 0 1000 != now) = false := by have := hi; unfold Pl.inB at this; rw [bne, this]; rfl
  have hR := (Pl.rightB_iff p).1 hr
  have hn := (Pl.inB_iff _ _ _).1 hi
  have hd0 := hR.down0
  have hd1 := hR.down1
  have hu0 := hR.up0
  have hu1 := hR.up1
  have HR := Lib.hid hR
  clear hR hi h
  have i0 : ∀ (x0 x1 x2 x3 : Value) w, (Instr.index 61 (.agg #[x0, x1, x2, x3]) (.int .i64 0)).run Try.prog w = .ok (.agg #[x0, x1]) w := fun _ _ _ _ _ => by kernel_rfl
  have i1 : ∀ (x0 x1 x2 x3 : Value) w, (Instr.index 61 (.agg #[x0, x1, x2, x3]) (.int .i64 1)).run Try.prog w = .ok (.agg #[x2, x3]) w := fun _ _ _ _ _ => by kernel_rfl
  cases hc : Pl.calmB p (Pl.cut load) now
  · have HS : Hid (Pl.stepF p load now = Pl.within (Pl.within (Pl.askF p (Pl.cut load)) p.mn p.mx) (now - p.down) (now + p.up)) := by
      have := Pl.ask_bd HR.out (Pl.cut load)
      unfold Hid Pl.stepF Pl.wish
      rw [hc, if_neg (by decide), Pl.within_id (n := Pl.askF p (Pl.cut load)) this.1 this.2]
    go_enter Try.func27, Try.ntmps27
    go_wp2_with fail
    refine (right_any p _).mono ?_
    rintro e w1 ⟨rfl, hb1⟩
    have HP1 := HP.below hb1 (by simp)
    have hs1 := hb1.size
    simp at hs1
    replace hb1 := hb0.trans (hb1.mono (by simp))
    clear hb0 HP
    go_wp2_with fail
    refine (hold_any _ _ _ _).mono ?_
    rintro e w2 ⟨rfl, hb2⟩
    have HP2 := HP1.below hb2 (by omega)
    have hs2 := hb2.size
    replace hb2 := hb1.trans (hb2.mono (by omega))
    clear hb1 HP1
    go_wp2_with fail
    refine (hold_any _ _ _ _).mono ?_
    rintro e w3 ⟨rfl, hb3⟩
    have HP3 := HP2.below hb3 (by omega)
    have hs3 := hb3.size
    replace hb3 := hb2.trans (hb3.mono (by omega))
    clear hb2 HP2
    have HC : Pl.within load 0 1099511627776 = Pl.cut load := rfl
    rw [HC]
    clear HC
    generalize Pl.cut load = ld at *
    have HP3' := HP3
    obtain ⟨f0, f1, f2, f3, f4, f5, f6⟩ := HP3
    go_wp2_with fail
    refine (calm_any p ld now _).mono ?_
    rintro e w4 ⟨rfl, hb4⟩
    have HP4 := HP3'.below hb4 (by omega)
    have hs4 := hb4.size
    replace hb4 := hb3.trans (hb4.mono (by omega))
    clear hb3 HP3' f0 f1 f2 f3 f4 f5 f6
    have HP4' := HP4
    obtain ⟨f0, f1, f2, f3, f4, f5, f6⟩ := HP4
    go_wp2_with fail
    refine (asked_any p ld _ HR.out).mono ?_
    rintro e w5 ⟨rfl, hb5⟩
    have HP5 := HP4'.below hb5 (by omega)
    have hs5 := hb5.size
    replace hb5 := hb4.trans (hb5.mono (by omega))
    clear hb4 HP4' f0 f1 f2 f3 f4 f5 f6
    obtain ⟨f0, f1, f2, f3, f4, f5, f6⟩ := HP5
    generalize Pl.askF p ld = x at *
    go_wp2_with fail
    refine wp_loop_rounds 3 ?_
    rw [rounds_succ]
    go_wp2_with fail
    refine (hold_any _ _ _ _).mono ?_
    rintro e w6 ⟨rfl, hb6⟩
    replace hb6 := (hb5.alloc (by omega) _).trans (hb6.mono (by simp; omega))
    clear f0 f1 f2 f3 f4 f5 f6
    have hs6 := hb6.size
    go_wp2_with fail
    rw [rounds_succ]
    go_wp2_with fail
    refine (hold_any _ _ _ _).mono ?_
    rintro e w7 ⟨rfl, hb7⟩
    replace hb7 := (hb6.alloc (by omega) _).trans (hb7.mono (by simp; omega))
    go_wp2_with fail
    rw [rounds_succ]
    go_wp2
    go_ret2
    exact ⟨ret_two HS.out.symm rfl, hb7⟩
  · have HS : Hid (Pl.stepF p load now = Pl.within (Pl.within now p.mn p.mx) (now - p.down) (now + p.up)) := by
      unfold Hid Pl.stepF Pl.wish
      rw [hc, if_pos rfl]
    go_enter Try.func27, Try.ntmps27
    go_wp2_with fail
    refine (right_any p _).mono ?_
    rintro e w1 ⟨rfl, hb1⟩
    have HP1 := HP.below hb1 (by simp)
    have hs1 := hb1.size
    simp at hs1
    replace hb1 := hb0.trans (hb1.mono (by simp))
    clear hb0 HP
    go_wp2_with fail
    refine (hold_any _ _ _ _).mono ?_
    rintro e w2 ⟨rfl, hb2⟩
    have HP2 := HP1.below hb2 (by omega)
    have hs2 := hb2.size
    replace hb2 := hb1.trans (hb2.mono (by omega))
    clear hb1 HP1
    go_wp2_with fail
    refine (hold_any _ _ _ _).mono ?_
    rintro e w3 ⟨rfl, hb3⟩
    have HP3 := HP2.below hb3 (by omega)
    have hs3 := hb3.size
    replace hb3 := hb2.trans (hb3.mono (by omega))
    clear hb2 HP2
    have HC : Pl.within load 0 1099511627776 = Pl.cut load := rfl
    rw [HC]
    clear HC
    generalize Pl.cut load = ld at *
    have HP3' := HP3
    obtain ⟨f0, f1, f2, f3, f4, f5, f6⟩ := HP3
    go_wp2_with fail
    refine (calm_any p ld now _).mono ?_
    rintro e w4 ⟨rfl, hb4⟩
    have HP4 := HP3'.below hb4 (by omega)
    have hs4 := hb4.size
    replace hb4 := hb3.trans (hb4.mono (by omega))
    clear hb3 HP3' f0 f1 f2 f3 f4 f5 f6
    obtain ⟨f0, f1, f2, f3, f4, f5, f6⟩ := HP4
    go_wp2_with fail
    refine wp_loop_rounds 3 ?_
    rw [rounds_succ]
    go_wp2_with fail
    refine (hold_any _ _ _ _).mono ?_
    rintro e w6 ⟨rfl, hb6⟩
    replace hb6 := (hb4.alloc (by omega) _).trans (hb6.mono (by simp; omega))
    clear f0 f1 f2 f3 f4 f5 f6
    have hs6 := hb6.size
    go_wp2_with fail
    rw [rounds_succ]
    go_wp2_with fail
    refine (hold_any _ _ _ _).mono ?_
    rintro e w7 ⟨rfl, hb7⟩
    replace hb7 := (hb6.alloc (by omega) _).trans (hb7.mono (by simp; omega))
    go_wp2_with fail
    rw [rounds_succ]
    go_wp2
    go_ret2
    exact ⟨ret_two HS.out.symm rfl, hb7⟩
end Go.Proofs.Ytldgnkceecgacaa
