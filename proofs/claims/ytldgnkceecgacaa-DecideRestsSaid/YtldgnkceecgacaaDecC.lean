/- The walks of hold, Asked, off and calm. -/
import Derived.Test.YtldgnkceecgacaaDecB
import Derived.Deep.RegionHeld3
namespace Go.Proofs.Ytldgnkceecgacaa
open Go.RowKit
set_option linter.unusedVariables false

theorem right_true' {p : Pl.Pol} (h : Pl.Right p) : Pl.rightB p = true := (Pl.rightB_iff p).2 h
theorem hold_any (lo hi n : Int) (w : World) : Calls Try.prog 39 #[.agg #[.int .i64 lo, .int .i64 hi], .int .i64 n] w fun e w' => e = .returned (.int .i64 (Pl.within n lo hi)) ∧ Below w.heap.size w w' := by
  go_enter Try.func39, Try.ntmps39
  go_wp2_with (go_at_call 16; refine (within_any _ _ _ _).mono ?_; rintro e w' ⟨rfl, rfl⟩)
  go_ret
  exact ⟨rfl, (Below.refl _ _).alloc (Nat.le_refl _) _⟩

theorem off_any (a b : Int) (w : World) : Calls Try.prog 45 #[.int .i64 a, .int .i64 b] w fun e w' => e = .returned (.int .i64 (Pl.offF a b)) ∧ Below w.heap.size w w' := by
  have hb := Pl.sub_bd a b
  by_cases h : 0 ≤ Pl.sub a b
  · have H : Hid (Pl.offF a b = Pl.sub a b) := if_pos h
    go_enter Try.func45, Try.ntmps45
    go_wp2_with (go_at_call 21; refine (sub_any _ _ _).mono ?_; rintro e w1 ⟨rfl, hbel⟩)
    go_ret
    exact ⟨ret_int H.out.symm, hbel⟩
  · have H : Hid (Pl.offF a b = -Pl.sub a b) := if_neg h
    have h' : Pl.sub a b < 0 := by omega
    clear h
    go_enter Try.func45, Try.ntmps45
    go_wp2_with (go_at_call 21; refine (sub_any _ _ _).mono ?_; rintro e w1 ⟨rfl, hbel⟩)
    go_ret
    exact ⟨ret_int H.out.symm, hbel⟩
/-- A policy lies in a block of its own. -/
def PolAt (w : World) (B : Nat) (p : Pl.Pol) : Prop :=
  w.cell? ⟨B, 0, none⟩ = some (.int .i64 p.mn) ∧ w.cell? ⟨B, 1, none⟩ = some (.int .i64 p.mx) ∧ w.cell? ⟨B, 2, none⟩ = some (.int .i64 p.goal) ∧ w.cell? ⟨B, 3, none⟩ = some (.int .i64 p.slack) ∧
  w.cell? ⟨B, 4, none⟩ = some (.int .i64 p.up) ∧ w.cell? ⟨B, 5, none⟩ = some (.int .i64 p.down) ∧ w.cell? ⟨B, 6, none⟩ = some (.int .i64 p.cool)
theorem PolAt.below {w w' : World} {B n : Nat} {p : Pl.Pol} (h : PolAt w B p) (hb : Below n w w') (hB : B < n) : PolAt w' B p := by
  obtain ⟨h0, h1, h2, h3, h4, h5, h6⟩ := h
  exact ⟨(hb.cell (p := ⟨B, 0, none⟩) hB).trans h0, (hb.cell (p := ⟨B, 1, none⟩) hB).trans h1, (hb.cell (p := ⟨B, 2, none⟩) hB).trans h2, (hb.cell (p := ⟨B, 3, none⟩) hB).trans h3, (hb.cell (p := ⟨B, 4, none⟩) hB).trans h4, (hb.cell (p := ⟨B, 5, none⟩) hB).trans h5, (hb.cell (p := ⟨B, 6, none⟩) hB).trans h6⟩
abbrev polBox (w : World) (p : Pl.Pol) : World := w.alloc (.cells #[.int .i64 p.mn, .int .i64 p.mx, .int .i64 p.goal, .int .i64 p.slack, .int .i64 p.up, .int .i64 p.down, .int .i64 p.cool] 35)
theorem PolAt.box (w : World) (p : Pl.Pol) : PolAt (polBox w p) w.heap.size p := by
  refine ⟨?_, ?_, ?_, ?_, ?_, ?_, ?_⟩ <;> (rw [World.cell?_alloc_at _ _ _ _ rfl]; rfl)
theorem polBox_size (w : World) (p : Pl.Pol) : (polBox w p).heap.size = w.heap.size + 1 := by simp
theorem polBox_below (w : World) (p : Pl.Pol) : Below w.heap.size w (polBox w p) := (Below.refl _ _).alloc (Nat.le_refl _) _

theorem asked_any (p : Pl.Pol) (load : Int) (w : World) (h : Pl.Right p) : Calls Try.prog 34 #[polV p, .int .i64 load] w fun e w' => e = .returned (.tuple #[.int .i64 (Pl.askF p load), .int .i64 0]) ∧ Below w.heap.size w w' := by
  have hr := right_true' h
  have HE := Lib.hid (Pl.ceilE_pos (b := p.goal) (Pl.clamp_pos (by have := h.goal0; omega)))
  have hb0 := polBox_below w p
  have HP := PolAt.box w p
  clear h
  by_cases hl : 0 ≤ load
  · have H : Hid (Pl.askF p load = Pl.within (Pl.ceilQ load p.goal) p.mn p.mx) := by
      unfold Hid Pl.askF
      split
      · rfl
      · rw [show load = 0 by omega]
    go_enter Try.func34, Try.ntmps34
    go_wp2_with fail
    refine (right_any p _).mono ?_
    rintro e w1 ⟨rfl, hb1⟩
    obtain ⟨f0, f1, f2, f3, f4, f5, f6⟩ := HP.below hb1 (by simp)
    go_wp2_with fail
    refine (ceil_any _ _ _).mono ?_
    rintro e w' ⟨rfl, rfl⟩
    rw [HE.out]
    go_wp2_with (go_at_call 16; refine (within_any _ _ _ _).mono ?_; rintro e w' ⟨rfl, rfl⟩)
    go_ret2
    exact ⟨ret_two H.out.symm rfl, hb0.trans (hb1.mono (by simp))⟩
  · have H : Hid (Pl.askF p load = Pl.within (Pl.ceilQ 0 p.goal) p.mn p.mx) := by unfold Hid Pl.askF; rw [if_neg (by omega)]
    have hl' : load < 0 := by omega
    clear hl
    go_enter Try.func34, Try.ntmps34
    go_wp2_with fail
    refine (right_any p _).mono ?_
    rintro e w1 ⟨rfl, hb1⟩
    obtain ⟨f0, f1, f2, f3, f4, f5, f6⟩ := HP.below hb1 (by simp)
    go_wp2_with fail
    refine (ceil_any _ _ _).mono ?_
    rintro e w' ⟨rfl, rfl⟩
    rw [HE.out]
    go_wp2_with (go_at_call 16; refine (within_any _ _ _ _).mono ?_; rintro e w' ⟨rfl, rfl⟩)
    go_ret2
    exact ⟨ret_two H.out.symm rfl, hb0.trans (hb1.mono (by simp))⟩
/-- What calm keeps: the policy's slack in its block, and all that was there. -/
def CalmS (w0 : World) (B : Nat) (sl : Int) (w : World) : Prop := w.cell? ⟨B, 3, none⟩ = some (.int .i64 sl) ∧ Below w0.heap.size w0 w ∧ B < w.heap.size
theorem CalmS.next {w0 w w' : World} {B : Nat} {sl : Int} (h : CalmS w0 B sl w) (hb : Below w.heap.size w w') : CalmS w0 B sl w' :=
  ⟨(hb.cell (p := ⟨B, 3, none⟩) h.2.2).trans h.1, h.2.1.trans (hb.mono h.2.1.size), Nat.lt_of_lt_of_le h.2.2 hb.size⟩
theorem mul_S (w0 : World) (B : Nat) (sl : Int) (a b : Int) (w : World) (h : w.cell? ⟨B, 3, none⟩ = some (.int .i64 sl) ∧ Below w0.heap.size w0 w ∧ B < w.heap.size) :
    Calls Try.prog 23 #[.int .i64 a, .int .i64 b] w fun e w' => e = .returned (.int .i64 (Pl.mul a b)) ∧ w'.cell? ⟨B, 3, none⟩ = some (.int .i64 sl) ∧ Below w0.heap.size w0 w' ∧ B < w'.heap.size :=
  (mul_any a b w).mono fun _ _ ⟨he, hb⟩ => ⟨he, CalmS.next h hb⟩
theorem off_S (w0 : World) (B : Nat) (sl : Int) (a b : Int) (w : World) (h : w.cell? ⟨B, 3, none⟩ = some (.int .i64 sl) ∧ Below w0.heap.size w0 w ∧ B < w.heap.size) :
    Calls Try.prog 45 #[.int .i64 a, .int .i64 b] w fun e w' => e = .returned (.int .i64 (Pl.offF a b)) ∧ w'.cell? ⟨B, 3, none⟩ = some (.int .i64 sl) ∧ Below w0.heap.size w0 w' ∧ B < w'.heap.size :=
  (off_any a b w).mono fun _ _ ⟨he, hb⟩ => ⟨he, CalmS.next h hb⟩
theorem calm_any (p : Pl.Pol) (load now : Int) (w : World) : Calls Try.prog 40 #[polV p, .int .i64 load, .int .i64 now] w fun e w' => e = .returned (.bool (Pl.calmB p load now)) ∧ Below w.heap.size w w' := by
  have hb0 := polBox_below w p
  have HP := PolAt.box w p
  have HC : Hid (Pl.calmB p load now = (decide (0 < now) && decide (Pl.mul 100 (Pl.offF load (Pl.mul now p.goal)) ≤ Pl.mul p.slack (Pl.mul now p.goal)))) := rfl
  by_cases hn : 0 < now
  · have hd : decide (0 < now) = true := by simpa using hn
    go_enter Try.func40, Try.ntmps40
    go_wp2_with fail
    refine (mul_any _ _ _).mono ?_
    rintro e w1 ⟨rfl, hb1⟩
    have HP1 := HP.below hb1 (by simp)
    have hs1 := hb1.size
    simp at hs1
    obtain ⟨f0, f1, f2, f3, f4, f5, f6⟩ := HP1
    go_wp2_with fail
    have hbel := hb0.trans (hb1.mono (by simp))
    clear hb0 hb1 HP f0 f1 f2 f4 f5 f6
    go_region_held3 (fun w' => w'.cell? ⟨w.heap.size, 3, none⟩ = some (.int .i64 p.slack) ∧ Below w.heap.size w w' ∧ w.heap.size < w'.heap.size) (first | assumption | (refine ⟨?_, ?_, ?_⟩ <;> assumption) | (go_split_ands; refine ⟨?_, ?_, ?_⟩ <;> first | assumption | exact Below.drew (by assumption) | simpa using hs1)) (first | (go_at_call 45; refine (off_S w w.heap.size p.slack _ _ _ ?_).mono ?_; (first | assumption | (go_split_ands; refine ⟨?_, ?_, ?_⟩ <;> assumption)); rintro e w' ⟨rfl, g1, g2, g3⟩) | (go_at_call 23; refine (mul_S w w.heap.size p.slack _ _ _ ?_).mono ?_; (first | assumption | (go_split_ands; refine ⟨?_, ?_, ?_⟩ <;> assumption)); rintro e w' ⟨rfl, g1, g2, g3⟩))
    go_wp2
    go_ret
    exact ⟨ret_bool (by rw [HC.out, hd, Bool.true_and]), by assumption⟩
  · have hd : decide (0 < now) = false := by simpa using hn
    go_enter Try.func40, Try.ntmps40
    go_wp2_with fail
    refine (mul_any _ _ _).mono ?_
    rintro e w1 ⟨rfl, hb1⟩
    have HP1 := HP.below hb1 (by simp)
    obtain ⟨f0, f1, f2, f3, f4, f5, f6⟩ := HP1
    go_wp2_with fail
    go_quiet (fail)
    go_wp2
    go_ret
    exact ⟨ret_bool (by rw [HC.out, hd]; rfl), below_drewN (hb0.trans (hb1.mono (by simp))) _⟩

theorem askedR_any (p : Pl.Pol) (load : Int) (w : World) (h : Pl.Right p) : Calls Try.prog 42 #[polV p, .int .i64 load] w fun e w' => e = .returned (.tuple #[.int .i64 (Pl.askF p load), .int .i64 0]) ∧ Below w.heap.size w w' := by
  have hr := right_true' h
  have HE := Lib.hid (Pl.ceilE_pos (b := p.goal) (Pl.clamp_pos (by have := h.goal0; omega)))
  have hb0 := polBox_below w p
  have HP := PolAt.box w p
  clear h
  by_cases hl : 0 < load
  · have H : Hid (Pl.askF p load = Pl.within (Pl.ceilQ load p.goal) p.mn p.mx) := by unfold Hid Pl.askF; rw [if_pos hl]
    go_enter Try.func42, Try.ntmps42
    go_wp2_with fail
    refine (rightR_any p _).mono ?_
    rintro e w1 ⟨rfl, hb1⟩
    obtain ⟨f0, f1, f2, f3, f4, f5, f6⟩ := HP.below hb1 (by simp)
    go_wp2_with fail
    refine (ceilR_any _ _ _).mono ?_
    rintro e w' ⟨rfl, rfl⟩
    go_wp2_with (go_at_call 25; refine (withinR_any _ _ _ _).mono ?_; rintro e w' ⟨rfl, rfl⟩)
    go_ret2
    exact ⟨ret_two H.out.symm rfl, hb0.trans (hb1.mono (by simp))⟩
  · have H : Hid (Pl.askF p load = Pl.within (Pl.ceilQ 0 p.goal) p.mn p.mx) := by unfold Hid Pl.askF; rw [if_neg hl]
    have hl' : load ≤ 0 := by omega
    clear hl
    go_enter Try.func42, Try.ntmps42
    go_wp2_with fail
    refine (rightR_any p _).mono ?_
    rintro e w1 ⟨rfl, hb1⟩
    obtain ⟨f0, f1, f2, f3, f4, f5, f6⟩ := HP.below hb1 (by simp)
    go_wp2_with fail
    refine (ceilR_any _ _ _).mono ?_
    rintro e w' ⟨rfl, rfl⟩
    go_wp2_with (go_at_call 25; refine (withinR_any _ _ _ _).mono ?_; rintro e w' ⟨rfl, rfl⟩)
    go_ret2
    exact ⟨ret_two H.out.symm rfl, hb0.trans (hb1.mono (by simp))⟩
end Go.Proofs.Ytldgnkceecgacaa
