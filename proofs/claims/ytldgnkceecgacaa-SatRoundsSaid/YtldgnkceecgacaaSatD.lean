/- The walks of SatRounds, SatReckons, SatBounds. -/
import Derived.Test.YtldgnkceecgacaaSatC
namespace Go.Proofs.Ytldgnkceecgacaa
open Go.RowKit
set_option linter.unusedVariables false

theorem reckons_walk (a b c : Int) (w : World) (wa : (Lit.int .i64 a).wf = true) (wb : (Lit.int .i64 b).wf = true) (wc : (Lit.int .i64 c).wf = true) :
    Calls Try.prog 6 #[.int .i64 a, .int .i64 b, .int .i64 c] w fun e w' => e = .returned (.bool true) ∧ Below w.heap.size w w' := by
  clear wa wb wc
  go_enter Try.func6, Try.ntmps6
  go_wp2_with fail
  refine (alive1_any w).mono ?_
  rintro e w1 ⟨rfl, hb⟩
  go_wp2_with (first | (go_at_call 14; refine (ceil_any _ _ _).mono ?_; rintro e w' ⟨rfl, rfl⟩) | (go_at_call 18; refine (ceilR_any _ _ _).mono ?_; rintro e w' ⟨rfl, rfl⟩) | (go_at_call 15; refine (clamp_any _ _).mono ?_; rintro e w' ⟨rfl, rfl⟩) | (go_at_call 19; refine (clampR_any _ _).mono ?_; rintro e w' ⟨rfl, rfl⟩) | (go_at_call 17; refine (add_any _ _ _).mono ?_; rintro e w2 ⟨rfl, hb2⟩; replace hb := hb.trans (hb2.mono hb.size); clear hb2) | (go_at_call 20; refine (addR_any _ _ _).mono ?_; rintro e w' ⟨rfl, rfl⟩) | (go_at_call 21; refine (sub_any _ _ _).mono ?_; rintro e w2 ⟨rfl, hb2⟩; replace hb := hb.trans (hb2.mono hb.size); clear hb2) | (go_at_call 22; refine (subR_any _ _ _).mono ?_; rintro e w' ⟨rfl, rfl⟩) | (go_at_call 23; refine (mul_any _ _ _).mono ?_; rintro e w2 ⟨rfl, hb2⟩; replace hb := hb.trans (hb2.mono hb.size); clear hb2) | (go_at_call 24; refine (mulR_any _ _ _).mono ?_; rintro e w' ⟨rfl, rfl⟩) | (go_at_call 16; refine (within_any _ _ _ _).mono ?_; rintro e w' ⟨rfl, rfl⟩) | (go_at_call 25; refine (withinR_any _ _ _ _).mono ?_; rintro e w' ⟨rfl, rfl⟩))
  go_ret
  exact ⟨rfl, by assumption⟩

theorem rounds_walk (a b c : Int) (w : World) (wa : (Lit.int .i64 a).wf = true) (wb : (Lit.int .i64 b).wf = true) (wc : (Lit.int .i64 c).wf = true) :
    Calls Try.prog 5 #[.int .i64 a, .int .i64 b, .int .i64 c] w fun e w' => e = .returned (.bool true) ∧ Below w.heap.size w w' := by
  clear wa wb wc
  have hb := Pl.within_bd (n := b) (lo := 1) (hi := 1048576) (by decide)
  have hc := Pl.within_bd (n := c) (lo := 1) (hi := 1048576) (by decide)
  go_enter Try.func5, Try.ntmps5
  go_wp2_with fail
  refine (alive1_any w).mono ?_
  rintro e w1 ⟨rfl, hbel⟩
  go_wp2_with fail
  refine (within_any _ _ _ _).mono ?_
  rintro e w' ⟨rfl, rfl⟩
  go_wp2_with fail
  refine (within_any _ _ _ _).mono ?_
  rintro e w' ⟨rfl, rfl⟩
  generalize Pl.within b 1 1048576 = x at *
  generalize Pl.within c 1 1048576 = y at *
  obtain ⟨p1, p2, p3⟩ := Pl.rounds_p hb.1 hb.2 hc.1 hc.2
  have p4 : (Pl.ceilQ (x * y) y == x) = true := by simpa using p3
  have e1 : (Pl.ceilE x == 0) = true := by rw [Pl.ceilE_pos (Pl.clamp_pos (by omega))]; rfl
  have e2 : (Pl.ceilE y == 0) = true := by rw [Pl.ceilE_pos (Pl.clamp_pos (by omega))]; rfl
  have r1 := Pl.rounds_y (a := a) hb.1 hc.1
  clear p3
  by_cases ha : a < 0
  · by_cases hxy : y ≤ x
    · go_wp2_with (first | (go_at_call 14; refine (ceil_any _ _ _).mono ?_; rintro e w' ⟨rfl, rfl⟩) | (go_at_call 17; refine (add_any _ _ _).mono ?_; rintro e w2 ⟨rfl, hb2⟩; replace hbel := hbel.trans (hb2.mono hbel.size); clear hb2))
      go_ret
      exact ⟨rfl, by assumption⟩
    · go_wp2_with (first | (go_at_call 14; refine (ceil_any _ _ _).mono ?_; rintro e w' ⟨rfl, rfl⟩) | (go_at_call 17; refine (add_any _ _ _).mono ?_; rintro e w2 ⟨rfl, hb2⟩; replace hbel := hbel.trans (hb2.mono hbel.size); clear hb2))
      go_ret
      exact ⟨rfl, by assumption⟩
  · have ha' : 0 ≤ a := by omega
    clear ha
    by_cases hxy : y ≤ x
    · have r2 := Pl.rounds_z (d := x) ha' hb.1 (by omega)
      go_wp2_with (first | (go_at_call 14; refine (ceil_any _ _ _).mono ?_; rintro e w' ⟨rfl, rfl⟩) | (go_at_call 17; refine (add_any _ _ _).mono ?_; rintro e w2 ⟨rfl, hb2⟩; replace hbel := hbel.trans (hb2.mono hbel.size); clear hb2))
      go_ret
      exact ⟨rfl, by assumption⟩
    · have r2 := Pl.rounds_z (d := y) ha' hb.1 (by omega)
      go_wp2_with (first | (go_at_call 14; refine (ceil_any _ _ _).mono ?_; rintro e w' ⟨rfl, rfl⟩) | (go_at_call 17; refine (add_any _ _ _).mono ?_; rintro e w2 ⟨rfl, hb2⟩; replace hbel := hbel.trans (hb2.mono hbel.size); clear hb2))
      go_ret
      exact ⟨rfl, by assumption⟩
end Go.Proofs.Ytldgnkceecgacaa
