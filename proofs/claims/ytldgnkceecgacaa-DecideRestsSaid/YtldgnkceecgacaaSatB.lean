/- The walks of Add, Sub, Mul and CeilDiv, of the program and of the reference. -/
import Derived.Test.YtldgnkceecgacaaSatA
namespace Go.Proofs.Ytldgnkceecgacaa
open Go.RowKit

set_option maxHeartbeats 600000 in
theorem of_any (f : Nat) (F : Int → Int → Int) (hnum : f = 36 ∨ f = 37 ∨ f = 38)
    (hf : ∀ (x y : Int) (w : World), -1099511627776 ≤ x → x ≤ 1099511627776 → -1099511627776 ≤ y → y ≤ 1099511627776 →
      Calls Try.prog f #[.agg #[.int .i64 x, .int .i64 y]] w fun e w' => (∃ n, e = .returned (.int .i64 n) ∧ Pl.clamp n = Pl.clamp (F x y)) ∧ Below w.heap.size w w')
    (a b : Int) (w : World) :
    Calls Try.prog 35 #[.int .i64 a, .int .i64 b, .func (.func f) #[] #[]] w fun e w' => e = .returned (.int .i64 (Pl.clamp (F (Pl.clamp a) (Pl.clamp b)))) ∧ Below w.heap.size w w' := by
  have HF := Lib.hid hf
  clear hf
  have ha := Pl.clamp_bd a
  have hb := Pl.clamp_bd b
  rcases hnum with rfl | rfl | rfl
  all_goals
    go_enter Try.func35, Try.ntmps35
    go_wp2_with fail
    refine (clamp_any _ _).mono ?_
    rintro e w' ⟨rfl, rfl⟩
    generalize hx : Pl.clamp a = x at *
    have HX := Lib.hid hx
    clear hx
    go_wp2_with fail
    refine (clamp_any _ _).mono ?_
    rintro e w' ⟨rfl, rfl⟩
    generalize hy : Pl.clamp b = y at *
    have HY := Lib.hid hy
    clear hy
    go_wp2_with fail
    refine (HF.out x y _ ha.1 ha.2 hb.1 hb.2).mono ?_
    rintro e w2 ⟨⟨n, rfl, hn⟩, hbel⟩
    have HN := Lib.hid hn
    clear hn
    go_wp2_with fail
    refine (clamp_any _ _).mono ?_
    rintro e w' ⟨rfl, rfl⟩
    go_wp2
    go_ret
    exact ⟨ret_int (by rw [HX.out, HY.out]; exact HN.out), hbel⟩
theorem add_any (a b : Int) (w : World) : Calls Try.prog 17 #[.int .i64 a, .int .i64 b] w fun e w' => e = .returned (.int .i64 (Pl.add a b)) ∧ Below w.heap.size w w' := by
  go_enter Try.func17, Try.ntmps17
  go_wp2_with fail
  refine (of_any 36 (· + ·) (by omega) (fun x y w h1 h2 h3 h4 => (sum_any x y w h1 h2 h3 h4).mono fun e w' h => ⟨⟨_, h.1, rfl⟩, h.2⟩) a b w).mono ?_
  rintro e w' ⟨rfl, hb⟩
  go_wp2
  go_ret
  exact ⟨rfl, hb⟩
theorem sub_any (a b : Int) (w : World) : Calls Try.prog 21 #[.int .i64 a, .int .i64 b] w fun e w' => e = .returned (.int .i64 (Pl.sub a b)) ∧ Below w.heap.size w w' := by
  go_enter Try.func21, Try.ntmps21
  go_wp2_with fail
  refine (of_any 37 (· - ·) (by omega) (fun x y w h1 h2 h3 h4 => (difference_any x y w h1 h2 h3 h4).mono fun e w' h => ⟨⟨_, h.1, rfl⟩, h.2⟩) a b w).mono ?_
  rintro e w' ⟨rfl, hb⟩
  go_wp2
  go_ret
  exact ⟨rfl, hb⟩
theorem mul_any (a b : Int) (w : World) : Calls Try.prog 23 #[.int .i64 a, .int .i64 b] w fun e w' => e = .returned (.int .i64 (Pl.mul a b)) ∧ Below w.heap.size w w' := by
  go_enter Try.func23, Try.ntmps23
  go_wp2_with fail
  refine (of_any 38 (· * ·) (by omega) (fun x y w h1 h2 h3 h4 => product_any x y w h1 h2 h3 h4) a b w).mono ?_
  rintro e w' ⟨rfl, hb⟩
  go_wp2
  go_ret
  exact ⟨rfl, hb⟩

theorem addR_any (a b : Int) (w : World) : Calls Try.prog 20 #[.int .i64 a, .int .i64 b] w fun e w' => e = .returned (.int .i64 (Pl.add a b)) ∧ w = w' := by
  have ha := Pl.clamp_bd a
  have hb := Pl.clamp_bd b
  go_enter Try.func20, Try.ntmps20
  go_wp2_with fail
  refine (clampR_any _ _).mono ?_
  rintro e w' ⟨rfl, rfl⟩
  go_wp2_with fail
  refine (clampR_any _ _).mono ?_
  rintro e w' ⟨rfl, rfl⟩
  go_wp2_with fail
  refine (clampR_any _ _).mono ?_
  rintro e w' ⟨rfl, rfl⟩
  go_wp2
  go_ret
  exact ⟨rfl, rfl⟩
theorem subR_any (a b : Int) (w : World) : Calls Try.prog 22 #[.int .i64 a, .int .i64 b] w fun e w' => e = .returned (.int .i64 (Pl.sub a b)) ∧ w = w' := by
  have ha := Pl.clamp_bd a
  have hb := Pl.clamp_bd b
  go_enter Try.func22, Try.ntmps22
  go_wp2_with fail
  refine (clampR_any _ _).mono ?_
  rintro e w' ⟨rfl, rfl⟩
  go_wp2_with fail
  refine (clampR_any _ _).mono ?_
  rintro e w' ⟨rfl, rfl⟩
  go_wp2_with fail
  refine (clampR_any _ _).mono ?_
  rintro e w' ⟨rfl, rfl⟩
  go_wp2
  go_ret
  exact ⟨rfl, rfl⟩
theorem ceil_any (a b : Int) (w : World) : Calls Try.prog 14 #[.int .i64 a, .int .i64 b] w fun e w' => e = .returned (.tuple #[.int .i64 (Pl.ceilQ a b), .int .i64 (Pl.ceilE b)]) ∧ w = w' := by
  have ha := Pl.clamp_bd a
  have hb := Pl.clamp_bd b
  go_enter Try.func14, Try.ntmps14
  go_wp2_with fail
  refine (clamp_any _ _).mono ?_
  rintro e w' ⟨rfl, rfl⟩
  generalize hx : Pl.clamp a = x at *
  have HX := Lib.hid hx
  clear hx
  go_wp2_with fail
  refine (clamp_any _ _).mono ?_
  rintro e w' ⟨rfl, rfl⟩
  generalize hy : Pl.clamp b = y at *
  have HY := Lib.hid hy
  clear hy
  by_cases hy0 : y ≤ 0
  · go_wp2
    go_ret2
    exact ⟨ret_two (Pl.ceilQ_neg (by rw [HY.out]; exact hy0)).symm (Pl.ceilE_neg (by rw [HY.out]; exact hy0)).symm, rfl⟩
  · have hy1 : 0 < y := by omega
    have HQ : Hid (Pl.ceilQ a b = Pl.cdiv x y) := by have := Pl.ceilQ_pos (a := a) (b := b) (by rw [HY.out]; exact hy1); rw [HX.out, HY.out] at this; exact this
    have HE : Hid (Pl.ceilE b = 0) := Pl.ceilE_pos (by rw [HY.out]; exact hy1)
    go_wp2
    all_goals go_ret2
    all_goals refine ⟨ret_two (Eq.trans ?_ HQ.out.symm) HE.out.symm, rfl⟩
    · exact Pl.cdiv_up (by assumption) ha.2 hy1 (by assumption)
    · exact Pl.cdiv_exact (by assumption) hy1 (by assumption)
    · exact Pl.cdiv_neg (by assumption)
theorem ceilR_any (a b : Int) (w : World) : Calls Try.prog 18 #[.int .i64 a, .int .i64 b] w fun e w' => e = .returned (.tuple #[.int .i64 (Pl.ceilQ a b), .int .i64 (Pl.ceilE b)]) ∧ w = w' := by
  have ha := Pl.clamp_bd a
  have hb := Pl.clamp_bd b
  go_enter Try.func18, Try.ntmps18
  go_wp2_with fail
  refine (clampR_any _ _).mono ?_
  rintro e w' ⟨rfl, rfl⟩
  generalize hx : Pl.clamp a = x at *
  have HX := Lib.hid hx
  clear hx
  go_wp2_with fail
  refine (clampR_any _ _).mono ?_
  rintro e w' ⟨rfl, rfl⟩
  generalize hy : Pl.clamp b = y at *
  have HY := Lib.hid hy
  clear hy
  by_cases hy0 : y ≤ 0
  · go_wp2
    go_ret2
    exact ⟨ret_two (Pl.ceilQ_neg (by rw [HY.out]; exact hy0)).symm (Pl.ceilE_neg (by rw [HY.out]; exact hy0)).symm, rfl⟩
  · have hy1 : 0 < y := by omega
    have HQ : Hid (Pl.ceilQ a b = Pl.cdiv x y) := by have := Pl.ceilQ_pos (a := a) (b := b) (by rw [HY.out]; exact hy1); rw [HX.out, HY.out] at this; exact this
    have HE : Hid (Pl.ceilE b = 0) := Pl.ceilE_pos (by rw [HY.out]; exact hy1)
    go_wp2
    all_goals go_ret2
    all_goals refine ⟨ret_two (Eq.trans ?_ HQ.out.symm) HE.out.symm, rfl⟩
    · exact Pl.ref_up ha.1 ha.2 hy1 hb.2 (by assumption)
    · exact Pl.ref_no ha.1 ha.2 hy1 hb.2 (by assumption)
theorem mulR_any (a b : Int) (w : World) : Calls Try.prog 24 #[.int .i64 a, .int .i64 b] w fun e w' => e = .returned (.int .i64 (Pl.mul a b)) ∧ w = w' := by
  have ha := Pl.clamp_bd a
  have hb := Pl.clamp_bd b
  go_enter Try.func24, Try.ntmps24
  go_wp2_with fail
  refine (clampR_any _ _).mono ?_
  rintro e w' ⟨rfl, rfl⟩
  generalize hx : Pl.clamp a = x at *
  have HX := Lib.hid hx
  clear hx
  go_wp2_with fail
  refine (clampR_any _ _).mono ?_
  rintro e w' ⟨rfl, rfl⟩
  generalize hy : Pl.clamp b = y at *
  have HY := Lib.hid hy
  clear hy
  have HM : Hid (Pl.mul a b = Pl.clamp (x * y)) := by unfold Hid Pl.mul; rw [HX.out, HY.out]
  by_cases hx0 : x = 0
  · subst hx0
    go_wp2
    go_ret
    exact ⟨ret_int (by rw [HM.out]; simp; rfl), rfl⟩
  by_cases hy0 : y = 0
  · subst hy0
    have t : (x == 0) = false := by simp [hx0]
    clear hx0
    go_wp2
    go_ret
    exact ⟨ret_int (by rw [HM.out]; simp; rfl), rfl⟩
  have t : (x == 0) = false := by simp [hx0]
  have t' : (y == 0) = false := by simp [hy0]
  by_cases hx1 : x < 0
  · have dx : decide (x < 0) = true := by simp; omega
    by_cases hy1 : y < 0
    · have dy : decide (y < 0) = true := by simp; omega
      go_wp2
      all_goals go_ret
      all_goals refine ⟨ret_int (Eq.trans ?_ HM.out.symm), rfl⟩
      · exact Pl.m_nn hx1 hy1 hb.1 (by assumption)
      · exact Pl.m_nn' hy1 hb.1 (by assumption)
    · have hy2 : 0 < y := by omega
      have dy : decide (y < 0) = false := by simp; omega
      go_wp2
      all_goals go_ret
      all_goals refine ⟨ret_int (Eq.trans ?_ HM.out.symm), rfl⟩
      · exact Pl.m_np hx1 hy2 (by assumption)
      · exact Pl.m_np' hy2 (by assumption)
  · have hx2 : 0 < x := by omega
    have dx : decide (x < 0) = false := by simp; omega
    by_cases hy1 : y < 0
    · have dy : decide (y < 0) = true := by simp; omega
      go_wp2
      all_goals go_ret
      all_goals refine ⟨ret_int (Eq.trans ?_ HM.out.symm), rfl⟩
      · exact Pl.m_pn hx2 hy1 hb.1 (by assumption)
      · exact Pl.m_pn' hy1 hb.1 (by assumption)
    · have hy2 : 0 < y := by omega
      have dy : decide (y < 0) = false := by simp; omega
      go_wp2
      all_goals go_ret
      all_goals refine ⟨ret_int (Eq.trans ?_ HM.out.symm), rfl⟩
      · exact Pl.m_pp hx2 hy2 (by assumption)
      · exact Pl.m_pp' hy2 (by assumption)
end Go.Proofs.Ytldgnkceecgacaa
