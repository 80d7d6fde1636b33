/- Plain laws of the layer sat: what the statements say of the plain functions. -/
import Derived.Test.YtldgnkceecgacaaPlain
namespace Go.Proofs.Ytldgnkceecgacaa.Pl
open Go.RowKit

theorem clamp_pos {b : Int} (h : 0 < b) : 0 < clamp b := by unfold clamp within; (repeat' split) <;> omega
theorem clamp_nonpos {b : Int} (h : b ≤ 0) : clamp b ≤ 0 := by unfold clamp within; (repeat' split) <;> omega
theorem clamp_nonneg {b : Int} (h : 0 ≤ b) : 0 ≤ clamp b := by unfold clamp within; (repeat' split) <;> omega
theorem add_comm (a b : Int) : add a b = add b a := by unfold add; rw [Int.add_comm]
theorem mul_comm (a b : Int) : mul a b = mul b a := by unfold mul; rw [Int.mul_comm]
theorem sub_neg (a b : Int) : sub a b = -sub b a := by unfold sub; rw [← clamp_neg]; congr 1; omega
theorem add_mono {a b c : Int} (h : b ≤ c) : add a b ≤ add a c := clamp_mono (by have := clamp_mono h; omega)
theorem sub_anti {a b c : Int} (h : b ≤ c) : sub a c ≤ sub a b := clamp_mono (by have := clamp_mono h; omega)
theorem mul_mono {a b c : Int} (ha : 0 ≤ a) (h : b ≤ c) : mul a b ≤ mul a c := clamp_mono (Int.mul_le_mul_of_nonneg_left (clamp_mono h) (clamp_nonneg ha))
theorem add_bd (a b : Int) : -1099511627776 ≤ add a b ∧ add a b ≤ 1099511627776 := clamp_bd _
theorem sub_bd (a b : Int) : -1099511627776 ≤ sub a b ∧ sub a b ≤ 1099511627776 := clamp_bd _
theorem mul_bd (a b : Int) : -1099511627776 ≤ mul a b ∧ mul a b ≤ 1099511627776 := clamp_bd _

theorem divides {a b : Int} (h : 0 < b) : clamp a ≤ wrap64 (ceilQ a b * clamp b) ∧ wrap64 (ceilQ a b * clamp b) < clamp a + clamp b := by
  have hb := clamp_pos h
  obtain ⟨k, k'⟩ := cdiv_spec (clamp a) hb
  have h1 := clamp_bd a
  have h2 := clamp_bd b
  rw [ceilQ_pos hb, wrap_in (by omega) (by omega)]
  exact ⟨k, k'⟩

theorem within_bd {n lo hi : Int} (h : lo ≤ hi) : lo ≤ within n lo hi ∧ within n lo hi ≤ hi := by unfold within; (repeat' split) <;> omega
theorem within_id {n lo hi : Int} (h : lo ≤ n) (h' : n ≤ hi) : within n lo hi = n := by unfold within; (repeat' split) <;> omega
theorem within_out {n lo hi : Int} (h : hi < lo) : within n lo hi ≠ hi → within n lo hi = lo := by unfold within; (repeat' split) <;> omega

theorem cdiv_mono {x x' y : Int} (hy : 0 < y) (h : x ≤ x') : cdiv x y ≤ cdiv x' y := by
  unfold cdiv
  have := Int.ediv_le_ediv hy (show -x' ≤ -x by omega)
  omega
theorem cdiv_anti {x y z : Int} (hx : 0 ≤ x) (hy : 0 < y) (h : y ≤ z) : cdiv x z ≤ cdiv x y := by
  obtain ⟨k, k'⟩ := cdiv_spec x hy
  obtain ⟨l, l'⟩ := cdiv_spec x (show 0 < z by omega)
  have h1 : 0 ≤ cdiv x y := by
    rcases Int.lt_or_le (cdiv x y) 0 with h1 | h1
    · have := Int.mul_neg_of_neg_of_pos h1 hy; omega
    · exact h1
  rcases Int.lt_or_le (cdiv x y) (cdiv x z) with h2 | h2
  · have h3 : (cdiv x y + 1) * z ≤ cdiv x z * z := Int.mul_le_mul_of_nonneg_right (by omega) (by omega)
    have h4 : cdiv x y * y ≤ cdiv x y * z := Int.mul_le_mul_of_nonneg_left h h1
    rw [Int.add_mul] at h3
    omega
  · exact h2
theorem rounds_y {a b c : Int} (hb : 1 ≤ b) (hc : 1 ≤ c) : ceilQ a b ≤ ceilQ (add a c) b := by
  have hb' := clamp_pos (show 0 < b by omega)
  rw [ceilQ_pos hb', ceilQ_pos hb']
  refine cdiv_mono hb' ?_
  have h1 : clamp (add a c) = add a c := clamp_clamp _
  have h2 : clamp a = clamp (clamp a) := (clamp_clamp a).symm
  rw [h1]
  unfold add
  have h3 := clamp_nonneg (show 0 ≤ c by omega)
  have h4 := clamp_mono (show clamp a ≤ clamp a + clamp c by omega)
  rw [clamp_clamp] at h4
  exact h4
theorem rounds_z {a b d : Int} (ha : 0 ≤ a) (hb : 1 ≤ b) (hd : b ≤ d) : ceilQ a d ≤ ceilQ a b := by
  have hb' := clamp_pos (show 0 < b by omega)
  have hd' := clamp_pos (show 0 < d by omega)
  rw [ceilQ_pos hb', ceilQ_pos hd']
  exact cdiv_anti (clamp_nonneg ha) hb' (clamp_mono hd)
theorem rounds_p {b c : Int} (hb : 1 ≤ b) (hb' : b ≤ 1048576) (hc : 1 ≤ c) (hc' : c ≤ 1048576) : 0 ≤ b * c ∧ b * c ≤ 1099511627776 ∧ ceilQ (b * c) c = b := by
  have h1 : 0 ≤ b * c := Int.mul_nonneg (by omega) (by omega)
  have h2 : b * c ≤ 1048576 * 1048576 := Int.mul_le_mul hb' hc' (by omega) (by omega)
  refine ⟨h1, by omega, ?_⟩
  have hc'' := clamp_pos (show 0 < c by omega)
  rw [ceilQ_pos hc'', clamp_id (b * c) (by omega) (by omega), clamp_id c (by omega) (by omega)]
  exact (cdiv_unique (by omega) (by omega) (by omega)).symm
end Go.Proofs.Ytldgnkceecgacaa.Pl
