/- Plain mathematics of the layer sat: numbers within bounds. No walk stands here. -/
import Derived.WalkKit
import Derived.RowKit
namespace Go.Proofs.Ytldgnkceecgacaa.Pl
open Go.RowKit

def within (n lo hi : Int) : Int := if hi < n then hi else if n < lo then lo else n
def clamp (n : Int) : Int := within n (-1099511627776) 1099511627776
theorem clamp_bd (n : Int) : -1099511627776 ≤ clamp n ∧ clamp n ≤ 1099511627776 := by unfold clamp within; (repeat' split) <;> omega
theorem clamp_id (n : Int) (h : -1099511627776 ≤ n) (h' : n ≤ 1099511627776) : clamp n = n := by unfold clamp within; rw [if_neg (by omega), if_neg (by omega)]
theorem clamp_hi (n : Int) (h : 1099511627776 ≤ n) : clamp n = 1099511627776 := by unfold clamp within; (repeat' split) <;> omega
theorem clamp_lo (n : Int) (h : n ≤ -1099511627776) : clamp n = -1099511627776 := by unfold clamp within; (repeat' split) <;> omega
theorem clamp_clamp (n : Int) : clamp (clamp n) = clamp n := clamp_id _ (clamp_bd n).1 (clamp_bd n).2
theorem clamp_mono {a b : Int} (h : a ≤ b) : clamp a ≤ clamp b := by unfold clamp within; (repeat' split) <;> omega
theorem clamp_neg (a : Int) : clamp (-a) = -clamp a := by unfold clamp within; (repeat' split) <;> omega
def add (a b : Int) : Int := clamp (clamp a + clamp b)
def sub (a b : Int) : Int := clamp (clamp a - clamp b)
def mul (a b : Int) : Int := clamp (clamp a * clamp b)
def cdiv (a b : Int) : Int := -((-a) / b)
/-- CeilDiv: the quotient, and the error. -/
def ceilQ (a b : Int) : Int := if clamp b ≤ 0 then 0 else cdiv (clamp a) (clamp b)
def ceilE (b : Int) : Int := if clamp b ≤ 0 then 2 else 0

theorem abs_mul_le {a b T : Int} (ha : -T ≤ a) (ha' : a ≤ T) (hb : -T ≤ b) (hb' : b ≤ T) : -(T * T) ≤ a * b ∧ a * b ≤ T * T := by
  have h1 : a.natAbs * b.natAbs ≤ T.natAbs * T.natAbs := Nat.mul_le_mul (by omega) (by omega)
  have h2 : (a * b).natAbs ≤ (T * T).natAbs := by rw [Int.natAbs_mul, Int.natAbs_mul]; exact h1
  have h3 : ((T * T).natAbs : Int) = T * T := by rw [Int.natAbs_mul, Int.natCast_mul, Int.natAbs_mul_self' ]
  omega
theorem prod_bd {a b : Int} (ha : -1099511627776 ≤ a) (ha' : a ≤ 1099511627776) (hb : -1099511627776 ≤ b) (hb' : b ≤ 1099511627776) : -1208925819614629174706176 ≤ a * b ∧ a * b ≤ 1208925819614629174706176 :=
  abs_mul_le ha ha' hb hb'

/-- What divides back was not turned round. -/
theorem back_ok {a b n : Int} (hb : b ≠ 0) (h : n.tdiv b = a) : n - a * b < b.natAbs ∧ -(b.natAbs : Int) < n - a * b := by
  have h1 := Int.mul_tdiv_add_tmod n b
  have h2 : (n.tmod b).natAbs < b.natAbs := by rw [Int.natAbs_tmod]; exact Nat.mod_lt _ (by omega)
  rw [h, Int.mul_comm] at h1
  omega


theorem wrap_in {n : Int} (h : -9223372036854775808 ≤ n) (h' : n ≤ 9223372036854775807) : wrap64 n = n := by unfold wrap64; omega
theorem wrap_off (n : Int) : ∃ k : Int, wrap64 n = n + k * 18446744073709551616 ∧ -9223372036854775808 ≤ wrap64 n ∧ wrap64 n ≤ 9223372036854775807 := by
  refine ⟨-((n + 9223372036854775808) / 18446744073709551616), ?_⟩; unfold wrap64; omega
theorem tdiv_small {m b : Int} (h : -9223372036854775808 ≤ m) (h' : m ≤ 9223372036854775807) (hb : 2 ≤ b.natAbs) : wrap64 (m.tdiv b) = m.tdiv b := by
  have h1 : (m.tdiv b).natAbs = m.natAbs / b.natAbs := Int.natAbs_tdiv m b
  have h2 : m.natAbs / b.natAbs ≤ m.natAbs / 2 := Nat.div_le_div_left hb (by decide)
  exact wrap_in (by omega) (by omega)

/-- A product that does not fit 64 bits doesn't divide back. -/
theorem no_back {a b : Int} (ha : -1099511627776 ≤ a) (ha' : a ≤ 1099511627776) (hb : -1099511627776 ≤ b) (hb' : b ≤ 1099511627776) (hb0 : b ≠ 0)
    (hbig : a * b < -9223372036854775808 ∨ 9223372036854775807 < a * b) : wrap64 ((wrap64 (a * b)).tdiv b) ≠ a := by
  intro h
  obtain ⟨k, hk, hlo, hhi⟩ := wrap_off (a * b)
  have hb2 : 2 ≤ b.natAbs := by
    rcases Nat.lt_or_ge b.natAbs 2 with h1 | h1
    · have : b = 1 ∨ b = -1 := by omega
      rcases this with rfl | rfl <;> omega
    · exact h1
  rw [tdiv_small hlo hhi hb2] at h
  have hq := back_ok hb0 h
  have : k ≠ 0 := by rintro rfl; omega
  omega
theorem prod_back {a b : Int} (ha : -1099511627776 ≤ a) (ha' : a ≤ 1099511627776) (hb : -1099511627776 ≤ b) (hb' : b ≤ 1099511627776) (hb0 : ¬ b = 0)
    (h : (wrap64 ((wrap64 (a * b)).tdiv b) == a) = true) : clamp (wrap64 (a * b)) = clamp (a * b) := by
  by_cases hbig : a * b < -9223372036854775808 ∨ 9223372036854775807 < a * b
  · exact absurd (by simpa using h) (no_back ha ha' hb hb' hb0 hbig)
  · rw [wrap_in (by omega) (by omega)]
theorem not_back {a b : Int} (ha : -1099511627776 ≤ a) (ha' : a ≤ 1099511627776) (hb0 : ¬ b = 0)
    (h : (wrap64 ((wrap64 (a * b)).tdiv b) == a) = false) : a * b < -9223372036854775808 ∨ 9223372036854775807 < a * b := by
  by_cases hbig : a * b < -9223372036854775808 ∨ 9223372036854775807 < a * b
  · exact hbig
  · rw [wrap_in (n := a * b) (by omega) (by omega), Int.mul_tdiv_cancel _ hb0, wrap_in (by omega) (by omega)] at h
    simp at h
theorem prod_same {a b : Int} (ha : -1099511627776 ≤ a) (ha' : a ≤ 1099511627776) (hb0 : ¬ b = 0)
    (h : (wrap64 ((wrap64 (a * b)).tdiv b) == a) = false) (hs : (decide (a < 0) == decide (b < 0)) = true) : clamp 1099511627776 = clamp (a * b) := by
  have hn := not_back ha ha' hb0 h
  have hp : 0 ≤ a * b := by
    by_cases h1 : a < 0
    · have h2 : b < 0 := by simpa [h1] using hs
      exact Int.mul_nonneg_of_nonpos_of_nonpos (by omega) (by omega)
    · have h2 : ¬ b < 0 := by simpa [h1] using hs
      exact Int.mul_nonneg (by omega) (by omega)
  rw [clamp_hi (a * b) (by omega)]; rfl
theorem prod_other {a b : Int} (ha : -1099511627776 ≤ a) (ha' : a ≤ 1099511627776) (hb0 : ¬ b = 0)
    (h : (wrap64 ((wrap64 (a * b)).tdiv b) == a) = false) (hs : (decide (a < 0) == decide (b < 0)) = false) : clamp (-1099511627776) = clamp (a * b) := by
  have hn := not_back ha ha' hb0 h
  have hp : a * b ≤ 0 := by
    by_cases h1 : a < 0
    · have h2 : ¬ b < 0 := by simpa [h1] using hs
      exact Int.mul_nonpos_of_nonpos_of_nonneg (by omega) (by omega)
    · have h2 : b < 0 := by simpa [h1] using hs
      exact Int.mul_nonpos_of_nonneg_of_nonpos (by omega) (by omega)
  rw [clamp_lo (a * b) (by omega)]; rfl

theorem small_factor {s y : Int} (hy : 0 < y) (h : s * y < y) (h' : -y < s * y) : s = 0 := by
  have h1 : s < 1 := by
    rcases Int.lt_or_le s 1 with h1 | h1
    · exact h1
    · have := Int.mul_le_mul_of_nonneg_right h1 (Int.le_of_lt hy); omega
  have h2 : -1 < s := by
    rcases Int.lt_or_le (-1) s with h2 | h2
    · exact h2
    · have := Int.mul_le_mul_of_nonneg_right h2 (Int.le_of_lt hy); omega
  omega
theorem cdiv_spec (x : Int) {y : Int} (hy : 0 < y) : x ≤ cdiv x y * y ∧ cdiv x y * y < x + y := by
  have h1 := Int.mul_ediv_add_emod (-x) y
  have h2 := Int.emod_nonneg (-x) (show y ≠ 0 by omega)
  have h3 := Int.emod_lt_of_pos (-x) hy
  have h4 : cdiv x y * y = -(y * (-x / y)) := by unfold cdiv; rw [Int.neg_mul, Int.mul_comm]
  omega
theorem cdiv_unique {x y q : Int} (hy : 0 < y) (h : x ≤ q * y) (h' : q * y < x + y) : q = cdiv x y := by
  obtain ⟨k, k'⟩ := cdiv_spec x hy
  have := small_factor (s := q - cdiv x y) hy (by rw [Int.sub_mul]; omega) (by rw [Int.sub_mul]; omega)
  omega
theorem tdiv_pos {x y : Int} (hx : 0 ≤ x) : x.tdiv y = x / y := Int.tdiv_eq_ediv_of_nonneg hx
theorem cdiv_up {x y : Int} (hx : 0 < x) (hx' : x ≤ 1099511627776) (hy : 0 < y) (h : (x % y != 0) = true) : wrap64 (x.tdiv y + 1) = cdiv x y := by
  have h0 : x % y ≠ 0 := by simpa using h
  have h1 := Int.mul_ediv_add_emod x y
  have h2 := Int.emod_nonneg x (show y ≠ 0 by omega)
  have h3 := Int.emod_lt_of_pos x hy
  have h4 : 0 ≤ x / y := Int.ediv_nonneg (by omega) (by omega)
  have h5 : x / y ≤ x := Int.ediv_le_self _ (by omega)
  rw [tdiv_pos (by omega), wrap_in (by omega) (by omega)]
  refine cdiv_unique hy ?_ ?_ <;> (rw [Int.add_mul, Int.mul_comm]; omega)
theorem cdiv_exact {x y : Int} (hx : 0 < x) (hy : 0 < y) (h : (x % y != 0) = false) : x.tdiv y = cdiv x y := by
  have h0 : x % y = 0 := by simpa using h
  have h1 := Int.mul_ediv_add_emod x y
  rw [tdiv_pos (by omega)]
  refine cdiv_unique hy ?_ ?_ <;> (rw [Int.mul_comm]; omega)
theorem cdiv_neg {x y : Int} (hx : x ≤ 0) : x.tdiv y = cdiv x y := by
  unfold cdiv
  rw [← tdiv_pos (x := -x) (by omega), Int.neg_tdiv, Int.neg_neg]
theorem cdiv_bd {x y : Int} (hx : -1099511627776 ≤ x) (hx' : x ≤ 1099511627776) (hy : 0 < y) : -1099511627776 ≤ cdiv x y ∧ cdiv x y ≤ 1099511627776 := by
  rcases Int.lt_or_le 0 x with h | h
  · have h1 : 0 ≤ cdiv x y := by
      obtain ⟨k, _⟩ := cdiv_spec x hy
      rcases Int.lt_or_le (cdiv x y) 0 with h1 | h1
      · have := Int.mul_neg_of_neg_of_pos h1 hy; omega
      · exact h1
    have h2 : cdiv x y ≤ x := by
      unfold cdiv
      have := Int.le_ediv_of_mul_le hy (show -x * y ≤ -x by
        have := Int.mul_le_mul_of_nonneg_left (show (1 : Int) ≤ y by omega) (show 0 ≤ x by omega)
        rw [Int.neg_mul]; omega)
      omega
    omega
  · have h1 : cdiv x y = -((-x) / y) := rfl
    have h2 : 0 ≤ (-x) / y := Int.ediv_nonneg (by omega) (by omega)
    have h3 : (-x) / y ≤ -x := Int.ediv_le_self _ (by omega)
    omega
theorem ceilQ_pos {a b : Int} (h : 0 < clamp b) : ceilQ a b = cdiv (clamp a) (clamp b) := by unfold ceilQ; rw [if_neg (by omega)]
theorem ceilQ_neg {a b : Int} (h : clamp b ≤ 0) : ceilQ a b = 0 := by unfold ceilQ; rw [if_pos h]
theorem ceilE_pos {b : Int} (h : 0 < clamp b) : ceilE b = 0 := by unfold ceilE; rw [if_neg (by omega)]
theorem ceilE_neg {b : Int} (h : clamp b ≤ 0) : ceilE b = 2 := by unfold ceilE; rw [if_pos h]

theorem tdiv_facts (x : Int) {y : Int} (hy : 0 < y) : (0 ≤ x → x.tdiv y * y ≤ x ∧ x < x.tdiv y * y + y ∧ 0 ≤ x.tdiv y * y ∧ 0 ≤ x.tdiv y ∧ x.tdiv y ≤ x) ∧ (x ≤ 0 → x ≤ x.tdiv y * y ∧ x.tdiv y * y < x + y ∧ x.tdiv y * y ≤ 0 ∧ x.tdiv y = cdiv x y) := by
  refine ⟨fun h => ?_, fun h => ?_⟩
  · have h1 := Int.mul_ediv_add_emod x y
    have h2 := Int.emod_nonneg x (show y ≠ 0 by omega)
    have h3 := Int.emod_lt_of_pos x hy
    have h4 : 0 ≤ x / y := Int.ediv_nonneg (by omega) (by omega)
    have h5 : x / y ≤ x := Int.ediv_le_self _ (by omega)
    have h6 : 0 ≤ x / y * y := Int.mul_nonneg h4 (by omega)
    rw [tdiv_pos h]
    rw [Int.mul_comm] at h1
    omega
  · have h1 := cdiv_neg (y := y) h
    obtain ⟨k, k'⟩ := cdiv_spec x hy
    rw [h1]
    have h2 : cdiv x y * y ≤ 0 := by
      have h3 : 0 ≤ (-x) / y := Int.ediv_nonneg (by omega) (by omega)
      have h4 : 0 ≤ (-x) / y * y := Int.mul_nonneg h3 (by omega)
      have h5 : cdiv x y * y = -((-x) / y * y) := by unfold cdiv; rw [Int.neg_mul]
      omega
    exact ⟨k, k', h2, rfl⟩
theorem ref_up {x y : Int} (hx : -1099511627776 ≤ x) (hx' : x ≤ 1099511627776) (hy : 0 < y) (hy' : y ≤ 1099511627776) (h : wrap64 (x.tdiv y * y) < x) : wrap64 (x.tdiv y + 1) = cdiv x y := by
  obtain ⟨f, g⟩ := tdiv_facts x hy
  rcases Int.lt_or_le x 0 with h0 | h0
  · have := g (by omega)
    rw [wrap_in (by omega) (by omega)] at h
    omega
  · obtain ⟨f1, f2, f3, f4, f5⟩ := f h0
    rw [wrap_in (by omega) (by omega)] at h
    rw [wrap_in (by omega) (by omega)]
    refine cdiv_unique hy ?_ ?_ <;> (rw [Int.add_mul]; omega)
theorem ref_no {x y : Int} (hx : -1099511627776 ≤ x) (hx' : x ≤ 1099511627776) (hy : 0 < y) (hy' : y ≤ 1099511627776) (h : x ≤ wrap64 (x.tdiv y * y)) : x.tdiv y = cdiv x y := by
  obtain ⟨f, g⟩ := tdiv_facts x hy
  rcases Int.lt_or_le x 0 with h0 | h0
  · exact (g (by omega)).2.2.2
  · obtain ⟨f1, f2, f3, f4, f5⟩ := f h0
    rw [wrap_in (by omega) (by omega)] at h
    exact cdiv_unique hy (by omega) (by omega)

theorem quo_le {u v : Int} (hv : 0 < v) (h : u ≤ 1099511627776 / v) : u * v ≤ 1099511627776 := (Int.le_ediv_iff_mul_le hv).1 h
theorem quo_gt {u v : Int} (hv : 0 < v) (h : 1099511627776 / v < u) : 1099511627776 < u * v := by
  have := mt (Int.le_ediv_iff_mul_le (a := u) (b := 1099511627776) hv).2 (by omega); omega
theorem neg_quo {y : Int} (hy : y < 0) (hy' : -1099511627776 ≤ y) : wrap64 (-Int.tdiv 1099511627776 y) = 1099511627776 / (-y) := by
  have h1 : -Int.tdiv 1099511627776 y = 1099511627776 / (-y) := by rw [← Int.tdiv_neg, tdiv_pos (by omega)]
  have h2 : 0 ≤ (1099511627776 : Int) / (-y) := Int.ediv_nonneg (by omega) (by omega)
  have h3 : (1099511627776 : Int) / (-y) ≤ 1099511627776 := Int.ediv_le_self _ (by omega)
  rw [h1, wrap_in (by omega) (by omega)]
theorem m_pp {x y : Int} (hx : 0 < x) (hy : 0 < y) (h : x ≤ 1099511627776 / y) : wrap64 (x * y) = clamp (x * y) := by
  have := quo_le hy h
  have h0 : 0 ≤ x * y := Int.mul_nonneg (by omega) (by omega)
  rw [wrap_in (by omega) (by omega), clamp_id _ (by omega) (by omega)]
theorem m_pp' {x y : Int} (hy : 0 < y) (h : 1099511627776 / y < x) : 1099511627776 = clamp (x * y) := by
  have := quo_gt hy h
  rw [clamp_hi _ (by omega)]
theorem m_nn {x y : Int} (hx : x < 0) (hy : y < 0) (hy' : -1099511627776 ≤ y) (h : -x ≤ wrap64 (-Int.tdiv 1099511627776 y)) : wrap64 (-x * -y) = clamp (x * y) := by
  rw [neg_quo hy hy'] at h
  have := m_pp (x := -x) (y := -y) (by omega) (by omega) h
  rw [this, Int.neg_mul_neg]
theorem m_nn' {x y : Int} (hy : y < 0) (hy' : -1099511627776 ≤ y) (h : wrap64 (-Int.tdiv 1099511627776 y) < -x) : 1099511627776 = clamp (x * y) := by
  rw [neg_quo hy hy'] at h
  have := m_pp' (x := -x) (y := -y) (by omega) h
  rw [Int.neg_mul_neg] at this
  exact this
theorem m_neg {u v z : Int} (hu : 0 < u) (hv : 0 < v) (h : u ≤ 1099511627776 / v) (hz : z = -(u * v)) : wrap64 (-wrap64 (u * v)) = clamp z := by
  have := quo_le hv h
  have h0 : 0 ≤ u * v := Int.mul_nonneg (by omega) (by omega)
  rw [wrap_in (n := u * v) (by omega) (by omega), wrap_in (by omega) (by omega), clamp_id _ (by omega) (by omega), hz]
theorem m_neg' {u v z : Int} (hv : 0 < v) (h : 1099511627776 / v < u) (hz : z = -(u * v)) : -1099511627776 = clamp z := by
  have := quo_gt hv h
  rw [clamp_lo _ (by omega)]
theorem m_np {x y : Int} (hx : x < 0) (hy : 0 < y) (h : -x ≤ 1099511627776 / y) : wrap64 (-wrap64 (-x * y)) = clamp (x * y) := m_neg (by omega) hy h (by rw [Int.neg_mul, Int.neg_neg])
theorem m_np' {x y : Int} (hy : 0 < y) (h : 1099511627776 / y < -x) : -1099511627776 = clamp (x * y) := m_neg' hy h (by rw [Int.neg_mul, Int.neg_neg])
theorem m_pn {x y : Int} (hx : 0 < x) (hy : y < 0) (hy' : -1099511627776 ≤ y) (h : x ≤ wrap64 (-Int.tdiv 1099511627776 y)) : wrap64 (-wrap64 (x * -y)) = clamp (x * y) := by
  rw [neg_quo hy hy'] at h
  exact m_neg hx (by omega) h (by rw [Int.mul_neg, Int.neg_neg])
theorem m_pn' {x y : Int} (hy : y < 0) (hy' : -1099511627776 ≤ y) (h : wrap64 (-Int.tdiv 1099511627776 y) < x) : -1099511627776 = clamp (x * y) := by
  rw [neg_quo hy hy'] at h
  exact m_neg' (by omega) h (by rw [Int.mul_neg, Int.neg_neg])
end Go.Proofs.Ytldgnkceecgacaa.Pl
