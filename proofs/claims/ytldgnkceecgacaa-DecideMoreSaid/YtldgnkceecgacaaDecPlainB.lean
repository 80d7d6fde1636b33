/- Plain laws of the layer decide: bounds of a step, more load, steps to rest. -/
import Derived.Test.YtldgnkceecgacaaDecPlain
namespace Go.Proofs.Ytldgnkceecgacaa.Pl
open Go.RowKit

section
variable {p : Pol} (h : Right p)
include h
theorem step_in (load : Int) {now : Int} (h0 : p.mn ≤ now) (h1 : now ≤ p.mx) : p.mn ≤ stepF p load now ∧ stepF p load now ≤ p.mx := by
  have w := wish_bd h load now; have := h.up0; have := h.down0
  unfold stepF within; (repeat' split) <;> omega
theorem step_below (load : Int) {now : Int} (h0 : now < p.mn) : now < stepF p load now ∧ stepF p load now ≤ p.mx := by
  have w := wish_bd h load now; have := h.up0; have := h.down0
  unfold stepF within; (repeat' split) <;> omega
theorem step_above (load : Int) {now : Int} (h0 : p.mx < now) : stepF p load now < now ∧ p.mn ≤ stepF p load now := by
  have w := wish_bd h load now; have := h.up0; have := h.down0
  unfold stepF within; (repeat' split) <;> omega
end

theorem within_mono {a b lo hi : Int} (h : a ≤ b) (hl : lo ≤ hi) : within a lo hi ≤ within b lo hi := by unfold within; (repeat' split) <;> omega
theorem ceilQ_mono {a b c : Int} (h : a ≤ b) (hc : 1 ≤ c) : ceilQ a c ≤ ceilQ b c := by
  have hc' := clamp_pos (show 0 < c by omega)
  rw [ceilQ_pos hc', ceilQ_pos hc']
  exact cdiv_mono hc' (clamp_mono h)
theorem ask_mono {p : Pol} (h : Right p) {a b : Int} (hab : a ≤ b) : askF p (cut a) ≤ askF p (cut b) := by
  unfold askF
  refine within_mono (ceilQ_mono ?_ h.goal0) h.mn1
  have := within_mono (lo := 0) (hi := 1099511627776) hab (by decide)
  unfold cut
  (repeat' split) <;> omega
theorem ask_cut {p : Pol} (h : Right p) (a : Int) : askF p a = askF p (cut a) := by
  have hc' := clamp_pos (show 0 < p.goal by have := h.goal0; omega)
  unfold askF
  congr 1
  rw [ceilQ_pos hc', ceilQ_pos hc']
  congr 1
  unfold cut clamp within
  (repeat' split) <;> omega

theorem mul_zero (c : Int) : mul 0 c = 0 := by unfold mul; rw [clamp_id 0 (by decide) (by decide), Int.zero_mul]; rfl
theorem mul_hundred {o : Int} (h : mul 100 o ≤ 0) (h0 : 0 ≤ o) : o = 0 := by
  rcases Int.lt_or_le 0 o with h1 | h1
  · have h2 := clamp_pos h1
    unfold mul at h
    rw [clamp_id 100 (by decide) (by decide)] at h
    have h3 := clamp_mono (show 100 ≤ 100 * clamp o by omega)
    rw [clamp_id 100 (by decide) (by decide)] at h3
    omega
  · omega
theorem off_nonneg (a b : Int) : 0 ≤ offF a b := by unfold offF; split <;> omega
theorem off_zero {a b : Int} (h : offF a b = 0) (ha : 0 ≤ a) (ha' : a ≤ 1099511627776) (hb : 0 ≤ b) (hb' : b ≤ 1099511627776) : a = b := by
  have h1 : sub a b = 0 := by unfold offF at h; split at h <;> omega
  unfold sub at h1
  rw [clamp_id a (by omega) (by omega), clamp_id b (by omega) (by omega), clamp_id (a - b) (by omega) (by omega)] at h1
  omega
theorem carried_eq {p : Pol} (h : Right p) {now : Int} (h0 : 0 ≤ now) (h1 : now ≤ 1000) : carried p now = now * p.goal ∧ 0 ≤ now * p.goal ∧ now * p.goal ≤ 1099511627776 := by
  have g0 := h.goal0; have g1 := h.goal1
  have a1 : 0 ≤ now * p.goal := Int.mul_nonneg h0 (by omega)
  have a2 : now * p.goal ≤ 1000 * 1073741824 := Int.mul_le_mul h1 g1 (by omega) (by omega)
  refine ⟨?_, a1, by omega⟩
  unfold carried mul
  rw [clamp_id now (by omega) (by omega), clamp_id p.goal (by omega) (by omega), clamp_id (now * p.goal) (by omega) (by omega)]
/-- Without slack what is calm is what the load asks for. -/
theorem calm_ask {p : Pol} (h : Right p) (hs : p.slack = 0) {load now : Int} (h0 : 0 ≤ now) (h1 : now ≤ 1000) (hc : calmB p (cut load) now = true) : within now p.mn p.mx = askF p (cut load) := by
  unfold calmB at hc
  simp only [Bool.and_eq_true, decide_eq_true_eq] at hc
  obtain ⟨hn, hm⟩ := hc
  rw [hs, mul_zero] at hm
  obtain ⟨c1, c2, c3⟩ := carried_eq h h0 h1
  have cb := within_bd (n := load) (lo := 0) (hi := 1099511627776) (by decide)
  have ho := off_zero (mul_hundred hm (off_nonneg _ _)) cb.1 cb.2 (by rw [c1]; exact c2) (by rw [c1]; exact c3)
  have g0 := h.goal0; have g1 := h.goal1
  have hpos : 0 < now * p.goal := Int.mul_pos hn (by omega)
  have ho' : cut load = now * p.goal := by rw [← c1]; exact ho
  unfold askF
  rw [ho', if_pos hpos, ceilQ_pos (clamp_pos (by omega)), clamp_id _ (by omega) (by omega), clamp_id _ (by omega) (by omega)]
  congr 1
  exact cdiv_unique (by omega) (by omega) (by omega)
theorem wish_slack {p : Pol} (h : Right p) (hs : p.slack = 0) (load : Int) {now : Int} (h0 : 0 ≤ now) (h1 : now ≤ 1000) : wish p load now = askF p (cut load) := by
  unfold wish; split
  · exact calm_ask h hs h0 h1 (by assumption)
  · rfl
theorem step_slack {p : Pol} (h : Right p) (hs : p.slack = 0) (load : Int) {now : Int} (h0 : 0 ≤ now) (h1 : now ≤ 1000) : stepF p load now = within (askF p load) (now - p.down) (now + p.up) := by
  unfold stepF; rw [wish_slack h hs load h0 h1, ← ask_cut h]
theorem step_more {p : Pol} (h : Right p) (hs : p.slack = 0) {a b now : Int} (h0 : 0 ≤ now) (h1 : now ≤ 1000) (hab : a ≤ b) : stepF p a now ≤ stepF p b now := by
  rw [step_slack h hs a h0 h1, step_slack h hs b h0 h1, ask_cut h a, ask_cut h b]
  exact within_mono (ask_mono h hab) (by have := h.up0; have := h.down0; omega)
theorem step_asked {p : Pol} (h : Right p) (hs : p.slack = 0) (a : Int) {now : Int} (h0 : 0 ≤ now) (h1 : now ≤ 1000) :
    (stepF p a now = askF p a) ∨ (stepF p a now = now + p.up ∧ stepF p a now < askF p a) ∨ (stepF p a now = now - p.down ∧ askF p a < stepF p a now) := by
  rw [step_slack h hs a h0 h1]
  have := h.up0; have := h.down0
  unfold within; (repeat' split) <;> omega

/-! ### Steps of one load -/
def itx (p : Pol) (load x : Int) : Nat → Int
  | 0 => x
  | k + 1 => stepF p load (itx p load x k)
theorem itx_shift (p : Pol) (load x : Int) (k : Nat) : itx p load (stepF p load x) k = itx p load x (k + 1) := by
  induction k with
  | zero => rfl
  | succ k ih => simp only [itx] at ih ⊢; rw [ih]
theorem run_spec (p : Pol) (load : Int) : ∀ (f k : Nat) (x : Int), ∃ N, N ≤ f ∧ run p load f k x = (k + N, itx p load x N) ∧ (∀ j, j < N → stepF p load (itx p load x j) ≠ itx p load x j) ∧ (N < f → stepF p load (itx p load x N) = itx p load x N)
  | 0, k, x => ⟨0, Nat.le_refl _, rfl, fun j h => absurd h (Nat.not_lt_zero _), fun h => absurd h (Nat.not_lt_zero _)⟩
  | f + 1, k, x => by
    by_cases hx : stepF p load x = x
    · exact ⟨0, by omega, by simp only [run]; rw [if_pos hx]; rfl, fun j h => absurd h (Nat.not_lt_zero _), fun _ => hx⟩
    · obtain ⟨N, h1, h2, h3, h4⟩ := run_spec p load f (k + 1) (stepF p load x)
      refine ⟨N + 1, by omega, ?_, ?_, ?_⟩
      · simp only [run]; rw [if_neg hx, h2, itx_shift]; congr 1; omega
      · intro j hj
        cases j with
        | zero => exact hx
        | succ j => have := h3 j (by omega); rwa [itx_shift] at this
      · intro hN
        have := h4 (by omega)
        rwa [itx_shift] at this
section
variable {p : Pol} (h : Right p)
include h
theorem itx_range (load : Int) {now : Int} (h0 : 0 ≤ now) (h1 : now ≤ 1000) (k : Nat) : 0 ≤ itx p load now k ∧ itx p load now k ≤ 1000 := by
  induction k with
  | zero => exact ⟨h0, h1⟩
  | succ k ih => exact step_range h load ih.1 ih.2
theorem itx_up (load : Int) {now : Int} (ha : now ≤ askF p (cut load)) (k : Nat) : itx p load now k ≤ askF p (cut load) ∧ itx p load now k ≤ itx p load now (k + 1) := by
  induction k with
  | zero => have := (step_between h load now).1 ha; exact ⟨ha, this.1⟩
  | succ k ih =>
    have h1 := (step_between h load (itx p load now k)).1 ih.1
    have h2 := (step_between h load (itx p load now (k + 1))).1 h1.2
    exact ⟨h1.2, h2.1⟩
theorem itx_down (load : Int) {now : Int} (ha : askF p (cut load) ≤ now) (k : Nat) : askF p (cut load) ≤ itx p load now k ∧ itx p load now (k + 1) ≤ itx p load now k := by
  induction k with
  | zero => have := (step_between h load now).2 ha; exact ⟨ha, this.2⟩
  | succ k ih =>
    have h1 := (step_between h load (itx p load now k)).2 ih.1
    have h2 := (step_between h load (itx p load now (k + 1))).2 h1.1
    exact ⟨h1.1, h2.2⟩
theorem itx_far (load : Int) {now : Int} (N : Nat) (hne : ∀ j, j < N → stepF p load (itx p load now j) ≠ itx p load now j) :
    (now ≤ askF p (cut load) → now + N ≤ itx p load now N) ∧ (askF p (cut load) ≤ now → itx p load now N ≤ now - N) := by
  induction N with
  | zero => simp [itx]
  | succ N ih =>
    have ih' := ih (fun j hj => hne j (by omega))
    have hN : itx p load now (N + 1) ≠ itx p load now N := hne N (by omega)
    refine ⟨fun ha => ?_, fun ha => ?_⟩
    · have := ih'.1 ha; have := (itx_up h load ha N).2; omega
    · have := ih'.2 ha; have := (itx_down h load ha N).2; omega
/-- THE STEPS REST, within 1000, and never turn back. -/
theorem rests (load : Int) {now : Int} (h0 : 0 ≤ now) (h1 : now ≤ 1000) : ∃ N : Nat, N ≤ 1000 ∧ run p load 1001 0 now = (N, itx p load now N) ∧ (∀ j, j < N → stepF p load (itx p load now j) ≠ itx p load now j) ∧ stepF p load (itx p load now N) = itx p load now N := by
  obtain ⟨N, g1, g2, g3, g4⟩ := run_spec p load 1001 0 now
  have hf := itx_far h load N g3
  have ab := ask_bd h (cut load)
  have := h.mn0; have := h.mx1
  have hN : N ≤ 1000 := by
    rcases Int.le_total now (askF p (cut load)) with ha | ha
    · have := hf.1 ha; have := (itx_up h load ha N).1; omega
    · have := hf.2 ha; have := (itx_down h load ha N).1; omega
  exact ⟨N, hN, by rw [g2, Nat.zero_add], g3, g4 (by omega)⟩
end
end Go.Proofs.Ytldgnkceecgacaa.Pl
