/- Plain mathematics of the layer decide: what a step is, by the plain functions of sat. No walk stands here. -/
import Derived.Test.YtldgnkceecgacaaPlainB
namespace Go.Proofs.Ytldgnkceecgacaa.Pl
open Go.RowKit

/-- A policy's seven numbers. -/
structure Pol where
  mn : Int
  mx : Int
  goal : Int
  slack : Int
  up : Int
  down : Int
  cool : Int

def inB (n lo hi : Int) : Bool := within n lo hi == n
theorem inB_iff (n lo hi : Int) : inB n lo hi = true ↔ lo ≤ n ∧ n ≤ hi := by
  unfold inB within; rw [beq_iff_eq]; (repeat' split) <;> omega
theorem inB_no (n lo hi : Int) : inB n lo hi = false ↔ ¬ (lo ≤ n ∧ n ≤ hi) := by rw [← inB_iff]; simp

def rightB (p : Pol) : Bool := inB p.mx 0 1000 && inB p.mn 0 p.mx && inB p.goal 1 1073741824 && inB p.slack 0 100 && inB p.up 1 1000 && inB p.down 1 1000 && inB p.cool 0 1000
/-- A policy that may be. -/
structure Right (p : Pol) : Prop where
  mx0 : 0 ≤ p.mx
  mx1 : p.mx ≤ 1000
  mn0 : 0 ≤ p.mn
  mn1 : p.mn ≤ p.mx
  goal0 : 1 ≤ p.goal
  goal1 : p.goal ≤ 1073741824
  slack0 : 0 ≤ p.slack
  slack1 : p.slack ≤ 100
  up0 : 1 ≤ p.up
  up1 : p.up ≤ 1000
  down0 : 1 ≤ p.down
  down1 : p.down ≤ 1000
  cool0 : 0 ≤ p.cool
  cool1 : p.cool ≤ 1000
theorem rightB_iff (p : Pol) : rightB p = true ↔ Right p := by
  unfold rightB
  simp only [Bool.and_eq_true, inB_iff]
  exact ⟨fun ⟨⟨⟨⟨⟨⟨h1, h2⟩, h3⟩, h4⟩, h5⟩, h6⟩, h7⟩ => ⟨h1.1, h1.2, h2.1, h2.2, h3.1, h3.2, h4.1, h4.2, h5.1, h5.2, h6.1, h6.2, h7.1, h7.2⟩,
    fun h => ⟨⟨⟨⟨⟨⟨⟨h.mx0, h.mx1⟩, h.mn0, h.mn1⟩, h.goal0, h.goal1⟩, h.slack0, h.slack1⟩, h.up0, h.up1⟩, h.down0, h.down1⟩, h.cool0, h.cool1⟩⟩

/-- What a load asks for. -/
def askF (p : Pol) (load : Int) : Int := within (ceilQ (if 0 < load then load else 0) p.goal) p.mn p.mx
def offF (a b : Int) : Int := if 0 ≤ sub a b then sub a b else -sub a b
def carried (p : Pol) (now : Int) : Int := mul now p.goal
def calmB (p : Pol) (load now : Int) : Bool := decide (0 < now) && decide (mul 100 (offF load (carried p now)) ≤ mul p.slack (carried p now))
def cut (load : Int) : Int := within load 0 1099511627776
/-- What is wished for ahead of the bounds of a step. -/
def wish (p : Pol) (load now : Int) : Int := if calmB p (cut load) now = true then within now p.mn p.mx else askF p (cut load)
def stepF (p : Pol) (load now : Int) : Int := within (wish p load now) (now - p.down) (now + p.up)
def okB (p : Pol) (now : Int) : Bool := rightB p && inB now 0 1000
def stepQ (p : Pol) (load now : Int) : Int := if okB p now = true then stepF p load now else 0
def stepE (p : Pol) (now : Int) : Int := if okB p now = true then 0 else 2

/-- Steps to rest, so many at the most: how many, and where. -/
def run (p : Pol) (load : Int) : Nat → Nat → Int → Nat × Int
  | 0, k, x => (k, x)
  | f + 1, k, x => if stepF p load x = x then (k, x) else run p load f (k + 1) (stepF p load x)
def stepsN (p : Pol) (load now : Int) : Int := if okB p now = true then ((run p load 1001 0 now).1 : Int) else 0
def stepsEnd (p : Pol) (load now : Int) : Int := if okB p now = true then (run p load 1001 0 now).2 else 0

variable {p : Pol} (h : Right p)
include h
theorem ask_bd (load : Int) : p.mn ≤ askF p load ∧ askF p load ≤ p.mx := within_bd h.mn1
theorem wish_bd (load now : Int) : p.mn ≤ wish p load now ∧ wish p load now ≤ p.mx := by
  unfold wish; split
  · exact within_bd h.mn1
  · exact ask_bd h _
theorem step_near (load now : Int) : now - p.down ≤ stepF p load now ∧ stepF p load now ≤ now + p.up := within_bd (by have := h.up0; have := h.down0; omega)
theorem step_range (load : Int) {now : Int} (h0 : 0 ≤ now) (h1 : now ≤ 1000) : 0 ≤ stepF p load now ∧ stepF p load now ≤ 1000 := by
  have w := wish_bd h load now
  have := h.up0; have := h.down0; have := h.mn0; have := h.mx1
  unfold stepF within
  (repeat' split) <;> omega
/-- Where a step leads: never away from the wish, and just by as much as may be. -/
theorem step_cases (load now : Int) : (wish p load now < now → stepF p load now < now ∧ wish p load now ≤ stepF p load now) ∧ (now < wish p load now → now < stepF p load now ∧ stepF p load now ≤ wish p load now) ∧ (wish p load now = now → stepF p load now = now) := by
  have := h.up0; have := h.down0
  unfold stepF within
  (repeat' split) <;> omega
/-- The wish lies between the number and what the load asks for. -/
theorem wish_between (load now : Int) : (now ≤ askF p (cut load) → now ≤ wish p load now ∧ wish p load now ≤ askF p (cut load)) ∧ (askF p (cut load) ≤ now → askF p (cut load) ≤ wish p load now ∧ wish p load now ≤ now) := by
  have a := ask_bd h (cut load)
  unfold wish
  split
  · unfold within; (repeat' split) <;> omega
  · omega
theorem step_between (load now : Int) : (now ≤ askF p (cut load) → now ≤ stepF p load now ∧ stepF p load now ≤ askF p (cut load)) ∧ (askF p (cut load) ≤ now → askF p (cut load) ≤ stepF p load now ∧ stepF p load now ≤ now) := by
  have a := wish_between h load now
  have b := step_cases h load now
  refine ⟨fun k => ?_, fun k => ?_⟩
  · have := a.1 k
    rcases Int.lt_or_le now (wish p load now) with c | c
    · have := b.2.1 c; omega
    · have := b.2.2 (by omega); omega
  · have := a.2 k
    rcases Int.lt_or_le (wish p load now) now with c | c
    · have := b.1 c; omega
    · have := b.2.2 (by omega); omega
end Go.Proofs.Ytldgnkceecgacaa.Pl
