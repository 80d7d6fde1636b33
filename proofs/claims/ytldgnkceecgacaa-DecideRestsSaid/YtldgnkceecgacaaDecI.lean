/- How a policy reads; the contracts of Step and Steps in one form. -/
import Derived.Test.YtldgnkceecgacaaDecH
import Derived.ProofKit
import Derived.OpenShut
import Derived.Lib.SmallJoins
namespace Go.Proofs.Ytldgnkceecgacaa
open Go.RowKit Go.ChangeShapes Go.WideShapes
set_option linter.unusedVariables false

section
variable {H : Type} {enc : TypeId × Value → H} {P : Program} {w : World} {base : Nat} {spare : Nat → Bool} {held : Bool} {fuel : Nat} {t : TypeId} {cs : List Value} {x : DataW H × List MemPlace}
theorem field_reads {fs : Array Field} (ht : P.underlying t = some (.struct fs)) (h : DataW.trod enc P w base spare held fuel t cs = some x) {i : Nat} {f : Field} (hi : fs[i]? = some f) :
    ∃ n y, DataW.trod enc P w base spare held n f.type ((cs.drop f.offset).take (P.cellsOf f.type)) = some y := by
  obtain ⟨xs, n, _, rfl, hl, hlen, hf⟩ := DataW.trod_struct ht h
  have hlt : i < xs.length := by rw [hlen]; exact (Array.getElem?_eq_some_iff.1 hi).1
  exact ⟨n, xs[i], by rw [hf i f hi, List.getElem?_eq_getElem hlt]⟩
theorem field_int {fs : Array Field} {k : IntKind} (ht : P.underlying t = some (.struct fs)) (h : DataW.trod enc P w base spare held fuel t cs = some x) {i : Nat} {f : Field} (hi : fs[i]? = some f)
    (he : P.underlying f.type = some (.int k)) (hc : P.cellsOf f.type = 1) : ∃ n, cs[f.offset]? = some (.int k n) ∧ (Lit.int k n).wf = true := by
  obtain ⟨m, y, hy⟩ := field_reads ht h hi
  obtain ⟨n, e, _, wn⟩ := DataW.trod_int he hy
  refine ⟨n, ?_, wn⟩
  rw [hc] at e
  have h0 : ((cs.drop f.offset).take 1)[0]? = some (.int k n) := by rw [e]; rfl
  rw [List.getElem?_take, if_pos (by decide), List.getElem?_drop] at h0
  simpa using h0
end

theorem list7 {α : Type} {l : List α} {a b c d e f g : α} (hl : l.length = 7) (h0 : l[0]? = some a) (h1 : l[1]? = some b) (h2 : l[2]? = some c) (h3 : l[3]? = some d) (h4 : l[4]? = some e) (h5 : l[5]? = some f) (h6 : l[6]? = some g) : l = [a, b, c, d, e, f, g] := by
  match l, hl with
  | [_, _, _, _, _, _, _], _ => simp at h0 h1 h2 h3 h4 h5 h6; simp [*]

theorem cells35 : Try.prog.cellsOf 35 = 7 := by kernel_rfl
theorem cells3 : Try.prog.cellsOf 3 = 1 := by kernel_rfl
section
variable {H : Type} {enc : TypeId × Value → H} {w : World} {base : Nat} {spare : Nat → Bool} {held : Bool} {fuel : Nat} {cs : List Value} {x : DataW H × List MemPlace}
theorem pol_cells (h : DataW.trod enc Try.prog w base spare held fuel 35 cs = some x) : ∃ p : Pl.Pol, cs = [.int .i64 p.mn, .int .i64 p.mx, .int .i64 p.goal, .int .i64 p.slack, .int .i64 p.up, .int .i64 p.down, .int .i64 p.cool] := by
  obtain ⟨xs, n, _, rfl, hl, hlen, hf⟩ := DataW.trod_struct Try.underlying35 h
  obtain ⟨n0, e0, _⟩ := field_int Try.underlying35 h (i := 0) rfl Try.underlying3 cells3
  obtain ⟨n1, e1, _⟩ := field_int Try.underlying35 h (i := 1) rfl Try.underlying3 cells3
  obtain ⟨n2, e2, _⟩ := field_int Try.underlying35 h (i := 2) rfl Try.underlying3 cells3
  obtain ⟨n3, e3, _⟩ := field_int Try.underlying35 h (i := 3) rfl Try.underlying3 cells3
  obtain ⟨n4, e4, _⟩ := field_int Try.underlying35 h (i := 4) rfl Try.underlying3 cells3
  obtain ⟨n5, e5, _⟩ := field_int Try.underlying35 h (i := 5) rfl Try.underlying3 cells3
  obtain ⟨n6, e6, _⟩ := field_int Try.underlying35 h (i := 6) rfl Try.underlying3 cells3
  exact ⟨⟨n0, n1, n2, n3, n4, n5, n6⟩, list7 (hl.trans cells35) e0 e1 e2 e3 e4 e5 e6⟩
end
/-- What the walk is told of a policy that came in. -/
def IsPol (v : Value) : Prop := ∃ p : Pl.Pol, v = polV p
theorem open_pol {H : Type} {enc : TypeId × Value → H} {W : World} {base : Nat} {v : Value} {d : DataW H} {q : List MemPlace} (hv : Value.okWide Try.prog W .any base 35 v)
    (h : DataW.Trod enc Try.prog W 0 (fun _ => true) true 35 v d q) : IsPol v := by
  obtain ⟨cs, rfl, hsz⟩ := okWide_struct Try.underlying35 hv
  obtain ⟨fuel, hf⟩ := h
  obtain ⟨p, hp⟩ := pol_cells hf
  obtain ⟨l⟩ := cs
  exact ⟨p, by simp only [Value.cells] at hp; rw [hp]⟩

theorem step_any (p : Pl.Pol) (load now : Int) (w : World) : Calls Try.prog 27 #[polV p, .int .i64 load, .int .i64 now] w fun e w' => e = .returned (.tuple #[.int .i64 (Pl.stepQ p load now), .int .i64 (Pl.stepE p now)]) ∧ Below w.heap.size w w' := by
  cases h : Pl.okB p now
  · rw [stepQ_no h, stepE_no h]; exact step_no p load now w h
  · rw [stepQ_ok h, stepE_ok h]; exact step_ok p load now w h
theorem stepR_any (p : Pl.Pol) (load now : Int) (w : World) : Calls Try.prog 28 #[polV p, .int .i64 load, .int .i64 now] w fun e w' => e = .returned (.tuple #[.int .i64 (Pl.stepQ p load now), .int .i64 (Pl.stepE p now)]) ∧ Below w.heap.size w w' := by
  cases h : Pl.okB p now
  · rw [stepQ_no h, stepE_no h]; exact stepR_no p load now w h
  · rw [stepQ_ok h, stepE_ok h]; exact stepR_ok p load now w h
theorem stepsN_no {p : Pl.Pol} {load now : Int} (h : Pl.okB p now = false) : Pl.stepsN p load now = 0 := by unfold Pl.stepsN; rw [h]; rfl
theorem stepsEnd_no {p : Pl.Pol} {load now : Int} (h : Pl.okB p now = false) : Pl.stepsEnd p load now = 0 := by unfold Pl.stepsEnd; rw [h]; rfl
theorem steps_any (p : Pl.Pol) (load now : Int) (w : World) : Calls Try.prog 29 #[polV p, .int .i64 load, .int .i64 now] w fun e w' => e = .returned (.tuple #[.int .i64 (Pl.stepsN p load now), .int .i64 (Pl.stepsEnd p load now), .int .i64 (Pl.stepE p now)]) ∧ Below w.heap.size w w' := by
  cases h : Pl.okB p now
  · rw [stepsN_no h, stepsEnd_no h, stepE_no h]; exact steps_no p load now w h
  · rw [stepE_ok h]; exact steps_ok p load now w h
theorem stepsR_any (p : Pl.Pol) (load now : Int) (w : World) : Calls Try.prog 30 #[polV p, .int .i64 load, .int .i64 now] w fun e w' => e = .returned (.tuple #[.int .i64 (Pl.stepsN p load now), .int .i64 (Pl.stepsEnd p load now), .int .i64 (Pl.stepE p now)]) ∧ Below w.heap.size w w' := by
  cases h : Pl.okB p now
  · rw [stepsN_no h, stepsEnd_no h, stepE_no h]; exact stepsR_no p load now w h
  · rw [stepE_ok h]; exact stepsR_ok p load now w h

set_option maxHeartbeats 400000 in
theorem dsteps_walk (v : Value) (load now : Int) (w : World) (hv : IsPol v) (wl : (Lit.int .i64 load).wf = true) (wn : (Lit.int .i64 now).wf = true) :
    Calls Try.prog 8 #[v, .int .i64 load, .int .i64 now] w fun e w' => e = .returned (.bool true) ∧ Below w.heap.size w w' := by
  obtain ⟨p, rfl⟩ := hv
  clear wl wn
  have hb0 := polBox_below w p
  have HP := PolAt.box w p
  go_enter Try.func8, Try.ntmps8
  go_wp2_with fail
  refine (alive11_any _).mono ?_
  rintro e w1 ⟨rfl, hb1⟩
  have HP1 := HP.below hb1 (by simp)
  have hs1 := hb1.size
  simp at hs1
  replace hb1 := hb0.trans (hb1.mono (by simp))
  clear hb0 HP
  have HP1' := HP1
  obtain ⟨f0, f1, f2, f3, f4, f5, f6⟩ := HP1
  go_wp2_with fail
  refine (step_any p load now _).mono ?_
  rintro e w2 ⟨rfl, hb2⟩
  have HP2 := HP1'.below hb2 (by omega)
  have hs2 := hb2.size
  replace hb2 := hb1.trans (hb2.mono (by omega))
  clear hb1 HP1' f0 f1 f2 f3 f4 f5 f6
  have HP2' := HP2
  obtain ⟨f0, f1, f2, f3, f4, f5, f6⟩ := HP2
  go_wp2_with fail
  refine (stepR_any p load now _).mono ?_
  rintro e w3 ⟨rfl, hb3⟩
  have HP3 := HP2'.below hb3 (by omega)
  have hs3 := hb3.size
  replace hb3 := hb2.trans (hb3.mono (by omega))
  clear hb2 HP2' f0 f1 f2 f3 f4 f5 f6
  have HP3' := HP3
  obtain ⟨f0, f1, f2, f3, f4, f5, f6⟩ := HP3
  go_wp2_with fail
  refine (steps_any p load now _).mono ?_
  rintro e w4 ⟨rfl, hb4⟩
  have HP4 := HP3'.below hb4 (by omega)
  have hs4 := hb4.size
  replace hb4 := hb3.trans (hb4.mono (by omega))
  clear hb3 HP3' f0 f1 f2 f3 f4 f5 f6
  obtain ⟨f0, f1, f2, f3, f4, f5, f6⟩ := HP4
  go_wp2_with fail
  refine (stepsR_any p load now _).mono ?_
  rintro e w5 ⟨rfl, hb5⟩
  replace hb5 := hb4.trans (hb5.mono (by omega))
  generalize Pl.stepQ p load now = a at *
  generalize Pl.stepE p now = b at *
  generalize Pl.stepsN p load now = c at *
  generalize Pl.stepsEnd p load now = d at *
  go_wp2
  go_ret
  exact ⟨rfl, hb5⟩
end Go.Proofs.Ytldgnkceecgacaa
