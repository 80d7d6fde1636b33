/- The walk of DecideMore. -/
import Derived.Test.YtldgnkceecgacaaDecJ
import Derived.BigRegion
namespace Go.Proofs.Ytldgnkceecgacaa
open Go.RowKit Go.ChangeShapes Go.WideShapes
set_option linter.unusedVariables false

theorem list_split7 {α : Type} {l : List α} {x : List α} {a b c : α} (hl : l.length = 10) (h : (l.drop 0).take 7 = x) (h0 : l[7]? = some a) (h1 : l[8]? = some b) (h2 : l[9]? = some c) : l = x ++ [a, b, c] := by
  match l, hl with
  | [_, _, _, _, _, _, _, _, _, _], _ => simp at h h0 h1 h2; subst h; simp [*]
theorem cells48 : Try.prog.cellsOf 48 = 10 := by kernel_rfl

/-- What the walk is told of the argument of DecideMore. -/
def IsLoads (v : Value) : Prop := ∃ (p : Pl.Pol) (a b now : Int), v = .agg #[.int .i64 p.mn, .int .i64 p.mx, .int .i64 p.goal, .int .i64 p.slack, .int .i64 p.up, .int .i64 p.down, .int .i64 p.cool, .int .i64 a, .int .i64 b, .int .i64 now]
theorem open_loads {H : Type} {enc : TypeId × Value → H} {W : World} {base : Nat} {v : Value} {d : DataW H} {q : List MemPlace} (hv : Value.okWide Try.prog W .any base 48 v)
    (h : DataW.Trod enc Try.prog W 0 (fun _ => true) true 48 v d q) : IsLoads v := by
  obtain ⟨cs, rfl, hsz⟩ := okWide_struct Try.underlying48 hv
  obtain ⟨fuel, hf⟩ := h
  obtain ⟨m, y, hy⟩ := field_reads Try.underlying48 hf (i := 0) rfl
  obtain ⟨p, hp⟩ := pol_cells hy
  obtain ⟨a, e1, _⟩ := field_int Try.underlying48 hf (i := 1) rfl Try.underlying3 cells3
  obtain ⟨b, e2, _⟩ := field_int Try.underlying48 hf (i := 2) rfl Try.underlying3 cells3
  obtain ⟨n, e3, _⟩ := field_int Try.underlying48 hf (i := 3) rfl Try.underlying3 cells3
  obtain ⟨l⟩ := cs
  simp only [Value.cells] at hp e1 e2 e3
  have := list_split7 (l := l) (by simpa [cells48] using hsz) (by simpa [cells35] using hp) e1 e2 e3
  exact ⟨p, a, b, n, by rw [this]; rfl⟩

set_option maxHeartbeats 2000000 in
theorem dmore_walk (v : Value) (w : World) (hv : IsLoads v) :
    Calls Try.prog 11 #[v] w fun e w' => e = .returned (.bool true) ∧ Below w.heap.size w w' := by
  obtain ⟨⟨mn, mx, goal, slack, up, down, cool⟩, a, b, now, rfl⟩ := hv
  have hb0 : Below w.heap.size w (w.alloc (.cells #[.int .i64 mn, .int .i64 mx, .int .i64 goal, .int .i64 slack, .int .i64 up, .int .i64 down, .int .i64 cool, .int .i64 a, .int .i64 b, .int .i64 now] 48)) := (Below.refl _ _).alloc (Nat.le_refl _) _
  go_enter Try.func11, Try.ntmps11
  go_wp2_with fail
  refine (alive11_any _).mono ?_
  rintro e w1 ⟨rfl, hb1⟩
  have g : ∀ i, i < 10 → w1.cell? ⟨w.heap.size, i, none⟩ = #[.int .i64 mn, .int .i64 mx, .int .i64 goal, .int .i64 slack, .int .i64 up, .int .i64 down, .int .i64 cool, .int .i64 a, .int .i64 b, .int .i64 now][i]? := fun i hi => (hb1.cell (p := ⟨w.heap.size, i, none⟩) (by simp)).trans (World.cell?_alloc_at _ _ _ _ rfl)
  have g0 := g 0 (by decide)
  have g1 := g 1 (by decide)
  have g2 := g 2 (by decide)
  have g3 := g 3 (by decide)
  have g4 := g 4 (by decide)
  have g5 := g 5 (by decide)
  have g6 := g 6 (by decide)
  have g7 := g 7 (by decide)
  have g8 := g 8 (by decide)
  have g9 := g 9 (by decide)
  simp at g0 g1 g2 g3 g4 g5 g6 g7 g8 g9
  clear g
  have hs1 := hb1.size
  simp at hs1
  have hlt : w.heap.size < w1.heap.size := by omega
  replace hb1 := hb0.trans (hb1.mono (by simp))
  clear hb0
  go_wp2_with fail
  go_region
  clear g0 g1 g2 g3 g4 g5 g6 g7 g8 g9
  have HP0 : PolAt (polBox w1 ⟨mn, mx, goal, 0, up, down, cool⟩).drew w1.heap.size ⟨mn, mx, goal, 0, up, down, cool⟩ := PolAt.box w1 ⟨mn, mx, goal, 0, up, down, cool⟩
  have hb2 : Below w.heap.size w (polBox w1 ⟨mn, mx, goal, 0, up, down, cool⟩).drew := (hb1.alloc (by omega) _).drew
  have hs2 : w1.heap.size < (polBox w1 ⟨mn, mx, goal, 0, up, down, cool⟩).drew.heap.size := by show w1.heap.size < (polBox w1 ⟨mn, mx, goal, 0, up, down, cool⟩).heap.size; simp
  clear hb1
  go_wp2_with fail
  refine (step_any ⟨mn, mx, goal, 0, up, down, cool⟩ a now _).mono ?_
  rintro e w3 ⟨rfl, hb3⟩
  have HP3 := HP0.below hb3 hs2
  have hs3 := Nat.lt_of_lt_of_le hs2 hb3.size
  replace hb3 := hb2.trans (hb3.mono hb2.size)
  clear hb2 HP0 hs2
  have HP3' := HP3
  obtain ⟨f0, f1, f2, f3, f4, f5, f6⟩ := HP3
  simp only at f0 f1 f2 f3 f4 f5 f6
  go_wp2_with fail
  refine (step_any ⟨mn, mx, goal, 0, up, down, cool⟩ b now _).mono ?_
  rintro e w4 ⟨rfl, hb4⟩
  have HP4 := HP3'.below hb4 hs3
  have hs4 := Nat.lt_of_lt_of_le hs3 hb4.size
  replace hb4 := hb3.trans (hb4.mono hb3.size)
  clear hb3 HP3' f0 f1 f2 f3 f4 f5 f6
  have HP4' := HP4
  obtain ⟨f0, f1, f2, f3, f4, f5, f6⟩ := HP4
  simp only at f0 f1 f2 f3 f4 f5 f6
  cases hk : Pl.okB ⟨mn, mx, goal, 0, up, down, cool⟩ now
  · have e1 : (Pl.stepE ⟨mn, mx, goal, 0, up, down, cool⟩ now != 0) = true := by rw [stepE_no hk]; rfl
    generalize Pl.stepE ⟨mn, mx, goal, 0, up, down, cool⟩ now = er at *
    generalize Pl.stepQ ⟨mn, mx, goal, 0, up, down, cool⟩ a now = na at *
    generalize Pl.stepQ ⟨mn, mx, goal, 0, up, down, cool⟩ b now = nb at *
    go_wp2
    go_ret
    exact ⟨rfl, hb4⟩
  · have e1 : (Pl.stepE ⟨mn, mx, goal, 0, up, down, cool⟩ now != 0) = false := by rw [stepE_ok hk]; rfl
    obtain ⟨hR, hn0, hn1⟩ := okB_bd hk
    have hmore : a ≤ b → Pl.stepQ ⟨mn, mx, goal, 0, up, down, cool⟩ a now ≤ Pl.stepQ ⟨mn, mx, goal, 0, up, down, cool⟩ b now := fun h => by
      rw [stepQ_ok hk, stepQ_ok hk]; exact Pl.step_more hR rfl hn0 hn1 h
    have hask := Pl.step_asked hR rfl a hn0 hn1
    rw [← stepQ_ok hk] at hask
    simp only at hask
    have HM := Lib.hid hmore
    have HA := Lib.hid hask
    have HR := Lib.hid hR
    have hd0 := hR.down0
    have hd1 := hR.down1
    have hu0 := hR.up0
    have hu1 := hR.up1
    simp only at hd0 hd1 hu0 hu1
    clear hmore hask hR hk
    generalize Pl.stepE ⟨mn, mx, goal, 0, up, down, cool⟩ now = er at *
    generalize Pl.stepQ ⟨mn, mx, goal, 0, up, down, cool⟩ a now = na at *
    generalize Pl.stepQ ⟨mn, mx, goal, 0, up, down, cool⟩ b now = nb at *
    have T : a ≤ b ∧ na ≤ nb ∨ b < a := by
      rcases Int.lt_or_le b a with h | h
      · exact .inr h
      · exact .inl ⟨h, HM.out h⟩
    have A := HA.out
    clear HM HA
    have HT := Lib.hid T
    have HA := Lib.hid A
    clear T A
    rcases HT.out with ⟨t1, t2⟩ | t1
    · go_wp2_with fail
      refine (asked_any ⟨mn, mx, goal, 0, up, down, cool⟩ a _ HR.out).mono ?_
      rintro e w5 ⟨rfl, hb5⟩
      have HP5 := HP4'.below hb5 hs4
      replace hb5 := hb4.trans (hb5.mono hb4.size)
      clear hb4 HP4' f0 f1 f2 f3 f4 f5 f6
      obtain ⟨f0, f1, f2, f3, f4, f5, f6⟩ := HP5
      simp only at f0 f1 f2 f3 f4 f5 f6
      generalize Pl.askF ⟨mn, mx, goal, 0, up, down, cool⟩ a = ask at *
      rcases HA.out with h1 | ⟨h1, h2⟩ | ⟨h1, h2⟩
      · have q1 : (na == ask) = true := by simpa using h1
        clear h1
        go_wp2
        go_ret
        exact ⟨rfl, hb5⟩
      · have q1 : (na == ask) = false := by simp; omega
        have q2 : (na == now + up) = true := by simpa using h1
        clear h1
        go_wp2
        go_ret
        exact ⟨rfl, hb5⟩
      · have q1 : (na == ask) = false := by simp; omega
        have q2 : (na == now + up) = false := by simp; omega
        have q3 : (na == now - down) = true := by simpa using h1
        clear h1
        go_wp2
        go_ret
        exact ⟨rfl, hb5⟩
    · go_wp2_with fail
      refine (asked_any ⟨mn, mx, goal, 0, up, down, cool⟩ a _ HR.out).mono ?_
      rintro e w5 ⟨rfl, hb5⟩
      have HP5 := HP4'.below hb5 hs4
      replace hb5 := hb4.trans (hb5.mono hb4.size)
      clear hb4 HP4' f0 f1 f2 f3 f4 f5 f6
      obtain ⟨f0, f1, f2, f3, f4, f5, f6⟩ := HP5
      simp only at f0 f1 f2 f3 f4 f5 f6
      generalize Pl.askF ⟨mn, mx, goal, 0, up, down, cool⟩ a = ask at *
      rcases HA.out with h1 | ⟨h1, h2⟩ | ⟨h1, h2⟩
      · have q1 : (na == ask) = true := by simpa using h1
        clear h1
        go_wp2
        go_ret
        exact ⟨rfl, hb5⟩
      · have q1 : (na == ask) = false := by simp; omega
        have q2 : (na == now + up) = true := by simpa using h1
        clear h1
        go_wp2
        go_ret
        exact ⟨rfl, hb5⟩
      · have q1 : (na == ask) = false := by simp; omega
        have q2 : (na == now + up) = false := by simp; omega
        have q3 : (na == now - down) = true := by simpa using h1
        clear h1
        go_wp2
        go_ret
        exact ⟨rfl, hb5⟩
end Go.Proofs.Ytldgnkceecgacaa
