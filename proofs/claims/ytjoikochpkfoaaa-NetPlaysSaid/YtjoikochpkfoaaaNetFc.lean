/- Copies that belong to the call that made them: a step. -/
import Derived.Test.YtjoikochpkfoaaaNetFb
namespace Go.Proofs.Ytjoikochpkfoaaa
open Go.RowKit
set_option linter.unusedVariables false

theorem do_2_o (N mb : Nat) (row : Option Nat) (es : List Pl.Ent) (T T' : Pl.Off) (P : List Pl.Ent → Prop) (A B a b k : Int) (bs : List Int) (ao : Option Addr) (len cap : Nat) (w : World) (h : NetAt w N row mb es T)
    (hC : Calls Try.prog 12 #[.pointer (some ⟨N, 0, none⟩), .int .i64 A] (box3 w 2 A B (.slice ao len cap)) fun e w' => ∃ v', e = .returned (.tuple #[.agg #[.int .i64 a, .int .i64 b, v'], .int .i64 k]) ∧ OwnB w.heap.size w' v' bs ∧ ∃ es', Step (box3 w 2 A B (.slice ao len cap)) w' N row mb es' T' ∧ P es') :
    Calls Try.prog 14 #[.pointer (some ⟨N, 0, none⟩), .agg #[.int .i64 2, .int .i64 A, .int .i64 B, .slice ao len cap]] w fun e w' => ∃ v', e = .returned (.tuple #[.agg #[.int .i64 a, .int .i64 b, v'], .int .i64 k]) ∧ OwnB w.heap.size w' v' bs ∧ ∃ es', Step w w' N row mb es' T' ∧ P es' := by
  have HH := Lib.hid h
  have HC := Lib.hid hC
  have hN := h.lt
  have hm := h.mb_lt
  have hrl := h.row_lt
  have HRL := Lib.hid hrl
  clear h hC hrl
  go_enter Try.func14, Try.ntmps14
  go_wp2_with fail
  refine HC.out.mono ?_
  rintro e w5 ⟨v5, rfl, B5, es', S5, hP⟩
  obtain ⟨ao5, cp5, hv5, _⟩ := id B5.toT
  subst hv5
  have n1 : w.heap.size + 1 ≠ N := by omega
  have n2 : w.heap.size + 1 ≠ mb := by omega
  have n3 : some (w.heap.size + 1) ≠ row := fun e => by have := (HRL.out _ e.symm).2; omega
  have m1 : w.heap.size + 1 + 1 ≠ N := by omega
  have m2 : w.heap.size + 1 + 1 ≠ mb := by omega
  have m3 : some (w.heap.size + 1 + 1) ≠ row := fun e => by have := (HRL.out _ e.symm).2; omega
  obtain ⟨_, _, _, g1⟩ := S5.block (X := w.heap.size + 1) (by rw [box3_size]; omega) n1 n2 n3
  obtain ⟨_, _, _, g2⟩ := S5.block (X := w.heap.size + 1 + 1) (by rw [box3_size]; omega) m1 m2 m3
  have x1 := g1.trans (box3_1 w 2 A B (.slice ao len cap))
  have x2 := g2.trans (box3_2 w 2 A B (.slice ao len cap))
  have q : ∀ j u, (#[.int .i64 0, .int .i64 0, .slice none 0 0] : Array Value)[j]? = some u → w5.cell? ⟨w.heap.size + 1, j, none⟩ = some u := fun j u hj => by simp only [World.cell?, x1]; simpa using hj
  have y : ∀ j u, (#[.int .i64 0, .int .i64 0, .slice none 0 0] : Array Value)[j]? = some u → w5.cell? ⟨w.heap.size + 1 + 1, j, none⟩ = some u := fun j u hj => by simp only [World.cell?, x2]; simpa using hj
  have q0 : w5.cell? ⟨w.heap.size + 1, 0, none⟩ = some (.int .i64 0) := q 0 _ rfl
  have q1 : w5.cell? ⟨w.heap.size + 1, 1, none⟩ = some (.int .i64 0) := q 1 _ rfl
  have q2 : w5.cell? ⟨w.heap.size + 1, 2, none⟩ = some (.slice none 0 0) := q 2 _ rfl
  have y0 : w5.cell? ⟨w.heap.size + 1 + 1, 0, none⟩ = some (.int .i64 0) := y 0 _ rfl
  have y1 : w5.cell? ⟨w.heap.size + 1 + 1, 1, none⟩ = some (.int .i64 0) := y 1 _ rfl
  have y2 : w5.cell? ⟨w.heap.size + 1 + 1, 2, none⟩ = some (.slice none 0 0) := y 2 _ rfl
  have fz : ∀ j, w5.frozen? ⟨w.heap.size + 1, j, none⟩ = false := fun j => by simp [World.frozen?, x1]
  have hz : ∀ j, w5.frozen? ⟨w.heap.size + 1 + 1, j, none⟩ = false := fun j => by simp [World.frozen?, x2]
  have h0 := hz 0
  have h1 := hz 1
  have h2 := hz 2
  have HB5 := Lib.hid B5
  have f0 := fz 0
  have f1 := fz 1
  have f2 := fz 2
  have HS5 := Lib.hid S5
  have HX1 := Lib.hid x1
  have HX2 := Lib.hid x2
  clear S5 g1 g2 x1 x2 q y fz hz HC B5
  go_wp2_with fail
  have kk : ∀ o, (((w5.setCell ⟨w.heap.size + 1 + 1, 0, none⟩ (.int .i64 a)).setCell ⟨w.heap.size + 1 + 1, 1, none⟩ (.int .i64 b)).setCell ⟨w.heap.size + 1 + 1, 2, none⟩ (.slice ao5 bs.length cp5)).cell? ⟨w.heap.size + 1, o, none⟩ = w5.cell? ⟨w.heap.size + 1, o, none⟩ := fun o => by
    rw [World.cell?_setCell_other _ _ _ _ (by simp), World.cell?_setCell_other _ _ _ _ (by simp), World.cell?_setCell_other _ _ _ _ (by simp)]
  have kh : ∀ x, x ≠ w.heap.size + 1 + 1 → (((w5.setCell ⟨w.heap.size + 1 + 1, 0, none⟩ (.int .i64 a)).setCell ⟨w.heap.size + 1 + 1, 1, none⟩ (.int .i64 b)).setCell ⟨w.heap.size + 1 + 1, 2, none⟩ (.slice ao5 bs.length cp5)).heap[x]? = w5.heap[x]? := fun x hx' => by
    rw [Below.heap_setCell _ _ _ _ hx', Below.heap_setCell _ _ _ _ hx', Below.heap_setCell _ _ _ _ hx']
  have ks : (((w5.setCell ⟨w.heap.size + 1 + 1, 0, none⟩ (.int .i64 a)).setCell ⟨w.heap.size + 1 + 1, 1, none⟩ (.int .i64 b)).setCell ⟨w.heap.size + 1 + 1, 2, none⟩ (.slice ao5 bs.length cp5)).heap.size = w5.heap.size := by simp [World.setCell]
  have kr : (((w5.setCell ⟨w.heap.size + 1 + 1, 0, none⟩ (.int .i64 a)).setCell ⟨w.heap.size + 1 + 1, 1, none⟩ (.int .i64 b)).setCell ⟨w.heap.size + 1 + 1, 2, none⟩ (.slice ao5 bs.length cp5)).os = w5.os ∧ (((w5.setCell ⟨w.heap.size + 1 + 1, 0, none⟩ (.int .i64 a)).setCell ⟨w.heap.size + 1 + 1, 1, none⟩ (.int .i64 b)).setCell ⟨w.heap.size + 1 + 1, 2, none⟩ (.slice ao5 bs.length cp5)).tape = w5.tape ∧ (((w5.setCell ⟨w.heap.size + 1 + 1, 0, none⟩ (.int .i64 a)).setCell ⟨w.heap.size + 1 + 1, 1, none⟩ (.int .i64 b)).setCell ⟨w.heap.size + 1 + 1, 2, none⟩ (.slice ao5 bs.length cp5)).output = w5.output := ⟨rfl, rfl, rfl⟩
  generalize (((w5.setCell ⟨w.heap.size + 1 + 1, 0, none⟩ (.int .i64 a)).setCell ⟨w.heap.size + 1 + 1, 1, none⟩ (.int .i64 b)).setCell ⟨w.heap.size + 1 + 1, 2, none⟩ (.slice ao5 bs.length cp5)) = V at *
  have r0 : (((V.setCell ⟨w.heap.size + 1, 0, none⟩ (.int .i64 a)).setCell ⟨w.heap.size + 1, 1, none⟩ (.int .i64 b)).setCell ⟨w.heap.size + 1, 2, none⟩ (.slice ao5 bs.length cp5)).cell? ⟨w.heap.size + 1, 0, none⟩ = some (.int .i64 a) := by
    rw [World.cell?_setCell_other _ _ _ _ (by simp), World.cell?_setCell_other _ _ _ _ (by simp)]; exact World.cell?_setCell_same _ _ _ ((kk 0).trans q0)
  have r1 : (((V.setCell ⟨w.heap.size + 1, 0, none⟩ (.int .i64 a)).setCell ⟨w.heap.size + 1, 1, none⟩ (.int .i64 b)).setCell ⟨w.heap.size + 1, 2, none⟩ (.slice ao5 bs.length cp5)).cell? ⟨w.heap.size + 1, 1, none⟩ = some (.int .i64 b) := by
    rw [World.cell?_setCell_other _ _ _ _ (by simp)]; exact World.cell?_setCell_same _ _ _ (by rw [World.cell?_setCell_other _ _ _ _ (by simp)]; exact (kk 1).trans q1)
  have r2 : (((V.setCell ⟨w.heap.size + 1, 0, none⟩ (.int .i64 a)).setCell ⟨w.heap.size + 1, 1, none⟩ (.int .i64 b)).setCell ⟨w.heap.size + 1, 2, none⟩ (.slice ao5 bs.length cp5)).cell? ⟨w.heap.size + 1, 2, none⟩ = some (.slice ao5 bs.length cp5) :=
    World.cell?_setCell_same _ _ _ (by rw [World.cell?_setCell_other _ _ _ _ (by simp), World.cell?_setCell_other _ _ _ _ (by simp)]; exact (kk 2).trans q2)
  have hz : ∀ x, x ≠ w.heap.size + 1 → (((V.setCell ⟨w.heap.size + 1, 0, none⟩ (.int .i64 a)).setCell ⟨w.heap.size + 1, 1, none⟩ (.int .i64 b)).setCell ⟨w.heap.size + 1, 2, none⟩ (.slice ao5 bs.length cp5)).heap[x]? = V.heap[x]? := fun x hx => by
    rw [Below.heap_setCell _ _ _ _ hx, Below.heap_setCell _ _ _ _ hx, Below.heap_setCell _ _ _ _ hx]
  have zs : (((V.setCell ⟨w.heap.size + 1, 0, none⟩ (.int .i64 a)).setCell ⟨w.heap.size + 1, 1, none⟩ (.int .i64 b)).setCell ⟨w.heap.size + 1, 2, none⟩ (.slice ao5 bs.length cp5)).heap.size = V.heap.size := by simp [World.setCell]
  have zr : (((V.setCell ⟨w.heap.size + 1, 0, none⟩ (.int .i64 a)).setCell ⟨w.heap.size + 1, 1, none⟩ (.int .i64 b)).setCell ⟨w.heap.size + 1, 2, none⟩ (.slice ao5 bs.length cp5)).os = V.os ∧ (((V.setCell ⟨w.heap.size + 1, 0, none⟩ (.int .i64 a)).setCell ⟨w.heap.size + 1, 1, none⟩ (.int .i64 b)).setCell ⟨w.heap.size + 1, 2, none⟩ (.slice ao5 bs.length cp5)).tape = V.tape ∧ (((V.setCell ⟨w.heap.size + 1, 0, none⟩ (.int .i64 a)).setCell ⟨w.heap.size + 1, 1, none⟩ (.int .i64 b)).setCell ⟨w.heap.size + 1, 2, none⟩ (.slice ao5 bs.length cp5)).output = V.output := ⟨rfl, rfl, rfl⟩
  generalize (((V.setCell ⟨w.heap.size + 1, 0, none⟩ (.int .i64 a)).setCell ⟨w.heap.size + 1, 1, none⟩ (.int .i64 b)).setCell ⟨w.heap.size + 1, 2, none⟩ (.slice ao5 bs.length cp5)) = Z at *
  have SE := step_end (X := w.heap.size + 1) (Y := w.heap.size + 1 + 1) (Z := Z) HH.out (box3_below w _ _ _ _) (Nat.le_succ _) (by rw [box3_size]; omega) (by omega) (by rw [box3_size]; omega) HS5.out (fun cs fr e => by rw [HX1.out] at e; cases e) (fun cs fr e => by rw [HX2.out] at e; cases e) (fun x hx hx' => (hz x hx).trans (kh x hx')) (zs.trans ks) ⟨zr.1.trans kr.1, zr.2.1.trans kr.2.1, zr.2.2.trans kr.2.2⟩
  exact bodyPost_ret (v := .tuple #[.agg #[.int .i64 a, .int .i64 b, .slice ao5 bs.length cp5], .int .i64 k]) (by simp [results, Try.results14, go_sem, r0, r1, r2]) rfl ⟨_, rfl, HB5.out.keep SE.2, es', SE.1, hP⟩

theorem do_3_o (N mb : Nat) (row : Option Nat) (es : List Pl.Ent) (T T' : Pl.Off) (P : List Pl.Ent → Prop) (A B a b k : Int) (bs : List Int) (ao : Option Addr) (len cap : Nat) (w : World) (h : NetAt w N row mb es T)
    (hC : Calls Try.prog 10 #[.pointer (some ⟨N, 0, none⟩), .int .i64 A] (box3 w 3 A B (.slice ao len cap)) fun e w' => ∃ v', e = .returned (.tuple #[.agg #[.int .i64 a, .int .i64 b, v'], .int .i64 k]) ∧ OwnB w.heap.size w' v' bs ∧ ∃ es', Step (box3 w 3 A B (.slice ao len cap)) w' N row mb es' T' ∧ P es') :
    Calls Try.prog 14 #[.pointer (some ⟨N, 0, none⟩), .agg #[.int .i64 3, .int .i64 A, .int .i64 B, .slice ao len cap]] w fun e w' => ∃ v', e = .returned (.tuple #[.agg #[.int .i64 a, .int .i64 b, v'], .int .i64 k]) ∧ OwnB w.heap.size w' v' bs ∧ ∃ es', Step w w' N row mb es' T' ∧ P es' := by
  have HH := Lib.hid h
  have HC := Lib.hid hC
  have hN := h.lt
  have hm := h.mb_lt
  have hrl := h.row_lt
  have HRL := Lib.hid hrl
  clear h hC hrl
  go_enter Try.func14, Try.ntmps14
  go_wp2_with fail
  refine HC.out.mono ?_
  rintro e w5 ⟨v5, rfl, B5, es', S5, hP⟩
  obtain ⟨ao5, cp5, hv5, _⟩ := id B5.toT
  subst hv5
  have n1 : w.heap.size + 1 ≠ N := by omega
  have n2 : w.heap.size + 1 ≠ mb := by omega
  have n3 : some (w.heap.size + 1) ≠ row := fun e => by have := (HRL.out _ e.symm).2; omega
  have m1 : w.heap.size + 1 + 1 ≠ N := by omega
  have m2 : w.heap.size + 1 + 1 ≠ mb := by omega
  have m3 : some (w.heap.size + 1 + 1) ≠ row := fun e => by have := (HRL.out _ e.symm).2; omega
  obtain ⟨_, _, _, g1⟩ := S5.block (X := w.heap.size + 1) (by rw [box3_size]; omega) n1 n2 n3
  obtain ⟨_, _, _, g2⟩ := S5.block (X := w.heap.size + 1 + 1) (by rw [box3_size]; omega) m1 m2 m3
  have x1 := g1.trans (box3_1 w 3 A B (.slice ao len cap))
  have x2 := g2.trans (box3_2 w 3 A B (.slice ao len cap))
  have q : ∀ j u, (#[.int .i64 0, .int .i64 0, .slice none 0 0] : Array Value)[j]? = some u → w5.cell? ⟨w.heap.size + 1, j, none⟩ = some u := fun j u hj => by simp only [World.cell?, x1]; simpa using hj
  have y : ∀ j u, (#[.int .i64 0, .int .i64 0, .slice none 0 0] : Array Value)[j]? = some u → w5.cell? ⟨w.heap.size + 1 + 1, j, none⟩ = some u := fun j u hj => by simp only [World.cell?, x2]; simpa using hj
  have q0 : w5.cell? ⟨w.heap.size + 1, 0, none⟩ = some (.int .i64 0) := q 0 _ rfl
  have q1 : w5.cell? ⟨w.heap.size + 1, 1, none⟩ = some (.int .i64 0) := q 1 _ rfl
  have q2 : w5.cell? ⟨w.heap.size + 1, 2, none⟩ = some (.slice none 0 0) := q 2 _ rfl
  have y0 : w5.cell? ⟨w.heap.size + 1 + 1, 0, none⟩ = some (.int .i64 0) := y 0 _ rfl
  have y1 : w5.cell? ⟨w.heap.size + 1 + 1, 1, none⟩ = some (.int .i64 0) := y 1 _ rfl
  have y2 : w5.cell? ⟨w.heap.size + 1 + 1, 2, none⟩ = some (.slice none 0 0) := y 2 _ rfl
  have fz : ∀ j, w5.frozen? ⟨w.heap.size + 1, j, none⟩ = false := fun j => by simp [World.frozen?, x1]
  have hz : ∀ j, w5.frozen? ⟨w.heap.size + 1 + 1, j, none⟩ = false := fun j => by simp [World.frozen?, x2]
  have h0 := hz 0
  have h1 := hz 1
  have h2 := hz 2
  have HB5 := Lib.hid B5
  have f0 := fz 0
  have f1 := fz 1
  have f2 := fz 2
  have HS5 := Lib.hid S5
  have HX1 := Lib.hid x1
  have HX2 := Lib.hid x2
  clear S5 g1 g2 x1 x2 q y fz hz HC B5
  go_wp2_with fail
  have kk : ∀ o, (((w5.setCell ⟨w.heap.size + 1 + 1, 0, none⟩ (.int .i64 a)).setCell ⟨w.heap.size + 1 + 1, 1, none⟩ (.int .i64 b)).setCell ⟨w.heap.size + 1 + 1, 2, none⟩ (.slice ao5 bs.length cp5)).cell? ⟨w.heap.size + 1, o, none⟩ = w5.cell? ⟨w.heap.size + 1, o, none⟩ := fun o => by
    rw [World.cell?_setCell_other _ _ _ _ (by simp), World.cell?_setCell_other _ _ _ _ (by simp), World.cell?_setCell_other _ _ _ _ (by simp)]
  have kh : ∀ x, x ≠ w.heap.size + 1 + 1 → (((w5.setCell ⟨w.heap.size + 1 + 1, 0, none⟩ (.int .i64 a)).setCell ⟨w.heap.size + 1 + 1, 1, none⟩ (.int .i64 b)).setCell ⟨w.heap.size + 1 + 1, 2, none⟩ (.slice ao5 bs.length cp5)).heap[x]? = w5.heap[x]? := fun x hx' => by
    rw [Below.heap_setCell _ _ _ _ hx', Below.heap_setCell _ _ _ _ hx', Below.heap_setCell _ _ _ _ hx']
  have ks : (((w5.setCell ⟨w.heap.size + 1 + 1, 0, none⟩ (.int .i64 a)).setCell ⟨w.heap.size + 1 + 1, 1, none⟩ (.int .i64 b)).setCell ⟨w.heap.size + 1 + 1, 2, none⟩ (.slice ao5 bs.length cp5)).heap.size = w5.heap.size := by simp [World.setCell]
  have kr : (((w5.setCell ⟨w.heap.size + 1 + 1, 0, none⟩ (.int .i64 a)).setCell ⟨w.heap.size + 1 + 1, 1, none⟩ (.int .i64 b)).setCell ⟨w.heap.size + 1 + 1, 2, none⟩ (.slice ao5 bs.length cp5)).os = w5.os ∧ (((w5.setCell ⟨w.heap.size + 1 + 1, 0, none⟩ (.int .i64 a)).setCell ⟨w.heap.size + 1 + 1, 1, none⟩ (.int .i64 b)).setCell ⟨w.heap.size + 1 + 1, 2, none⟩ (.slice ao5 bs.length cp5)).tape = w5.tape ∧ (((w5.setCell ⟨w.heap.size + 1 + 1, 0, none⟩ (.int .i64 a)).setCell ⟨w.heap.size + 1 + 1, 1, none⟩ (.int .i64 b)).setCell ⟨w.heap.size + 1 + 1, 2, none⟩ (.slice ao5 bs.length cp5)).output = w5.output := ⟨rfl, rfl, rfl⟩
  generalize (((w5.setCell ⟨w.heap.size + 1 + 1, 0, none⟩ (.int .i64 a)).setCell ⟨w.heap.size + 1 + 1, 1, none⟩ (.int .i64 b)).setCell ⟨w.heap.size + 1 + 1, 2, none⟩ (.slice ao5 bs.length cp5)) = V at *
  have r0 : (((V.setCell ⟨w.heap.size + 1, 0, none⟩ (.int .i64 a)).setCell ⟨w.heap.size + 1, 1, none⟩ (.int .i64 b)).setCell ⟨w.heap.size + 1, 2, none⟩ (.slice ao5 bs.length cp5)).cell? ⟨w.heap.size + 1, 0, none⟩ = some (.int .i64 a) := by
    rw [World.cell?_setCell_other _ _ _ _ (by simp), World.cell?_setCell_other _ _ _ _ (by simp)]; exact World.cell?_setCell_same _ _ _ ((kk 0).trans q0)
  have r1 : (((V.setCell ⟨w.heap.size + 1, 0, none⟩ (.int .i64 a)).setCell ⟨w.heap.size + 1, 1, none⟩ (.int .i64 b)).setCell ⟨w.heap.size + 1, 2, none⟩ (.slice ao5 bs.length cp5)).cell? ⟨w.heap.size + 1, 1, none⟩ = some (.int .i64 b) := by
    rw [World.cell?_setCell_other _ _ _ _ (by simp)]; exact World.cell?_setCell_same _ _ _ (by rw [World.cell?_setCell_other _ _ _ _ (by simp)]; exact (kk 1).trans q1)
  have r2 : (((V.setCell ⟨w.heap.size + 1, 0, none⟩ (.int .i64 a)).setCell ⟨w.heap.size + 1, 1, none⟩ (.int .i64 b)).setCell ⟨w.heap.size + 1, 2, none⟩ (.slice ao5 bs.length cp5)).cell? ⟨w.heap.size + 1, 2, none⟩ = some (.slice ao5 bs.length cp5) :=
    World.cell?_setCell_same _ _ _ (by rw [World.cell?_setCell_other _ _ _ _ (by simp), World.cell?_setCell_other _ _ _ _ (by simp)]; exact (kk 2).trans q2)
  have hz : ∀ x, x ≠ w.heap.size + 1 → (((V.setCell ⟨w.heap.size + 1, 0, none⟩ (.int .i64 a)).setCell ⟨w.heap.size + 1, 1, none⟩ (.int .i64 b)).setCell ⟨w.heap.size + 1, 2, none⟩ (.slice ao5 bs.length cp5)).heap[x]? = V.heap[x]? := fun x hx => by
    rw [Below.heap_setCell _ _ _ _ hx, Below.heap_setCell _ _ _ _ hx, Below.heap_setCell _ _ _ _ hx]
  have zs : (((V.setCell ⟨w.heap.size + 1, 0, none⟩ (.int .i64 a)).setCell ⟨w.heap.size + 1, 1, none⟩ (.int .i64 b)).setCell ⟨w.heap.size + 1, 2, none⟩ (.slice ao5 bs.length cp5)).heap.size = V.heap.size := by simp [World.setCell]
  have zr : (((V.setCell ⟨w.heap.size + 1, 0, none⟩ (.int .i64 a)).setCell ⟨w.heap.size + 1, 1, none⟩ (.int .i64 b)).setCell ⟨w.heap.size + 1, 2, none⟩ (.slice ao5 bs.length cp5)).os = V.os ∧ (((V.setCell ⟨w.heap.size + 1, 0, none⟩ (.int .i64 a)).setCell ⟨w.heap.size + 1, 1, none⟩ (.int .i64 b)).setCell ⟨w.heap.size + 1, 2, none⟩ (.slice ao5 bs.length cp5)).tape = V.tape ∧ (((V.setCell ⟨w.heap.size + 1, 0, none⟩ (.int .i64 a)).setCell ⟨w.heap.size + 1, 1, none⟩ (.int .i64 b)).setCell ⟨w.heap.size + 1, 2, none⟩ (.slice ao5 bs.length cp5)).output = V.output := ⟨rfl, rfl, rfl⟩
  generalize (((V.setCell ⟨w.heap.size + 1, 0, none⟩ (.int .i64 a)).setCell ⟨w.heap.size + 1, 1, none⟩ (.int .i64 b)).setCell ⟨w.heap.size + 1, 2, none⟩ (.slice ao5 bs.length cp5)) = Z at *
  have SE := step_end (X := w.heap.size + 1) (Y := w.heap.size + 1 + 1) (Z := Z) HH.out (box3_below w _ _ _ _) (Nat.le_succ _) (by rw [box3_size]; omega) (by omega) (by rw [box3_size]; omega) HS5.out (fun cs fr e => by rw [HX1.out] at e; cases e) (fun cs fr e => by rw [HX2.out] at e; cases e) (fun x hx hx' => (hz x hx).trans (kh x hx')) (zs.trans ks) ⟨zr.1.trans kr.1, zr.2.1.trans kr.2.1, zr.2.2.trans kr.2.2⟩
  exact bodyPost_ret (v := .tuple #[.agg #[.int .i64 a, .int .i64 b, .slice ao5 bs.length cp5], .int .i64 k]) (by simp [results, Try.results14, go_sem, r0, r1, r2]) rfl ⟨_, rfl, HB5.out.keep SE.2, es', SE.1, hP⟩

end Go.Proofs.Ytjoikochpkfoaaa
