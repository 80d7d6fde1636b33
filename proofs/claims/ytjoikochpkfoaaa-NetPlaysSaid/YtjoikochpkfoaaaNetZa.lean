/- The document's net: Do. -/
import Derived.Test.YtjoikochpkfoaaaNetZ
namespace Go.Proofs.Ytjoikochpkfoaaa
open Go.RowKit
set_option linter.unusedVariables false

/-- What the document's Do lays first: its step in a box, a packet's cells. -/
abbrev box2 (w : World) (K A B : Int) (v : Value) : World :=
  (w.alloc (.cells #[.int .i64 K, .int .i64 A, .int .i64 B, v] 40)).alloc (.cells #[.int .i64 0, .int .i64 0, .slice none 0 0] 41)
theorem box2_below (w : World) (K A B : Int) (v : Value) : Below w.heap.size w (box2 w K A B v) := ((Below.refl _ _).alloc (Nat.le_refl _) _).alloc (by simp) _
theorem box2_size (w : World) (K A B : Int) (v : Value) : (box2 w K A B v).heap.size = w.heap.size + 2 := by simp [box2]
theorem box2_1 (w : World) (K A B : Int) (v : Value) : (box2 w K A B v).heap[w.heap.size + 1]? = some (.cells #[.int .i64 0, .int .i64 0, .slice none 0 0] 41 (0, 0)) := by
  have := heap_alloc_new (w.alloc (.cells #[.int .i64 K, .int .i64 A, .int .i64 B, v] 40)) (.cells #[.int .i64 0, .int .i64 0, .slice none 0 0] 41)
  simpa using this

theorem StepR.block {w w' : World} {M X : Nat} {row : Option Nat} {es : List Pl.Ent} {T : Pl.Off} (h : StepR w w' M row es T) (hX : X < w.heap.size) (h1 : X ≠ M) (h3 : some X ≠ row) : w'.heap[X]? = w.heap[X]? := by
  obtain ⟨row', A, t, r⟩ := h
  exact t.same X hX h1 h1 h3

/-- Behind the step: one packet's cells are written to. -/
theorem stepR_end {w W w5 Z : World} {M X : Nat} {row : Option Nat} {es es' : List Pl.Ent} {T T' : Pl.Off} (h : RefAt w M row es T) (hb : Below w.heap.size w W) (hX : w.heap.size ≤ X) (hX2 : X < W.heap.size)
    (S : StepR W w5 M row es' T') (hX5 : ∀ cs fr, w5.heap[X]? ≠ some (Obj.cells cs 5 fr))
    (hh : ∀ x, x ≠ X → Z.heap[x]? = w5.heap[x]?) (hs : Z.heap.size = w5.heap.size) (hr : Z.os = w5.os ∧ Z.tape = w5.tape ∧ Z.output = w5.output) : StepR w Z M row es' T' ∧ KeepB w5 Z := by
  obtain ⟨row', A5, t5, r5⟩ := S
  have hMlt := h.lt
  have hbs := hb.size
  have nr : row' ≠ some X := fun e => by
    rcases r5 X e with r | r
    · have := (h.row_lt X r).2; omega
    · omega
  refine ⟨⟨row', A5.other hh (by omega) nr hX5, ⟨?_, ?_, ?_⟩, ?_⟩, keepB_of X X (fun x hx _ => hh x hx) hX5 hX5⟩
  · rw [hs]; exact Nat.le_trans hbs t5.size
  · intro j hj h1 h2 h3
    exact (hh j (by omega)).trans ((t5.same j (by omega) h1 h2 h3).trans (hb.block j hj))
  · exact ⟨hr.1.trans (t5.rest.1.trans hb.os), hr.2.1.trans (t5.rest.2.1.trans hb.tape), hr.2.2.trans (t5.rest.2.2.trans hb.output)⟩
  · intro g hg
    rcases r5 g hg with r | r
    · exact .inl r
    · exact .inr (by omega)

theorem rdo_1 (M : Nat) (row : Option Nat) (es : List Pl.Ent) (T T' : Pl.Off) (P : List Pl.Ent → Prop) (A B k : Int) (ao : Option Addr) (len cap : Nat) (w : World) (h : RefAt w M row es T)
    (hC : Calls Try.prog 27 #[.pointer (some ⟨M, 0, none⟩), .int .i64 A, .int .i64 B, .slice ao len cap] (box2 w 1 A B (.slice ao len cap)) fun e w' => e = .returned (.int .i64 k) ∧ ∃ es', StepR (box2 w 1 A B (.slice ao len cap)) w' M row es' T' ∧ P es') :
    Calls Try.prog 16 #[.pointer (some ⟨M, 0, none⟩), .agg #[.int .i64 1, .int .i64 A, .int .i64 B, .slice ao len cap]] w fun e w' => e = .returned (.tuple #[.agg #[.int .i64 0, .int .i64 0, .slice none 0 0], .int .i64 k]) ∧ ∃ es', StepR w w' M row es' T' ∧ P es' := by
  have HH := Lib.hid h
  have HC := Lib.hid hC
  have hM := h.lt
  have hrl := h.row_lt
  have HRL := Lib.hid hrl
  clear h hC hrl
  go_enter Try.func16, Try.ntmps16
  go_wp2_with fail
  refine HC.out.mono ?_
  rintro e w5 ⟨rfl, es', S5, hP⟩
  have n1 : w.heap.size + 1 ≠ M := by omega
  have n3 : some (w.heap.size + 1) ≠ row := fun e => by have := (HRL.out _ e.symm).2; omega
  have g1 := S5.block (X := w.heap.size + 1) (by rw [box2_size]; omega) n1 n3
  have x1 := g1.trans (box2_1 w 1 A B (.slice ao len cap))
  have q : ∀ j u, (#[.int .i64 0, .int .i64 0, .slice none 0 0] : Array Value)[j]? = some u → w5.cell? ⟨w.heap.size + 1, j, none⟩ = some u := fun j u hj => by simp only [World.cell?, x1]; simpa using hj
  have q0 : w5.cell? ⟨w.heap.size + 1, 0, none⟩ = some (.int .i64 0) := q 0 _ rfl
  have q1 : w5.cell? ⟨w.heap.size + 1, 1, none⟩ = some (.int .i64 0) := q 1 _ rfl
  have q2 : w5.cell? ⟨w.heap.size + 1, 2, none⟩ = some (.slice none 0 0) := q 2 _ rfl
  have fz : ∀ j, w5.frozen? ⟨w.heap.size + 1, j, none⟩ = false := fun j => by simp [World.frozen?, x1]
  have f0 := fz 0
  have f1 := fz 1
  have f2 := fz 2
  have HS5 := Lib.hid S5
  have HX1 := Lib.hid x1
  clear S5 g1 x1 q fz HC
  go_wp2_with fail
  have r0 : (((w5.setCell ⟨w.heap.size + 1, 0, none⟩ (.int .i64 0)).setCell ⟨w.heap.size + 1, 1, none⟩ (.int .i64 0)).setCell ⟨w.heap.size + 1, 2, none⟩ (.slice none 0 0)).cell? ⟨w.heap.size + 1, 0, none⟩ = some (.int .i64 0) := by
    rw [World.cell?_setCell_other _ _ _ _ (by simp), World.cell?_setCell_other _ _ _ _ (by simp)]; exact World.cell?_setCell_same _ _ _ q0
  have r1 : (((w5.setCell ⟨w.heap.size + 1, 0, none⟩ (.int .i64 0)).setCell ⟨w.heap.size + 1, 1, none⟩ (.int .i64 0)).setCell ⟨w.heap.size + 1, 2, none⟩ (.slice none 0 0)).cell? ⟨w.heap.size + 1, 1, none⟩ = some (.int .i64 0) := by
    rw [World.cell?_setCell_other _ _ _ _ (by simp)]; exact World.cell?_setCell_same _ _ _ (by rw [World.cell?_setCell_other _ _ _ _ (by simp)]; exact q1)
  have r2 : (((w5.setCell ⟨w.heap.size + 1, 0, none⟩ (.int .i64 0)).setCell ⟨w.heap.size + 1, 1, none⟩ (.int .i64 0)).setCell ⟨w.heap.size + 1, 2, none⟩ (.slice none 0 0)).cell? ⟨w.heap.size + 1, 2, none⟩ = some (.slice none 0 0) :=
    World.cell?_setCell_same _ _ _ (by rw [World.cell?_setCell_other _ _ _ _ (by simp), World.cell?_setCell_other _ _ _ _ (by simp)]; exact q2)
  have SE := stepR_end (X := w.heap.size + 1) (Z := ((w5.setCell ⟨w.heap.size + 1, 0, none⟩ (.int .i64 0)).setCell ⟨w.heap.size + 1, 1, none⟩ (.int .i64 0)).setCell ⟨w.heap.size + 1, 2, none⟩ (.slice none 0 0)) HH.out (box2_below w _ _ _ _) (Nat.le_succ _) (by rw [box2_size]; omega) HS5.out (fun cs fr e => by rw [HX1.out] at e; cases e) (fun x hx => by
    rw [Below.heap_setCell _ _ _ _ hx, Below.heap_setCell _ _ _ _ hx, Below.heap_setCell _ _ _ _ hx]) (by simp [World.setCell]) ⟨rfl, rfl, rfl⟩
  generalize ((w5.setCell ⟨w.heap.size + 1, 0, none⟩ (.int .i64 0)).setCell ⟨w.heap.size + 1, 1, none⟩ (.int .i64 0)).setCell ⟨w.heap.size + 1, 2, none⟩ (.slice none 0 0) = Z at *
  exact bodyPost_ret (v := .tuple #[.agg #[.int .i64 0, .int .i64 0, .slice none 0 0], .int .i64 k]) (by simp [results, Try.results16, go_sem, r0, r1, r2]) rfl ⟨rfl, es', SE.1, hP⟩

theorem rdo_2 (M : Nat) (row : Option Nat) (es : List Pl.Ent) (T T' : Pl.Off) (P : List Pl.Ent → Prop) (A B a b k : Int) (bs : List Int) (ao : Option Addr) (len cap : Nat) (w : World) (h : RefAt w M row es T)
    (hC : Calls Try.prog 28 #[.pointer (some ⟨M, 0, none⟩), .int .i64 A] (box2 w 2 A B (.slice ao len cap)) fun e w' => ∃ v', e = .returned (.tuple #[.agg #[.int .i64 a, .int .i64 b, v'], .int .i64 k]) ∧ BytesT w' v' bs ∧ ∃ es', StepR (box2 w 2 A B (.slice ao len cap)) w' M row es' T' ∧ P es') :
    Calls Try.prog 16 #[.pointer (some ⟨M, 0, none⟩), .agg #[.int .i64 2, .int .i64 A, .int .i64 B, .slice ao len cap]] w fun e w' => ∃ v', e = .returned (.tuple #[.agg #[.int .i64 a, .int .i64 b, v'], .int .i64 k]) ∧ BytesT w' v' bs ∧ ∃ es', StepR w w' M row es' T' ∧ P es' := by
  have HH := Lib.hid h
  have HC := Lib.hid hC
  have hM := h.lt
  have hrl := h.row_lt
  have HRL := Lib.hid hrl
  clear h hC hrl
  go_enter Try.func16, Try.ntmps16
  go_wp2_with fail
  refine HC.out.mono ?_
  rintro e w5 ⟨v5, rfl, B5, es', S5, hP⟩
  obtain ⟨ao5, cp5, hv5, _⟩ := id B5
  subst hv5
  have HB5 := Lib.hid B5
  clear B5
  have n1 : w.heap.size + 1 ≠ M := by omega
  have n3 : some (w.heap.size + 1) ≠ row := fun e => by have := (HRL.out _ e.symm).2; omega
  have g1 := S5.block (X := w.heap.size + 1) (by rw [box2_size]; omega) n1 n3
  have x1 := g1.trans (box2_1 w 2 A B (.slice ao len cap))
  have q : ∀ j u, (#[.int .i64 0, .int .i64 0, .slice none 0 0] : Array Value)[j]? = some u → w5.cell? ⟨w.heap.size + 1, j, none⟩ = some u := fun j u hj => by simp only [World.cell?, x1]; simpa using hj
  have q0 : w5.cell? ⟨w.heap.size + 1, 0, none⟩ = some (.int .i64 0) := q 0 _ rfl
  have q1 : w5.cell? ⟨w.heap.size + 1, 1, none⟩ = some (.int .i64 0) := q 1 _ rfl
  have q2 : w5.cell? ⟨w.heap.size + 1, 2, none⟩ = some (.slice none 0 0) := q 2 _ rfl
  have fz : ∀ j, w5.frozen? ⟨w.heap.size + 1, j, none⟩ = false := fun j => by simp [World.frozen?, x1]
  have f0 := fz 0
  have f1 := fz 1
  have f2 := fz 2
  have HS5 := Lib.hid S5
  have HX1 := Lib.hid x1
  clear S5 g1 x1 q fz HC
  go_wp2_with fail
  have r0 : (((w5.setCell ⟨w.heap.size + 1, 0, none⟩ (.int .i64 a)).setCell ⟨w.heap.size + 1, 1, none⟩ (.int .i64 b)).setCell ⟨w.heap.size + 1, 2, none⟩ (.slice ao5 bs.length cp5)).cell? ⟨w.heap.size + 1, 0, none⟩ = some (.int .i64 a) := by
    rw [World.cell?_setCell_other _ _ _ _ (by simp), World.cell?_setCell_other _ _ _ _ (by simp)]; exact World.cell?_setCell_same _ _ _ q0
  have r1 : (((w5.setCell ⟨w.heap.size + 1, 0, none⟩ (.int .i64 a)).setCell ⟨w.heap.size + 1, 1, none⟩ (.int .i64 b)).setCell ⟨w.heap.size + 1, 2, none⟩ (.slice ao5 bs.length cp5)).cell? ⟨w.heap.size + 1, 1, none⟩ = some (.int .i64 b) := by
    rw [World.cell?_setCell_other _ _ _ _ (by simp)]; exact World.cell?_setCell_same _ _ _ (by rw [World.cell?_setCell_other _ _ _ _ (by simp)]; exact q1)
  have r2 : (((w5.setCell ⟨w.heap.size + 1, 0, none⟩ (.int .i64 a)).setCell ⟨w.heap.size + 1, 1, none⟩ (.int .i64 b)).setCell ⟨w.heap.size + 1, 2, none⟩ (.slice ao5 bs.length cp5)).cell? ⟨w.heap.size + 1, 2, none⟩ = some (.slice ao5 bs.length cp5) :=
    World.cell?_setCell_same _ _ _ (by rw [World.cell?_setCell_other _ _ _ _ (by simp), World.cell?_setCell_other _ _ _ _ (by simp)]; exact q2)
  have SE := stepR_end (X := w.heap.size + 1) (Z := ((w5.setCell ⟨w.heap.size + 1, 0, none⟩ (.int .i64 a)).setCell ⟨w.heap.size + 1, 1, none⟩ (.int .i64 b)).setCell ⟨w.heap.size + 1, 2, none⟩ (.slice ao5 bs.length cp5)) HH.out (box2_below w _ _ _ _) (Nat.le_succ _) (by rw [box2_size]; omega) HS5.out (fun cs fr e => by rw [HX1.out] at e; cases e) (fun x hx => by
    rw [Below.heap_setCell _ _ _ _ hx, Below.heap_setCell _ _ _ _ hx, Below.heap_setCell _ _ _ _ hx]) (by simp [World.setCell]) ⟨rfl, rfl, rfl⟩
  generalize ((w5.setCell ⟨w.heap.size + 1, 0, none⟩ (.int .i64 a)).setCell ⟨w.heap.size + 1, 1, none⟩ (.int .i64 b)).setCell ⟨w.heap.size + 1, 2, none⟩ (.slice ao5 bs.length cp5) = Z at *
  exact bodyPost_ret (v := .tuple #[.agg #[.int .i64 a, .int .i64 b, .slice ao5 bs.length cp5], .int .i64 k]) (by simp [results, Try.results16, go_sem, r0, r1, r2]) rfl ⟨_, rfl, HB5.out.keep SE.2, es', SE.1, hP⟩

theorem rdo_3 (M : Nat) (row : Option Nat) (es : List Pl.Ent) (T T' : Pl.Off) (P : List Pl.Ent → Prop) (A B a b k : Int) (bs : List Int) (ao : Option Addr) (len cap : Nat) (w : World) (h : RefAt w M row es T)
    (hC : Calls Try.prog 29 #[.pointer (some ⟨M, 0, none⟩), .int .i64 A] (box2 w 3 A B (.slice ao len cap)) fun e w' => ∃ v', e = .returned (.tuple #[.agg #[.int .i64 a, .int .i64 b, v'], .int .i64 k]) ∧ BytesT w' v' bs ∧ ∃ es', StepR (box2 w 3 A B (.slice ao len cap)) w' M row es' T' ∧ P es') :
    Calls Try.prog 16 #[.pointer (some ⟨M, 0, none⟩), .agg #[.int .i64 3, .int .i64 A, .int .i64 B, .slice ao len cap]] w fun e w' => ∃ v', e = .returned (.tuple #[.agg #[.int .i64 a, .int .i64 b, v'], .int .i64 k]) ∧ BytesT w' v' bs ∧ ∃ es', StepR w w' M row es' T' ∧ P es' := by
  have HH := Lib.hid h
  have HC := Lib.hid hC
  have hM := h.lt
  have hrl := h.row_lt
  have HRL := Lib.hid hrl
  clear h hC hrl
  go_enter Try.func16, Try.ntmps16
  go_wp2_with fail
  refine HC.out.mono ?_
  rintro e w5 ⟨v5, rfl, B5, es', S5, hP⟩
  obtain ⟨ao5, cp5, hv5, _⟩ := id B5
  subst hv5
  have HB5 := Lib.hid B5
  clear B5
  have n1 : w.heap.size + 1 ≠ M := by omega
  have n3 : some (w.heap.size + 1) ≠ row := fun e => by have := (HRL.out _ e.symm).2; omega
  have g1 := S5.block (X := w.heap.size + 1) (by rw [box2_size]; omega) n1 n3
  have x1 := g1.trans (box2_1 w 3 A B (.slice ao len cap))
  have q : ∀ j u, (#[.int .i64 0, .int .i64 0, .slice none 0 0] : Array Value)[j]? = some u → w5.cell? ⟨w.heap.size + 1, j, none⟩ = some u := fun j u hj => by simp only [World.cell?, x1]; simpa using hj
  have q0 : w5.cell? ⟨w.heap.size + 1, 0, none⟩ = some (.int .i64 0) := q 0 _ rfl
  have q1 : w5.cell? ⟨w.heap.size + 1, 1, none⟩ = some (.int .i64 0) := q 1 _ rfl
  have q2 : w5.cell? ⟨w.heap.size + 1, 2, none⟩ = some (.slice none 0 0) := q 2 _ rfl
  have fz : ∀ j, w5.frozen? ⟨w.heap.size + 1, j, none⟩ = false := fun j => by simp [World.frozen?, x1]
  have f0 := fz 0
  have f1 := fz 1
  have f2 := fz 2
  have HS5 := Lib.hid S5
  have HX1 := Lib.hid x1
  clear S5 g1 x1 q fz HC
  go_wp2_with fail
  have r0 : (((w5.setCell ⟨w.heap.size + 1, 0, none⟩ (.int .i64 a)).setCell ⟨w.heap.size + 1, 1, none⟩ (.int .i64 b)).setCell ⟨w.heap.size + 1, 2, none⟩ (.slice ao5 bs.length cp5)).cell? ⟨w.heap.size + 1, 0, none⟩ = some (.int .i64 a) := by
    rw [World.cell?_setCell_other _ _ _ _ (by simp), World.cell?_setCell_other _ _ _ _ (by simp)]; exact World.cell?_setCell_same _ _ _ q0
  have r1 : (((w5.setCell ⟨w.heap.size + 1, 0, none⟩ (.int .i64 a)).setCell ⟨w.heap.size + 1, 1, none⟩ (.int .i64 b)).setCell ⟨w.heap.size + 1, 2, none⟩ (.slice ao5 bs.length cp5)).cell? ⟨w.heap.size + 1, 1, none⟩ = some (.int .i64 b) := by
    rw [World.cell?_setCell_other _ _ _ _ (by simp)]; exact World.cell?_setCell_same _ _ _ (by rw [World.cell?_setCell_other _ _ _ _ (by simp)]; exact q1)
  have r2 : (((w5.setCell ⟨w.heap.size + 1, 0, none⟩ (.int .i64 a)).setCell ⟨w.heap.size + 1, 1, none⟩ (.int .i64 b)).setCell ⟨w.heap.size + 1, 2, none⟩ (.slice ao5 bs.length cp5)).cell? ⟨w.heap.size + 1, 2, none⟩ = some (.slice ao5 bs.length cp5) :=
    World.cell?_setCell_same _ _ _ (by rw [World.cell?_setCell_other _ _ _ _ (by simp), World.cell?_setCell_other _ _ _ _ (by simp)]; exact q2)
  have SE := stepR_end (X := w.heap.size + 1) (Z := ((w5.setCell ⟨w.heap.size + 1, 0, none⟩ (.int .i64 a)).setCell ⟨w.heap.size + 1, 1, none⟩ (.int .i64 b)).setCell ⟨w.heap.size + 1, 2, none⟩ (.slice ao5 bs.length cp5)) HH.out (box2_below w _ _ _ _) (Nat.le_succ _) (by rw [box2_size]; omega) HS5.out (fun cs fr e => by rw [HX1.out] at e; cases e) (fun x hx => by
    rw [Below.heap_setCell _ _ _ _ hx, Below.heap_setCell _ _ _ _ hx, Below.heap_setCell _ _ _ _ hx]) (by simp [World.setCell]) ⟨rfl, rfl, rfl⟩
  generalize ((w5.setCell ⟨w.heap.size + 1, 0, none⟩ (.int .i64 a)).setCell ⟨w.heap.size + 1, 1, none⟩ (.int .i64 b)).setCell ⟨w.heap.size + 1, 2, none⟩ (.slice ao5 bs.length cp5) = Z at *
  exact bodyPost_ret (v := .tuple #[.agg #[.int .i64 a, .int .i64 b, .slice ao5 bs.length cp5], .int .i64 k]) (by simp [results, Try.results16, go_sem, r0, r1, r2]) rfl ⟨_, rfl, HB5.out.keep SE.2, es', SE.1, hP⟩

theorem rdo_4 (M : Nat) (row : Option Nat) (es : List Pl.Ent) (T T' : Pl.Off) (P : List Pl.Ent → Prop) (A B k : Int) (ao : Option Addr) (len cap : Nat) (w : World) (h : RefAt w M row es T)
    (hC : Calls Try.prog 30 #[.pointer (some ⟨M, 0, none⟩), .int .i64 A] (box2 w 4 A B (.slice ao len cap)) fun e w' => e = .returned (.int .i64 k) ∧ ∃ es', StepR (box2 w 4 A B (.slice ao len cap)) w' M row es' T' ∧ P es') :
    Calls Try.prog 16 #[.pointer (some ⟨M, 0, none⟩), .agg #[.int .i64 4, .int .i64 A, .int .i64 B, .slice ao len cap]] w fun e w' => e = .returned (.tuple #[.agg #[.int .i64 0, .int .i64 0, .slice none 0 0], .int .i64 k]) ∧ ∃ es', StepR w w' M row es' T' ∧ P es' := by
  have HH := Lib.hid h
  have HC := Lib.hid hC
  have hM := h.lt
  have hrl := h.row_lt
  have HRL := Lib.hid hrl
  clear h hC hrl
  go_enter Try.func16, Try.ntmps16
  go_wp2_with fail
  refine HC.out.mono ?_
  rintro e w5 ⟨rfl, es', S5, hP⟩
  have n1 : w.heap.size + 1 ≠ M := by omega
  have n3 : some (w.heap.size + 1) ≠ row := fun e => by have := (HRL.out _ e.symm).2; omega
  have g1 := S5.block (X := w.heap.size + 1) (by rw [box2_size]; omega) n1 n3
  have x1 := g1.trans (box2_1 w 4 A B (.slice ao len cap))
  have q : ∀ j u, (#[.int .i64 0, .int .i64 0, .slice none 0 0] : Array Value)[j]? = some u → w5.cell? ⟨w.heap.size + 1, j, none⟩ = some u := fun j u hj => by simp only [World.cell?, x1]; simpa using hj
  have q0 : w5.cell? ⟨w.heap.size + 1, 0, none⟩ = some (.int .i64 0) := q 0 _ rfl
  have q1 : w5.cell? ⟨w.heap.size + 1, 1, none⟩ = some (.int .i64 0) := q 1 _ rfl
  have q2 : w5.cell? ⟨w.heap.size + 1, 2, none⟩ = some (.slice none 0 0) := q 2 _ rfl
  have fz : ∀ j, w5.frozen? ⟨w.heap.size + 1, j, none⟩ = false := fun j => by simp [World.frozen?, x1]
  have f0 := fz 0
  have f1 := fz 1
  have f2 := fz 2
  have HS5 := Lib.hid S5
  have HX1 := Lib.hid x1
  clear S5 g1 x1 q fz HC
  go_wp2_with fail
  have r0 : (((w5.setCell ⟨w.heap.size + 1, 0, none⟩ (.int .i64 0)).setCell ⟨w.heap.size + 1, 1, none⟩ (.int .i64 0)).setCell ⟨w.heap.size + 1, 2, none⟩ (.slice none 0 0)).cell? ⟨w.heap.size + 1, 0, none⟩ = some (.int .i64 0) := by
    rw [World.cell?_setCell_other _ _ _ _ (by simp), World.cell?_setCell_other _ _ _ _ (by simp)]; exact World.cell?_setCell_same _ _ _ q0
  have r1 : (((w5.setCell ⟨w.heap.size + 1, 0, none⟩ (.int .i64 0)).setCell ⟨w.heap.size + 1, 1, none⟩ (.int .i64 0)).setCell ⟨w.heap.size + 1, 2, none⟩ (.slice none 0 0)).cell? ⟨w.heap.size + 1, 1, none⟩ = some (.int .i64 0) := by
    rw [World.cell?_setCell_other _ _ _ _ (by simp)]; exact World.cell?_setCell_same _ _ _ (by rw [World.cell?_setCell_other _ _ _ _ (by simp)]; exact q1)
  have r2 : (((w5.setCell ⟨w.heap.size + 1, 0, none⟩ (.int .i64 0)).setCell ⟨w.heap.size + 1, 1, none⟩ (.int .i64 0)).setCell ⟨w.heap.size + 1, 2, none⟩ (.slice none 0 0)).cell? ⟨w.heap.size + 1, 2, none⟩ = some (.slice none 0 0) :=
    World.cell?_setCell_same _ _ _ (by rw [World.cell?_setCell_other _ _ _ _ (by simp), World.cell?_setCell_other _ _ _ _ (by simp)]; exact q2)
  have SE := stepR_end (X := w.heap.size + 1) (Z := ((w5.setCell ⟨w.heap.size + 1, 0, none⟩ (.int .i64 0)).setCell ⟨w.heap.size + 1, 1, none⟩ (.int .i64 0)).setCell ⟨w.heap.size + 1, 2, none⟩ (.slice none 0 0)) HH.out (box2_below w _ _ _ _) (Nat.le_succ _) (by rw [box2_size]; omega) HS5.out (fun cs fr e => by rw [HX1.out] at e; cases e) (fun x hx => by
    rw [Below.heap_setCell _ _ _ _ hx, Below.heap_setCell _ _ _ _ hx, Below.heap_setCell _ _ _ _ hx]) (by simp [World.setCell]) ⟨rfl, rfl, rfl⟩
  generalize ((w5.setCell ⟨w.heap.size + 1, 0, none⟩ (.int .i64 0)).setCell ⟨w.heap.size + 1, 1, none⟩ (.int .i64 0)).setCell ⟨w.heap.size + 1, 2, none⟩ (.slice none 0 0) = Z at *
  exact bodyPost_ret (v := .tuple #[.agg #[.int .i64 0, .int .i64 0, .slice none 0 0], .int .i64 k]) (by simp [results, Try.results16, go_sem, r0, r1, r2]) rfl ⟨rfl, es', SE.1, hP⟩

theorem rdo_5 (M : Nat) (row : Option Nat) (es : List Pl.Ent) (T T' : Pl.Off) (P : List Pl.Ent → Prop) (A B k : Int) (ao : Option Addr) (len cap : Nat) (w : World) (h : RefAt w M row es T)
    (hC : Calls Try.prog 31 #[.pointer (some ⟨M, 0, none⟩), .int .i64 A, .int .i64 B, .bool true] (box2 w 5 A B (.slice ao len cap)) fun e w' => e = .returned (.int .i64 k) ∧ ∃ es', StepR (box2 w 5 A B (.slice ao len cap)) w' M row es' T' ∧ P es') :
    Calls Try.prog 16 #[.pointer (some ⟨M, 0, none⟩), .agg #[.int .i64 5, .int .i64 A, .int .i64 B, .slice ao len cap]] w fun e w' => e = .returned (.tuple #[.agg #[.int .i64 0, .int .i64 0, .slice none 0 0], .int .i64 k]) ∧ ∃ es', StepR w w' M row es' T' ∧ P es' := by
  have HH := Lib.hid h
  have HC := Lib.hid hC
  have hM := h.lt
  have hrl := h.row_lt
  have HRL := Lib.hid hrl
  clear h hC hrl
  go_enter Try.func16, Try.ntmps16
  go_wp2_with fail
  refine HC.out.mono ?_
  rintro e w5 ⟨rfl, es', S5, hP⟩
  have n1 : w.heap.size + 1 ≠ M := by omega
  have n3 : some (w.heap.size + 1) ≠ row := fun e => by have := (HRL.out _ e.symm).2; omega
  have g1 := S5.block (X := w.heap.size + 1) (by rw [box2_size]; omega) n1 n3
  have x1 := g1.trans (box2_1 w 5 A B (.slice ao len cap))
  have q : ∀ j u, (#[.int .i64 0, .int .i64 0, .slice none 0 0] : Array Value)[j]? = some u → w5.cell? ⟨w.heap.size + 1, j, none⟩ = some u := fun j u hj => by simp only [World.cell?, x1]; simpa using hj
  have q0 : w5.cell? ⟨w.heap.size + 1, 0, none⟩ = some (.int .i64 0) := q 0 _ rfl
  have q1 : w5.cell? ⟨w.heap.size + 1, 1, none⟩ = some (.int .i64 0) := q 1 _ rfl
  have q2 : w5.cell? ⟨w.heap.size + 1, 2, none⟩ = some (.slice none 0 0) := q 2 _ rfl
  have fz : ∀ j, w5.frozen? ⟨w.heap.size + 1, j, none⟩ = false := fun j => by simp [World.frozen?, x1]
  have f0 := fz 0
  have f1 := fz 1
  have f2 := fz 2
  have HS5 := Lib.hid S5
  have HX1 := Lib.hid x1
  clear S5 g1 x1 q fz HC
  go_wp2_with fail
  have r0 : (((w5.setCell ⟨w.heap.size + 1, 0, none⟩ (.int .i64 0)).setCell ⟨w.heap.size + 1, 1, none⟩ (.int .i64 0)).setCell ⟨w.heap.size + 1, 2, none⟩ (.slice none 0 0)).cell? ⟨w.heap.size + 1, 0, none⟩ = some (.int .i64 0) := by
    rw [World.cell?_setCell_other _ _ _ _ (by simp), World.cell?_setCell_other _ _ _ _ (by simp)]; exact World.cell?_setCell_same _ _ _ q0
  have r1 : (((w5.setCell ⟨w.heap.size + 1, 0, none⟩ (.int .i64 0)).setCell ⟨w.heap.size + 1, 1, none⟩ (.int .i64 0)).setCell ⟨w.heap.size + 1, 2, none⟩ (.slice none 0 0)).cell? ⟨w.heap.size + 1, 1, none⟩ = some (.int .i64 0) := by
    rw [World.cell?_setCell_other _ _ _ _ (by simp)]; exact World.cell?_setCell_same _ _ _ (by rw [World.cell?_setCell_other _ _ _ _ (by simp)]; exact q1)
  have r2 : (((w5.setCell ⟨w.heap.size + 1, 0, none⟩ (.int .i64 0)).setCell ⟨w.heap.size + 1, 1, none⟩ (.int .i64 0)).setCell ⟨w.heap.size + 1, 2, none⟩ (.slice none 0 0)).cell? ⟨w.heap.size + 1, 2, none⟩ = some (.slice none 0 0) :=
    World.cell?_setCell_same _ _ _ (by rw [World.cell?_setCell_other _ _ _ _ (by simp), World.cell?_setCell_other _ _ _ _ (by simp)]; exact q2)
  have SE := stepR_end (X := w.heap.size + 1) (Z := ((w5.setCell ⟨w.heap.size + 1, 0, none⟩ (.int .i64 0)).setCell ⟨w.heap.size + 1, 1, none⟩ (.int .i64 0)).setCell ⟨w.heap.size + 1, 2, none⟩ (.slice none 0 0)) HH.out (box2_below w _ _ _ _) (Nat.le_succ _) (by rw [box2_size]; omega) HS5.out (fun cs fr e => by rw [HX1.out] at e; cases e) (fun x hx => by
    rw [Below.heap_setCell _ _ _ _ hx, Below.heap_setCell _ _ _ _ hx, Below.heap_setCell _ _ _ _ hx]) (by simp [World.setCell]) ⟨rfl, rfl, rfl⟩
  generalize ((w5.setCell ⟨w.heap.size + 1, 0, none⟩ (.int .i64 0)).setCell ⟨w.heap.size + 1, 1, none⟩ (.int .i64 0)).setCell ⟨w.heap.size + 1, 2, none⟩ (.slice none 0 0) = Z at *
  exact bodyPost_ret (v := .tuple #[.agg #[.int .i64 0, .int .i64 0, .slice none 0 0], .int .i64 k]) (by simp [results, Try.results16, go_sem, r0, r1, r2]) rfl ⟨rfl, es', SE.1, hP⟩

theorem rdo_6 (M : Nat) (row : Option Nat) (es : List Pl.Ent) (T T' : Pl.Off) (P : List Pl.Ent → Prop) (A B k : Int) (ao : Option Addr) (len cap : Nat) (w : World) (h : RefAt w M row es T)
    (hC : Calls Try.prog 31 #[.pointer (some ⟨M, 0, none⟩), .int .i64 A, .int .i64 B, .bool false] (box2 w 6 A B (.slice ao len cap)) fun e w' => e = .returned (.int .i64 k) ∧ ∃ es', StepR (box2 w 6 A B (.slice ao len cap)) w' M row es' T' ∧ P es') :
    Calls Try.prog 16 #[.pointer (some ⟨M, 0, none⟩), .agg #[.int .i64 6, .int .i64 A, .int .i64 B, .slice ao len cap]] w fun e w' => e = .returned (.tuple #[.agg #[.int .i64 0, .int .i64 0, .slice none 0 0], .int .i64 k]) ∧ ∃ es', StepR w w' M row es' T' ∧ P es' := by
  have HH := Lib.hid h
  have HC := Lib.hid hC
  have hM := h.lt
  have hrl := h.row_lt
  have HRL := Lib.hid hrl
  clear h hC hrl
  go_enter Try.func16, Try.ntmps16
  go_wp2_with fail
  refine HC.out.mono ?_
  rintro e w5 ⟨rfl, es', S5, hP⟩
  have n1 : w.heap.size + 1 ≠ M := by omega
  have n3 : some (w.heap.size + 1) ≠ row := fun e => by have := (HRL.out _ e.symm).2; omega
  have g1 := S5.block (X := w.heap.size + 1) (by rw [box2_size]; omega) n1 n3
  have x1 := g1.trans (box2_1 w 6 A B (.slice ao len cap))
  have q : ∀ j u, (#[.int .i64 0, .int .i64 0, .slice none 0 0] : Array Value)[j]? = some u → w5.cell? ⟨w.heap.size + 1, j, none⟩ = some u := fun j u hj => by simp only [World.cell?, x1]; simpa using hj
  have q0 : w5.cell? ⟨w.heap.size + 1, 0, none⟩ = some (.int .i64 0) := q 0 _ rfl
  have q1 : w5.cell? ⟨w.heap.size + 1, 1, none⟩ = some (.int .i64 0) := q 1 _ rfl
  have q2 : w5.cell? ⟨w.heap.size + 1, 2, none⟩ = some (.slice none 0 0) := q 2 _ rfl
  have fz : ∀ j, w5.frozen? ⟨w.heap.size + 1, j, none⟩ = false := fun j => by simp [World.frozen?, x1]
  have f0 := fz 0
  have f1 := fz 1
  have f2 := fz 2
  have HS5 := Lib.hid S5
  have HX1 := Lib.hid x1
  clear S5 g1 x1 q fz HC
  go_wp2_with fail
  have r0 : (((w5.setCell ⟨w.heap.size + 1, 0, none⟩ (.int .i64 0)).setCell ⟨w.heap.size + 1, 1, none⟩ (.int .i64 0)).setCell ⟨w.heap.size + 1, 2, none⟩ (.slice none 0 0)).cell? ⟨w.heap.size + 1, 0, none⟩ = some (.int .i64 0) := by
    rw [World.cell?_setCell_other _ _ _ _ (by simp), World.cell?_setCell_other _ _ _ _ (by simp)]; exact World.cell?_setCell_same _ _ _ q0
  have r1 : (((w5.setCell ⟨w.heap.size + 1, 0, none⟩ (.int .i64 0)).setCell ⟨w.heap.size + 1, 1, none⟩ (.int .i64 0)).setCell ⟨w.heap.size + 1, 2, none⟩ (.slice none 0 0)).cell? ⟨w.heap.size + 1, 1, none⟩ = some (.int .i64 0) := by
    rw [World.cell?_setCell_other _ _ _ _ (by simp)]; exact World.cell?_setCell_same _ _ _ (by rw [World.cell?_setCell_other _ _ _ _ (by simp)]; exact q1)
  have r2 : (((w5.setCell ⟨w.heap.size + 1, 0, none⟩ (.int .i64 0)).setCell ⟨w.heap.size + 1, 1, none⟩ (.int .i64 0)).setCell ⟨w.heap.size + 1, 2, none⟩ (.slice none 0 0)).cell? ⟨w.heap.size + 1, 2, none⟩ = some (.slice none 0 0) :=
    World.cell?_setCell_same _ _ _ (by rw [World.cell?_setCell_other _ _ _ _ (by simp), World.cell?_setCell_other _ _ _ _ (by simp)]; exact q2)
  have SE := stepR_end (X := w.heap.size + 1) (Z := ((w5.setCell ⟨w.heap.size + 1, 0, none⟩ (.int .i64 0)).setCell ⟨w.heap.size + 1, 1, none⟩ (.int .i64 0)).setCell ⟨w.heap.size + 1, 2, none⟩ (.slice none 0 0)) HH.out (box2_below w _ _ _ _) (Nat.le_succ _) (by rw [box2_size]; omega) HS5.out (fun cs fr e => by rw [HX1.out] at e; cases e) (fun x hx => by
    rw [Below.heap_setCell _ _ _ _ hx, Below.heap_setCell _ _ _ _ hx, Below.heap_setCell _ _ _ _ hx]) (by simp [World.setCell]) ⟨rfl, rfl, rfl⟩
  generalize ((w5.setCell ⟨w.heap.size + 1, 0, none⟩ (.int .i64 0)).setCell ⟨w.heap.size + 1, 1, none⟩ (.int .i64 0)).setCell ⟨w.heap.size + 1, 2, none⟩ (.slice none 0 0) = Z at *
  exact bodyPost_ret (v := .tuple #[.agg #[.int .i64 0, .int .i64 0, .slice none 0 0], .int .i64 k]) (by simp [results, Try.results16, go_sem, r0, r1, r2]) rfl ⟨rfl, es', SE.1, hP⟩

theorem rdo_none (M : Nat) (row : Option Nat) (es : List Pl.Ent) (T : Pl.Off) (K A B : Int) (ao : Option Addr) (len cap : Nat) (w : World) (h : RefAt w M row es T)
    (k1 : (K == 1) = false) (k2 : (K == 2) = false) (k3 : (K == 3) = false) (k4 : (K == 4) = false) (k5 : (K == 5) = false) (k6 : (K == 6) = false) :
    Calls Try.prog 16 #[.pointer (some ⟨M, 0, none⟩), .agg #[.int .i64 K, .int .i64 A, .int .i64 B, .slice ao len cap]] w fun e w' => e = .returned (.tuple #[.agg #[.int .i64 0, .int .i64 0, .slice none 0 0], .int .i64 0]) ∧ StepR w w' M row es T := by
  have HH := Lib.hid h
  have hM := h.lt
  clear h
  go_enter Try.func16, Try.ntmps16
  go_wp2_with fail
  exact bodyPost_ret (v := .tuple #[.agg #[.int .i64 0, .int .i64 0, .slice none 0 0], .int .i64 0]) (by simp [results, Try.results16, go_sem]) rfl ⟨rfl, StepR.of_below HH.out (box2_below w K A B (.slice ao len cap))⟩

theorem rdo_any (M : Nat) (row : Option Nat) (es : List Pl.Ent) (T : Pl.Off) (K A B : Int) (v : Value) (bs : List Int) (w : World) (h : RefAt w M row es T) (hn : es.length ≤ 64) (hl : ∀ e ∈ es, e.bs.length ≤ 4096) (hb : BytesC w v bs) :
    Calls Try.prog 16 #[.pointer (some ⟨M, 0, none⟩), .agg #[.int .i64 K, .int .i64 A, .int .i64 B, v]] w fun e w' => ∃ v' es', e = .returned (.tuple #[.agg #[.int .i64 (Pl.doF K A B bs (Pl.abs es) T).pk.frm, .int .i64 (Pl.doF K A B bs (Pl.abs es) T).pk.to, v'], .int .i64 (Pl.doF K A B bs (Pl.abs es) T).err]) ∧
      BytesT w' v' (Pl.doF K A B bs (Pl.abs es) T).pk.bs ∧ StepR w w' M row es' (Pl.doF K A B bs (Pl.abs es) T).T ∧ Pl.abs es' = (Pl.doF K A B bs (Pl.abs es) T).ps ∧ ∀ x ∈ es', x ∈ es ∨ NewB w.heap.size x.bv := by
  obtain ⟨ao, cap, hv, _⟩ := id hb
  subst hv
  have AA := h.below (box2_below w K A B (.slice ao bs.length cap))
  have BB := hb.below (box2_below w K A B (.slice ao bs.length cap))
  have hd : ∀ o, Pl.doF K A B bs (Pl.abs es) T = o → (Calls Try.prog 16 #[.pointer (some ⟨M, 0, none⟩), .agg #[.int .i64 K, .int .i64 A, .int .i64 B, .slice ao bs.length cap]] w fun e w' => ∃ v' es', e = .returned (.tuple #[.agg #[.int .i64 o.pk.frm, .int .i64 o.pk.to, v'], .int .i64 o.err]) ∧ BytesT w' v' o.pk.bs ∧ StepR w w' M row es' o.T ∧ Pl.abs es' = o.ps ∧ ∀ x ∈ es', x ∈ es ∨ NewB w.heap.size x.bv) →
      Calls Try.prog 16 #[.pointer (some ⟨M, 0, none⟩), .agg #[.int .i64 K, .int .i64 A, .int .i64 B, .slice ao bs.length cap]] w fun e w' => ∃ v' es', e = .returned (.tuple #[.agg #[.int .i64 (Pl.doF K A B bs (Pl.abs es) T).pk.frm, .int .i64 (Pl.doF K A B bs (Pl.abs es) T).pk.to, v'], .int .i64 (Pl.doF K A B bs (Pl.abs es) T).err]) ∧
      BytesT w' v' (Pl.doF K A B bs (Pl.abs es) T).pk.bs ∧ StepR w w' M row es' (Pl.doF K A B bs (Pl.abs es) T).T ∧ Pl.abs es' = (Pl.doF K A B bs (Pl.abs es) T).ps ∧ ∀ x ∈ es', x ∈ es ∨ NewB w.heap.size x.bv := fun o ho hC => by rw [ho]; exact hC
  by_cases k1 : K = 1
  · subst k1
    refine hd _ (show _ = Pl.sendF A B bs (Pl.abs es) T from by unfold Pl.doF; rw [if_pos rfl]) ?_
    obtain ⟨p1, p2⟩ := sendF_pk A B bs (Pl.abs es) T
    rw [p1, p2]
    refine (rdo_1 M row es T T (fun es' => Pl.abs es' = (Pl.sendF A B bs (Pl.abs es) T).ps ∧ ∀ x ∈ es', x ∈ es ∨ NewB (box2 w 1 A B (.slice ao bs.length cap)).heap.size x.bv) A B _ ao bs.length cap w h (rsend_any M row es T A B _ bs _ AA hn BB)).mono ?_
    rintro e w' ⟨rfl, es', S, hP⟩
    exact ⟨_, es', rfl, bytes_nil _, S, hP.1, fun x hx => (hP.2 x hx).imp id (fun h => h.mono (by rw [box2_size]; omega))⟩
  by_cases k2 : K = 2
  · subst k2
    refine hd _ (show _ = Pl.takeF A (Pl.abs es) T from by unfold Pl.doF; rw [if_neg k1, if_pos rfl]) ?_
    refine (rdo_2 M row es T T (fun es' => Pl.abs es' = (Pl.takeF A (Pl.abs es) T).ps ∧ ∀ x ∈ es', x ∈ es) A B _ _ _ (Pl.takeF A (Pl.abs es) T).pk.bs ao bs.length cap w h (rtake_any M row es T A _ AA hn hl)).mono ?_
    rintro e w' ⟨v', rfl, hB, es', S, hP⟩
    exact ⟨v', es', rfl, hB, S, hP.1, fun x hx => .inl (hP.2 x hx)⟩
  by_cases k3 : K = 3
  · subst k3
    refine hd _ (show _ = Pl.copyF A (Pl.abs es) T from by unfold Pl.doF; rw [if_neg k1, if_neg k2, if_pos rfl]) ?_
    obtain ⟨p1, p2⟩ := copyF_ps A (Pl.abs es) T
    rw [p1, p2]
    refine (rdo_3 M row es T T (fun es' => Pl.abs es' = Pl.abs es ∧ ∀ x ∈ es', x ∈ es) A B (Pl.copyF A (Pl.abs es) T).pk.frm (Pl.copyF A (Pl.abs es) T).pk.to (Pl.copyF A (Pl.abs es) T).err (Pl.copyF A (Pl.abs es) T).pk.bs ao bs.length cap w h ((rcopy_any M row es T A _ AA hl).mono ?_)).mono ?_
    · rintro e w' ⟨v', rfl, hB, hb⟩
      exact ⟨v', rfl, hB, es, StepR.of_below AA hb, rfl, fun x hx => hx⟩
    rintro e w' ⟨v', rfl, hB, es', S, hP⟩
    exact ⟨v', es', rfl, hB, S, hP.1, fun x hx => .inl (hP.2 x hx)⟩
  by_cases k4 : K = 4
  · subst k4
    refine hd _ (show _ = Pl.dropF A (Pl.abs es) T from by unfold Pl.doF; rw [if_neg k1, if_neg k2, if_neg k3, if_pos rfl]) ?_
    obtain ⟨p1, p2⟩ := dropF_pk A (Pl.abs es) T
    rw [p1, p2]
    refine (rdo_4 M row es T T (fun es' => Pl.abs es' = (Pl.dropF A (Pl.abs es) T).ps ∧ ∀ x ∈ es', x ∈ es) A B _ ao bs.length cap w h (rdrop_any M row es T A _ AA hn)).mono ?_
    rintro e w' ⟨rfl, es', S, hP⟩
    exact ⟨_, es', rfl, bytes_nil _, S, hP.1, fun x hx => .inl (hP.2 x hx)⟩
  by_cases k5 : K = 5
  · subst k5
    refine hd _ (show _ = Pl.partF A B true (Pl.abs es) T from by unfold Pl.doF; rw [if_neg k1, if_neg k2, if_neg k3, if_neg k4, if_pos rfl]) ?_
    obtain ⟨p1, p2⟩ := partF_ps A B true (Pl.abs es) T
    rw [p1, p2]
    refine (rdo_5 M row es T (Pl.partF A B true (Pl.abs es) T).T (fun es' => Pl.abs es' = Pl.abs es ∧ ∀ x ∈ es', x ∈ es) A B (Pl.partF A B true (Pl.abs es) T).err ao bs.length cap w h ((rpart_any M row es T A B true _ AA).mono ?_)).mono ?_
    · rintro e w' ⟨rfl, S⟩
      exact ⟨rfl, es, S, rfl, fun x hx => hx⟩
    rintro e w' ⟨rfl, es', S, hP⟩
    exact ⟨_, es', rfl, bytes_nil _, S, hP.1, fun x hx => .inl (hP.2 x hx)⟩
  by_cases k6 : K = 6
  · subst k6
    refine hd _ (show _ = Pl.partF A B false (Pl.abs es) T from by unfold Pl.doF; rw [if_neg k1, if_neg k2, if_neg k3, if_neg k4, if_neg k5, if_pos rfl]) ?_
    obtain ⟨p1, p2⟩ := partF_ps A B false (Pl.abs es) T
    rw [p1, p2]
    refine (rdo_6 M row es T (Pl.partF A B false (Pl.abs es) T).T (fun es' => Pl.abs es' = Pl.abs es ∧ ∀ x ∈ es', x ∈ es) A B (Pl.partF A B false (Pl.abs es) T).err ao bs.length cap w h ((rpart_any M row es T A B false _ AA).mono ?_)).mono ?_
    · rintro e w' ⟨rfl, S⟩
      exact ⟨rfl, es, S, rfl, fun x hx => hx⟩
    rintro e w' ⟨rfl, es', S, hP⟩
    exact ⟨_, es', rfl, bytes_nil _, S, hP.1, fun x hx => .inl (hP.2 x hx)⟩
  · refine hd _ (show _ = (⟨Pl.zero, 0, Pl.abs es, T⟩ : Pl.Out) from by unfold Pl.doF; rw [if_neg k1, if_neg k2, if_neg k3, if_neg k4, if_neg k5, if_neg k6]) ?_
    refine (rdo_none M row es T K A B ao bs.length cap w h (beq_eq_false_iff_ne.2 k1) (beq_eq_false_iff_ne.2 k2) (beq_eq_false_iff_ne.2 k3) (beq_eq_false_iff_ne.2 k4) (beq_eq_false_iff_ne.2 k5) (beq_eq_false_iff_ne.2 k6)).mono ?_
    rintro e w' ⟨rfl, S⟩
    exact ⟨_, es, rfl, bytes_nil _, S, rfl, fun x hx => .inl hx⟩

end Go.Proofs.Ytjoikochpkfoaaa
