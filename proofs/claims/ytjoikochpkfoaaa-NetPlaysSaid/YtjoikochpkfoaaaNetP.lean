/- One step of the law: do. -/
import Derived.Test.YtjoikochpkfoaaaNetO
namespace Go.Proofs.Ytjoikochpkfoaaa
open Go.RowKit
set_option linter.unusedVariables false

/-- Two blocks beside the net's own are written to. -/
theorem NetAt.other2 {w w' : World} {N mb R S : Nat} {row : Option Nat} {es : List Pl.Ent} {T : Pl.Off} (h : NetAt w N row mb es T) (hh : ∀ x, x ≠ R → x ≠ S → w'.heap[x]? = w.heap[x]?) (h1 : R ≠ N) (h2 : R ≠ mb) (h3 : row ≠ some R) (h5 : ∀ cs fr, w.heap[R]? ≠ some (Obj.cells cs 5 fr))
    (k1 : S ≠ N) (k2 : S ≠ mb) (k3 : row ≠ some S) (k5 : ∀ cs fr, w.heap[S]? ≠ some (Obj.cells cs 5 fr)) : NetAt w' N row mb es T := by
  obtain ⟨v, hr, ho, hv⟩ := h.obj
  exact ⟨⟨v, hr.of_block (hh N (Ne.symm h1) (Ne.symm k1)), ownsRow_of ho (fun g hg => hh g (fun e => h3 (by rw [← hv, hg, e])) (fun e => k3 (by rw [← hv, hg, e]))), hv⟩, h.mp.of_block (hh mb (Ne.symm h2) (Ne.symm k2)), fun e he => (h.bodies e he).keep (keepB_of R S hh h5 k5)⟩

/-- What 'do' lays first: its step in a box, two packets' cells. -/
abbrev box3 (w : World) (K A B : Int) (v : Value) : World :=
  ((w.alloc (.cells #[.int .i64 K, .int .i64 A, .int .i64 B, v] 40)).alloc (.cells #[.int .i64 0, .int .i64 0, .slice none 0 0] 41)).alloc (.cells #[.int .i64 0, .int .i64 0, .slice none 0 0] 31)
theorem box3_below (w : World) (K A B : Int) (v : Value) : Below w.heap.size w (box3 w K A B v) := (((Below.refl _ _).alloc (Nat.le_refl _) _).alloc (by simp) _).alloc (by simp; omega) _
theorem box3_size (w : World) (K A B : Int) (v : Value) : (box3 w K A B v).heap.size = w.heap.size + 3 := by simp [box3]
theorem box3_1 (w : World) (K A B : Int) (v : Value) : (box3 w K A B v).heap[w.heap.size + 1]? = some (.cells #[.int .i64 0, .int .i64 0, .slice none 0 0] 41 (0, 0)) := by
  have := heap_alloc_new (w.alloc (.cells #[.int .i64 K, .int .i64 A, .int .i64 B, v] 40)) (.cells #[.int .i64 0, .int .i64 0, .slice none 0 0] 41)
  refine (Below.heap_alloc _ _ _ (by simp)).trans ?_
  simpa using this
theorem box3_2 (w : World) (K A B : Int) (v : Value) : (box3 w K A B v).heap[w.heap.size + 1 + 1]? = some (.cells #[.int .i64 0, .int .i64 0, .slice none 0 0] 31 (0, 0)) := by
  have := heap_alloc_new ((w.alloc (.cells #[.int .i64 K, .int .i64 A, .int .i64 B, v] 40)).alloc (.cells #[.int .i64 0, .int .i64 0, .slice none 0 0] 41)) (.cells #[.int .i64 0, .int .i64 0, .slice none 0 0] 31)
  simpa using this

/-- Behind the step: two packets' cells are written to. -/
theorem step_end {w W w5 Z : World} {N mb X Y : Nat} {row : Option Nat} {es es' : List Pl.Ent} {T T' : Pl.Off} (h : NetAt w N row mb es T) (hb : Below w.heap.size w W) (hX : w.heap.size ≤ X) (hX2 : X < W.heap.size) (hY : w.heap.size ≤ Y) (hY2 : Y < W.heap.size)
    (S : Step W w5 N row mb es' T') (hX5 : ∀ cs fr, w5.heap[X]? ≠ some (Obj.cells cs 5 fr)) (hY5 : ∀ cs fr, w5.heap[Y]? ≠ some (Obj.cells cs 5 fr))
    (hh : ∀ x, x ≠ X → x ≠ Y → Z.heap[x]? = w5.heap[x]?) (hs : Z.heap.size = w5.heap.size) (hr : Z.os = w5.os ∧ Z.tape = w5.tape ∧ Z.output = w5.output) : Step w Z N row mb es' T' ∧ KeepB w5 Z := by
  obtain ⟨row', A5, t5, r5⟩ := S
  have hNlt := h.lt
  have hmlt := h.mb_lt
  have hbs := hb.size
  have nr : ∀ x, w.heap.size ≤ x → x < W.heap.size → row' ≠ some x := fun x h1 h2 e => by
    rcases r5 with r | ⟨g, r, hg⟩
    · have := (h.row_lt x (by rw [← r, e])).2; omega
    · rw [r] at e; cases e; omega
  refine ⟨⟨row', A5.other2 hh (by omega) (by omega) (nr X hX hX2) hX5 (by omega) (by omega) (nr Y hY hY2) hY5, ⟨?_, ?_, ?_⟩, ?_⟩, keepB_of X Y hh hX5 hY5⟩
  · rw [hs]; exact Nat.le_trans hbs t5.size
  · intro j hj h1 h2 h3
    exact (hh j (by omega) (by omega)).trans ((t5.same j (by omega) h1 h2 h3).trans (hb.block j hj))
  · exact ⟨hr.1.trans (t5.rest.1.trans hb.os), hr.2.1.trans (t5.rest.2.1.trans hb.tape), hr.2.2.trans (t5.rest.2.2.trans hb.output)⟩
  · rcases r5 with r | ⟨g, r, hg⟩
    · exact .inl r
    · exact .inr ⟨g, r, by omega⟩

theorem do_1 (N mb : Nat) (row : Option Nat) (es : List Pl.Ent) (T T' : Pl.Off) (P : List Pl.Ent → Prop) (A B k : Int) (ao : Option Addr) (len cap : Nat) (w : World) (h : NetAt w N row mb es T)
    (hC : Calls Try.prog 8 #[.pointer (some ⟨N, 0, none⟩), .int .i64 A, .int .i64 B, .slice ao len cap] (box3 w 1 A B (.slice ao len cap)) fun e w' => e = .returned (.int .i64 k) ∧ ∃ es', Step (box3 w 1 A B (.slice ao len cap)) w' N row mb es' T' ∧ P es') :
    Calls Try.prog 14 #[.pointer (some ⟨N, 0, none⟩), .agg #[.int .i64 1, .int .i64 A, .int .i64 B, .slice ao len cap]] w fun e w' => e = .returned (.tuple #[.agg #[.int .i64 0, .int .i64 0, .slice none 0 0], .int .i64 k]) ∧ ∃ es', Step w w' N row mb es' T' ∧ P es' := by
  have HH := Lib.hid h
  have HC := Lib.hid hC
  have hN := h.lt
  have hm := h.mb_lt
  have hrl := h.row_lt
  have HRL := Lib.hid hrl
  clear h hC hrl
  go_enter Try.func14, Try.ntmps14
  go_wp2_with fail
  refine HC.out.mono ?_
  rintro e w5 ⟨rfl, es', S5, hP⟩
  have n1 : w.heap.size + 1 ≠ N := by omega
  have n2 : w.heap.size + 1 ≠ mb := by omega
  have n3 : some (w.heap.size + 1) ≠ row := fun e => by have := (HRL.out _ e.symm).2; omega
  have m1 : w.heap.size + 1 + 1 ≠ N := by omega
  have m2 : w.heap.size + 1 + 1 ≠ mb := by omega
  have m3 : some (w.heap.size + 1 + 1) ≠ row := fun e => by have := (HRL.out _ e.symm).2; omega
  obtain ⟨_, _, _, g1⟩ := S5.block (X := w.heap.size + 1) (by rw [box3_size]; omega) n1 n2 n3
  obtain ⟨_, _, _, g2⟩ := S5.block (X := w.heap.size + 1 + 1) (by rw [box3_size]; omega) m1 m2 m3
  have x1 := g1.trans (box3_1 w 1 A B (.slice ao len cap))
  have x2 := g2.trans (box3_2 w 1 A B (.slice ao len cap))
  have q : ∀ j u, (#[.int .i64 0, .int .i64 0, .slice none 0 0] : Array Value)[j]? = some u → w5.cell? ⟨w.heap.size + 1, j, none⟩ = some u := fun j u hj => by simp only [World.cell?, x1]; simpa using hj
  have y : ∀ j u, (#[.int .i64 0, .int .i64 0, .slice none 0 0] : Array Value)[j]? = some u → w5.cell? ⟨w.heap.size + 1 + 1, j, none⟩ = some u := fun j u hj => by simp only [World.cell?, x2]; simpa using hj
  have q0 : w5.cell? ⟨w.heap.size + 1, 0, none⟩ = some (.int .i64 0) := q 0 _ rfl
  have q1 : w5.cell? ⟨w.heap.size + 1, 1, none⟩ = some (.int .i64 0) := q 1 _ rfl
  have q2 : w5.cell? ⟨w.heap.size + 1, 2, none⟩ = some (.slice none 0 0) := q 2 _ rfl
  have y0 : w5.cell? ⟨w.heap.size + 1 + 1, 0, none⟩ = some (.int .i64 0) := y 0 _ rfl
  have y1 : w5.cell? ⟨w.heap.size + 1 + 1, 1, none⟩ = some (.int .i64 0) := y 1 _ rfl
  have y2 : w5.cell? ⟨w.heap.size + 1 + 1, 2, none⟩ = some (.slice none 0 0) := y 2 _ rfl
  have fz : ∀ j, w5.frozen? ⟨w.heap.size + 1, j, none⟩ = false := fun j => by simp [World.frozen?, x1]
  have f0 := fz 0
  have f1 := fz 1
  have f2 := fz 2
  have HS5 := Lib.hid S5
  have HX1 := Lib.hid x1
  have HX2 := Lib.hid x2
  clear S5 g1 g2 x1 x2 q y fz HC
  go_wp2_with fail
  have r0 : (((w5.setCell ⟨w.heap.size + 1, 0, none⟩ (.int .i64 0)).setCell ⟨w.heap.size + 1, 1, none⟩ (.int .i64 0)).setCell ⟨w.heap.size + 1, 2, none⟩ (.slice none 0 0)).cell? ⟨w.heap.size + 1, 0, none⟩ = some (.int .i64 0) := by
    rw [World.cell?_setCell_other _ _ _ _ (by simp), World.cell?_setCell_other _ _ _ _ (by simp)]; exact World.cell?_setCell_same _ _ _ q0
  have r1 : (((w5.setCell ⟨w.heap.size + 1, 0, none⟩ (.int .i64 0)).setCell ⟨w.heap.size + 1, 1, none⟩ (.int .i64 0)).setCell ⟨w.heap.size + 1, 2, none⟩ (.slice none 0 0)).cell? ⟨w.heap.size + 1, 1, none⟩ = some (.int .i64 0) := by
    rw [World.cell?_setCell_other _ _ _ _ (by simp)]; exact World.cell?_setCell_same _ _ _ (by rw [World.cell?_setCell_other _ _ _ _ (by simp)]; exact q1)
  have r2 : (((w5.setCell ⟨w.heap.size + 1, 0, none⟩ (.int .i64 0)).setCell ⟨w.heap.size + 1, 1, none⟩ (.int .i64 0)).setCell ⟨w.heap.size + 1, 2, none⟩ (.slice none 0 0)).cell? ⟨w.heap.size + 1, 2, none⟩ = some (.slice none 0 0) :=
    World.cell?_setCell_same _ _ _ (by rw [World.cell?_setCell_other _ _ _ _ (by simp), World.cell?_setCell_other _ _ _ _ (by simp)]; exact q2)
  have SE := step_end (X := w.heap.size + 1) (Y := w.heap.size + 1) (Z := ((w5.setCell ⟨w.heap.size + 1, 0, none⟩ (.int .i64 0)).setCell ⟨w.heap.size + 1, 1, none⟩ (.int .i64 0)).setCell ⟨w.heap.size + 1, 2, none⟩ (.slice none 0 0)) HH.out (box3_below w _ _ _ _) (Nat.le_succ _) (by rw [box3_size]; omega) (Nat.le_succ _) (by rw [box3_size]; omega) HS5.out (fun cs fr e => by rw [HX1.out] at e; cases e) (fun cs fr e => by rw [HX1.out] at e; cases e) (fun x hx _ => by
    rw [Below.heap_setCell _ _ _ _ hx, Below.heap_setCell _ _ _ _ hx, Below.heap_setCell _ _ _ _ hx]) (by simp [World.setCell]) ⟨rfl, rfl, rfl⟩
  generalize ((w5.setCell ⟨w.heap.size + 1, 0, none⟩ (.int .i64 0)).setCell ⟨w.heap.size + 1, 1, none⟩ (.int .i64 0)).setCell ⟨w.heap.size + 1, 2, none⟩ (.slice none 0 0) = Z at *
  exact bodyPost_ret (v := .tuple #[.agg #[.int .i64 0, .int .i64 0, .slice none 0 0], .int .i64 k]) (by simp [results, Try.results14, go_sem, r0, r1, r2]) rfl ⟨rfl, es', SE.1, hP⟩

theorem do_4 (N mb : Nat) (row : Option Nat) (es : List Pl.Ent) (T T' : Pl.Off) (P : List Pl.Ent → Prop) (A B k : Int) (ao : Option Addr) (len cap : Nat) (w : World) (h : NetAt w N row mb es T)
    (hC : Calls Try.prog 21 #[.pointer (some ⟨N, 0, none⟩), .int .i64 A] (box3 w 4 A B (.slice ao len cap)) fun e w' => e = .returned (.int .i64 k) ∧ ∃ es', Step (box3 w 4 A B (.slice ao len cap)) w' N row mb es' T' ∧ P es') :
    Calls Try.prog 14 #[.pointer (some ⟨N, 0, none⟩), .agg #[.int .i64 4, .int .i64 A, .int .i64 B, .slice ao len cap]] w fun e w' => e = .returned (.tuple #[.agg #[.int .i64 0, .int .i64 0, .slice none 0 0], .int .i64 k]) ∧ ∃ es', Step w w' N row mb es' T' ∧ P es' := by
  have HH := Lib.hid h
  have HC := Lib.hid hC
  have hN := h.lt
  have hm := h.mb_lt
  have hrl := h.row_lt
  have HRL := Lib.hid hrl
  clear h hC hrl
  go_enter Try.func14, Try.ntmps14
  go_wp2_with fail
  refine HC.out.mono ?_
  rintro e w5 ⟨rfl, es', S5, hP⟩
  have n1 : w.heap.size + 1 ≠ N := by omega
  have n2 : w.heap.size + 1 ≠ mb := by omega
  have n3 : some (w.heap.size + 1) ≠ row := fun e => by have := (HRL.out _ e.symm).2; omega
  have m1 : w.heap.size + 1 + 1 ≠ N := by omega
  have m2 : w.heap.size + 1 + 1 ≠ mb := by omega
  have m3 : some (w.heap.size + 1 + 1) ≠ row := fun e => by have := (HRL.out _ e.symm).2; omega
  obtain ⟨_, _, _, g1⟩ := S5.block (X := w.heap.size + 1) (by rw [box3_size]; omega) n1 n2 n3
  obtain ⟨_, _, _, g2⟩ := S5.block (X := w.heap.size + 1 + 1) (by rw [box3_size]; omega) m1 m2 m3
  have x1 := g1.trans (box3_1 w 4 A B (.slice ao len cap))
  have x2 := g2.trans (box3_2 w 4 A B (.slice ao len cap))
  have q : ∀ j u, (#[.int .i64 0, .int .i64 0, .slice none 0 0] : Array Value)[j]? = some u → w5.cell? ⟨w.heap.size + 1, j, none⟩ = some u := fun j u hj => by simp only [World.cell?, x1]; simpa using hj
  have y : ∀ j u, (#[.int .i64 0, .int .i64 0, .slice none 0 0] : Array Value)[j]? = some u → w5.cell? ⟨w.heap.size + 1 + 1, j, none⟩ = some u := fun j u hj => by simp only [World.cell?, x2]; simpa using hj
  have q0 : w5.cell? ⟨w.heap.size + 1, 0, none⟩ = some (.int .i64 0) := q 0 _ rfl
  have q1 : w5.cell? ⟨w.heap.size + 1, 1, none⟩ = some (.int .i64 0) := q 1 _ rfl
  have q2 : w5.cell? ⟨w.heap.size + 1, 2, none⟩ = some (.slice none 0 0) := q 2 _ rfl
  have y0 : w5.cell? ⟨w.heap.size + 1 + 1, 0, none⟩ = some (.int .i64 0) := y 0 _ rfl
  have y1 : w5.cell? ⟨w.heap.size + 1 + 1, 1, none⟩ = some (.int .i64 0) := y 1 _ rfl
  have y2 : w5.cell? ⟨w.heap.size + 1 + 1, 2, none⟩ = some (.slice none 0 0) := y 2 _ rfl
  have fz : ∀ j, w5.frozen? ⟨w.heap.size + 1, j, none⟩ = false := fun j => by simp [World.frozen?, x1]
  have f0 := fz 0
  have f1 := fz 1
  have f2 := fz 2
  have HS5 := Lib.hid S5
  have HX1 := Lib.hid x1
  have HX2 := Lib.hid x2
  clear S5 g1 g2 x1 x2 q y fz HC
  go_wp2_with fail
  have r0 : (((w5.setCell ⟨w.heap.size + 1, 0, none⟩ (.int .i64 0)).setCell ⟨w.heap.size + 1, 1, none⟩ (.int .i64 0)).setCell ⟨w.heap.size + 1, 2, none⟩ (.slice none 0 0)).cell? ⟨w.heap.size + 1, 0, none⟩ = some (.int .i64 0) := by
    rw [World.cell?_setCell_other _ _ _ _ (by simp), World.cell?_setCell_other _ _ _ _ (by simp)]; exact World.cell?_setCell_same _ _ _ q0
  have r1 : (((w5.setCell ⟨w.heap.size + 1, 0, none⟩ (.int .i64 0)).setCell ⟨w.heap.size + 1, 1, none⟩ (.int .i64 0)).setCell ⟨w.heap.size + 1, 2, none⟩ (.slice none 0 0)).cell? ⟨w.heap.size + 1, 1, none⟩ = some (.int .i64 0) := by
    rw [World.cell?_setCell_other _ _ _ _ (by simp)]; exact World.cell?_setCell_same _ _ _ (by rw [World.cell?_setCell_other _ _ _ _ (by simp)]; exact q1)
  have r2 : (((w5.setCell ⟨w.heap.size + 1, 0, none⟩ (.int .i64 0)).setCell ⟨w.heap.size + 1, 1, none⟩ (.int .i64 0)).setCell ⟨w.heap.size + 1, 2, none⟩ (.slice none 0 0)).cell? ⟨w.heap.size + 1, 2, none⟩ = some (.slice none 0 0) :=
    World.cell?_setCell_same _ _ _ (by rw [World.cell?_setCell_other _ _ _ _ (by simp), World.cell?_setCell_other _ _ _ _ (by simp)]; exact q2)
  have SE := step_end (X := w.heap.size + 1) (Y := w.heap.size + 1) (Z := ((w5.setCell ⟨w.heap.size + 1, 0, none⟩ (.int .i64 0)).setCell ⟨w.heap.size + 1, 1, none⟩ (.int .i64 0)).setCell ⟨w.heap.size + 1, 2, none⟩ (.slice none 0 0)) HH.out (box3_below w _ _ _ _) (Nat.le_succ _) (by rw [box3_size]; omega) (Nat.le_succ _) (by rw [box3_size]; omega) HS5.out (fun cs fr e => by rw [HX1.out] at e; cases e) (fun cs fr e => by rw [HX1.out] at e; cases e) (fun x hx _ => by
    rw [Below.heap_setCell _ _ _ _ hx, Below.heap_setCell _ _ _ _ hx, Below.heap_setCell _ _ _ _ hx]) (by simp [World.setCell]) ⟨rfl, rfl, rfl⟩
  generalize ((w5.setCell ⟨w.heap.size + 1, 0, none⟩ (.int .i64 0)).setCell ⟨w.heap.size + 1, 1, none⟩ (.int .i64 0)).setCell ⟨w.heap.size + 1, 2, none⟩ (.slice none 0 0) = Z at *
  exact bodyPost_ret (v := .tuple #[.agg #[.int .i64 0, .int .i64 0, .slice none 0 0], .int .i64 k]) (by simp [results, Try.results14, go_sem, r0, r1, r2]) rfl ⟨rfl, es', SE.1, hP⟩

theorem do_5 (N mb : Nat) (row : Option Nat) (es : List Pl.Ent) (T T' : Pl.Off) (P : List Pl.Ent → Prop) (A B k : Int) (ao : Option Addr) (len cap : Nat) (w : World) (h : NetAt w N row mb es T)
    (hC : Calls Try.prog 20 #[.pointer (some ⟨N, 0, none⟩), .int .i64 A, .int .i64 B] (box3 w 5 A B (.slice ao len cap)) fun e w' => e = .returned (.int .i64 k) ∧ ∃ es', Step (box3 w 5 A B (.slice ao len cap)) w' N row mb es' T' ∧ P es') :
    Calls Try.prog 14 #[.pointer (some ⟨N, 0, none⟩), .agg #[.int .i64 5, .int .i64 A, .int .i64 B, .slice ao len cap]] w fun e w' => e = .returned (.tuple #[.agg #[.int .i64 0, .int .i64 0, .slice none 0 0], .int .i64 k]) ∧ ∃ es', Step w w' N row mb es' T' ∧ P es' := by
  have HH := Lib.hid h
  have HC := Lib.hid hC
  have hN := h.lt
  have hm := h.mb_lt
  have hrl := h.row_lt
  have HRL := Lib.hid hrl
  clear h hC hrl
  go_enter Try.func14, Try.ntmps14
  go_wp2_with fail
  refine HC.out.mono ?_
  rintro e w5 ⟨rfl, es', S5, hP⟩
  have n1 : w.heap.size + 1 ≠ N := by omega
  have n2 : w.heap.size + 1 ≠ mb := by omega
  have n3 : some (w.heap.size + 1) ≠ row := fun e => by have := (HRL.out _ e.symm).2; omega
  have m1 : w.heap.size + 1 + 1 ≠ N := by omega
  have m2 : w.heap.size + 1 + 1 ≠ mb := by omega
  have m3 : some (w.heap.size + 1 + 1) ≠ row := fun e => by have := (HRL.out _ e.symm).2; omega
  obtain ⟨_, _, _, g1⟩ := S5.block (X := w.heap.size + 1) (by rw [box3_size]; omega) n1 n2 n3
  obtain ⟨_, _, _, g2⟩ := S5.block (X := w.heap.size + 1 + 1) (by rw [box3_size]; omega) m1 m2 m3
  have x1 := g1.trans (box3_1 w 5 A B (.slice ao len cap))
  have x2 := g2.trans (box3_2 w 5 A B (.slice ao len cap))
  have q : ∀ j u, (#[.int .i64 0, .int .i64 0, .slice none 0 0] : Array Value)[j]? = some u → w5.cell? ⟨w.heap.size + 1, j, none⟩ = some u := fun j u hj => by simp only [World.cell?, x1]; simpa using hj
  have y : ∀ j u, (#[.int .i64 0, .int .i64 0, .slice none 0 0] : Array Value)[j]? = some u → w5.cell? ⟨w.heap.size + 1 + 1, j, none⟩ = some u := fun j u hj => by simp only [World.cell?, x2]; simpa using hj
  have q0 : w5.cell? ⟨w.heap.size + 1, 0, none⟩ = some (.int .i64 0) := q 0 _ rfl
  have q1 : w5.cell? ⟨w.heap.size + 1, 1, none⟩ = some (.int .i64 0) := q 1 _ rfl
  have q2 : w5.cell? ⟨w.heap.size + 1, 2, none⟩ = some (.slice none 0 0) := q 2 _ rfl
  have y0 : w5.cell? ⟨w.heap.size + 1 + 1, 0, none⟩ = some (.int .i64 0) := y 0 _ rfl
  have y1 : w5.cell? ⟨w.heap.size + 1 + 1, 1, none⟩ = some (.int .i64 0) := y 1 _ rfl
  have y2 : w5.cell? ⟨w.heap.size + 1 + 1, 2, none⟩ = some (.slice none 0 0) := y 2 _ rfl
  have fz : ∀ j, w5.frozen? ⟨w.heap.size + 1, j, none⟩ = false := fun j => by simp [World.frozen?, x1]
  have f0 := fz 0
  have f1 := fz 1
  have f2 := fz 2
  have HS5 := Lib.hid S5
  have HX1 := Lib.hid x1
  have HX2 := Lib.hid x2
  clear S5 g1 g2 x1 x2 q y fz HC
  go_wp2_with fail
  have r0 : (((w5.setCell ⟨w.heap.size + 1, 0, none⟩ (.int .i64 0)).setCell ⟨w.heap.size + 1, 1, none⟩ (.int .i64 0)).setCell ⟨w.heap.size + 1, 2, none⟩ (.slice none 0 0)).cell? ⟨w.heap.size + 1, 0, none⟩ = some (.int .i64 0) := by
    rw [World.cell?_setCell_other _ _ _ _ (by simp), World.cell?_setCell_other _ _ _ _ (by simp)]; exact World.cell?_setCell_same _ _ _ q0
  have r1 : (((w5.setCell ⟨w.heap.size + 1, 0, none⟩ (.int .i64 0)).setCell ⟨w.heap.size + 1, 1, none⟩ (.int .i64 0)).setCell ⟨w.heap.size + 1, 2, none⟩ (.slice none 0 0)).cell? ⟨w.heap.size + 1, 1, none⟩ = some (.int .i64 0) := by
    rw [World.cell?_setCell_other _ _ _ _ (by simp)]; exact World.cell?_setCell_same _ _ _ (by rw [World.cell?_setCell_other _ _ _ _ (by simp)]; exact q1)
  have r2 : (((w5.setCell ⟨w.heap.size + 1, 0, none⟩ (.int .i64 0)).setCell ⟨w.heap.size + 1, 1, none⟩ (.int .i64 0)).setCell ⟨w.heap.size + 1, 2, none⟩ (.slice none 0 0)).cell? ⟨w.heap.size + 1, 2, none⟩ = some (.slice none 0 0) :=
    World.cell?_setCell_same _ _ _ (by rw [World.cell?_setCell_other _ _ _ _ (by simp), World.cell?_setCell_other _ _ _ _ (by simp)]; exact q2)
  have SE := step_end (X := w.heap.size + 1) (Y := w.heap.size + 1) (Z := ((w5.setCell ⟨w.heap.size + 1, 0, none⟩ (.int .i64 0)).setCell ⟨w.heap.size + 1, 1, none⟩ (.int .i64 0)).setCell ⟨w.heap.size + 1, 2, none⟩ (.slice none 0 0)) HH.out (box3_below w _ _ _ _) (Nat.le_succ _) (by rw [box3_size]; omega) (Nat.le_succ _) (by rw [box3_size]; omega) HS5.out (fun cs fr e => by rw [HX1.out] at e; cases e) (fun cs fr e => by rw [HX1.out] at e; cases e) (fun x hx _ => by
    rw [Below.heap_setCell _ _ _ _ hx, Below.heap_setCell _ _ _ _ hx, Below.heap_setCell _ _ _ _ hx]) (by simp [World.setCell]) ⟨rfl, rfl, rfl⟩
  generalize ((w5.setCell ⟨w.heap.size + 1, 0, none⟩ (.int .i64 0)).setCell ⟨w.heap.size + 1, 1, none⟩ (.int .i64 0)).setCell ⟨w.heap.size + 1, 2, none⟩ (.slice none 0 0) = Z at *
  exact bodyPost_ret (v := .tuple #[.agg #[.int .i64 0, .int .i64 0, .slice none 0 0], .int .i64 k]) (by simp [results, Try.results14, go_sem, r0, r1, r2]) rfl ⟨rfl, es', SE.1, hP⟩

theorem do_6 (N mb : Nat) (row : Option Nat) (es : List Pl.Ent) (T T' : Pl.Off) (P : List Pl.Ent → Prop) (A B k : Int) (ao : Option Addr) (len cap : Nat) (w : World) (h : NetAt w N row mb es T)
    (hC : Calls Try.prog 26 #[.pointer (some ⟨N, 0, none⟩), .int .i64 A, .int .i64 B] (box3 w 6 A B (.slice ao len cap)) fun e w' => e = .returned (.int .i64 k) ∧ ∃ es', Step (box3 w 6 A B (.slice ao len cap)) w' N row mb es' T' ∧ P es') :
    Calls Try.prog 14 #[.pointer (some ⟨N, 0, none⟩), .agg #[.int .i64 6, .int .i64 A, .int .i64 B, .slice ao len cap]] w fun e w' => e = .returned (.tuple #[.agg #[.int .i64 0, .int .i64 0, .slice none 0 0], .int .i64 k]) ∧ ∃ es', Step w w' N row mb es' T' ∧ P es' := by
  have HH := Lib.hid h
  have HC := Lib.hid hC
  have hN := h.lt
  have hm := h.mb_lt
  have hrl := h.row_lt
  have HRL := Lib.hid hrl
  clear h hC hrl
  go_enter Try.func14, Try.ntmps14
  go_wp2_with fail
  refine HC.out.mono ?_
  rintro e w5 ⟨rfl, es', S5, hP⟩
  have n1 : w.heap.size + 1 ≠ N := by omega
  have n2 : w.heap.size + 1 ≠ mb := by omega
  have n3 : some (w.heap.size + 1) ≠ row := fun e => by have := (HRL.out _ e.symm).2; omega
  have m1 : w.heap.size + 1 + 1 ≠ N := by omega
  have m2 : w.heap.size + 1 + 1 ≠ mb := by omega
  have m3 : some (w.heap.size + 1 + 1) ≠ row := fun e => by have := (HRL.out _ e.symm).2; omega
  obtain ⟨_, _, _, g1⟩ := S5.block (X := w.heap.size + 1) (by rw [box3_size]; omega) n1 n2 n3
  obtain ⟨_, _, _, g2⟩ := S5.block (X := w.heap.size + 1 + 1) (by rw [box3_size]; omega) m1 m2 m3
  have x1 := g1.trans (box3_1 w 6 A B (.slice ao len cap))
  have x2 := g2.trans (box3_2 w 6 A B (.slice ao len cap))
  have q : ∀ j u, (#[.int .i64 0, .int .i64 0, .slice none 0 0] : Array Value)[j]? = some u → w5.cell? ⟨w.heap.size + 1, j, none⟩ = some u := fun j u hj => by simp only [World.cell?, x1]; simpa using hj
  have y : ∀ j u, (#[.int .i64 0, .int .i64 0, .slice none 0 0] : Array Value)[j]? = some u → w5.cell? ⟨w.heap.size + 1 + 1, j, none⟩ = some u := fun j u hj => by simp only [World.cell?, x2]; simpa using hj
  have q0 : w5.cell? ⟨w.heap.size + 1, 0, none⟩ = some (.int .i64 0) := q 0 _ rfl
  have q1 : w5.cell? ⟨w.heap.size + 1, 1, none⟩ = some (.int .i64 0) := q 1 _ rfl
  have q2 : w5.cell? ⟨w.heap.size + 1, 2, none⟩ = some (.slice none 0 0) := q 2 _ rfl
  have y0 : w5.cell? ⟨w.heap.size + 1 + 1, 0, none⟩ = some (.int .i64 0) := y 0 _ rfl
  have y1 : w5.cell? ⟨w.heap.size + 1 + 1, 1, none⟩ = some (.int .i64 0) := y 1 _ rfl
  have y2 : w5.cell? ⟨w.heap.size + 1 + 1, 2, none⟩ = some (.slice none 0 0) := y 2 _ rfl
  have fz : ∀ j, w5.frozen? ⟨w.heap.size + 1, j, none⟩ = false := fun j => by simp [World.frozen?, x1]
  have f0 := fz 0
  have f1 := fz 1
  have f2 := fz 2
  have HS5 := Lib.hid S5
  have HX1 := Lib.hid x1
  have HX2 := Lib.hid x2
  clear S5 g1 g2 x1 x2 q y fz HC
  go_wp2_with fail
  have r0 : (((w5.setCell ⟨w.heap.size + 1, 0, none⟩ (.int .i64 0)).setCell ⟨w.heap.size + 1, 1, none⟩ (.int .i64 0)).setCell ⟨w.heap.size + 1, 2, none⟩ (.slice none 0 0)).cell? ⟨w.heap.size + 1, 0, none⟩ = some (.int .i64 0) := by
    rw [World.cell?_setCell_other _ _ _ _ (by simp), World.cell?_setCell_other _ _ _ _ (by simp)]; exact World.cell?_setCell_same _ _ _ q0
  have r1 : (((w5.setCell ⟨w.heap.size + 1, 0, none⟩ (.int .i64 0)).setCell ⟨w.heap.size + 1, 1, none⟩ (.int .i64 0)).setCell ⟨w.heap.size + 1, 2, none⟩ (.slice none 0 0)).cell? ⟨w.heap.size + 1, 1, none⟩ = some (.int .i64 0) := by
    rw [World.cell?_setCell_other _ _ _ _ (by simp)]; exact World.cell?_setCell_same _ _ _ (by rw [World.cell?_setCell_other _ _ _ _ (by simp)]; exact q1)
  have r2 : (((w5.setCell ⟨w.heap.size + 1, 0, none⟩ (.int .i64 0)).setCell ⟨w.heap.size + 1, 1, none⟩ (.int .i64 0)).setCell ⟨w.heap.size + 1, 2, none⟩ (.slice none 0 0)).cell? ⟨w.heap.size + 1, 2, none⟩ = some (.slice none 0 0) :=
    World.cell?_setCell_same _ _ _ (by rw [World.cell?_setCell_other _ _ _ _ (by simp), World.cell?_setCell_other _ _ _ _ (by simp)]; exact q2)
  have SE := step_end (X := w.heap.size + 1) (Y := w.heap.size + 1) (Z := ((w5.setCell ⟨w.heap.size + 1, 0, none⟩ (.int .i64 0)).setCell ⟨w.heap.size + 1, 1, none⟩ (.int .i64 0)).setCell ⟨w.heap.size + 1, 2, none⟩ (.slice none 0 0)) HH.out (box3_below w _ _ _ _) (Nat.le_succ _) (by rw [box3_size]; omega) (Nat.le_succ _) (by rw [box3_size]; omega) HS5.out (fun cs fr e => by rw [HX1.out] at e; cases e) (fun cs fr e => by rw [HX1.out] at e; cases e) (fun x hx _ => by
    rw [Below.heap_setCell _ _ _ _ hx, Below.heap_setCell _ _ _ _ hx, Below.heap_setCell _ _ _ _ hx]) (by simp [World.setCell]) ⟨rfl, rfl, rfl⟩
  generalize ((w5.setCell ⟨w.heap.size + 1, 0, none⟩ (.int .i64 0)).setCell ⟨w.heap.size + 1, 1, none⟩ (.int .i64 0)).setCell ⟨w.heap.size + 1, 2, none⟩ (.slice none 0 0) = Z at *
  exact bodyPost_ret (v := .tuple #[.agg #[.int .i64 0, .int .i64 0, .slice none 0 0], .int .i64 k]) (by simp [results, Try.results14, go_sem, r0, r1, r2]) rfl ⟨rfl, es', SE.1, hP⟩

theorem do_2 (N mb : Nat) (row : Option Nat) (es : List Pl.Ent) (T T' : Pl.Off) (P : List Pl.Ent → Prop) (A B a b k : Int) (bs : List Int) (ao : Option Addr) (len cap : Nat) (w : World) (h : NetAt w N row mb es T)
    (hC : Calls Try.prog 12 #[.pointer (some ⟨N, 0, none⟩), .int .i64 A] (box3 w 2 A B (.slice ao len cap)) fun e w' => ∃ v', e = .returned (.tuple #[.agg #[.int .i64 a, .int .i64 b, v'], .int .i64 k]) ∧ BytesT w' v' bs ∧ ∃ es', Step (box3 w 2 A B (.slice ao len cap)) w' N row mb es' T' ∧ P es') :
    Calls Try.prog 14 #[.pointer (some ⟨N, 0, none⟩), .agg #[.int .i64 2, .int .i64 A, .int .i64 B, .slice ao len cap]] w fun e w' => ∃ v', e = .returned (.tuple #[.agg #[.int .i64 a, .int .i64 b, v'], .int .i64 k]) ∧ BytesT w' v' bs ∧ ∃ es', Step w w' N row mb es' T' ∧ P es' := by
  have HH := Lib.hid h
  have HC := Lib.hid hC
  have hN := h.lt
  have hm := h.mb_lt
  have hrl := h.row_lt
  have HRL := Lib.hid hrl
  clear h hC hrl
  go_enter Try.func14, Try.ntmps14
  go_wp2_with fail
  refine HC.out.mono ?_
  rintro e w5 ⟨v5, rfl, B5, es', S5, hP⟩
  obtain ⟨ao5, cp5, hv5, _⟩ := id B5
  subst hv5
  have n1 : w.heap.size + 1 ≠ N := by omega
  have n2 : w.heap.size + 1 ≠ mb := by omega
  have n3 : some (w.heap.size + 1) ≠ row := fun e => by have := (HRL.out _ e.symm).2; omega
  have m1 : w.heap.size + 1 + 1 ≠ N := by omega
  have m2 : w.heap.size + 1 + 1 ≠ mb := by omega
  have m3 : some (w.heap.size + 1 + 1) ≠ row := fun e => by have := (HRL.out _ e.symm).2; omega
  obtain ⟨_, _, _, g1⟩ := S5.block (X := w.heap.size + 1) (by rw [box3_size]; omega) n1 n2 n3
  obtain ⟨_, _, _, g2⟩ := S5.block (X := w.heap.size + 1 + 1) (by rw [box3_size]; omega) m1 m2 m3
  have x1 := g1.trans (box3_1 w 2 A B (.slice ao len cap))
  have x2 := g2.trans (box3_2 w 2 A B (.slice ao len cap))
  have q : ∀ j u, (#[.int .i64 0, .int .i64 0, .slice none 0 0] : Array Value)[j]? = some u → w5.cell? ⟨w.heap.size + 1, j, none⟩ = some u := fun j u hj => by simp only [World.cell?, x1]; simpa using hj
  have y : ∀ j u, (#[.int .i64 0, .int .i64 0, .slice none 0 0] : Array Value)[j]? = some u → w5.cell? ⟨w.heap.size + 1 + 1, j, none⟩ = some u := fun j u hj => by simp only [World.cell?, x2]; simpa using hj
  have q0 : w5.cell? ⟨w.heap.size + 1, 0, none⟩ = some (.int .i64 0) := q 0 _ rfl
  have q1 : w5.cell? ⟨w.heap.size + 1, 1, none⟩ = some (.int .i64 0) := q 1 _ rfl
  have q2 : w5.cell? ⟨w.heap.size + 1, 2, none⟩ = some (.slice none 0 0) := q 2 _ rfl
  have y0 : w5.cell? ⟨w.heap.size + 1 + 1, 0, none⟩ = some (.int .i64 0) := y 0 _ rfl
  have y1 : w5.cell? ⟨w.heap.size + 1 + 1, 1, none⟩ = some (.int .i64 0) := y 1 _ rfl
  have y2 : w5.cell? ⟨w.heap.size + 1 + 1, 2, none⟩ = some (.slice none 0 0) := y 2 _ rfl
  have fz : ∀ j, w5.frozen? ⟨w.heap.size + 1, j, none⟩ = false := fun j => by simp [World.frozen?, x1]
  have hz : ∀ j, w5.frozen? ⟨w.heap.size + 1 + 1, j, none⟩ = false := fun j => by simp [World.frozen?, x2]
  have h0 := hz 0
  have h1 := hz 1
  have h2 := hz 2
  have HB5 := Lib.hid B5
  have f0 := fz 0
  have f1 := fz 1
  have f2 := fz 2
  have HS5 := Lib.hid S5
  have HX1 := Lib.hid x1
  have HX2 := Lib.hid x2
  clear S5 g1 g2 x1 x2 q y fz hz HC B5
  go_wp2_with fail
  have kk : ∀ o, (((w5.setCell ⟨w.heap.size + 1 + 1, 0, none⟩ (.int .i64 a)).setCell ⟨w.heap.size + 1 + 1, 1, none⟩ (.int .i64 b)).setCell ⟨w.heap.size + 1 + 1, 2, none⟩ (.slice ao5 bs.length cp5)).cell? ⟨w.heap.size + 1, o, none⟩ = w5.cell? ⟨w.heap.size + 1, o, none⟩ := fun o => by
    rw [World.cell?_setCell_other _ _ _ _ (by simp), World.cell?_setCell_other _ _ _ _ (by simp), World.cell?_setCell_other _ _ _ _ (by simp)]
  have kh : ∀ x, x ≠ w.heap.size + 1 + 1 → (((w5.setCell ⟨w.heap.size + 1 + 1, 0, none⟩ (.int .i64 a)).setCell ⟨w.heap.size + 1 + 1, 1, none⟩ (.int .i64 b)).setCell ⟨w.heap.size + 1 + 1, 2, none⟩ (.slice ao5 bs.length cp5)).heap[x]? = w5.heap[x]? := fun x hx' => by
    rw [Below.heap_setCell _ _ _ _ hx', Below.heap_setCell _ _ _ _ hx', Below.heap_setCell _ _ _ _ hx']
  have ks : (((w5.setCell ⟨w.heap.size + 1 + 1, 0, none⟩ (.int .i64 a)).setCell ⟨w.heap.size + 1 + 1, 1, none⟩ (.int .i64 b)).setCell ⟨w.heap.size + 1 + 1, 2, none⟩ (.slice ao5 bs.length cp5)).heap.size = w5.heap.size := by simp [World.setCell]
  have kr : (((w5.setCell ⟨w.heap.size + 1 + 1, 0, none⟩ (.int .i64 a)).setCell ⟨w.heap.size + 1 + 1, 1, none⟩ (.int .i64 b)).setCell ⟨w.heap.size + 1 + 1, 2, none⟩ (.slice ao5 bs.length cp5)).os = w5.os ∧ (((w5.setCell ⟨w.heap.size + 1 + 1, 0, none⟩ (.int .i64 a)).setCell ⟨w.heap.size + 1 + 1, 1, none⟩ (.int .i64 b)).setCell ⟨w.heap.size + 1 + 1, 2, none⟩ (.slice ao5 bs.length cp5)).tape = w5.tape ∧ (((w5.setCell ⟨w.heap.size + 1 + 1, 0, none⟩ (.int .i64 a)).setCell ⟨w.heap.size + 1 + 1, 1, none⟩ (.int .i64 b)).setCell ⟨w.heap.size + 1 + 1, 2, none⟩ (.slice ao5 bs.length cp5)).output = w5.output := ⟨rfl, rfl, rfl⟩
  generalize (((w5.setCell ⟨w.heap.size + 1 + 1, 0, none⟩ (.int .i64 a)).setCell ⟨w.heap.size + 1 + 1, 1, none⟩ (.int .i64 b)).setCell ⟨w.heap.size + 1 + 1, 2, none⟩ (.slice ao5 bs.length cp5)) = V at *
  have r0 : (((V.setCell ⟨w.heap.size + 1, 0, none⟩ (.int .i64 a)).setCell ⟨w.heap.size + 1, 1, none⟩ (.int .i64 b)).setCell ⟨w.heap.size + 1, 2, none⟩ (.slice ao5 bs.length cp5)).cell? ⟨w.heap.size + 1, 0, none⟩ = some (.int .i64 a) := by
    rw [World.cell?_setCell_other _ _ _ _ (by simp), World.cell?_setCell_other _ _ _ _ (by simp)]; exact World.cell?_setCell_same _ _ _ ((kk 0).trans q0)
  have r1 : (((V.setCell ⟨w.heap.size + 1, 0, none⟩ (.int .i64 a)).setCell ⟨w.heap.size + 1, 1, none⟩ (.int .i64 b)).setCell ⟨w.heap.size + 1, 2, none⟩ (.slice ao5 bs.length cp5)).cell? ⟨w.heap.size + 1, 1, none⟩ = some (.int .i64 b) := by
    rw [World.cell?_setCell_other _ _ _ _ (by simp)]; exact World.cell?_setCell_same _ _ _ (by rw [World.cell?_setCell_other _ _ _ _ (by simp)]; exact (kk 1).trans q1)
  have r2 : (((V.setCell ⟨w.heap.size + 1, 0, none⟩ (.int .i64 a)).setCell ⟨w.heap.size + 1, 1, none⟩ (.int .i64 b)).setCell ⟨w.heap.size + 1, 2, none⟩ (.slice ao5 bs.length cp5)).cell? ⟨w.heap.size + 1, 2, none⟩ = some (.slice ao5 bs.length cp5) :=
    World.cell?_setCell_same _ _ _ (by rw [World.cell?_setCell_other _ _ _ _ (by simp), World.cell?_setCell_other _ _ _ _ (by simp)]; exact (kk 2).trans q2)
  have hz : ∀ x, x ≠ w.heap.size + 1 → (((V.setCell ⟨w.heap.size + 1, 0, none⟩ (.int .i64 a)).setCell ⟨w.heap.size + 1, 1, none⟩ (.int .i64 b)).setCell ⟨w.heap.size + 1, 2, none⟩ (.slice ao5 bs.length cp5)).heap[x]? = V.heap[x]? := fun x hx => by
    rw [Below.heap_setCell _ _ _ _ hx, Below.heap_setCell _ _ _ _ hx, Below.heap_setCell _ _ _ _ hx]
  have zs : (((V.setCell ⟨w.heap.size + 1, 0, none⟩ (.int .i64 a)).setCell ⟨w.heap.size + 1, 1, none⟩ (.int .i64 b)).setCell ⟨w.heap.size + 1, 2, none⟩ (.slice ao5 bs.length cp5)).heap.size = V.heap.size := by simp [World.setCell]
  have zr : (((V.setCell ⟨w.heap.size + 1, 0, none⟩ (.int .i64 a)).setCell ⟨w.heap.size + 1, 1, none⟩ (.int .i64 b)).setCell ⟨w.heap.size + 1, 2, none⟩ (.slice ao5 bs.length cp5)).os = V.os ∧ (((V.setCell ⟨w.heap.size + 1, 0, none⟩ (.int .i64 a)).setCell ⟨w.heap.size + 1, 1, none⟩ (.int .i64 b)).setCell ⟨w.heap.size + 1, 2, none⟩ (.slice ao5 bs.length cp5)).tape = V.tape ∧ (((V.setCell ⟨w.heap.size + 1, 0, none⟩ (.int .i64 a)).setCell ⟨w.heap.size + 1, 1, none⟩ (.int .i64 b)).setCell ⟨w.heap.size + 1, 2, none⟩ (.slice ao5 bs.length cp5)).output = V.output := ⟨rfl, rfl, rfl⟩
  generalize (((V.setCell ⟨w.heap.size + 1, 0, none⟩ (.int .i64 a)).setCell ⟨w.heap.size + 1, 1, none⟩ (.int .i64 b)).setCell ⟨w.heap.size + 1, 2, none⟩ (.slice ao5 bs.length cp5)) = Z at *
  have SE := step_end (X := w.heap.size + 1) (Y := w.heap.size + 1 + 1) (Z := Z) HH.out (box3_below w _ _ _ _) (Nat.le_succ _) (by rw [box3_size]; omega) (by omega) (by rw [box3_size]; omega) HS5.out (fun cs fr e => by rw [HX1.out] at e; cases e) (fun cs fr e => by rw [HX2.out] at e; cases e) (fun x hx hx' => (hz x hx).trans (kh x hx')) (zs.trans ks) ⟨zr.1.trans kr.1, zr.2.1.trans kr.2.1, zr.2.2.trans kr.2.2⟩
  exact bodyPost_ret (v := .tuple #[.agg #[.int .i64 a, .int .i64 b, .slice ao5 bs.length cp5], .int .i64 k]) (by simp [results, Try.results14, go_sem, r0, r1, r2]) rfl ⟨_, rfl, HB5.out.keep SE.2, es', SE.1, hP⟩

theorem do_3 (N mb : Nat) (row : Option Nat) (es : List Pl.Ent) (T T' : Pl.Off) (P : List Pl.Ent → Prop) (A B a b k : Int) (bs : List Int) (ao : Option Addr) (len cap : Nat) (w : World) (h : NetAt w N row mb es T)
    (hC : Calls Try.prog 10 #[.pointer (some ⟨N, 0, none⟩), .int .i64 A] (box3 w 3 A B (.slice ao len cap)) fun e w' => ∃ v', e = .returned (.tuple #[.agg #[.int .i64 a, .int .i64 b, v'], .int .i64 k]) ∧ BytesT w' v' bs ∧ ∃ es', Step (box3 w 3 A B (.slice ao len cap)) w' N row mb es' T' ∧ P es') :
    Calls Try.prog 14 #[.pointer (some ⟨N, 0, none⟩), .agg #[.int .i64 3, .int .i64 A, .int .i64 B, .slice ao len cap]] w fun e w' => ∃ v', e = .returned (.tuple #[.agg #[.int .i64 a, .int .i64 b, v'], .int .i64 k]) ∧ BytesT w' v' bs ∧ ∃ es', Step w w' N row mb es' T' ∧ P es' := by
  have HH := Lib.hid h
  have HC := Lib.hid hC
  have hN := h.lt
  have hm := h.mb_lt
  have hrl := h.row_lt
  have HRL := Lib.hid hrl
  clear h hC hrl
  go_enter Try.func14, Try.ntmps14
  go_wp2_with fail
  refine HC.out.mono ?_
  rintro e w5 ⟨v5, rfl, B5, es', S5, hP⟩
  obtain ⟨ao5, cp5, hv5, _⟩ := id B5
  subst hv5
  have n1 : w.heap.size + 1 ≠ N := by omega
  have n2 : w.heap.size + 1 ≠ mb := by omega
  have n3 : some (w.heap.size + 1) ≠ row := fun e => by have := (HRL.out _ e.symm).2; omega
  have m1 : w.heap.size + 1 + 1 ≠ N := by omega
  have m2 : w.heap.size + 1 + 1 ≠ mb := by omega
  have m3 : some (w.heap.size + 1 + 1) ≠ row := fun e => by have := (HRL.out _ e.symm).2; omega
  obtain ⟨_, _, _, g1⟩ := S5.block (X := w.heap.size + 1) (by rw [box3_size]; omega) n1 n2 n3
  obtain ⟨_, _, _, g2⟩ := S5.block (X := w.heap.size + 1 + 1) (by rw [box3_size]; omega) m1 m2 m3
  have x1 := g1.trans (box3_1 w 3 A B (.slice ao len cap))
  have x2 := g2.trans (box3_2 w 3 A B (.slice ao len cap))
  have q : ∀ j u, (#[.int .i64 0, .int .i64 0, .slice none 0 0] : Array Value)[j]? = some u → w5.cell? ⟨w.heap.size + 1, j, none⟩ = some u := fun j u hj => by simp only [World.cell?, x1]; simpa using hj
  have y : ∀ j u, (#[.int .i64 0, .int .i64 0, .slice none 0 0] : Array Value)[j]? = some u → w5.cell? ⟨w.heap.size + 1 + 1, j, none⟩ = some u := fun j u hj => by simp only [World.cell?, x2]; simpa using hj
  have q0 : w5.cell? ⟨w.heap.size + 1, 0, none⟩ = some (.int .i64 0) := q 0 _ rfl
  have q1 : w5.cell? ⟨w.heap.size + 1, 1, none⟩ = some (.int .i64 0) := q 1 _ rfl
  have q2 : w5.cell? ⟨w.heap.size + 1, 2, none⟩ = some (.slice none 0 0) := q 2 _ rfl
  have y0 : w5.cell? ⟨w.heap.size + 1 + 1, 0, none⟩ = some (.int .i64 0) := y 0 _ rfl
  have y1 : w5.cell? ⟨w.heap.size + 1 + 1, 1, none⟩ = some (.int .i64 0) := y 1 _ rfl
  have y2 : w5.cell? ⟨w.heap.size + 1 + 1, 2, none⟩ = some (.slice none 0 0) := y 2 _ rfl
  have fz : ∀ j, w5.frozen? ⟨w.heap.size + 1, j, none⟩ = false := fun j => by simp [World.frozen?, x1]
  have hz : ∀ j, w5.frozen? ⟨w.heap.size + 1 + 1, j, none⟩ = false := fun j => by simp [World.frozen?, x2]
  have h0 := hz 0
  have h1 := hz 1
  have h2 := hz 2
  have HB5 := Lib.hid B5
  have f0 := fz 0
  have f1 := fz 1
  have f2 := fz 2
  have HS5 := Lib.hid S5
  have HX1 := Lib.hid x1
  have HX2 := Lib.hid x2
  clear S5 g1 g2 x1 x2 q y fz hz HC B5
  go_wp2_with fail
  have kk : ∀ o, (((w5.setCell ⟨w.heap.size + 1 + 1, 0, none⟩ (.int .i64 a)).setCell ⟨w.heap.size + 1 + 1, 1, none⟩ (.int .i64 b)).setCell ⟨w.heap.size + 1 + 1, 2, none⟩ (.slice ao5 bs.length cp5)).cell? ⟨w.heap.size + 1, o, none⟩ = w5.cell? ⟨w.heap.size + 1, o, none⟩ := fun o => by
    rw [World.cell?_setCell_other _ _ _ _ (by simp), World.cell?_setCell_other _ _ _ _ (by simp), World.cell?_setCell_other _ _ _ _ (by simp)]
  have kh : ∀ x, x ≠ w.heap.size + 1 + 1 → (((w5.setCell ⟨w.heap.size + 1 + 1, 0, none⟩ (.int .i64 a)).setCell ⟨w.heap.size + 1 + 1, 1, none⟩ (.int .i64 b)).setCell ⟨w.heap.size + 1 + 1, 2, none⟩ (.slice ao5 bs.length cp5)).heap[x]? = w5.heap[x]? := fun x hx' => by
    rw [Below.heap_setCell _ _ _ _ hx', Below.heap_setCell _ _ _ _ hx', Below.heap_setCell _ _ _ _ hx']
  have ks : (((w5.setCell ⟨w.heap.size + 1 + 1, 0, none⟩ (.int .i64 a)).setCell ⟨w.heap.size + 1 + 1, 1, none⟩ (.int .i64 b)).setCell ⟨w.heap.size + 1 + 1, 2, none⟩ (.slice ao5 bs.length cp5)).heap.size = w5.heap.size := by simp [World.setCell]
  have kr : (((w5.setCell ⟨w.heap.size + 1 + 1, 0, none⟩ (.int .i64 a)).setCell ⟨w.heap.size + 1 + 1, 1, none⟩ (.int .i64 b)).setCell ⟨w.heap.size + 1 + 1, 2, none⟩ (.slice ao5 bs.length cp5)).os = w5.os ∧ (((w5.setCell ⟨w.heap.size + 1 + 1, 0, none⟩ (.int .i64 a)).setCell ⟨w.heap.size + 1 + 1, 1, none⟩ (.int .i64 b)).setCell ⟨w.heap.size + 1 + 1, 2, none⟩ (.slice ao5 bs.length cp5)).tape = w5.tape ∧ (((w5.setCell ⟨w.heap.size + 1 + 1, 0, none⟩ (.int .i64 a)).setCell ⟨w.heap.size + 1 + 1, 1, none⟩ (.int .i64 b)).setCell ⟨w.heap.size + 1 + 1, 2, none⟩ (.slice ao5 bs.length cp5)).output = w5.output := ⟨rfl, rfl, rfl⟩
  generalize (((w5.setCell ⟨w.heap.size + 1 + 1, 0, none⟩ (.int .i64 a)).setCell ⟨w.heap.size + 1 + 1, 1, none⟩ (.int .i64 b)).setCell ⟨w.heap.size + 1 + 1, 2, none⟩ (.slice ao5 bs.length cp5)) = V at *
  have r0 : (((V.setCell ⟨w.heap.size + 1, 0, none⟩ (.int .i64 a)).setCell ⟨w.heap.size + 1, 1, none⟩ (.int .i64 b)).setCell ⟨w.heap.size + 1, 2, none⟩ (.slice ao5 bs.length cp5)).cell? ⟨w.heap.size + 1, 0, none⟩ = some (.int .i64 a) := by
    rw [World.cell?_setCell_other _ _ _ _ (by simp), World.cell?_setCell_other _ _ _ _ (by simp)]; exact World.cell?_setCell_same _ _ _ ((kk 0).trans q0)
  have r1 : (((V.setCell ⟨w.heap.size + 1, 0, none⟩ (.int .i64 a)).setCell ⟨w.heap.size + 1, 1, none⟩ (.int .i64 b)).setCell ⟨w.heap.size + 1, 2, none⟩ (.slice ao5 bs.length cp5)).cell? ⟨w.heap.size + 1, 1, none⟩ = some (.int .i64 b) := by
    rw [World.cell?_setCell_other _ _ _ _ (by simp)]; exact World.cell?_setCell_same _ _ _ (by rw [World.cell?_setCell_other _ _ _ _ (by simp)]; exact (kk 1).trans q1)
  have r2 : (((V.setCell ⟨w.heap.size + 1, 0, none⟩ (.int .i64 a)).setCell ⟨w.heap.size + 1, 1, none⟩ (.int .i64 b)).setCell ⟨w.heap.size + 1, 2, none⟩ (.slice ao5 bs.length cp5)).cell? ⟨w.heap.size + 1, 2, none⟩ = some (.slice ao5 bs.length cp5) :=
    World.cell?_setCell_same _ _ _ (by rw [World.cell?_setCell_other _ _ _ _ (by simp), World.cell?_setCell_other _ _ _ _ (by simp)]; exact (kk 2).trans q2)
  have hz : ∀ x, x ≠ w.heap.size + 1 → (((V.setCell ⟨w.heap.size + 1, 0, none⟩ (.int .i64 a)).setCell ⟨w.heap.size + 1, 1, none⟩ (.int .i64 b)).setCell ⟨w.heap.size + 1, 2, none⟩ (.slice ao5 bs.length cp5)).heap[x]? = V.heap[x]? := fun x hx => by
    rw [Below.heap_setCell _ _ _ _ hx, Below.heap_setCell _ _ _ _ hx, Below.heap_setCell _ _ _ _ hx]
  have zs : (((V.setCell ⟨w.heap.size + 1, 0, none⟩ (.int .i64 a)).setCell ⟨w.heap.size + 1, 1, none⟩ (.int .i64 b)).setCell ⟨w.heap.size + 1, 2, none⟩ (.slice ao5 bs.length cp5)).heap.size = V.heap.size := by simp [World.setCell]
  have zr : (((V.setCell ⟨w.heap.size + 1, 0, none⟩ (.int .i64 a)).setCell ⟨w.heap.size + 1, 1, none⟩ (.int .i64 b)).setCell ⟨w.heap.size + 1, 2, none⟩ (.slice ao5 bs.length cp5)).os = V.os ∧ (((V.setCell ⟨w.heap.size + 1, 0, none⟩ (.int .i64 a)).setCell ⟨w.heap.size + 1, 1, none⟩ (.int .i64 b)).setCell ⟨w.heap.size + 1, 2, none⟩ (.slice ao5 bs.length cp5)).tape = V.tape ∧ (((V.setCell ⟨w.heap.size + 1, 0, none⟩ (.int .i64 a)).setCell ⟨w.heap.size + 1, 1, none⟩ (.int .i64 b)).setCell ⟨w.heap.size + 1, 2, none⟩ (.slice ao5 bs.length cp5)).output = V.output := ⟨rfl, rfl, rfl⟩
  generalize (((V.setCell ⟨w.heap.size + 1, 0, none⟩ (.int .i64 a)).setCell ⟨w.heap.size + 1, 1, none⟩ (.int .i64 b)).setCell ⟨w.heap.size + 1, 2, none⟩ (.slice ao5 bs.length cp5)) = Z at *
  have SE := step_end (X := w.heap.size + 1) (Y := w.heap.size + 1 + 1) (Z := Z) HH.out (box3_below w _ _ _ _) (Nat.le_succ _) (by rw [box3_size]; omega) (by omega) (by rw [box3_size]; omega) HS5.out (fun cs fr e => by rw [HX1.out] at e; cases e) (fun cs fr e => by rw [HX2.out] at e; cases e) (fun x hx hx' => (hz x hx).trans (kh x hx')) (zs.trans ks) ⟨zr.1.trans kr.1, zr.2.1.trans kr.2.1, zr.2.2.trans kr.2.2⟩
  exact bodyPost_ret (v := .tuple #[.agg #[.int .i64 a, .int .i64 b, .slice ao5 bs.length cp5], .int .i64 k]) (by simp [results, Try.results14, go_sem, r0, r1, r2]) rfl ⟨_, rfl, HB5.out.keep SE.2, es', SE.1, hP⟩

end Go.Proofs.Ytjoikochpkfoaaa
