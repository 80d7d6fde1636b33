/- What Write leaves in memory. -/
import Derived.Test.YtjkaegdlpmpneaaFenL
namespace Go.Proofs.Ytjkaegdlpmpneaa
open Go.RowKit
set_option linter.unusedVariables false

/-- The five cells of a write. -/
abbrev newW (k : Nat) (r b : Int) (rep fen : Nat → Int) : List Value := [.int .i64 k, .int .i64 (fen k + 1), .int .i64 (rep k), .int .i64 r, .int .i64 b]

/-- One number of a row set anew. -/
def upd (f : Nat → Int) (k : Nat) (x : Int) : Nat → Int := fun i => if i = k then x else f i

theorem far_cell {W w1 : World} {o : Obj} {row : Option Nat} (hg : (W.alloc o).drew.grownBy w1 row) {a : Addr} {u : Value} (h : W.cell? a = some u) (hlt : a.block < W.heap.size) (hne : some a.block ≠ row) :
    w1.cell? a = some u :=
  (hg.cell_far a (by simp; omega) hne).trans ((World.cell?_alloc_lt W _ _ hlt).trans h)

/-- Behind the append and its store. -/
structure LateAt (w W : World) (B k n : Nat) (r b : Int) (rep fen : Nat → Int) (row : Option Nat) (v : Value) (xs : List Value) : Prop where
  b0 : W.cell? ⟨w.heap.size, 0, none⟩ = some (.pointer (some ⟨B, 0, none⟩))
  b1 : W.cell? ⟨w.heap.size + 1, 0, none⟩ = some (.int .i64 k)
  b3 : W.cell? ⟨w.heap.size + 1 + 1 + 1, 0, none⟩ = some (.int .i64 r)
  c0 : W.cell? ⟨B, k * 2, none⟩ = some (.int .i64 (rep k))
  c1 : W.cell? ⟨B, k * 2 + 1, none⟩ = some (.int .i64 (fen k + 1))
  cv : W.cell? ⟨B, 16, none⟩ = some v
  fr : ∀ o, W.frozen? ⟨B, o, none⟩ = false
  own : W.ownsRow (B + 1) 47 5 v n xs
  size : w.heap.size + 5 ≤ W.heap.size
  same : ∀ i, i < w.heap.size → i ≠ B → some i ≠ row → W.heap[i]? = w.heap[i]?
  others : ∀ o, o ≠ k * 2 + 1 → o ≠ 16 → W.cell? ⟨B, o, none⟩ = w.cell? ⟨B, o, none⟩
  rest : W.os = w.os ∧ W.tape = w.tape ∧ W.output = w.output

theorem late_at {w W w1 : World} {B k n g cap : Nat} {r b : Int} {rep fen : Nat → Int} {v : Value} {xs ys : List Value} {o : Obj} (hk : k < 8) (hB : B < w.heap.size)
    (M : MidAt w W B k n r b rep fen v xs) (hv : ∀ g, v.ownBlock = some g → B + 1 ≤ g ∧ g < w.heap.size)
    (hg : (W.alloc o).drew.grownBy w1 v.ownBlock) (ho : w1.ownsRow (B + 1) 47 5 (.slice (some ⟨g, 0, none⟩) (n + 1) cap) (n + 1) ys) :
    LateAt w (w1.setCell ⟨B, 16, none⟩ (.slice (some ⟨g, 0, none⟩) (n + 1) cap)) B k (n + 1) r b rep fen v.ownBlock (.slice (some ⟨g, 0, none⟩) (n + 1) cap) ys := by
  have hs := M.size
  have ne : ∀ x, (x = B ∨ w.heap.size ≤ x) → some x ≠ v.ownBlock := fun x hx e => by have := hv x e.symm; omega
  have oth : ∀ (a : Addr) (u : Value), a ≠ ⟨B, 16, none⟩ → w1.cell? a = u → (w1.setCell ⟨B, 16, none⟩ (.slice (some ⟨g, 0, none⟩) (n + 1) cap)).cell? a = u := fun a u ha h => (World.cell?_setCell_other _ _ _ _ (fun e => ha e.symm)).trans h
  have hblk : w1.heap[B]? = W.heap[B]? := (hg.block B (by simp; omega) (ne B (.inl rfl))).trans (Below.heap_alloc W o _ (by omega))
  refine ⟨oth _ _ (by simp <;> omega) (far_cell hg M.b0 (by show w.heap.size < _; omega) (ne _ (.inr (Nat.le_refl _)))),
    oth _ _ (by simp <;> omega) (far_cell hg M.b1 (by show w.heap.size + 1 < _; omega) (ne _ (.inr (by show _ ≤ w.heap.size + 1; omega)))),
    oth _ _ (by simp <;> omega) (far_cell hg M.b3 (by show w.heap.size + 1 + 1 + 1 < _; omega) (ne _ (.inr (by show _ ≤ w.heap.size + 1 + 1 + 1; omega)))),
    oth _ _ (by simp <;> omega) (far_cell hg M.c0 (by show B < _; omega) (ne _ (.inl rfl))),
    oth _ _ (by simp <;> omega) (far_cell hg M.c1 (by show B < _; omega) (ne _ (.inl rfl))),
    World.cell?_setCell_same _ _ _ (far_cell hg M.cv (by show B < _; omega) (ne _ (.inl rfl))), ?_, ?_, ?_, ?_, ?_, ?_⟩
  · intro o; rw [World.frozen?_setCell]; exact (World.frozen?_of_block hblk).trans (M.fr o)
  · exact ownsRow_setCell_below ho (by show B < B + 1; omega) _
  · have := hg.size; simp [World.setCell] at this ⊢; omega
  · intro i hi hiB hir
    rw [Below.heap_setCell _ _ _ _ hiB]
    exact ((hg.block i (by simp; omega) hir).trans (Below.heap_alloc W _ _ (by omega))).trans (M.same i hi hiB)
  · intro o h1 h2
    rw [World.cell?_setCell_other _ _ _ _ (by simp <;> omega)]
    exact (World.cell?_of_block hblk).trans (M.others o h1)
  · exact ⟨hg.os.trans M.rest.1, hg.tape.trans M.rest.2.1, hg.output.trans M.rest.2.2⟩

/-- What Write leaves. -/
structure Wrote (w W : World) (B k n : Nat) (r : Int) (rep fen : Nat → Int) (row : Option Nat) (v : Value) (xs : List Value) : Prop where
  cells : CellsAt W B (upd rep k r) (upd fen k (fen k + 1))
  cv : W.cell? ⟨B, 16, none⟩ = some v
  fr : ∀ o, W.frozen? ⟨B, o, none⟩ = false
  own : W.ownsRow (B + 1) 47 5 v n xs
  size : w.heap.size ≤ W.heap.size
  same : ∀ i, i < w.heap.size → i ≠ B → some i ≠ row → W.heap[i]? = w.heap[i]?
  rest : W.os = w.os ∧ W.tape = w.tape ∧ W.output = w.output
  at' : v.ownBlock = row ∨ ∃ g, v.ownBlock = some g ∧ w.heap.size ≤ g

theorem wrote_of {w W : World} {B k n : Nat} {r b : Int} {rep fen : Nat → Int} {row : Option Nat} {v : Value} {xs : List Value} (hk : k < 8) (hB : B < w.heap.size)
    (h : CellsAt w B rep fen) (M : LateAt w W B k n r b rep fen row v xs) (hat : v.ownBlock = row ∨ ∃ g, v.ownBlock = some g ∧ w.heap.size ≤ g) :
    Wrote w (W.setCell ⟨B, k * 2, none⟩ (.int .i64 r)) B k n r rep fen row v xs := by
  have hs := M.size
  have oth : ∀ (a : Addr), a ≠ ⟨B, k * 2, none⟩ → (W.setCell ⟨B, k * 2, none⟩ (.int .i64 r)).cell? a = W.cell? a := fun a ha => (World.cell?_setCell_other _ _ _ _ (fun e => ha e.symm))
  refine ⟨⟨?_, ?_⟩, ?_, ?_, ?_, ?_, ?_, M.rest, hat⟩
  · intro i hi
    by_cases hik : i = k
    · subst hik; simp only [upd, if_true]; exact World.cell?_setCell_same _ _ _ M.c0
    · rw [oth _ (by simp <;> omega)]; simp only [upd, if_neg hik]
      exact (M.others _ (by omega) (by omega)).trans (h.rep i hi)
  · intro i hi
    rw [oth _ (by simp <;> omega)]
    by_cases hik : i = k
    · subst hik; simp only [upd, if_true]; exact M.c1
    · simp only [upd, if_neg hik]
      exact (M.others _ (by omega) (by omega)).trans (h.fen i hi)
  · rw [oth _ (by simp <;> omega)]; exact M.cv
  · intro o; rw [World.frozen?_setCell]; exact M.fr o
  · exact ownsRow_setCell_below (w := W) M.own (by show B < B + 1; omega) _
  · show _ ≤ (World.setCell _ _ _).heap.size
    simp [World.setCell]; omega
  · intro i hi hiB hir
    rw [Below.heap_setCell _ _ _ _ hiB]
    exact M.same i hi hiB hir
end Go.Proofs.Ytjkaegdlpmpneaa
