/- What Write finds in memory ahead of its append. -/
import Derived.Test.YtjkaegdlpmpneaaFenA
import Derived.OneCell
namespace Go.Proofs.Ytjkaegdlpmpneaa
open Go.RowKit
set_option linter.unusedVariables false

theorem info47 : (Try.prog.info? 47).map (fun i => (i.zero, i.size, i.bytes)) = some (some (.agg #[.int .i64 0, .int .i64 0, .int .i64 0, .int .i64 0, .int .i64 0]), 5, 40) := by kernel_rfl

/-- What Write finds ahead of the append: the boxes, the object with its fence raised. -/
structure MidAt (w W : World) (B k n : Nat) (r b : Int) (rep fen : Nat → Int) (v : Value) (xs : List Value) : Prop where
  b0 : W.cell? ⟨w.heap.size, 0, none⟩ = some (.pointer (some ⟨B, 0, none⟩))
  b1 : W.cell? ⟨w.heap.size + 1, 0, none⟩ = some (.int .i64 k)
  b3 : W.cell? ⟨w.heap.size + 1 + 1 + 1, 0, none⟩ = some (.int .i64 r)
  b4 : W.cell? ⟨w.heap.size + 1 + 1 + 1 + 1, 0, none⟩ = some (.int .i64 b)
  c0 : W.cell? ⟨B, k * 2, none⟩ = some (.int .i64 (rep k))
  c1 : W.cell? ⟨B, k * 2 + 1, none⟩ = some (.int .i64 (fen k + 1))
  cv : W.cell? ⟨B, 16, none⟩ = some v
  fr : ∀ o, W.frozen? ⟨B, o, none⟩ = false
  own : W.ownsRow (B + 1) 47 5 v n xs
  size : w.heap.size + 5 = W.heap.size
  same : ∀ i, i < w.heap.size → i ≠ B → W.heap[i]? = w.heap[i]?
  others : ∀ o, o ≠ k * 2 + 1 → W.cell? ⟨B, o, none⟩ = w.cell? ⟨B, o, none⟩
  rest : W.os = w.os ∧ W.tape = w.tape ∧ W.output = w.output

theorem mid_at {w : World} {B k n nq : Nat} {f r b : Int} {rep fen : Nat → Int} {v : Value} {xs : List Value} (hk : k < 8) (hB : B < w.heap.size) (h : CellsAt w B rep fen)
    (hv : w.cell? ⟨B, 16, none⟩ = some v) (hfr : ∀ o, w.frozen? ⟨B, o, none⟩ = false) (hown : w.ownsRow (B + 1) 47 5 v n xs) :
    MidAt w (((boxed w B k f r b).drewN nq).setCell ⟨B, k * 2 + 1, none⟩ (.int .i64 (fen k + 1))) B k n r b rep fen v xs := by
  have hb := boxed_below w B k f r b
  have oth : ∀ (a : Addr), a ≠ ⟨B, k * 2 + 1, none⟩ → (((boxed w B k f r b).drewN nq).setCell ⟨B, k * 2 + 1, none⟩ (.int .i64 (fen k + 1))).cell? a = (boxed w B k f r b).cell? a := fun a ha => World.cell?_setCell_other _ _ _ _ (fun e => ha e.symm)
  have hs : (boxed w B k f r b).heap.size = w.heap.size + 5 := by simp
  refine ⟨?_, ?_, ?_, ?_, ?_, ?_, ?_, ?_, ?_, ?_, ?_, ?_, rfl, rfl, rfl⟩
  · rw [oth _ (by simp <;> omega), World.cell?_alloc_past _ _ _ (by simp <;> omega), World.cell?_alloc_past _ _ _ (by simp <;> omega), World.cell?_alloc_past _ _ _ (by simp <;> omega), World.cell?_alloc_past _ _ _ (by simp), World.cell?_alloc_at _ _ _ _ rfl]; rfl
  · rw [oth _ (by simp <;> omega)]; simp [World.cell?_alloc_past, World.cell?_alloc_at]
  · rw [oth _ (by simp <;> omega)]; simp [World.cell?_alloc_past, World.cell?_alloc_at]
  · rw [oth _ (by simp <;> omega)]; simp [World.cell?_alloc_at]
  · rw [oth _ (by simp)]; exact (hb.cell (p := ⟨B, k * 2, none⟩) hB).trans (h.rep k hk)
  · exact World.cell?_setCell_same _ _ _ ((hb.cell (p := ⟨B, k * 2 + 1, none⟩) hB).trans (h.fen k hk))
  · rw [oth _ (by simp <;> omega)]; exact (hb.cell (p := ⟨B, 16, none⟩) hB).trans hv
  · intro o; rw [World.frozen?_setCell]; exact (hb.frozen (p := ⟨B, o, none⟩) hB).trans (hfr o)
  · exact ownsRow_setCell_below (w := (boxed w B k f r b).drewN nq) (by exact ((((hown.alloc _).alloc _).alloc _).alloc _).alloc _) (by show B < B + 1; omega) _
  · show w.heap.size + 5 = (World.setCell _ _ _).heap.size
    simp [World.setCell, World.drewN]
  · intro i hi hiB
    rw [Below.heap_setCell _ _ _ _ hiB]
    exact hb.block i hi
  · intro o ho
    rw [oth _ (by simp)]; exact hb.cell (p := ⟨B, o, none⟩) hB
end Go.Proofs.Ytjkaegdlpmpneaa
