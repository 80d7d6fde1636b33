/- The document's object in memory, and the program's with its window on the log. -/
import Derived.Test.YtjkaegdlpmpneaaFenY
import Derived.Test.YtjkaegdlpmpneaaFenW
namespace Go.Proofs.Ytjkaegdlpmpneaa
open Go.RowKit
set_option linter.unusedVariables false

theorem info61 : (Try.prog.info? 61).map (fun i => (i.zero, i.size, i.bytes)) = some (some (.agg #[.int .i64 0, .int .i64 0, .int .i64 0, .int .i64 0, .int .i64 0]), 5, 40) := by kernel_rfl

/-- The document's object. -/
structure RefAt (w : World) (M : Nat) (row : Option Nat) (es : List Pl.Ent) : Prop where
  lt : M < w.heap.size
  has : ∀ k, k < 8 → w.cell? ⟨M, k, none⟩ = some (.int .i64 (Pl.repOf es k))
  fen : ∀ k, k < 8 → w.cell? ⟨M, 8 + k, none⟩ = some (.int .i64 (Pl.fenOf es k))
  fr : ∀ o, w.frozen? ⟨M, o, none⟩ = false
  log : ∃ v, w.cell? ⟨M, 16, none⟩ = some v ∧ w.ownsRow (M + 1) 61 5 v es.length (Pl.rows es) ∧ v.ownBlock = row
  low : ∀ k, k < 8 → 0 ≤ Pl.fenOf es k ∧ Pl.fenOf es k ≤ es.length

theorem RefAt.row_lt {w : World} {M : Nat} {row : Option Nat} {es : List Pl.Ent} (h : RefAt w M row es) : ∀ g, row = some g → M < g ∧ g < w.heap.size := fun g hg => by
  obtain ⟨v, _, ho, hb⟩ := h.log
  exact ho.lt g (hb.trans hg)
theorem RefAt.kept {w w' : World} {M : Nat} {row : Option Nat} {es : List Pl.Ent} (h : RefAt w M row es) (hs : w.heap.size ≤ w'.heap.size)
    (h1 : w'.heap[M]? = w.heap[M]?) (h2 : ∀ g, row = some g → w'.heap[g]? = w.heap[g]?) : RefAt w' M row es := by
  have hlt := h.lt
  obtain ⟨v, hv, ho, hb⟩ := h.log
  refine ⟨by omega, fun k hk => (World.cell?_of_block h1).trans (h.has k hk), fun k hk => (World.cell?_of_block h1).trans (h.fen k hk),
    fun o => (World.frozen?_of_block h1).trans (h.fr o), ⟨v, (World.cell?_of_block h1).trans hv, ⟨ho.1, ?_⟩, hb⟩, h.low⟩
  rcases ho.2 with hn | ⟨g, cap, cur, hvg, hbg, hg, rest⟩
  · exact .inl hn
  · refine .inr ⟨g, cap, cur, hvg, hbg, ?_, rest⟩
    rw [h2 g (by rw [← hb, hvg]; rfl)]; exact hg
theorem RefAt.below {w w' : World} {M : Nat} {row : Option Nat} {es : List Pl.Ent} (h : RefAt w M row es) (hb : Below w.heap.size w w') : RefAt w' M row es :=
  h.kept hb.size (hb.block M h.lt) (fun g hg => hb.block g (h.row_lt g hg).2)

/-- In the middle of the document's Write. -/
structure RMid (w W : World) (M k n : Nat) (re fe : Int) (row : Option Nat) (v : Value) (xs : List Value) : Prop where
  c0 : W.cell? ⟨M, k, none⟩ = some (.int .i64 re)
  c1 : W.cell? ⟨M, 8 + k, none⟩ = some (.int .i64 fe)
  cv : W.cell? ⟨M, 16, none⟩ = some v
  fr : ∀ o, W.frozen? ⟨M, o, none⟩ = false
  own : W.ownsRow (M + 1) 61 5 v n xs
  size : w.heap.size ≤ W.heap.size
  same : ∀ i, i < w.heap.size → i ≠ M → some i ≠ row → W.heap[i]? = w.heap[i]?
  others : ∀ o, o ≠ 8 + k → o ≠ 16 → W.cell? ⟨M, o, none⟩ = w.cell? ⟨M, o, none⟩
  rest : W.os = w.os ∧ W.tape = w.tape ∧ W.output = w.output
  at' : v.ownBlock = row ∨ ∃ g, v.ownBlock = some g ∧ w.heap.size ≤ g

theorem rmid_at {w : World} {M k : Nat} {row : Option Nat} {es : List Pl.Ent} (hk : k < 8) (h : RefAt w M row es) {v : Value} (hv : w.cell? ⟨M, 16, none⟩ = some v) (ho : w.ownsRow (M + 1) 61 5 v es.length (Pl.rows es)) (hb : v.ownBlock = row) :
    RMid w (w.drew.setCell ⟨M, 8 + k, none⟩ (.int .i64 (Pl.fenOf es k + 1))) M k es.length (Pl.repOf es k) (Pl.fenOf es k + 1) row v (Pl.rows es) := by
  have oth : ∀ (a : Addr), a ≠ ⟨M, 8 + k, none⟩ → (w.drew.setCell ⟨M, 8 + k, none⟩ (.int .i64 (Pl.fenOf es k + 1))).cell? a = w.cell? a := fun a ha => World.cell?_setCell_other _ _ _ _ (fun e => ha e.symm)
  refine ⟨(oth _ (by simp <;> omega)).trans (h.has k hk), World.cell?_setCell_same _ _ _ (h.fen k hk), (oth _ (by simp <;> omega)).trans hv, ?_, ?_, ?_, ?_, ?_, ⟨rfl, rfl, rfl⟩, .inl hb⟩
  · intro o; rw [World.frozen?_setCell]; exact h.fr o
  · exact ownsRow_setCell_below (w := w.drew) ho (by show M < M + 1; omega) _
  · simp [World.setCell]
  · intro i hi hiM hir; rw [Below.heap_setCell _ _ _ _ hiM]; rfl
  · intro o h1 h2; exact oth _ (by simp <;> omega)

theorem rmid_late {w W w1 : World} {M k n g cap : Nat} {re fe : Int} {row : Option Nat} {v : Value} {xs ys : List Value} {o : Obj} (hk : k < 8) (hM : M < w.heap.size)
    (R : RMid w W M k n re fe row v xs) (hv : ∀ g, v.ownBlock = some g → M + 1 ≤ g ∧ g < W.heap.size) (hvr : v.ownBlock = row)
    (hg : (W.alloc o).drew.grownBy w1 v.ownBlock) (ho : w1.ownsRow (M + 1) 61 5 (.slice (some ⟨g, 0, none⟩) (n + 1) cap) (n + 1) ys) (hat : some g = row ∨ W.heap.size ≤ g) :
    RMid w (w1.setCell ⟨M, 16, none⟩ (.slice (some ⟨g, 0, none⟩) (n + 1) cap)) M k (n + 1) re fe row (.slice (some ⟨g, 0, none⟩) (n + 1) cap) ys := by
  have hs := R.size
  have ne : some M ≠ v.ownBlock := fun e => by have := hv M e.symm; omega
  have oth : ∀ (a : Addr) (u : Value), a ≠ ⟨M, 16, none⟩ → w1.cell? a = u → (w1.setCell ⟨M, 16, none⟩ (.slice (some ⟨g, 0, none⟩) (n + 1) cap)).cell? a = u := fun a u ha h => (World.cell?_setCell_other _ _ _ _ (fun e => ha e.symm)).trans h
  have hblk : w1.heap[M]? = W.heap[M]? := (hg.block M (by simp; omega) ne).trans (Below.heap_alloc W o _ (by omega))
  refine ⟨oth _ _ (by simp <;> omega) ((World.cell?_of_block hblk).trans R.c0), oth _ _ (by simp <;> omega) ((World.cell?_of_block hblk).trans R.c1),
    World.cell?_setCell_same _ _ _ ((World.cell?_of_block hblk).trans R.cv), ?_, ?_, ?_, ?_, ?_, ?_, ?_⟩
  · intro o; rw [World.frozen?_setCell]; exact (World.frozen?_of_block hblk).trans (R.fr o)
  · exact ownsRow_setCell_below ho (by show M < M + 1; omega) _
  · have := hg.size; simp [World.setCell] at this ⊢; omega
  · intro i hi hiB hir
    rw [Below.heap_setCell _ _ _ _ hiB]
    exact ((hg.block i (by simp; omega) (by rw [hvr]; exact hir)).trans (Below.heap_alloc W _ _ (by omega))).trans (R.same i hi hiB hir)
  · intro o h1 h2
    rw [World.cell?_setCell_other _ _ _ _ (by simp <;> omega)]
    exact (World.cell?_of_block hblk).trans (R.others o h1 h2)
  · exact ⟨hg.os.trans R.rest.1, hg.tape.trans R.rest.2.1, hg.output.trans R.rest.2.2⟩
  · rcases hat with h | h
    · exact .inl h
    · exact .inr ⟨g, rfl, by omega⟩

theorem rmid_end {w W : World} {M k : Nat} {r b : Int} {row : Option Nat} {v : Value} {es : List Pl.Ent} (hk : k < 8) (h : RefAt w M row es)
    (R : RMid w W M k (es.length + 1) (Pl.repOf es k) (Pl.fenOf es k + 1) row v (Pl.rows (es ++ [⟨k, Pl.fenOf es k + 1, Pl.repOf es k, r, b⟩]))) :
    RefAt (W.setCell ⟨M, k, none⟩ (.int .i64 r)) M v.ownBlock (es ++ [⟨k, Pl.fenOf es k + 1, Pl.repOf es k, r, b⟩]) ∧ Turned w (W.setCell ⟨M, k, none⟩ (.int .i64 r)) M row := by
  have hs := R.size
  have hM := h.lt
  have oth : ∀ (a : Addr), a ≠ ⟨M, k, none⟩ → (W.setCell ⟨M, k, none⟩ (.int .i64 r)).cell? a = W.cell? a := fun a ha => (World.cell?_setCell_other _ _ _ _ (fun e => ha e.symm))
  have hsz : (W.setCell ⟨M, k, none⟩ (.int .i64 r)).heap.size = W.heap.size := by simp [World.setCell]
  refine ⟨⟨by rw [hsz]; omega, ?_, ?_, ?_, ⟨v, ?_, ?_, rfl⟩, ?_⟩, ⟨by rw [hsz]; exact hs, ?_, R.rest⟩⟩
  · intro i hi
    rw [Pl.repOf_append]
    by_cases hik : i = k
    · subst hik; simp only [upd, if_true]; exact World.cell?_setCell_same _ _ _ R.c0
    · rw [oth _ (by simp <;> omega)]; simp only [upd, if_neg hik]
      exact (R.others _ (by omega) (by omega)).trans (h.has i hi)
  · intro i hi
    rw [oth _ (by simp <;> omega), Pl.fenOf_append]
    by_cases hik : i = k
    · subst hik; simp only [upd, if_true]; exact R.c1
    · simp only [upd, if_neg hik]
      exact (R.others _ (by omega) (by omega)).trans (h.fen i hi)
  · intro o; rw [World.frozen?_setCell]; exact R.fr o
  · rw [oth _ (by simp <;> omega)]; exact R.cv
  · rw [List.length_append]; exact ownsRow_setCell_below (w := W) R.own (by show M < M + 1; omega) _
  · intro i hi
    have := h.low i hi
    have := h.low k hk
    rw [Pl.fenOf_append, List.length_append]
    unfold upd
    simp only [List.length_singleton]
    split <;> omega
  · intro i hi hiB hir
    rw [Below.heap_setCell _ _ _ _ hiB]
    exact R.same i hi hiB hir
end Go.Proofs.Ytjkaegdlpmpneaa
