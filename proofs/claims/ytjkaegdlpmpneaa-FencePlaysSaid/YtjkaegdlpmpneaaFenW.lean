/- FenceRises: the second loop's relation. -/
import Derived.Test.YtjkaegdlpmpneaaFenU
namespace Go.Proofs.Ytjkaegdlpmpneaa
open Go.RowKit
set_option linter.unusedVariables false

namespace Pl
theorem take_succ' (es : List Ent) (j : Nat) (h : j < es.length) : es.take (j + 1) = es.take j ++ [es[j]] := by
  rw [List.take_add_one, List.getElem?_eq_getElem h]; rfl
theorem Steps.low {es : List Ent} (h : Steps es) : ∀ j, j ≤ es.length → ∀ k, 0 ≤ fenOf (es.take j) k ∧ fenOf (es.take j) k ≤ j := by
  intro j
  induction j with
  | zero => intro _ k; exact ⟨Int.le_refl _, Int.le_refl _⟩
  | succ j ih =>
    intro hj k
    have hl : j < es.length := by omega
    obtain ⟨_, h1, _⟩ := h j hl
    rw [take_succ' es j hl, fenOf_append]
    unfold upd
    have a := ih (by omega) k
    have b := ih (by omega) (es[j]).work
    split
    · rw [h1]; omega
    · omega
end Pl

/-- The copy of the log in memory. -/
def LogU (w : World) (go : Option Addr) (es : List Pl.Ent) (H : Nat) : Prop :=
  ∀ i (h : i < es.length), ∃ g, go = some ⟨g, 0, none⟩ ∧ H ≤ g ∧ g < w.heap.size ∧ ∀ m, m < 5 → w.cell? ⟨g, i * 5 + m, none⟩ = (es[i]).cells[m]?

theorem logU_of {w : World} {base : Nat} {v : Value} {es : List Pl.Ent} (h : w.ownsRow base 47 5 v es.length (Pl.rows es)) : ∃ go cap, v = .slice go es.length cap ∧ LogU w go es base := by
  rcases h.2 with ⟨rfl, h0⟩ | ⟨g, cap, cur, rfl, hb, hg, _, _, _, ht⟩
  · exact ⟨none, 0, by rw [h0], fun i hi => absurd hi (by omega)⟩
  · refine ⟨_, cap, rfl, fun i hi => ⟨g, rfl, hb, (Array.getElem?_eq_some_iff.1 hg).1, fun m hm => ?_⟩⟩
    have h1 := Pl.rows_get es i m hi hm
    have h2 : (Pl.rows es)[i * 5 + m]? = cur.toList[i * 5 + m]? := by
      rw [← ht, List.getElem?_take, if_pos (by omega)]
    have hlt : m < (es[i]).cells.length := by simp [Pl.Ent.cells]; omega
    have h3 : cur.toList[i * 5 + m]? = some ((es[i]).cells[m]) := by rw [← h2, h1, List.getElem?_eq_getElem hlt]
    rw [List.getElem?_eq_getElem hlt]
    have h4 := World.news_of_block hg _ _ h3
    rw [Go.WideShapes.add_plain] at h4
    simpa using h4

/-- Where the second loop stands. -/
structure At2 (w0 wr : World) (B : Nat) (row : Option Nat) (es : List Pl.Ent) (go : Option Addr) (H j : Nat) : Prop where
  has : ∀ k, k < 8 → wr.cell? ⟨H, k, none⟩ = some (.int .i64 (Pl.repOf (es.take j) k))
  fen : ∀ k, k < 8 → wr.cell? ⟨H + 1, k, none⟩ = some (.int .i64 (Pl.fenOf (es.take j) k))
  fr0 : ∀ o, wr.frozen? ⟨H, o, none⟩ = false
  fr1 : ∀ o, wr.frozen? ⟨H + 1, o, none⟩ = false
  hB : B < H
  hr : ∀ g, row = some g → g < H
  hH : H + 1 < wr.heap.size
  at1 : At1 w0 wr B row es
  log : LogU wr go es (H + 2)

theorem At2.below {w0 wr w' : World} {B : Nat} {row : Option Nat} {es : List Pl.Ent} {go : Option Addr} {H j : Nat} (h : At2 w0 wr B row es go H j) (hb : Below wr.heap.size wr w') : At2 w0 w' B row es go H j := by
  have hH := h.hH
  refine ⟨fun k hk => (hb.cell (p := ⟨H, k, none⟩) (by show H < _; omega)).trans (h.has k hk), fun k hk => (hb.cell (p := ⟨H + 1, k, none⟩) hH).trans (h.fen k hk),
    fun o => (hb.frozen (p := ⟨H, o, none⟩) (by show H < _; omega)).trans (h.fr0 o), fun o => (hb.frozen (p := ⟨H + 1, o, none⟩) hH).trans (h.fr1 o), h.hB, h.hr, Nat.lt_of_lt_of_le hH hb.size, h.at1.below hb, fun i hi => ?_⟩
  obtain ⟨g, h1, h2, h3, h4⟩ := h.log i hi
  exact ⟨g, h1, h2, Nat.lt_of_lt_of_le h3 hb.size, fun m hm => (hb.cell (p := ⟨g, i * 5 + m, none⟩) h3).trans (h4 m hm)⟩

/-- Two stores, into the one array and into the other one. -/
theorem At2.step {w0 wr W : World} {B : Nat} {row : Option Nat} {es : List Pl.Ent} {go : Option Addr} {H j q : Nat} {fe to : Int} (h : At2 w0 wr B row es go H j) (hj : j < es.length) (hq : q < 8)
    (e0 : (es[j]).work = q) (e1 : (es[j]).fence = fe) (e2 : (es[j]).to = to)
    (hW : W = (wr.setCell ⟨H + 1, q, none⟩ (.int .i64 fe)).setCell ⟨H, q, none⟩ (.int .i64 to) ∨ W = (wr.setCell ⟨H, q, none⟩ (.int .i64 to)).setCell ⟨H + 1, q, none⟩ (.int .i64 fe)) :
    At2 w0 W B row es go H (j + 1) := by
  have hH := h.hH
  have hB := h.hB
  have heap : ∀ i, i ≠ H → i ≠ H + 1 → W.heap[i]? = wr.heap[i]? := by
    intro i h0 h1
    rcases hW with rfl | rfl
    · rw [Below.heap_setCell _ _ _ _ h0, Below.heap_setCell _ _ _ _ h1]
    · rw [Below.heap_setCell _ _ _ _ h1, Below.heap_setCell _ _ _ _ h0]
  have hsz : W.heap.size = wr.heap.size := by rcases hW with rfl | rfl <;> simp [World.setCell]
  have c0 := h.has q hq
  have c1 := h.fen q hq
  have p0 : ∀ k, W.cell? ⟨H, k, none⟩ = if k = q then some (.int .i64 to) else wr.cell? ⟨H, k, none⟩ := by
    intro k
    rcases hW with rfl | rfl
    · split
      · rename_i hk; subst hk
        exact World.cell?_setCell_same _ _ _ ((World.cell?_setCell_other _ _ _ _ (by simp)).trans c0)
      · rw [World.cell?_setCell_other _ _ _ _ (by simp <;> omega), World.cell?_setCell_other _ _ _ _ (by simp)]
    · rw [World.cell?_setCell_other _ _ _ _ (by simp)]
      split
      · rename_i hk; subst hk
        exact World.cell?_setCell_same _ _ _ c0
      · rw [World.cell?_setCell_other _ _ _ _ (by simp <;> omega)]
  have p1 : ∀ k, W.cell? ⟨H + 1, k, none⟩ = if k = q then some (.int .i64 fe) else wr.cell? ⟨H + 1, k, none⟩ := by
    intro k
    rcases hW with rfl | rfl
    · rw [World.cell?_setCell_other _ _ _ _ (by simp)]
      split
      · rename_i hk; subst hk
        exact World.cell?_setCell_same _ _ _ c1
      · rw [World.cell?_setCell_other _ _ _ _ (by simp <;> omega)]
    · split
      · rename_i hk; subst hk
        exact World.cell?_setCell_same _ _ _ ((World.cell?_setCell_other _ _ _ _ (by simp)).trans c1)
      · rw [World.cell?_setCell_other _ _ _ _ (by simp <;> omega), World.cell?_setCell_other _ _ _ _ (by simp)]
  have fz : ∀ p, W.frozen? p = wr.frozen? p := by
    intro p
    rcases hW with rfl | rfl <;> rw [World.frozen?_setCell, World.frozen?_setCell]
  have rest : W.os = wr.os ∧ W.tape = wr.tape ∧ W.output = wr.output := by rcases hW with rfl | rfl <;> exact ⟨rfl, rfl, rfl⟩
  refine ⟨fun k hk => ?_, fun k hk => ?_, fun o => (fz _).trans (h.fr0 o), fun o => (fz _).trans (h.fr1 o), hB, h.hr, by omega, ⟨h.at1.a.kept (by omega) (heap B (by omega) (by omega)) (fun g hg => heap g (by have := h.hr g hg; omega) (by have := h.hr g hg; omega)), h.at1.l1, ?_⟩, fun i hi => ?_⟩
  · rw [p0, Pl.take_succ' es j hj, Pl.repOf_append]
    unfold upd
    rw [e0, e2]
    split
    · rfl
    · exact h.has k hk
  · rw [p1, Pl.take_succ' es j hj, Pl.fenOf_append]
    unfold upd
    rw [e0, e1]
    split
    · rfl
    · exact h.fen k hk
  · have hb := h.at1.bel
    have l1 := h.at1.l1
    refine ⟨rest.1.trans hb.os, rest.2.1.trans hb.tape, rest.2.2.trans hb.output, by have := hb.size; omega, fun i hi => ?_⟩
    rw [heap i (by omega) (by omega)]; exact hb.block i hi
  · obtain ⟨g, h1, h2, h3, h4⟩ := h.log i hi
    exact ⟨g, h1, h2, by omega, fun m hm => (World.cell?_of_block (heap g (by omega) (by omega))).trans (h4 m hm)⟩
end Go.Proofs.Ytjkaegdlpmpneaa
