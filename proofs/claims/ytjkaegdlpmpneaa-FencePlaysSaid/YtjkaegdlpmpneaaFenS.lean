/- The object with its log laid open. -/
import Derived.Test.YtjkaegdlpmpneaaFenR
namespace Go.Proofs.Ytjkaegdlpmpneaa
open Go.RowKit
set_option linter.unusedVariables false

namespace Pl
/-- A write that was taken. -/
structure Ent where
  work : Nat
  fence : Int
  frm : Int
  to : Int
  by' : Int
/-- Its five cells. -/
def Ent.cells (e : Ent) : List Value := [.int .i64 e.work, .int .i64 e.fence, .int .i64 e.frm, .int .i64 e.to, .int .i64 e.by']
def rows (es : List Ent) : List Value := es.flatMap Ent.cells
theorem rows_length (es : List Ent) : (rows es).length = es.length * 5 := by
  unfold rows
  induction es with
  | nil => rfl
  | cons e es ih => rw [List.flatMap_cons, List.length_append, ih]; simp [Ent.cells]; omega
theorem rows_append (es : List Ent) (e : Ent) : rows (es ++ [e]) = rows es ++ e.cells := by unfold rows; simp
theorem rows_get (es : List Ent) (i j : Nat) (h : i < es.length) (hj : j < 5) : (rows es)[i * 5 + j]? = (es[i]).cells[j]? := by
  induction es generalizing i with
  | nil => exact absurd h (by simp)
  | cons e es ih =>
    have hr : rows (e :: es) = e.cells ++ rows es := by unfold rows; rw [List.flatMap_cons]
    rw [hr]
    cases i with
    | zero =>
      rw [List.getElem?_append_left (by simp [Ent.cells]; omega)]
      simp
    | succ i =>
      rw [List.getElem?_append_right (by simp [Ent.cells]; omega)]
      have h' : i < es.length := by simp at h; omega
      rw [show (i + 1) * 5 + j - e.cells.length = i * 5 + j from by simp [Ent.cells]; omega, ih i h']
      simp

/-- What the writes of a log come to. -/
def repOf (es : List Ent) : Nat → Int := es.foldl (fun f e => upd f e.work e.to) (fun _ => 0)
def fenOf (es : List Ent) : Nat → Int := es.foldl (fun f e => upd f e.work e.fence) (fun _ => 0)
theorem repOf_append (es : List Ent) (e : Ent) : repOf (es ++ [e]) = upd (repOf es) e.work e.to := by unfold repOf; rw [List.foldl_append]; rfl
theorem fenOf_append (es : List Ent) (e : Ent) : fenOf (es ++ [e]) = upd (fenOf es) e.work e.fence := by unfold fenOf; rw [List.foldl_append]; rfl
/-- Each write's fence is one more than the last one's, its 'From' the last one's 'To'. -/
def Steps (es : List Ent) : Prop := ∀ j (h : j < es.length), (es[j]).work < 8 ∧ (es[j]).fence = fenOf (es.take j) (es[j]).work + 1 ∧ (es[j]).frm = repOf (es.take j) (es[j]).work
theorem Steps.nil : Steps [] := fun j h => absurd h (by simp)
theorem Steps.append {es : List Ent} {e : Ent} (h : Steps es) (h0 : e.work < 8) (h1 : e.fence = fenOf es e.work + 1) (h2 : e.frm = repOf es e.work) : Steps (es ++ [e]) := by
  intro j hj
  by_cases hl : j < es.length
  · rw [List.getElem_append_left hl, List.take_append_of_le_length (by omega)]
    exact h j hl
  · have hj' : j = es.length := by simp at hj; omega
    subst hj'
    rw [List.getElem_append_right (by omega), List.take_append_of_le_length (by omega), List.take_length]
    simp
    exact ⟨h0, h1, h2⟩
end Pl

/-- The object whose log is 'es'. -/
structure LogAt (w : World) (B : Nat) (row : Option Nat) (es : List Pl.Ent) : Prop where
  lt : B < w.heap.size
  cells : CellsAt w B (Pl.repOf es) (Pl.fenOf es)
  fr : ∀ o, w.frozen? ⟨B, o, none⟩ = false
  log : ∃ v, w.cell? ⟨B, 16, none⟩ = some v ∧ w.ownsRow (B + 1) 47 5 v es.length (Pl.rows es) ∧ v.ownBlock = row
  low : ∀ k, k < 8 → 0 ≤ Pl.fenOf es k ∧ Pl.fenOf es k ≤ es.length
  steps : Pl.Steps es

theorem LogAt.row_lt {w : World} {B : Nat} {row : Option Nat} {es : List Pl.Ent} (h : LogAt w B row es) : ∀ g, row = some g → B < g ∧ g < w.heap.size := fun g hg => by
  obtain ⟨v, _, ho, hb⟩ := h.log
  exact ho.lt g (hb.trans hg)

theorem LogAt.kept {w w' : World} {B : Nat} {row : Option Nat} {es : List Pl.Ent} (h : LogAt w B row es) (hs : w.heap.size ≤ w'.heap.size)
    (h1 : w'.heap[B]? = w.heap[B]?) (h2 : ∀ g, row = some g → w'.heap[g]? = w.heap[g]?) : LogAt w' B row es := by
  have hlt := h.lt
  obtain ⟨v, hv, ho, hb⟩ := h.log
  refine ⟨by omega, ⟨fun k hk => (World.cell?_of_block h1).trans (h.cells.rep k hk), fun k hk => (World.cell?_of_block h1).trans (h.cells.fen k hk)⟩,
    fun o => (World.frozen?_of_block h1).trans (h.fr o), ⟨v, (World.cell?_of_block h1).trans hv, ⟨ho.1, ?_⟩, hb⟩, h.low, h.steps⟩
  rcases ho.2 with hn | ⟨g, cap, cur, hvg, hbg, hg, rest⟩
  · exact .inl hn
  · refine .inr ⟨g, cap, cur, hvg, hbg, ?_, rest⟩
    rw [h2 g (by rw [← hb, hvg]; rfl)]; exact hg
theorem LogAt.below {w w' : World} {B : Nat} {row : Option Nat} {es : List Pl.Ent} (h : LogAt w B row es) (hb : Below w.heap.size w w') : LogAt w' B row es :=
  h.kept hb.size (hb.block B h.lt) (fun g hg => hb.block g (h.row_lt g hg).2)

namespace Pl
/-- The log behind a write. -/
def es' (es : List Ent) (x f r b : Int) : List Ent := if code (fenOf es) x f r b = 0 then es ++ [⟨x.toNat, fenOf es x.toNat + 1, repOf es x.toNat, r, b⟩] else es
theorem es_len (es : List Ent) (x f r b : Int) : es.length ≤ (es' es x f r b).length ∧ (es' es x f r b).length ≤ es.length + 1 := by
  unfold es'; split <;> simp
end Pl

theorem write_log (B : Nat) (row : Option Nat) (es : List Pl.Ent) (x f r b : Int) (w : World) (h : LogAt w B row es) (hn : es.length ≤ 255) :
    Calls Try.prog 9 #[.pointer (some ⟨B, 0, none⟩), .int .i64 x, .int .i64 f, .int .i64 r, .int .i64 b] w fun e w' => e = .returned (.int .i64 (Pl.code (Pl.fenOf es) x f r b)) ∧
      ∃ row', LogAt w' B row' (Pl.es' es x f r b) ∧ Turned w w' B row ∧ (row' = row ∨ ∃ g, row' = some g ∧ w.heap.size ≤ g) := by
  have refuse : ∀ (c : Int), Pl.code (Pl.fenOf es) x f r b = c → c ≠ 0 → ∀ e w', (e = Ending.returned (.int .i64 c) ∧ Below w.heap.size w w') →
      e = .returned (.int .i64 (Pl.code (Pl.fenOf es) x f r b)) ∧ ∃ row', LogAt w' B row' (Pl.es' es x f r b) ∧ Turned w w' B row ∧ (row' = row ∨ ∃ g, row' = some g ∧ w.heap.size ≤ g) := by
    rintro c hc h0 e w' ⟨rfl, hb⟩
    refine ⟨by rw [hc], row, ?_, turned_below hb, .inl rfl⟩
    rw [show Pl.es' es x f r b = es from by unfold Pl.es'; rw [if_neg (by rw [hc]; exact h0)]]
    exact h.below hb
  cases h0 : Pl.inB x 0 7 with
  | false => exact (write_work B x f r b w h0).mono (refuse 2 (by unfold Pl.code; rw [if_pos h0]) (by decide))
  | true =>
    obtain ⟨x0, x7⟩ := (Pl.inB_iff _ _ _).1 h0
    obtain ⟨k, rfl⟩ := Int.eq_ofNat_of_zero_le x0
    have hk : k < 8 := by omega
    cases h1 : (Pl.inB r 0 1000 && Pl.inB b 0 7) with
    | false => exact (write_arg B k f r b w hk h1).mono (refuse 2 (by unfold Pl.code; rw [if_neg (by rw [h0]; decide), if_pos h1]) (by decide))
    | true =>
      simp only [Bool.and_eq_true] at h1
      cases h2 : (Pl.fenOf es k != f) with
      | true => exact (write_fence B k f r b _ _ w hk h.lt h.cells h1.1 h1.2 h2).mono (refuse 13 (by unfold Pl.code; rw [if_neg (by rw [h0]; decide), if_neg (by rw [h1.1, h1.2]; decide), if_pos (by simpa using h2)]) (by decide))
      | false =>
        have hc : Pl.code (Pl.fenOf es) k f r b = 0 := by unfold Pl.code; rw [if_neg (by rw [h0]; decide), if_neg (by rw [h1.1, h1.2]; decide), if_neg (by simpa using h2)]
        obtain ⟨v, hv, ho, hb⟩ := h.log
        have hl := h.low k hk
        refine (write_ok B k es.length f r b _ _ v (Pl.rows es) w hk h.lt h.cells h1.1 h1.2 h2 hl.1 (by omega) hv h.fr ho hn).mono ?_
        rintro e w' ⟨rfl, v', W⟩
        have he : Pl.es' es k f r b = es ++ [⟨k, Pl.fenOf es k + 1, Pl.repOf es k, r, b⟩] := by unfold Pl.es'; rw [if_pos hc]; rfl
        refine ⟨by rw [hc], v'.ownBlock, ?_, ⟨W.size, ?_, W.rest⟩, ?_⟩
        · rw [he]
          refine ⟨Nat.lt_of_lt_of_le h.lt W.size, ?_, W.fr, ⟨v', W.cv, ?_, rfl⟩, fun i hi => ?_, h.steps.append hk rfl rfl⟩
          · rw [Pl.repOf_append, Pl.fenOf_append]; exact W.cells
          · rw [Pl.rows_append, List.length_append]; exact W.own
          · have := h.low i hi
            rw [Pl.fenOf_append, List.length_append]
            unfold upd
            simp only [List.length_singleton]
            split
            · omega
            · omega
        · intro i hi hiB hir; exact W.same i hi hiB (by rw [hb]; exact hir)
        · rw [← hb]; exact W.at'

theorem new_log (w : World) : Calls Try.prog 7 #[] w fun e w' => e = .returned (.pointer (some ⟨w.heap.size, 0, none⟩)) ∧ Below w.heap.size w w' ∧ w'.heap.size = w.heap.size + 1 ∧ LogAt w' w.heap.size none [] := by
  refine (new_any w).mono ?_
  rintro e w' ⟨rfl, hb, hs, A⟩
  refine ⟨rfl, hb, hs, A.lt, A.cells, A.fr, ?_, fun k hk => by have := A.low k hk; exact ⟨Int.le_refl _, Int.le_refl _⟩, Pl.Steps.nil⟩
  obtain ⟨v, m, xs, hv, ho, hm, hr⟩ := A.log
  have : m = 0 := by omega
  subst this
  have hx : xs = [] := List.eq_nil_of_length_eq_zero (by rw [ho.1])
  subst hx
  exact ⟨v, hv, ho, hr⟩
theorem read_log (B k : Nat) (row : Option Nat) (es : List Pl.Ent) (w : World) (hk : k < 8) (h : LogAt w B row es) :
    Calls Try.prog 8 #[.pointer (some ⟨B, 0, none⟩), .int .i64 k] w fun e w' => e = .returned (.tuple #[.int .i64 (Pl.repOf es k), .int .i64 (Pl.fenOf es k), .int .i64 0]) ∧ Below w.heap.size w w' :=
  read_ok B k _ _ w hk h.lt h.cells
end Go.Proofs.Ytjkaegdlpmpneaa
