/- The net in memory; New, Len. -/
import Derived.Test.YtjoikochpkfoaaaNetC
namespace Go.Proofs.Ytjoikochpkfoaaa
open Go.RowKit
set_option linter.unusedVariables false

namespace Pl
/-- A packet on its way. -/
structure Ent where
  frm : Int
  to : Int
  bv : Value
  bs : List Int
def Ent.cells (e : Ent) : List Value := [.int .i64 e.frm, .int .i64 e.to, e.bv]
def rows (es : List Ent) : List Value := es.flatMap Ent.cells
theorem rows_append (es fs : List Ent) : rows (es ++ fs) = rows es ++ rows fs := by unfold rows; simp
theorem rows_one (e : Ent) : rows [e] = e.cells := by unfold rows; simp
theorem rows_length (es : List Ent) : (rows es).length = es.length * 3 := by
  unfold rows
  induction es with
  | nil => rfl
  | cons e es ih => rw [List.flatMap_cons, List.length_append, ih]; simp [Ent.cells]; omega
theorem rows_get (es : List Ent) (i j : Nat) (h : i < es.length) (hj : j < 3) : (rows es)[i * 3 + j]? = (es[i]).cells[j]? := by
  induction es generalizing i with
  | nil => exact absurd h (by simp)
  | cons e es ih =>
    have hr : rows (e :: es) = e.cells ++ rows es := by unfold rows; rw [List.flatMap_cons]
    rw [hr]
    cases i with
    | zero =>
      rw [List.getElem?_append_left (by simp [Ent.cells]; omega)]
      simp
    | succ i =>
      rw [List.getElem?_append_right (by simp [Ent.cells]; omega)]
      have h' : i < es.length := by simp at h; omega
      rw [show (i + 1) * 3 + j - e.cells.length = i * 3 + j from by simp [Ent.cells]; omega, ih i h']
      simp
theorem rows_cons (e : Ent) (es : List Ent) : rows (e :: es) = .int .i64 e.frm :: .int .i64 e.to :: e.bv :: rows es := by unfold rows; rw [List.flatMap_cons]; rfl
theorem rows_take (es : List Ent) (i : Nat) : rows (es.take i) = (rows es).take (i * 3) := by
  induction es generalizing i with
  | nil => simp [rows]
  | cons e es ih =>
    cases i with
    | zero => simp [rows]
    | succ i => rw [List.take_succ_cons, rows_cons, rows_cons, ih, show (i + 1) * 3 = i * 3 + 1 + 1 + 1 from by omega, List.take_succ_cons, List.take_succ_cons, List.take_succ_cons]
theorem rows_drop (es : List Ent) (i : Nat) : rows (es.drop i) = (rows es).drop (i * 3) := by
  induction es generalizing i with
  | nil => simp [rows]
  | cons e es ih =>
    cases i with
    | zero => simp
    | succ i => rw [List.drop_succ_cons, rows_cons, ih, show (i + 1) * 3 = i * 3 + 1 + 1 + 1 from by omega, List.drop_succ_cons, List.drop_succ_cons, List.drop_succ_cons]
end Pl

/-- The net: its packets, and who is parted. -/
structure NetAt (w : World) (N : Nat) (row : Option Nat) (mb : Nat) (es : List Pl.Ent) (T : Pl.Off) : Prop where
  obj : ∃ v, w.rowIs N 59 2 (fun j => if j = 0 then v else .map (some mb)) ∧ w.ownsRow (N + 1) 31 3 v es.length (Pl.rows es) ∧ v.ownBlock = row
  mp : MapAt w mb T
  bodies : ∀ e ∈ es, BytesT w e.bv e.bs

/-- The memory that stood, but for one net, is as it was. -/
structure Turned (w w' : World) (N : Nat) (row : Option Nat) (mb : Nat) : Prop where
  size : w.heap.size ≤ w'.heap.size
  same : ∀ i, i < w.heap.size → i ≠ N → i ≠ mb → some i ≠ row → w'.heap[i]? = w.heap[i]?
  rest : w'.os = w.os ∧ w'.tape = w.tape ∧ w'.output = w.output

theorem NetAt.lt {w : World} {N mb : Nat} {row : Option Nat} {es : List Pl.Ent} {T : Pl.Off} (h : NetAt w N row mb es T) : N < w.heap.size := by
  obtain ⟨v, hr, _⟩ := h.obj; exact hr.lt
theorem NetAt.mb_lt {w : World} {N mb : Nat} {row : Option Nat} {es : List Pl.Ent} {T : Pl.Off} (h : NetAt w N row mb es T) : mb < w.heap.size := by
  obtain ⟨e, c, hb, _⟩ := h.mp; exact (Array.getElem?_eq_some_iff.1 hb).1
theorem NetAt.row_lt {w : World} {N mb : Nat} {row : Option Nat} {es : List Pl.Ent} {T : Pl.Off} (h : NetAt w N row mb es T) : ∀ g, row = some g → N < g ∧ g < w.heap.size := fun g hg => by
  obtain ⟨v, _, ho, hb⟩ := h.obj
  exact ho.lt g (hb.trans hg)
theorem NetAt.ne {w : World} {N mb : Nat} {row : Option Nat} {es : List Pl.Ent} {T : Pl.Off} (h : NetAt w N row mb es T) : N ≠ mb := by
  obtain ⟨v, ⟨c, hc, _⟩, _⟩ := h.obj
  obtain ⟨e, cl, hb, _⟩ := h.mp
  rintro rfl
  rw [hc] at hb; cases hb
theorem own_cells {w : World} {base T size n : Nat} {v : Value} {xs : List Value} {g : Nat} (h : w.ownsRow base T size v n xs) (hg : v.ownBlock = some g) : ∃ cs, w.heap[g]? = some (Obj.cells cs T (0, 0)) := by
  rcases h.2 with ⟨rfl, _⟩ | ⟨g', cap, cur, rfl, _, hh, _⟩
  · cases hg
  · cases hg; exact ⟨cur, hh⟩
theorem NetAt.row_ne {w : World} {N mb : Nat} {row : Option Nat} {es : List Pl.Ent} {T : Pl.Off} (h : NetAt w N row mb es T) : row ≠ some mb := fun e => by
  obtain ⟨v, _, ho, hb⟩ := h.obj
  obtain ⟨cs, hc⟩ := own_cells ho (hb.trans e)
  obtain ⟨es', cl, hm, _⟩ := h.mp
  rw [hc] at hm; cases hm
/-- A block of bytes is none of the net's own. -/
theorem NetAt.bytes_ne {w : World} {N mb : Nat} {row : Option Nat} {es : List Pl.Ent} {T : Pl.Off} (h : NetAt w N row mb es T) {g : Nat} {cs : Array Value} {fr : Nat × Nat} (hg : w.heap[g]? = some (Obj.cells cs 5 fr)) : g ≠ N ∧ g ≠ mb ∧ some g ≠ row := by
  obtain ⟨v, ⟨c, hc, _⟩, ho, hb⟩ := h.obj
  obtain ⟨e, cl, hm, _⟩ := h.mp
  refine ⟨?_, ?_, ?_⟩
  · rintro rfl; rw [hc] at hg; cases hg
  · rintro rfl; rw [hm] at hg; cases hg
  · intro e
    obtain ⟨cs', hc'⟩ := own_cells ho (hb.trans e.symm)
    rw [hc'] at hg; cases hg
theorem NetAt.keepB {w w' : World} {N mb : Nat} {row : Option Nat} {es : List Pl.Ent} {T : Pl.Off} (h : NetAt w N row mb es T) (t : Turned w w' N row mb) : KeepB w w' := fun g cs fr hg => by
  obtain ⟨h1, h2, h3⟩ := h.bytes_ne hg
  exact t.same g (Array.getElem?_eq_some_iff.1 hg).1 h1 h2 h3

theorem MapAt.of_block {w w' : World} {mb : Nat} {T : Pl.Off} (h : MapAt w mb T) (e : w'.heap[mb]? = w.heap[mb]?) : MapAt w' mb T := by
  obtain ⟨es, c, hb, hf⟩ := h; exact ⟨es, c, e.trans hb, hf⟩
theorem ownsRow_of {w w' : World} {b T size n : Nat} {v : Value} {xs : List Value} (h : w.ownsRow b T size v n xs) (hb : ∀ g, v.ownBlock = some g → w'.heap[g]? = w.heap[g]?) : w'.ownsRow b T size v n xs :=
  ⟨h.1, h.2.imp id (fun ⟨g, cap, cur, e, h1, h2, rest⟩ => ⟨g, cap, cur, e, h1, (hb g (by rw [e]; rfl)).trans h2, rest⟩)⟩

theorem NetAt.below {w w' : World} {N mb : Nat} {row : Option Nat} {es : List Pl.Ent} {T : Pl.Off} (h : NetAt w N row mb es T) (hb : Below w.heap.size w w') : NetAt w' N row mb es T := by
  obtain ⟨v, hr, ho, hv⟩ := h.obj
  exact ⟨⟨v, hr.of_block (hb.block N h.lt), ownsRow_of ho (fun g hg => hb.block g (ho.lt g hg).2), hv⟩, h.mp.of_block (hb.block mb h.mb_lt), fun e he => (h.bodies e he).below hb⟩

theorem Turned.of_below {w w' : World} {N mb : Nat} {row : Option Nat} (h : Below w.heap.size w w') : Turned w w' N row mb := ⟨h.size, fun i hi _ _ _ => h.block i hi, h.os, h.tape, h.output⟩
theorem Turned.below {w0 w w' : World} {N mb : Nat} {row : Option Nat} (t : Turned w w' N row mb) (h0 : Below w0.heap.size w0 w) (hN : w0.heap.size ≤ N) (hm : w0.heap.size ≤ mb) (hr : ∀ g, row = some g → w0.heap.size ≤ g) : Below w0.heap.size w0 w' := by
  have hs := h0.size
  refine ⟨t.rest.1.trans h0.os, t.rest.2.1.trans h0.tape, t.rest.2.2.trans h0.output, Nat.le_trans hs t.size, ?_⟩
  intro i hi
  exact (t.same i (by omega) (by omega) (by omega) (fun e => by have := hr i e.symm; omega)).trans (h0.block i hi)

theorem new_net (w : World) : Calls Try.prog 7 #[] w fun e w' => e = .returned (.pointer (some ⟨w.heap.size + 1, 0, none⟩)) ∧ Below w.heap.size w w' ∧ NetAt w' (w.heap.size + 1) none w.heap.size [] [] := by
  have hmm := @run_makeMap Try.prog
  go_enter Try.func7, Try.ntmps7
  go_wp2_with fail
  go_ret
  refine ⟨rfl, ((Below.refl _ _).alloc (Nat.le_refl _) _).alloc (by simp) _, ⟨.slice none 0 0, ?_, ⟨rfl, .inl ⟨rfl, rfl⟩⟩, rfl⟩, ?_, fun e he => by cases he⟩
  · have := World.rowIs_alloc (w.alloc (.map #[] 0)) #[.slice none 0 0, .map (some w.heap.size)] 59 (fun j => if j = 0 then .slice none 0 0 else .map (some w.heap.size)) (fun i hi => by
      have : i = 0 ∨ i = 1 := by simp at hi; omega
      rcases this with rfl | rfl <;> rfl)
    simpa using this
  · exact ⟨#[], 0, (Below.heap_alloc _ _ _ (by simp)).trans (heap_alloc_new w _), rfl⟩

theorem len_net (N mb : Nat) (row : Option Nat) (es : List Pl.Ent) (T : Pl.Off) (w : World) (h : NetAt w N row mb es T) : Calls Try.prog 9 #[.pointer (some ⟨N, 0, none⟩)] w fun e w' => e = .returned (.int .i64 es.length) ∧ w = w' := by
  obtain ⟨v, hr, ho, hv⟩ := h.obj
  have c0 := hr.cell (i := 0) (by decide)
  simp only [if_true] at c0
  rcases ho.2 with ⟨rfl, h0⟩ | ⟨g, cap, cur, rfl, hbg, hg, hc, hm, hs, ht⟩
  · have e0 : (es.length : Int) = 0 := by omega
    rw [e0]
    clear ho hr h hv e0 h0
    go_enter Try.func9, Try.ntmps9
    go_wp2
    go_ret
    exact ⟨rfl, rfl⟩
  · clear ho hr h hv hg hs ht
    go_enter Try.func9, Try.ntmps9
    go_wp2
    go_ret
    exact ⟨rfl, rfl⟩
end Go.Proofs.Ytjoikochpkfoaaa
