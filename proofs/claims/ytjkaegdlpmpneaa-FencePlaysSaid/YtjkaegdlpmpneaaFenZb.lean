/- The program's object with its window on the log; the document's Write in one contract. -/
import Derived.Test.YtjkaegdlpmpneaaFenZa
namespace Go.Proofs.Ytjkaegdlpmpneaa
open Go.RowKit
set_option linter.unusedVariables false

namespace Pl
/-- The last 256. -/
def win (es : List Ent) : List Ent := es.drop (es.length - 256)
theorem win_length (es : List Ent) : (win es).length = min es.length 256 := by unfold win; rw [List.length_drop]; omega
theorem win_small {es : List Ent} (h : es.length ≤ 256) : win es = es := by unfold win; rw [show es.length - 256 = 0 from by omega]; rfl
theorem win_push {es : List Ent} (e : Ent) (h : 256 ≤ es.length) : win (es ++ [e]) = (win es ++ [e]).drop 1 := by
  unfold win
  rw [List.length_append, List.length_singleton, show es.length + 1 - 256 = es.length - 256 + 1 from by omega, ← List.drop_drop, List.drop_append_of_le_length (Nat.sub_le _ _)]
theorem rows_drop (es : List Ent) : (rows es).drop 5 = rows (es.drop 1) := by
  cases es with
  | nil => rfl
  | cons e es =>
    unfold rows
    rw [List.flatMap_cons, List.drop_left' (by simp [Ent.cells])]
    rfl
theorem rows_one (es : List Ent) : ∀ u ∈ rows es, u.oneCell' = true := by
  intro u hu
  obtain ⟨e, _, he⟩ := List.mem_flatMap.1 hu
  simp [Ent.cells] at he
  rcases he with rfl | rfl | rfl | rfl | rfl <;> rfl
end Pl

/-- The program's object; what was written to it is 'es', what it remembers the last 256. -/
structure WinAt (w : World) (B : Nat) (row : Option Nat) (es : List Pl.Ent) : Prop where
  lt : B < w.heap.size
  cells : CellsAt w B (Pl.repOf es) (Pl.fenOf es)
  fr : ∀ o, w.frozen? ⟨B, o, none⟩ = false
  log : ∃ v, w.cell? ⟨B, 16, none⟩ = some v ∧ w.ownsRow (B + 1) 47 5 v (Pl.win es).length (Pl.rows (Pl.win es)) ∧ v.ownBlock = row
  low : ∀ k, k < 8 → 0 ≤ Pl.fenOf es k ∧ Pl.fenOf es k ≤ es.length

theorem WinAt.row_lt {w : World} {B : Nat} {row : Option Nat} {es : List Pl.Ent} (h : WinAt w B row es) : ∀ g, row = some g → B < g ∧ g < w.heap.size := fun g hg => by
  obtain ⟨v, _, ho, hb⟩ := h.log
  exact ho.lt g (hb.trans hg)
theorem WinAt.kept {w w' : World} {B : Nat} {row : Option Nat} {es : List Pl.Ent} (h : WinAt w B row es) (hs : w.heap.size ≤ w'.heap.size)
    (h1 : w'.heap[B]? = w.heap[B]?) (h2 : ∀ g, row = some g → w'.heap[g]? = w.heap[g]?) : WinAt w' B row es := by
  have hlt := h.lt
  obtain ⟨v, hv, ho, hb⟩ := h.log
  refine ⟨by omega, ⟨fun k hk => (World.cell?_of_block h1).trans (h.cells.rep k hk), fun k hk => (World.cell?_of_block h1).trans (h.cells.fen k hk)⟩,
    fun o => (World.frozen?_of_block h1).trans (h.fr o), ⟨v, (World.cell?_of_block h1).trans hv, ⟨ho.1, ?_⟩, hb⟩, h.low⟩
  rcases ho.2 with hn | ⟨g, cap, cur, hvg, hbg, hg, rest⟩
  · exact .inl hn
  · refine .inr ⟨g, cap, cur, hvg, hbg, ?_, rest⟩
    rw [h2 g (by rw [← hb, hvg]; rfl)]; exact hg
theorem WinAt.below {w w' : World} {B : Nat} {row : Option Nat} {es : List Pl.Ent} (h : WinAt w B row es) (hb : Below w.heap.size w w') : WinAt w' B row es :=
  h.kept hb.size (hb.block B h.lt) (fun g hg => hb.block g (h.row_lt g hg).2)
theorem WinAt.beside {w w' : World} {B M : Nat} {row row' : Option Nat} {es : List Pl.Ent} (h : WinAt w B row es) (t : Turned w w' M row') (hB : B ≠ M) (h1 : some B ≠ row')
    (h2 : row ≠ some M) (h3 : ∀ g, row = some g → row' ≠ some g) : WinAt w' B row es :=
  h.kept t.size (t.same B h.lt hB h1) (fun g hg => t.same g (h.row_lt g hg).2 (fun e => h2 (by rw [hg, e])) (fun e => h3 g hg e.symm))
theorem RefAt.beside {w w' : World} {B M : Nat} {row row' : Option Nat} {es : List Pl.Ent} (h : RefAt w M row es) (t : Turned w w' B row') (hB : M ≠ B) (h1 : some M ≠ row')
    (h2 : row ≠ some B) (h3 : ∀ g, row = some g → row' ≠ some g) : RefAt w' M row es :=
  h.kept t.size (t.same M h.lt hB h1) (fun g hg => t.same g (h.row_lt g hg).2 (fun e => h2 (by rw [hg, e])) (fun e => h3 g hg e.symm))

theorem new_win (w : World) : Calls Try.prog 7 #[] w fun e w' => e = .returned (.pointer (some ⟨w.heap.size, 0, none⟩)) ∧ Below w.heap.size w w' ∧ w'.heap.size = w.heap.size + 1 ∧ WinAt w' w.heap.size none [] := by
  refine (new_log w).mono ?_
  rintro e w' ⟨rfl, hb, hs, A⟩
  exact ⟨rfl, hb, hs, A.lt, A.cells, A.fr, A.log, A.low⟩

theorem read_win (B k : Nat) (row : Option Nat) (es : List Pl.Ent) (w : World) (hk : k < 8) (h : WinAt w B row es) :
    Calls Try.prog 8 #[.pointer (some ⟨B, 0, none⟩), .int .i64 k] w fun e w' => e = .returned (.tuple #[.int .i64 (Pl.repOf es k), .int .i64 (Pl.fenOf es k), .int .i64 0]) ∧ Below w.heap.size w w' :=
  read_ok B k _ _ w hk h.lt h.cells

theorem write_win (B : Nat) (row : Option Nat) (es : List Pl.Ent) (x f r b : Int) (w : World) (h : WinAt w B row es) (hn : es.length ≤ 1000) :
    Calls Try.prog 9 #[.pointer (some ⟨B, 0, none⟩), .int .i64 x, .int .i64 f, .int .i64 r, .int .i64 b] w fun e w' => e = .returned (.int .i64 (Pl.code (Pl.fenOf es) x f r b)) ∧
      ∃ row', WinAt w' B row' (Pl.es' es x f r b) ∧ Turned w w' B row ∧ (row' = row ∨ ∃ g, row' = some g ∧ w.heap.size ≤ g) := by
  have refuse : ∀ (c : Int), Pl.code (Pl.fenOf es) x f r b = c → c ≠ 0 → ∀ e w', (e = Ending.returned (.int .i64 c) ∧ Below w.heap.size w w') →
      e = .returned (.int .i64 (Pl.code (Pl.fenOf es) x f r b)) ∧ ∃ row', WinAt w' B row' (Pl.es' es x f r b) ∧ Turned w w' B row ∧ (row' = row ∨ ∃ g, row' = some g ∧ w.heap.size ≤ g) := by
    rintro c hc h0 e w' ⟨rfl, hb⟩
    refine ⟨by rw [hc], row, ?_, turned_below hb, .inl rfl⟩
    rw [show Pl.es' es x f r b = es from by unfold Pl.es'; rw [if_neg (by rw [hc]; exact h0)]]
    exact h.below hb
  cases h0 : Pl.inB x 0 7 with
  | false => exact (write_work B x f r b w h0).mono (refuse 2 (by unfold Pl.code; rw [if_pos h0]) (by decide))
  | true =>
    obtain ⟨x0, x7⟩ := (Pl.inB_iff _ _ _).1 h0
    obtain ⟨k, rfl⟩ := Int.eq_ofNat_of_zero_le x0
    have hk : k < 8 := by omega
    cases h1 : (Pl.inB r 0 1000 && Pl.inB b 0 7) with
    | false => exact (write_arg B k f r b w hk h1).mono (refuse 2 (by unfold Pl.code; rw [if_neg (by rw [h0]; decide), if_pos h1]) (by decide))
    | true =>
      simp only [Bool.and_eq_true] at h1
      cases h2 : (Pl.fenOf es k != f) with
      | true => exact (write_fence B k f r b _ _ w hk h.lt h.cells h1.1 h1.2 h2).mono (refuse 13 (by unfold Pl.code; rw [if_neg (by rw [h0]; decide), if_neg (by rw [h1.1, h1.2]; decide), if_pos (by simpa using h2)]) (by decide))
      | false =>
        have hc : Pl.code (Pl.fenOf es) k f r b = 0 := by unfold Pl.code; rw [if_neg (by rw [h0]; decide), if_neg (by rw [h1.1, h1.2]; decide), if_neg (by simpa using h2)]
        obtain ⟨v, hv, ho, hb⟩ := h.log
        have hl := h.low k hk
        have he : Pl.es' es k f r b = es ++ [⟨k, Pl.fenOf es k + 1, Pl.repOf es k, r, b⟩] := by unfold Pl.es'; rw [if_pos hc]; rfl
        have fin : ∀ e w', (e = Ending.returned (.int .i64 0) ∧ ∃ v', Wrote w w' B k (Pl.win (es ++ [⟨k, Pl.fenOf es k + 1, Pl.repOf es k, r, b⟩])).length r (Pl.repOf es) (Pl.fenOf es) v.ownBlock v' (Pl.rows (Pl.win (es ++ [⟨k, Pl.fenOf es k + 1, Pl.repOf es k, r, b⟩])))) →
            e = .returned (.int .i64 (Pl.code (Pl.fenOf es) k f r b)) ∧ ∃ row', WinAt w' B row' (Pl.es' es k f r b) ∧ Turned w w' B row ∧ (row' = row ∨ ∃ g, row' = some g ∧ w.heap.size ≤ g) := by
          rintro e w' ⟨rfl, v', W⟩
          refine ⟨by rw [hc], v'.ownBlock, ?_, ⟨W.size, ?_, W.rest⟩, ?_⟩
          · rw [he]
            refine ⟨Nat.lt_of_lt_of_le h.lt W.size, ?_, W.fr, ⟨v', W.cv, W.own, rfl⟩, fun i hi => ?_⟩
            · rw [Pl.repOf_append, Pl.fenOf_append]; exact W.cells
            · have := h.low i hi
              rw [Pl.fenOf_append, List.length_append]
              unfold upd
              simp only [List.length_singleton]
              split
              · omega
              · omega
          · intro i hi hiB hir; exact W.same i hi hiB (by rw [hb]; exact hir)
          · rw [← hb]; exact W.at'
        by_cases hlen : es.length ≤ 255
        · rw [Pl.win_small (by omega)] at ho
          refine (write_ok B k es.length f r b _ _ v (Pl.rows es) w hk h.lt h.cells h1.1 h1.2 h2 hl.1 (by omega) hv h.fr ho hlen).mono ?_
          rintro e w' ⟨rfl, v', W⟩
          refine fin _ _ ⟨rfl, v', ?_⟩
          rw [Pl.win_small (by simp; omega), Pl.rows_append, List.length_append]
          exact W
        · have hw : (Pl.win es).length = 256 := by rw [Pl.win_length]; omega
          refine (write_full B k (Pl.win es).length f r b _ _ v (Pl.rows (Pl.win es)) w hk h.lt h.cells h1.1 h1.2 h2 hl.1 (by omega) hv h.fr ho hw (Pl.rows_one _)).mono ?_
          rintro e w' ⟨rfl, v', W⟩
          refine fin _ _ ⟨rfl, v', ?_⟩
          rw [Pl.win_push _ (by omega), ← Pl.rows_drop, Pl.rows_append, List.length_drop, List.length_append, List.length_singleton, Nat.add_sub_cancel]
          exact W

theorem ref_write (M : Nat) (row : Option Nat) (es : List Pl.Ent) (x f r b : Int) (w : World) (h : RefAt w M row es) (hn : es.length ≤ 1000) :
    Calls Try.prog 10 #[.pointer (some ⟨M, 0, none⟩), .int .i64 x, .int .i64 f, .int .i64 r, .int .i64 b] w fun e w' => e = .returned (.int .i64 (Pl.code (Pl.fenOf es) x f r b)) ∧
      ∃ row', RefAt w' M row' (Pl.es' es x f r b) ∧ Turned w w' M row ∧ (row' = row ∨ ∃ g, row' = some g ∧ w.heap.size ≤ g) := by
  have refuse : ∀ (c : Int), Pl.code (Pl.fenOf es) x f r b = c → c ≠ 0 → ∀ e w', (e = Ending.returned (.int .i64 c) ∧ w = w') →
      e = .returned (.int .i64 (Pl.code (Pl.fenOf es) x f r b)) ∧ ∃ row', RefAt w' M row' (Pl.es' es x f r b) ∧ Turned w w' M row ∧ (row' = row ∨ ∃ g, row' = some g ∧ w.heap.size ≤ g) := by
    rintro c hc h0 e w' ⟨rfl, rfl⟩
    refine ⟨by rw [hc], row, ?_, turned_below (Below.refl _ _), .inl rfl⟩
    rw [show Pl.es' es x f r b = es from by unfold Pl.es'; rw [if_neg (by rw [hc]; exact h0)]]
    exact h
  cases h0 : Pl.inB x 0 7 with
  | false => exact (ref_arg M x f r b w (by rw [h0]; rfl)).mono (refuse 2 (by unfold Pl.code; rw [if_pos h0]) (by decide))
  | true =>
    obtain ⟨x0, x7⟩ := (Pl.inB_iff _ _ _).1 h0
    obtain ⟨k, rfl⟩ := Int.eq_ofNat_of_zero_le x0
    have hk : k < 8 := by omega
    cases h1 : (Pl.inB r 0 1000 && Pl.inB b 0 7) with
    | false => exact (ref_arg M k f r b w (by rw [h0, h1]; rfl)).mono (refuse 2 (by unfold Pl.code; rw [if_neg (by rw [h0]; decide), if_pos h1]) (by decide))
    | true =>
      simp only [Bool.and_eq_true] at h1
      obtain ⟨r0, r1⟩ := (Pl.inB_iff _ _ _).1 h1.1
      obtain ⟨b0, b1⟩ := (Pl.inB_iff _ _ _).1 h1.2
      cases h2 : (Pl.fenOf es k != f) with
      | true => exact (ref_fence M k f r b _ w hk r0 r1 b0 b1 (h.fen k hk) h2).mono (refuse 13 (by unfold Pl.code; rw [if_neg (by rw [h0]; decide), if_neg (by rw [h1.1, h1.2]; decide), if_pos (by simpa using h2)]) (by decide))
      | false =>
        have hc : Pl.code (Pl.fenOf es) k f r b = 0 := by unfold Pl.code; rw [if_neg (by rw [h0]; decide), if_neg (by rw [h1.1, h1.2]; decide), if_neg (by simpa using h2)]
        have he : Pl.es' es k f r b = es ++ [⟨k, Pl.fenOf es k + 1, Pl.repOf es k, r, b⟩] := by unfold Pl.es'; rw [if_pos hc]; rfl
        refine (ref_ok M k f r b row es w hk h r0 r1 b0 b1 h2 hn).mono ?_
        rintro e w' ⟨rfl, row', R, T, hr⟩
        exact ⟨by rw [hc], row', by rw [he]; exact R, T, hr⟩
end Go.Proofs.Ytjkaegdlpmpneaa
