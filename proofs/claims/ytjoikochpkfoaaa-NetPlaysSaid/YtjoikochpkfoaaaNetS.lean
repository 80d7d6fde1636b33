/- NetHands: the plain law; what its loop keeps. -/
import Derived.Test.YtjoikochpkfoaaaNetR
namespace Go.Proofs.Ytjoikochpkfoaaa
open Go.RowKit
set_option linter.unusedVariables false

namespace Pl
/-- What is on its way was sent, and is no more than may be. -/
structure Inv (ps ss : List Pk) : Prop where
  len : ps.length ≤ 64
  sent : ∀ p ∈ ps, p ∈ ss
theorem less_mem {ps : List Pk} {i : Nat} {p : Pk} (h : p ∈ less ps i) : p ∈ ps := by
  unfold less at h
  rcases List.mem_append.1 h with h | h
  · exact List.mem_of_mem_take h
  · exact List.mem_of_mem_drop h
theorem less_len (ps : List Pk) (i : Nat) : (less ps i).length ≤ ps.length := by
  unfold less; rw [List.length_append, List.length_take, List.length_drop]; omega
theorem Inv.drop {ps ss : List Pk} (h : Inv ps ss) (A : Int) (T : Off) : Inv (dropF A ps T).ps ss := by
  unfold dropF
  split
  · exact h
  · split
    · exact h
    · exact ⟨Nat.le_trans (less_len _ _) h.len, fun p hp => h.sent p (less_mem hp)⟩
theorem Inv.send {ps ss : List Pk} (h : Inv ps ss) (A B : Int) (bs : List Int) (T : Off) : Inv (sendF A B bs ps T).ps (if (sendF A B bs ps T).err = 0 then ss ++ [⟨A, B, bs⟩] else ss) ∧ ((sendF A B bs ps T).err = 0 → bs.length ≤ 4096) := by
  unfold sendF
  split
  · exact ⟨h, fun e => by cases e⟩
  · split
    · exact ⟨h, fun e => by cases e⟩
    · split
      · exact ⟨h, fun e => by cases e⟩
      · refine ⟨⟨?_, fun p hp => ?_⟩, fun _ => by omega⟩
        · simp; omega
        · rw [if_pos rfl]
          rcases List.mem_append.1 hp with hp | hp
          · exact List.mem_append_left _ (h.sent p hp)
          · exact List.mem_append_right _ hp
theorem copy_sent {ps ss : List Pk} (h : Inv ps ss) (A : Int) (T : Off) (he : (copyF A ps T).err = 0) : (copyF A ps T).pk ∈ ss ∧ parted T (copyF A ps T).pk.frm (copyF A ps T).pk.to = false := by
  unfold copyF at he ⊢
  split at he
  · cases he
  · rename_i hA
    rw [if_neg hA]
    split at he
    · cases he
    · rename_i p hp
      split at he
      · cases he
      · rename_i hq
        rw [if_neg hq]
        exact ⟨h.sent p (List.mem_of_getElem? hp), by simpa using hq⟩
theorem pair_comm (a b : Int) : pair a b = pair b a := by unfold pair; rw [Int.min_comm, Int.max_comm]
theorem parted_comm (T : Off) (a b : Int) : parted T a b = parted T b a := by unfold parted; rw [pair_comm, Int.min_comm, Int.max_comm]

/-- What is sent behind a step. -/
def sent' (K A B : Int) (bs : List Int) (ps : List Pk) (T : Off) (ss : List Pk) : List Pk := if K = 1 ∧ (doF K A B bs ps T).err = 0 then ss ++ [⟨A, B, bs⟩] else ss
theorem Inv.step {ps ss : List Pk} (h : Inv ps ss) (K A B : Int) (bs : List Int) (T : Off) : Inv (doF K A B bs ps T).ps (sent' K A B bs ps T ss) ∧ (K = 1 → (doF K A B bs ps T).err = 0 → bs.length ≤ 4096) := by
  unfold sent'
  by_cases k1 : K = 1
  · subst k1
    have e : doF 1 A B bs ps T = sendF A B bs ps T := by unfold doF; rw [if_pos rfl]
    rw [e]
    obtain ⟨h1, h2⟩ := h.send A B bs T
    refine ⟨?_, fun _ => h2⟩
    by_cases h0 : (sendF A B bs ps T).err = 0
    · rw [if_pos ⟨rfl, h0⟩]; rw [if_pos h0] at h1; exact h1
    · rw [if_neg (fun x => h0 x.2)]; rw [if_neg h0] at h1; exact h1
  · rw [if_neg (fun x => k1 x.1)]
    refine ⟨?_, fun x => absurd x k1⟩
    unfold doF
    rw [if_neg k1]
    split
    · exact h.drop A T
    · split
      · rw [(copyF_ps A ps T).1]; exact h
      · split
        · exact h.drop A T
        · split
          · rw [(partF_ps A B true ps T).1]; exact h
          · split
            · rw [(partF_ps A B false ps T).1]; exact h
            · exact h
theorem handed {ps ss : List Pk} (h : Inv ps ss) (K A B : Int) (bs : List Int) (T : Off) (hk : K = 2 ∨ K = 3) (he : (doF K A B bs ps T).err = 0) : (doF K A B bs ps T).pk ∈ ss ∧ parted (doF K A B bs ps T).T (doF K A B bs ps T).pk.frm (doF K A B bs ps T).pk.to = false := by
  rcases hk with rfl | rfl
  · have e : doF 2 A B bs ps T = takeF A ps T := by unfold doF; rw [if_neg (by decide), if_pos rfl]
    rw [e] at he ⊢
    exact copy_sent h A T he
  · have e : doF 3 A B bs ps T = copyF A ps T := by unfold doF; rw [if_neg (by decide), if_neg (by decide), if_pos rfl]
    rw [e] at he ⊢
    rw [(copyF_ps A ps T).2]
    exact copy_sent h A T he
end Pl

/-- A block of cells of another type is none of the net's own. -/
theorem NetAt.cells_ne {w : World} {N mb : Nat} {row : Option Nat} {es : List Pl.Ent} {T : Pl.Off} (h : NetAt w N row mb es T) {g : Nat} {t : TypeId} {cs : Array Value} {fr : Nat × Nat} (hg : w.heap[g]? = some (Obj.cells cs t fr)) (h1 : t ≠ 59) (h2 : t ≠ 31) : g ≠ N ∧ g ≠ mb ∧ some g ≠ row := by
  obtain ⟨v, ⟨c, hc, _⟩, ho, hb⟩ := h.obj
  obtain ⟨e, cl, hm, _⟩ := h.mp
  refine ⟨?_, ?_, ?_⟩
  · rintro rfl; rw [hc] at hg; cases hg; exact h1 rfl
  · rintro rfl; rw [hm] at hg; cases hg
  · intro e
    obtain ⟨cs', hc'⟩ := own_cells ho (hb.trans e.symm)
    rw [hc'] at hg; cases hg; exact h2 rfl
theorem Step.cells {w w' : World} {N mb : Nat} {row : Option Nat} {es es' : List Pl.Ent} {T T' : Pl.Off} (h : NetAt w N row mb es T) (S : Step w w' N row mb es' T') {g : Nat} {t : TypeId} {cs : Array Value} {fr : Nat × Nat} (hg : w.heap[g]? = some (Obj.cells cs t fr)) (h1 : t ≠ 59) (h2 : t ≠ 31) : w'.heap[g]? = some (Obj.cells cs t fr) := by
  obtain ⟨n1, n2, n3⟩ := h.cells_ne hg h1 h2
  obtain ⟨row', _, t', _⟩ := S
  exact (t'.same g (Array.getElem?_eq_some_iff.1 hg).1 n1 n2 n3).trans hg
theorem Step.keepB {w w' : World} {N mb : Nat} {row : Option Nat} {es es' : List Pl.Ent} {T T' : Pl.Off} (h : NetAt w N row mb es T) (S : Step w w' N row mb es' T') : KeepB w w' := by
  obtain ⟨row', _, t', _⟩ := S
  exact h.keepB t'

/-- Where the law's loop stands. -/
structure Hands (w0 w : World) (N mb : Nat) (row : Option Nat) (es : List Pl.Ent) (T : Pl.Off) (sv : Value) (ss : List Pl.Ent) : Prop where
  a : NetAt w N row mb es T
  own : w.ownsRow w0.heap.size 41 3 sv ss.length (Pl.rows ss)
  bod : ∀ s ∈ ss, BytesC w0 s.bv s.bs ∧ s.bs.length ≤ 4096
  inv : Pl.Inv (Pl.abs es) (Pl.abs ss)
  small : ∀ e ∈ es, e.bs.length ≤ 4096
  l1 : w0.heap.size ≤ N
  l2 : w0.heap.size ≤ mb
  bel : Below w0.heap.size w0 w
theorem small_of {es ss : List Pl.Ent} (h : Pl.Inv (Pl.abs es) (Pl.abs ss)) (hs : ∀ s ∈ ss, s.bs.length ≤ 4096) : ∀ e ∈ es, e.bs.length ≤ 4096 := by
  intro e he
  obtain ⟨s, hs1, hs2⟩ := List.mem_map.1 (h.sent e.pk (List.mem_map.2 ⟨e, he, rfl⟩))
  have : s.bs = e.bs := by have := congrArg Pl.Pk.bs hs2; exact this
  rw [← this]; exact hs s hs1
theorem Hands.below {w0 w w' : World} {N mb : Nat} {row : Option Nat} {es : List Pl.Ent} {T : Pl.Off} {sv : Value} {ss : List Pl.Ent} (h : Hands w0 w N mb row es T sv ss) (hb : Below w.heap.size w w') : Hands w0 w' N mb row es T sv ss :=
  ⟨h.a.below hb, ownsRow_of h.own (fun g hg => hb.block g (h.own.lt g hg).2), h.bod, h.inv, h.small, h.l1, h.l2, h.bel.trans (hb.mono h.bel.size)⟩
/-- Behind a step that sends nothing. -/
theorem Hands.step {w0 w w' : World} {N mb : Nat} {row : Option Nat} {es es' : List Pl.Ent} {T T' : Pl.Off} {sv : Value} {ss : List Pl.Ent} (h : Hands w0 w N mb row es T sv ss) (S : Step w w' N row mb es' T') (hi : Pl.Inv (Pl.abs es') (Pl.abs ss)) :
    ∃ row', Hands w0 w' N mb row' es' T' sv ss := by
  obtain ⟨row', A, t, hr⟩ := id S
  refine ⟨row', A, ownsRow_of h.own (fun g hg => ?_), h.bod, hi, small_of hi (fun s hs => (h.bod s hs).2), h.l1, h.l2, t.below h.bel h.l1 h.l2 (fun g hg => by have := (h.a.row_lt g hg).1; have := h.l1; omega)⟩
  obtain ⟨cs, hc⟩ := own_cells h.own hg
  exact (Step.cells h.a S hc (by decide) (by decide)).trans hc.symm
/-- What is left behind a step, whatever is sent. -/
theorem Hands.after {w0 w w' : World} {N mb : Nat} {row : Option Nat} {es es' : List Pl.Ent} {T T' : Pl.Off} {sv : Value} {ss : List Pl.Ent} (h : Hands w0 w N mb row es T sv ss) (S : Step w w' N row mb es' T') :
    ∃ row', NetAt w' N row' mb es' T' ∧ w'.ownsRow w0.heap.size 41 3 sv ss.length (Pl.rows ss) ∧ Below w0.heap.size w0 w' := by
  obtain ⟨row', A, t, hr⟩ := id S
  refine ⟨row', A, ownsRow_of h.own (fun g hg => ?_), t.below h.bel h.l1 h.l2 (fun g hg => by have := (h.a.row_lt g hg).1; have := h.l1; omega)⟩
  obtain ⟨cs, hc⟩ := own_cells h.own hg
  exact (Step.cells h.a S hc (by decide) (by decide)).trans hc.symm
/-- The entries of what was sent. -/
def SentsAt (w : World) (ao : Option Addr) (ss : List Pl.Ent) : Prop := ∀ i (h : i < ss.length), ∃ g, ao = some ⟨g, 0, none⟩ ∧ g < w.heap.size ∧ w.cell? ⟨g, i * 3, none⟩ = some (.int .i64 (ss[i]).frm) ∧ w.cell? ⟨g, i * 3 + 1, none⟩ = some (.int .i64 (ss[i]).to) ∧ w.cell? ⟨g, i * 3 + 2, none⟩ = some (ss[i]).bv
theorem SentsAt.below {w w' : World} {ao : Option Addr} {ss : List Pl.Ent} (h : SentsAt w ao ss) (hb : Below w.heap.size w w') : SentsAt w' ao ss := fun i hi => by
  obtain ⟨g, h1, h2, h3, h4, h5⟩ := h i hi
  exact ⟨g, h1, Nat.lt_of_lt_of_le h2 hb.size, (hb.cell (p := ⟨g, i * 3, none⟩) h2).trans h3, (hb.cell (p := ⟨g, i * 3 + 1, none⟩) h2).trans h4, (hb.cell (p := ⟨g, i * 3 + 2, none⟩) h2).trans h5⟩
theorem sents_of {w : World} {base T : Nat} {v : Value} {ss : List Pl.Ent} (h : w.ownsRow base T 3 v ss.length (Pl.rows ss)) : ∃ ao cap, v = .slice ao ss.length cap ∧ SentsAt w ao ss := by
  rcases h.2 with ⟨rfl, h0⟩ | ⟨g, cap, cur, rfl, hb, hg, _, _, _, ht⟩
  · exact ⟨none, 0, by rw [h0], fun i hi => absurd hi (by omega)⟩
  · refine ⟨_, cap, rfl, fun i hi => ?_⟩
    have key : ∀ m, m < 3 → ∀ u, (ss[i]).cells[m]? = some u → w.cell? ⟨g, i * 3 + m, none⟩ = some u := fun m hm u hu => by
      have h1 := Pl.rows_get ss i m hi hm
      have h2 : (Pl.rows ss)[i * 3 + m]? = cur.toList[i * 3 + m]? := by rw [← ht, List.getElem?_take, if_pos (by omega)]
      have h4 := World.news_of_block hg (i * 3 + m) u (by rw [← h2, h1, hu])
      rw [Go.WideShapes.add_plain, Nat.zero_add] at h4
      exact h4
    exact ⟨g, rfl, (Array.getElem?_eq_some_iff.1 hg).1, key 0 (by decide) _ rfl, key 1 (by decide) _ rfl, key 2 (by decide) _ rfl⟩
/-- Behind a step that sends, and its append. -/
theorem Hands.push {w0 w W w' : World} {N mb : Nat} {row row' : Option Nat} {es es' : List Pl.Ent} {T T' : Pl.Off} {sv sv' : Value} {ss : List Pl.Ent} {s : Pl.Ent} (h : Hands w0 w N mb row es T sv ss) (A : NetAt W N row' mb es' T') (hW : Below w0.heap.size w0 W) (hoW : W.ownsRow w0.heap.size 41 3 sv ss.length (Pl.rows ss))
    (hg : W.grownBy w' sv.ownBlock) (ho : w'.ownsRow w0.heap.size 41 3 sv' (ss.length + 1) (Pl.rows ss ++ s.cells)) (hs : BytesC w0 s.bv s.bs) (hl : s.bs.length ≤ 4096) (hi : Pl.Inv (Pl.abs es') (Pl.abs ss ++ [s.pk])) :
    Hands w0 w' N mb row' es' T' sv' (ss ++ [s]) := by
  have ne : ∀ g cs t fr, W.heap[g]? = some (Obj.cells cs t fr) → t ≠ 41 → some g ≠ sv.ownBlock := fun g cs t fr hc ht e => by
    obtain ⟨cs', hc'⟩ := own_cells hoW e.symm
    rw [hc'] at hc; cases hc; exact ht rfl
  have hi' : Pl.Inv (Pl.abs es') (Pl.abs (ss ++ [s])) := by
    have e : Pl.abs (ss ++ [s]) = Pl.abs ss ++ [s.pk] := List.map_append
    rw [e]; exact hi
  have hbod : ∀ x ∈ ss ++ [s], BytesC w0 x.bv x.bs ∧ x.bs.length ≤ 4096 := fun x hx => by
    rcases List.mem_append.1 hx with hx | hx
    · exact h.bod x hx
    · obtain rfl := List.mem_singleton.1 hx; exact ⟨hs, hl⟩
  refine ⟨?_, by rw [Pl.rows_append, Pl.rows_one, List.length_append]; exact ho, hbod, hi', small_of hi' (fun x hx => (hbod x hx).2), h.l1, h.l2, hW.grown hg hW.size (fun g hg => (hoW.lt g hg).1)⟩
  obtain ⟨v, hr, ho', hv⟩ := A.obj
  have hmp := A.mp
  obtain ⟨c, hc, _⟩ := id hr
  obtain ⟨me, mc, hm, _⟩ := id hmp
  refine ⟨⟨v, hr.of_block (hg.block N A.lt (ne N _ _ _ hc (by decide))), ownsRow_of ho' (fun g hgg => ?_), hv⟩, hmp.of_block (hg.block mb A.mb_lt (fun e => ?_)), fun e he => (A.bodies e he).keep (fun g cs fr hgg => hg.block g (Array.getElem?_eq_some_iff.1 hgg).1 (ne g _ _ _ hgg (by decide)))⟩
  · obtain ⟨cs, hcs⟩ := own_cells ho' hgg
    exact hg.block g (Array.getElem?_eq_some_iff.1 hcs).1 (ne g _ _ _ hcs (by decide))
  · obtain ⟨cs', hc'⟩ := own_cells hoW e.symm
    rw [hc'] at hm; cases hm
end Go.Proofs.Ytjoikochpkfoaaa
