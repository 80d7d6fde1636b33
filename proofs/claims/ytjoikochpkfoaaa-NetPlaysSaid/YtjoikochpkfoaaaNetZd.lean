/- NetPlays: what its loop keeps. -/
import Derived.Test.YtjoikochpkfoaaaNetZc
namespace Go.Proofs.Ytjoikochpkfoaaa
open Go.RowKit
set_option linter.unusedVariables false

theorem NetAt.keep {w w' : World} {N mb : Nat} {row : Option Nat} {es : List Pl.Ent} {T : Pl.Off} (h : NetAt w N row mb es T) (h1 : w'.heap[N]? = w.heap[N]?) (h0 : w'.heap[mb]? = w.heap[mb]?) (h2 : ∀ g, row = some g → w'.heap[g]? = w.heap[g]?) (h3 : ∀ e ∈ es, BytesT w' e.bv e.bs) : NetAt w' N row mb es T := by
  obtain ⟨v, hr, ho, hv⟩ := h.obj
  exact ⟨⟨v, hr.of_block h1, ownsRow_of ho (fun g hg => h2 g (hv ▸ hg)), hv⟩, h.mp.of_block h0, h3⟩
/-- The blocks that are the net's own. -/
theorem NetAt.blocks {w : World} {N mb : Nat} {row : Option Nat} {es : List Pl.Ent} {T : Pl.Off} (h : NetAt w N row mb es T) : (∃ cs fr, w.heap[N]? = some (Obj.cells cs 59 fr)) ∧ (∃ me c, w.heap[mb]? = some (Obj.map me c)) ∧ ∀ g, row = some g → ∃ cs fr, w.heap[g]? = some (Obj.cells cs 31 fr) := by
  obtain ⟨v, ⟨c, hc, _⟩, ho, hv⟩ := h.obj
  obtain ⟨e, cl, hm, _⟩ := h.mp
  refine ⟨⟨c, _, hc⟩, ⟨e, cl, hm⟩, fun g hg => ?_⟩
  obtain ⟨cs, hcs⟩ := own_cells ho (hv.trans hg)
  exact ⟨cs, _, hcs⟩
theorem RefAt.blocks {w : World} {M : Nat} {row : Option Nat} {es : List Pl.Ent} {T : Pl.Off} (h : RefAt w M row es T) : (∃ cs fr, w.heap[M]? = some (Obj.cells cs 49 fr)) ∧ ∀ g, row = some g → ∃ cs fr, w.heap[g]? = some (Obj.cells cs 41 fr) := by
  obtain ⟨v, off, ⟨c, hc, _⟩, ho, hv, _⟩ := h.obj
  refine ⟨⟨c, _, hc⟩, fun g hg => ?_⟩
  obtain ⟨cs, hcs⟩ := own_cells ho (hv.trans hg)
  exact ⟨cs, _, hcs⟩
theorem StepR.cells {w w' : World} {M : Nat} {row : Option Nat} {es es' : List Pl.Ent} {T T' : Pl.Off} (h : RefAt w M row es T) (S : StepR w w' M row es' T') {g : Nat} {t : TypeId} {cs : Array Value} {fr : Nat × Nat} (hg : w.heap[g]? = some (Obj.cells cs t fr)) (h1 : t ≠ 49) (h2 : t ≠ 41) : w'.heap[g]? = some (Obj.cells cs t fr) := by
  obtain ⟨n1, n2⟩ := h.cells_ne hg h1 h2
  obtain ⟨row', _, t', _⟩ := S
  exact (t'.same g (Array.getElem?_eq_some_iff.1 hg).1 n1 n1 n2).trans hg
theorem StepR.keepB {w w' : World} {M : Nat} {row : Option Nat} {es es' : List Pl.Ent} {T T' : Pl.Off} (h : RefAt w M row es T) (S : StepR w w' M row es' T') : KeepB w w' := by
  obtain ⟨row', _, t', _⟩ := S
  exact h.keepB t'

/-- Both nets, side by side. -/
structure Two (w0 w : World) (N mb M : Nat) (row rrow : Option Nat) (es fs : List Pl.Ent) (T U : Pl.Off) : Prop where
  a : NetAt w N row mb es T
  b : RefAt w M rrow fs U
  l1 : w0.heap.size ≤ N
  l2 : w0.heap.size ≤ mb
  l3 : w0.heap.size ≤ M
  bel : Below w0.heap.size w0 w
theorem Two.below {w0 w w' : World} {N mb M : Nat} {row rrow : Option Nat} {es fs : List Pl.Ent} {T U : Pl.Off} (h : Two w0 w N mb M row rrow es fs T U) (hb : Below w.heap.size w w') : Two w0 w' N mb M row rrow es fs T U :=
  ⟨h.a.below hb, h.b.below hb, h.l1, h.l2, h.l3, h.bel.trans (hb.mono h.bel.size)⟩
theorem Two.step {w0 w w' : World} {N mb M : Nat} {row rrow : Option Nat} {es es' fs : List Pl.Ent} {T T' U : Pl.Off} (h : Two w0 w N mb M row rrow es fs T U) (S : Step w w' N row mb es' T') : ∃ row', Two w0 w' N mb M row' rrow es' fs T' U := by
  obtain ⟨row', A, t, hr⟩ := id S
  obtain ⟨⟨c1, r1, h1⟩, h2⟩ := h.b.blocks
  refine ⟨row', A, h.b.keep ((Step.cells h.a S h1 (by decide) (by decide)).trans h1.symm) (fun g hg => ?_) (fun e he => (h.b.bodies e he).keep (Step.keepB h.a S)), h.l1, h.l2, h.l3, t.below h.bel h.l1 h.l2 (fun g hg => by have := (h.a.row_lt g hg).1; have := h.l1; omega)⟩
  obtain ⟨cs, fr, hc⟩ := h2 g hg
  exact (Step.cells h.a S hc (by decide) (by decide)).trans hc.symm
theorem Two.stepR {w0 w w' : World} {N mb M : Nat} {row rrow : Option Nat} {es fs fs' : List Pl.Ent} {T U U' : Pl.Off} (h : Two w0 w N mb M row rrow es fs T U) (S : StepR w w' M rrow fs' U') : ∃ rrow', Two w0 w' N mb M row rrow' es fs' T U' := by
  obtain ⟨rrow', B, t, hr⟩ := id S
  obtain ⟨⟨c1, r1, h1⟩, ⟨me, cl, h2⟩, h3⟩ := h.a.blocks
  have hm := h.b.map_ne h2
  refine ⟨rrow', h.a.keep ((StepR.cells h.b S h1 (by decide) (by decide)).trans h1.symm) (t.same mb h.a.mb_lt hm.1 hm.1 hm.2) (fun g hg => ?_) (fun e he => (h.a.bodies e he).keep (StepR.keepB h.b S)), B, h.l1, h.l2, h.l3, t.below h.bel h.l3 h.l3 (fun g hg => by have := (h.b.row_lt g hg).1; have := h.l3; omega)⟩
  obtain ⟨cs, fr, hc⟩ := h3 g hg
  exact (StepR.cells h.b S hc (by decide) (by decide)).trans hc.symm

/-- Some blocks alone are written to. -/
structure Inc (P : Nat → Prop) (w w' : World) : Prop where
  size : w'.heap.size = w.heap.size
  same : ∀ g, ¬ P g → w'.heap[g]? = w.heap[g]?
  rest : w'.os = w.os ∧ w'.tape = w.tape ∧ w'.output = w.output
theorem Inc.refl (P : Nat → Prop) (w : World) : Inc P w w := ⟨rfl, fun _ _ => rfl, rfl, rfl, rfl⟩
theorem Inc.set {P : Nat → Prop} {w w' : World} {g i : Nat} (h : Inc P w w') (hg : P g) (v : Value) : Inc P w (w'.setCell ⟨g, i, none⟩ v) :=
  ⟨(by simp [World.setCell, h.size]), fun x hx => (Below.heap_setCell _ _ _ _ (fun e => hx (by rw [show x = g from e]; exact hg))).trans (h.same x hx), h.rest⟩
theorem BytesT.lt {w : World} {v : Value} {bs : List Int} (h : BytesT w v bs) (hb : bs ≠ []) : ∀ g, v.ownBlock = some g → g < w.heap.size := by
  obtain ⟨ao, cap, rfl, h0, h⟩ := h
  intro g hg
  obtain ⟨g', off, cs, fr, h1, h2, h3⟩ := h 0 (List.length_pos_iff.2 hb)
  subst h1
  have : g' = g := by simpa [Value.ownBlock] using hg
  subst this
  exact (Array.getElem?_eq_some_iff.1 h2).1
theorem BytesT.inc {P : Nat → Prop} {w w' : World} {v : Value} {bs : List Int} (h : BytesT w v bs) (I : Inc P w w') (hp : bs ≠ [] → ∀ g, v.ownBlock = some g → ¬ P g) : BytesT w' v bs := by
  obtain ⟨ao, cap, rfl, h0, h⟩ := h
  refine ⟨ao, cap, rfl, h0, fun i hi => ?_⟩
  obtain ⟨g, off, cs, fr, h1, h2, h3⟩ := h i hi
  refine ⟨g, off, cs, fr, h1, (I.same g (hp (fun e => by subst e; simp at hi) g (by rw [h1]; rfl))).trans h2, h3⟩
theorem Two.inc {P : Nat → Prop} {w0 w w' : World} {N mb M : Nat} {row rrow : Option Nat} {es fs : List Pl.Ent} {T U : Pl.Off} (h : Two w0 w N mb M row rrow es fs T U) (I : Inc P w w') (hP : ∀ g, P g → w0.heap.size ≤ g ∧ ∃ cs fr, w.heap[g]? = some (Obj.cells cs 5 fr))
    (h1 : ∀ e ∈ es, e.bs ≠ [] → ∀ g, e.bv.ownBlock = some g → ¬ P g) (h2 : ∀ e ∈ fs, e.bs ≠ [] → ∀ g, e.bv.ownBlock = some g → ¬ P g) : Two w0 w' N mb M row rrow es fs T U := by
  have na : ∀ g, P g → g ≠ N ∧ g ≠ mb ∧ some g ≠ row := fun g hg => by
    obtain ⟨_, cs, fr, hc⟩ := hP g hg
    exact h.a.cells_ne hc (by decide) (by decide)
  have nb : ∀ g, P g → g ≠ M ∧ some g ≠ rrow := fun g hg => by
    obtain ⟨_, cs, fr, hc⟩ := hP g hg
    exact h.b.cells_ne hc (by decide) (by decide)
  refine ⟨h.a.keep (I.same _ (fun hx => (na _ hx).1 rfl)) (I.same _ (fun hx => (na _ hx).2.1 rfl)) (fun g hg => I.same _ (fun hx => (na _ hx).2.2 hg.symm)) (fun e he => (h.a.bodies e he).inc I (h1 e he)),
    h.b.keep (I.same _ (fun hx => (nb _ hx).1 rfl)) (fun g hg => I.same _ (fun hx => (nb _ hx).2 hg.symm)) (fun e he => (h.b.bodies e he).inc I (h2 e he)), h.l1, h.l2, h.l3, ?_⟩
  refine ⟨I.rest.1.trans h.bel.os, I.rest.2.1.trans h.bel.tape, I.rest.2.2.trans h.bel.output, by rw [I.size]; exact h.bel.size, fun i hi => ?_⟩
  exact (I.same i (fun hx => by have := (hP i hx).1; omega)).trans (h.bel.block i hi)

/-- The blocks of two slices. -/
def Pb (u v : Value) (g : Nat) : Prop := u.ownBlock = some g ∨ v.ownBlock = some g
/-- Bytes that may be written to. -/
def IncAt (w : World) (v : Value) : Prop := ∃ ao n cap, v = .slice ao n cap ∧ ∀ i, i < n → ∃ g f c, ao = some ⟨g, 0, none⟩ ∧ w.rowIs g 5 c f ∧ n ≤ c ∧ ∀ i, i < n → ∃ x, f i = .int .u8 x
theorem IncAt.of_own {base : Nat} {w : World} {v : Value} {bs : List Int} (h : OwnB base w v bs) : IncAt w v := by
  have h' : w.ownsRow base 5 1 v bs.length (Pl.u8s bs) := h
  rcases h'.2 with ⟨rfl, h0⟩ | ⟨g, cap, cur, rfl, hb, hg, hc, hm, hs, ht⟩
  · exact ⟨none, 0, 0, rfl, fun i hi => absurd hi (by omega)⟩
  · refine ⟨_, _, _, rfl, fun i hi => ⟨g, _, cap, rfl, rowIs_of_block hg (by omega), hc, fun i hi => ?_⟩⟩
    have h2 : (Pl.u8s bs)[i]? = cur.toList[i]? := by rw [← ht, List.getElem?_take, if_pos (by omega)]
    refine ⟨bs[i], ?_⟩
    simp only [← Array.getElem?_toList, ← h2]
    unfold Pl.u8s; rw [List.getElem?_map, List.getElem?_eq_getElem hi]; rfl
theorem IncAt.of_same {w w' : World} {v : Value} (h : IncAt w v) (hb : ∀ g, v.ownBlock = some g → w'.heap[g]? = w.heap[g]?) : IncAt w' v := by
  obtain ⟨ao, n, cap, rfl, h⟩ := h
  refine ⟨ao, n, cap, rfl, fun i hi => ?_⟩
  obtain ⟨g, f, c, rfl, hr, hn, hx⟩ := h i hi
  exact ⟨g, f, c, rfl, hr.of_block (hb g rfl), hn, hx⟩
theorem IncAt.set {w : World} {v : Value} (h : IncAt w v) (g i : Nat) (y : Int) : IncAt (w.setCell ⟨g, i, none⟩ (.int .u8 y)) v := by
  obtain ⟨ao, n, cap, rfl, h⟩ := h
  refine ⟨ao, n, cap, rfl, fun j hj => ?_⟩
  obtain ⟨g', f, c, rfl, hr, hn, hx⟩ := h j hj
  by_cases e : g' = g
  · subst e
    refine ⟨g', _, c, rfl, hr.set i _, hn, fun k hk => ?_⟩
    by_cases e2 : k = i
    · exact ⟨y, by simp [e2]⟩
    · obtain ⟨x, hx⟩ := hx k hk
      exact ⟨x, by simp [e2, hx]⟩
  · exact ⟨g', f, c, rfl, hr.of_block (Below.heap_setCell _ _ _ _ e), hn, hx⟩
theorem IncAt.cell {w : World} {ao : Option Addr} {n cap i : Nat} (h : IncAt w (.slice ao n cap)) (hi : i < n) : ∃ g x, ao = some ⟨g, 0, none⟩ ∧ w.cell? ⟨g, i, none⟩ = some (.int .u8 x) ∧ w.frozen? ⟨g, i, none⟩ = false := by
  obtain ⟨ao', n', cap', e, h⟩ := h
  cases e
  obtain ⟨g, f, c, rfl, hr, hn, hx⟩ := h i hi
  obtain ⟨x, hx⟩ := hx i hi
  exact ⟨g, x, rfl, by rw [hr.cell (show i < c by omega), hx], hr.frozen i⟩

namespace Pl
/-- What a step leaves on its way is no more than may be. -/
structure Fine (ps : List Pk) : Prop where
  len : ps.length ≤ 64
  small : ∀ p ∈ ps, p.bs.length ≤ 4096
theorem Fine.drop {ps : List Pk} (h : Fine ps) (A : Int) (T : Off) : Fine (dropF A ps T).ps := by
  unfold dropF
  split
  · exact h
  · split
    · exact h
    · exact ⟨Nat.le_trans (less_len _ _) h.len, fun p hp => h.small p (less_mem hp)⟩
theorem Fine.step {ps : List Pk} (h : Fine ps) (K A B : Int) (bs : List Int) (T : Off) : Fine (doF K A B bs ps T).ps := by
  unfold doF
  split
  · unfold sendF
    split
    · exact h
    · split
      · exact h
      · split
        · exact h
        · refine ⟨by simp; omega, fun p hp => ?_⟩
          rcases List.mem_append.1 hp with hp | hp
          · exact h.small p hp
          · obtain rfl := List.mem_singleton.1 hp
            show bs.length ≤ 4096
            omega
  · split
    · exact h.drop A T
    · split
      · rw [(copyF_ps A ps T).1]; exact h
      · split
        · exact h.drop A T
        · split
          · rw [(partF_ps A B true ps T).1]; exact h
          · split
            · rw [(partF_ps A B false ps T).1]; exact h
            · exact h
/-- What is handed over is small. -/
theorem Fine.pk {ps : List Pk} (h : Fine ps) (K A B : Int) (bs : List Int) (T : Off) : (doF K A B bs ps T).pk.bs.length ≤ 4096 := by
  have hc : ∀ A, (copyF A ps T).pk.bs.length ≤ 4096 := fun A => by
    unfold copyF
    split
    · exact Nat.zero_le _
    · split
      · exact Nat.zero_le _
      · rename_i p hp
        split
        · exact Nat.zero_le _
        · exact h.small p (List.mem_of_getElem? hp)
  unfold doF
  split
  · rw [(sendF_pk A B bs ps T).1]; exact Nat.zero_le _
  · split
    · exact hc A
    · split
      · exact hc A
      · split
        · rw [(dropF_pk A ps T).1]; exact Nat.zero_le _
        · split
          · rw [(partF_ps A B true ps T).2]; exact Nat.zero_le _
          · split
            · rw [(partF_ps A B false ps T).2]; exact Nat.zero_le _
            · exact Nat.zero_le _
end Pl
theorem Fine.ents {es : List Pl.Ent} (h : Pl.Fine (Pl.abs es)) : es.length ≤ 64 ∧ ∀ e ∈ es, e.bs.length ≤ 4096 :=
  ⟨by have := h.len; rw [Pl.abs_len] at this; exact this, fun e he => h.small e.pk (List.mem_map.2 ⟨e, he, rfl⟩)⟩

end Go.Proofs.Ytjoikochpkfoaaa
