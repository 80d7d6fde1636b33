/- NetPlays: a step's own memory. -/
import Derived.Test.YtjoikochpkfoaaaNetZd
namespace Go.Proofs.Ytjoikochpkfoaaa
open Go.RowKit
set_option linter.unusedVariables false

/-- Nobody is parted, nothing is on its way. -/
def z49 : Array Value := #[.slice none 0 0] ++ Array.replicate 64 (.bool false)
theorem zero49 (w : World) : Sem.run Try.prog (zeroValue 49) w = .ok (.agg z49) w := by kernel_rfl
theorem ref_new (w : World) : RefAt (w.alloc (.cells z49 49)) w.heap.size none [] [] := by
  refine ⟨⟨.slice none 0 0, fun _ => false, ⟨z49, heap_alloc_new w _, by decide, fun i hi => ?_⟩, ⟨rfl, .inl ⟨rfl, rfl⟩⟩, rfl, ?_⟩, (fun e he => by cases he), (fun e he => by cases he)⟩
  · unfold z49
    by_cases h0 : i = 0
    · subst h0; rfl
    · simp only [h0, if_false]
      rw [Array.getElem?_append_right (by simp; omega), Array.getElem?_replicate, if_pos (by simp; omega)]
  · intro a b _ _ _; rfl

theorem index52_0 (a b : Option Addr) (n m c d : Nat) (w : World) : Sem.run Try.prog (Instr.index 52 (.agg #[.slice a n c, .slice b m d]) (.int .i64 0)) w = .ok (.slice a n c) w := by kernel_rfl
theorem index52_1 (a b : Option Addr) (n m c d : Nat) (w : World) : Sem.run Try.prog (Instr.index 52 (.agg #[.slice a n c, .slice b m d]) (.int .i64 1)) w = .ok (.slice b m d) w := by kernel_rfl
/-- A step's cells. -/
abbrev opc (K a b : Int) (v : Value) : Array Value := #[.int .i64 K, .int .i64 a, .int .i64 b, v]
/-- The step in two boxes, and an empty slice. -/
abbrev boxq (w : World) (K a b : Int) (v : Value) : World := ((w.alloc (.cells (opc K a b v) 40)).alloc (.cells (opc K a b v) 40)).alloc (.cells #[] 5)
theorem boxq_size (w : World) (K a b : Int) (v : Value) : (boxq w K a b v).heap.size = w.heap.size + 3 := by simp [boxq]
theorem boxq_below (w : World) (K a b : Int) (v : Value) : Below w.heap.size w (boxq w K a b v) := (((Below.refl _ _).alloc (Nat.le_refl _) _).alloc (by simp) _).alloc (by simp; omega) _
theorem boxq_own (w : World) (K a b : Int) (v : Value) : (boxq w K a b v).ownsRow (w.heap.size + 1 + 1) 5 1 (.slice (some ⟨w.heap.size + 1 + 1, 0, none⟩) 0 0) 0 [] := by
  have := own_empty ((w.alloc (.cells (opc K a b v) 40)).alloc (.cells (opc K a b v) 40))
  rw [show ((w.alloc (.cells (opc K a b v) 40)).alloc (.cells (opc K a b v) 40)).heap.size = w.heap.size + 1 + 1 from by simp] at this
  exact this
theorem boxq_0 (w : World) (K a b : Int) (v : Value) : (boxq w K a b v).heap[w.heap.size]? = some (.cells (opc K a b v) 40 (0, 0)) :=
  (Below.heap_alloc _ _ _ (by simp; omega)).trans ((Below.heap_alloc _ _ _ (by simp)).trans (heap_alloc_new w _))
theorem boxq_1 (w : World) (K a b : Int) (v : Value) : (boxq w K a b v).heap[w.heap.size + 1]? = some (.cells (opc K a b v) 40 (0, 0)) := by
  have := heap_alloc_new (w.alloc (.cells (opc K a b v) 40)) (.cells (opc K a b v) 40)
  rw [show (w.alloc (.cells (opc K a b v) 40)).heap.size = w.heap.size + 1 from by simp] at this
  exact (Below.heap_alloc _ _ _ (by simp)).trans this

/-- Behind the copy of the step's bytes. -/
structure Qs (wr W : World) (K a b : Int) (v v1 : Value) (bs : List Int) : Prop where
  own : OwnB (wr.heap.size + 1 + 1) W v1 bs
  h0 : W.heap[wr.heap.size]? = some (.cells (opc K a b v) 40 (0, 0))
  h1 : W.heap[wr.heap.size + 1]? = some (.cells (opc K a b v1) 40 (0, 0))
  lt : ∀ g, v1.ownBlock = some g → g < W.heap.size

theorem cells_cell {w : World} {g : Nat} {t : TypeId} {cs : Array Value} {fr : Nat × Nat} (h : w.heap[g]? = some (.cells cs t fr)) {j : Nat} {u : Value} (hu : cs[j]? = some u) : w.cell? ⟨g, j, none⟩ = some u := by
  simp only [World.cell?, h]; simpa using hu
theorem cells_frozen {w : World} {g : Nat} {t : TypeId} {cs : Array Value} (h : w.heap[g]? = some (.cells cs t (0, 0))) (j : Nat) : w.frozen? ⟨g, j, none⟩ = false := by
  simp [World.frozen?, h]
theorem heap_set {w : World} {g j : Nat} {t : TypeId} {cs : Array Value} {fr : Nat × Nat} (h : w.heap[g]? = some (.cells cs t fr)) (u : Value) : (w.setCell ⟨g, j, none⟩ u).heap[g]? = some (.cells (cs.setIfInBounds j u) t fr) := by
  have hlt := (Array.getElem?_eq_some_iff.1 h).1
  have hg := (Array.getElem?_eq_some_iff.1 h).2
  simp [World.setCell, hlt, hg, Array.getElem_modify]

theorem q_made {wr w1 : World} {K a b : Int} {v v1 : Value} {bs : List Int} (ho : w1.ownsRow (wr.heap.size + 1 + 1) 5 1 v1 (0 + bs.length) ([] ++ Pl.u8s bs)) (hg : (boxq wr K a b v).grownBy w1 (Value.slice (some ⟨wr.heap.size + 1 + 1, 0, none⟩) 0 0).ownBlock) :
    (∃ ao1 cap1, v1 = .slice ao1 bs.length cap1) ∧ w1.cell? ⟨wr.heap.size + 1, 3, none⟩ = some v ∧ w1.frozen? ⟨wr.heap.size + 1, 3, none⟩ = false ∧ Below wr.heap.size wr (w1.setCell ⟨wr.heap.size + 1, 3, none⟩ v1) ∧ Qs wr (w1.setCell ⟨wr.heap.size + 1, 3, none⟩ v1) K a b v v1 bs := by
  have ho' : OwnB (wr.heap.size + 1 + 1) w1 v1 bs := by
    rw [Nat.zero_add, List.nil_append] at ho; exact ho
  have hb : Below wr.heap.size wr w1 := (boxq_below wr K a b v).grown hg (by rw [boxq_size]; omega) (fun j hj => by
    have : wr.heap.size + 1 + 1 = j := by simpa [Value.ownBlock] using hj
    omega)
  have nb : ∀ x, x ≠ wr.heap.size + 1 + 1 → some x ≠ (Value.slice (some ⟨wr.heap.size + 1 + 1, 0, none⟩) 0 0).ownBlock := fun x hx e => by simp [Value.ownBlock] at e; omega
  have h0 := (hg.block wr.heap.size (by rw [boxq_size]; omega) (nb _ (by omega))).trans (boxq_0 wr K a b v)
  have h1 := (hg.block (wr.heap.size + 1) (by rw [boxq_size]; omega) (nb _ (by omega))).trans (boxq_1 wr K a b v)
  obtain ⟨ao1, cap1, hv1, _⟩ := ho'.toT
  have hlt : wr.heap.size + 1 < w1.heap.size := (Array.getElem?_eq_some_iff.1 h1).1
  refine ⟨⟨ao1, cap1, hv1⟩, cells_cell h1 rfl, cells_frozen h1 3, ?_, ⟨?_, ?_, ?_, ?_⟩⟩
  · refine ⟨hb.os, hb.tape, hb.output, by simp [World.setCell]; exact hb.size, fun i hi => ?_⟩
    exact (Below.heap_setCell _ _ _ _ (by show i ≠ wr.heap.size + 1; omega)).trans (hb.block i hi)
  · exact ownsRow_setCell_below ho' (by show wr.heap.size + 1 < wr.heap.size + 1 + 1; omega) _
  · exact (Below.heap_setCell _ _ _ _ (by show wr.heap.size ≠ wr.heap.size + 1; omega)).trans h0
  · exact heap_set h1 v1
  · intro g hg
    have := (ho'.lt g hg).2
    simpa [World.setCell] using this
theorem Qs.below {wr W W' : World} {K a b : Int} {v v1 : Value} {bs : List Int} (h : Qs wr W K a b v v1 bs) (hb : Below W.heap.size W W') : Qs wr W' K a b v v1 bs :=
  ⟨h.own.below hb, (hb.block _ (Array.getElem?_eq_some_iff.1 h.h0).1).trans h.h0, (hb.block _ (Array.getElem?_eq_some_iff.1 h.h1).1).trans h.h1, fun g hg => Nat.lt_of_lt_of_le (h.lt g hg) hb.size⟩
theorem Qs.keep {wr W W' : World} {K a b : Int} {v v1 : Value} {bs : List Int} (h : Qs wr W K a b v v1 bs) (hs : W.heap.size ≤ W'.heap.size) (hk : ∀ (g : Nat) (cs : Array Value) (t : TypeId), W.heap[g]? = some (Obj.cells cs t (0, 0)) → t = 40 ∨ t = 5 → W'.heap[g]? = W.heap[g]?) : Qs wr W' K a b v v1 bs := by
  refine ⟨ownsRow_of h.own (fun g hg => ?_), (hk _ _ _ h.h0 (.inl rfl)).trans h.h0, (hk _ _ _ h.h1 (.inl rfl)).trans h.h1, fun g hg => Nat.lt_of_lt_of_le (h.lt g hg) hs⟩
  obtain ⟨cs, hcs⟩ := own_cells h.own hg
  exact hk g cs 5 hcs (.inr rfl)
theorem Step.size {w w' : World} {N mb : Nat} {row : Option Nat} {es : List Pl.Ent} {T : Pl.Off} (S : Step w w' N row mb es T) : w.heap.size ≤ w'.heap.size := by
  obtain ⟨row', _, t', _⟩ := S; exact t'.size
theorem StepR.size {w w' : World} {M : Nat} {row : Option Nat} {es : List Pl.Ent} {T : Pl.Off} (S : StepR w w' M row es T) : w.heap.size ≤ w'.heap.size := by
  obtain ⟨row', _, t', _⟩ := S; exact t'.size
theorem Qs.step {wr W W' : World} {K a b : Int} {v v1 : Value} {bs : List Int} {N mb : Nat} {row : Option Nat} {es es' : List Pl.Ent} {T T' : Pl.Off} (h : Qs wr W K a b v v1 bs) (A : NetAt W N row mb es T) (S : Step W W' N row mb es' T') : Qs wr W' K a b v v1 bs :=
  h.keep S.size (fun g cs t hg ht => (Step.cells A S hg (by rcases ht with rfl | rfl <;> decide) (by rcases ht with rfl | rfl <;> decide)).trans hg.symm)
theorem Qs.stepR {wr W W' : World} {K a b : Int} {v v1 : Value} {bs : List Int} {M : Nat} {row : Option Nat} {es es' : List Pl.Ent} {T T' : Pl.Off} (h : Qs wr W K a b v v1 bs) (A : RefAt W M row es T) (S : StepR W W' M row es' T') : Qs wr W' K a b v v1 bs :=
  h.keep S.size (fun g cs t hg ht => (StepR.cells A S hg (by rcases ht with rfl | rfl <;> decide) (by rcases ht with rfl | rfl <;> decide)).trans hg.symm)

theorem pks_one (w : World) (f t : Int) (v : Value) (bs : List Int) (h : BytesC w v bs) : PksAt (w.alloc (.cells #[.int .i64 f, .int .i64 t, v] 41)) (.slice (some ⟨w.heap.size, 0, none⟩) 1 1) [⟨f, t, v, bs⟩] := by
  have hg := heap_alloc_new w (.cells #[.int .i64 f, .int .i64 t, v] 41)
  refine ⟨_, 1, rfl, fun i hi => ?_, fun e he => ?_⟩
  · obtain rfl : i = 0 := by simp at hi; omega
    exact ⟨w.heap.size, rfl, (Array.getElem?_eq_some_iff.1 hg).1, cells_cell hg rfl, cells_cell hg rfl, cells_cell hg rfl⟩
  · obtain rfl := List.mem_singleton.1 he
    exact h.below ((Below.refl _ _).alloc (Nat.le_refl _) _)

/-- What is on its way has no bytes in the blocks that are written to. -/
theorem apart1 {wr : World} {s5 s7 : Nat} {es es' : List Pl.Ent} {v6 v1 : Value} (hb : ∀ e ∈ es, BytesT wr e.bv e.bs) (hf : From es es' s5 v6) (hq : ∀ g, v1.ownBlock = some g → wr.heap.size ≤ g ∧ g < s5) (hp : ∀ g, v6.ownBlock = some g → s5 ≤ g ∧ g < s7) (h5 : wr.heap.size ≤ s5) :
    ∀ x ∈ es', x.bs ≠ [] → ∀ g, x.bv.ownBlock = some g → ¬ Pb v6 v1 g := by
  intro x hx hne g hg hP
  rcases hf x hx with h | ⟨rfl, h⟩
  · have := (hb x h).lt hne g hg
    rcases hP with h | h
    · have := (hp g h).1; omega
    · have := (hq g h).1; omega
  · have := h g hg
    rcases hP with h | h
    · cases h
    · have := (hq g h).2; omega
theorem apart2 {wr : World} {s5 s7 : Nat} {fs fs' : List Pl.Ent} {v6 v1 : Value} (hb : ∀ e ∈ fs, BytesT wr e.bv e.bs) (hf : ∀ x ∈ fs', x ∈ fs ∨ NewB s7 x.bv) (hq : ∀ g, v1.ownBlock = some g → wr.heap.size ≤ g ∧ g < s5) (hp : ∀ g, v6.ownBlock = some g → s5 ≤ g ∧ g < s7) (h5 : wr.heap.size ≤ s5) (h7 : s5 ≤ s7) :
    ∀ x ∈ fs', x.bs ≠ [] → ∀ g, x.bv.ownBlock = some g → ¬ Pb v6 v1 g := by
  intro x hx hne g hg hP
  rcases hf x hx with h | h
  · have := (hb x h).lt hne g hg
    rcases hP with h | h
    · have := (hp g h).1; omega
    · have := (hq g h).1; omega
  · have := h g hg
    rcases hP with h | h
    · have := (hp g h).2; omega
    · have := (hq g h).2; omega

end Go.Proofs.Ytjoikochpkfoaaa
