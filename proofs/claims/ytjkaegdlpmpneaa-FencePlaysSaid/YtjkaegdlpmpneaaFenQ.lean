/- The law's argument, a slice of structs, opened. -/
import Derived.Test.YtjkaegdlpmpneaaFenP
import Derived.Deep.Slices
import Derived.Deep.Fields
import Derived.ChangeSame
import Derived.OpenShut
namespace Go.Proofs.Ytjkaegdlpmpneaa
open Go.ChangeShapes Go.WideShapes Go.Deep Go.RowKit
set_option linter.unusedVariables false

section
variable {H : Type} {enc : TypeId × Value → H} {P : Program} {w : World} {base : Nat} {spare : Nat → Bool} {held : Bool} {fuel : Nat} {t : TypeId} {cs : List Value} {x : DataW H × List MemPlace}
theorem field_reads {fs : Array Field} (ht : P.underlying t = some (.struct fs)) (h : DataW.trod enc P w base spare held fuel t cs = some x) {i : Nat} {f : Field} (hi : fs[i]? = some f) :
    ∃ (n : Nat) (y : DataW H × List MemPlace), DataW.trod enc P w base spare held n f.type ((cs.drop f.offset).take (P.cellsOf f.type)) = some y := by
  obtain ⟨xs, n, _, _, _, hlen, hf⟩ := DataW.trod_struct ht h
  have hlt : i < xs.length := by rw [hlen]; exact (Array.getElem?_eq_some_iff.1 hi).1
  exact ⟨n, xs[i], by rw [hf i f hi, List.getElem?_eq_getElem hlt]⟩
theorem field_int {fs : Array Field} {k : IntKind} (ht : P.underlying t = some (.struct fs)) (h : DataW.trod enc P w base spare held fuel t cs = some x) {i : Nat} {f : Field} (hi : fs[i]? = some f)
    (he : P.underlying f.type = some (.int k)) (hc : P.cellsOf f.type = 1) : ∃ n, cs[f.offset]? = some (.int k n) ∧ (Lit.int k n).wf = true := by
  obtain ⟨m, y, hy⟩ := field_reads ht h hi
  obtain ⟨n, e, _, wn⟩ := DataW.trod_int he hy
  refine ⟨n, ?_, wn⟩
  rw [hc] at e
  have h0 : ((cs.drop f.offset).take 1)[0]? = some (.int k n) := by rw [e]; rfl
  rw [List.getElem?_take, if_pos (by decide), List.getElem?_drop] at h0
  simpa using h0
end

theorem cells3 : Try.prog.cellsOf 3 = 1 := by kernel_rfl
theorem cells27 : Try.prog.cellsOf 27 = 4 := by kernel_rfl

/-- What a walk is told of a slice of steps that came in. -/
def IsOps (w : World) (v : Value) : Prop :=
  (∃ a cap, v = .slice a 0 cap) ∨
  ∃ (b off len cap : Nat) (z : Nat → Nat → Int), v = .slice (some ⟨b, off, none⟩) len cap ∧ 0 < len ∧ b < w.heap.size ∧ len ≤ cap ∧ cap ≤ maxLen ∧
    (∀ i j, i < len → j < 4 → w.cell? ⟨b, off + (i * 4 + j), none⟩ = some (.int .i64 (z i j))) ∧ ∀ i j, i < len → j < 4 → (Lit.int .i64 (z i j)).wf = true

theorem open_ops {H : Type} {enc : TypeId × Value → H} {W : World} {base : Nat} {v : Value} {d : DataW H} {q : List MemPlace} (hv : Value.okWide Try.prog W .any base 22 v)
    (h : DataW.Trod enc Try.prog W 0 (fun _ => true) true 22 v d q) : IsOps W v := by
  obtain ⟨a, len, cap, rfl⟩ := okWide_slice Try.underlying22 hv
  obtain ⟨fuel, hf⟩ := h
  rcases open_slice Try.underlying22 hf with ⟨h0, _⟩ | ⟨a', len', cap', m, n, D, Pl, hcs, hb, hl, hm, hmm, hx, hi⟩
  · simp [Value.cells] at h0
    obtain ⟨rfl, rfl, rfl⟩ := h0
    exact .inl ⟨none, 0, rfl⟩
  · simp [Value.cells] at hcs
    obtain ⟨rfl, rfl, rfl⟩ := hcs
    by_cases hz : len = 0
    · subst hz; exact .inl ⟨_, _, rfl⟩
    have hml : len ≤ m := by rw [hmm]; simp; omega
    have key : ∀ i, i < len → ∀ j, j < 4 → ∃ n : Int, W.cell? ((a'.add (i * 4)).add j) = some (.int .i64 n) ∧ (Lit.int .i64 n).wf = true := by
      intro i hil j hj
      obtain ⟨cs', hc, ht'⟩ := hi i (by omega)
      rw [cells27] at hc
      obtain ⟨_, hcl, hat⟩ := World.cells?_some hc
      rw [hat j (by omega)]
      have : j = 0 ∨ j = 1 ∨ j = 2 ∨ j = 3 := by omega
      rcases this with rfl | rfl | rfl | rfl
      · obtain ⟨n0, e0, w0⟩ := field_int Try.underlying27 ht' (i := 0) rfl Try.underlying3 cells3; exact ⟨n0, e0, w0⟩
      · obtain ⟨n0, e0, w0⟩ := field_int Try.underlying27 ht' (i := 1) rfl Try.underlying3 cells3; exact ⟨n0, e0, w0⟩
      · obtain ⟨n0, e0, w0⟩ := field_int Try.underlying27 ht' (i := 2) rfl Try.underlying3 cells3; exact ⟨n0, e0, w0⟩
      · obtain ⟨n0, e0, w0⟩ := field_int Try.underlying27 ht' (i := 3) rfl Try.underlying3 cells3; exact ⟨n0, e0, w0⟩
    obtain ⟨b, off, spot⟩ := a'
    obtain ⟨n0, hn0, _⟩ := key 0 (by omega) 0 (by omega)
    have hspot : spot = none := by simpa [Addr.add] using World.cell?_spot hn0
    subst hspot
    have hadd : ∀ (i j : Nat), ((⟨b, off, none⟩ : Addr).add (i * 4)).add j = ⟨b, off + (i * 4 + j), none⟩ := fun i j => by rw [Go.WideShapes.add_plain, Go.WideShapes.add_plain, Nat.add_assoc]
    have key2 : ∀ i j, i < len → j < 4 → ∃ n : Int, W.cell? ⟨b, off + (i * 4 + j), none⟩ = some (.int .i64 n) ∧ (Lit.int .i64 n).wf = true := fun i j hi hj => by
      rw [← hadd]; exact key i hi j hj
    have hblk : b < W.heap.size := World.block_lt_of_cell? _ _ ((key2 0 0 (by omega) (by omega)).choose_spec.1)
    refine .inr ⟨b, off, len, cap, fun i j => if h : i < len ∧ j < 4 then (key2 i j h.1 h.2).choose else 0, rfl, by omega, hblk, hl, hm, ?_, ?_⟩
    · intro i j hi hj
      dsimp only
      rw [dif_pos ⟨hi, hj⟩]
      exact (key2 i j hi hj).choose_spec.1
    · intro i j hi hj
      dsimp only
      rw [dif_pos ⟨hi, hj⟩]
      exact (key2 i j hi hj).choose_spec.2
end Go.Proofs.Ytjkaegdlpmpneaa
