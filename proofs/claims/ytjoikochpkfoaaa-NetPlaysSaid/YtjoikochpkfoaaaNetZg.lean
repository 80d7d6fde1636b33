/- NetPlays: the steps opened, with the bound on their bytes. -/
import Derived.Test.YtjoikochpkfoaaaNetZf
import Derived.SizedLaws
namespace Go.Proofs.Ytjoikochpkfoaaa
open Go.RowKit Go.ChangeShapes Go.WideShapes Go.Deep
set_option linter.unusedVariables false

theorem bytes5 : Try.prog.bytesOf 5 = 1 := by kernel_rfl
theorem weightsAll_mem {H : Type} {P : Program} {e : TypeId} : ∀ {l : List (DataW H)} {d : DataW H}, d ∈ l → ∀ n ∈ d.weights P e, n ∈ DataW.weightsAll P e l
  | [], _, h, _, _ => by cases h
  | d0 :: r, d, h, n, hn => by
    simp only [DataW.weightsAll, List.mem_append]
    rcases List.mem_cons.1 h with rfl | h
    · exact .inl hn
    · exact .inr (weightsAll_mem h n hn)
theorem field_reads_w {H : Type} {enc : TypeId × Value → H} {P : Program} {w : World} {base : Nat} {spare : Nat → Bool} {held : Bool} {fuel : Nat} {t : TypeId} {cs : List Value} {x : DataW H × List MemPlace} {fs : Array Field} {N : Nat} (ht : P.underlying t = some (.struct fs)) (h : DataW.trod enc P w base spare held fuel t cs = some x) {i : Nat} {f : Field} (hi : fs[i]? = some f)
    (hw : ∀ n ∈ x.1.weights P t, n ≤ N) :
    ∃ (n : Nat) (y : DataW H × List MemPlace), DataW.trod enc P w base spare held n f.type ((cs.drop f.offset).take (P.cellsOf f.type)) = some y ∧ ∀ n ∈ y.1.weights P f.type, n ≤ N := by
  obtain ⟨xs, n, _, rfl, _, hlen, hf⟩ := DataW.trod_struct ht h
  have hlt : i < xs.length := by rw [hlen]; exact (Array.getElem?_eq_some_iff.1 hi).1
  refine ⟨n, xs[i], by rw [hf i f hi, List.getElem?_eq_getElem hlt], fun m hm => hw m ?_⟩
  simp only [DataW.weights, ht]
  refine DataW.weights_mem_each (j := i) (t := f.type) ?_ ?_ m hm
  · rw [List.getElem?_map, Array.getElem?_toList, hi]; rfl
  · rw [List.getElem?_map, List.getElem?_eq_getElem hlt]; rfl
theorem bytes_open_s {H : Type} {enc : TypeId × Value → H} {W : World} {base : Nat} {fuel : Nat} {cs : List Value} {x : DataW H × List MemPlace} {N : Nat} (hf : DataW.trod enc Try.prog W base (fun _ => true) true fuel 26 cs = some x) (hw : ∀ n ∈ x.1.weights Try.prog 26, n ≤ N) :
    ∃ v bs, cs = [v] ∧ BytesC W v bs ∧ (bs.length ≤ maxLen ∧ bs.length ≤ N) := by
  obtain ⟨v, bs, h1, h2, h3⟩ := bytes_open hf
  refine ⟨v, bs, h1, h2, h3, ?_⟩
  obtain ⟨ao, cap, hv, _, _⟩ := h2
  rcases open_slice Try.underlying26 hf with ⟨h0, _⟩ | ⟨a', len', cap', m, n, D, Pl', hcs, hb, hl, hm, hmm, hx, hi⟩
  · rw [h1, hv] at h0
    have : bs.length = 0 := by simp at h0; rw [h0.2.1]; rfl
    omega
  · rw [h1, hv] at hcs
    have hl2 : bs.length = len' := by simp at hcs; exact hcs.2.1
    rw [hl2]
    have := hw ((((List.range len').map D).length + ((List.range (m - len')).map fun j => D (len' + j)).length) * Try.prog.bytesOf 5) (by
      rw [hx]
      simp only [DataW.weights, Try.underlying26, List.mem_cons]
      exact .inl trivial)
    rw [bytes5] at this
    simp at this
    omega

theorem open_steps_s {H : Type} {enc : TypeId × Value → H} {W : World} {base : Nat} {v : Value} {d : DataW H} {q : List MemPlace} (hv : Value.okWide Try.prog W .any base 36 v)
    (h : DataW.Trod enc Try.prog W 0 (fun _ => true) true 36 v d q) (hw : ∀ n ∈ d.weights Try.prog 36, n ≤ 140737488355328) : IsStepsS W v := by
  obtain ⟨a, len, cap, rfl⟩ := okWide_slice Try.underlying36 hv
  obtain ⟨fuel, hf⟩ := h
  rcases open_slice Try.underlying36 hf with ⟨h0, _⟩ | ⟨a', len', cap', m, n, D, Pl', hcs, hb, hl, hm, hmm, hx, hi⟩
  · simp [Value.cells] at h0
    obtain ⟨rfl, rfl, rfl⟩ := h0
    exact ⟨none, 0, 0, fun _ => 0, fun _ => 0, fun _ => 0, fun _ => [], rfl, by decide, (fun i hi => absurd hi (by omega)), (fun i hi => absurd hi (by omega))⟩
  · simp [Value.cells] at hcs
    obtain ⟨rfl, rfl, rfl⟩ := hcs
    have hml : len ≤ m := by rw [hmm]; simp; omega
    have key : ∀ i, i < len → ∃ (x y z : Int) (bv : Value) (bs : List Int), W.cell? ((a'.add (i * 4)).add 0) = some (.int .i64 x) ∧ W.cell? ((a'.add (i * 4)).add 1) = some (.int .i64 y) ∧ W.cell? ((a'.add (i * 4)).add 2) = some (.int .i64 z) ∧ W.cell? ((a'.add (i * 4)).add 3) = some bv ∧ BytesC W bv bs ∧ (bs.length ≤ maxLen ∧ bs.length ≤ 140737488355328) := by
      intro i hil
      obtain ⟨cs', hc, ht'⟩ := hi i (by omega)
      rw [cells40] at hc
      obtain ⟨_, hcl, hat⟩ := World.cells?_some hc
      obtain ⟨x, e0, _⟩ := field_int Try.underlying40 ht' (i := 0) rfl Try.underlying3 cells3
      obtain ⟨y, e1, _⟩ := field_int Try.underlying40 ht' (i := 1) rfl Try.underlying3 cells3
      obtain ⟨z, e2, _⟩ := field_int Try.underlying40 ht' (i := 2) rfl Try.underlying3 cells3
      have hDw : ∀ n ∈ (D i).weights Try.prog 40, n ≤ 140737488355328 := fun n hn => hw n (by
        have hd : d = .slice ((List.range len).map D) ((List.range (m - len)).map fun j => D (len + j)) := congrArg Prod.fst hx
        rw [hd]
        simp only [DataW.weights, Try.underlying36, List.mem_cons, List.mem_append]
        exact .inr (.inl (weightsAll_mem (List.mem_map.2 ⟨i, List.mem_range.2 hil, rfl⟩) n hn)))
      obtain ⟨k, yy, hy, hyw⟩ := field_reads_w Try.underlying40 ht' (i := 3) rfl hDw
      obtain ⟨bv, bs, e3, hB, hL⟩ := bytes_open_s hy hyw
      have e4 : cs'[3]? = some bv := by
        have h0 : ((cs'.drop 3).take (Try.prog.cellsOf 26))[0]? = some bv := by
          have : (cs'.drop 3).take (Try.prog.cellsOf 26) = [bv] := e3
          rw [this]; rfl
        rw [cells26, List.getElem?_take, if_pos (by decide), List.getElem?_drop] at h0
        simpa using h0
      exact ⟨x, y, z, bv, bs, (hat 0 (by omega)).trans e0, (hat 1 (by omega)).trans e1, (hat 2 (by omega)).trans e2, (hat 3 (by omega)).trans e4, hB, hL⟩
    by_cases hz : len = 0
    · subst hz
      exact ⟨_, 0, cap, fun _ => 0, fun _ => 0, fun _ => 0, fun _ => [], rfl, by decide, (fun i hi => absurd hi (by omega)), (fun i hi => absurd hi (by omega))⟩
    obtain ⟨b, off, spot⟩ := a'
    obtain ⟨x0, _, _, _, _, hk0, _⟩ := key 0 (by omega)
    have hspot : spot = none := by simpa [Addr.add] using World.cell?_spot hk0
    subst hspot
    have hlt := World.block_lt_of_cell? _ _ hk0
    have key2 : ∀ i, ∃ p : Int × Int × Int × List Int, i < len → ∃ bv, W.cell? ⟨b, off + i * 4, none⟩ = some (.int .i64 p.1) ∧ W.cell? ⟨b, off + i * 4 + 1, none⟩ = some (.int .i64 p.2.1) ∧ W.cell? ⟨b, off + i * 4 + 2, none⟩ = some (.int .i64 p.2.2.1) ∧ W.cell? ⟨b, off + i * 4 + 3, none⟩ = some bv ∧ BytesC W bv p.2.2.2 ∧ (p.2.2.2.length ≤ maxLen ∧ p.2.2.2.length ≤ 140737488355328) := fun i => by
      by_cases hil : i < len
      · obtain ⟨x, y, z, bv, bs, h1, h2, h3, h4, h5, h6⟩ := key i hil
        simp only [Go.WideShapes.add_plain, Nat.add_zero] at h1 h2 h3 h4
        exact ⟨(x, y, z, bs), fun _ => ⟨bv, h1, h2, h3, h4, h5, h6⟩⟩
      · exact ⟨(0, 0, 0, []), fun h => absurd h hil⟩
    refine ⟨_, len, cap, fun i => (Classical.choose (key2 i)).1, fun i => (Classical.choose (key2 i)).2.1, fun i => (Classical.choose (key2 i)).2.2.1, fun i => (Classical.choose (key2 i)).2.2.2, rfl, by omega, fun i hil => ?_, fun i hil => ?_⟩
    · obtain ⟨bv, h1, h2, h3, h4, h5, h6⟩ := Classical.choose_spec (key2 i) hil
      exact ⟨b, off, bv, rfl, hlt, h1, h2, h3, h4, h5, h6.1⟩
    · obtain ⟨bv, h1, h2, h3, h4, h5, h6⟩ := Classical.choose_spec (key2 i) hil
      exact h6.2

end Go.Proofs.Ytjoikochpkfoaaa
