/- The law's steps opened; great. -/
import Derived.Test.YtjoikochpkfoaaaNetQ
import Derived.Deep.Fields
namespace Go.Proofs.Ytjoikochpkfoaaa
open Go.RowKit Go.ChangeShapes Go.WideShapes Go.Deep
set_option linter.unusedVariables false

section
variable {H : Type} {enc : TypeId × Value → H} {P : Program} {w : World} {base : Nat} {spare : Nat → Bool} {held : Bool} {fuel : Nat} {t : TypeId} {cs : List Value} {x : DataW H × List MemPlace}
theorem field_reads {fs : Array Field} (ht : P.underlying t = some (.struct fs)) (h : DataW.trod enc P w base spare held fuel t cs = some x) {i : Nat} {f : Field} (hi : fs[i]? = some f) :
    ∃ (n : Nat) (y : DataW H × List MemPlace), DataW.trod enc P w base spare held n f.type ((cs.drop f.offset).take (P.cellsOf f.type)) = some y := by
  obtain ⟨xs, n, _, _, _, hlen, hf⟩ := DataW.trod_struct ht h
  have hlt : i < xs.length := by rw [hlen]; exact (Array.getElem?_eq_some_iff.1 hi).1
  exact ⟨n, xs[i], by rw [hf i f hi, List.getElem?_eq_getElem hlt]⟩
theorem field_int {fs : Array Field} {k : IntKind} (ht : P.underlying t = some (.struct fs)) (h : DataW.trod enc P w base spare held fuel t cs = some x) {i : Nat} {f : Field} (hi : fs[i]? = some f)
    (he : P.underlying f.type = some (.int k)) (hc : P.cellsOf f.type = 1) : ∃ n, cs[f.offset]? = some (.int k n) ∧ (Lit.int k n).wf = true := by
  obtain ⟨m, y, hy⟩ := field_reads ht h hi
  obtain ⟨n, e, _, wn⟩ := DataW.trod_int he hy
  refine ⟨n, ?_, wn⟩
  rw [hc] at e
  have h0 : ((cs.drop f.offset).take 1)[0]? = some (.int k n) := by rw [e]; rfl
  rw [List.getElem?_take, if_pos (by decide), List.getElem?_drop] at h0
  simpa using h0
end

theorem cells3 : Try.prog.cellsOf 3 = 1 := by kernel_rfl
theorem cells40 : Try.prog.cellsOf 40 = 4 := by kernel_rfl

/-- The steps in memory. -/
def StepsAt (w : World) (ao : Option Addr) (len : Nat) (K A B : Nat → Int) (bs : Nat → List Int) : Prop :=
  ∀ i, i < len → ∃ b off bv, ao = some ⟨b, off, none⟩ ∧ b < w.heap.size ∧ w.cell? ⟨b, off + i * 4, none⟩ = some (.int .i64 (K i)) ∧ w.cell? ⟨b, off + i * 4 + 1, none⟩ = some (.int .i64 (A i)) ∧ w.cell? ⟨b, off + i * 4 + 2, none⟩ = some (.int .i64 (B i)) ∧
    w.cell? ⟨b, off + i * 4 + 3, none⟩ = some bv ∧ BytesC w bv (bs i) ∧ (bs i).length ≤ maxLen
def IsSteps (w : World) (v : Value) : Prop := ∃ ao len cap K A B bs, v = .slice ao len cap ∧ len ≤ maxLen ∧ StepsAt w ao len K A B bs

theorem open_steps {H : Type} {enc : TypeId × Value → H} {W : World} {base : Nat} {v : Value} {d : DataW H} {q : List MemPlace} (hv : Value.okWide Try.prog W .any base 36 v)
    (h : DataW.Trod enc Try.prog W 0 (fun _ => true) true 36 v d q) : IsSteps W v := by
  obtain ⟨a, len, cap, rfl⟩ := okWide_slice Try.underlying36 hv
  obtain ⟨fuel, hf⟩ := h
  rcases open_slice Try.underlying36 hf with ⟨h0, _⟩ | ⟨a', len', cap', m, n, D, Pl', hcs, hb, hl, hm, hmm, hx, hi⟩
  · simp [Value.cells] at h0
    obtain ⟨rfl, rfl, rfl⟩ := h0
    exact ⟨none, 0, 0, fun _ => 0, fun _ => 0, fun _ => 0, fun _ => [], rfl, by decide, fun i hi => absurd hi (by omega)⟩
  · simp [Value.cells] at hcs
    obtain ⟨rfl, rfl, rfl⟩ := hcs
    have hml : len ≤ m := by rw [hmm]; simp; omega
    have key : ∀ i, i < len → ∃ (x y z : Int) (bv : Value) (bs : List Int), W.cell? ((a'.add (i * 4)).add 0) = some (.int .i64 x) ∧ W.cell? ((a'.add (i * 4)).add 1) = some (.int .i64 y) ∧ W.cell? ((a'.add (i * 4)).add 2) = some (.int .i64 z) ∧ W.cell? ((a'.add (i * 4)).add 3) = some bv ∧ BytesC W bv bs ∧ bs.length ≤ maxLen := by
      intro i hil
      obtain ⟨cs', hc, ht'⟩ := hi i (by omega)
      rw [cells40] at hc
      obtain ⟨_, hcl, hat⟩ := World.cells?_some hc
      obtain ⟨x, e0, _⟩ := field_int Try.underlying40 ht' (i := 0) rfl Try.underlying3 cells3
      obtain ⟨y, e1, _⟩ := field_int Try.underlying40 ht' (i := 1) rfl Try.underlying3 cells3
      obtain ⟨z, e2, _⟩ := field_int Try.underlying40 ht' (i := 2) rfl Try.underlying3 cells3
      obtain ⟨k, yy, hy⟩ := field_reads Try.underlying40 ht' (i := 3) rfl
      obtain ⟨bv, bs, e3, hB, hL⟩ := bytes_open hy
      have e4 : cs'[3]? = some bv := by
        have h0 : ((cs'.drop 3).take (Try.prog.cellsOf 26))[0]? = some bv := by
          have : (cs'.drop 3).take (Try.prog.cellsOf 26) = [bv] := e3
          rw [this]; rfl
        rw [cells26, List.getElem?_take, if_pos (by decide), List.getElem?_drop] at h0
        simpa using h0
      exact ⟨x, y, z, bv, bs, (hat 0 (by omega)).trans e0, (hat 1 (by omega)).trans e1, (hat 2 (by omega)).trans e2, (hat 3 (by omega)).trans e4, hB, hL⟩
    by_cases hz : len = 0
    · subst hz
      exact ⟨_, 0, cap, fun _ => 0, fun _ => 0, fun _ => 0, fun _ => [], rfl, by decide, fun i hi => absurd hi (by omega)⟩
    obtain ⟨b, off, spot⟩ := a'
    obtain ⟨x0, _, _, _, _, hk0, _⟩ := key 0 (by omega)
    have hspot : spot = none := by simpa [Addr.add] using World.cell?_spot hk0
    subst hspot
    have hlt := World.block_lt_of_cell? _ _ hk0
    have key2 : ∀ i, ∃ p : Int × Int × Int × List Int, i < len → ∃ bv, W.cell? ⟨b, off + i * 4, none⟩ = some (.int .i64 p.1) ∧ W.cell? ⟨b, off + i * 4 + 1, none⟩ = some (.int .i64 p.2.1) ∧ W.cell? ⟨b, off + i * 4 + 2, none⟩ = some (.int .i64 p.2.2.1) ∧ W.cell? ⟨b, off + i * 4 + 3, none⟩ = some bv ∧ BytesC W bv p.2.2.2 ∧ p.2.2.2.length ≤ maxLen := fun i => by
      by_cases hil : i < len
      · obtain ⟨x, y, z, bv, bs, h1, h2, h3, h4, h5, h6⟩ := key i hil
        simp only [Go.WideShapes.add_plain, Nat.add_zero] at h1 h2 h3 h4
        exact ⟨(x, y, z, bs), fun _ => ⟨bv, h1, h2, h3, h4, h5, h6⟩⟩
      · exact ⟨(0, 0, 0, []), fun h => absurd h hil⟩
    refine ⟨_, len, cap, fun i => (Classical.choose (key2 i)).1, fun i => (Classical.choose (key2 i)).2.1, fun i => (Classical.choose (key2 i)).2.2.1, fun i => (Classical.choose (key2 i)).2.2.2, rfl, by omega, fun i hil => ?_⟩
    obtain ⟨bv, h1, h2, h3, h4, h5, h6⟩ := Classical.choose_spec (key2 i) hil
    exact ⟨b, off, bv, rfl, hlt, h1, h2, h3, h4, h5, h6⟩

theorem great_any (ao : Option Addr) (len cap : Nat) (K A B : Nat → Int) (bs : Nat → List Int) (w : World) (h : StepsAt w ao len K A B bs) (hmax : len ≤ 9223372036854775807) :
    Calls Try.prog 13 #[.slice ao len cap] w fun e w' => (e = .returned (.bool true) ∨ (e = .returned (.bool false) ∧ len ≤ 300)) ∧ Below w.heap.size w w' := by
  have HH := Lib.hid h
  clear h
  go_enter Try.func13, Try.ntmps13
  go_wp2_with fail
  go_loopw [8, 3, 5] (fun i n x wr => ∃ (k : Nat) (z : Int), k ≤ len ∧ i = .int .i64 k ∧ n = .int .i64 z ∧ Below w.heap.size w wr) (fun i _ _ _ => len - (intOf i).toNat)
  case atStart => exact ⟨0, 0, Nat.zero_le _, rfl, rfl, Below.refl _ _⟩
  case round =>
    obtain ⟨k, z, hk, rfl, rfl, bel⟩ := hrel
    by_cases hlt : k < len
    · obtain ⟨b, off, bv, rfl, hblk, h1, h2, h3, h4, h5, h6⟩ := HH.out k hlt
      have c0 := (bel.cell (p := ⟨b, off + k * 4, none⟩) hblk).trans h1
      have c1 := (bel.cell (p := ⟨b, off + k * 4 + 1, none⟩) hblk).trans h2
      have c2 := (bel.cell (p := ⟨b, off + k * 4 + 2, none⟩) hblk).trans h3
      have c3 := (bel.cell (p := ⟨b, off + k * 4 + 3, none⟩) hblk).trans h4
      obtain ⟨bao, bcap, hbv, _⟩ := h5
      rw [hbv] at c3
      clear h1 h2 h3 h4 hbv
      generalize K k = x at *
      generalize A k = a at *
      generalize B k = y at *
      have BEL := Lib.hid bel
      clear bel
      have hk1 : (k : Int) + 1 ≤ 9223372036854775807 := by omega
      go_wp2_with fail
      all_goals exact ⟨⟨k + 1, _, by omega, rfl, rfl, BEL.out.alloc BEL.out.size _⟩, by simp [intOf]; omega⟩
    · obtain rfl : k = len := by omega
      have BEL := Lib.hid bel
      clear bel hlt
      by_cases hg : 300 < k
      · go_wp2_with fail
        go_ret
        exact ⟨.inl rfl, BEL.out⟩
      · have d1 : decide (300 < (k : Int)) = false := decide_eq_false (by omega)
        by_cases hz : 50000 < z
        · have d2 : decide (50000 < z) = true := decide_eq_true hz
          go_wp2_with fail
          go_ret
          first | exact ⟨.inl rfl, BEL.out⟩ | exact ⟨.inl (by simp [d1, d2]), BEL.out⟩
        · have d2 : decide (50000 < z) = false := decide_eq_false hz
          go_wp2_with fail
          go_ret
          first | exact ⟨.inr ⟨rfl, by omega⟩, BEL.out⟩ | exact ⟨.inr ⟨by simp [d1, d2], by omega⟩, BEL.out⟩
end Go.Proofs.Ytjoikochpkfoaaa
