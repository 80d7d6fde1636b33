/- Same; the law's bodies opened. -/
import Derived.Test.YtjoikochpkfoaaaNetK
import Derived.Deep.Slices
import Derived.ChangeSame
import Derived.OpenShut
namespace Go.Proofs.Ytjoikochpkfoaaa
open Go.RowKit Go.ChangeShapes Go.WideShapes Go.Deep
set_option linter.unusedVariables false

theorem same_bytes (va vb : Value) (l : List Int) (w : World) (ha : BytesC w va l) (hb : BytesC w vb l) (hn : l.length ≤ 1000000) :
    Calls Try.prog 11 #[va, vb] w fun e w' => e = .returned (.bool true) ∧ Below w.heap.size w w' := by
  obtain ⟨a, ca, hva, _⟩ := id ha
  obtain ⟨b, cb, hvb, _⟩ := id hb
  subst hva
  subst hvb
  have HA := Lib.hid ha
  have HB := Lib.hid hb
  clear ha hb
  have e0 : ((l.length : Int) != (l.length : Int)) = false := by simp
  go_enter Try.func11, Try.ntmps11
  go_wp2_with fail
  clear e0
  go_loopw [13, 5] (fun i x wr => ∃ (j : Nat), j ≤ l.length ∧ i = .int .i64 j ∧ Below w.heap.size w wr) (fun i _ _ => l.length - (intOf i).toNat)
  case atStart => exact ⟨0, Nat.zero_le _, rfl, Below.refl _ _⟩
  case round =>
    obtain ⟨j, hj, rfl, bel⟩ := hrel
    have BEL := Lib.hid bel
    by_cases hjl : j < l.length
    · obtain ⟨a2, ca2, e2, _, h2⟩ := HA.out.below bel
      obtain ⟨b2, cb2, e3, _, h3⟩ := HB.out.below bel
      cases e2
      cases e3
      obtain ⟨g, off, hgo, hg2, hc⟩ := h2 j hjl
      obtain ⟨g', off', hgo', hg2', hc'⟩ := h3 j hjl
      clear h2 h3
      subst hgo
      subst hgo'
      generalize l[j] = x at *
      have e0 : (x != x) = false := by simp
      clear bel
      go_wp2_with fail
      go_quiet (fail)
      go_wp2_with fail
      all_goals exact ⟨⟨j + 1, by omega, rfl, below_drewN BEL.out _⟩, by simp [intOf]; omega⟩
    · clear bel
      go_wp2_with fail
      go_ret
      exact ⟨rfl, BEL.out⟩

theorem cells5 : Try.prog.cellsOf 5 = 1 := by kernel_rfl
theorem cells26 : Try.prog.cellsOf 26 = 1 := by kernel_rfl

/-- A slice of bytes, by its one cell. -/
theorem bytes_open {H : Type} {enc : TypeId × Value → H} {W : World} {base : Nat} {fuel : Nat} {cs : List Value} {x : DataW H × List MemPlace} (hf : DataW.trod enc Try.prog W base (fun _ => true) true fuel 26 cs = some x) :
    ∃ v bs, cs = [v] ∧ BytesC W v bs ∧ bs.length ≤ maxLen := by
  rcases open_slice Try.underlying26 hf with ⟨h0, _⟩ | ⟨a', len', cap', m, n, D, Pl', hcs, hb, hl, hm, hmm, hx, hi⟩
  · exact ⟨_, [], h0, ⟨none, 0, rfl, fun _ => ⟨rfl, rfl⟩, fun i hi => absurd hi (by simp)⟩, by decide⟩
  · have hml : len' ≤ m := by rw [hmm]; simp; omega
    have key : ∀ i, i < len' → ∃ k : Int, W.cell? (a'.add i) = some (.int .u8 k) := by
      intro i hil
      obtain ⟨cs', hc, ht'⟩ := hi i (by omega)
      rw [cells5] at hc
      obtain ⟨k, e, _⟩ := DataW.trod_int Try.underlying5 ht'
      obtain ⟨_, hcl, hat⟩ := World.cells?_some hc
      have h0 := hat 0 (by omega)
      rw [e] at h0
      refine ⟨k, ?_⟩
      have h1 : W.cell? (a'.add (i * 1)) = some (.int .u8 k) := h0
      rw [Nat.mul_one] at h1
      exact h1
    by_cases hz : len' = 0
    · subst hz
      exact ⟨_, [], hcs, ⟨some a', cap', rfl, (fun e => by cases e), fun i hi => absurd hi (by simp)⟩, by decide⟩
    obtain ⟨b, off, spot⟩ := a'
    obtain ⟨k0, hk0⟩ := key 0 (by omega)
    have hspot : spot = none := by simpa [Addr.add] using World.cell?_spot hk0
    subst hspot
    have hlt := World.block_lt_of_cell? _ _ hk0
    refine ⟨_, (List.range len').map (fun i => match W.cell? ⟨b, off + i, none⟩ with | some (.int .u8 n) => n | _ => 0), hcs, ⟨some ⟨b, off, none⟩, cap', by simp, (fun e => by cases e), fun i hi => ⟨b, off, rfl, hlt, ?_⟩⟩, by simp; omega⟩
    have hi' : i < len' := by simpa using hi
    obtain ⟨k, hk⟩ := key i hi'
    rw [Go.WideShapes.add_plain] at hk
    simp only [List.getElem_map, List.getElem_range]
    rw [hk]

/-- A slice of slices of bytes that came in. -/
def IsBodies (w : World) (v : Value) : Prop :=
  ∃ ao len cap, v = .slice ao len cap ∧ ∃ (bs : Nat → List Int), ∀ i, i < len → ∃ b off bv, ao = some ⟨b, off, none⟩ ∧ b < w.heap.size ∧ w.cell? ⟨b, off + i, none⟩ = some bv ∧ BytesC w bv (bs i) ∧ (bs i).length ≤ maxLen
theorem open_bodies {H : Type} {enc : TypeId × Value → H} {W : World} {base : Nat} {v : Value} {d : DataW H} {q : List MemPlace} (hv : Value.okWide Try.prog W .any base 22 v)
    (h : DataW.Trod enc Try.prog W 0 (fun _ => true) true 22 v d q) : IsBodies W v := by
  obtain ⟨a, len, cap, rfl⟩ := okWide_slice Try.underlying22 hv
  obtain ⟨fuel, hf⟩ := h
  rcases open_slice Try.underlying22 hf with ⟨h0, _⟩ | ⟨a', len', cap', m, n, D, Pl', hcs, hb, hl, hm, hmm, hx, hi⟩
  · simp [Value.cells] at h0
    obtain ⟨rfl, rfl, rfl⟩ := h0
    exact ⟨none, 0, 0, rfl, fun _ => [], fun i hi => absurd hi (by omega)⟩
  · simp [Value.cells] at hcs
    obtain ⟨rfl, rfl, rfl⟩ := hcs
    have hml : len ≤ m := by rw [hmm]; simp; omega
    have key : ∀ i, i < len → ∃ bv bs, W.cell? (a'.add i) = some bv ∧ BytesC W bv bs ∧ bs.length ≤ maxLen := by
      intro i hil
      obtain ⟨cs', hc, ht'⟩ := hi i (by omega)
      rw [cells26] at hc
      obtain ⟨bv, bs, e, hB, hL⟩ := bytes_open ht'
      obtain ⟨_, hcl, hat⟩ := World.cells?_some hc
      have h0 := hat 0 (by omega)
      rw [e] at h0
      have h1 : W.cell? (a'.add (i * 1)) = some bv := h0
      rw [Nat.mul_one] at h1
      exact ⟨bv, bs, h1, hB, hL⟩
    by_cases hz : len = 0
    · subst hz
      exact ⟨_, 0, cap, rfl, fun _ => [], fun i hi => absurd hi (by omega)⟩
    obtain ⟨b, off, spot⟩ := a'
    obtain ⟨bv0, _, hk0, _⟩ := key 0 (by omega)
    have hspot : spot = none := by simpa [Addr.add] using World.cell?_spot hk0
    subst hspot
    have hlt := World.block_lt_of_cell? _ _ hk0
    have key2 : ∀ i, ∃ bs : List Int, i < len → ∃ bv, W.cell? ⟨b, off + i, none⟩ = some bv ∧ BytesC W bv bs ∧ bs.length ≤ maxLen := fun i => by
      by_cases hil : i < len
      · obtain ⟨bv, bs, h1, h2, h3⟩ := key i hil
        rw [Go.WideShapes.add_plain] at h1
        exact ⟨bs, fun _ => ⟨bv, h1, h2, h3⟩⟩
      · exact ⟨[], fun h => absurd h hil⟩
    refine ⟨_, len, cap, rfl, fun i => Classical.choose (key2 i), fun i hil => ?_⟩
    obtain ⟨bv, h1, h2, h3⟩ := Classical.choose_spec (key2 i) hil
    exact ⟨b, off, bv, rfl, hlt, h1, h2, h3⟩
end Go.Proofs.Ytjoikochpkfoaaa
