/- FenceRises. -/
import Derived.Test.YtjkaegdlpmpneaaFenT
namespace Go.Proofs.Ytjkaegdlpmpneaa
open Go.RowKit Go.ChangeShapes Go.WideShapes Go.Deep
set_option linter.unusedVariables false

theorem cells4 : Try.prog.cellsOf 4 = 1 := by kernel_rfl

/-- A slice of bools that came in. -/
def BoolsAt (w : World) (ao : Option Addr) (len : Nat) : Prop :=
  ∀ i, i < len → ∃ b off t, ao = some ⟨b, off, none⟩ ∧ b < w.heap.size ∧ w.cell? ⟨b, off + i, none⟩ = some (.bool t)
def IsBools (w : World) (v : Value) : Prop := ∃ ao len cap, v = .slice ao len cap ∧ len ≤ cap ∧ cap ≤ maxLen ∧ BoolsAt w ao len
theorem BoolsAt.below {w w' : World} {ao : Option Addr} {len : Nat} (h : BoolsAt w ao len) (hb : Below w.heap.size w w') : BoolsAt w' ao len := fun i hi => by
  obtain ⟨b, off, t, h1, h2, h3⟩ := h i hi
  exact ⟨b, off, t, h1, Nat.lt_of_lt_of_le h2 hb.size, (hb.cell (p := ⟨b, off + i, none⟩) h2).trans h3⟩

theorem open_bools {H : Type} {enc : TypeId × Value → H} {W : World} {base : Nat} {v : Value} {d : DataW H} {q : List MemPlace} (hv : Value.okWide Try.prog W .any base 49 v)
    (h : DataW.Trod enc Try.prog W 0 (fun _ => true) true 49 v d q) : IsBools W v := by
  obtain ⟨a, len, cap, rfl⟩ := okWide_slice Try.underlying49 hv
  obtain ⟨fuel, hf⟩ := h
  rcases open_slice Try.underlying49 hf with ⟨h0, _⟩ | ⟨a', len', cap', m, n, D, Pl, hcs, hb, hl, hm, hmm, hx, hi⟩
  · simp [Value.cells] at h0
    obtain ⟨rfl, rfl, rfl⟩ := h0
    exact ⟨none, 0, 0, rfl, Nat.le_refl _, by decide, fun i hi => absurd hi (by omega)⟩
  · simp [Value.cells] at hcs
    obtain ⟨rfl, rfl, rfl⟩ := hcs
    have hml : len ≤ m := by rw [hmm]; simp; omega
    refine ⟨_, len, cap, rfl, hl, hm, fun i hil => ?_⟩
    obtain ⟨cs', hc, ht'⟩ := hi i (by omega)
    rw [cells4] at hc
    obtain ⟨t, e, _⟩ := DataW.trod_bool Try.underlying4 ht'
    obtain ⟨_, hcl, hat⟩ := World.cells?_some hc
    have h0 := hat 0 (by omega)
    rw [e] at h0
    have h1 : W.cell? (a'.add (i * 1)) = some (.bool t) := h0
    rw [Nat.mul_one] at h1
    obtain ⟨b, off, spot⟩ := a'
    have hz : ∃ t0, W.cell? ((⟨b, off, spot⟩ : Addr).add (0 * 1)) = some (.bool t0) := by
      obtain ⟨cs0, hc0, ht0⟩ := hi 0 (by omega)
      rw [cells4] at hc0
      obtain ⟨t0, e0, _⟩ := DataW.trod_bool Try.underlying4 ht0
      obtain ⟨_, _, hat0⟩ := World.cells?_some hc0
      have h00 := hat0 0 (by omega)
      rw [e0] at h00
      exact ⟨t0, h00⟩
    obtain ⟨t0, ht0⟩ := hz
    have hspot : spot = none := by simpa [Addr.add] using World.cell?_spot ht0
    subst hspot
    rw [Go.WideShapes.add_plain] at h1
    exact ⟨b, off, t, rfl, World.block_lt_of_cell? _ _ h1, h1⟩

theorem code_ok {fen : Nat → Int} {x r b : Int} (h0 : Pl.inB x 0 7 = true) (h1 : (Pl.inB r 0 1000 && Pl.inB b 0 7) = true) : Pl.code fen x (fen x.toNat) r b = 0 := by
  unfold Pl.code; rw [if_neg (by rw [h0]; decide), if_neg (by rw [h1]; decide), if_neg (by simp)]
theorem code_arg {fen : Nat → Int} {x f r b : Int} (h0 : Pl.inB x 0 7 = true) (h1 : (Pl.inB r 0 1000 && Pl.inB b 0 7) = false) : Pl.code fen x f r b = 2 := by
  unfold Pl.code; rw [if_neg (by rw [h0]; decide), if_pos h1]
theorem code_out {fen : Nat → Int} {x f r b : Int} (h0 : Pl.inB x 0 7 = false) : Pl.code fen x f r b = 2 := by
  unfold Pl.code; rw [if_pos h0]
theorem code_twice {fen : Nat → Int} {x f r b : Int} (h0 : Pl.inB x 0 7 = true) (h1 : (Pl.inB r 0 1000 && Pl.inB b 0 7) = true) (h2 : fen x.toNat = f + 1) : Pl.code fen x f r b = 13 := by
  unfold Pl.code; rw [if_neg (by rw [h0]; decide), if_neg (by rw [h1]; decide), if_pos (by rw [h2, bne_iff_ne]; omega)]
theorem es_no {es : List Pl.Ent} {x f r b : Int} (h : Pl.code (Pl.fenOf es) x f r b ≠ 0) : Pl.es' es x f r b = es := by unfold Pl.es'; rw [if_neg h]
theorem es_yes {es : List Pl.Ent} {x f r b : Int} (h : Pl.code (Pl.fenOf es) x f r b = 0) : Pl.es' es x f r b = es ++ [⟨x.toNat, Pl.fenOf es x.toNat + 1, Pl.repOf es x.toNat, r, b⟩] := by unfold Pl.es'; rw [if_pos h]

/-- Where the first loop stands: the object, its log. -/
structure At1 (w0 w : World) (B : Nat) (row : Option Nat) (es : List Pl.Ent) : Prop where
  a : LogAt w B row es
  l1 : w0.heap.size ≤ B
  bel : Below w0.heap.size w0 w
theorem At1.below {w0 w w' : World} {B : Nat} {row : Option Nat} {es : List Pl.Ent} (h : At1 w0 w B row es) (hb : Below w.heap.size w w') : At1 w0 w' B row es :=
  ⟨h.a.below hb, h.l1, h.bel.trans (hb.mono h.bel.size)⟩
theorem At1.write {w0 w w' : World} {B : Nat} {row row' : Option Nat} {es es' : List Pl.Ent} (h : At1 w0 w B row es) (A : LogAt w' B row' es') (t : Turned w w' B row) : At1 w0 w' B row' es' :=
  ⟨A, h.l1, t.below h.bel h.l1 (fun g hg => by have := h.a.row_lt g hg; have := h.l1; omega)⟩
end Go.Proofs.Ytjkaegdlpmpneaa
