/- The law's argument opened; what the second loop keeps. -/
import Derived.Test.YthgjmngaamoofaaMemH
import Derived.Deep.Slices
import Derived.Deep.Fields
import Derived.ChangeSame
import Derived.OpenShut
namespace Go.Proofs.Ythgjmngaamoofaa
open Go.ChangeShapes Go.WideShapes Go.Deep Go.RowKit
set_option linter.unusedVariables false

section
variable {H : Type} {enc : TypeId × Value → H} {P : Program} {w : World} {base : Nat} {spare : Nat → Bool} {held : Bool} {fuel : Nat} {t : TypeId} {cs : List Value} {x : DataW H × List MemPlace}
theorem field_reads {fs : Array Field} (ht : P.underlying t = some (.struct fs)) (h : DataW.trod enc P w base spare held fuel t cs = some x) {i : Nat} {f : Field} (hi : fs[i]? = some f) :
    ∃ (n : Nat) (y : DataW H × List MemPlace), DataW.trod enc P w base spare held n f.type ((cs.drop f.offset).take (P.cellsOf f.type)) = some y := by
  obtain ⟨xs, n, _, _, _, hlen, hf⟩ := DataW.trod_struct ht h
  have hlt : i < xs.length := by rw [hlen]; exact (Array.getElem?_eq_some_iff.1 hi).1
  exact ⟨n, xs[i], by rw [hf i f hi, List.getElem?_eq_getElem hlt]⟩
theorem field_int {fs : Array Field} {k : IntKind} (ht : P.underlying t = some (.struct fs)) (h : DataW.trod enc P w base spare held fuel t cs = some x) {i : Nat} {f : Field} (hi : fs[i]? = some f)
    (he : P.underlying f.type = some (.int k)) (hc : P.cellsOf f.type = 1) : ∃ n, cs[f.offset]? = some (.int k n) ∧ (Lit.int k n).wf = true := by
  obtain ⟨m, y, hy⟩ := field_reads ht h hi
  obtain ⟨n, e, _, wn⟩ := DataW.trod_int he hy
  refine ⟨n, ?_, wn⟩
  rw [hc] at e
  have h0 : ((cs.drop f.offset).take 1)[0]? = some (.int k n) := by rw [e]; rfl
  rw [List.getElem?_take, if_pos (by decide), List.getElem?_drop] at h0
  simpa using h0
end

theorem cells3 : Try.prog.cellsOf 3 = 1 := by kernel_rfl
theorem cells29 : Try.prog.cellsOf 29 = 3 := by kernel_rfl

/-- What a walk is told of a slice of words that came in. -/
def MemsU (w : World) (ao : Option Addr) (len : Nat) (z : Nat → Nat → Int) : Prop :=
  ∀ i, i < len → ∃ b off, ao = some ⟨b, off, none⟩ ∧ b < w.heap.size ∧ ∀ j, j < 3 → w.cell? ⟨b, off + (i * 3 + j), none⟩ = some (.int .i64 (z i j))
def IsMems (w : World) (v : Value) : Prop := ∃ ao len cap z, v = .slice ao len cap ∧ len ≤ maxLen ∧ MemsU w ao len z

theorem open_mems {H : Type} {enc : TypeId × Value → H} {W : World} {base : Nat} {v : Value} {d : DataW H} {q : List MemPlace} (hv : Value.okWide Try.prog W .any base 22 v)
    (h : DataW.Trod enc Try.prog W 0 (fun _ => true) true 22 v d q) : IsMems W v := by
  obtain ⟨a, len, cap, rfl⟩ := okWide_slice Try.underlying22 hv
  obtain ⟨fuel, hf⟩ := h
  rcases open_slice Try.underlying22 hf with ⟨h0, _⟩ | ⟨a', len', cap', m, n, D, Pl, hcs, hb, hl, hm, hmm, hx, hi⟩
  · simp [Value.cells] at h0
    obtain ⟨rfl, rfl, rfl⟩ := h0
    exact ⟨none, 0, 0, fun _ _ => 0, rfl, by decide, fun i hi => absurd hi (by omega)⟩
  · simp [Value.cells] at hcs
    obtain ⟨rfl, rfl, rfl⟩ := hcs
    by_cases hz : len = 0
    · subst hz; exact ⟨_, 0, _, fun _ _ => 0, rfl, by decide, fun i hi => absurd hi (by omega)⟩
    have hml : len ≤ m := by rw [hmm]; simp; omega
    have key : ∀ i, i < len → ∀ j, j < 3 → ∃ n : Int, W.cell? ((a'.add (i * 3)).add j) = some (.int .i64 n) := by
      intro i hil j hj
      obtain ⟨cs', hc, ht'⟩ := hi i (by omega)
      rw [cells29] at hc
      obtain ⟨_, hcl, hat⟩ := World.cells?_some hc
      rw [hat j (by omega)]
      have : j = 0 ∨ j = 1 ∨ j = 2 := by omega
      rcases this with rfl | rfl | rfl
      · obtain ⟨n0, e0, w0⟩ := field_int Try.underlying29 ht' (i := 0) rfl Try.underlying3 cells3; exact ⟨n0, e0⟩
      · obtain ⟨n0, e0, w0⟩ := field_int Try.underlying29 ht' (i := 1) rfl Try.underlying3 cells3; exact ⟨n0, e0⟩
      · obtain ⟨n0, e0, w0⟩ := field_int Try.underlying29 ht' (i := 2) rfl Try.underlying3 cells3; exact ⟨n0, e0⟩
    obtain ⟨b, off, spot⟩ := a'
    obtain ⟨n0, hn0⟩ := key 0 (by omega) 0 (by omega)
    have hspot : spot = none := by simpa [Addr.add] using World.cell?_spot hn0
    subst hspot
    have hadd : ∀ (i j : Nat), ((⟨b, off, none⟩ : Addr).add (i * 3)).add j = ⟨b, off + (i * 3 + j), none⟩ := fun i j => by rw [Go.WideShapes.add_plain, Go.WideShapes.add_plain, Nat.add_assoc]
    have hlt := World.block_lt_of_cell? _ _ hn0
    refine ⟨_, len, cap, fun i j => match W.cell? ⟨b, off + (i * 3 + j), none⟩ with | some (.int .i64 n) => n | _ => 0, rfl, by omega, fun i hil => ⟨b, off, rfl, hlt, fun j hj => ?_⟩⟩
    obtain ⟨n, hn⟩ := key i hil j hj
    rw [hadd] at hn
    simp only [hn]

/-- The words of a table in memory. -/
def WordsAt (w : World) (ao : Option Addr) (T : Pl.Tab) (l : List Nat) : Prop := ∀ i (h : i < l.length), ∃ g off, ao = some ⟨g, off, none⟩ ∧ g < w.heap.size ∧ ∀ m, m < 3 → w.cell? ⟨g, off + (i * 3 + m), none⟩ = (T.word l[i])[m]?
theorem WordsAt.below {w w' : World} {ao : Option Addr} {T : Pl.Tab} {l : List Nat} (h : WordsAt w ao T l) (hb : Below w.heap.size w w') : WordsAt w' ao T l := fun i hi => by
  obtain ⟨g, off, h1, h2, h3⟩ := h i hi
  exact ⟨g, off, h1, Nat.lt_of_lt_of_le h2 hb.size, fun m hm => (hb.cell (p := ⟨g, off + (i * 3 + m), none⟩) h2).trans (h3 m hm)⟩
theorem words_get (T : Pl.Tab) (l : List Nat) (i j : Nat) (h : i < l.length) (hj : j < 3) : (l.flatMap T.word)[i * 3 + j]? = (T.word l[i])[j]? := by
  induction l generalizing i with
  | nil => exact absurd h (by simp)
  | cons e l ih =>
    rw [List.flatMap_cons]
    cases i with
    | zero =>
      rw [List.getElem?_append_left (by simp [Pl.Tab.word]; omega)]
      simp
    | succ i =>
      rw [List.getElem?_append_right (by simp [Pl.Tab.word]; omega)]
      have h' : i < l.length := by simp at h; omega
      rw [show (i + 1) * 3 + j - (T.word e).length = i * 3 + j from by simp [Pl.Tab.word]; omega, ih i h']
      simp
theorem words_of {w : World} {base : Nat} {v : Value} {T : Pl.Tab} {l : List Nat} (h : w.ownsRow base 29 3 v l.length (l.flatMap T.word)) : ∃ ao cap, v = .slice ao l.length cap ∧ WordsAt w ao T l := by
  rcases h.2 with ⟨rfl, h0⟩ | ⟨g, cap, cur, rfl, hb, hg, _, _, _, ht⟩
  · exact ⟨none, 0, by rw [h0], fun i hi => absurd hi (by omega)⟩
  · refine ⟨_, cap, rfl, fun i hi => ⟨g, 0, rfl, (Array.getElem?_eq_some_iff.1 hg).1, fun m hm => ?_⟩⟩
    have h1 := words_get T l i m hi hm
    have h2 : (l.flatMap T.word)[i * 3 + m]? = cur.toList[i * 3 + m]? := by
      rw [← ht, List.getElem?_take, if_pos (by omega)]
    have hlt : m < (T.word l[i]).length := by simp [Pl.Tab.word]; omega
    have h3 : cur.toList[i * 3 + m]? = some ((T.word l[i])[m]) := by rw [← h2, h1, List.getElem?_eq_getElem hlt]
    rw [List.getElem?_eq_getElem hlt]
    have h4 := World.news_of_block hg _ _ h3
    rw [Go.WideShapes.add_plain] at h4
    exact h4

namespace Pl
theorem ks_sorted (T : Tab) (n : Nat) : List.Pairwise (· < ·) (T.ks n) := by unfold Tab.ks; exact List.pairwise_lt_range.filter _
/-- Of some nodes those that count as there. -/
def lvt (T : Tab) (l : List Nat) : List Nat := l.filter fun k => there (T.st k)
theorem lvt_yes {T : Tab} {l : List Nat} {j : Nat} (h : j < l.length) (h1 : there (T.st l[j]) = true) : lvt T (l.take (j + 1)) = lvt T (l.take j) ++ [l[j]] := by
  unfold lvt; rw [List.take_add_one, List.getElem?_eq_getElem h, List.filter_append]
  simp only [Option.toList_some, List.filter_cons, h1, if_true, List.filter_nil]
theorem lvt_no {T : Tab} {l : List Nat} {j : Nat} (h : j < l.length) (h1 : there (T.st l[j]) = false) : lvt T (l.take (j + 1)) = lvt T (l.take j) := by
  unfold lvt; rw [List.take_add_one, List.getElem?_eq_getElem h, List.filter_append]
  simp only [Option.toList_some, List.filter_cons, h1, Bool.false_eq_true, if_false, List.filter_nil, List.append_nil]
theorem lvt_len (T : Tab) (l : List Nat) : (lvt T l).length ≤ l.length := List.length_filter_le _ _
theorem but_snoc_yes {sf : Int} {l : List Nat} {k : Nat} (h : ((k : Int) != sf) = true) : but sf (l ++ [k]) = but sf l ++ [k] := by
  unfold but; rw [List.filter_append]; simp only [List.filter_cons, h, if_true, List.filter_nil]
theorem but_snoc_no {sf : Int} {l : List Nat} {k : Nat} (h : ((k : Int) != sf) = false) : but sf (l ++ [k]) = but sf l := by
  unfold but; rw [List.filter_append]; simp only [List.filter_cons, h, Bool.false_eq_true, if_false, List.filter_nil, List.append_nil]
end Pl

/-- The two lists that the law builds. -/
structure Two (w1 wr : World) (o p : Value) (l m : List Nat) : Prop where
  own : wr.ownsRow w1.heap.size 3 1 o l.length (Pl.ints l)
  own' : wr.ownsRow w1.heap.size 3 1 p m.length (Pl.ints m)
  ne : ∀ g, o.ownBlock = some g → p.ownBlock ≠ some g
  bel : Below w1.heap.size w1 wr
theorem Two.symm {w1 wr : World} {o p : Value} {l m : List Nat} (h : Two w1 wr o p l m) : Two w1 wr p o m l := ⟨h.own', h.own, fun g hg e => h.ne g e hg, h.bel⟩
theorem Two.below {w1 wr W : World} {o p : Value} {l m : List Nat} (h : Two w1 wr o p l m) (hb : Below wr.heap.size wr W) : Two w1 W o p l m :=
  ⟨ownsRow_below h.own hb, ownsRow_below h.own' hb, h.ne, h.bel.trans (hb.mono h.bel.size)⟩
theorem Two.push {w1 wr w' : World} {o p : Value} {l m : List Nat} {k g cap H : Nat} (h : Two w1 wr o p l m) (hg : wr.grownBy w' o.ownBlock) (ho : w'.ownsRow w1.heap.size 3 1 (.slice (some ⟨g, 0, none⟩) (l.length + 1) cap) (l.length + 1) (Pl.ints l ++ [.int .i64 (k : Int)]))
    (hat : o.ownBlock = some g ∨ g = H) (hH : wr.heap.size = H) : Two w1 w' (.slice (some ⟨g, 0, none⟩) (l.length + 1) cap) p (l ++ [k]) m := by
  refine ⟨?_, ⟨h.own'.1, ?_⟩, ?_, h.bel.grown hg h.bel.size (fun j hj => (h.own.lt j hj).1)⟩
  · rw [Pl.ints_append, List.length_append]; exact ho
  · rcases h.own'.2 with hn | ⟨gp, cap', cur, hvg, hbg, hgp, rest⟩
    · exact .inl hn
    · refine .inr ⟨gp, cap', cur, hvg, hbg, ?_, rest⟩
      refine (hg.block gp (Array.getElem?_eq_some_iff.1 hgp).1 (fun e => h.ne gp e.symm ?_)).trans hgp
      rw [hvg]; rfl
  · intro g' hg' e
    cases hg'
    rcases hat with h1 | h1
    · exact h.ne g h1 e
    · have := (h.own'.lt g e).2; omega
end Go.Proofs.Ythgjmngaamoofaa
