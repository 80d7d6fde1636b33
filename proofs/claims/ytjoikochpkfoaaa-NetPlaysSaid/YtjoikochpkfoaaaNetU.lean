/- The document's net: its pairs. -/
import Derived.Test.YtjoikochpkfoaaaNetFd
namespace Go.Proofs.Ytjoikochpkfoaaa
open Go.RowKit
set_option linter.unusedVariables false

theorem pair_eq (a b : Int) : Pl.pair a b = (decide (0 ≤ a) && (decide (a < 8) && (decide (0 ≤ b) && (decide (b < 8) && (a != b))))) := by
  unfold Pl.pair
  rw [Bool.eq_iff_iff]
  simp only [Bool.and_eq_true, decide_eq_true_eq, bne_iff_ne]
  omega

theorem refpair_any (a b : Int) (w : World) : Calls Try.prog 33 #[.int .i64 a, .int .i64 b] w fun e w' => e = .returned (.bool (Pl.pair a b)) ∧ Below w.heap.size w w' := by
  rw [pair_eq]
  by_cases c0 : 0 ≤ a
  · have d0 := decide_eq_true c0
    by_cases c1 : a < 8
    · have d1 := decide_eq_true c1
      by_cases c2 : 0 ≤ b
      · have d2 := decide_eq_true c2
        by_cases c3 : b < 8
        · have d3 := decide_eq_true c3
          go_enter Try.func33, Try.ntmps33
          go_wp2_with fail
          go_ret
          exact ⟨by simp [*], Below.refl _ _⟩
        · have d3 := decide_eq_false c3
          go_enter Try.func33, Try.ntmps33
          go_wp2_with fail
          go_ret
          exact ⟨by simp [*], Below.refl _ _⟩
      · have d2 := decide_eq_false c2
        go_enter Try.func33, Try.ntmps33
        go_wp2_with fail
        go_ret
        exact ⟨by simp [*], Below.refl _ _⟩
    · have d1 := decide_eq_false c1
      go_enter Try.func33, Try.ntmps33
      go_wp2_with fail
      go_ret
      exact ⟨by simp [*], Below.refl _ _⟩
  · have d0 := decide_eq_false c0
    go_enter Try.func33, Try.ntmps33
    go_wp2_with fail
    go_ret
    exact ⟨by simp [*], Below.refl _ _⟩

namespace Pl
/-- The document's square of those that are parted, and the program's pairs. -/
def Link (off : Nat → Bool) (T : Off) : Prop := ∀ a b : Nat, a < 8 → b < 8 → a ≠ b → off (a * 8 + b) = look T (min (a : Int) b) (max (a : Int) b)
end Pl

/-- The document's net: its packets, and who is parted. -/
structure RefAt (w : World) (M : Nat) (row : Option Nat) (es : List Pl.Ent) (T : Pl.Off) : Prop where
  obj : ∃ v off, w.rowIs M 49 65 (fun j => if j = 0 then v else .bool (off (j - 1))) ∧ w.ownsRow (M + 1) 41 3 v es.length (Pl.rows es) ∧ v.ownBlock = row ∧ Pl.Link off T
  bodies : ∀ e ∈ es, BytesT w e.bv e.bs
  pairs : ∀ e ∈ es, Pl.pair e.frm e.to = true

theorem RefAt.lt {w : World} {M : Nat} {row : Option Nat} {es : List Pl.Ent} {T : Pl.Off} (h : RefAt w M row es T) : M < w.heap.size := by
  obtain ⟨v, off, hr, _⟩ := h.obj; exact hr.lt
theorem RefAt.row_lt {w : World} {M : Nat} {row : Option Nat} {es : List Pl.Ent} {T : Pl.Off} (h : RefAt w M row es T) : ∀ g, row = some g → M < g ∧ g < w.heap.size := fun g hg => by
  obtain ⟨v, off, _, ho, hb, _⟩ := h.obj
  exact ho.lt g (hb.trans hg)
/-- A block of cells of another type is none of its own. -/
theorem RefAt.cells_ne {w : World} {M : Nat} {row : Option Nat} {es : List Pl.Ent} {T : Pl.Off} (h : RefAt w M row es T) {g : Nat} {t : TypeId} {cs : Array Value} {fr : Nat × Nat} (hg : w.heap[g]? = some (Obj.cells cs t fr)) (h1 : t ≠ 49) (h2 : t ≠ 41) : g ≠ M ∧ some g ≠ row := by
  obtain ⟨v, off, ⟨c, hc, _⟩, ho, hb, _⟩ := h.obj
  refine ⟨?_, ?_⟩
  · rintro rfl; rw [hc] at hg; cases hg; exact h1 rfl
  · intro e
    obtain ⟨cs', hc'⟩ := own_cells ho (hb.trans e.symm)
    rw [hc'] at hg; cases hg; exact h2 rfl
theorem RefAt.map_ne {w : World} {M : Nat} {row : Option Nat} {es : List Pl.Ent} {T : Pl.Off} (h : RefAt w M row es T) {g : Nat} {me : Array MapEntry} {c : Nat} (hg : w.heap[g]? = some (Obj.map me c)) : g ≠ M ∧ some g ≠ row := by
  obtain ⟨v, off, ⟨c, hc, _⟩, ho, hb, _⟩ := h.obj
  refine ⟨?_, ?_⟩
  · rintro rfl; rw [hc] at hg; cases hg
  · intro e
    obtain ⟨cs', hc'⟩ := own_cells ho (hb.trans e.symm)
    rw [hc'] at hg; cases hg
theorem RefAt.keepB {w w' : World} {M : Nat} {row : Option Nat} {es : List Pl.Ent} {T : Pl.Off} (h : RefAt w M row es T) (t : Turned w w' M row M) : KeepB w w' := fun g cs fr hg => by
  obtain ⟨h1, h2⟩ := h.cells_ne hg (by decide) (by decide)
  exact t.same g (Array.getElem?_eq_some_iff.1 hg).1 h1 h1 h2
/-- What is its own is as it was. -/
theorem RefAt.keep {w w' : World} {M : Nat} {row : Option Nat} {es : List Pl.Ent} {T : Pl.Off} (h : RefAt w M row es T) (h1 : w'.heap[M]? = w.heap[M]?) (h2 : ∀ g, row = some g → w'.heap[g]? = w.heap[g]?) (h3 : ∀ e ∈ es, BytesT w' e.bv e.bs) : RefAt w' M row es T := by
  obtain ⟨v, off, hr, ho, hv, hl⟩ := h.obj
  exact ⟨⟨v, off, hr.of_block h1, ownsRow_of ho (fun g hg => h2 g (hv ▸ hg)), hv, hl⟩, h3, h.pairs⟩
theorem RefAt.below {w w' : World} {M : Nat} {row : Option Nat} {es : List Pl.Ent} {T : Pl.Off} (h : RefAt w M row es T) (hb : Below w.heap.size w w') : RefAt w' M row es T :=
  h.keep (hb.block M h.lt) (fun g hg => hb.block g (h.row_lt g hg).2) (fun e he => (h.bodies e he).below hb)
theorem RefAt.cell0 {w : World} {M : Nat} {row : Option Nat} {es : List Pl.Ent} {T : Pl.Off} (h : RefAt w M row es T) : ∃ ao cap, w.cell? ⟨M, 0, none⟩ = some (.slice ao es.length cap) := by
  obtain ⟨v, off, hr, ho, hv, _⟩ := h.obj
  have c0 := hr.cell (i := 0) (by decide)
  simp only [if_true] at c0
  rcases ho.2 with ⟨rfl, h0⟩ | ⟨g, cap, cur, rfl, _⟩
  · exact ⟨none, 0, by rw [c0, h0]⟩
  · exact ⟨_, cap, c0⟩
theorem RefAt.sq {w : World} {M : Nat} {row : Option Nat} {es : List Pl.Ent} {T : Pl.Off} (h : RefAt w M row es T) (a b : Nat) (ha : a < 8) (hb : b < 8) (hne : a ≠ b) : w.cell? ⟨M, 1 + a * 8 + b, none⟩ = some (.bool (Pl.look T (min (a : Int) b) (max (a : Int) b))) := by
  obtain ⟨v, off, hr, ho, hv, hl⟩ := h.obj
  have c0 := hr.cell (i := 1 + a * 8 + b) (by omega)
  rw [if_neg (by omega), show 1 + a * 8 + b - 1 = a * 8 + b from by omega, hl a b ha hb hne] at c0
  exact c0

theorem rparted_any (M : Nat) (row : Option Nat) (es : List Pl.Ent) (T : Pl.Off) (a b : Int) (w : World) (h : RefAt w M row es T) :
    Calls Try.prog 19 #[.pointer (some ⟨M, 0, none⟩), .int .i64 a, .int .i64 b] w fun e w' => e = .returned (.bool (Pl.parted T a b)) ∧ Below w.heap.size w w' := by
  have HH := Lib.hid h
  clear h
  unfold Pl.parted
  cases hp : Pl.pair a b
  · have HP := Lib.hid hp
    clear hp
    go_enter Try.func19, Try.ntmps19
    go_wp2_with fail
    refine (refpair_any a b _).mono ?_
    rintro e w1 ⟨rfl, b1⟩
    rw [HP.out]
    have HB := Lib.hid b1
    clear b1
    go_wp2_with fail
    go_ret
    exact ⟨rfl, HB.out⟩
  · have h0 := hp
    rw [pair_eq] at h0
    simp only [Bool.and_eq_true, decide_eq_true_eq, bne_iff_ne] at h0
    obtain ⟨a0, a8, b0, b8, hne⟩ := h0
    obtain ⟨a, rfl⟩ := Int.eq_ofNat_of_zero_le a0
    obtain ⟨b, rfl⟩ := Int.eq_ofNat_of_zero_le b0
    have hq := fun (W : World) (H : RefAt W M row es T) => H.sq a b (by omega) (by omega) (by omega)
    rw [Bool.true_and]
    generalize Pl.look T (min (a : Int) b) (max (a : Int) b) = lk at *
    have HQ := Lib.hid hq
    have HP := Lib.hid hp
    clear hq hp a0 b0 hne
    go_enter Try.func19, Try.ntmps19
    go_wp2_with fail
    refine (refpair_any a b _).mono ?_
    rintro e w1 ⟨rfl, b1⟩
    rw [HP.out]
    have c0 := HQ.out _ (HH.out.below b1)
    have HB := Lib.hid b1
    clear b1
    go_wp2_with fail
    go_ret
    exact ⟨rfl, HB.out⟩
end Go.Proofs.Ytjoikochpkfoaaa
