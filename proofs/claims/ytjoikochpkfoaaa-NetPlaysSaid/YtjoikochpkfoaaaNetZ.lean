/- The document's net: its contracts in one form each. -/
import Derived.Test.YtjoikochpkfoaaaNetY
namespace Go.Proofs.Ytjoikochpkfoaaa
open Go.RowKit
set_option linter.unusedVariables false

theorem step_r {row row' : Option Nat} {k : Nat} (r : row' = row ∨ ∃ g, row' = some g ∧ k ≤ g) : ∀ g, row' = some g → row = some g ∨ k ≤ g := fun g hg => by
  rcases r with r | ⟨g', r, hg'⟩
  · exact .inl (by rw [← r, hg])
  · rw [r] at hg; cases hg; exact .inr hg'

theorem rsend_any (M : Nat) (row : Option Nat) (es : List Pl.Ent) (T : Pl.Off) (A B : Int) (v : Value) (bs : List Int) (w : World) (h : RefAt w M row es T) (hn : es.length ≤ 64) (hb : BytesC w v bs) :
    Calls Try.prog 27 #[.pointer (some ⟨M, 0, none⟩), .int .i64 A, .int .i64 B, v] w fun e w' => e = .returned (.int .i64 (Pl.sendF A B bs (Pl.abs es) T).err) ∧ ∃ es', StepR w w' M row es' T ∧ (Pl.abs es' = (Pl.sendF A B bs (Pl.abs es) T).ps ∧ ∀ x ∈ es', x ∈ es ∨ NewB w.heap.size x.bv) := by
  obtain ⟨ao, cap, hv, _⟩ := id hb
  cases hp : Pl.pair A B with
  | false =>
    have e0 : Pl.sendF A B bs (Pl.abs es) T = ⟨Pl.zero, 2, Pl.abs es, T⟩ := by unfold Pl.sendF; rw [if_pos hp]
    rw [e0, hv]
    refine (rsend_arg M A B ao _ cap w hp).mono ?_
    rintro e w' ⟨rfl, hb⟩
    exact ⟨rfl, es, StepR.of_below h hb, rfl, fun x hx => .inl hx⟩
  | true =>
    by_cases hl : 4096 < bs.length
    · have e0 : Pl.sendF A B bs (Pl.abs es) T = ⟨Pl.zero, 6, Pl.abs es, T⟩ := by unfold Pl.sendF; rw [if_neg (by rw [hp]; decide), if_pos hl]
      rw [e0, hv]
      refine (rsend_long M A B ao _ cap w hp hl).mono ?_
      rintro e w' ⟨rfl, hb⟩
      exact ⟨rfl, es, StepR.of_below h hb, rfl, fun x hx => .inl hx⟩
    · by_cases hf : 64 ≤ es.length
      · have e0 : Pl.sendF A B bs (Pl.abs es) T = ⟨Pl.zero, 7, Pl.abs es, T⟩ := by unfold Pl.sendF; rw [if_neg (by rw [hp]; decide), if_neg hl, if_pos (by rw [Pl.abs_len]; exact hf)]
        rw [e0, hv]
        obtain ⟨ao', cap', c0⟩ := h.cell0
        refine (rsend_full M A B ao ao' _ cap es.length cap' w hp (by omega) h.lt hf c0).mono ?_
        rintro e w' ⟨rfl, hb⟩
        exact ⟨rfl, es, StepR.of_below h hb, rfl, fun x hx => .inl hx⟩
      · have e0 : Pl.sendF A B bs (Pl.abs es) T = ⟨Pl.zero, 0, Pl.abs es ++ [⟨A, B, bs⟩], T⟩ := by unfold Pl.sendF; rw [if_neg (by rw [hp]; decide), if_neg hl, if_neg (by rw [Pl.abs_len]; exact hf)]
        rw [e0]
        refine (rsend_ok M row es T A B v bs w h hp hb (by omega) (by omega)).mono ?_
        rintro e w' ⟨rfl, row', ⟨v', A', nb⟩, t, r⟩
        exact ⟨rfl, _, ⟨row', A', t, step_r r⟩, by unfold Pl.abs; rw [List.map_append]; rfl, fun x hx => by
          rcases List.mem_append.1 hx with hx | hx
          · exact .inl hx
          · obtain rfl := List.mem_singleton.1 hx
            exact .inr nb⟩

theorem rcopy_any (M : Nat) (row : Option Nat) (es : List Pl.Ent) (T : Pl.Off) (A : Int) (w : World) (h : RefAt w M row es T) (hl : ∀ e ∈ es, e.bs.length ≤ 4096) :
    Calls Try.prog 29 #[.pointer (some ⟨M, 0, none⟩), .int .i64 A] w fun e w' => ∃ v', e = .returned (.tuple #[.agg #[.int .i64 (Pl.copyF A (Pl.abs es) T).pk.frm, .int .i64 (Pl.copyF A (Pl.abs es) T).pk.to, v'], .int .i64 (Pl.copyF A (Pl.abs es) T).err]) ∧ BytesT w' v' (Pl.copyF A (Pl.abs es) T).pk.bs ∧ Below w.heap.size w w' := by
  by_cases h0 : A < 0
  · have e0 : Pl.copyF A (Pl.abs es) T = ⟨Pl.zero, 8, Pl.abs es, T⟩ := by unfold Pl.copyF; rw [if_pos h0]
    rw [e0]
    refine (rcopy_none M A row es T w h (.inl h0)).mono ?_
    rintro e w' ⟨rfl, hb⟩
    exact ⟨_, rfl, bytes_nil _, hb⟩
  · obtain ⟨i, rfl⟩ := Int.eq_ofNat_of_zero_le (show 0 ≤ A by omega)
    by_cases hi : i < es.length
    · cases hp : Pl.parted T (es[i]).frm (es[i]).to with
      | true =>
        have e0 : Pl.copyF (i : Int) (Pl.abs es) T = ⟨Pl.zero, 10, Pl.abs es, T⟩ := by
          unfold Pl.copyF; rw [if_neg h0, show ((i : Int)).toNat = i from rfl, Pl.abs_get es i hi]; exact if_pos hp
        rw [e0]
        refine (rcopy_down M i row es T w h hi hp).mono ?_
        rintro e w' ⟨rfl, hb⟩
        exact ⟨_, rfl, bytes_nil _, hb⟩
      | false =>
        have e0 : Pl.copyF (i : Int) (Pl.abs es) T = ⟨(es[i]).pk, 0, Pl.abs es, T⟩ := by
          unfold Pl.copyF; rw [if_neg h0, show ((i : Int)).toNat = i from rfl, Pl.abs_get es i hi]; exact if_neg (show ¬ Pl.parted T (es[i]).frm (es[i]).to = true from by rw [hp]; decide)
        rw [e0]
        exact rcopy_ok M i row es T w h hi hp (by have := hl es[i] (List.getElem_mem hi); omega)
    · have e0 : Pl.copyF (i : Int) (Pl.abs es) T = ⟨Pl.zero, 8, Pl.abs es, T⟩ := by unfold Pl.copyF; rw [if_neg h0, show ((i : Int)).toNat = i from rfl, Pl.abs_no es i (by omega)]
      rw [e0]
      refine (rcopy_none M i row es T w h (.inr (by omega))).mono ?_
      rintro e w' ⟨rfl, hb⟩
      exact ⟨_, rfl, bytes_nil _, hb⟩

theorem rdrop_any (M : Nat) (row : Option Nat) (es : List Pl.Ent) (T : Pl.Off) (A : Int) (w : World) (h : RefAt w M row es T) (hn : es.length ≤ 64) :
    Calls Try.prog 30 #[.pointer (some ⟨M, 0, none⟩), .int .i64 A] w fun e w' => e = .returned (.int .i64 (Pl.dropF A (Pl.abs es) T).err) ∧ ∃ es', StepR w w' M row es' T ∧ (Pl.abs es' = (Pl.dropF A (Pl.abs es) T).ps ∧ ∀ x ∈ es', x ∈ es) := by
  by_cases h0 : A < 0
  · have e0 : Pl.dropF A (Pl.abs es) T = ⟨Pl.zero, 8, Pl.abs es, T⟩ := by unfold Pl.dropF; rw [if_pos h0]
    rw [e0]
    refine (rdrop_none M A row es T w h (.inl h0)).mono ?_
    rintro e w' ⟨rfl, hb⟩
    exact ⟨rfl, es, StepR.of_below h hb, rfl, fun x hx => hx⟩
  · obtain ⟨i, rfl⟩ := Int.eq_ofNat_of_zero_le (show 0 ≤ A by omega)
    by_cases hi : i < es.length
    · have e0 : Pl.dropF (i : Int) (Pl.abs es) T = ⟨Pl.zero, 0, Pl.less (Pl.abs es) i, T⟩ := by unfold Pl.dropF; rw [if_neg h0, show ((i : Int)).toNat = i from rfl, Pl.abs_get es i hi]
      rw [e0]
      refine (rdrop_ok M i row es T w h hi hn).mono ?_
      rintro e w' ⟨rfl, S⟩
      exact ⟨rfl, _, S, Pl.abs_less es i, fun x hx => ents_less hx⟩
    · have e0 : Pl.dropF (i : Int) (Pl.abs es) T = ⟨Pl.zero, 8, Pl.abs es, T⟩ := by unfold Pl.dropF; rw [if_neg h0, show ((i : Int)).toNat = i from rfl, Pl.abs_no es i (by omega)]
      rw [e0]
      refine (rdrop_none M i row es T w h (.inr (by omega))).mono ?_
      rintro e w' ⟨rfl, hb⟩
      exact ⟨rfl, es, StepR.of_below h hb, rfl, fun x hx => hx⟩

theorem rtake_any (M : Nat) (row : Option Nat) (es : List Pl.Ent) (T : Pl.Off) (A : Int) (w : World) (h : RefAt w M row es T) (hn : es.length ≤ 64) (hl : ∀ e ∈ es, e.bs.length ≤ 4096) :
    Calls Try.prog 28 #[.pointer (some ⟨M, 0, none⟩), .int .i64 A] w fun e w' => ∃ v', e = .returned (.tuple #[.agg #[.int .i64 (Pl.takeF A (Pl.abs es) T).pk.frm, .int .i64 (Pl.takeF A (Pl.abs es) T).pk.to, v'], .int .i64 (Pl.takeF A (Pl.abs es) T).err]) ∧ BytesT w' v' (Pl.takeF A (Pl.abs es) T).pk.bs ∧ ∃ es', StepR w w' M row es' T ∧ (Pl.abs es' = (Pl.takeF A (Pl.abs es) T).ps ∧ ∀ x ∈ es', x ∈ es) := by
  have fin : ∀ es', (Pl.abs es' = (Pl.dropF A (Pl.abs es) T).ps ∧ ∀ x ∈ es', x ∈ es) → (∀ W, RefAt W M row es T → Calls Try.prog 30 #[.pointer (some ⟨M, 0, none⟩), .int .i64 A] W fun e w' => (∃ d, e = .returned (.int .i64 d)) ∧ StepR W w' M row es' T) →
      Calls Try.prog 28 #[.pointer (some ⟨M, 0, none⟩), .int .i64 A] w fun e w' => ∃ v', e = .returned (.tuple #[.agg #[.int .i64 (Pl.takeF A (Pl.abs es) T).pk.frm, .int .i64 (Pl.takeF A (Pl.abs es) T).pk.to, v'], .int .i64 (Pl.takeF A (Pl.abs es) T).err]) ∧ BytesT w' v' (Pl.takeF A (Pl.abs es) T).pk.bs ∧ ∃ es', StepR w w' M row es' T ∧ (Pl.abs es' = (Pl.takeF A (Pl.abs es) T).ps ∧ ∀ x ∈ es', x ∈ es) := by
    intro es' he hD
    refine (rtake_gen M A (Pl.copyF A (Pl.abs es) T).pk.frm (Pl.copyF A (Pl.abs es) T).pk.to (Pl.copyF A (Pl.abs es) T).err row es es' T (Pl.copyF A (Pl.abs es) T).pk.bs w h ?_ hD).mono ?_
    · refine (rcopy_any M row es T A _ (h.below ((Below.refl _ _).alloc (Nat.le_refl _) _)) hl).mono ?_
      rintro e w' ⟨v', rfl, hB, hb⟩
      exact ⟨v', rfl, hB, hb.mono (by simp)⟩
    · rintro e w' ⟨v', rfl, hB, S⟩
      exact ⟨v', rfl, hB, es', S, he⟩
  by_cases h0 : A < 0
  · refine fin es ⟨by unfold Pl.dropF; rw [if_pos h0], fun x hx => hx⟩ (fun W AW => ?_)
    refine (rdrop_none M A row es T W AW (.inl h0)).mono ?_
    rintro e w' ⟨rfl, hb⟩
    exact ⟨⟨8, rfl⟩, StepR.of_below AW hb⟩
  · obtain ⟨i, rfl⟩ := Int.eq_ofNat_of_zero_le (show 0 ≤ A by omega)
    by_cases hi : i < es.length
    · refine fin (es.take i ++ es.drop (i + 1)) ⟨by unfold Pl.dropF; rw [if_neg h0, show ((i : Int)).toNat = i from rfl, Pl.abs_get es i hi]; exact Pl.abs_less es i, fun x hx => ents_less hx⟩ (fun W AW => ?_)
      refine (rdrop_ok M i row es T W AW hi hn).mono ?_
      rintro e w' ⟨rfl, S⟩
      exact ⟨⟨0, rfl⟩, S⟩
    · refine fin es ⟨by unfold Pl.dropF; rw [if_neg h0, show ((i : Int)).toNat = i from rfl, Pl.abs_no es i (by omega)], fun x hx => hx⟩ (fun W AW => ?_)
      refine (rdrop_none M i row es T W AW (.inr (by omega))).mono ?_
      rintro e w' ⟨rfl, hb⟩
      exact ⟨⟨8, rfl⟩, StepR.of_below AW hb⟩

end Go.Proofs.Ytjoikochpkfoaaa
