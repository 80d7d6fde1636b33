/- Copies that belong to the call that made them: a step in one contract. -/
import Derived.Test.YtjoikochpkfoaaaNetFc
namespace Go.Proofs.Ytjoikochpkfoaaa
open Go.RowKit
set_option linter.unusedVariables false

theorem ents_less {es : List Pl.Ent} {i : Nat} {e : Pl.Ent} (h : e ∈ es.take i ++ es.drop (i + 1)) : e ∈ es := by
  rcases List.mem_append.1 h with h | h
  · exact List.mem_of_mem_take h
  · exact List.mem_of_mem_drop h

theorem send_any_o (N mb : Nat) (row : Option Nat) (es : List Pl.Ent) (T : Pl.Off) (A B : Int) (v : Value) (bs : List Int) (w : World) (h : NetAt w N row mb es T) (hn : es.length ≤ 64) (hb : BytesC w v bs) :
    Calls Try.prog 8 #[.pointer (some ⟨N, 0, none⟩), .int .i64 A, .int .i64 B, v] w fun e w' => e = .returned (.int .i64 (Pl.sendF A B bs (Pl.abs es) T).err) ∧ ∃ es', Step w w' N row mb es' T ∧ (Pl.abs es' = (Pl.sendF A B bs (Pl.abs es) T).ps ∧ ∀ x ∈ es', x ∈ es ∨ NewB w.heap.size x.bv) := by
  obtain ⟨ao, cap, hv, _⟩ := id hb
  cases hp : Pl.pair A B with
  | false =>
    have e0 : Pl.sendF A B bs (Pl.abs es) T = ⟨Pl.zero, 2, Pl.abs es, T⟩ := by unfold Pl.sendF; rw [if_pos hp]
    rw [e0, hv]
    refine (send_arg N A B ao _ cap w hp).mono ?_
    rintro e w' ⟨rfl, hb⟩
    exact ⟨rfl, es, Step.of_below h hb, rfl, fun x hx => .inl hx⟩
  | true =>
    by_cases hl : 4096 < bs.length
    · have e0 : Pl.sendF A B bs (Pl.abs es) T = ⟨Pl.zero, 6, Pl.abs es, T⟩ := by unfold Pl.sendF; rw [if_neg (by rw [hp]; decide), if_pos hl]
      rw [e0, hv]
      refine (send_long N A B ao _ cap w hp hl).mono ?_
      rintro e w' ⟨rfl, hb⟩
      exact ⟨rfl, es, Step.of_below h hb, rfl, fun x hx => .inl hx⟩
    · by_cases hf : 64 ≤ es.length
      · have e0 : Pl.sendF A B bs (Pl.abs es) T = ⟨Pl.zero, 7, Pl.abs es, T⟩ := by unfold Pl.sendF; rw [if_neg (by rw [hp]; decide), if_neg hl, if_pos (by rw [Pl.abs_len]; exact hf)]
        rw [e0, hv]
        obtain ⟨ao', cap', c0⟩ := h.cell0
        refine (send_full N A B ao ao' _ cap cap' w hp (by omega) h.lt (by rw [c0, show es.length = 64 from by omega])).mono ?_
        rintro e w' ⟨rfl, hb⟩
        exact ⟨rfl, es, Step.of_below h hb, rfl, fun x hx => .inl hx⟩
      · have e0 : Pl.sendF A B bs (Pl.abs es) T = ⟨Pl.zero, 0, Pl.abs es ++ [⟨A, B, bs⟩], T⟩ := by unfold Pl.sendF; rw [if_neg (by rw [hp]; decide), if_neg hl, if_neg (by rw [Pl.abs_len]; exact hf)]
        rw [e0]
        refine (send_ok_o N mb row es T A B v bs w h hp hb (by omega) (by omega)).mono ?_
        rintro e w' ⟨rfl, row', ⟨v', A', nb⟩, t, r⟩
        exact ⟨rfl, _, ⟨row', A', t, r⟩, by unfold Pl.abs; rw [List.map_append]; rfl, fun x hx => by
          rcases List.mem_append.1 hx with hx | hx
          · exact .inl hx
          · obtain rfl := List.mem_singleton.1 hx
            exact .inr nb⟩

theorem copy_any_o (N mb : Nat) (row : Option Nat) (es : List Pl.Ent) (T : Pl.Off) (A : Int) (w : World) (h : NetAt w N row mb es T) (hl : ∀ e ∈ es, e.bs.length ≤ 4096) :
    Calls Try.prog 10 #[.pointer (some ⟨N, 0, none⟩), .int .i64 A] w fun e w' => ∃ v', e = .returned (.tuple #[.agg #[.int .i64 (Pl.copyF A (Pl.abs es) T).pk.frm, .int .i64 (Pl.copyF A (Pl.abs es) T).pk.to, v'], .int .i64 (Pl.copyF A (Pl.abs es) T).err]) ∧ OwnB w.heap.size w' v' (Pl.copyF A (Pl.abs es) T).pk.bs ∧ Below w.heap.size w w' := by
  by_cases h0 : A < 0
  · have e0 : Pl.copyF A (Pl.abs es) T = ⟨Pl.zero, 8, Pl.abs es, T⟩ := by unfold Pl.copyF; rw [if_pos h0]
    rw [e0]
    refine (copy_none N mb A row es T w h (.inl h0)).mono ?_
    rintro e w' ⟨rfl, hb⟩
    exact ⟨_, rfl, own_nil _ _, hb⟩
  · obtain ⟨i, rfl⟩ := Int.eq_ofNat_of_zero_le (show 0 ≤ A by omega)
    by_cases hi : i < es.length
    · cases hp : Pl.parted T (es[i]).frm (es[i]).to with
      | true =>
        have e0 : Pl.copyF (i : Int) (Pl.abs es) T = ⟨Pl.zero, 10, Pl.abs es, T⟩ := by
          unfold Pl.copyF; rw [if_neg h0, show ((i : Int)).toNat = i from rfl, Pl.abs_get es i hi]; exact if_pos hp
        rw [e0]
        refine (copy_down N mb i row es T w h hi hp).mono ?_
        rintro e w' ⟨rfl, hb⟩
        exact ⟨_, rfl, own_nil _ _, hb⟩
      | false =>
        have e0 : Pl.copyF (i : Int) (Pl.abs es) T = ⟨(es[i]).pk, 0, Pl.abs es, T⟩ := by
          unfold Pl.copyF; rw [if_neg h0, show ((i : Int)).toNat = i from rfl, Pl.abs_get es i hi]; exact if_neg (show ¬ Pl.parted T (es[i]).frm (es[i]).to = true from by rw [hp]; decide)
        rw [e0]
        exact copy_ok_o N mb i row es T w h hi hp (by have := hl es[i] (List.getElem_mem hi); omega)
    · have e0 : Pl.copyF (i : Int) (Pl.abs es) T = ⟨Pl.zero, 8, Pl.abs es, T⟩ := by unfold Pl.copyF; rw [if_neg h0, show ((i : Int)).toNat = i from rfl, Pl.abs_no es i (by omega)]
      rw [e0]
      refine (copy_none N mb i row es T w h (.inr (by omega))).mono ?_
      rintro e w' ⟨rfl, hb⟩
      exact ⟨_, rfl, own_nil _ _, hb⟩

theorem drop_any_o (N mb : Nat) (row : Option Nat) (es : List Pl.Ent) (T : Pl.Off) (A : Int) (w : World) (h : NetAt w N row mb es T) (hn : es.length ≤ 64) :
    Calls Try.prog 21 #[.pointer (some ⟨N, 0, none⟩), .int .i64 A] w fun e w' => e = .returned (.int .i64 (Pl.dropF A (Pl.abs es) T).err) ∧ ∃ es', Step w w' N row mb es' T ∧ (Pl.abs es' = (Pl.dropF A (Pl.abs es) T).ps ∧ ∀ x ∈ es', x ∈ es) := by
  by_cases h0 : A < 0
  · have e0 : Pl.dropF A (Pl.abs es) T = ⟨Pl.zero, 8, Pl.abs es, T⟩ := by unfold Pl.dropF; rw [if_pos h0]
    rw [e0]
    refine (drop_none N mb A row es T w h (.inl h0)).mono ?_
    rintro e w' ⟨rfl, rfl⟩
    exact ⟨rfl, es, Step.of_below h (Below.refl _ _), rfl, fun x hx => hx⟩
  · obtain ⟨i, rfl⟩ := Int.eq_ofNat_of_zero_le (show 0 ≤ A by omega)
    by_cases hi : i < es.length
    · have e0 : Pl.dropF (i : Int) (Pl.abs es) T = ⟨Pl.zero, 0, Pl.less (Pl.abs es) i, T⟩ := by unfold Pl.dropF; rw [if_neg h0, show ((i : Int)).toNat = i from rfl, Pl.abs_get es i hi]
      rw [e0]
      refine (drop_ok N mb i row es T w h hi hn).mono ?_
      rintro e w' ⟨rfl, g, A', t, hg⟩
      exact ⟨rfl, _, ⟨some g, A', t, .inr ⟨g, rfl, hg⟩⟩, Pl.abs_less es i, fun x hx => ents_less hx⟩
    · have e0 : Pl.dropF (i : Int) (Pl.abs es) T = ⟨Pl.zero, 8, Pl.abs es, T⟩ := by unfold Pl.dropF; rw [if_neg h0, show ((i : Int)).toNat = i from rfl, Pl.abs_no es i (by omega)]
      rw [e0]
      refine (drop_none N mb i row es T w h (.inr (by omega))).mono ?_
      rintro e w' ⟨rfl, rfl⟩
      exact ⟨rfl, es, Step.of_below h (Below.refl _ _), rfl, fun x hx => hx⟩

theorem take_any_o (N mb : Nat) (row : Option Nat) (es : List Pl.Ent) (T : Pl.Off) (A : Int) (w : World) (h : NetAt w N row mb es T) (hn : es.length ≤ 64) (hl : ∀ e ∈ es, e.bs.length ≤ 4096) :
    Calls Try.prog 12 #[.pointer (some ⟨N, 0, none⟩), .int .i64 A] w fun e w' => ∃ v', e = .returned (.tuple #[.agg #[.int .i64 (Pl.takeF A (Pl.abs es) T).pk.frm, .int .i64 (Pl.takeF A (Pl.abs es) T).pk.to, v'], .int .i64 (Pl.takeF A (Pl.abs es) T).err]) ∧ OwnB w.heap.size w' v' (Pl.takeF A (Pl.abs es) T).pk.bs ∧ ∃ es', Step w w' N row mb es' T ∧ (Pl.abs es' = (Pl.takeF A (Pl.abs es) T).ps ∧ ∀ x ∈ es', x ∈ es) := by
  have fin : ∀ es', (Pl.abs es' = (Pl.dropF A (Pl.abs es) T).ps ∧ ∀ x ∈ es', x ∈ es) → (∀ W, NetAt W N row mb es T → Calls Try.prog 21 #[.pointer (some ⟨N, 0, none⟩), .int .i64 A] W fun e w' => (∃ d, e = .returned (.int .i64 d)) ∧ Step W w' N row mb es' T) →
      Calls Try.prog 12 #[.pointer (some ⟨N, 0, none⟩), .int .i64 A] w fun e w' => ∃ v', e = .returned (.tuple #[.agg #[.int .i64 (Pl.takeF A (Pl.abs es) T).pk.frm, .int .i64 (Pl.takeF A (Pl.abs es) T).pk.to, v'], .int .i64 (Pl.takeF A (Pl.abs es) T).err]) ∧ OwnB w.heap.size w' v' (Pl.takeF A (Pl.abs es) T).pk.bs ∧ ∃ es', Step w w' N row mb es' T ∧ (Pl.abs es' = (Pl.takeF A (Pl.abs es) T).ps ∧ ∀ x ∈ es', x ∈ es) := by
    intro es' he hD
    refine (take_gen_o N mb A (Pl.copyF A (Pl.abs es) T).pk.frm (Pl.copyF A (Pl.abs es) T).pk.to (Pl.copyF A (Pl.abs es) T).err row es es' T (Pl.copyF A (Pl.abs es) T).pk.bs w h ?_ hD).mono ?_
    · refine (copy_any_o N mb row es T A _ (h.below ((Below.refl _ _).alloc (Nat.le_refl _) _)) hl).mono ?_
      rintro e w' ⟨v', rfl, hB, hb⟩
      exact ⟨v', rfl, hB.mono (by simp), hb.mono (by simp)⟩
    · rintro e w' ⟨v', rfl, hB, S⟩
      exact ⟨v', rfl, hB, es', S, he⟩
  by_cases h0 : A < 0
  · refine fin es ⟨by unfold Pl.dropF; rw [if_pos h0], fun x hx => hx⟩ (fun W AW => ?_)
    refine (drop_none N mb A row es T W AW (.inl h0)).mono ?_
    rintro e w' ⟨rfl, rfl⟩
    exact ⟨⟨8, rfl⟩, Step.of_below AW (Below.refl _ _)⟩
  · obtain ⟨i, rfl⟩ := Int.eq_ofNat_of_zero_le (show 0 ≤ A by omega)
    by_cases hi : i < es.length
    · refine fin (es.take i ++ es.drop (i + 1)) ⟨by unfold Pl.dropF; rw [if_neg h0, show ((i : Int)).toNat = i from rfl, Pl.abs_get es i hi]; exact Pl.abs_less es i, fun x hx => ents_less hx⟩ (fun W AW => ?_)
      refine (drop_ok N mb i row es T W AW hi hn).mono ?_
      rintro e w' ⟨rfl, g, A', t, hg⟩
      exact ⟨⟨0, rfl⟩, some g, A', t, .inr ⟨g, rfl, hg⟩⟩
    · refine fin es ⟨by unfold Pl.dropF; rw [if_neg h0, show ((i : Int)).toNat = i from rfl, Pl.abs_no es i (by omega)], fun x hx => hx⟩ (fun W AW => ?_)
      refine (drop_none N mb i row es T W AW (.inr (by omega))).mono ?_
      rintro e w' ⟨rfl, rfl⟩
      exact ⟨⟨8, rfl⟩, Step.of_below AW (Below.refl _ _)⟩

/-- Where the packets behind a step come from. -/
def From (es es' : List Pl.Ent) (base : Nat) (v : Value) : Prop := ∀ x ∈ es', x ∈ es ∨ (v = .slice none 0 0 ∧ NewB base x.bv)
theorem From.old {es es' : List Pl.Ent} {base : Nat} {v : Value} (h : ∀ x ∈ es', x ∈ es) : From es es' base v := fun x hx => .inl (h x hx)
theorem From.nil {es es' : List Pl.Ent} {base : Nat} (h : ∀ x ∈ es', x ∈ es ∨ NewB base x.bv) : From es es' base (.slice none 0 0) := fun x hx => (h x hx).imp id (fun h => ⟨rfl, h⟩)

theorem do_any_o (N mb : Nat) (row : Option Nat) (es : List Pl.Ent) (T : Pl.Off) (K A B : Int) (v : Value) (bs : List Int) (w : World) (h : NetAt w N row mb es T) (hn : es.length ≤ 64) (hl : ∀ e ∈ es, e.bs.length ≤ 4096) (hb : BytesC w v bs) :
    Calls Try.prog 14 #[.pointer (some ⟨N, 0, none⟩), .agg #[.int .i64 K, .int .i64 A, .int .i64 B, v]] w fun e w' => ∃ v' es', e = .returned (.tuple #[.agg #[.int .i64 (Pl.doF K A B bs (Pl.abs es) T).pk.frm, .int .i64 (Pl.doF K A B bs (Pl.abs es) T).pk.to, v'], .int .i64 (Pl.doF K A B bs (Pl.abs es) T).err]) ∧
      OwnB w.heap.size w' v' (Pl.doF K A B bs (Pl.abs es) T).pk.bs ∧ Step w w' N row mb es' (Pl.doF K A B bs (Pl.abs es) T).T ∧ Pl.abs es' = (Pl.doF K A B bs (Pl.abs es) T).ps ∧ From es es' w.heap.size v' := by
  obtain ⟨ao, cap, hv, _⟩ := id hb
  subst hv
  have AA := h.below (box3_below w K A B (.slice ao bs.length cap))
  have BB := hb.below (box3_below w K A B (.slice ao bs.length cap))
  have hd : ∀ o, Pl.doF K A B bs (Pl.abs es) T = o → (Calls Try.prog 14 #[.pointer (some ⟨N, 0, none⟩), .agg #[.int .i64 K, .int .i64 A, .int .i64 B, .slice ao bs.length cap]] w fun e w' => ∃ v' es', e = .returned (.tuple #[.agg #[.int .i64 o.pk.frm, .int .i64 o.pk.to, v'], .int .i64 o.err]) ∧ OwnB w.heap.size w' v' o.pk.bs ∧ Step w w' N row mb es' o.T ∧ Pl.abs es' = o.ps ∧ From es es' w.heap.size v') →
      Calls Try.prog 14 #[.pointer (some ⟨N, 0, none⟩), .agg #[.int .i64 K, .int .i64 A, .int .i64 B, .slice ao bs.length cap]] w fun e w' => ∃ v' es', e = .returned (.tuple #[.agg #[.int .i64 (Pl.doF K A B bs (Pl.abs es) T).pk.frm, .int .i64 (Pl.doF K A B bs (Pl.abs es) T).pk.to, v'], .int .i64 (Pl.doF K A B bs (Pl.abs es) T).err]) ∧
      OwnB w.heap.size w' v' (Pl.doF K A B bs (Pl.abs es) T).pk.bs ∧ Step w w' N row mb es' (Pl.doF K A B bs (Pl.abs es) T).T ∧ Pl.abs es' = (Pl.doF K A B bs (Pl.abs es) T).ps ∧ From es es' w.heap.size v' := fun o ho hC => by rw [ho]; exact hC
  by_cases k1 : K = 1
  · subst k1
    refine hd _ (show _ = Pl.sendF A B bs (Pl.abs es) T from by unfold Pl.doF; rw [if_pos rfl]) ?_
    obtain ⟨p1, p2⟩ := sendF_pk A B bs (Pl.abs es) T
    rw [p1, p2]
    refine (do_1 N mb row es T T (fun es' => Pl.abs es' = (Pl.sendF A B bs (Pl.abs es) T).ps ∧ ∀ x ∈ es', x ∈ es ∨ NewB (box3 w 1 A B (.slice ao bs.length cap)).heap.size x.bv) A B _ ao bs.length cap w h (send_any_o N mb row es T A B _ bs _ AA hn BB)).mono ?_
    rintro e w' ⟨rfl, es', S, hP⟩
    exact ⟨_, es', rfl, own_nil _ _, S, hP.1, From.nil (fun x hx => (hP.2 x hx).imp id (fun h => h.mono (by rw [box3_size]; omega)))⟩
  by_cases k2 : K = 2
  · subst k2
    refine hd _ (show _ = Pl.takeF A (Pl.abs es) T from by unfold Pl.doF; rw [if_neg k1, if_pos rfl]) ?_
    refine (do_2_o N mb row es T T (fun es' => Pl.abs es' = (Pl.takeF A (Pl.abs es) T).ps ∧ ∀ x ∈ es', x ∈ es) A B _ _ _ (Pl.takeF A (Pl.abs es) T).pk.bs ao bs.length cap w h ((take_any_o N mb row es T A _ AA hn hl).mono (fun e w' ⟨v', he, hB, r⟩ => ⟨v', he, hB.mono (by rw [box3_size]; omega), r⟩))).mono ?_
    rintro e w' ⟨v', rfl, hB, es', S, hP⟩
    exact ⟨v', es', rfl, hB, S, hP.1, From.old hP.2⟩
  by_cases k3 : K = 3
  · subst k3
    refine hd _ (show _ = Pl.copyF A (Pl.abs es) T from by unfold Pl.doF; rw [if_neg k1, if_neg k2, if_pos rfl]) ?_
    obtain ⟨p1, p2⟩ := copyF_ps A (Pl.abs es) T
    rw [p1, p2]
    refine (do_3_o N mb row es T T (fun es' => Pl.abs es' = Pl.abs es ∧ ∀ x ∈ es', x ∈ es) A B (Pl.copyF A (Pl.abs es) T).pk.frm (Pl.copyF A (Pl.abs es) T).pk.to (Pl.copyF A (Pl.abs es) T).err (Pl.copyF A (Pl.abs es) T).pk.bs ao bs.length cap w h ((copy_any_o N mb row es T A _ AA hl).mono ?_)).mono ?_
    · rintro e w' ⟨v', rfl, hB, hb⟩
      exact ⟨v', rfl, hB.mono (by rw [box3_size]; omega), es, Step.of_below AA hb, rfl, fun x hx => hx⟩
    rintro e w' ⟨v', rfl, hB, es', S, hP⟩
    exact ⟨v', es', rfl, hB, S, hP.1, From.old hP.2⟩
  by_cases k4 : K = 4
  · subst k4
    refine hd _ (show _ = Pl.dropF A (Pl.abs es) T from by unfold Pl.doF; rw [if_neg k1, if_neg k2, if_neg k3, if_pos rfl]) ?_
    obtain ⟨p1, p2⟩ := dropF_pk A (Pl.abs es) T
    rw [p1, p2]
    refine (do_4 N mb row es T T (fun es' => Pl.abs es' = (Pl.dropF A (Pl.abs es) T).ps ∧ ∀ x ∈ es', x ∈ es) A B _ ao bs.length cap w h (drop_any_o N mb row es T A _ AA hn)).mono ?_
    rintro e w' ⟨rfl, es', S, hP⟩
    exact ⟨_, es', rfl, own_nil _ _, S, hP.1, From.old hP.2⟩
  by_cases k5 : K = 5
  · subst k5
    refine hd _ (show _ = Pl.partF A B true (Pl.abs es) T from by unfold Pl.doF; rw [if_neg k1, if_neg k2, if_neg k3, if_neg k4, if_pos rfl]) ?_
    obtain ⟨p1, p2⟩ := partF_ps A B true (Pl.abs es) T
    rw [p1, p2]
    refine (do_5 N mb row es T (Pl.partF A B true (Pl.abs es) T).T (fun es' => Pl.abs es' = Pl.abs es ∧ ∀ x ∈ es', x ∈ es) A B (Pl.partF A B true (Pl.abs es) T).err ao bs.length cap w h ((cut_any N mb row es T A B _ AA).mono ?_)).mono ?_
    · rintro e w' ⟨rfl, S⟩
      exact ⟨rfl, es, S, rfl, fun x hx => hx⟩
    rintro e w' ⟨rfl, es', S, hP⟩
    exact ⟨_, es', rfl, own_nil _ _, S, hP.1, From.old hP.2⟩
  by_cases k6 : K = 6
  · subst k6
    refine hd _ (show _ = Pl.partF A B false (Pl.abs es) T from by unfold Pl.doF; rw [if_neg k1, if_neg k2, if_neg k3, if_neg k4, if_neg k5, if_pos rfl]) ?_
    obtain ⟨p1, p2⟩ := partF_ps A B false (Pl.abs es) T
    rw [p1, p2]
    refine (do_6 N mb row es T (Pl.partF A B false (Pl.abs es) T).T (fun es' => Pl.abs es' = Pl.abs es ∧ ∀ x ∈ es', x ∈ es) A B (Pl.partF A B false (Pl.abs es) T).err ao bs.length cap w h ((mend_any N mb row es T A B _ AA).mono ?_)).mono ?_
    · rintro e w' ⟨rfl, S⟩
      exact ⟨rfl, es, S, rfl, fun x hx => hx⟩
    rintro e w' ⟨rfl, es', S, hP⟩
    exact ⟨_, es', rfl, own_nil _ _, S, hP.1, From.old hP.2⟩
  · refine hd _ (show _ = (⟨Pl.zero, 0, Pl.abs es, T⟩ : Pl.Out) from by unfold Pl.doF; rw [if_neg k1, if_neg k2, if_neg k3, if_neg k4, if_neg k5, if_neg k6]) ?_
    refine (do_none N mb row es T K A B ao bs.length cap w h (beq_eq_false_iff_ne.2 k1) (beq_eq_false_iff_ne.2 k2) (beq_eq_false_iff_ne.2 k3) (beq_eq_false_iff_ne.2 k4) (beq_eq_false_iff_ne.2 k5) (beq_eq_false_iff_ne.2 k6)).mono ?_
    rintro e w' ⟨rfl, S⟩
    exact ⟨_, es, rfl, own_nil _ _, S, rfl, From.old (fun x hx => hx)⟩

end Go.Proofs.Ytjoikochpkfoaaa
