/- do in one contract. -/
import Derived.Test.YtjoikochpkfoaaaNetP
namespace Go.Proofs.Ytjoikochpkfoaaa
open Go.RowKit
set_option linter.unusedVariables false

theorem do_none (N mb : Nat) (row : Option Nat) (es : List Pl.Ent) (T : Pl.Off) (K A B : Int) (ao : Option Addr) (len cap : Nat) (w : World) (h : NetAt w N row mb es T)
    (k1 : (K == 1) = false) (k2 : (K == 2) = false) (k3 : (K == 3) = false) (k4 : (K == 4) = false) (k5 : (K == 5) = false) (k6 : (K == 6) = false) :
    Calls Try.prog 14 #[.pointer (some ⟨N, 0, none⟩), .agg #[.int .i64 K, .int .i64 A, .int .i64 B, .slice ao len cap]] w fun e w' => e = .returned (.tuple #[.agg #[.int .i64 0, .int .i64 0, .slice none 0 0], .int .i64 0]) ∧ Step w w' N row mb es T := by
  have HH := Lib.hid h
  clear h
  go_enter Try.func14, Try.ntmps14
  go_wp2_with fail
  exact bodyPost_ret (v := .tuple #[.agg #[.int .i64 0, .int .i64 0, .slice none 0 0], .int .i64 0]) (by simp [results, Try.results14, go_sem]) rfl ⟨rfl, Step.of_below HH.out (box3_below w K A B _)⟩

namespace Pl
/-- A packet as it is seen. -/
structure Pk where
  frm : Int
  to : Int
  bs : List Int
def zero : Pk := ⟨0, 0, []⟩
def Ent.pk (e : Ent) : Pk := ⟨e.frm, e.to, e.bs⟩
def abs (es : List Ent) : List Pk := es.map Ent.pk
structure Out where
  pk : Pk
  err : Int
  ps : List Pk
  T : Off
def sendF (A B : Int) (bs : List Int) (ps : List Pk) (T : Off) : Out :=
  if pair A B = false then ⟨zero, 2, ps, T⟩ else if 4096 < bs.length then ⟨zero, 6, ps, T⟩ else if 64 ≤ ps.length then ⟨zero, 7, ps, T⟩ else ⟨zero, 0, ps ++ [⟨A, B, bs⟩], T⟩
def less (ps : List Pk) (i : Nat) : List Pk := ps.take i ++ ps.drop (i + 1)
def copyF (A : Int) (ps : List Pk) (T : Off) : Out :=
  if A < 0 then ⟨zero, 8, ps, T⟩ else
  match ps[A.toNat]? with
  | none => ⟨zero, 8, ps, T⟩
  | some p => if parted T p.frm p.to = true then ⟨zero, 10, ps, T⟩ else ⟨p, 0, ps, T⟩
def dropF (A : Int) (ps : List Pk) (T : Off) : Out :=
  if A < 0 then ⟨zero, 8, ps, T⟩ else
  match ps[A.toNat]? with
  | none => ⟨zero, 8, ps, T⟩
  | some p => ⟨zero, 0, less ps A.toNat, T⟩
def takeF (A : Int) (ps : List Pk) (T : Off) : Out := ⟨(copyF A ps T).pk, (copyF A ps T).err, (dropF A ps T).ps, T⟩
def partF (A B : Int) (x : Bool) (ps : List Pk) (T : Off) : Out :=
  if pair A B = false then ⟨zero, 2, ps, T⟩ else if (look T (min A B) (max A B) == x) = true then ⟨zero, 15, ps, T⟩ else ⟨zero, 0, ps, put T (min A B) (max A B) x⟩
/-- A step: a packet, an error's number; what is on its way, who is parted. -/
def doF (K A B : Int) (bs : List Int) (ps : List Pk) (T : Off) : Out :=
  if K = 1 then sendF A B bs ps T else if K = 2 then takeF A ps T else if K = 3 then copyF A ps T else if K = 4 then dropF A ps T else if K = 5 then partF A B true ps T else if K = 6 then partF A B false ps T else ⟨zero, 0, ps, T⟩
theorem abs_len (es : List Ent) : (abs es).length = es.length := List.length_map _
theorem abs_less (es : List Ent) (i : Nat) : abs (es.take i ++ es.drop (i + 1)) = less (abs es) i := by unfold abs less; rw [List.map_append, List.map_take, List.map_drop]
theorem abs_get (es : List Ent) (i : Nat) (h : i < es.length) : (abs es)[i]? = some (es[i]).pk := by unfold abs; rw [List.getElem?_map, List.getElem?_eq_getElem h]; rfl
theorem abs_no (es : List Ent) (i : Nat) (h : es.length ≤ i) : (abs es)[i]? = none := List.getElem?_eq_none (by rw [abs_len]; exact h)
end Pl

theorem send_any (N mb : Nat) (row : Option Nat) (es : List Pl.Ent) (T : Pl.Off) (A B : Int) (v : Value) (bs : List Int) (w : World) (h : NetAt w N row mb es T) (hn : es.length ≤ 64) (hb : BytesC w v bs) :
    Calls Try.prog 8 #[.pointer (some ⟨N, 0, none⟩), .int .i64 A, .int .i64 B, v] w fun e w' => e = .returned (.int .i64 (Pl.sendF A B bs (Pl.abs es) T).err) ∧ ∃ es', Step w w' N row mb es' T ∧ Pl.abs es' = (Pl.sendF A B bs (Pl.abs es) T).ps := by
  obtain ⟨ao, cap, hv, _⟩ := id hb
  cases hp : Pl.pair A B with
  | false =>
    have e0 : Pl.sendF A B bs (Pl.abs es) T = ⟨Pl.zero, 2, Pl.abs es, T⟩ := by unfold Pl.sendF; rw [if_pos hp]
    rw [e0, hv]
    refine (send_arg N A B ao _ cap w hp).mono ?_
    rintro e w' ⟨rfl, hb⟩
    exact ⟨rfl, es, Step.of_below h hb, rfl⟩
  | true =>
    by_cases hl : 4096 < bs.length
    · have e0 : Pl.sendF A B bs (Pl.abs es) T = ⟨Pl.zero, 6, Pl.abs es, T⟩ := by unfold Pl.sendF; rw [if_neg (by rw [hp]; decide), if_pos hl]
      rw [e0, hv]
      refine (send_long N A B ao _ cap w hp hl).mono ?_
      rintro e w' ⟨rfl, hb⟩
      exact ⟨rfl, es, Step.of_below h hb, rfl⟩
    · by_cases hf : 64 ≤ es.length
      · have e0 : Pl.sendF A B bs (Pl.abs es) T = ⟨Pl.zero, 7, Pl.abs es, T⟩ := by unfold Pl.sendF; rw [if_neg (by rw [hp]; decide), if_neg hl, if_pos (by rw [Pl.abs_len]; exact hf)]
        rw [e0, hv]
        obtain ⟨ao', cap', c0⟩ := h.cell0
        refine (send_full N A B ao ao' _ cap cap' w hp (by omega) h.lt (by rw [c0, show es.length = 64 from by omega])).mono ?_
        rintro e w' ⟨rfl, hb⟩
        exact ⟨rfl, es, Step.of_below h hb, rfl⟩
      · have e0 : Pl.sendF A B bs (Pl.abs es) T = ⟨Pl.zero, 0, Pl.abs es ++ [⟨A, B, bs⟩], T⟩ := by unfold Pl.sendF; rw [if_neg (by rw [hp]; decide), if_neg hl, if_neg (by rw [Pl.abs_len]; exact hf)]
        rw [e0]
        refine (send_ok N mb row es T A B v bs w h hp hb (by omega) (by omega)).mono ?_
        rintro e w' ⟨rfl, row', v', A', t, r⟩
        exact ⟨rfl, _, ⟨row', A', t, r⟩, by unfold Pl.abs; rw [List.map_append]; rfl⟩

theorem copy_any (N mb : Nat) (row : Option Nat) (es : List Pl.Ent) (T : Pl.Off) (A : Int) (w : World) (h : NetAt w N row mb es T) (hl : ∀ e ∈ es, e.bs.length ≤ 4096) :
    Calls Try.prog 10 #[.pointer (some ⟨N, 0, none⟩), .int .i64 A] w fun e w' => ∃ v', e = .returned (.tuple #[.agg #[.int .i64 (Pl.copyF A (Pl.abs es) T).pk.frm, .int .i64 (Pl.copyF A (Pl.abs es) T).pk.to, v'], .int .i64 (Pl.copyF A (Pl.abs es) T).err]) ∧ BytesT w' v' (Pl.copyF A (Pl.abs es) T).pk.bs ∧ Below w.heap.size w w' := by
  by_cases h0 : A < 0
  · have e0 : Pl.copyF A (Pl.abs es) T = ⟨Pl.zero, 8, Pl.abs es, T⟩ := by unfold Pl.copyF; rw [if_pos h0]
    rw [e0]
    refine (copy_none N mb A row es T w h (.inl h0)).mono ?_
    rintro e w' ⟨rfl, hb⟩
    exact ⟨_, rfl, bytes_nil _, hb⟩
  · obtain ⟨i, rfl⟩ := Int.eq_ofNat_of_zero_le (show 0 ≤ A by omega)
    by_cases hi : i < es.length
    · cases hp : Pl.parted T (es[i]).frm (es[i]).to with
      | true =>
        have e0 : Pl.copyF (i : Int) (Pl.abs es) T = ⟨Pl.zero, 10, Pl.abs es, T⟩ := by
          unfold Pl.copyF; rw [if_neg h0, show ((i : Int)).toNat = i from rfl, Pl.abs_get es i hi]; exact if_pos hp
        rw [e0]
        refine (copy_down N mb i row es T w h hi hp).mono ?_
        rintro e w' ⟨rfl, hb⟩
        exact ⟨_, rfl, bytes_nil _, hb⟩
      | false =>
        have e0 : Pl.copyF (i : Int) (Pl.abs es) T = ⟨(es[i]).pk, 0, Pl.abs es, T⟩ := by
          unfold Pl.copyF; rw [if_neg h0, show ((i : Int)).toNat = i from rfl, Pl.abs_get es i hi]; exact if_neg (show ¬ Pl.parted T (es[i]).frm (es[i]).to = true from by rw [hp]; decide)
        rw [e0]
        exact copy_ok N mb i row es T w h hi hp (by have := hl es[i] (List.getElem_mem hi); omega)
    · have e0 : Pl.copyF (i : Int) (Pl.abs es) T = ⟨Pl.zero, 8, Pl.abs es, T⟩ := by unfold Pl.copyF; rw [if_neg h0, show ((i : Int)).toNat = i from rfl, Pl.abs_no es i (by omega)]
      rw [e0]
      refine (copy_none N mb i row es T w h (.inr (by omega))).mono ?_
      rintro e w' ⟨rfl, hb⟩
      exact ⟨_, rfl, bytes_nil _, hb⟩

theorem drop_any (N mb : Nat) (row : Option Nat) (es : List Pl.Ent) (T : Pl.Off) (A : Int) (w : World) (h : NetAt w N row mb es T) (hn : es.length ≤ 64) :
    Calls Try.prog 21 #[.pointer (some ⟨N, 0, none⟩), .int .i64 A] w fun e w' => e = .returned (.int .i64 (Pl.dropF A (Pl.abs es) T).err) ∧ ∃ es', Step w w' N row mb es' T ∧ Pl.abs es' = (Pl.dropF A (Pl.abs es) T).ps := by
  by_cases h0 : A < 0
  · have e0 : Pl.dropF A (Pl.abs es) T = ⟨Pl.zero, 8, Pl.abs es, T⟩ := by unfold Pl.dropF; rw [if_pos h0]
    rw [e0]
    refine (drop_none N mb A row es T w h (.inl h0)).mono ?_
    rintro e w' ⟨rfl, rfl⟩
    exact ⟨rfl, es, Step.of_below h (Below.refl _ _), rfl⟩
  · obtain ⟨i, rfl⟩ := Int.eq_ofNat_of_zero_le (show 0 ≤ A by omega)
    by_cases hi : i < es.length
    · have e0 : Pl.dropF (i : Int) (Pl.abs es) T = ⟨Pl.zero, 0, Pl.less (Pl.abs es) i, T⟩ := by unfold Pl.dropF; rw [if_neg h0, show ((i : Int)).toNat = i from rfl, Pl.abs_get es i hi]
      rw [e0]
      refine (drop_ok N mb i row es T w h hi hn).mono ?_
      rintro e w' ⟨rfl, g, A', t, hg⟩
      exact ⟨rfl, _, ⟨some g, A', t, .inr ⟨g, rfl, hg⟩⟩, Pl.abs_less es i⟩
    · have e0 : Pl.dropF (i : Int) (Pl.abs es) T = ⟨Pl.zero, 8, Pl.abs es, T⟩ := by unfold Pl.dropF; rw [if_neg h0, show ((i : Int)).toNat = i from rfl, Pl.abs_no es i (by omega)]
      rw [e0]
      refine (drop_none N mb i row es T w h (.inr (by omega))).mono ?_
      rintro e w' ⟨rfl, rfl⟩
      exact ⟨rfl, es, Step.of_below h (Below.refl _ _), rfl⟩

theorem take_any (N mb : Nat) (row : Option Nat) (es : List Pl.Ent) (T : Pl.Off) (A : Int) (w : World) (h : NetAt w N row mb es T) (hn : es.length ≤ 64) (hl : ∀ e ∈ es, e.bs.length ≤ 4096) :
    Calls Try.prog 12 #[.pointer (some ⟨N, 0, none⟩), .int .i64 A] w fun e w' => ∃ v', e = .returned (.tuple #[.agg #[.int .i64 (Pl.takeF A (Pl.abs es) T).pk.frm, .int .i64 (Pl.takeF A (Pl.abs es) T).pk.to, v'], .int .i64 (Pl.takeF A (Pl.abs es) T).err]) ∧ BytesT w' v' (Pl.takeF A (Pl.abs es) T).pk.bs ∧ ∃ es', Step w w' N row mb es' T ∧ Pl.abs es' = (Pl.takeF A (Pl.abs es) T).ps := by
  have fin : ∀ es', Pl.abs es' = (Pl.dropF A (Pl.abs es) T).ps → (∀ W, NetAt W N row mb es T → Calls Try.prog 21 #[.pointer (some ⟨N, 0, none⟩), .int .i64 A] W fun e w' => (∃ d, e = .returned (.int .i64 d)) ∧ Step W w' N row mb es' T) →
      Calls Try.prog 12 #[.pointer (some ⟨N, 0, none⟩), .int .i64 A] w fun e w' => ∃ v', e = .returned (.tuple #[.agg #[.int .i64 (Pl.takeF A (Pl.abs es) T).pk.frm, .int .i64 (Pl.takeF A (Pl.abs es) T).pk.to, v'], .int .i64 (Pl.takeF A (Pl.abs es) T).err]) ∧ BytesT w' v' (Pl.takeF A (Pl.abs es) T).pk.bs ∧ ∃ es', Step w w' N row mb es' T ∧ Pl.abs es' = (Pl.takeF A (Pl.abs es) T).ps := by
    intro es' he hD
    refine (take_gen N mb A (Pl.copyF A (Pl.abs es) T).pk.frm (Pl.copyF A (Pl.abs es) T).pk.to (Pl.copyF A (Pl.abs es) T).err row es es' T (Pl.copyF A (Pl.abs es) T).pk.bs w h ?_ hD).mono ?_
    · refine (copy_any N mb row es T A _ (h.below ((Below.refl _ _).alloc (Nat.le_refl _) _)) hl).mono ?_
      rintro e w' ⟨v', rfl, hB, hb⟩
      exact ⟨v', rfl, hB, hb.mono (by simp)⟩
    · rintro e w' ⟨v', rfl, hB, S⟩
      exact ⟨v', rfl, hB, es', S, he⟩
  by_cases h0 : A < 0
  · refine fin es (by unfold Pl.dropF; rw [if_pos h0]) (fun W AW => ?_)
    refine (drop_none N mb A row es T W AW (.inl h0)).mono ?_
    rintro e w' ⟨rfl, rfl⟩
    exact ⟨⟨8, rfl⟩, Step.of_below AW (Below.refl _ _)⟩
  · obtain ⟨i, rfl⟩ := Int.eq_ofNat_of_zero_le (show 0 ≤ A by omega)
    by_cases hi : i < es.length
    · refine fin (es.take i ++ es.drop (i + 1)) (by unfold Pl.dropF; rw [if_neg h0, show ((i : Int)).toNat = i from rfl, Pl.abs_get es i hi]; exact Pl.abs_less es i) (fun W AW => ?_)
      refine (drop_ok N mb i row es T W AW hi hn).mono ?_
      rintro e w' ⟨rfl, g, A', t, hg⟩
      exact ⟨⟨0, rfl⟩, some g, A', t, .inr ⟨g, rfl, hg⟩⟩
    · refine fin es (by unfold Pl.dropF; rw [if_neg h0, show ((i : Int)).toNat = i from rfl, Pl.abs_no es i (by omega)]) (fun W AW => ?_)
      refine (drop_none N mb i row es T W AW (.inr (by omega))).mono ?_
      rintro e w' ⟨rfl, rfl⟩
      exact ⟨⟨8, rfl⟩, Step.of_below AW (Below.refl _ _)⟩

theorem cut_any (N mb : Nat) (row : Option Nat) (es : List Pl.Ent) (T : Pl.Off) (A B : Int) (w : World) (h : NetAt w N row mb es T) :
    Calls Try.prog 20 #[.pointer (some ⟨N, 0, none⟩), .int .i64 A, .int .i64 B] w fun e w' => e = .returned (.int .i64 (Pl.partF A B true (Pl.abs es) T).err) ∧ Step w w' N row mb es (Pl.partF A B true (Pl.abs es) T).T := by
  cases hp : Pl.pair A B with
  | false =>
    have e0 : Pl.partF A B true (Pl.abs es) T = ⟨Pl.zero, 2, Pl.abs es, T⟩ := by unfold Pl.partF; rw [if_pos hp]
    rw [e0]
    refine (cut_arg N A B w hp).mono ?_
    rintro e w' ⟨rfl, hb⟩
    exact ⟨rfl, Step.of_below h hb⟩
  | true =>
    cases hx : (Pl.look T (min A B) (max A B) == true) with
    | true =>
      have e0 : Pl.partF A B true (Pl.abs es) T = ⟨Pl.zero, 15, Pl.abs es, T⟩ := by unfold Pl.partF; rw [if_neg (by rw [hp]; decide), if_pos hx]
      rw [e0]
      refine (cut_same N mb row es T A B w h hp hx).mono ?_
      rintro e w' ⟨rfl, hb⟩
      exact ⟨rfl, Step.of_below h hb⟩
    | false =>
      have e0 : Pl.partF A B true (Pl.abs es) T = ⟨Pl.zero, 0, Pl.abs es, Pl.put T (min A B) (max A B) true⟩ := by unfold Pl.partF; rw [if_neg (by rw [hp]; decide), if_neg (by rw [hx]; decide)]
      rw [e0]
      refine (cut_ok N mb row es T A B w h hp hx).mono ?_
      rintro e w' ⟨rfl, A', t⟩
      exact ⟨rfl, row, A', t, .inl rfl⟩

theorem mend_any (N mb : Nat) (row : Option Nat) (es : List Pl.Ent) (T : Pl.Off) (A B : Int) (w : World) (h : NetAt w N row mb es T) :
    Calls Try.prog 26 #[.pointer (some ⟨N, 0, none⟩), .int .i64 A, .int .i64 B] w fun e w' => e = .returned (.int .i64 (Pl.partF A B false (Pl.abs es) T).err) ∧ Step w w' N row mb es (Pl.partF A B false (Pl.abs es) T).T := by
  cases hp : Pl.pair A B with
  | false =>
    have e0 : Pl.partF A B false (Pl.abs es) T = ⟨Pl.zero, 2, Pl.abs es, T⟩ := by unfold Pl.partF; rw [if_pos hp]
    rw [e0]
    refine (mend_arg N A B w hp).mono ?_
    rintro e w' ⟨rfl, hb⟩
    exact ⟨rfl, Step.of_below h hb⟩
  | true =>
    cases hx : (Pl.look T (min A B) (max A B) == false) with
    | true =>
      have e0 : Pl.partF A B false (Pl.abs es) T = ⟨Pl.zero, 15, Pl.abs es, T⟩ := by unfold Pl.partF; rw [if_neg (by rw [hp]; decide), if_pos hx]
      rw [e0]
      refine (mend_same N mb row es T A B w h hp hx).mono ?_
      rintro e w' ⟨rfl, hb⟩
      exact ⟨rfl, Step.of_below h hb⟩
    | false =>
      have e0 : Pl.partF A B false (Pl.abs es) T = ⟨Pl.zero, 0, Pl.abs es, Pl.put T (min A B) (max A B) false⟩ := by unfold Pl.partF; rw [if_neg (by rw [hp]; decide), if_neg (by rw [hx]; decide)]
      rw [e0]
      refine (mend_ok N mb row es T A B w h hp hx).mono ?_
      rintro e w' ⟨rfl, A', t⟩
      exact ⟨rfl, row, A', t, .inl rfl⟩

theorem partF_ps (A B : Int) (x : Bool) (ps : List Pl.Pk) (T : Pl.Off) : (Pl.partF A B x ps T).ps = ps ∧ (Pl.partF A B x ps T).pk = Pl.zero := by
  unfold Pl.partF; (repeat' split) <;> exact ⟨rfl, rfl⟩
theorem dropF_pk (A : Int) (ps : List Pl.Pk) (T : Pl.Off) : (Pl.dropF A ps T).pk = Pl.zero ∧ (Pl.dropF A ps T).T = T := by
  unfold Pl.dropF; (repeat' split) <;> exact ⟨rfl, rfl⟩
theorem sendF_pk (A B : Int) (bs : List Int) (ps : List Pl.Pk) (T : Pl.Off) : (Pl.sendF A B bs ps T).pk = Pl.zero ∧ (Pl.sendF A B bs ps T).T = T := by
  unfold Pl.sendF; (repeat' split) <;> exact ⟨rfl, rfl⟩
theorem copyF_ps (A : Int) (ps : List Pl.Pk) (T : Pl.Off) : (Pl.copyF A ps T).ps = ps ∧ (Pl.copyF A ps T).T = T := by
  unfold Pl.copyF; (repeat' split) <;> exact ⟨rfl, rfl⟩

theorem do_any (N mb : Nat) (row : Option Nat) (es : List Pl.Ent) (T : Pl.Off) (K A B : Int) (v : Value) (bs : List Int) (w : World) (h : NetAt w N row mb es T) (hn : es.length ≤ 64) (hl : ∀ e ∈ es, e.bs.length ≤ 4096) (hb : BytesC w v bs) :
    Calls Try.prog 14 #[.pointer (some ⟨N, 0, none⟩), .agg #[.int .i64 K, .int .i64 A, .int .i64 B, v]] w fun e w' => ∃ v' es', e = .returned (.tuple #[.agg #[.int .i64 (Pl.doF K A B bs (Pl.abs es) T).pk.frm, .int .i64 (Pl.doF K A B bs (Pl.abs es) T).pk.to, v'], .int .i64 (Pl.doF K A B bs (Pl.abs es) T).err]) ∧
      BytesT w' v' (Pl.doF K A B bs (Pl.abs es) T).pk.bs ∧ Step w w' N row mb es' (Pl.doF K A B bs (Pl.abs es) T).T ∧ Pl.abs es' = (Pl.doF K A B bs (Pl.abs es) T).ps := by
  obtain ⟨ao, cap, hv, _⟩ := id hb
  subst hv
  have AA := h.below (box3_below w K A B (.slice ao bs.length cap))
  have BB := hb.below (box3_below w K A B (.slice ao bs.length cap))
  have hd : ∀ o, Pl.doF K A B bs (Pl.abs es) T = o → (Calls Try.prog 14 #[.pointer (some ⟨N, 0, none⟩), .agg #[.int .i64 K, .int .i64 A, .int .i64 B, .slice ao bs.length cap]] w fun e w' => ∃ v' es', e = .returned (.tuple #[.agg #[.int .i64 o.pk.frm, .int .i64 o.pk.to, v'], .int .i64 o.err]) ∧ BytesT w' v' o.pk.bs ∧ Step w w' N row mb es' o.T ∧ Pl.abs es' = o.ps) →
      Calls Try.prog 14 #[.pointer (some ⟨N, 0, none⟩), .agg #[.int .i64 K, .int .i64 A, .int .i64 B, .slice ao bs.length cap]] w fun e w' => ∃ v' es', e = .returned (.tuple #[.agg #[.int .i64 (Pl.doF K A B bs (Pl.abs es) T).pk.frm, .int .i64 (Pl.doF K A B bs (Pl.abs es) T).pk.to, v'], .int .i64 (Pl.doF K A B bs (Pl.abs es) T).err]) ∧
      BytesT w' v' (Pl.doF K A B bs (Pl.abs es) T).pk.bs ∧ Step w w' N row mb es' (Pl.doF K A B bs (Pl.abs es) T).T ∧ Pl.abs es' = (Pl.doF K A B bs (Pl.abs es) T).ps := fun o ho hC => by rw [ho]; exact hC
  by_cases k1 : K = 1
  · subst k1
    refine hd _ (show _ = Pl.sendF A B bs (Pl.abs es) T from by unfold Pl.doF; rw [if_pos rfl]) ?_
    obtain ⟨p1, p2⟩ := sendF_pk A B bs (Pl.abs es) T
    rw [p1, p2]
    refine (do_1 N mb row es T T (fun es' => Pl.abs es' = (Pl.sendF A B bs (Pl.abs es) T).ps) A B _ ao bs.length cap w h (send_any N mb row es T A B _ bs _ AA hn BB)).mono ?_
    rintro e w' ⟨rfl, es', S, hP⟩
    exact ⟨_, es', rfl, bytes_nil _, S, hP⟩
  by_cases k2 : K = 2
  · subst k2
    refine hd _ (show _ = Pl.takeF A (Pl.abs es) T from by unfold Pl.doF; rw [if_neg k1, if_pos rfl]) ?_
    refine (do_2 N mb row es T T (fun es' => Pl.abs es' = (Pl.takeF A (Pl.abs es) T).ps) A B _ _ _ (Pl.takeF A (Pl.abs es) T).pk.bs ao bs.length cap w h (take_any N mb row es T A _ AA hn hl)).mono ?_
    rintro e w' ⟨v', rfl, hB, es', S, hP⟩
    exact ⟨v', es', rfl, hB, S, hP⟩
  by_cases k3 : K = 3
  · subst k3
    refine hd _ (show _ = Pl.copyF A (Pl.abs es) T from by unfold Pl.doF; rw [if_neg k1, if_neg k2, if_pos rfl]) ?_
    obtain ⟨p1, p2⟩ := copyF_ps A (Pl.abs es) T
    rw [p1, p2]
    refine (do_3 N mb row es T T (fun es' => Pl.abs es' = Pl.abs es) A B (Pl.copyF A (Pl.abs es) T).pk.frm (Pl.copyF A (Pl.abs es) T).pk.to (Pl.copyF A (Pl.abs es) T).err (Pl.copyF A (Pl.abs es) T).pk.bs ao bs.length cap w h ((copy_any N mb row es T A _ AA hl).mono ?_)).mono ?_
    · rintro e w' ⟨v', rfl, hB, hb⟩
      exact ⟨v', rfl, hB, es, Step.of_below AA hb, rfl⟩
    rintro e w' ⟨v', rfl, hB, es', S, hP⟩
    exact ⟨v', es', rfl, hB, S, hP⟩
  by_cases k4 : K = 4
  · subst k4
    refine hd _ (show _ = Pl.dropF A (Pl.abs es) T from by unfold Pl.doF; rw [if_neg k1, if_neg k2, if_neg k3, if_pos rfl]) ?_
    obtain ⟨p1, p2⟩ := dropF_pk A (Pl.abs es) T
    rw [p1, p2]
    refine (do_4 N mb row es T T (fun es' => Pl.abs es' = (Pl.dropF A (Pl.abs es) T).ps) A B _ ao bs.length cap w h (drop_any N mb row es T A _ AA hn)).mono ?_
    rintro e w' ⟨rfl, es', S, hP⟩
    exact ⟨_, es', rfl, bytes_nil _, S, hP⟩
  by_cases k5 : K = 5
  · subst k5
    refine hd _ (show _ = Pl.partF A B true (Pl.abs es) T from by unfold Pl.doF; rw [if_neg k1, if_neg k2, if_neg k3, if_neg k4, if_pos rfl]) ?_
    obtain ⟨p1, p2⟩ := partF_ps A B true (Pl.abs es) T
    rw [p1, p2]
    refine (do_5 N mb row es T (Pl.partF A B true (Pl.abs es) T).T (fun es' => Pl.abs es' = Pl.abs es) A B (Pl.partF A B true (Pl.abs es) T).err ao bs.length cap w h ((cut_any N mb row es T A B _ AA).mono ?_)).mono ?_
    · rintro e w' ⟨rfl, S⟩
      exact ⟨rfl, es, S, rfl⟩
    rintro e w' ⟨rfl, es', S, hP⟩
    exact ⟨_, es', rfl, bytes_nil _, S, hP⟩
  by_cases k6 : K = 6
  · subst k6
    refine hd _ (show _ = Pl.partF A B false (Pl.abs es) T from by unfold Pl.doF; rw [if_neg k1, if_neg k2, if_neg k3, if_neg k4, if_neg k5, if_pos rfl]) ?_
    obtain ⟨p1, p2⟩ := partF_ps A B false (Pl.abs es) T
    rw [p1, p2]
    refine (do_6 N mb row es T (Pl.partF A B false (Pl.abs es) T).T (fun es' => Pl.abs es' = Pl.abs es) A B (Pl.partF A B false (Pl.abs es) T).err ao bs.length cap w h ((mend_any N mb row es T A B _ AA).mono ?_)).mono ?_
    · rintro e w' ⟨rfl, S⟩
      exact ⟨rfl, es, S, rfl⟩
    rintro e w' ⟨rfl, es', S, hP⟩
    exact ⟨_, es', rfl, bytes_nil _, S, hP⟩
  · refine hd _ (show _ = (⟨Pl.zero, 0, Pl.abs es, T⟩ : Pl.Out) from by unfold Pl.doF; rw [if_neg k1, if_neg k2, if_neg k3, if_neg k4, if_neg k5, if_neg k6]) ?_
    refine (do_none N mb row es T K A B ao bs.length cap w h (beq_eq_false_iff_ne.2 k1) (beq_eq_false_iff_ne.2 k2) (beq_eq_false_iff_ne.2 k3) (beq_eq_false_iff_ne.2 k4) (beq_eq_false_iff_ne.2 k5) (beq_eq_false_iff_ne.2 k6)).mono ?_
    rintro e w' ⟨rfl, S⟩
    exact ⟨_, es, rfl, bytes_nil _, S, rfl⟩
end Go.Proofs.Ytjoikochpkfoaaa
