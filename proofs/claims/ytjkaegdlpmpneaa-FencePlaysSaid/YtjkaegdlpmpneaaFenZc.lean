/- The two logs as they are handed over; Same. -/
import Derived.Test.YtjkaegdlpmpneaaFenZb
namespace Go.Proofs.Ytjkaegdlpmpneaa
open Go.RowKit
set_option linter.unusedVariables false

theorem log_win (B : Nat) (row : Option Nat) (es : List Pl.Ent) (w : World) (h : WinAt w B row es) :
    Calls Try.prog 12 #[.pointer (some ⟨B, 0, none⟩)] w fun e w' => ∃ v', e = .returned v' ∧ w'.ownsRow w.heap.size 47 5 v' (Pl.win es).length (Pl.rows (Pl.win es)) ∧ Below w.heap.size w w' := by
  obtain ⟨v, hv, ho, hb⟩ := h.log
  have hn : (Pl.win es).length ≤ 1000 := by rw [Pl.win_length]; omega
  have h1 := Pl.rows_one (Pl.win es)
  generalize Pl.win es = us at *
  rcases ho.2 with ⟨rfl, h0⟩ | ⟨g, cap, cur, rfl, hbg, hg, hc, hm, hs, ht⟩
  · have ho' := ho
    rw [h0] at ho'
    have HO := Lib.hid ho
    clear ho' ho h1 hb
    go_enter Try.func12, Try.ntmps12
    go_wp2_with fail
    refine (nil_clone w).mono ?_
    rintro e w' ⟨rfl, rfl⟩
    go_wp2
    go_ret
    exact ⟨_, rfl, ⟨HO.out.1, .inl ⟨rfl, h0⟩⟩, Below.refl _ _⟩
  · have HG := Lib.hid hg
    have HT := Lib.hid ht
    have H1 := Lib.hid h1
    have HL := Lib.hid ho.1
    clear hg ht h1 ho hs hb
    go_enter Try.func12, Try.ntmps12
    go_wp2_with fail
    refine (clone_any g us.length cap cur _ w HG.out HT.out HL.out H1.out hn).mono ?_
    rintro e w' ⟨v', rfl, hown, hbel⟩
    go_wp2
    go_ret
    exact ⟨_, rfl, hown, hbel⟩

/-- A slice of writes in memory, wherever it begins. -/
def EntsAt (w : World) (ao : Option Addr) (es : List Pl.Ent) : Prop :=
  ∀ i (h : i < es.length), ∃ g off, ao = some ⟨g, off, none⟩ ∧ g < w.heap.size ∧ ∀ m, m < 5 → w.cell? ⟨g, off + (i * 5 + m), none⟩ = (es[i]).cells[m]?
theorem EntsAt.below {w w' : World} {ao : Option Addr} {es : List Pl.Ent} (h : EntsAt w ao es) (hb : Below w.heap.size w w') : EntsAt w' ao es := fun i hi => by
  obtain ⟨g, off, h1, h2, h3⟩ := h i hi
  exact ⟨g, off, h1, Nat.lt_of_lt_of_le h2 hb.size, fun m hm => (hb.cell (p := ⟨g, off + (i * 5 + m), none⟩) h2).trans (h3 m hm)⟩

theorem ents_of {w : World} {base T : Nat} {v : Value} {es : List Pl.Ent} (h : w.ownsRow base T 5 v es.length (Pl.rows es)) : ∃ ao cap, v = .slice ao es.length cap ∧ EntsAt w ao es := by
  rcases h.2 with ⟨rfl, h0⟩ | ⟨g, cap, cur, rfl, hb, hg, _, _, _, ht⟩
  · exact ⟨none, 0, by rw [h0], fun i hi => absurd hi (by omega)⟩
  · refine ⟨_, cap, rfl, fun i hi => ⟨g, 0, rfl, (Array.getElem?_eq_some_iff.1 hg).1, fun m hm => ?_⟩⟩
    have h1 := Pl.rows_get es i m hi hm
    have h2 : (Pl.rows es)[i * 5 + m]? = cur.toList[i * 5 + m]? := by
      rw [← ht, List.getElem?_take, if_pos (by omega)]
    have hlt : m < (es[i]).cells.length := by simp [Pl.Ent.cells]; omega
    have h3 : cur.toList[i * 5 + m]? = some ((es[i]).cells[m]) := by rw [← h2, h1, List.getElem?_eq_getElem hlt]
    rw [List.getElem?_eq_getElem hlt]
    have h4 := World.news_of_block hg _ _ h3
    rw [Go.WideShapes.add_plain] at h4
    exact h4

theorem ents_drop {w : World} {g : Nat} {es : List Pl.Ent} (k : Nat) (h : EntsAt w (some ⟨g, 0, none⟩) es) : EntsAt w (some ⟨g, k * 5, none⟩) (es.drop k) := by
  intro i hi
  have hi' : k + i < es.length := by rw [List.length_drop] at hi; omega
  obtain ⟨g', off, h1, h2, h3⟩ := h (k + i) hi'
  cases h1
  refine ⟨g, k * 5, rfl, h2, fun m hm => ?_⟩
  rw [List.getElem_drop, ← h3 m hm]
  congr 2; omega

theorem ref_log_nil (M : Nat) (w : World) (cv : w.cell? ⟨M, 16, none⟩ = some (.slice none 0 0)) :
    Calls Try.prog 15 #[.pointer (some ⟨M, 0, none⟩)] w fun e w' => e = .returned (.slice none 0 0) ∧ Below w.heap.size w w' := by
  go_enter Try.func15, Try.ntmps15
  go_wp2_with fail
  go_quiet (fail)
  go_wp2
  go_ret
  exact ⟨rfl, below_drewN (Below.refl _ _) _⟩
theorem ref_log_small (M g n cap : Nat) (w : World) (hn : n ≤ 256) (hc : n ≤ cap) (hm : cap ≤ maxLen) (cv : w.cell? ⟨M, 16, none⟩ = some (.slice (some ⟨g, 0, none⟩) n cap)) :
    Calls Try.prog 15 #[.pointer (some ⟨M, 0, none⟩)] w fun e w' => e = .returned (.slice (some ⟨g, 0, none⟩) n cap) ∧ Below w.heap.size w w' := by
  go_enter Try.func15, Try.ntmps15
  go_wp2_with fail
  go_quiet (fail)
  go_wp2
  go_ret
  exact ⟨rfl, below_drewN (Below.refl _ _) _⟩
theorem ref_log_big (M g d cap : Nat) (w : World) (hd : 0 < d) (hc : d + 256 ≤ cap) (hm : cap ≤ maxLen) (cv : w.cell? ⟨M, 16, none⟩ = some (.slice (some ⟨g, 0, none⟩) (d + 256 : Nat) cap)) :
    Calls Try.prog 15 #[.pointer (some ⟨M, 0, none⟩)] w fun e w' => e = .returned (.slice (some ⟨g, d * 5, none⟩) 256 (cap - d)) ∧ Below w.heap.size w w' := by
  have hm' : cap ≤ 9223372036854775807 := hm
  have h1 : ¬ cap = d := by omega
  have h4 : IntKind.i64.wrap (d : Int) = d := IntWalk.i64_in _ (by omega)
  have h5 : (0 : Int) < d := by omega
  have h6 : (d : Int) + 256 - d = 256 := by omega
  have h2 : ((d + 256 : Nat) : Int) - 256 = d := by omega
  have h3 : (d : Int) + 256 - 256 = d := by omega
  go_enter Try.func15, Try.ntmps15
  go_wp2_with fail
  go_quiet (fail)
  go_wp2
  go_ret
  exact ⟨rfl, below_drewN (Below.refl _ _) _⟩

theorem ref_log (M : Nat) (row : Option Nat) (es : List Pl.Ent) (w : World) (h : RefAt w M row es) :
    Calls Try.prog 15 #[.pointer (some ⟨M, 0, none⟩)] w fun e w' => ∃ ao cap, e = .returned (.slice ao (Pl.win es).length cap) ∧ EntsAt w' ao (Pl.win es) ∧ Below w.heap.size w w' := by
  obtain ⟨v, hv, ho, hb⟩ := h.log
  obtain ⟨ao, cap, hva, hE⟩ := ents_of ho
  rcases ho.2 with ⟨rfl, h0⟩ | ⟨g, cap', cur, rfl, hbg, hg, hc, hm, hs, ht⟩
  · refine (ref_log_nil M w hv).mono ?_
    rintro e w' ⟨rfl, hb⟩
    have : es = [] := List.eq_nil_of_length_eq_zero h0
    subst this
    exact ⟨none, 0, rfl, fun i hi => absurd hi (by simp [Pl.win]), hb⟩
  · obtain ⟨rfl, rfl⟩ : ao = some ⟨g, 0, none⟩ ∧ cap = cap' := by cases hva; exact ⟨rfl, rfl⟩
    by_cases hn : es.length ≤ 256
    · refine (ref_log_small M g es.length cap w hn hc hm hv).mono ?_
      rintro e w' ⟨rfl, hb⟩
      rw [Pl.win_small hn]
      exact ⟨_, _, rfl, hE.below hb, hb⟩
    · obtain ⟨d, hd⟩ : ∃ d, es.length = d + 256 := ⟨es.length - 256, by omega⟩
      refine (ref_log_big M g d cap w (by omega) (by omega) hm (by rw [← hd]; exact hv)).mono ?_
      rintro e w' ⟨rfl, hb⟩
      refine ⟨some ⟨g, d * 5, none⟩, cap - d, by rw [Pl.win_length, Nat.min_eq_right (by omega)], ?_, hb⟩
      have := (ents_drop d hE).below hb
      unfold Pl.win
      rw [hd, Nat.add_sub_cancel]
      exact this

theorem ownsRow_base {w : World} {b b' T size n : Nat} {v : Value} {xs : List Value} (h : w.ownsRow b T size v n xs) (hb : b' ≤ b) : w.ownsRow b' T size v n xs :=
  ⟨h.1, h.2.imp id (fun ⟨g, cap, cur, e, h1, rest⟩ => ⟨g, cap, cur, e, by omega, rest⟩)⟩

theorem law_log (B : Nat) (row : Option Nat) (es : List Pl.Ent) (w : World) (h : WinAt w B row es) :
    Calls Try.prog 14 #[.pointer (some ⟨B, 0, none⟩)] w fun e w' => ∃ v', e = .returned v' ∧ w'.ownsRow w.heap.size 61 5 v' (Pl.win es).length (Pl.rows (Pl.win es)) ∧ Below w.heap.size w w' := by
  obtain ⟨i0, hi, hz0, hz1, hz2⟩ := info_parts info61
  have HH := Lib.hid h
  clear h
  go_enter Try.func14, Try.ntmps14
  go_wp2_with fail
  refine (log_win B row es w HH.out).mono ?_
  rintro e w1 ⟨v', rfl, hown, b1⟩
  have hn : (Pl.win es).length ≤ 256 := by rw [Pl.win_length]; omega
  obtain ⟨us, hus⟩ : ∃ us, us = Pl.win es := ⟨_, rfl⟩
  rw [← hus] at hown hn
  have HUS := Lib.hid hus
  clear hus
  obtain ⟨go, cap, rfl, hE⟩ := ents_of hown
  have HE := Lib.hid hE
  have HB := Lib.hid b1
  clear hE hown b1 HH
  go_wp2_with fail
  go_loopw [9, 3, 5] (fun i o x wr => ∃ (j : Nat), j ≤ us.length ∧ i = .int .i64 j ∧ wr.ownsRow w1.heap.size 61 5 o j (Pl.rows (us.take j)) ∧ Below w1.heap.size w1 wr) (fun i _ _ _ => us.length - (intOf i).toNat)
  case atStart => exact ⟨0, Nat.zero_le _, rfl, ⟨rfl, .inl ⟨rfl, rfl⟩⟩, Below.refl _ _⟩
  case round =>
    obtain ⟨j, hj, rfl, own, bel⟩ := hrel
    by_cases hjl : j < us.length
    · obtain ⟨g, off, hgo, hg2, hc⟩ := HE.out.below bel j hjl
      subst hgo
      have htk := Pl.take_succ' us j hjl
      generalize hent : us[j] = en at *
      obtain ⟨q, fe, fm, to, by1⟩ := en
      have y0 : wr.cell? ⟨g, off + j * 5, none⟩ = some (Value.int .i64 q) := hc 0 (by decide)
      have y1 : wr.cell? ⟨g, off + j * 5 + 1, none⟩ = some (Value.int .i64 fe) := by rw [Nat.add_assoc]; exact hc 1 (by decide)
      have y2 : wr.cell? ⟨g, off + j * 5 + 2, none⟩ = some (Value.int .i64 fm) := by rw [Nat.add_assoc]; exact hc 2 (by decide)
      have y3 : wr.cell? ⟨g, off + j * 5 + 3, none⟩ = some (Value.int .i64 to) := by rw [Nat.add_assoc]; exact hc 3 (by decide)
      have y4 : wr.cell? ⟨g, off + j * 5 + 4, none⟩ = some (Value.int .i64 by1) := by rw [Nat.add_assoc]; exact hc 4 (by decide)
      have HEN := Lib.hid hent
      have HTK := Lib.hid htk
      have OWN := Lib.hid own
      have BEL := Lib.hid bel
      have hsz : w1.heap.size ≤ wr.heap.size := bel.size
      clear hc hent htk own bel
      have hnew : ((wr.alloc (.cells #[.int .i64 q, .int .i64 fe, .int .i64 fm, .int .i64 to, .int .i64 by1] 47)).alloc (.cells #[.int .i64 q, .int .i64 fe, .int .i64 fm, .int .i64 to, .int .i64 by1] 61)).heap[wr.heap.size + 1]? = some (.cells #[.int .i64 q, .int .i64 fe, .int .i64 fm, .int .i64 to, .int .i64 by1] 61) := by
        have := heap_alloc_new (wr.alloc (.cells #[.int .i64 q, .int .i64 fe, .int .i64 fm, .int .i64 to, .int .i64 by1] 47)) (.cells #[.int .i64 q, .int .i64 fe, .int .i64 fm, .int .i64 to, .int .i64 by1] 61)
        simpa using this
      have HNEW := Lib.hid (World.news_of_block hnew)
      have OWN2 := Lib.hid (World.ownsRow.alloc (World.ownsRow.alloc OWN.out (.cells #[.int .i64 q, .int .i64 fe, .int .i64 fm, .int .i64 to, .int .i64 by1] 47)) (.cells #[.int .i64 q, .int .i64 fe, .int .i64 fm, .int .i64 to, .int .i64 by1] 61))
      clear hnew
      go_wp2_with (at_builtin; refine wpList_append_own _ rfl (.tmp 13) (.tmp 15) 35 rfl w1.heap.size 61 i0 (.agg #[.int .i64 0, .int .i64 0, .int .i64 0, .int .i64 0, .int .i64 0]) 5 40 Try.underlying35 hi hz0 hz1 hz2 rfl (by decide) _ j _ rfl OWN2.out ⟨wr.heap.size + 1, 0, none⟩ 1 1 [.int .i64 q, .int .i64 fe, .int .i64 fm, .int .i64 to, .int .i64 by1] rfl rfl HNEW.out (by simp [Value.oneCell']) (by unfold maxLen; omega) (by omega) (by simp; omega) ?_; intro v1 w1' hown1 hgrow1 hat1)
      refine ⟨⟨j + 1, by omega, rfl, ?_, ?_⟩, by simp [intOf]; omega⟩
      · rw [HTK.out, Pl.rows_append]; exact hown1
      · exact ((BEL.out.alloc hsz _).alloc (by simp; omega) _).grown hgrow1 (by simp; omega) (fun j hj => (OWN.out.lt j hj).1)
    · obtain rfl : j = us.length := by omega
      have OWN := Lib.hid own
      have BEL := Lib.hid bel
      clear own bel hjl
      go_wp2_with fail
      go_ret
      rw [List.take_length] at OWN
      rw [← HUS.out]
      refine ⟨_, rfl, ownsRow_base OWN.out HB.out.size, HB.out.trans (BEL.out.mono HB.out.size)⟩
end Go.Proofs.Ytjkaegdlpmpneaa
