/- MemberLive: the walk. -/
import Derived.Test.YthgjmngaamoofaaMemI
namespace Go.Proofs.Ythgjmngaamoofaa
open Go.RowKit
set_option linter.unusedVariables false

set_option maxRecDepth 100000 in
set_option maxHeartbeats 8000000 in
theorem live_walk (sf : Int) (v1 : Value) (w : World) (hv : IsMems w v1) :
    Calls Try.prog 3 #[.int .i64 sf, v1] w fun e w' => e = .returned (.bool true) ∧ Below w.heap.size w w' := by
  obtain ⟨ao, len, cap, z, rfl, hmax, hmem⟩ := hv
  obtain ⟨i0, hi, hz0, hz1, hz2⟩ := info_parts info3
  have HMEM := Lib.hid hmem
  clear hmem
  cases hm : Pl.may sf 1 0
  · have HM := Lib.hid hm
    clear hm
    go_enter Try.func3, Try.ntmps3
    go_wp2_with fail
    refine (alive_ok w).mono ?_
    rintro e w2 ⟨rfl, hb2⟩
    go_wp2_with fail
    refine (new_no sf w2 HM.out).mono ?_
    rintro e w3 ⟨rfl, hb3⟩
    have HB3 := Lib.hid (hb2.trans (hb3.mono hb2.size))
    clear hb2 hb3
    go_wp2_with fail
    go_ret
    exact ⟨rfl, HB3.out⟩
  have HM := Lib.hid hm
  clear hm
  by_cases hbig : 300 < len
  · go_enter Try.func3, Try.ntmps3
    go_wp2_with fail
    refine (alive_ok w).mono ?_
    rintro e w2 ⟨rfl, hb2⟩
    go_wp2_with fail
    refine (new_ok sf w2 HM.out).mono ?_
    rintro e w3 ⟨rfl, A3, hb3⟩
    have HB3 := Lib.hid (hb2.trans (hb3.mono hb2.size))
    clear hb2 hb3 A3
    go_wp2_with fail
    go_ret
    exact ⟨rfl, HB3.out⟩
  have hlen : len ≤ 300 := by omega
  clear hbig hmax
  go_enter Try.func3, Try.ntmps3
  go_wp2_with fail
  refine (alive_ok w).mono ?_
  rintro e w2 ⟨rfl, hb2⟩
  go_wp2_with fail
  refine (new_ok sf w2 HM.out).mono ?_
  rintro e w3 ⟨rfl, A3, hb3⟩
  have hBs := hb2.size
  have HB3 := Lib.hid (hb2.trans (hb3.mono hb2.size))
  have HA3 := Lib.hid A3
  clear hb2 hb3 A3
  generalize w2.heap.size = B at *
  generalize Pl.Tab.none.hear sf 1 0 = T0 at *
  go_wp2_with fail
  go_loopw [30, 8] (fun i x wr => ∃ (k : Nat) (T : Pl.Tab), k ≤ len ∧ i = .int .i64 k ∧ TabAt wr B sf T ∧ Below w.heap.size w wr) (fun i _ _ => len - (intOf i).toNat)
  case atStart => exact ⟨0, T0, Nat.zero_le _, rfl, HA3.out, HB3.out⟩
  case round =>
    obtain ⟨k, T, hk, rfl, A, bel⟩ := hrel
    clear HA3 HB3
    by_cases hlt : k < len
    · obtain ⟨b, off, rfl, hblk, hx⟩ := HMEM.out k hlt
      clear HMEM
      have hx0 : wr.cell? ⟨b, off + k * 3, none⟩ = some (.int .i64 (z k 0)) := (bel.cell (by exact hblk)).trans (hx 0 (by decide))
      have hx1 : wr.cell? ⟨b, off + k * 3 + 1, none⟩ = some (.int .i64 (z k 1)) := by rw [Nat.add_assoc]; exact (bel.cell (by exact hblk)).trans (hx 1 (by decide))
      have hx2 : wr.cell? ⟨b, off + k * 3 + 2, none⟩ = some (.int .i64 (z k 2)) := by rw [Nat.add_assoc]; exact (bel.cell (by exact hblk)).trans (hx 2 (by decide))
      clear hx
      generalize z k 0 = n at *
      generalize z k 1 = s at *
      generalize z k 2 = i at *
      have bA : Below wr.heap.size wr (wr.alloc (.cells #[.int .i64 n, .int .i64 s, .int .i64 i] 29)) := (Below.refl _ _).alloc (Nat.le_refl _) _
      have HR := Lib.hid (hear_any B n s i sf T _ (A.below bA))
      have HBA := Lib.hid (bel.trans (bA.mono bel.size))
      clear bA A bel
      go_wp2_with fail
      refine HR.out.mono ?_
      rintro e w4 ⟨rfl, A4, t4⟩
      have HA4 := Lib.hid A4
      have HB4 := Lib.hid (t4.below HBA.out hBs)
      clear HR HBA A4 t4 hx0 hx1 hx2
      go_wp2_with fail
      all_goals exact ⟨⟨k + 1, _, by omega, rfl, HA4.out, HB4.out⟩, by simp [intOf]; omega⟩
    · obtain rfl : k = len := by omega
      clear HMEM hlt
      rename World => wL
      have HAL := Lib.hid A
      have HBL := Lib.hid bel
      clear A bel
      go_wp2_with fail
      refine (all_any B sf T wL HAL.out).mono ?_
      rintro e w4 ⟨v4, rfl, b4, own4⟩
      obtain ⟨l, hl⟩ : ∃ l, l = T.ks 8 := ⟨_, rfl⟩
      have hll : l.length ≤ 8 := by rw [hl]; exact T.ks_len 8
      have hsort : List.Pairwise (· < ·) l := by rw [hl]; exact Pl.ks_sorted T 8
      have hlv : T.lv 8 = Pl.lvt T l := by rw [hl]; rfl
      unfold Pl.Tab.words at own4
      rw [← hl] at own4
      obtain ⟨a4, c4, rfl, E4⟩ := words_of own4
      have HE := Lib.hid E4
      have HA4 := Lib.hid (HAL.out.below b4)
      have HB4 := Lib.hid (HBL.out.trans (b4.mono HBL.out.size))
      have HSO := Lib.hid hsort
      have HLV := Lib.hid hlv
      clear own4 E4 b4 hl hsort hlv HAL HBL
      go_wp2_with fail
      go_loopw [41, 9, 10, 11, 13] (fun i o p la x wr => ∃ (j : Nat) (lst : Int), j ≤ l.length ∧ i = .int .i64 j ∧ la = .int .i64 lst ∧ (∀ h : j < l.length, lst < ((l[j] : Nat) : Int)) ∧ Two w4 wr o p (Pl.lvt T (l.take j)) (Pl.but sf (Pl.lvt T (l.take j)))) (fun i _ _ _ _ _ => l.length - (intOf i).toNat)
      case atStart => exact ⟨0, -1, Nat.zero_le _, rfl, rfl, fun h => by omega, ⟨rfl, .inl ⟨rfl, rfl⟩⟩, ⟨rfl, .inl ⟨rfl, rfl⟩⟩, (fun g hg => by cases hg), Below.refl _ _⟩
      case round =>
        obtain ⟨j, lst, hj, rfl, rfl, hla, T2⟩ := hrel
        by_cases hjl : j < l.length
        · obtain ⟨g, off, hgo, hg2, hc⟩ := HE.out.below T2.bel j hjl
          subst hgo
          have hla1 := hla hjl
          have hnext : ∀ h : j + 1 < l.length, ((l[j] : Nat) : Int) < ((l[j + 1] : Nat) : Int) := fun h => by
            have := (List.pairwise_iff_getElem.1 HSO.out) j (j + 1) hjl h (by omega)
            omega
          have HNEXT := Lib.hid hnext
          have hl1 : (Pl.lvt T (l.take j)).length ≤ 8 := Nat.le_trans (Pl.lvt_len _ _) (by rw [List.length_take]; omega)
          have hl2 : (Pl.but sf (Pl.lvt T (l.take j))).length ≤ 8 := Nat.le_trans (Pl.but_len _ _) hl1
          have HT2 := Lib.hid T2
          have hY := Pl.lvt_yes (T := T) hjl
          have hN := Pl.lvt_no (T := T) hjl
          have HY := Lib.hid hY
          have HN := Lib.hid hN
          clear hla hnext T2 hY hN
          generalize hgk : l[j] = k at *
          have y0 : wr.cell? ⟨g, off + j * 3, none⟩ = some (Value.int .i64 k) := hc 0 (by decide)
          have y1 : wr.cell? ⟨g, off + j * 3 + 1, none⟩ = some (Value.int .i64 (T.st k)) := by rw [Nat.add_assoc]; exact hc 1 (by decide)
          have y2 : wr.cell? ⟨g, off + j * 3 + 2, none⟩ = some (Value.int .i64 (T.inc k)) := by rw [Nat.add_assoc]; exact hc 2 (by decide)
          have hgt : ¬ ((k : Int) ≤ lst) := by omega
          clear hc hgk hla1
          have hth : Pl.there (T.st k) = (T.st k == 1 || T.st k == 2) := rfl
          have HTH := Lib.hid hth
          clear hth
          generalize T.st k = s at *
          generalize T.inc k = i at *
          cases e1 : (s == 1)
          · cases e2 : (s == 2)
            · have hth : Pl.there s = false := by rw [HTH.out, e1, e2]; rfl
              have HN1 := Lib.hid (HN.out hth)
              have HT3 := Lib.hid (HT2.out.below (W := wr.alloc (.cells #[.int .i64 k, .int .i64 s, .int .i64 i] 29)) ((Below.refl _ _).alloc (Nat.le_refl _) _))
              clear hth HN HY HTH HT2
              go_wp2_with fail
              all_goals exact ⟨⟨j + 1, k, by omega, rfl, rfl, HNEXT.out, by rw [HN1.out]; exact HT3.out⟩, by simp [intOf]; omega⟩
            · have hth : Pl.there s = true := by rw [HTH.out, e1, e2]; rfl
              have HY1 := Lib.hid (HY.out hth)
              have b1 : Below wr.heap.size wr (wr.alloc (.cells #[.int .i64 k, .int .i64 s, .int .i64 i] 29)) := (Below.refl _ _).alloc (Nat.le_refl _) _
              have b2 : Below wr.heap.size wr ((wr.alloc (.cells #[.int .i64 k, .int .i64 s, .int .i64 i] 29)).alloc (.cells #[.int .i64 (k : Int)] 3)) := b1.alloc (by simp) _
              have hnew : ((wr.alloc (.cells #[.int .i64 k, .int .i64 s, .int .i64 i] 29)).alloc (.cells #[.int .i64 (k : Int)] 3)).heap[wr.heap.size + 1]? = some (.cells #[.int .i64 (k : Int)] 3) := by
                have := heap_alloc_new (wr.alloc (.cells #[.int .i64 k, .int .i64 s, .int .i64 i] 29)) (.cells #[.int .i64 (k : Int)] 3)
                simpa using this
              have HNEW := Lib.hid (World.news_of_block hnew)
              have HT3 := Lib.hid (HT2.out.below b2)
              have hbx : ((wr.alloc (.cells #[.int .i64 k, .int .i64 s, .int .i64 i] 29)).alloc (.cells #[.int .i64 (k : Int)] 3)).cell? ⟨wr.heap.size, 0, none⟩ = some (.int .i64 k) := by simp
              have HBX := Lib.hid hbx
              have hs2 : ((wr.alloc (.cells #[.int .i64 k, .int .i64 s, .int .i64 i] 29)).alloc (.cells #[.int .i64 (k : Int)] 3)).heap.size = wr.heap.size + 2 := by simp
              have HS2 := Lib.hid hs2
              have hwr := HT2.out.bel.size
              have hno : some wr.heap.size ≠ u9.ownBlock := fun e => by have := (HT2.out.own.lt _ e.symm).2; omega
              have hno' : some wr.heap.size ≠ u10.ownBlock := fun e => by have := (HT2.out.own'.lt _ e.symm).2; omega
              have HNO := Lib.hid hno
              have HNO' := Lib.hid hno'
              clear hth HN HY HTH HT2 b1 b2 hnew hbx hs2 hno hno'
              have TA : ∀ (g5 cap5 : Nat) (w5 : World), w5.ownsRow w4.heap.size 3 1 (.slice (some ⟨g5, 0, none⟩) ((Pl.lvt T (l.take j)).length + 1) cap5) ((Pl.lvt T (l.take j)).length + 1) (Pl.ints (Pl.lvt T (l.take j)) ++ [.int .i64 (k : Int)]) → ((wr.alloc (.cells #[.int .i64 k, .int .i64 s, .int .i64 i] 29)).alloc (.cells #[.int .i64 (k : Int)] 3)).grownBy w5 u9.ownBlock → (u9.ownBlock = some g5 ∨ g5 = wr.heap.size + 2) →
                  w5.cell? ⟨wr.heap.size, 0, none⟩ = some (.int .i64 k) ∧ Two w4 w5 (.slice (some ⟨g5, 0, none⟩) ((Pl.lvt T (l.take j)).length + 1) cap5) u10 (Pl.lvt T (l.take j) ++ [k]) (Pl.but sf (Pl.lvt T (l.take j))) ∧ wr.heap.size < w5.heap.size ∧ w4.heap.size ≤ w5.heap.size := by
                intro g5 cap5 w5 hown5 hgrow5 hat5
                have hT5 := HT3.out.push (k := k) hgrow5 hown5 hat5 HS2.out
                have hsz := hgrow5.size
                rw [HS2.out] at hsz
                exact ⟨(hgrow5.cell_far ⟨wr.heap.size, 0, none⟩ (by rw [HS2.out]; show wr.heap.size < _; omega) HNO.out).trans HBX.out, hT5, by omega, hT5.bel.size⟩
              have HTA := Lib.hid TA
              clear TA
              cases e3 : ((k : Int) != sf)
              · go_wp2_with (at_builtin; refine wpList_append_lies _ rfl (.tmp 59) (.tmp 62) 32 rfl w4.heap.size 3 i0 (.int .i64 0) 1 8 Try.underlying32 hi hz0 hz1 hz2 rfl (by decide) u9 _ _ rfl HT3.out.own ⟨wr.heap.size + 1, 0, none⟩ 1 1 [.int .i64 (k : Int)] rfl rfl HNEW.out (by simp [Value.oneCell']) (by decide) (by unfold maxLen; omega) (by omega) (by simp; omega) (wr.heap.size + 2) HS2.out ?_; intro g5 cap5 w5 hown5 hgrow5 hat5 hlt5; obtain ⟨bx5, T5, hw5, hsz5⟩ := HTA.out g5 cap5 w5 hown5 hgrow5 hat5; have HT5 := Lib.hid T5; clear T5 HTA hown5 hgrow5 hat5)
                all_goals refine ⟨⟨j + 1, k, by omega, rfl, rfl, HNEXT.out, ?_⟩, by simp [intOf]; omega⟩
                all_goals (rw [HY1.out, Pl.but_snoc_no e3]; exact HT5.out)
              · go_wp2_with (first | (at_builtin; refine wpList_append_lies _ rfl (.tmp 59) (.tmp 62) 32 rfl w4.heap.size 3 i0 (.int .i64 0) 1 8 Try.underlying32 hi hz0 hz1 hz2 rfl (by decide) u9 _ _ rfl HT3.out.own ⟨wr.heap.size + 1, 0, none⟩ 1 1 [.int .i64 (k : Int)] rfl rfl HNEW.out (by simp [Value.oneCell']) (by decide) (by unfold maxLen; omega) (by omega) (by simp; omega) (wr.heap.size + 2) HS2.out ?_; intro g5 cap5 w5 hown5 hgrow5 hat5 hlt5; obtain ⟨bx5, T5, hw5, hsz5⟩ := HTA.out g5 cap5 w5 hown5 hgrow5 hat5; have HT5 := Lib.hid T5; clear T5 HTA hown5 hgrow5 hat5) | (at_builtin; refine wpList_append_lies _ rfl (.tmp 68) (.tmp 71) 32 rfl w4.heap.size 3 i0 (.int .i64 0) 1 8 Try.underlying32 hi hz0 hz1 hz2 rfl (by decide) u10 _ _ rfl (HT5.out.below ((Below.refl w5.heap.size w5).alloc (Nat.le_refl _) (.cells #[.int .i64 (k : Int)] 3))).own' ⟨w5.heap.size, 0, none⟩ 1 1 [.int .i64 (k : Int)] rfl rfl (World.news_of_block (heap_alloc_new w5 (.cells #[.int .i64 (k : Int)] 3))) (by simp [Value.oneCell']) (by decide) (by unfold maxLen; omega) (by omega) (by simp; omega) (w5.heap.size + 1) (by simp) ?_; intro g6 cap6 w6 hown6 hgrow6 hat6 hlt6; have HT6 := Lib.hid ((HT5.out.below ((Below.refl w5.heap.size w5).alloc (Nat.le_refl _) (.cells #[.int .i64 (k : Int)] 3))).symm.push (k := k) hgrow6 hown6 hat6 (by simp)).symm; clear hown6 hgrow6 hat6))
                all_goals refine ⟨⟨j + 1, k, by omega, rfl, rfl, HNEXT.out, ?_⟩, by simp [intOf]; omega⟩
                all_goals (rw [HY1.out, Pl.but_snoc_yes e3]; exact HT6.out)
          · have hth : Pl.there s = true := by rw [HTH.out, e1]; rfl
            have HY1 := Lib.hid (HY.out hth)
            have b1 : Below wr.heap.size wr (wr.alloc (.cells #[.int .i64 k, .int .i64 s, .int .i64 i] 29)) := (Below.refl _ _).alloc (Nat.le_refl _) _
            have b2 : Below wr.heap.size wr ((wr.alloc (.cells #[.int .i64 k, .int .i64 s, .int .i64 i] 29)).alloc (.cells #[.int .i64 (k : Int)] 3)) := b1.alloc (by simp) _
            have hnew : ((wr.alloc (.cells #[.int .i64 k, .int .i64 s, .int .i64 i] 29)).alloc (.cells #[.int .i64 (k : Int)] 3)).heap[wr.heap.size + 1]? = some (.cells #[.int .i64 (k : Int)] 3) := by
              have := heap_alloc_new (wr.alloc (.cells #[.int .i64 k, .int .i64 s, .int .i64 i] 29)) (.cells #[.int .i64 (k : Int)] 3)
              simpa using this
            have HNEW := Lib.hid (World.news_of_block hnew)
            have HT3 := Lib.hid (HT2.out.below b2)
            have hbx : ((wr.alloc (.cells #[.int .i64 k, .int .i64 s, .int .i64 i] 29)).alloc (.cells #[.int .i64 (k : Int)] 3)).cell? ⟨wr.heap.size, 0, none⟩ = some (.int .i64 k) := by simp
            have HBX := Lib.hid hbx
            have hs2 : ((wr.alloc (.cells #[.int .i64 k, .int .i64 s, .int .i64 i] 29)).alloc (.cells #[.int .i64 (k : Int)] 3)).heap.size = wr.heap.size + 2 := by simp
            have HS2 := Lib.hid hs2
            have hwr := HT2.out.bel.size
            have hno : some wr.heap.size ≠ u9.ownBlock := fun e => by have := (HT2.out.own.lt _ e.symm).2; omega
            have hno' : some wr.heap.size ≠ u10.ownBlock := fun e => by have := (HT2.out.own'.lt _ e.symm).2; omega
            have HNO := Lib.hid hno
            have HNO' := Lib.hid hno'
            clear hth HN HY HTH HT2 b1 b2 hnew hbx hs2 hno hno'
            have TA : ∀ (g5 cap5 : Nat) (w5 : World), w5.ownsRow w4.heap.size 3 1 (.slice (some ⟨g5, 0, none⟩) ((Pl.lvt T (l.take j)).length + 1) cap5) ((Pl.lvt T (l.take j)).length + 1) (Pl.ints (Pl.lvt T (l.take j)) ++ [.int .i64 (k : Int)]) → ((wr.alloc (.cells #[.int .i64 k, .int .i64 s, .int .i64 i] 29)).alloc (.cells #[.int .i64 (k : Int)] 3)).grownBy w5 u9.ownBlock → (u9.ownBlock = some g5 ∨ g5 = wr.heap.size + 2) →
                w5.cell? ⟨wr.heap.size, 0, none⟩ = some (.int .i64 k) ∧ Two w4 w5 (.slice (some ⟨g5, 0, none⟩) ((Pl.lvt T (l.take j)).length + 1) cap5) u10 (Pl.lvt T (l.take j) ++ [k]) (Pl.but sf (Pl.lvt T (l.take j))) ∧ wr.heap.size < w5.heap.size ∧ w4.heap.size ≤ w5.heap.size := by
              intro g5 cap5 w5 hown5 hgrow5 hat5
              have hT5 := HT3.out.push (k := k) hgrow5 hown5 hat5 HS2.out
              have hsz := hgrow5.size
              rw [HS2.out] at hsz
              exact ⟨(hgrow5.cell_far ⟨wr.heap.size, 0, none⟩ (by rw [HS2.out]; show wr.heap.size < _; omega) HNO.out).trans HBX.out, hT5, by omega, hT5.bel.size⟩
            have HTA := Lib.hid TA
            clear TA
            cases e3 : ((k : Int) != sf)
            · go_wp2_with (at_builtin; refine wpList_append_lies _ rfl (.tmp 59) (.tmp 62) 32 rfl w4.heap.size 3 i0 (.int .i64 0) 1 8 Try.underlying32 hi hz0 hz1 hz2 rfl (by decide) u9 _ _ rfl HT3.out.own ⟨wr.heap.size + 1, 0, none⟩ 1 1 [.int .i64 (k : Int)] rfl rfl HNEW.out (by simp [Value.oneCell']) (by decide) (by unfold maxLen; omega) (by omega) (by simp; omega) (wr.heap.size + 2) HS2.out ?_; intro g5 cap5 w5 hown5 hgrow5 hat5 hlt5; obtain ⟨bx5, T5, hw5, hsz5⟩ := HTA.out g5 cap5 w5 hown5 hgrow5 hat5; have HT5 := Lib.hid T5; clear T5 HTA hown5 hgrow5 hat5)
              all_goals refine ⟨⟨j + 1, k, by omega, rfl, rfl, HNEXT.out, ?_⟩, by simp [intOf]; omega⟩
              all_goals (rw [HY1.out, Pl.but_snoc_no e3]; exact HT5.out)
            · go_wp2_with (first | (at_builtin; refine wpList_append_lies _ rfl (.tmp 59) (.tmp 62) 32 rfl w4.heap.size 3 i0 (.int .i64 0) 1 8 Try.underlying32 hi hz0 hz1 hz2 rfl (by decide) u9 _ _ rfl HT3.out.own ⟨wr.heap.size + 1, 0, none⟩ 1 1 [.int .i64 (k : Int)] rfl rfl HNEW.out (by simp [Value.oneCell']) (by decide) (by unfold maxLen; omega) (by omega) (by simp; omega) (wr.heap.size + 2) HS2.out ?_; intro g5 cap5 w5 hown5 hgrow5 hat5 hlt5; obtain ⟨bx5, T5, hw5, hsz5⟩ := HTA.out g5 cap5 w5 hown5 hgrow5 hat5; have HT5 := Lib.hid T5; clear T5 HTA hown5 hgrow5 hat5) | (at_builtin; refine wpList_append_lies _ rfl (.tmp 68) (.tmp 71) 32 rfl w4.heap.size 3 i0 (.int .i64 0) 1 8 Try.underlying32 hi hz0 hz1 hz2 rfl (by decide) u10 _ _ rfl (HT5.out.below ((Below.refl w5.heap.size w5).alloc (Nat.le_refl _) (.cells #[.int .i64 (k : Int)] 3))).own' ⟨w5.heap.size, 0, none⟩ 1 1 [.int .i64 (k : Int)] rfl rfl (World.news_of_block (heap_alloc_new w5 (.cells #[.int .i64 (k : Int)] 3))) (by simp [Value.oneCell']) (by decide) (by unfold maxLen; omega) (by omega) (by simp; omega) (w5.heap.size + 1) (by simp) ?_; intro g6 cap6 w6 hown6 hgrow6 hat6 hlt6; have HT6 := Lib.hid ((HT5.out.below ((Below.refl w5.heap.size w5).alloc (Nat.le_refl _) (.cells #[.int .i64 (k : Int)] 3))).symm.push (k := k) hgrow6 hown6 hat6 (by simp)).symm; clear hown6 hgrow6 hat6))
              all_goals refine ⟨⟨j + 1, k, by omega, rfl, rfl, HNEXT.out, ?_⟩, by simp [intOf]; omega⟩
              all_goals (rw [HY1.out, Pl.but_snoc_yes e3]; exact HT6.out)
        · obtain rfl : j = l.length := by omega
          rw [List.take_length, ← HLV.out] at T2
          have hlv8 := T.lv_len 8
          have hbt8 := Pl.but_len sf (T.lv 8)
          obtain ⟨la, lc, hu9, hI⟩ := ints_of T2.own
          obtain ⟨oa, oc, hu10, hJ⟩ := ints_of T2.own'
          subst hu9
          subst hu10
          have HI := Lib.hid hI
          have HJ := Lib.hid hJ
          have HA5 := Lib.hid (HA4.out.below (T2.bel.mono (Nat.le_refl _)))
          have HB5 := Lib.hid (HB4.out.trans (T2.bel.mono HB4.out.size))
          have HLI := fun (W : World) (A : TabAt W B sf T) => live_any B sf T W A
          have HOI := fun (W : World) (A : TabAt W B sf T) => others_any B sf T W A
          have HLI' := Lib.hid HLI
          have HOI' := Lib.hid HOI
          clear hI hJ T2 hla HA4 HB4 HE HLI HOI HSO HLV hjl
          generalize T.lv 8 = lv at *
          generalize Pl.but sf lv = ot at *
          go_wp2_with fail
          refine (HLI'.out _ HA5.out).mono ?_
          rintro e w5 ⟨v5, rfl, b5, own5⟩
          obtain ⟨a5, c5, rfl, I5⟩ := ints_of own5
          have HI5 := Lib.hid I5
          have HI' := Lib.hid (HI.out.below b5)
          have HJ' := Lib.hid (HJ.out.below b5)
          have HA6 := Lib.hid (HA5.out.below b5)
          have HB6 := Lib.hid (HB5.out.trans (b5.mono HB5.out.size))
          clear own5 I5 b5 HI HJ HA5 HB5
          go_wp2_with fail
          refine (ints_same a5 la c5 lc lv w5 HI5.out HI'.out (by omega)).mono ?_
          rintro e w6 ⟨rfl, b6⟩
          have HJ6 := Lib.hid (HJ'.out.below b6)
          have HA7 := Lib.hid (HA6.out.below b6)
          have HB7 := Lib.hid (HB6.out.trans (b6.mono HB6.out.size))
          clear b6 HJ' HI5 HI' HA6 HB6
          go_wp2_with fail
          refine (HOI'.out _ HA7.out).mono ?_
          rintro e w7 ⟨v7, rfl, b7, own7⟩
          obtain ⟨a7, c7, rfl, I7⟩ := ints_of own7
          have HI7 := Lib.hid I7
          have HJ7 := Lib.hid (HJ6.out.below b7)
          have HB8 := Lib.hid (HB7.out.trans (b7.mono HB7.out.size))
          clear own7 I7 b7 HJ6 HA7 HB7
          go_wp2_with fail
          refine (ints_same a7 oa c7 oc ot w7 HI7.out HJ7.out (by omega)).mono ?_
          rintro e w8 ⟨rfl, b8⟩
          have HB9 := Lib.hid (HB8.out.trans (b8.mono HB8.out.size))
          clear b8 HI7 HJ7 HB8
          go_wp2_with fail
          go_ret
          exact ⟨rfl, HB9.out⟩
end Go.Proofs.Ythgjmngaamoofaa
