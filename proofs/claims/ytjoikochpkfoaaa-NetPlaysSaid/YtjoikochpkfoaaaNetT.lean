/- NetHands: the walk. -/
import Derived.Test.YtjoikochpkfoaaaNetS
namespace Go.Proofs.Ytjoikochpkfoaaa
open Go.RowKit
set_option linter.unusedVariables false

theorem info41 : (Try.prog.info? 41).map (fun i => (i.zero, i.size, i.bytes)) = some (some (.agg #[.int .i64 0, .int .i64 0, .slice none 0 0]), 3, 40) := by kernel_rfl

set_option maxRecDepth 100000 in
set_option maxHeartbeats 8000000 in
theorem hands_walk (v0 : Value) (w : World) (hv : IsSteps w v0) :
    Calls Try.prog 4 #[v0] w fun e w' => e = .returned (.bool true) ∧ Below w.heap.size w w' := by
  obtain ⟨ao, len, cap, KK, AA, BB, bss, rfl, hmax, hst⟩ := hv
  obtain ⟨i0, hi, hz0, hz1, hz2⟩ := info_parts info41
  have HST := Lib.hid hst
  clear hst
  go_enter Try.func4, Try.ntmps4
  go_wp2_with fail
  refine (alive_ok w).mono ?_
  rintro e w2 ⟨rfl, hb2⟩
  have HGR := Lib.hid (great_any ao len cap KK AA BB bss w2 (fun i hi => by
    obtain ⟨b, off, bv, h1, h2, h3, h4, h5, h6, h7, h8⟩ := HST.out i hi
    exact ⟨b, off, bv, h1, Nat.lt_of_lt_of_le h2 hb2.size, (hb2.cell (p := ⟨b, off + i * 4, none⟩) h2).trans h3, (hb2.cell (p := ⟨b, off + i * 4 + 1, none⟩) h2).trans h4, (hb2.cell (p := ⟨b, off + i * 4 + 2, none⟩) h2).trans h5, (hb2.cell (p := ⟨b, off + i * 4 + 3, none⟩) h2).trans h6, h7.below hb2, h8⟩) hmax)
  have HB2 := Lib.hid hb2
  clear hb2 hmax
  go_wp2_with fail
  refine HGR.out.mono ?_
  rintro e w3 ⟨(rfl | ⟨rfl, h300⟩), b3⟩
  · have HB3 := Lib.hid (HB2.out.trans (b3.mono HB2.out.size))
    clear b3
    go_wp2_with fail
    go_ret
    exact ⟨rfl, HB3.out⟩
  have hb3 := HB2.out.trans (b3.mono HB2.out.size)
  have HB3 := Lib.hid hb3
  clear b3 hb3 HGR HB2
  go_wp2_with fail
  refine (new_net w3).mono ?_
  rintro e w4 ⟨rfl, hb4, A4⟩
  have hs3 := HB3.out.size
  have H0 : Hands w w4 (w3.heap.size + 1) w3.heap.size none [] [] (.slice none 0 0) [] :=
    ⟨A4, ⟨rfl, .inl ⟨rfl, rfl⟩⟩, (fun s hs => by cases hs), ⟨by decide, (fun p hp => by cases hp)⟩, (fun e he => by cases he), Nat.le_trans hs3 (Nat.le_succ _), hs3, HB3.out.trans (hb4.mono hs3)⟩
  have HH0 := Lib.hid H0
  clear hb4 A4 H0 HB3
  generalize w3.heap.size + 1 = N at *
  generalize w3.heap.size = mb at *
  go_wp2_with fail
  go_loopw [19, 4] (fun i sv wr => ∃ (k : Nat) (row : Option Nat) (es : List Pl.Ent) (TT : Pl.Off) (ss : List Pl.Ent), k ≤ len ∧ i = .int .i64 k ∧ Hands w wr N mb row es TT sv ss ∧ ss.length ≤ k) (fun i _ _ => len - (intOf i).toNat)
  case atStart => exact ⟨0, none, [], [], [], Nat.zero_le _, rfl, HH0.out, Nat.le_refl _⟩
  case round =>
    obtain ⟨k, row, es, TT, ss, hk, rfl, HA, hssk⟩ := hrel
    clear HH0
    by_cases hlt : k < len
    · obtain ⟨b0, off, bv, rfl, hblk, h1, h2, h3, h4, h5, h6⟩ := HST.out k hlt
      have bel := HA.bel
      have c0 := (bel.cell (p := ⟨b0, off + k * 4, none⟩) hblk).trans h1
      have c1 := (bel.cell (p := ⟨b0, off + k * 4 + 1, none⟩) hblk).trans h2
      have c2 := (bel.cell (p := ⟨b0, off + k * 4 + 2, none⟩) hblk).trans h3
      have c3 := (bel.cell (p := ⟨b0, off + k * 4 + 3, none⟩) hblk).trans h4
      have HBC := Lib.hid h5
      obtain ⟨bao, bcap, hbv, _⟩ := id h5
      subst hbv
      clear h1 h2 h3 h4 h5 h6 HST
      generalize KK k = K at *
      generalize AA k = a at *
      generalize BB k = b at *
      generalize bss k = bs at *
      have bX : Below wr.heap.size wr (wr.alloc (.cells #[.int .i64 K, .int .i64 a, .int .i64 b, .slice bao bs.length bcap] 40)) := (Below.refl _ _).alloc (Nat.le_refl _) _
      have HA1 := HA.below bX
      have hH := heap_alloc_new wr (.cells #[.int .i64 K, .int .i64 a, .int .i64 b, .slice bao bs.length bcap] 40)
      have hn64 : es.length ≤ 64 := by have := HA.inv.len; rw [Pl.abs_len] at this; exact this
      have HDO := Lib.hid (do_any N mb row es TT K a b (.slice bao bs.length bcap) bs _ HA1.a hn64 HA.small (HBC.out.below HA1.bel))
      obtain ⟨f1, f2⟩ := HA.inv.step K a b bs TT
      have f3 := fun hk he => Pl.handed HA.inv K a b bs TT hk he
      unfold Pl.sent' at f1
      have HA1' := Lib.hid HA1
      have HHH := Lib.hid hH
      have F1 := Lib.hid f1
      have F2 := Lib.hid f2
      have F3 := Lib.hid f3
      clear bX HA1 hH f1 f2 f3 hn64 HA bel
      go_wp2_with fail
      generalize wr.heap.size = H at *
      generalize wr.alloc (.cells #[.int .i64 K, .int .i64 a, .int .i64 b, .slice bao bs.length bcap] 40) = W1 at *
      clear c0 c1 c2 c3
      generalize Pl.doF K a b bs (Pl.abs es) TT = o at *
      refine HDO.out.mono ?_
      rintro e w5 ⟨v5, es5, rfl, B5, S5, hps⟩
      obtain ⟨ao5, cp5, hv5, _⟩ := id B5
      subst hv5
      have hH5 := Step.cells HA1'.out.a S5 HHH.out (by decide) (by decide)
      have bP : Below w5.heap.size w5 (w5.alloc (.cells #[.int .i64 o.pk.frm, .int .i64 o.pk.to, .slice ao5 o.pk.bs.length cp5] 41)) := (Below.refl _ _).alloc (Nat.le_refl _) _
      have hP := heap_alloc_new w5 (.cells #[.int .i64 o.pk.frm, .int .i64 o.pk.to, .slice ao5 o.pk.bs.length cp5] 41)
      have hH5' := (bP.block H (Array.getElem?_eq_some_iff.1 hH5).1).trans hH5
      have hHP : H ≠ w5.heap.size := by have := (Array.getElem?_eq_some_iff.1 hH5).1; omega
      have HS5 := Lib.hid S5
      have HPS := Lib.hid hps
      have HB5 := Lib.hid (B5.below bP)
      have HBP := Lib.hid bP
      have hcH : ∀ j u, (#[.int .i64 K, .int .i64 a, .int .i64 b, .slice bao bs.length bcap] : Array Value)[j]? = some u → (w5.alloc (.cells #[.int .i64 o.pk.frm, .int .i64 o.pk.to, .slice ao5 o.pk.bs.length cp5] 41)).cell? ⟨H, j, none⟩ = some u := fun j u hj => by simp only [World.cell?, hH5']; simpa using hj
      have y0 := hcH 0 _ rfl
      have y1 := hcH 1 _ rfl
      have y2 := hcH 2 _ rfl
      have y3 := hcH 3 _ rfl
      have hHlt : H < (w5.alloc (.cells #[.int .i64 o.pk.frm, .int .i64 o.pk.to, .slice ao5 o.pk.bs.length cp5] 41)).heap.size := (Array.getElem?_eq_some_iff.1 hH5').1
      have HP5 := Lib.hid hP
      have HH5 := Lib.hid hH5
      clear S5 hps B5 bP hP hH5 hH5' hcH HDO HHH
      by_cases k1 : K = 1
      · subst k1
        cases e0 : (o.err == 0)
        · have e0' : ¬ o.err = 0 := by simpa using e0
          have hinv := F1.out
          rw [if_neg (fun x => e0' x.2)] at hinv
          obtain ⟨row5, HA5⟩ := HA1'.out.step HS5.out (by rw [HPS.out]; exact hinv)
          have HA6 := Lib.hid (HA5.below HBP.out)
          clear hinv HA5 F1 F2 F3 HA1' HS5 HPS HB5 HBP HP5 HBC
          go_wp2_with fail
          generalize w5.alloc (.cells #[.int .i64 o.pk.frm, .int .i64 o.pk.to, .slice ao5 o.pk.bs.length cp5] 41) = W5 at *
          generalize o.T = T5 at *
          have hgt : ¬ ((es5.length : Int) > 64) := by have := HA6.out.inv.len; rw [Pl.abs_len] at this; omega
          have e9 : (Pl.parted T5 a b != Pl.parted T5 a b) = false := by simp
          refine wp_region_L (fun w' => w'.cell? ⟨H, 1, none⟩ = some (.int .i64 a) ∧ w'.cell? ⟨H, 2, none⟩ = some (.int .i64 b)) 99 (by kernel_rfl) ⟨y1, y2⟩ (fun hHeld => ?_)
          refine wpL_takeAt (i := 0) 97 (v := ?vt40) rfl (by kernel_rfl) (by kernel_rfl) (by kernel_rfl) (by kernel_rfl) (by kernel_rfl) (fun _ _ _ h => h) (Or.inl ⟨by rfl, ?ht40⟩) (by assumption) ?rt40
          case ht40 => intro w hSw; (try dsimp only at hSw); go_simp; (try with_reducible rfl)
          simp only [Act.put, List.setIfInBounds_toArray, List.set_cons_zero, List.set_cons_succ]
          refine wpL_one (i := 1) (by kernel_rfl) rfl (fun Kx hKx => ?_)
          go_simp
          refine (len_net N mb row5 es5 T5 _ (HA6.out.a.below ((Below.refl W5.heap.size W5).drew))).mono ?_
          rintro e zz ⟨rfl, rfl⟩
          refine hKx.out _ _ (fun _ => hHeld) (fun _ => ?_)
          clear hKx Kx
          try simp only [Act.put, List.setIfInBounds_toArray, List.set_cons_zero, List.set_cons_succ]
          refine wpL_takeAt (i := 2) 99 (v := ?vt41) rfl (by kernel_rfl) (by kernel_rfl) (by kernel_rfl) (by kernel_rfl) (by kernel_rfl) (fun _ _ _ h => h) (Or.inl ⟨by rfl, ?ht41⟩) (by assumption) ?rt41
          case ht41 => intro w hSw; (try dsimp only at hSw); go_simp; (try with_reducible rfl)
          simp only [Act.put, List.setIfInBounds_toArray, List.set_cons_zero, List.set_cons_succ]
          refine wpL_takeAt (i := 3) 100 (v := ?vt42) rfl (by kernel_rfl) (by kernel_rfl) (by kernel_rfl) (by kernel_rfl) (by kernel_rfl) (fun _ _ _ h => h) (Or.inl ⟨by rfl, ?ht42⟩) (by assumption) ?rt42
          case ht42 => intro w hSw; (try dsimp only at hSw); go_simp; (try with_reducible rfl)
          simp only [Act.put, List.setIfInBounds_toArray, List.set_cons_zero, List.set_cons_succ]
          refine wpL_takeAt (i := 4) 101 (v := ?vt43) rfl (by kernel_rfl) (by kernel_rfl) (by kernel_rfl) (by kernel_rfl) (by kernel_rfl) (fun _ _ _ h => h) (Or.inl ⟨by rfl, ?ht43⟩) (by assumption) ?rt43
          case ht43 => intro w hSw; (try dsimp only at hSw); go_simp; (try with_reducible rfl)
          simp only [Act.put, List.setIfInBounds_toArray, List.set_cons_zero, List.set_cons_succ]
          refine wpL_takeAt (i := 5) 102 (v := ?vt44) rfl (by kernel_rfl) (by kernel_rfl) (by kernel_rfl) (by kernel_rfl) (by kernel_rfl) (fun _ _ _ h => h) (Or.inl ⟨by rfl, ?ht44⟩) (by assumption) ?rt44
          case ht44 => intro w hSw; (try dsimp only at hSw); go_simp; (try with_reducible rfl)
          simp only [Act.put, List.setIfInBounds_toArray, List.set_cons_zero, List.set_cons_succ]
          refine wpL_takeAt (i := 6) 103 (v := ?vt45) rfl (by kernel_rfl) (by kernel_rfl) (by kernel_rfl) (by kernel_rfl) (by kernel_rfl) (fun _ _ _ h => h) (Or.inl ⟨by rfl, ?ht45⟩) (by assumption) ?rt45
          case ht45 => intro w hSw; (try dsimp only at hSw); go_simp; (try with_reducible rfl)
          simp only [Act.put, List.setIfInBounds_toArray, List.set_cons_zero, List.set_cons_succ]
          refine wpL_takeAt (i := 7) 104 (v := ?vt46) rfl (by kernel_rfl) (by kernel_rfl) (by kernel_rfl) (by kernel_rfl) (by kernel_rfl) (fun _ _ _ h => h) (Or.inl ⟨by rfl, ?ht46⟩) (by assumption) ?rt46
          case ht46 => intro w hSw; (try dsimp only at hSw); go_simp; (try with_reducible rfl)
          simp only [Act.put, List.setIfInBounds_toArray, List.set_cons_zero, List.set_cons_succ]
          refine wpL_takeAt (i := 8) 105 (v := ?vt47) rfl (by kernel_rfl) (by kernel_rfl) (by kernel_rfl) (by kernel_rfl) (by kernel_rfl) (fun _ _ _ h => h) (Or.inl ⟨by rfl, ?ht47⟩) (by assumption) ?rt47
          case ht47 => intro w hSw; (try dsimp only at hSw); go_simp; (try with_reducible rfl)
          simp only [Act.put, List.setIfInBounds_toArray, List.set_cons_zero, List.set_cons_succ]
          refine wpL_takeAt (i := 10) 107 (v := ?vt48) rfl (by kernel_rfl) (by kernel_rfl) (by kernel_rfl) (by kernel_rfl) (by kernel_rfl) (fun _ _ _ h => h) (Or.inl ⟨by rfl, ?ht48⟩) (by assumption) ?rt48
          case ht48 => intro w hSw; (try dsimp only at hSw); go_simp; (try with_reducible rfl)
          simp only [Act.put, List.setIfInBounds_toArray, List.set_cons_zero, List.set_cons_succ]
          refine wpL_takeAt (i := 11) 108 (v := ?vt49) rfl (by kernel_rfl) (by kernel_rfl) (by kernel_rfl) (by kernel_rfl) (by kernel_rfl) (fun _ _ _ h => h) (Or.inl ⟨by rfl, ?ht49⟩) (by assumption) ?rt49
          case ht49 => intro w hSw; (try dsimp only at hSw); go_simp; (try with_reducible rfl)
          simp only [Act.put, List.setIfInBounds_toArray, List.set_cons_zero, List.set_cons_succ]
          refine wpL_takeAt (i := 12) 109 (v := ?vt50) rfl (by kernel_rfl) (by kernel_rfl) (by kernel_rfl) (by kernel_rfl) (by kernel_rfl) (fun _ _ _ h => h) (Or.inl ⟨by rfl, ?ht50⟩) (by assumption) ?rt50
          case ht50 => intro w hSw; (try dsimp only at hSw); go_simp; (try with_reducible rfl)
          simp only [Act.put, List.setIfInBounds_toArray, List.set_cons_zero, List.set_cons_succ]
          refine wpL_takeAt (i := 13) 110 (v := ?vt51) rfl (by kernel_rfl) (by kernel_rfl) (by kernel_rfl) (by kernel_rfl) (by kernel_rfl) (fun _ _ _ h => h) (Or.inl ⟨by rfl, ?ht51⟩) (by assumption) ?rt51
          case ht51 => intro w hSw; (try dsimp only at hSw); go_simp; (try with_reducible rfl)
          simp only [Act.put, List.setIfInBounds_toArray, List.set_cons_zero, List.set_cons_succ]
          refine wpL_takeAt (i := 14) 111 (v := ?vt52) rfl (by kernel_rfl) (by kernel_rfl) (by kernel_rfl) (by kernel_rfl) (by kernel_rfl) (fun _ _ _ h => h) (Or.inl ⟨by rfl, ?ht52⟩) (by assumption) ?rt52
          case ht52 => intro w hSw; (try dsimp only at hSw); go_simp; (try with_reducible rfl)
          simp only [Act.put, List.setIfInBounds_toArray, List.set_cons_zero, List.set_cons_succ]
          clear hHeld
          refine wpL_one (i := 9) (by kernel_rfl) rfl (fun Kx hKx => ?_)
          go_simp
          refine (parted_any N mb row5 es5 T5 a b _ (HA6.out.a.below ((Below.refl W5.heap.size W5).drew))).mono ?_
          rintro e z1 ⟨rfl, d1⟩
          have dd1 : Below W5.heap.size W5 z1 := ((Below.refl W5.heap.size W5).drew).trans d1
          have u1 := (dd1.cell (p := ⟨H, 1, none⟩) hHlt).trans y1
          have u2 := (dd1.cell (p := ⟨H, 2, none⟩) hHlt).trans y2
          have HZ1 := Lib.hid (HA6.out.below dd1)
          clear d1 dd1 y1 y2
          refine hKx.out _ _ (fun _ => ⟨u1, u2⟩) (fun _ => ?_)
          clear hKx Kx
          try simp only [Act.put, List.setIfInBounds_toArray, List.set_cons_zero, List.set_cons_succ]
          refine wpL_one (i := 15) (by kernel_rfl) rfl (fun Kx hKx => ?_)
          go_simp
          refine (parted_any N mb row5 es5 T5 b a _ HZ1.out.a).mono ?_
          rintro e z2 ⟨rfl, d2⟩
          rw [Pl.parted_comm T5 b a]
          have hH1 : H < z1.heap.size := World.block_lt_of_cell? _ _ u1
          have q1 := (d2.cell (p := ⟨H, 1, none⟩) hH1).trans u1
          have q2 := (d2.cell (p := ⟨H, 2, none⟩) hH1).trans u2
          have HZ2 := Lib.hid (HZ1.out.below d2)
          clear d2 u1 u2 HZ1 hH1
          refine hKx.out _ _ (fun _ => ⟨q1, q2⟩) (fun _ => ?_)
          clear hKx Kx
          try simp only [Act.put, List.setIfInBounds_toArray, List.set_cons_zero, List.set_cons_succ]
          generalize Pl.parted T5 a b = pab at *
          refine wpL_one (i := 16) (by kernel_rfl) rfl (fun Kx hKx => ?_)
          go_simp
          refine hKx.out _ _ (fun _ => ⟨q1, q2⟩) (fun _ => ?_)
          clear hKx Kx
          try simp only [Act.put, List.setIfInBounds_toArray, List.set_cons_zero, List.set_cons_succ]
          refine wpL_one (i := 17) (by kernel_rfl) rfl (fun Kx hKx => ?_)
          go_simp
          refine hKx.out _ _ (fun _ => ⟨q1, q2⟩) (fun _ => ?_)
          clear hKx Kx
          try simp only [Act.put, List.setIfInBounds_toArray, List.set_cons_zero, List.set_cons_succ]
          refine wpL_done (by kernel_rfl) ?_ _
          clear e9 hgt q1 q2
          go_wp2_with fail
          all_goals exact ⟨⟨k + 1, row5, es5, T5, ss, by omega, rfl, HZ2.out, by omega⟩, by simp [intOf]; omega⟩
        · have e0' : o.err = 0 := by simpa using e0
          have hinv := F1.out
          rw [if_pos ⟨rfl, e0'⟩] at hinv
          have hl := F2.out rfl e0'
          obtain ⟨row5, A5, own5, bel5⟩ := HA1'.out.after HS5.out
          have b6 : Below (w5.alloc (.cells #[.int .i64 o.pk.frm, .int .i64 o.pk.to, .slice ao5 o.pk.bs.length cp5] 41)).heap.size (w5.alloc (.cells #[.int .i64 o.pk.frm, .int .i64 o.pk.to, .slice ao5 o.pk.bs.length cp5] 41)) ((w5.alloc (.cells #[.int .i64 o.pk.frm, .int .i64 o.pk.to, .slice ao5 o.pk.bs.length cp5] 41)).alloc (.cells #[.int .i64 a, .int .i64 b, .slice bao bs.length bcap] 41)) := (Below.refl _ _).alloc (Nat.le_refl _) _
          have bP := HBP.out
          have b56 := bP.trans (b6.mono bP.size)
          have A6 := A5.below b56
          have own6 := ownsRow_of own5 (fun g hg => b56.block g (own5.lt g hg).2)
          have bel6 := bel5.trans (b56.mono bel5.size)
          have hnew := World.news_of_block (heap_alloc_new (w5.alloc (.cells #[.int .i64 o.pk.frm, .int .i64 o.pk.to, .slice ao5 o.pk.bs.length cp5] 41)) (.cells #[.int .i64 a, .int .i64 b, .slice bao bs.length bcap] 41))
          have hs51 : (w5.alloc (.cells #[.int .i64 o.pk.frm, .int .i64 o.pk.to, .slice ao5 o.pk.bs.length cp5] 41)).heap.size = w5.heap.size + 1 := by simp
          rw [hs51] at hnew
          have hps := HPS.out
          have TA : ∀ (v7 : Value) (w7 : World), w7.ownsRow w.heap.size 41 3 v7 (ss.length + 1) (Pl.rows ss ++ [.int .i64 a, .int .i64 b, .slice bao bs.length bcap]) → ((w5.alloc (.cells #[.int .i64 o.pk.frm, .int .i64 o.pk.to, .slice ao5 o.pk.bs.length cp5] 41)).alloc (.cells #[.int .i64 a, .int .i64 b, .slice bao bs.length bcap] 41)).grownBy w7 u4.ownBlock →
              w7.cell? ⟨H, 0, none⟩ = some (.int .i64 1) ∧ w7.cell? ⟨H, 1, none⟩ = some (.int .i64 a) ∧ w7.cell? ⟨H, 2, none⟩ = some (.int .i64 b) ∧ H < w7.heap.size ∧ Hands w w7 N mb row5 es5 o.T v7 (ss ++ [⟨a, b, .slice bao bs.length bcap, bs⟩]) := by
            intro v7 w7 h7 g7
            have HP7 := HA1'.out.push (s := ⟨a, b, .slice bao bs.length bcap, bs⟩) A6 bel6 own6 g7 h7 HBC.out hl (by rw [hps]; exact hinv)
            have hHlt6 := Nat.lt_of_lt_of_le hHlt b6.size
            have hH6 : ∃ cs, ((w5.alloc (.cells #[.int .i64 o.pk.frm, .int .i64 o.pk.to, .slice ao5 o.pk.bs.length cp5] 41)).alloc (.cells #[.int .i64 a, .int .i64 b, .slice bao bs.length bcap] 41)).heap[H]? = some (Obj.cells cs 40 (0, 0)) := ⟨_, (b56.block H (Array.getElem?_eq_some_iff.1 (HH5.out)).1).trans HH5.out⟩
            have nH : some H ≠ u4.ownBlock := fun e => by
              obtain ⟨cs', hc'⟩ := own_cells own6 e.symm
              obtain ⟨cs, hcs⟩ := hH6
              rw [hc'] at hcs; cases hcs
            have kH := g7.block H hHlt6 nH
            have kk : ∀ o' u, (w5.alloc (.cells #[.int .i64 o.pk.frm, .int .i64 o.pk.to, .slice ao5 o.pk.bs.length cp5] 41)).cell? ⟨H, o', none⟩ = some u → w7.cell? ⟨H, o', none⟩ = some u := fun o' u hu => (World.cell?_of_block kH).trans ((b6.cell (p := ⟨H, o', none⟩) hHlt).trans hu)
            exact ⟨kk 0 _ y0, kk 1 _ y1, kk 2 _ y2, Nat.lt_of_lt_of_le hHlt6 g7.size, HP7⟩
          have HTA := Lib.hid TA
          have HNEW := Lib.hid hnew
          have OWN6 := Lib.hid own6
          have hsw : w.heap.size ≤ w5.heap.size := bel5.size
          have hone : ∀ u ∈ ([.int .i64 a, .int .i64 b, .slice bao bs.length bcap] : List Value), u.oneCell' = true := by
            intro u hu
            simp at hu
            rcases hu with rfl | rfl | rfl <;> rfl
          have HONE := Lib.hid hone
          clear hone TA hs51 hnew own6 b6 bP b56 A6 A5 own5 bel5 bel6 hinv F1 F2 F3 HA1' HS5 HPS HB5 HBP HP5 HBC hps hl
          generalize o.T = T5 at *
          go_wp2_with (at_builtin; refine wpList_append_own _ rfl (.tmp 36) (.tmp 44) 38 rfl w.heap.size 41 i0 (.agg #[.int .i64 0, .int .i64 0, .slice none 0 0]) 3 40 Try.underlying38 hi hz0 hz1 hz2 rfl (by decide) u4 ss.length (Pl.rows ss) rfl OWN6.out ⟨w5.heap.size + 1, 0, none⟩ 1 1 [.int .i64 a, .int .i64 b, .slice bao bs.length bcap] rfl rfl HNEW.out HONE.out (by unfold maxLen; omega) (by omega) (by simp; omega) ?_; intro v7 w7 hown7 hgrow7 hat7; obtain ⟨zA0, zA1, zA2, hHlt7, T7⟩ := HTA.out v7 w7 hown7 hgrow7; have HA7 := Lib.hid T7; clear T7 HTA hown7 hgrow7 hat7 OWN6 HNEW y0 y1 y2 y3 hHlt)
          have hgt : ¬ ((es5.length : Int) > 64) := by have := HA7.out.inv.len; rw [Pl.abs_len] at this; omega
          have e9 : (Pl.parted T5 a b != Pl.parted T5 a b) = false := by simp
          refine wp_region_L (fun w' => w'.cell? ⟨H, 1, none⟩ = some (.int .i64 a) ∧ w'.cell? ⟨H, 2, none⟩ = some (.int .i64 b)) 99 (by kernel_rfl) ⟨zA1, zA2⟩ (fun hHeld => ?_)
          refine wpL_takeAt (i := 0) 97 (v := ?vt1) rfl (by kernel_rfl) (by kernel_rfl) (by kernel_rfl) (by kernel_rfl) (by kernel_rfl) (fun _ _ _ h => h) (Or.inl ⟨by rfl, ?ht1⟩) (by assumption) ?rt1
          case ht1 => intro w hSw; (try dsimp only at hSw); go_simp; (try with_reducible rfl)
          simp only [Act.put, List.setIfInBounds_toArray, List.set_cons_zero, List.set_cons_succ]
          refine wpL_one (i := 1) (by kernel_rfl) rfl (fun Kx hKx => ?_)
          go_simp
          refine (len_net N mb row5 es5 T5 _ (HA7.out.a.below ((Below.refl w7.heap.size w7).drew))).mono ?_
          rintro e zz ⟨rfl, rfl⟩
          refine hKx.out _ _ (fun _ => hHeld) (fun _ => ?_)
          clear hKx Kx
          try simp only [Act.put, List.setIfInBounds_toArray, List.set_cons_zero, List.set_cons_succ]
          refine wpL_takeAt (i := 2) 99 (v := ?vt2) rfl (by kernel_rfl) (by kernel_rfl) (by kernel_rfl) (by kernel_rfl) (by kernel_rfl) (fun _ _ _ h => h) (Or.inl ⟨by rfl, ?ht2⟩) (by assumption) ?rt2
          case ht2 => intro w hSw; (try dsimp only at hSw); go_simp; (try with_reducible rfl)
          simp only [Act.put, List.setIfInBounds_toArray, List.set_cons_zero, List.set_cons_succ]
          refine wpL_takeAt (i := 3) 100 (v := ?vt3) rfl (by kernel_rfl) (by kernel_rfl) (by kernel_rfl) (by kernel_rfl) (by kernel_rfl) (fun _ _ _ h => h) (Or.inl ⟨by rfl, ?ht3⟩) (by assumption) ?rt3
          case ht3 => intro w hSw; (try dsimp only at hSw); go_simp; (try with_reducible rfl)
          simp only [Act.put, List.setIfInBounds_toArray, List.set_cons_zero, List.set_cons_succ]
          refine wpL_takeAt (i := 4) 101 (v := ?vt4) rfl (by kernel_rfl) (by kernel_rfl) (by kernel_rfl) (by kernel_rfl) (by kernel_rfl) (fun _ _ _ h => h) (Or.inl ⟨by rfl, ?ht4⟩) (by assumption) ?rt4
          case ht4 => intro w hSw; (try dsimp only at hSw); go_simp; (try with_reducible rfl)
          simp only [Act.put, List.setIfInBounds_toArray, List.set_cons_zero, List.set_cons_succ]
          refine wpL_takeAt (i := 5) 102 (v := ?vt5) rfl (by kernel_rfl) (by kernel_rfl) (by kernel_rfl) (by kernel_rfl) (by kernel_rfl) (fun _ _ _ h => h) (Or.inl ⟨by rfl, ?ht5⟩) (by assumption) ?rt5
          case ht5 => intro w hSw; (try dsimp only at hSw); go_simp; (try with_reducible rfl)
          simp only [Act.put, List.setIfInBounds_toArray, List.set_cons_zero, List.set_cons_succ]
          refine wpL_takeAt (i := 6) 103 (v := ?vt6) rfl (by kernel_rfl) (by kernel_rfl) (by kernel_rfl) (by kernel_rfl) (by kernel_rfl) (fun _ _ _ h => h) (Or.inl ⟨by rfl, ?ht6⟩) (by assumption) ?rt6
          case ht6 => intro w hSw; (try dsimp only at hSw); go_simp; (try with_reducible rfl)
          simp only [Act.put, List.setIfInBounds_toArray, List.set_cons_zero, List.set_cons_succ]
          refine wpL_takeAt (i := 7) 104 (v := ?vt7) rfl (by kernel_rfl) (by kernel_rfl) (by kernel_rfl) (by kernel_rfl) (by kernel_rfl) (fun _ _ _ h => h) (Or.inl ⟨by rfl, ?ht7⟩) (by assumption) ?rt7
          case ht7 => intro w hSw; (try dsimp only at hSw); go_simp; (try with_reducible rfl)
          simp only [Act.put, List.setIfInBounds_toArray, List.set_cons_zero, List.set_cons_succ]
          refine wpL_takeAt (i := 8) 105 (v := ?vt8) rfl (by kernel_rfl) (by kernel_rfl) (by kernel_rfl) (by kernel_rfl) (by kernel_rfl) (fun _ _ _ h => h) (Or.inl ⟨by rfl, ?ht8⟩) (by assumption) ?rt8
          case ht8 => intro w hSw; (try dsimp only at hSw); go_simp; (try with_reducible rfl)
          simp only [Act.put, List.setIfInBounds_toArray, List.set_cons_zero, List.set_cons_succ]
          refine wpL_takeAt (i := 10) 107 (v := ?vt9) rfl (by kernel_rfl) (by kernel_rfl) (by kernel_rfl) (by kernel_rfl) (by kernel_rfl) (fun _ _ _ h => h) (Or.inl ⟨by rfl, ?ht9⟩) (by assumption) ?rt9
          case ht9 => intro w hSw; (try dsimp only at hSw); go_simp; (try with_reducible rfl)
          simp only [Act.put, List.setIfInBounds_toArray, List.set_cons_zero, List.set_cons_succ]
          refine wpL_takeAt (i := 11) 108 (v := ?vt10) rfl (by kernel_rfl) (by kernel_rfl) (by kernel_rfl) (by kernel_rfl) (by kernel_rfl) (fun _ _ _ h => h) (Or.inl ⟨by rfl, ?ht10⟩) (by assumption) ?rt10
          case ht10 => intro w hSw; (try dsimp only at hSw); go_simp; (try with_reducible rfl)
          simp only [Act.put, List.setIfInBounds_toArray, List.set_cons_zero, List.set_cons_succ]
          refine wpL_takeAt (i := 12) 109 (v := ?vt11) rfl (by kernel_rfl) (by kernel_rfl) (by kernel_rfl) (by kernel_rfl) (by kernel_rfl) (fun _ _ _ h => h) (Or.inl ⟨by rfl, ?ht11⟩) (by assumption) ?rt11
          case ht11 => intro w hSw; (try dsimp only at hSw); go_simp; (try with_reducible rfl)
          simp only [Act.put, List.setIfInBounds_toArray, List.set_cons_zero, List.set_cons_succ]
          refine wpL_takeAt (i := 13) 110 (v := ?vt12) rfl (by kernel_rfl) (by kernel_rfl) (by kernel_rfl) (by kernel_rfl) (by kernel_rfl) (fun _ _ _ h => h) (Or.inl ⟨by rfl, ?ht12⟩) (by assumption) ?rt12
          case ht12 => intro w hSw; (try dsimp only at hSw); go_simp; (try with_reducible rfl)
          simp only [Act.put, List.setIfInBounds_toArray, List.set_cons_zero, List.set_cons_succ]
          refine wpL_takeAt (i := 14) 111 (v := ?vt13) rfl (by kernel_rfl) (by kernel_rfl) (by kernel_rfl) (by kernel_rfl) (by kernel_rfl) (fun _ _ _ h => h) (Or.inl ⟨by rfl, ?ht13⟩) (by assumption) ?rt13
          case ht13 => intro w hSw; (try dsimp only at hSw); go_simp; (try with_reducible rfl)
          simp only [Act.put, List.setIfInBounds_toArray, List.set_cons_zero, List.set_cons_succ]
          clear hHeld
          refine wpL_one (i := 9) (by kernel_rfl) rfl (fun Kx hKx => ?_)
          go_simp
          refine (parted_any N mb row5 es5 T5 a b _ (HA7.out.a.below ((Below.refl w7.heap.size w7).drew))).mono ?_
          rintro e z1 ⟨rfl, d1⟩
          have dd1 : Below w7.heap.size w7 z1 := ((Below.refl w7.heap.size w7).drew).trans d1
          have u1 := (dd1.cell (p := ⟨H, 1, none⟩) hHlt7).trans zA1
          have u2 := (dd1.cell (p := ⟨H, 2, none⟩) hHlt7).trans zA2
          have HZ1 := Lib.hid (HA7.out.below dd1)
          clear d1 dd1 zA1 zA2
          refine hKx.out _ _ (fun _ => ⟨u1, u2⟩) (fun _ => ?_)
          clear hKx Kx
          try simp only [Act.put, List.setIfInBounds_toArray, List.set_cons_zero, List.set_cons_succ]
          refine wpL_one (i := 15) (by kernel_rfl) rfl (fun Kx hKx => ?_)
          go_simp
          refine (parted_any N mb row5 es5 T5 b a _ HZ1.out.a).mono ?_
          rintro e z2 ⟨rfl, d2⟩
          rw [Pl.parted_comm T5 b a]
          have hH1 : H < z1.heap.size := World.block_lt_of_cell? _ _ u1
          have q1 := (d2.cell (p := ⟨H, 1, none⟩) hH1).trans u1
          have q2 := (d2.cell (p := ⟨H, 2, none⟩) hH1).trans u2
          have HZ2 := Lib.hid (HZ1.out.below d2)
          clear d2 u1 u2 HZ1 hH1
          refine hKx.out _ _ (fun _ => ⟨q1, q2⟩) (fun _ => ?_)
          clear hKx Kx
          try simp only [Act.put, List.setIfInBounds_toArray, List.set_cons_zero, List.set_cons_succ]
          generalize Pl.parted T5 a b = pab at *
          refine wpL_one (i := 16) (by kernel_rfl) rfl (fun Kx hKx => ?_)
          go_simp
          refine hKx.out _ _ (fun _ => ⟨q1, q2⟩) (fun _ => ?_)
          clear hKx Kx
          try simp only [Act.put, List.setIfInBounds_toArray, List.set_cons_zero, List.set_cons_succ]
          refine wpL_one (i := 17) (by kernel_rfl) rfl (fun Kx hKx => ?_)
          go_simp
          refine hKx.out _ _ (fun _ => ⟨q1, q2⟩) (fun _ => ?_)
          clear hKx Kx
          try simp only [Act.put, List.setIfInBounds_toArray, List.set_cons_zero, List.set_cons_succ]
          refine wpL_done (by kernel_rfl) ?_ _
          clear e9 hgt q1 q2
          go_wp2_with fail
          all_goals exact ⟨⟨k + 1, row5, es5, T5, (ss ++ [⟨a, b, .slice bao bs.length bcap, bs⟩]), by omega, rfl, HZ2.out, by rw [List.length_append]; simp; omega⟩, by simp [intOf]; omega⟩
      · have k1b : (K == 1) = false := beq_eq_false_iff_ne.2 k1
        by_cases k2 : K = 2
        · subst k2
          cases e0 : (o.err == 0)
          · have hinv := F1.out
            rw [if_neg (fun x => k1 x.1)] at hinv
            obtain ⟨row5, HA5⟩ := HA1'.out.step HS5.out (by rw [HPS.out]; exact hinv)
            have HA6 := Lib.hid (HA5.below HBP.out)
            clear hinv HA5 F1 F2 F3 HA1' HS5 HPS HB5 HBP HP5 HBC
            go_wp2_with fail
            generalize w5.alloc (.cells #[.int .i64 o.pk.frm, .int .i64 o.pk.to, .slice ao5 o.pk.bs.length cp5] 41) = W5 at *
            generalize o.T = T5 at *
            have hgt : ¬ ((es5.length : Int) > 64) := by have := HA6.out.inv.len; rw [Pl.abs_len] at this; omega
            have e9 : (Pl.parted T5 a b != Pl.parted T5 a b) = false := by simp
            refine wp_region_L (fun w' => w'.cell? ⟨H, 1, none⟩ = some (.int .i64 a) ∧ w'.cell? ⟨H, 2, none⟩ = some (.int .i64 b)) 99 (by kernel_rfl) ⟨y1, y2⟩ (fun hHeld => ?_)
            refine wpL_takeAt (i := 0) 97 (v := ?vt53) rfl (by kernel_rfl) (by kernel_rfl) (by kernel_rfl) (by kernel_rfl) (by kernel_rfl) (fun _ _ _ h => h) (Or.inl ⟨by rfl, ?ht53⟩) (by assumption) ?rt53
            case ht53 => intro w hSw; (try dsimp only at hSw); go_simp; (try with_reducible rfl)
            simp only [Act.put, List.setIfInBounds_toArray, List.set_cons_zero, List.set_cons_succ]
            refine wpL_one (i := 1) (by kernel_rfl) rfl (fun Kx hKx => ?_)
            go_simp
            refine (len_net N mb row5 es5 T5 _ (HA6.out.a.below ((Below.refl W5.heap.size W5).drew))).mono ?_
            rintro e zz ⟨rfl, rfl⟩
            refine hKx.out _ _ (fun _ => hHeld) (fun _ => ?_)
            clear hKx Kx
            try simp only [Act.put, List.setIfInBounds_toArray, List.set_cons_zero, List.set_cons_succ]
            refine wpL_takeAt (i := 2) 99 (v := ?vt54) rfl (by kernel_rfl) (by kernel_rfl) (by kernel_rfl) (by kernel_rfl) (by kernel_rfl) (fun _ _ _ h => h) (Or.inl ⟨by rfl, ?ht54⟩) (by assumption) ?rt54
            case ht54 => intro w hSw; (try dsimp only at hSw); go_simp; (try with_reducible rfl)
            simp only [Act.put, List.setIfInBounds_toArray, List.set_cons_zero, List.set_cons_succ]
            refine wpL_takeAt (i := 3) 100 (v := ?vt55) rfl (by kernel_rfl) (by kernel_rfl) (by kernel_rfl) (by kernel_rfl) (by kernel_rfl) (fun _ _ _ h => h) (Or.inl ⟨by rfl, ?ht55⟩) (by assumption) ?rt55
            case ht55 => intro w hSw; (try dsimp only at hSw); go_simp; (try with_reducible rfl)
            simp only [Act.put, List.setIfInBounds_toArray, List.set_cons_zero, List.set_cons_succ]
            refine wpL_takeAt (i := 4) 101 (v := ?vt56) rfl (by kernel_rfl) (by kernel_rfl) (by kernel_rfl) (by kernel_rfl) (by kernel_rfl) (fun _ _ _ h => h) (Or.inl ⟨by rfl, ?ht56⟩) (by assumption) ?rt56
            case ht56 => intro w hSw; (try dsimp only at hSw); go_simp; (try with_reducible rfl)
            simp only [Act.put, List.setIfInBounds_toArray, List.set_cons_zero, List.set_cons_succ]
            refine wpL_takeAt (i := 5) 102 (v := ?vt57) rfl (by kernel_rfl) (by kernel_rfl) (by kernel_rfl) (by kernel_rfl) (by kernel_rfl) (fun _ _ _ h => h) (Or.inl ⟨by rfl, ?ht57⟩) (by assumption) ?rt57
            case ht57 => intro w hSw; (try dsimp only at hSw); go_simp; (try with_reducible rfl)
            simp only [Act.put, List.setIfInBounds_toArray, List.set_cons_zero, List.set_cons_succ]
            refine wpL_takeAt (i := 6) 103 (v := ?vt58) rfl (by kernel_rfl) (by kernel_rfl) (by kernel_rfl) (by kernel_rfl) (by kernel_rfl) (fun _ _ _ h => h) (Or.inl ⟨by rfl, ?ht58⟩) (by assumption) ?rt58
            case ht58 => intro w hSw; (try dsimp only at hSw); go_simp; (try with_reducible rfl)
            simp only [Act.put, List.setIfInBounds_toArray, List.set_cons_zero, List.set_cons_succ]
            refine wpL_takeAt (i := 7) 104 (v := ?vt59) rfl (by kernel_rfl) (by kernel_rfl) (by kernel_rfl) (by kernel_rfl) (by kernel_rfl) (fun _ _ _ h => h) (Or.inl ⟨by rfl, ?ht59⟩) (by assumption) ?rt59
            case ht59 => intro w hSw; (try dsimp only at hSw); go_simp; (try with_reducible rfl)
            simp only [Act.put, List.setIfInBounds_toArray, List.set_cons_zero, List.set_cons_succ]
            refine wpL_takeAt (i := 8) 105 (v := ?vt60) rfl (by kernel_rfl) (by kernel_rfl) (by kernel_rfl) (by kernel_rfl) (by kernel_rfl) (fun _ _ _ h => h) (Or.inl ⟨by rfl, ?ht60⟩) (by assumption) ?rt60
            case ht60 => intro w hSw; (try dsimp only at hSw); go_simp; (try with_reducible rfl)
            simp only [Act.put, List.setIfInBounds_toArray, List.set_cons_zero, List.set_cons_succ]
            refine wpL_takeAt (i := 10) 107 (v := ?vt61) rfl (by kernel_rfl) (by kernel_rfl) (by kernel_rfl) (by kernel_rfl) (by kernel_rfl) (fun _ _ _ h => h) (Or.inl ⟨by rfl, ?ht61⟩) (by assumption) ?rt61
            case ht61 => intro w hSw; (try dsimp only at hSw); go_simp; (try with_reducible rfl)
            simp only [Act.put, List.setIfInBounds_toArray, List.set_cons_zero, List.set_cons_succ]
            refine wpL_takeAt (i := 11) 108 (v := ?vt62) rfl (by kernel_rfl) (by kernel_rfl) (by kernel_rfl) (by kernel_rfl) (by kernel_rfl) (fun _ _ _ h => h) (Or.inl ⟨by rfl, ?ht62⟩) (by assumption) ?rt62
            case ht62 => intro w hSw; (try dsimp only at hSw); go_simp; (try with_reducible rfl)
            simp only [Act.put, List.setIfInBounds_toArray, List.set_cons_zero, List.set_cons_succ]
            refine wpL_takeAt (i := 12) 109 (v := ?vt63) rfl (by kernel_rfl) (by kernel_rfl) (by kernel_rfl) (by kernel_rfl) (by kernel_rfl) (fun _ _ _ h => h) (Or.inl ⟨by rfl, ?ht63⟩) (by assumption) ?rt63
            case ht63 => intro w hSw; (try dsimp only at hSw); go_simp; (try with_reducible rfl)
            simp only [Act.put, List.setIfInBounds_toArray, List.set_cons_zero, List.set_cons_succ]
            refine wpL_takeAt (i := 13) 110 (v := ?vt64) rfl (by kernel_rfl) (by kernel_rfl) (by kernel_rfl) (by kernel_rfl) (by kernel_rfl) (fun _ _ _ h => h) (Or.inl ⟨by rfl, ?ht64⟩) (by assumption) ?rt64
            case ht64 => intro w hSw; (try dsimp only at hSw); go_simp; (try with_reducible rfl)
            simp only [Act.put, List.setIfInBounds_toArray, List.set_cons_zero, List.set_cons_succ]
            refine wpL_takeAt (i := 14) 111 (v := ?vt65) rfl (by kernel_rfl) (by kernel_rfl) (by kernel_rfl) (by kernel_rfl) (by kernel_rfl) (fun _ _ _ h => h) (Or.inl ⟨by rfl, ?ht65⟩) (by assumption) ?rt65
            case ht65 => intro w hSw; (try dsimp only at hSw); go_simp; (try with_reducible rfl)
            simp only [Act.put, List.setIfInBounds_toArray, List.set_cons_zero, List.set_cons_succ]
            clear hHeld
            refine wpL_one (i := 9) (by kernel_rfl) rfl (fun Kx hKx => ?_)
            go_simp
            refine (parted_any N mb row5 es5 T5 a b _ (HA6.out.a.below ((Below.refl W5.heap.size W5).drew))).mono ?_
            rintro e z1 ⟨rfl, d1⟩
            have dd1 : Below W5.heap.size W5 z1 := ((Below.refl W5.heap.size W5).drew).trans d1
            have u1 := (dd1.cell (p := ⟨H, 1, none⟩) hHlt).trans y1
            have u2 := (dd1.cell (p := ⟨H, 2, none⟩) hHlt).trans y2
            have HZ1 := Lib.hid (HA6.out.below dd1)
            clear d1 dd1 y1 y2
            refine hKx.out _ _ (fun _ => ⟨u1, u2⟩) (fun _ => ?_)
            clear hKx Kx
            try simp only [Act.put, List.setIfInBounds_toArray, List.set_cons_zero, List.set_cons_succ]
            refine wpL_one (i := 15) (by kernel_rfl) rfl (fun Kx hKx => ?_)
            go_simp
            refine (parted_any N mb row5 es5 T5 b a _ HZ1.out.a).mono ?_
            rintro e z2 ⟨rfl, d2⟩
            rw [Pl.parted_comm T5 b a]
            have hH1 : H < z1.heap.size := World.block_lt_of_cell? _ _ u1
            have q1 := (d2.cell (p := ⟨H, 1, none⟩) hH1).trans u1
            have q2 := (d2.cell (p := ⟨H, 2, none⟩) hH1).trans u2
            have HZ2 := Lib.hid (HZ1.out.below d2)
            clear d2 u1 u2 HZ1 hH1
            refine hKx.out _ _ (fun _ => ⟨q1, q2⟩) (fun _ => ?_)
            clear hKx Kx
            try simp only [Act.put, List.setIfInBounds_toArray, List.set_cons_zero, List.set_cons_succ]
            generalize Pl.parted T5 a b = pab at *
            refine wpL_one (i := 16) (by kernel_rfl) rfl (fun Kx hKx => ?_)
            go_simp
            refine hKx.out _ _ (fun _ => ⟨q1, q2⟩) (fun _ => ?_)
            clear hKx Kx
            try simp only [Act.put, List.setIfInBounds_toArray, List.set_cons_zero, List.set_cons_succ]
            refine wpL_one (i := 17) (by kernel_rfl) rfl (fun Kx hKx => ?_)
            go_simp
            refine hKx.out _ _ (fun _ => ⟨q1, q2⟩) (fun _ => ?_)
            clear hKx Kx
            try simp only [Act.put, List.setIfInBounds_toArray, List.set_cons_zero, List.set_cons_succ]
            refine wpL_done (by kernel_rfl) ?_ _
            clear e9 hgt q1 q2
            go_wp2_with fail
            all_goals exact ⟨⟨k + 1, row5, es5, T5, ss, by omega, rfl, HZ2.out, by omega⟩, by simp [intOf]; omega⟩
          · have e0' : o.err = 0 := by simpa using e0
            have hinv := F1.out
            rw [if_neg (fun x => k1 x.1)] at hinv
            obtain ⟨hmem, hpt⟩ := F3.out (.inl rfl) e0'
            obtain ⟨row5, HA5⟩ := HA1'.out.step HS5.out (by rw [HPS.out]; exact hinv)
            have HA6 := Lib.hid (HA5.below HBP.out)
            have hcP : ∀ j u, (#[.int .i64 o.pk.frm, .int .i64 o.pk.to, .slice ao5 o.pk.bs.length cp5] : Array Value)[j]? = some u → (w5.alloc (.cells #[.int .i64 o.pk.frm, .int .i64 o.pk.to, .slice ao5 o.pk.bs.length cp5] 41)).cell? ⟨w5.heap.size, j, none⟩ = some u := fun j u hj => by simp only [World.cell?, HP5.out]; simpa using hj
            have p0 := hcP 0 _ rfl
            have p1 := hcP 1 _ rfl
            have p2 := hcP 2 _ rfl
            have hPlt : w5.heap.size < (w5.alloc (.cells #[.int .i64 o.pk.frm, .int .i64 o.pk.to, .slice ao5 o.pk.bs.length cp5] 41)).heap.size := by simp
            obtain ⟨sao, scap, hu4, hE⟩ := sents_of HA6.out.own
            subst hu4
            have HSE := Lib.hid hE
            have HMEM := Lib.hid hmem
            have HPT := Lib.hid hpt
            clear hinv HA5 F1 F2 F3 HA1' HS5 HPS HBP HP5 HBC hcP hE hmem hpt
            go_wp2_with fail
            generalize w5.alloc (.cells #[.int .i64 o.pk.frm, .int .i64 o.pk.to, .slice ao5 o.pk.bs.length cp5] 41) = W5 at *
            generalize w5.heap.size = P at *
            generalize o.T = T5 at *
            go_loopw [60, 9, 11] (fun i f x wz => ∃ (q : Nat) (fb : Bool), q ≤ ss.length ∧ i = .int .i64 q ∧ f = .bool fb ∧ (fb = false → ∀ x (h : x < ss.length), x < q → (ss[x]).pk ≠ o.pk) ∧ Below W5.heap.size W5 wz) (fun i _ _ _ => ss.length - (intOf i).toNat)
            case atStart => exact ⟨0, false, Nat.zero_le _, rfl, rfl, fun _ x h hx => absurd hx (by omega), Below.refl _ _⟩
            case round =>
              obtain ⟨q, fb, hq, rfl, rfl, hno, bz⟩ := hrel
              by_cases hql : q < ss.length
              · obtain ⟨g, hsg, hg2, s0, s1, s2⟩ := HSE.out.below bz q hql
                subst hsg
                have hbod := HA6.out.bod ss[q] (List.getElem_mem hql)
                obtain ⟨sbao, sbcap, hsb, _⟩ := id hbod.1
                have hsm : ∀ W, Below wr.heap.size wr W → Calls Try.prog 11 #[(ss[q]).bv, .slice ao5 o.pk.bs.length cp5] W fun e w' => e = .returned (.bool ((ss[q]).bs == o.pk.bs)) ∧ Below W.heap.size W w' := fun W hW =>
                  same_any _ _ (ss[q]).bs o.pk.bs W (hbod.1.below (HA6.out.bel.trans ((bz.trans (hW.mono bz.size)).mono HA6.out.bel.size))) (((HB5.out.below bz).below hW).toC) (by have := hbod.2; omega)
                rw [hsb] at s2 hsm
                have r0 := (bz.cell (p := ⟨P, 0, none⟩) hPlt).trans p0
                have r1 := (bz.cell (p := ⟨P, 1, none⟩) hPlt).trans p1
                have r2 := (bz.cell (p := ⟨P, 2, none⟩) hPlt).trans p2
                have HSM := Lib.hid hsm
                have HNO := Lib.hid hno
                have HBZ := Lib.hid bz
                have hPw : P < wr.heap.size := Nat.lt_of_lt_of_le hPlt bz.size
                have hPn : P ≠ wr.heap.size := by omega
                have pus : ∀ (fb' : Bool), (fb' = false → fb = false ∧ (ss[q]).pk ≠ o.pk) → (fb' = false → ∀ x (h : x < ss.length), x < q + 1 → (ss[x]).pk ≠ o.pk) := fun fb' hf h0 x hx hxq => by
                  obtain ⟨h1, h2⟩ := hf h0
                  rcases Nat.lt_or_ge x q with h | h
                  · exact HNO.out h1 x hx h
                  · have : x = q := by omega
                    subst this; exact h2
                have PUS := Lib.hid pus
                have hpk1 : (ss[q]).frm ≠ o.pk.frm → (ss[q]).pk ≠ o.pk := fun h e => h (congrArg Pl.Pk.frm e)
                have hpk2 : (ss[q]).to ≠ o.pk.to → (ss[q]).pk ≠ o.pk := fun h e => h (congrArg Pl.Pk.to e)
                have hpk3 : (ss[q]).bs ≠ o.pk.bs → (ss[q]).pk ≠ o.pk := fun h e => h (congrArg Pl.Pk.bs e)
                have PK1 := Lib.hid hpk1
                have PK2 := Lib.hid hpk2
                have PK3 := Lib.hid hpk3
                have bQ : Below wr.heap.size wr (wr.alloc (.cells #[.int .i64 (ss[q]).frm, .int .i64 (ss[q]).to, .slice sbao (ss[q]).bs.length sbcap] 41)) := (Below.refl _ _).alloc (Nat.le_refl _) _
                have HBQ := Lib.hid (HBZ.out.trans (bQ.mono HBZ.out.size))
                have HSMQ := Lib.hid (HSM.out _ bQ)
                clear hsm hno bz hbod hsb pus hpk1 hpk2 hpk3 bQ HSM p0 p1 p2
                cases fb
                · cases e1 : ((ss[q]).frm == o.pk.frm)
                  · have hne := PK1.out (by simpa using e1)
                    have HNE := Lib.hid hne
                    clear hne
                    go_wp2_with fail
                    all_goals exact ⟨⟨q + 1, false, by omega, rfl, rfl, PUS.out false (fun _ => ⟨rfl, HNE.out⟩), HBQ.out⟩, by simp [intOf]; omega⟩
                  · cases e2 : ((ss[q]).to == o.pk.to)
                    · have hne := PK2.out (by simpa using e2)
                      have HNE := Lib.hid hne
                      clear hne
                      go_wp2_with fail
                      all_goals exact ⟨⟨q + 1, false, by omega, rfl, rfl, PUS.out false (fun _ => ⟨rfl, HNE.out⟩), HBQ.out⟩, by simp [intOf]; omega⟩
                    · have hres : (((ss[q]).bs == o.pk.bs) = false → (ss[q]).pk ≠ o.pk) := fun h => PK3.out (by simpa using h)
                      have HRES := Lib.hid hres
                      clear hres
                      go_wp2_with fail
                      refine HSMQ.out.mono ?_
                      rintro e z5 ⟨rfl, d5⟩
                      have HBQ2 := Lib.hid (HBQ.out.trans (d5.mono HBQ.out.size))
                      clear d5 HSMQ
                      generalize ((ss[q]).bs == o.pk.bs) = res at *
                      go_wp2_with fail
                      all_goals exact ⟨⟨q + 1, res, by omega, rfl, rfl, PUS.out res (fun h => ⟨by first | rfl | trivial, HRES.out h⟩), HBQ2.out⟩, by simp [intOf]; omega⟩
                · go_wp2_with fail
                  all_goals exact ⟨⟨q + 1, true, by omega, by first | rfl | trivial, by first | rfl | trivial, fun h => (by cases h), HBQ.out⟩, by simp [intOf]; omega⟩
              · obtain rfl : q = ss.length := by omega
                cases fb
                · exfalso
                  obtain ⟨s, hs, hpk⟩ := List.mem_map.1 HMEM.out
                  obtain ⟨x, hx, hxs⟩ := List.getElem_of_mem hs
                  exact hno rfl x hx hx (by rw [hxs]; exact hpk)
                · have r0 := (bz.cell (p := ⟨P, 0, none⟩) hPlt).trans p0
                  have r1 := (bz.cell (p := ⟨P, 1, none⟩) hPlt).trans p1
                  have HA7 := HA6.out.below bz
                  have HPA := Lib.hid (parted_any N mb row5 es5 T5 o.pk.frm o.pk.to wr HA7.a)
                  have HA7' := Lib.hid HA7
                  have x1 := (bz.cell (p := ⟨H, 1, none⟩) hHlt).trans y1
                  have x2 := (bz.cell (p := ⟨H, 2, none⟩) hHlt).trans y2
                  have hHw : H < wr.heap.size := Nat.lt_of_lt_of_le hHlt bz.size
                  clear hno bz HA7 p0 p1 p2 y0 y1 y2 y3 hql
                  go_wp2_with fail
                  refine HPA.out.mono ?_
                  rintro e w8 ⟨rfl, d8⟩
                  rw [HPT.out]
                  have HA8 := Lib.hid (HA7'.out.below d8)
                  have v1 := (d8.cell (p := ⟨H, 1, none⟩) hHw).trans x1
                  have v2 := (d8.cell (p := ⟨H, 2, none⟩) hHw).trans x2
                  have hH8 : H < w8.heap.size := Nat.lt_of_lt_of_le hHw d8.size
                  clear d8 HPA HA7' x1 x2 r0 r1 hHw
                  go_wp2_with fail
                  have hgt : ¬ ((es5.length : Int) > 64) := by have := HA8.out.inv.len; rw [Pl.abs_len] at this; omega
                  have e9 : (Pl.parted T5 a b != Pl.parted T5 a b) = false := by simp
                  refine wp_region_L (fun w' => w'.cell? ⟨H, 1, none⟩ = some (.int .i64 a) ∧ w'.cell? ⟨H, 2, none⟩ = some (.int .i64 b)) 99 (by kernel_rfl) ⟨v1, v2⟩ (fun hHeld => ?_)
                  refine wpL_takeAt (i := 0) 97 (v := ?vt14) rfl (by kernel_rfl) (by kernel_rfl) (by kernel_rfl) (by kernel_rfl) (by kernel_rfl) (fun _ _ _ h => h) (Or.inl ⟨by rfl, ?ht14⟩) (by assumption) ?rt14
                  case ht14 => intro w hSw; (try dsimp only at hSw); go_simp; (try with_reducible rfl)
                  simp only [Act.put, List.setIfInBounds_toArray, List.set_cons_zero, List.set_cons_succ]
                  refine wpL_one (i := 1) (by kernel_rfl) rfl (fun Kx hKx => ?_)
                  go_simp
                  refine (len_net N mb row5 es5 T5 _ (HA8.out.a.below ((Below.refl w8.heap.size w8).drew))).mono ?_
                  rintro e zz ⟨rfl, rfl⟩
                  refine hKx.out _ _ (fun _ => hHeld) (fun _ => ?_)
                  clear hKx Kx
                  try simp only [Act.put, List.setIfInBounds_toArray, List.set_cons_zero, List.set_cons_succ]
                  refine wpL_takeAt (i := 2) 99 (v := ?vt15) rfl (by kernel_rfl) (by kernel_rfl) (by kernel_rfl) (by kernel_rfl) (by kernel_rfl) (fun _ _ _ h => h) (Or.inl ⟨by rfl, ?ht15⟩) (by assumption) ?rt15
                  case ht15 => intro w hSw; (try dsimp only at hSw); go_simp; (try with_reducible rfl)
                  simp only [Act.put, List.setIfInBounds_toArray, List.set_cons_zero, List.set_cons_succ]
                  refine wpL_takeAt (i := 3) 100 (v := ?vt16) rfl (by kernel_rfl) (by kernel_rfl) (by kernel_rfl) (by kernel_rfl) (by kernel_rfl) (fun _ _ _ h => h) (Or.inl ⟨by rfl, ?ht16⟩) (by assumption) ?rt16
                  case ht16 => intro w hSw; (try dsimp only at hSw); go_simp; (try with_reducible rfl)
                  simp only [Act.put, List.setIfInBounds_toArray, List.set_cons_zero, List.set_cons_succ]
                  refine wpL_takeAt (i := 4) 101 (v := ?vt17) rfl (by kernel_rfl) (by kernel_rfl) (by kernel_rfl) (by kernel_rfl) (by kernel_rfl) (fun _ _ _ h => h) (Or.inl ⟨by rfl, ?ht17⟩) (by assumption) ?rt17
                  case ht17 => intro w hSw; (try dsimp only at hSw); go_simp; (try with_reducible rfl)
                  simp only [Act.put, List.setIfInBounds_toArray, List.set_cons_zero, List.set_cons_succ]
                  refine wpL_takeAt (i := 5) 102 (v := ?vt18) rfl (by kernel_rfl) (by kernel_rfl) (by kernel_rfl) (by kernel_rfl) (by kernel_rfl) (fun _ _ _ h => h) (Or.inl ⟨by rfl, ?ht18⟩) (by assumption) ?rt18
                  case ht18 => intro w hSw; (try dsimp only at hSw); go_simp; (try with_reducible rfl)
                  simp only [Act.put, List.setIfInBounds_toArray, List.set_cons_zero, List.set_cons_succ]
                  refine wpL_takeAt (i := 6) 103 (v := ?vt19) rfl (by kernel_rfl) (by kernel_rfl) (by kernel_rfl) (by kernel_rfl) (by kernel_rfl) (fun _ _ _ h => h) (Or.inl ⟨by rfl, ?ht19⟩) (by assumption) ?rt19
                  case ht19 => intro w hSw; (try dsimp only at hSw); go_simp; (try with_reducible rfl)
                  simp only [Act.put, List.setIfInBounds_toArray, List.set_cons_zero, List.set_cons_succ]
                  refine wpL_takeAt (i := 7) 104 (v := ?vt20) rfl (by kernel_rfl) (by kernel_rfl) (by kernel_rfl) (by kernel_rfl) (by kernel_rfl) (fun _ _ _ h => h) (Or.inl ⟨by rfl, ?ht20⟩) (by assumption) ?rt20
                  case ht20 => intro w hSw; (try dsimp only at hSw); go_simp; (try with_reducible rfl)
                  simp only [Act.put, List.setIfInBounds_toArray, List.set_cons_zero, List.set_cons_succ]
                  refine wpL_takeAt (i := 8) 105 (v := ?vt21) rfl (by kernel_rfl) (by kernel_rfl) (by kernel_rfl) (by kernel_rfl) (by kernel_rfl) (fun _ _ _ h => h) (Or.inl ⟨by rfl, ?ht21⟩) (by assumption) ?rt21
                  case ht21 => intro w hSw; (try dsimp only at hSw); go_simp; (try with_reducible rfl)
                  simp only [Act.put, List.setIfInBounds_toArray, List.set_cons_zero, List.set_cons_succ]
                  refine wpL_takeAt (i := 10) 107 (v := ?vt22) rfl (by kernel_rfl) (by kernel_rfl) (by kernel_rfl) (by kernel_rfl) (by kernel_rfl) (fun _ _ _ h => h) (Or.inl ⟨by rfl, ?ht22⟩) (by assumption) ?rt22
                  case ht22 => intro w hSw; (try dsimp only at hSw); go_simp; (try with_reducible rfl)
                  simp only [Act.put, List.setIfInBounds_toArray, List.set_cons_zero, List.set_cons_succ]
                  refine wpL_takeAt (i := 11) 108 (v := ?vt23) rfl (by kernel_rfl) (by kernel_rfl) (by kernel_rfl) (by kernel_rfl) (by kernel_rfl) (fun _ _ _ h => h) (Or.inl ⟨by rfl, ?ht23⟩) (by assumption) ?rt23
                  case ht23 => intro w hSw; (try dsimp only at hSw); go_simp; (try with_reducible rfl)
                  simp only [Act.put, List.setIfInBounds_toArray, List.set_cons_zero, List.set_cons_succ]
                  refine wpL_takeAt (i := 12) 109 (v := ?vt24) rfl (by kernel_rfl) (by kernel_rfl) (by kernel_rfl) (by kernel_rfl) (by kernel_rfl) (fun _ _ _ h => h) (Or.inl ⟨by rfl, ?ht24⟩) (by assumption) ?rt24
                  case ht24 => intro w hSw; (try dsimp only at hSw); go_simp; (try with_reducible rfl)
                  simp only [Act.put, List.setIfInBounds_toArray, List.set_cons_zero, List.set_cons_succ]
                  refine wpL_takeAt (i := 13) 110 (v := ?vt25) rfl (by kernel_rfl) (by kernel_rfl) (by kernel_rfl) (by kernel_rfl) (by kernel_rfl) (fun _ _ _ h => h) (Or.inl ⟨by rfl, ?ht25⟩) (by assumption) ?rt25
                  case ht25 => intro w hSw; (try dsimp only at hSw); go_simp; (try with_reducible rfl)
                  simp only [Act.put, List.setIfInBounds_toArray, List.set_cons_zero, List.set_cons_succ]
                  refine wpL_takeAt (i := 14) 111 (v := ?vt26) rfl (by kernel_rfl) (by kernel_rfl) (by kernel_rfl) (by kernel_rfl) (by kernel_rfl) (fun _ _ _ h => h) (Or.inl ⟨by rfl, ?ht26⟩) (by assumption) ?rt26
                  case ht26 => intro w hSw; (try dsimp only at hSw); go_simp; (try with_reducible rfl)
                  simp only [Act.put, List.setIfInBounds_toArray, List.set_cons_zero, List.set_cons_succ]
                  clear hHeld
                  refine wpL_one (i := 9) (by kernel_rfl) rfl (fun Kx hKx => ?_)
                  go_simp
                  refine (parted_any N mb row5 es5 T5 a b _ (HA8.out.a.below ((Below.refl w8.heap.size w8).drew))).mono ?_
                  rintro e z1 ⟨rfl, d1⟩
                  have dd1 : Below w8.heap.size w8 z1 := ((Below.refl w8.heap.size w8).drew).trans d1
                  have u1 := (dd1.cell (p := ⟨H, 1, none⟩) hH8).trans v1
                  have u2 := (dd1.cell (p := ⟨H, 2, none⟩) hH8).trans v2
                  have HZ1 := Lib.hid (HA8.out.below dd1)
                  clear d1 dd1 v1 v2
                  refine hKx.out _ _ (fun _ => ⟨u1, u2⟩) (fun _ => ?_)
                  clear hKx Kx
                  try simp only [Act.put, List.setIfInBounds_toArray, List.set_cons_zero, List.set_cons_succ]
                  refine wpL_one (i := 15) (by kernel_rfl) rfl (fun Kx hKx => ?_)
                  go_simp
                  refine (parted_any N mb row5 es5 T5 b a _ HZ1.out.a).mono ?_
                  rintro e z2 ⟨rfl, d2⟩
                  rw [Pl.parted_comm T5 b a]
                  have hH1 : H < z1.heap.size := World.block_lt_of_cell? _ _ u1
                  have q1 := (d2.cell (p := ⟨H, 1, none⟩) hH1).trans u1
                  have q2 := (d2.cell (p := ⟨H, 2, none⟩) hH1).trans u2
                  have HZ2 := Lib.hid (HZ1.out.below d2)
                  clear d2 u1 u2 HZ1 hH1
                  refine hKx.out _ _ (fun _ => ⟨q1, q2⟩) (fun _ => ?_)
                  clear hKx Kx
                  try simp only [Act.put, List.setIfInBounds_toArray, List.set_cons_zero, List.set_cons_succ]
                  generalize Pl.parted T5 a b = pab at *
                  refine wpL_one (i := 16) (by kernel_rfl) rfl (fun Kx hKx => ?_)
                  go_simp
                  refine hKx.out _ _ (fun _ => ⟨q1, q2⟩) (fun _ => ?_)
                  clear hKx Kx
                  try simp only [Act.put, List.setIfInBounds_toArray, List.set_cons_zero, List.set_cons_succ]
                  refine wpL_one (i := 17) (by kernel_rfl) rfl (fun Kx hKx => ?_)
                  go_simp
                  refine hKx.out _ _ (fun _ => ⟨q1, q2⟩) (fun _ => ?_)
                  clear hKx Kx
                  try simp only [Act.put, List.setIfInBounds_toArray, List.set_cons_zero, List.set_cons_succ]
                  refine wpL_done (by kernel_rfl) ?_ _
                  clear e9 hgt q1 q2
                  go_wp2_with fail
                  all_goals exact ⟨⟨k + 1, row5, es5, T5, ss, by omega, rfl, HZ2.out, by omega⟩, by simp [intOf]; omega⟩
        · by_cases k3 : K = 3
          · subst k3
            cases e0 : (o.err == 0)
            · have hinv := F1.out
              rw [if_neg (fun x => k1 x.1)] at hinv
              obtain ⟨row5, HA5⟩ := HA1'.out.step HS5.out (by rw [HPS.out]; exact hinv)
              have HA6 := Lib.hid (HA5.below HBP.out)
              clear hinv HA5 F1 F2 F3 HA1' HS5 HPS HB5 HBP HP5 HBC
              go_wp2_with fail
              generalize w5.alloc (.cells #[.int .i64 o.pk.frm, .int .i64 o.pk.to, .slice ao5 o.pk.bs.length cp5] 41) = W5 at *
              generalize o.T = T5 at *
              have hgt : ¬ ((es5.length : Int) > 64) := by have := HA6.out.inv.len; rw [Pl.abs_len] at this; omega
              have e9 : (Pl.parted T5 a b != Pl.parted T5 a b) = false := by simp
              refine wp_region_L (fun w' => w'.cell? ⟨H, 1, none⟩ = some (.int .i64 a) ∧ w'.cell? ⟨H, 2, none⟩ = some (.int .i64 b)) 99 (by kernel_rfl) ⟨y1, y2⟩ (fun hHeld => ?_)
              refine wpL_takeAt (i := 0) 97 (v := ?vt66) rfl (by kernel_rfl) (by kernel_rfl) (by kernel_rfl) (by kernel_rfl) (by kernel_rfl) (fun _ _ _ h => h) (Or.inl ⟨by rfl, ?ht66⟩) (by assumption) ?rt66
              case ht66 => intro w hSw; (try dsimp only at hSw); go_simp; (try with_reducible rfl)
              simp only [Act.put, List.setIfInBounds_toArray, List.set_cons_zero, List.set_cons_succ]
              refine wpL_one (i := 1) (by kernel_rfl) rfl (fun Kx hKx => ?_)
              go_simp
              refine (len_net N mb row5 es5 T5 _ (HA6.out.a.below ((Below.refl W5.heap.size W5).drew))).mono ?_
              rintro e zz ⟨rfl, rfl⟩
              refine hKx.out _ _ (fun _ => hHeld) (fun _ => ?_)
              clear hKx Kx
              try simp only [Act.put, List.setIfInBounds_toArray, List.set_cons_zero, List.set_cons_succ]
              refine wpL_takeAt (i := 2) 99 (v := ?vt67) rfl (by kernel_rfl) (by kernel_rfl) (by kernel_rfl) (by kernel_rfl) (by kernel_rfl) (fun _ _ _ h => h) (Or.inl ⟨by rfl, ?ht67⟩) (by assumption) ?rt67
              case ht67 => intro w hSw; (try dsimp only at hSw); go_simp; (try with_reducible rfl)
              simp only [Act.put, List.setIfInBounds_toArray, List.set_cons_zero, List.set_cons_succ]
              refine wpL_takeAt (i := 3) 100 (v := ?vt68) rfl (by kernel_rfl) (by kernel_rfl) (by kernel_rfl) (by kernel_rfl) (by kernel_rfl) (fun _ _ _ h => h) (Or.inl ⟨by rfl, ?ht68⟩) (by assumption) ?rt68
              case ht68 => intro w hSw; (try dsimp only at hSw); go_simp; (try with_reducible rfl)
              simp only [Act.put, List.setIfInBounds_toArray, List.set_cons_zero, List.set_cons_succ]
              refine wpL_takeAt (i := 4) 101 (v := ?vt69) rfl (by kernel_rfl) (by kernel_rfl) (by kernel_rfl) (by kernel_rfl) (by kernel_rfl) (fun _ _ _ h => h) (Or.inl ⟨by rfl, ?ht69⟩) (by assumption) ?rt69
              case ht69 => intro w hSw; (try dsimp only at hSw); go_simp; (try with_reducible rfl)
              simp only [Act.put, List.setIfInBounds_toArray, List.set_cons_zero, List.set_cons_succ]
              refine wpL_takeAt (i := 5) 102 (v := ?vt70) rfl (by kernel_rfl) (by kernel_rfl) (by kernel_rfl) (by kernel_rfl) (by kernel_rfl) (fun _ _ _ h => h) (Or.inl ⟨by rfl, ?ht70⟩) (by assumption) ?rt70
              case ht70 => intro w hSw; (try dsimp only at hSw); go_simp; (try with_reducible rfl)
              simp only [Act.put, List.setIfInBounds_toArray, List.set_cons_zero, List.set_cons_succ]
              refine wpL_takeAt (i := 6) 103 (v := ?vt71) rfl (by kernel_rfl) (by kernel_rfl) (by kernel_rfl) (by kernel_rfl) (by kernel_rfl) (fun _ _ _ h => h) (Or.inl ⟨by rfl, ?ht71⟩) (by assumption) ?rt71
              case ht71 => intro w hSw; (try dsimp only at hSw); go_simp; (try with_reducible rfl)
              simp only [Act.put, List.setIfInBounds_toArray, List.set_cons_zero, List.set_cons_succ]
              refine wpL_takeAt (i := 7) 104 (v := ?vt72) rfl (by kernel_rfl) (by kernel_rfl) (by kernel_rfl) (by kernel_rfl) (by kernel_rfl) (fun _ _ _ h => h) (Or.inl ⟨by rfl, ?ht72⟩) (by assumption) ?rt72
              case ht72 => intro w hSw; (try dsimp only at hSw); go_simp; (try with_reducible rfl)
              simp only [Act.put, List.setIfInBounds_toArray, List.set_cons_zero, List.set_cons_succ]
              refine wpL_takeAt (i := 8) 105 (v := ?vt73) rfl (by kernel_rfl) (by kernel_rfl) (by kernel_rfl) (by kernel_rfl) (by kernel_rfl) (fun _ _ _ h => h) (Or.inl ⟨by rfl, ?ht73⟩) (by assumption) ?rt73
              case ht73 => intro w hSw; (try dsimp only at hSw); go_simp; (try with_reducible rfl)
              simp only [Act.put, List.setIfInBounds_toArray, List.set_cons_zero, List.set_cons_succ]
              refine wpL_takeAt (i := 10) 107 (v := ?vt74) rfl (by kernel_rfl) (by kernel_rfl) (by kernel_rfl) (by kernel_rfl) (by kernel_rfl) (fun _ _ _ h => h) (Or.inl ⟨by rfl, ?ht74⟩) (by assumption) ?rt74
              case ht74 => intro w hSw; (try dsimp only at hSw); go_simp; (try with_reducible rfl)
              simp only [Act.put, List.setIfInBounds_toArray, List.set_cons_zero, List.set_cons_succ]
              refine wpL_takeAt (i := 11) 108 (v := ?vt75) rfl (by kernel_rfl) (by kernel_rfl) (by kernel_rfl) (by kernel_rfl) (by kernel_rfl) (fun _ _ _ h => h) (Or.inl ⟨by rfl, ?ht75⟩) (by assumption) ?rt75
              case ht75 => intro w hSw; (try dsimp only at hSw); go_simp; (try with_reducible rfl)
              simp only [Act.put, List.setIfInBounds_toArray, List.set_cons_zero, List.set_cons_succ]
              refine wpL_takeAt (i := 12) 109 (v := ?vt76) rfl (by kernel_rfl) (by kernel_rfl) (by kernel_rfl) (by kernel_rfl) (by kernel_rfl) (fun _ _ _ h => h) (Or.inl ⟨by rfl, ?ht76⟩) (by assumption) ?rt76
              case ht76 => intro w hSw; (try dsimp only at hSw); go_simp; (try with_reducible rfl)
              simp only [Act.put, List.setIfInBounds_toArray, List.set_cons_zero, List.set_cons_succ]
              refine wpL_takeAt (i := 13) 110 (v := ?vt77) rfl (by kernel_rfl) (by kernel_rfl) (by kernel_rfl) (by kernel_rfl) (by kernel_rfl) (fun _ _ _ h => h) (Or.inl ⟨by rfl, ?ht77⟩) (by assumption) ?rt77
              case ht77 => intro w hSw; (try dsimp only at hSw); go_simp; (try with_reducible rfl)
              simp only [Act.put, List.setIfInBounds_toArray, List.set_cons_zero, List.set_cons_succ]
              refine wpL_takeAt (i := 14) 111 (v := ?vt78) rfl (by kernel_rfl) (by kernel_rfl) (by kernel_rfl) (by kernel_rfl) (by kernel_rfl) (fun _ _ _ h => h) (Or.inl ⟨by rfl, ?ht78⟩) (by assumption) ?rt78
              case ht78 => intro w hSw; (try dsimp only at hSw); go_simp; (try with_reducible rfl)
              simp only [Act.put, List.setIfInBounds_toArray, List.set_cons_zero, List.set_cons_succ]
              clear hHeld
              refine wpL_one (i := 9) (by kernel_rfl) rfl (fun Kx hKx => ?_)
              go_simp
              refine (parted_any N mb row5 es5 T5 a b _ (HA6.out.a.below ((Below.refl W5.heap.size W5).drew))).mono ?_
              rintro e z1 ⟨rfl, d1⟩
              have dd1 : Below W5.heap.size W5 z1 := ((Below.refl W5.heap.size W5).drew).trans d1
              have u1 := (dd1.cell (p := ⟨H, 1, none⟩) hHlt).trans y1
              have u2 := (dd1.cell (p := ⟨H, 2, none⟩) hHlt).trans y2
              have HZ1 := Lib.hid (HA6.out.below dd1)
              clear d1 dd1 y1 y2
              refine hKx.out _ _ (fun _ => ⟨u1, u2⟩) (fun _ => ?_)
              clear hKx Kx
              try simp only [Act.put, List.setIfInBounds_toArray, List.set_cons_zero, List.set_cons_succ]
              refine wpL_one (i := 15) (by kernel_rfl) rfl (fun Kx hKx => ?_)
              go_simp
              refine (parted_any N mb row5 es5 T5 b a _ HZ1.out.a).mono ?_
              rintro e z2 ⟨rfl, d2⟩
              rw [Pl.parted_comm T5 b a]
              have hH1 : H < z1.heap.size := World.block_lt_of_cell? _ _ u1
              have q1 := (d2.cell (p := ⟨H, 1, none⟩) hH1).trans u1
              have q2 := (d2.cell (p := ⟨H, 2, none⟩) hH1).trans u2
              have HZ2 := Lib.hid (HZ1.out.below d2)
              clear d2 u1 u2 HZ1 hH1
              refine hKx.out _ _ (fun _ => ⟨q1, q2⟩) (fun _ => ?_)
              clear hKx Kx
              try simp only [Act.put, List.setIfInBounds_toArray, List.set_cons_zero, List.set_cons_succ]
              generalize Pl.parted T5 a b = pab at *
              refine wpL_one (i := 16) (by kernel_rfl) rfl (fun Kx hKx => ?_)
              go_simp
              refine hKx.out _ _ (fun _ => ⟨q1, q2⟩) (fun _ => ?_)
              clear hKx Kx
              try simp only [Act.put, List.setIfInBounds_toArray, List.set_cons_zero, List.set_cons_succ]
              refine wpL_one (i := 17) (by kernel_rfl) rfl (fun Kx hKx => ?_)
              go_simp
              refine hKx.out _ _ (fun _ => ⟨q1, q2⟩) (fun _ => ?_)
              clear hKx Kx
              try simp only [Act.put, List.setIfInBounds_toArray, List.set_cons_zero, List.set_cons_succ]
              refine wpL_done (by kernel_rfl) ?_ _
              clear e9 hgt q1 q2
              go_wp2_with fail
              all_goals exact ⟨⟨k + 1, row5, es5, T5, ss, by omega, rfl, HZ2.out, by omega⟩, by simp [intOf]; omega⟩
            · have e0' : o.err = 0 := by simpa using e0
              have hinv := F1.out
              rw [if_neg (fun x => k1 x.1)] at hinv
              obtain ⟨hmem, hpt⟩ := F3.out (.inr rfl) e0'
              obtain ⟨row5, HA5⟩ := HA1'.out.step HS5.out (by rw [HPS.out]; exact hinv)
              have HA6 := Lib.hid (HA5.below HBP.out)
              have hcP : ∀ j u, (#[.int .i64 o.pk.frm, .int .i64 o.pk.to, .slice ao5 o.pk.bs.length cp5] : Array Value)[j]? = some u → (w5.alloc (.cells #[.int .i64 o.pk.frm, .int .i64 o.pk.to, .slice ao5 o.pk.bs.length cp5] 41)).cell? ⟨w5.heap.size, j, none⟩ = some u := fun j u hj => by simp only [World.cell?, HP5.out]; simpa using hj
              have p0 := hcP 0 _ rfl
              have p1 := hcP 1 _ rfl
              have p2 := hcP 2 _ rfl
              have hPlt : w5.heap.size < (w5.alloc (.cells #[.int .i64 o.pk.frm, .int .i64 o.pk.to, .slice ao5 o.pk.bs.length cp5] 41)).heap.size := by simp
              obtain ⟨sao, scap, hu4, hE⟩ := sents_of HA6.out.own
              subst hu4
              have HSE := Lib.hid hE
              have HMEM := Lib.hid hmem
              have HPT := Lib.hid hpt
              clear hinv HA5 F1 F2 F3 HA1' HS5 HPS HBP HP5 HBC hcP hE hmem hpt
              go_wp2_with fail
              generalize w5.alloc (.cells #[.int .i64 o.pk.frm, .int .i64 o.pk.to, .slice ao5 o.pk.bs.length cp5] 41) = W5 at *
              generalize w5.heap.size = P at *
              generalize o.T = T5 at *
              go_loopw [60, 9, 11] (fun i f x wz => ∃ (q : Nat) (fb : Bool), q ≤ ss.length ∧ i = .int .i64 q ∧ f = .bool fb ∧ (fb = false → ∀ x (h : x < ss.length), x < q → (ss[x]).pk ≠ o.pk) ∧ Below W5.heap.size W5 wz) (fun i _ _ _ => ss.length - (intOf i).toNat)
              case atStart => exact ⟨0, false, Nat.zero_le _, rfl, rfl, fun _ x h hx => absurd hx (by omega), Below.refl _ _⟩
              case round =>
                obtain ⟨q, fb, hq, rfl, rfl, hno, bz⟩ := hrel
                by_cases hql : q < ss.length
                · obtain ⟨g, hsg, hg2, s0, s1, s2⟩ := HSE.out.below bz q hql
                  subst hsg
                  have hbod := HA6.out.bod ss[q] (List.getElem_mem hql)
                  obtain ⟨sbao, sbcap, hsb, _⟩ := id hbod.1
                  have hsm : ∀ W, Below wr.heap.size wr W → Calls Try.prog 11 #[(ss[q]).bv, .slice ao5 o.pk.bs.length cp5] W fun e w' => e = .returned (.bool ((ss[q]).bs == o.pk.bs)) ∧ Below W.heap.size W w' := fun W hW =>
                    same_any _ _ (ss[q]).bs o.pk.bs W (hbod.1.below (HA6.out.bel.trans ((bz.trans (hW.mono bz.size)).mono HA6.out.bel.size))) (((HB5.out.below bz).below hW).toC) (by have := hbod.2; omega)
                  rw [hsb] at s2 hsm
                  have r0 := (bz.cell (p := ⟨P, 0, none⟩) hPlt).trans p0
                  have r1 := (bz.cell (p := ⟨P, 1, none⟩) hPlt).trans p1
                  have r2 := (bz.cell (p := ⟨P, 2, none⟩) hPlt).trans p2
                  have HSM := Lib.hid hsm
                  have HNO := Lib.hid hno
                  have HBZ := Lib.hid bz
                  have hPw : P < wr.heap.size := Nat.lt_of_lt_of_le hPlt bz.size
                  have hPn : P ≠ wr.heap.size := by omega
                  have pus : ∀ (fb' : Bool), (fb' = false → fb = false ∧ (ss[q]).pk ≠ o.pk) → (fb' = false → ∀ x (h : x < ss.length), x < q + 1 → (ss[x]).pk ≠ o.pk) := fun fb' hf h0 x hx hxq => by
                    obtain ⟨h1, h2⟩ := hf h0
                    rcases Nat.lt_or_ge x q with h | h
                    · exact HNO.out h1 x hx h
                    · have : x = q := by omega
                      subst this; exact h2
                  have PUS := Lib.hid pus
                  have hpk1 : (ss[q]).frm ≠ o.pk.frm → (ss[q]).pk ≠ o.pk := fun h e => h (congrArg Pl.Pk.frm e)
                  have hpk2 : (ss[q]).to ≠ o.pk.to → (ss[q]).pk ≠ o.pk := fun h e => h (congrArg Pl.Pk.to e)
                  have hpk3 : (ss[q]).bs ≠ o.pk.bs → (ss[q]).pk ≠ o.pk := fun h e => h (congrArg Pl.Pk.bs e)
                  have PK1 := Lib.hid hpk1
                  have PK2 := Lib.hid hpk2
                  have PK3 := Lib.hid hpk3
                  have bQ : Below wr.heap.size wr (wr.alloc (.cells #[.int .i64 (ss[q]).frm, .int .i64 (ss[q]).to, .slice sbao (ss[q]).bs.length sbcap] 41)) := (Below.refl _ _).alloc (Nat.le_refl _) _
                  have HBQ := Lib.hid (HBZ.out.trans (bQ.mono HBZ.out.size))
                  have HSMQ := Lib.hid (HSM.out _ bQ)
                  clear hsm hno bz hbod hsb pus hpk1 hpk2 hpk3 bQ HSM p0 p1 p2
                  cases fb
                  · cases e1 : ((ss[q]).frm == o.pk.frm)
                    · have hne := PK1.out (by simpa using e1)
                      have HNE := Lib.hid hne
                      clear hne
                      go_wp2_with fail
                      all_goals exact ⟨⟨q + 1, false, by omega, rfl, rfl, PUS.out false (fun _ => ⟨rfl, HNE.out⟩), HBQ.out⟩, by simp [intOf]; omega⟩
                    · cases e2 : ((ss[q]).to == o.pk.to)
                      · have hne := PK2.out (by simpa using e2)
                        have HNE := Lib.hid hne
                        clear hne
                        go_wp2_with fail
                        all_goals exact ⟨⟨q + 1, false, by omega, rfl, rfl, PUS.out false (fun _ => ⟨rfl, HNE.out⟩), HBQ.out⟩, by simp [intOf]; omega⟩
                      · have hres : (((ss[q]).bs == o.pk.bs) = false → (ss[q]).pk ≠ o.pk) := fun h => PK3.out (by simpa using h)
                        have HRES := Lib.hid hres
                        clear hres
                        go_wp2_with fail
                        refine HSMQ.out.mono ?_
                        rintro e z5 ⟨rfl, d5⟩
                        have HBQ2 := Lib.hid (HBQ.out.trans (d5.mono HBQ.out.size))
                        clear d5 HSMQ
                        generalize ((ss[q]).bs == o.pk.bs) = res at *
                        go_wp2_with fail
                        all_goals exact ⟨⟨q + 1, res, by omega, rfl, rfl, PUS.out res (fun h => ⟨by first | rfl | trivial, HRES.out h⟩), HBQ2.out⟩, by simp [intOf]; omega⟩
                  · go_wp2_with fail
                    all_goals exact ⟨⟨q + 1, true, by omega, by first | rfl | trivial, by first | rfl | trivial, fun h => (by cases h), HBQ.out⟩, by simp [intOf]; omega⟩
                · obtain rfl : q = ss.length := by omega
                  cases fb
                  · exfalso
                    obtain ⟨s, hs, hpk⟩ := List.mem_map.1 HMEM.out
                    obtain ⟨x, hx, hxs⟩ := List.getElem_of_mem hs
                    exact hno rfl x hx hx (by rw [hxs]; exact hpk)
                  · have r0 := (bz.cell (p := ⟨P, 0, none⟩) hPlt).trans p0
                    have r1 := (bz.cell (p := ⟨P, 1, none⟩) hPlt).trans p1
                    have HA7 := HA6.out.below bz
                    have HPA := Lib.hid (parted_any N mb row5 es5 T5 o.pk.frm o.pk.to wr HA7.a)
                    have HA7' := Lib.hid HA7
                    have x1 := (bz.cell (p := ⟨H, 1, none⟩) hHlt).trans y1
                    have x2 := (bz.cell (p := ⟨H, 2, none⟩) hHlt).trans y2
                    have hHw : H < wr.heap.size := Nat.lt_of_lt_of_le hHlt bz.size
                    clear hno bz HA7 p0 p1 p2 y0 y1 y2 y3 hql
                    go_wp2_with fail
                    refine HPA.out.mono ?_
                    rintro e w8 ⟨rfl, d8⟩
                    rw [HPT.out]
                    have HA8 := Lib.hid (HA7'.out.below d8)
                    have v1 := (d8.cell (p := ⟨H, 1, none⟩) hHw).trans x1
                    have v2 := (d8.cell (p := ⟨H, 2, none⟩) hHw).trans x2
                    have hH8 : H < w8.heap.size := Nat.lt_of_lt_of_le hHw d8.size
                    clear d8 HPA HA7' x1 x2 r0 r1 hHw
                    go_wp2_with fail
                    have hgt : ¬ ((es5.length : Int) > 64) := by have := HA8.out.inv.len; rw [Pl.abs_len] at this; omega
                    have e9 : (Pl.parted T5 a b != Pl.parted T5 a b) = false := by simp
                    refine wp_region_L (fun w' => w'.cell? ⟨H, 1, none⟩ = some (.int .i64 a) ∧ w'.cell? ⟨H, 2, none⟩ = some (.int .i64 b)) 99 (by kernel_rfl) ⟨v1, v2⟩ (fun hHeld => ?_)
                    refine wpL_takeAt (i := 0) 97 (v := ?vt27) rfl (by kernel_rfl) (by kernel_rfl) (by kernel_rfl) (by kernel_rfl) (by kernel_rfl) (fun _ _ _ h => h) (Or.inl ⟨by rfl, ?ht27⟩) (by assumption) ?rt27
                    case ht27 => intro w hSw; (try dsimp only at hSw); go_simp; (try with_reducible rfl)
                    simp only [Act.put, List.setIfInBounds_toArray, List.set_cons_zero, List.set_cons_succ]
                    refine wpL_one (i := 1) (by kernel_rfl) rfl (fun Kx hKx => ?_)
                    go_simp
                    refine (len_net N mb row5 es5 T5 _ (HA8.out.a.below ((Below.refl w8.heap.size w8).drew))).mono ?_
                    rintro e zz ⟨rfl, rfl⟩
                    refine hKx.out _ _ (fun _ => hHeld) (fun _ => ?_)
                    clear hKx Kx
                    try simp only [Act.put, List.setIfInBounds_toArray, List.set_cons_zero, List.set_cons_succ]
                    refine wpL_takeAt (i := 2) 99 (v := ?vt28) rfl (by kernel_rfl) (by kernel_rfl) (by kernel_rfl) (by kernel_rfl) (by kernel_rfl) (fun _ _ _ h => h) (Or.inl ⟨by rfl, ?ht28⟩) (by assumption) ?rt28
                    case ht28 => intro w hSw; (try dsimp only at hSw); go_simp; (try with_reducible rfl)
                    simp only [Act.put, List.setIfInBounds_toArray, List.set_cons_zero, List.set_cons_succ]
                    refine wpL_takeAt (i := 3) 100 (v := ?vt29) rfl (by kernel_rfl) (by kernel_rfl) (by kernel_rfl) (by kernel_rfl) (by kernel_rfl) (fun _ _ _ h => h) (Or.inl ⟨by rfl, ?ht29⟩) (by assumption) ?rt29
                    case ht29 => intro w hSw; (try dsimp only at hSw); go_simp; (try with_reducible rfl)
                    simp only [Act.put, List.setIfInBounds_toArray, List.set_cons_zero, List.set_cons_succ]
                    refine wpL_takeAt (i := 4) 101 (v := ?vt30) rfl (by kernel_rfl) (by kernel_rfl) (by kernel_rfl) (by kernel_rfl) (by kernel_rfl) (fun _ _ _ h => h) (Or.inl ⟨by rfl, ?ht30⟩) (by assumption) ?rt30
                    case ht30 => intro w hSw; (try dsimp only at hSw); go_simp; (try with_reducible rfl)
                    simp only [Act.put, List.setIfInBounds_toArray, List.set_cons_zero, List.set_cons_succ]
                    refine wpL_takeAt (i := 5) 102 (v := ?vt31) rfl (by kernel_rfl) (by kernel_rfl) (by kernel_rfl) (by kernel_rfl) (by kernel_rfl) (fun _ _ _ h => h) (Or.inl ⟨by rfl, ?ht31⟩) (by assumption) ?rt31
                    case ht31 => intro w hSw; (try dsimp only at hSw); go_simp; (try with_reducible rfl)
                    simp only [Act.put, List.setIfInBounds_toArray, List.set_cons_zero, List.set_cons_succ]
                    refine wpL_takeAt (i := 6) 103 (v := ?vt32) rfl (by kernel_rfl) (by kernel_rfl) (by kernel_rfl) (by kernel_rfl) (by kernel_rfl) (fun _ _ _ h => h) (Or.inl ⟨by rfl, ?ht32⟩) (by assumption) ?rt32
                    case ht32 => intro w hSw; (try dsimp only at hSw); go_simp; (try with_reducible rfl)
                    simp only [Act.put, List.setIfInBounds_toArray, List.set_cons_zero, List.set_cons_succ]
                    refine wpL_takeAt (i := 7) 104 (v := ?vt33) rfl (by kernel_rfl) (by kernel_rfl) (by kernel_rfl) (by kernel_rfl) (by kernel_rfl) (fun _ _ _ h => h) (Or.inl ⟨by rfl, ?ht33⟩) (by assumption) ?rt33
                    case ht33 => intro w hSw; (try dsimp only at hSw); go_simp; (try with_reducible rfl)
                    simp only [Act.put, List.setIfInBounds_toArray, List.set_cons_zero, List.set_cons_succ]
                    refine wpL_takeAt (i := 8) 105 (v := ?vt34) rfl (by kernel_rfl) (by kernel_rfl) (by kernel_rfl) (by kernel_rfl) (by kernel_rfl) (fun _ _ _ h => h) (Or.inl ⟨by rfl, ?ht34⟩) (by assumption) ?rt34
                    case ht34 => intro w hSw; (try dsimp only at hSw); go_simp; (try with_reducible rfl)
                    simp only [Act.put, List.setIfInBounds_toArray, List.set_cons_zero, List.set_cons_succ]
                    refine wpL_takeAt (i := 10) 107 (v := ?vt35) rfl (by kernel_rfl) (by kernel_rfl) (by kernel_rfl) (by kernel_rfl) (by kernel_rfl) (fun _ _ _ h => h) (Or.inl ⟨by rfl, ?ht35⟩) (by assumption) ?rt35
                    case ht35 => intro w hSw; (try dsimp only at hSw); go_simp; (try with_reducible rfl)
                    simp only [Act.put, List.setIfInBounds_toArray, List.set_cons_zero, List.set_cons_succ]
                    refine wpL_takeAt (i := 11) 108 (v := ?vt36) rfl (by kernel_rfl) (by kernel_rfl) (by kernel_rfl) (by kernel_rfl) (by kernel_rfl) (fun _ _ _ h => h) (Or.inl ⟨by rfl, ?ht36⟩) (by assumption) ?rt36
                    case ht36 => intro w hSw; (try dsimp only at hSw); go_simp; (try with_reducible rfl)
                    simp only [Act.put, List.setIfInBounds_toArray, List.set_cons_zero, List.set_cons_succ]
                    refine wpL_takeAt (i := 12) 109 (v := ?vt37) rfl (by kernel_rfl) (by kernel_rfl) (by kernel_rfl) (by kernel_rfl) (by kernel_rfl) (fun _ _ _ h => h) (Or.inl ⟨by rfl, ?ht37⟩) (by assumption) ?rt37
                    case ht37 => intro w hSw; (try dsimp only at hSw); go_simp; (try with_reducible rfl)
                    simp only [Act.put, List.setIfInBounds_toArray, List.set_cons_zero, List.set_cons_succ]
                    refine wpL_takeAt (i := 13) 110 (v := ?vt38) rfl (by kernel_rfl) (by kernel_rfl) (by kernel_rfl) (by kernel_rfl) (by kernel_rfl) (fun _ _ _ h => h) (Or.inl ⟨by rfl, ?ht38⟩) (by assumption) ?rt38
                    case ht38 => intro w hSw; (try dsimp only at hSw); go_simp; (try with_reducible rfl)
                    simp only [Act.put, List.setIfInBounds_toArray, List.set_cons_zero, List.set_cons_succ]
                    refine wpL_takeAt (i := 14) 111 (v := ?vt39) rfl (by kernel_rfl) (by kernel_rfl) (by kernel_rfl) (by kernel_rfl) (by kernel_rfl) (fun _ _ _ h => h) (Or.inl ⟨by rfl, ?ht39⟩) (by assumption) ?rt39
                    case ht39 => intro w hSw; (try dsimp only at hSw); go_simp; (try with_reducible rfl)
                    simp only [Act.put, List.setIfInBounds_toArray, List.set_cons_zero, List.set_cons_succ]
                    clear hHeld
                    refine wpL_one (i := 9) (by kernel_rfl) rfl (fun Kx hKx => ?_)
                    go_simp
                    refine (parted_any N mb row5 es5 T5 a b _ (HA8.out.a.below ((Below.refl w8.heap.size w8).drew))).mono ?_
                    rintro e z1 ⟨rfl, d1⟩
                    have dd1 : Below w8.heap.size w8 z1 := ((Below.refl w8.heap.size w8).drew).trans d1
                    have u1 := (dd1.cell (p := ⟨H, 1, none⟩) hH8).trans v1
                    have u2 := (dd1.cell (p := ⟨H, 2, none⟩) hH8).trans v2
                    have HZ1 := Lib.hid (HA8.out.below dd1)
                    clear d1 dd1 v1 v2
                    refine hKx.out _ _ (fun _ => ⟨u1, u2⟩) (fun _ => ?_)
                    clear hKx Kx
                    try simp only [Act.put, List.setIfInBounds_toArray, List.set_cons_zero, List.set_cons_succ]
                    refine wpL_one (i := 15) (by kernel_rfl) rfl (fun Kx hKx => ?_)
                    go_simp
                    refine (parted_any N mb row5 es5 T5 b a _ HZ1.out.a).mono ?_
                    rintro e z2 ⟨rfl, d2⟩
                    rw [Pl.parted_comm T5 b a]
                    have hH1 : H < z1.heap.size := World.block_lt_of_cell? _ _ u1
                    have q1 := (d2.cell (p := ⟨H, 1, none⟩) hH1).trans u1
                    have q2 := (d2.cell (p := ⟨H, 2, none⟩) hH1).trans u2
                    have HZ2 := Lib.hid (HZ1.out.below d2)
                    clear d2 u1 u2 HZ1 hH1
                    refine hKx.out _ _ (fun _ => ⟨q1, q2⟩) (fun _ => ?_)
                    clear hKx Kx
                    try simp only [Act.put, List.setIfInBounds_toArray, List.set_cons_zero, List.set_cons_succ]
                    generalize Pl.parted T5 a b = pab at *
                    refine wpL_one (i := 16) (by kernel_rfl) rfl (fun Kx hKx => ?_)
                    go_simp
                    refine hKx.out _ _ (fun _ => ⟨q1, q2⟩) (fun _ => ?_)
                    clear hKx Kx
                    try simp only [Act.put, List.setIfInBounds_toArray, List.set_cons_zero, List.set_cons_succ]
                    refine wpL_one (i := 17) (by kernel_rfl) rfl (fun Kx hKx => ?_)
                    go_simp
                    refine hKx.out _ _ (fun _ => ⟨q1, q2⟩) (fun _ => ?_)
                    clear hKx Kx
                    try simp only [Act.put, List.setIfInBounds_toArray, List.set_cons_zero, List.set_cons_succ]
                    refine wpL_done (by kernel_rfl) ?_ _
                    clear e9 hgt q1 q2
                    go_wp2_with fail
                    all_goals exact ⟨⟨k + 1, row5, es5, T5, ss, by omega, rfl, HZ2.out, by omega⟩, by simp [intOf]; omega⟩
          · have k2b : (K == 2) = false := beq_eq_false_iff_ne.2 k2
            have k3b : (K == 3) = false := beq_eq_false_iff_ne.2 k3
            have hinv := F1.out
            rw [if_neg (fun x => k1 x.1)] at hinv
            obtain ⟨row5, HA5⟩ := HA1'.out.step HS5.out (by rw [HPS.out]; exact hinv)
            have HA6 := Lib.hid (HA5.below HBP.out)
            clear hinv HA5 F1 F2 F3 HA1' HS5 HPS HB5 HBP HP5 HBC
            go_wp2_with fail
            generalize w5.alloc (.cells #[.int .i64 o.pk.frm, .int .i64 o.pk.to, .slice ao5 o.pk.bs.length cp5] 41) = W5 at *
            generalize o.T = T5 at *
            have hgt : ¬ ((es5.length : Int) > 64) := by have := HA6.out.inv.len; rw [Pl.abs_len] at this; omega
            have e9 : (Pl.parted T5 a b != Pl.parted T5 a b) = false := by simp
            refine wp_region_L (fun w' => w'.cell? ⟨H, 1, none⟩ = some (.int .i64 a) ∧ w'.cell? ⟨H, 2, none⟩ = some (.int .i64 b)) 99 (by kernel_rfl) ⟨y1, y2⟩ (fun hHeld => ?_)
            refine wpL_takeAt (i := 0) 97 (v := ?vt79) rfl (by kernel_rfl) (by kernel_rfl) (by kernel_rfl) (by kernel_rfl) (by kernel_rfl) (fun _ _ _ h => h) (Or.inl ⟨by rfl, ?ht79⟩) (by assumption) ?rt79
            case ht79 => intro w hSw; (try dsimp only at hSw); go_simp; (try with_reducible rfl)
            simp only [Act.put, List.setIfInBounds_toArray, List.set_cons_zero, List.set_cons_succ]
            refine wpL_one (i := 1) (by kernel_rfl) rfl (fun Kx hKx => ?_)
            go_simp
            refine (len_net N mb row5 es5 T5 _ (HA6.out.a.below ((Below.refl W5.heap.size W5).drew))).mono ?_
            rintro e zz ⟨rfl, rfl⟩
            refine hKx.out _ _ (fun _ => hHeld) (fun _ => ?_)
            clear hKx Kx
            try simp only [Act.put, List.setIfInBounds_toArray, List.set_cons_zero, List.set_cons_succ]
            refine wpL_takeAt (i := 2) 99 (v := ?vt80) rfl (by kernel_rfl) (by kernel_rfl) (by kernel_rfl) (by kernel_rfl) (by kernel_rfl) (fun _ _ _ h => h) (Or.inl ⟨by rfl, ?ht80⟩) (by assumption) ?rt80
            case ht80 => intro w hSw; (try dsimp only at hSw); go_simp; (try with_reducible rfl)
            simp only [Act.put, List.setIfInBounds_toArray, List.set_cons_zero, List.set_cons_succ]
            refine wpL_takeAt (i := 3) 100 (v := ?vt81) rfl (by kernel_rfl) (by kernel_rfl) (by kernel_rfl) (by kernel_rfl) (by kernel_rfl) (fun _ _ _ h => h) (Or.inl ⟨by rfl, ?ht81⟩) (by assumption) ?rt81
            case ht81 => intro w hSw; (try dsimp only at hSw); go_simp; (try with_reducible rfl)
            simp only [Act.put, List.setIfInBounds_toArray, List.set_cons_zero, List.set_cons_succ]
            refine wpL_takeAt (i := 4) 101 (v := ?vt82) rfl (by kernel_rfl) (by kernel_rfl) (by kernel_rfl) (by kernel_rfl) (by kernel_rfl) (fun _ _ _ h => h) (Or.inl ⟨by rfl, ?ht82⟩) (by assumption) ?rt82
            case ht82 => intro w hSw; (try dsimp only at hSw); go_simp; (try with_reducible rfl)
            simp only [Act.put, List.setIfInBounds_toArray, List.set_cons_zero, List.set_cons_succ]
            refine wpL_takeAt (i := 5) 102 (v := ?vt83) rfl (by kernel_rfl) (by kernel_rfl) (by kernel_rfl) (by kernel_rfl) (by kernel_rfl) (fun _ _ _ h => h) (Or.inl ⟨by rfl, ?ht83⟩) (by assumption) ?rt83
            case ht83 => intro w hSw; (try dsimp only at hSw); go_simp; (try with_reducible rfl)
            simp only [Act.put, List.setIfInBounds_toArray, List.set_cons_zero, List.set_cons_succ]
            refine wpL_takeAt (i := 6) 103 (v := ?vt84) rfl (by kernel_rfl) (by kernel_rfl) (by kernel_rfl) (by kernel_rfl) (by kernel_rfl) (fun _ _ _ h => h) (Or.inl ⟨by rfl, ?ht84⟩) (by assumption) ?rt84
            case ht84 => intro w hSw; (try dsimp only at hSw); go_simp; (try with_reducible rfl)
            simp only [Act.put, List.setIfInBounds_toArray, List.set_cons_zero, List.set_cons_succ]
            refine wpL_takeAt (i := 7) 104 (v := ?vt85) rfl (by kernel_rfl) (by kernel_rfl) (by kernel_rfl) (by kernel_rfl) (by kernel_rfl) (fun _ _ _ h => h) (Or.inl ⟨by rfl, ?ht85⟩) (by assumption) ?rt85
            case ht85 => intro w hSw; (try dsimp only at hSw); go_simp; (try with_reducible rfl)
            simp only [Act.put, List.setIfInBounds_toArray, List.set_cons_zero, List.set_cons_succ]
            refine wpL_takeAt (i := 8) 105 (v := ?vt86) rfl (by kernel_rfl) (by kernel_rfl) (by kernel_rfl) (by kernel_rfl) (by kernel_rfl) (fun _ _ _ h => h) (Or.inl ⟨by rfl, ?ht86⟩) (by assumption) ?rt86
            case ht86 => intro w hSw; (try dsimp only at hSw); go_simp; (try with_reducible rfl)
            simp only [Act.put, List.setIfInBounds_toArray, List.set_cons_zero, List.set_cons_succ]
            refine wpL_takeAt (i := 10) 107 (v := ?vt87) rfl (by kernel_rfl) (by kernel_rfl) (by kernel_rfl) (by kernel_rfl) (by kernel_rfl) (fun _ _ _ h => h) (Or.inl ⟨by rfl, ?ht87⟩) (by assumption) ?rt87
            case ht87 => intro w hSw; (try dsimp only at hSw); go_simp; (try with_reducible rfl)
            simp only [Act.put, List.setIfInBounds_toArray, List.set_cons_zero, List.set_cons_succ]
            refine wpL_takeAt (i := 11) 108 (v := ?vt88) rfl (by kernel_rfl) (by kernel_rfl) (by kernel_rfl) (by kernel_rfl) (by kernel_rfl) (fun _ _ _ h => h) (Or.inl ⟨by rfl, ?ht88⟩) (by assumption) ?rt88
            case ht88 => intro w hSw; (try dsimp only at hSw); go_simp; (try with_reducible rfl)
            simp only [Act.put, List.setIfInBounds_toArray, List.set_cons_zero, List.set_cons_succ]
            refine wpL_takeAt (i := 12) 109 (v := ?vt89) rfl (by kernel_rfl) (by kernel_rfl) (by kernel_rfl) (by kernel_rfl) (by kernel_rfl) (fun _ _ _ h => h) (Or.inl ⟨by rfl, ?ht89⟩) (by assumption) ?rt89
            case ht89 => intro w hSw; (try dsimp only at hSw); go_simp; (try with_reducible rfl)
            simp only [Act.put, List.setIfInBounds_toArray, List.set_cons_zero, List.set_cons_succ]
            refine wpL_takeAt (i := 13) 110 (v := ?vt90) rfl (by kernel_rfl) (by kernel_rfl) (by kernel_rfl) (by kernel_rfl) (by kernel_rfl) (fun _ _ _ h => h) (Or.inl ⟨by rfl, ?ht90⟩) (by assumption) ?rt90
            case ht90 => intro w hSw; (try dsimp only at hSw); go_simp; (try with_reducible rfl)
            simp only [Act.put, List.setIfInBounds_toArray, List.set_cons_zero, List.set_cons_succ]
            refine wpL_takeAt (i := 14) 111 (v := ?vt91) rfl (by kernel_rfl) (by kernel_rfl) (by kernel_rfl) (by kernel_rfl) (by kernel_rfl) (fun _ _ _ h => h) (Or.inl ⟨by rfl, ?ht91⟩) (by assumption) ?rt91
            case ht91 => intro w hSw; (try dsimp only at hSw); go_simp; (try with_reducible rfl)
            simp only [Act.put, List.setIfInBounds_toArray, List.set_cons_zero, List.set_cons_succ]
            clear hHeld
            refine wpL_one (i := 9) (by kernel_rfl) rfl (fun Kx hKx => ?_)
            go_simp
            refine (parted_any N mb row5 es5 T5 a b _ (HA6.out.a.below ((Below.refl W5.heap.size W5).drew))).mono ?_
            rintro e z1 ⟨rfl, d1⟩
            have dd1 : Below W5.heap.size W5 z1 := ((Below.refl W5.heap.size W5).drew).trans d1
            have u1 := (dd1.cell (p := ⟨H, 1, none⟩) hHlt).trans y1
            have u2 := (dd1.cell (p := ⟨H, 2, none⟩) hHlt).trans y2
            have HZ1 := Lib.hid (HA6.out.below dd1)
            clear d1 dd1 y1 y2
            refine hKx.out _ _ (fun _ => ⟨u1, u2⟩) (fun _ => ?_)
            clear hKx Kx
            try simp only [Act.put, List.setIfInBounds_toArray, List.set_cons_zero, List.set_cons_succ]
            refine wpL_one (i := 15) (by kernel_rfl) rfl (fun Kx hKx => ?_)
            go_simp
            refine (parted_any N mb row5 es5 T5 b a _ HZ1.out.a).mono ?_
            rintro e z2 ⟨rfl, d2⟩
            rw [Pl.parted_comm T5 b a]
            have hH1 : H < z1.heap.size := World.block_lt_of_cell? _ _ u1
            have q1 := (d2.cell (p := ⟨H, 1, none⟩) hH1).trans u1
            have q2 := (d2.cell (p := ⟨H, 2, none⟩) hH1).trans u2
            have HZ2 := Lib.hid (HZ1.out.below d2)
            clear d2 u1 u2 HZ1 hH1
            refine hKx.out _ _ (fun _ => ⟨q1, q2⟩) (fun _ => ?_)
            clear hKx Kx
            try simp only [Act.put, List.setIfInBounds_toArray, List.set_cons_zero, List.set_cons_succ]
            generalize Pl.parted T5 a b = pab at *
            refine wpL_one (i := 16) (by kernel_rfl) rfl (fun Kx hKx => ?_)
            go_simp
            refine hKx.out _ _ (fun _ => ⟨q1, q2⟩) (fun _ => ?_)
            clear hKx Kx
            try simp only [Act.put, List.setIfInBounds_toArray, List.set_cons_zero, List.set_cons_succ]
            refine wpL_one (i := 17) (by kernel_rfl) rfl (fun Kx hKx => ?_)
            go_simp
            refine hKx.out _ _ (fun _ => ⟨q1, q2⟩) (fun _ => ?_)
            clear hKx Kx
            try simp only [Act.put, List.setIfInBounds_toArray, List.set_cons_zero, List.set_cons_succ]
            refine wpL_done (by kernel_rfl) ?_ _
            clear e9 hgt q1 q2
            go_wp2_with fail
            all_goals exact ⟨⟨k + 1, row5, es5, T5, ss, by omega, rfl, HZ2.out, by omega⟩, by simp [intOf]; omega⟩
    · obtain rfl : k = len := by omega
      have HBL := Lib.hid HA.bel
      clear HA HST hlt
      go_wp2_with fail
      go_ret
      exact ⟨rfl, HBL.out⟩
end Go.Proofs.Ytjoikochpkfoaaa
