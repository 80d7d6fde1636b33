/- NetPlays: the walk. -/
import Derived.Test.YtjoikochpkfoaaaNetZe
namespace Go.Proofs.Ytjoikochpkfoaaa
open Go.RowKit
set_option linter.unusedVariables false

/-- The steps in memory, each with bytes that can be copied. -/
def IsStepsS (w : World) (v : Value) : Prop := ∃ ao len cap K A B bs, v = .slice ao len cap ∧ len ≤ maxLen ∧ StepsAt w ao len K A B bs ∧ ∀ i, i < len → (bs i).length ≤ 140737488355328

set_option maxRecDepth 100000 in
set_option maxHeartbeats 8000000 in
theorem plays_walk (v0 : Value) (w : World) (hv : IsStepsS w v0) :
    Calls Try.prog 5 #[v0] w fun e w' => e = .returned (.bool true) ∧ Below w.heap.size w w' := by
  obtain ⟨ao, len, cap, KK, AA, BB, bss, rfl, hmax, hst, hsm⟩ := hv
  obtain ⟨i5, hi5, hz50, hz51, hz52⟩ := info_parts info5
  have HST := Lib.hid hst
  have HSM := Lib.hid hsm
  clear hst hsm
  go_enter Try.func5, Try.ntmps5
  go_wp2_with fail
  refine (alive_ok w).mono ?_
  rintro e w2 ⟨rfl, hb2⟩
  have HGR := Lib.hid (great_any ao len cap KK AA BB bss w2 (fun i hi => by
    obtain ⟨b, off, bv, h1, h2, h3, h4, h5, h6, h7, h8⟩ := HST.out i hi
    exact ⟨b, off, bv, h1, Nat.lt_of_lt_of_le h2 hb2.size, (hb2.cell (p := ⟨b, off + i * 4, none⟩) h2).trans h3, (hb2.cell (p := ⟨b, off + i * 4 + 1, none⟩) h2).trans h4, (hb2.cell (p := ⟨b, off + i * 4 + 2, none⟩) h2).trans h5, (hb2.cell (p := ⟨b, off + i * 4 + 3, none⟩) h2).trans h6, h7.below hb2, h8⟩) hmax)
  have HB2 := Lib.hid hb2
  clear hb2 hmax
  go_wp2_with fail
  refine HGR.out.mono ?_
  rintro e w3 ⟨(rfl | ⟨rfl, h300⟩), b3⟩
  · have HB3 := Lib.hid (HB2.out.trans (b3.mono HB2.out.size))
    clear b3
    go_wp2_with fail
    go_ret
    exact ⟨rfl, HB3.out⟩
  have hb3 := HB2.out.trans (b3.mono HB2.out.size)
  have HB3 := Lib.hid hb3
  clear b3 hb3 HGR HB2
  go_wp2_with fail
  refine (new_net w3).mono ?_
  rintro e w4 ⟨rfl, hb4, A4⟩
  have hs3 := HB3.out.size
  have hz49 := zero49
  have bx : Below w4.heap.size w4 (w4.alloc (.cells z49 49)) := (Below.refl _ _).alloc (Nat.le_refl _) _
  have hbw4 := HB3.out.trans (hb4.mono hs3)
  have H0 : Two w (w4.alloc (.cells z49 49)) (w3.heap.size + 1) w3.heap.size w4.heap.size none none [] [] [] [] :=
    ⟨A4.below bx, ref_new w4, Nat.le_trans hs3 (Nat.le_succ _), hs3, hbw4.size, hbw4.trans (bx.mono hbw4.size)⟩
  have HH0 := Lib.hid H0
  clear hb4 A4 H0 HB3 bx hbw4
  generalize w3.heap.size + 1 = N at *
  generalize w3.heap.size = mb at *
  go_wp2_with fail
  clear hz49
  generalize w4.alloc (.cells z49 49) = W0 at *
  generalize w4.heap.size = M at *
  clear hs3
  go_loopw [26] (fun i wr => ∃ (k : Nat) (row rrow : Option Nat) (es fs : List Pl.Ent) (TT : Pl.Off), k ≤ len ∧ i = .int .i64 k ∧ Two w wr N mb M row rrow es fs TT TT ∧ Pl.abs es = Pl.abs fs ∧ Pl.Fine (Pl.abs es)) (fun i _ => len - (intOf i).toNat)
  case atStart => exact ⟨0, none, none, [], [], [], Nat.zero_le _, rfl, HH0.out, rfl, ⟨by decide, (fun p hp => by cases hp)⟩⟩
  case round =>
    obtain ⟨k, row, rrow, es, fs, TT, hk, rfl, H2, heq, hfine⟩ := hrel
    clear HH0
    rename World => wA
    by_cases hlt : k < len
    · obtain ⟨b0, off, bv, rfl, hblk, h1, h2, h3, h4, h5, h6⟩ := HST.out k hlt
      have hbig := HSM.out k hlt
      have bel := H2.bel
      have c0 := (bel.cell (p := ⟨b0, off + k * 4, none⟩) hblk).trans h1
      have c1 := (bel.cell (p := ⟨b0, off + k * 4 + 1, none⟩) hblk).trans h2
      have c2 := (bel.cell (p := ⟨b0, off + k * 4 + 2, none⟩) hblk).trans h3
      have c3 := (bel.cell (p := ⟨b0, off + k * 4 + 3, none⟩) hblk).trans h4
      have hbc := h5.below bel
      have HBC0 := Lib.hid h5
      obtain ⟨bao, bcap, hbv, _⟩ := id h5
      subst hbv
      have HKL := Lib.hid (show k + 1 ≤ len by omega)
      clear h1 h2 h3 h4 h5 h6 bel hk
      generalize KK k = K at *
      generalize AA k = a at *
      generalize BB k = b at *
      generalize bss k = bs at *
      have hf2 := hfine.step K a b bs TT
      have hf3 := hfine.pk K a b bs TT
      have hdo := fun W v hA hB => do_any_o N mb row es TT K a b v bs W hA (Fine.ents hfine).1 (Fine.ents hfine).2 hB
      have hffine : Pl.Fine (Pl.abs fs) := by rw [← heq]; exact hfine
      have hrdo := fun W hA hB => rdo_any M rrow fs TT K a b (.slice bao bs.length bcap) bs W hA (Fine.ents hffine).1 (Fine.ents hffine).2 hB
      rw [← heq] at hrdo
      generalize Pl.doF K a b bs (Pl.abs es) TT = o at *
      have HDO := Lib.hid hdo
      have HRDO := Lib.hid hrdo
      have HF2 := Lib.hid hf2
      have HF3 := Lib.hid hf3
      have HTW := Lib.hid H2
      have HBC := Lib.hid hbc
      have HQ0 := Lib.hid (boxq_own wA K a b (.slice bao bs.length bcap))
      have HQB := Lib.hid (boxq_below wA K a b (.slice bao bs.length bcap))
      have hqs := boxq_size wA K a b (.slice bao bs.length bcap)
      have HQS := Lib.hid hqs
      clear hdo hrdo hf2 hf3 H2 hbc heq hfine hffine hqs HST HSM
      go_wp2_with (at_builtin; refine wpList_append_src _ rfl (.tmp 31) (.tmp 33) 26 rfl (wA.heap.size + 1 + 1) 5 i5 (.int .u8 0) 1 1 Try.underlying26 hi5 hz50 hz51 hz52 rfl (by decide) (.slice (some ⟨wA.heap.size + 1 + 1, 0, none⟩) 0 0) 0 [] rfl HQ0.out bao bs.length bcap (Pl.u8s bs) rfl (u8s_len bs) (HBC.out.below HQB.out).none (HBC.out.below HQB.out).news (u8s_one bs) (by unfold maxLen; omega) (by omega) (by rw [HQS.out]; omega) ?_; intro v1 w1 hown1 hgrow1; obtain ⟨⟨ao1, cap1, rfl⟩, e1, e2, be1, qs1⟩ := q_made hown1 hgrow1; have HQ1 := Lib.hid qs1; have HBE1 := Lib.hid be1; have e3 := cells_cell (j := 0) qs1.h1 rfl; have e4 := cells_cell (j := 1) qs1.h1 rfl; have e5 := cells_cell (j := 2) qs1.h1 rfl; have e6 := cells_cell (j := 3) qs1.h1 rfl; clear hown1 hgrow1 qs1 be1 HQ0 HQB HQS)
      generalize w1.setCell ⟨wA.heap.size + 1, 3, none⟩ (.slice ao1 bs.length cap1) = W5 at *
      have HT5 := Lib.hid (HTW.out.below HBE1.out)
      have HW5 := Lib.hid HBE1.out.size
      have HQL : Hid (∀ g, (Value.slice ao1 bs.length cap1).ownBlock = some g → wA.heap.size ≤ g ∧ g < W5.heap.size) := Lib.hid (fun g hg => ⟨by have := (HQ1.out.own.lt g hg).1; omega, HQ1.out.lt g hg⟩)
      clear e1 e2 e3 e4 e5 e6 c0 c1 c2 c3 HBE1 HBC
      refine (HDO.out W5 (.slice ao1 bs.length cap1) HT5.out.a HQ1.out.own.toT.toC).mono ?_
      rintro e w6 ⟨v6, es', rfl, O6, S6, hps, hfrom⟩
      obtain ⟨ao6, cp6, hv6, _⟩ := id O6.toT
      subst hv6
      obtain ⟨row', T6⟩ := HT5.out.step S6
      have q6 := HQ1.out.step HT5.out.a S6
      have bP : Below w6.heap.size w6 (w6.alloc (.cells #[.int .i64 o.pk.frm, .int .i64 o.pk.to, .slice ao6 o.pk.bs.length cp6] 41)) := (Below.refl _ _).alloc (Nat.le_refl _) _
      have q7 := q6.below bP
      have y0 := cells_cell (j := 0) q7.h0 rfl
      have y1 := cells_cell (j := 1) q7.h0 rfl
      have y2 := cells_cell (j := 2) q7.h0 rfl
      have y3 := cells_cell (j := 3) q7.h0 rfl
      have HT7 := Lib.hid (T6.below bP)
      have HQ7 := Lib.hid q7
      have HO7 := Lib.hid (O6.below bP)
      have HP7 := Lib.hid (heap_alloc_new w6 (.cells #[.int .i64 o.pk.frm, .int .i64 o.pk.to, .slice ao6 o.pk.bs.length cp6] 41))
      have HW6 := Lib.hid S6.size
      have HPL : Hid (∀ g, (Value.slice ao6 o.pk.bs.length cp6).ownBlock = some g → W5.heap.size ≤ g ∧ g < (w6.alloc (.cells #[.int .i64 o.pk.frm, .int .i64 o.pk.to, .slice ao6 o.pk.bs.length cp6] 41)).heap.size) := Lib.hid (fun g hg => ⟨(O6.lt g hg).1, Nat.lt_of_lt_of_le (O6.lt g hg).2 bP.size⟩)
      have HW7 := Lib.hid (show w6.heap.size ≤ (w6.alloc (.cells #[.int .i64 o.pk.frm, .int .i64 o.pk.to, .slice ao6 o.pk.bs.length cp6] 41)).heap.size from bP.size)
      have HPS := Lib.hid hps
      have HFR := Lib.hid hfrom
      clear O6 S6 hps hfrom T6 q6 q7 bP HQ1 HDO HT5
      go_wp2_with fail
      generalize w6.alloc (.cells #[.int .i64 o.pk.frm, .int .i64 o.pk.to, .slice ao6 o.pk.bs.length cp6] 41) = W7 at *
      clear y0 y1 y2 y3
      refine (HRDO.out W7 HT7.out.b (HBC0.out.below HT7.out.bel)).mono ?_
      rintro e w8 ⟨v8, fs', rfl, B8, S8, hps8, hfr8⟩
      obtain ⟨ao8, cp8, hv8, _⟩ := id B8
      subst hv8
      obtain ⟨rrow', T8⟩ := HT7.out.stepR S8
      have hPlt := (Array.getElem?_eq_some_iff.1 HP7.out).1
      have hMw := HTW.out.b.lt
      have hP8 := (S8.block hPlt (by have := HW5.out; have := HW6.out; omega) (fun e => by have := (HTW.out.b.row_lt _ e.symm).2; have := HW5.out; have := HW6.out; omega)).trans HP7.out
      have q8 := HQ7.out.stepR HT7.out.b S8
      have O8 := HO7.out.keep (StepR.keepB HT7.out.b S8)
      have hPlt8 := (Array.getElem?_eq_some_iff.1 hP8).1
      have bX : Below w8.heap.size w8 (w8.alloc (.cells #[.int .i64 o.pk.frm, .int .i64 o.pk.to, .slice ao8 o.pk.bs.length cp8] 41)) := (Below.refl _ _).alloc (Nat.le_refl _) _
      have bY : Below w8.heap.size w8 ((w8.alloc (.cells #[.int .i64 o.pk.frm, .int .i64 o.pk.to, .slice ao8 o.pk.bs.length cp8] 41)).alloc (.cells #[.int .i64 o.pk.frm, .int .i64 o.pk.to, .slice ao6 o.pk.bs.length cp6] 41)) := bX.alloc (by simp) _
      have bZ : Below w8.heap.size w8 (((w8.alloc (.cells #[.int .i64 o.pk.frm, .int .i64 o.pk.to, .slice ao8 o.pk.bs.length cp8] 41)).alloc (.cells #[.int .i64 o.pk.frm, .int .i64 o.pk.to, .slice ao6 o.pk.bs.length cp6] 41)).alloc (.cells #[.int .i64 o.pk.frm, .int .i64 o.pk.to, .slice ao8 o.pk.bs.length cp8] 41)) := bY.alloc (by simp; omega) _
      have hP9 := (bX.block _ hPlt8).trans hP8
      have hP11 := (bZ.block _ hPlt8).trans hP8
      have hX9 := heap_alloc_new w8 (.cells #[.int .i64 o.pk.frm, .int .i64 o.pk.to, .slice ao8 o.pk.bs.length cp8] 41)
      have hX10 := (Below.heap_alloc (w8.alloc (.cells #[.int .i64 o.pk.frm, .int .i64 o.pk.to, .slice ao8 o.pk.bs.length cp8] 41)) (.cells #[.int .i64 o.pk.frm, .int .i64 o.pk.to, .slice ao6 o.pk.bs.length cp6] 41) w8.heap.size (by simp)).trans hX9
      have p0 := cells_cell (j := 0) hP9 rfl
      have p1 := cells_cell (j := 1) hP9 rfl
      have p2 := cells_cell (j := 2) hP9 rfl
      have x0 := cells_cell (j := 0) hX10 rfl
      have x1 := cells_cell (j := 1) hX10 rfl
      have x2 := cells_cell (j := 2) hX10 rfl
      have ee : (o.err != o.err) = false := by simp
      have k6 := pks_one (w8.alloc (.cells #[.int .i64 o.pk.frm, .int .i64 o.pk.to, .slice ao8 o.pk.bs.length cp8] 41)) o.pk.frm o.pk.to (.slice ao6 o.pk.bs.length cp6) o.pk.bs (O8.toT.below bX).toC
      have k8 := pks_one ((w8.alloc (.cells #[.int .i64 o.pk.frm, .int .i64 o.pk.to, .slice ao8 o.pk.bs.length cp8] 41)).alloc (.cells #[.int .i64 o.pk.frm, .int .i64 o.pk.to, .slice ao6 o.pk.bs.length cp6] 41)) o.pk.frm o.pk.to (.slice ao8 o.pk.bs.length cp8) o.pk.bs (B8.below bY).toC
      have k6b := k6.below ((Below.refl _ _).alloc (Nat.le_refl _) (.cells #[.int .i64 o.pk.frm, .int .i64 o.pk.to, .slice ao8 o.pk.bs.length cp8] 41))
      have hz1 : (w8.alloc (.cells #[.int .i64 o.pk.frm, .int .i64 o.pk.to, .slice ao8 o.pk.bs.length cp8] 41)).heap.size = w8.heap.size + 1 := by simp
      have hz2 : ((w8.alloc (.cells #[.int .i64 o.pk.frm, .int .i64 o.pk.to, .slice ao8 o.pk.bs.length cp8] 41)).alloc (.cells #[.int .i64 o.pk.frm, .int .i64 o.pk.to, .slice ao6 o.pk.bs.length cp6] 41)).heap.size = w8.heap.size + 1 + 1 := by simp
      rw [hz1] at k6b
      rw [hz2] at k8
      have HSM := Lib.hid (psame_any _ _ _ _ _ k6b k8 (fun e he => by obtain rfl := List.mem_singleton.1 he; have := HF3.out; show o.pk.bs.length ≤ 1000000; omega) rfl (by simp))
      have HT11 := Lib.hid (T8.below bZ)
      have HQ11 := Lib.hid (q8.below bZ)
      have HO11 := Lib.hid (O8.below bZ)
      have HP11 := Lib.hid hP11
      have HW8 := Lib.hid S8.size
      have HPS8 := Lib.hid hps8
      have HFR8 := Lib.hid hfr8
      clear B8 S8 hps8 hfr8 T8 hPlt hMw hP8 q8 O8 hPlt8 bX bY bZ hP9 hP11 hX9 hX10 k6 k8 k6b hz1 hz2 HP7 HRDO HT7 HQ7 HO7
      go_wp2_with fail
      generalize ((w8.alloc (.cells #[.int .i64 o.pk.frm, .int .i64 o.pk.to, .slice ao8 o.pk.bs.length cp8] 41)).alloc (.cells #[.int .i64 o.pk.frm, .int .i64 o.pk.to, .slice ao6 o.pk.bs.length cp6] 41)).alloc (.cells #[.int .i64 o.pk.frm, .int .i64 o.pk.to, .slice ao8 o.pk.bs.length cp8] 41) = W11 at *
      clear p0 p1 p2 x0 x1 x2
      refine HSM.out.mono ?_
      rintro e w12 ⟨rfl, b12⟩
      have q12 := HQ11.out.below b12
      have hP12 := (b12.block _ (Array.getElem?_eq_some_iff.1 HP11.out).1).trans HP11.out
      have z0 := cells_cell (j := 2) hP12 rfl
      have z1 := cells_cell (j := 3) q12.h1 rfl
      have HT12 := Lib.hid (HT11.out.below b12)
      have HQ12 := Lib.hid q12
      have HO12 := Lib.hid (HO11.out.below b12)
      have HA1 := Lib.hid (apart1 HTW.out.a.bodies HFR.out HQL.out HPL.out HW5.out)
      have HA2 := Lib.hid (apart2 HTW.out.b.bodies HFR8.out HQL.out HPL.out HW5.out (Nat.le_trans HW6.out HW7.out))
      have HPP : Hid (∀ g, Pb (.slice ao6 o.pk.bs.length cp6) (.slice ao1 bs.length cap1) g → w.heap.size ≤ g ∧ ∃ cs fr, w12.heap[g]? = some (Obj.cells cs 5 fr)) := Lib.hid (fun g hg => by
        have hw := HTW.out.bel.size
        rcases hg with hg | hg
        · obtain ⟨cs, hcs⟩ := own_cells HO12.out hg
          exact ⟨by have := (HPL.out g hg).1; have := HW5.out; omega, cs, _, hcs⟩
        · obtain ⟨cs, hcs⟩ := own_cells HQ12.out.own hg
          exact ⟨by have := (HQL.out g hg).1; omega, cs, _, hcs⟩)
      have HI6 := Lib.hid (IncAt.of_own HO12.out)
      have HI1 := Lib.hid (IncAt.of_own HQ12.out.own)
      clear b12 q12 hP12 HSM HT11 HQ11 HO11 HP11
      go_wp2_with fail
      clear z0 z1
      go_loopw [64] (fun i wx => (i = .int .i64 0 ∨ i = .int .i64 1 ∨ i = .int .i64 2) ∧ Inc (Pb (.slice ao6 o.pk.bs.length cp6) (.slice ao1 bs.length cap1)) w12 wx ∧ IncAt wx (.slice ao6 o.pk.bs.length cp6) ∧ IncAt wx (.slice ao1 bs.length cap1)) (fun i _ => 2 - (intOf i).toNat)
      case atStart => exact ⟨.inl rfl, Inc.refl _ _, HI6.out, HI1.out⟩
      case round =>
        obtain ⟨hi012, I0, i6, i1⟩ := hrel
        have II := Lib.hid I0
        have J6 := Lib.hid i6
        have J1 := Lib.hid i1
        clear I0 i6 i1 HI6 HI1
        rcases hi012 with rfl | rfl | rfl
        · have ix0 := index52_0
          go_wp2_with fail
          go_loopw [69] (fun m wy => ∃ (q : Nat), q ≤ o.pk.bs.length ∧ m = .int .i64 q ∧ Inc (Pb (.slice ao6 o.pk.bs.length cp6) (.slice ao1 bs.length cap1)) w12 wy ∧ IncAt wy (.slice ao6 o.pk.bs.length cp6) ∧ IncAt wy (.slice ao1 bs.length cap1)) (fun m _ => o.pk.bs.length - (intOf m).toNat)
          case atStart => exact ⟨0, Nat.zero_le _, rfl, II.out, J6.out, J1.out⟩
          case round =>
            obtain ⟨q, hq, rfl, I2, j6, j1⟩ := hrel
            clear II J6 J1
            by_cases hql : q < o.pk.bs.length
            · obtain ⟨g, x, hao, cc, ff⟩ := IncAt.cell j6 hql
              subst hao
              have I3 := Lib.hid (fun u => I2.set (i := q) (g := g) (.inl rfl) u)
              have J6 := Lib.hid (fun y => j6.set g q y)
              have J1 := Lib.hid (fun y => j1.set g q y)
              have hq1 : (q : Int) + 1 ≤ 9223372036854775807 := by first | omega | (have := HF3.out; omega)
              clear I2 j6 j1
              go_wp2_with fail
              exact ⟨⟨q + 1, by omega, rfl, I3.out _, J6.out _, J1.out _⟩, by simp [intOf]; omega⟩
            · obtain rfl : q = o.pk.bs.length := by omega
              have I3 := Lib.hid I2
              have J6 := Lib.hid j6
              have J1 := Lib.hid j1
              clear I2 j6 j1 hql hq
              go_wp2_with fail
              exact ⟨⟨.inr (.inl rfl), I3.out, J6.out, J1.out⟩, by simp [intOf]⟩
        · have ix1 := index52_1
          go_wp2_with fail
          go_loopw [69] (fun m wy => ∃ (q : Nat), q ≤ bs.length ∧ m = .int .i64 q ∧ Inc (Pb (.slice ao6 o.pk.bs.length cp6) (.slice ao1 bs.length cap1)) w12 wy ∧ IncAt wy (.slice ao6 o.pk.bs.length cp6) ∧ IncAt wy (.slice ao1 bs.length cap1)) (fun m _ => bs.length - (intOf m).toNat)
          case atStart => exact ⟨0, Nat.zero_le _, rfl, II.out, J6.out, J1.out⟩
          case round =>
            obtain ⟨q, hq, rfl, I2, j6, j1⟩ := hrel
            clear II J6 J1
            by_cases hql : q < bs.length
            · obtain ⟨g, x, hao, cc, ff⟩ := IncAt.cell j1 hql
              subst hao
              have I3 := Lib.hid (fun u => I2.set (i := q) (g := g) (.inr rfl) u)
              have J6 := Lib.hid (fun y => j6.set g q y)
              have J1 := Lib.hid (fun y => j1.set g q y)
              have hq1 : (q : Int) + 1 ≤ 9223372036854775807 := by first | omega | (have := HF3.out; omega)
              clear I2 j6 j1
              go_wp2_with fail
              exact ⟨⟨q + 1, by omega, rfl, I3.out _, J6.out _, J1.out _⟩, by simp [intOf]; omega⟩
            · obtain rfl : q = bs.length := by omega
              have I3 := Lib.hid I2
              have J6 := Lib.hid j6
              have J1 := Lib.hid j1
              clear I2 j6 j1 hql hq
              go_wp2_with fail
              exact ⟨⟨.inr (.inr rfl), I3.out, J6.out, J1.out⟩, by simp [intOf]⟩
        · have HT13 := Lib.hid (HT12.out.inc II.out HPP.out HA1.out HA2.out)
          have hH13 := (II.out.same wA.heap.size (fun hp => by obtain ⟨_, cs, fr, hc⟩ := HPP.out _ hp; rw [HQ12.out.h0] at hc; cases hc)).trans HQ12.out.h0
          have y1 := cells_cell (j := 1) hH13 rfl
          have y2 := cells_cell (j := 2) hH13 rfl
          have hHlt := (Array.getElem?_eq_some_iff.1 hH13).1
          have hMlt := HT13.out.b.lt
          have heq' : Pl.abs es' = Pl.abs fs' := HPS.out.trans HPS8.out.symm
          have hlen : fs'.length = es'.length := by have := congrArg List.length heq'; rw [Pl.abs_len, Pl.abs_len] at this; omega
          obtain ⟨rao, rcap, rc, rs⟩ := HT13.out.b.ents
          have hpk : PksAt wr (.slice rao fs'.length rcap) fs' := ⟨rao, rcap, rfl, rs, fun x hx => (HT13.out.b.bodies x hx).toC⟩
          rw [hlen] at rc hpk
          have hfe : Pl.Fine (Pl.abs es') := by rw [HPS.out]; exact HF2.out
          have HFE := Lib.hid hfe
          have HEQ := Lib.hid heq'
          have HPK := Lib.hid hpk
          have ee0 : ((es'.length : Int) != (es'.length : Int)) = false := by simp
          clear hfe heq' hpk rs hlen hH13 HPS HPS8 HF2 HF3 HFR HFR8 HQL HPL HA1 HA2 HPP II J6 J1 HTW HW5 HW6 HW7 HW8 HQ12 HO12 HT12 HBC0 ee hbig
          generalize o.T = T' at *
          have ep : (Pl.parted T' a b != Pl.parted T' a b) = false := by simp
          go_wp2_with fail
          refine wp_region_L (fun w' => w'.cell? ⟨M, 0, none⟩ = some (.slice rao es'.length rcap) ∧ w'.cell? ⟨wA.heap.size, 1, none⟩ = some (.int .i64 a) ∧ w'.cell? ⟨wA.heap.size, 2, none⟩ = some (.int .i64 b)) 99 (by kernel_rfl) ⟨rc, y1, y2⟩ (fun hHeld => ?_)
          refine wpL_takeAt (i := 0) 82 (v := ?va1) rfl (by kernel_rfl) (by kernel_rfl) (by kernel_rfl) (by kernel_rfl) (by kernel_rfl) (fun _ _ _ h => h) (Or.inl ⟨by rfl, ?ha1⟩) (by assumption) ?ra1
          case ha1 => intro w hSw; (obtain ⟨s0, s1, s2⟩ := hSw); go_simp; (try with_reducible rfl)
          simp only [Act.put, List.setIfInBounds_toArray, List.set_cons_zero, List.set_cons_succ]
          refine wpL_takeAt (i := 2) 84 (v := ?va2) rfl (by kernel_rfl) (by kernel_rfl) (by kernel_rfl) (by kernel_rfl) (by kernel_rfl) (fun _ _ _ h => h) (Or.inl ⟨by rfl, ?ha2⟩) (by assumption) ?ra2
          case ha2 => intro w hSw; (obtain ⟨s0, s1, s2⟩ := hSw); go_simp; (try with_reducible rfl)
          simp only [Act.put, List.setIfInBounds_toArray, List.set_cons_zero, List.set_cons_succ]
          refine wpL_takeAt (i := 3) 85 (v := ?va3) rfl (by kernel_rfl) (by kernel_rfl) (by kernel_rfl) (by kernel_rfl) (by kernel_rfl) (fun _ _ _ h => h) (Or.inl ⟨by rfl, ?ha3⟩) (by assumption) ?ra3
          case ha3 => intro w hSw; (obtain ⟨s0, s1, s2⟩ := hSw); go_simp; (try with_reducible rfl)
          simp only [Act.put, List.setIfInBounds_toArray, List.set_cons_zero, List.set_cons_succ]
          refine wpL_takeAt (i := 4) 86 (v := ?va4) rfl (by kernel_rfl) (by kernel_rfl) (by kernel_rfl) (by kernel_rfl) (by kernel_rfl) (fun _ _ _ h => h) (Or.inl ⟨by rfl, ?ha4⟩) (by assumption) ?ra4
          case ha4 => intro w hSw; (obtain ⟨s0, s1, s2⟩ := hSw); go_simp; (try with_reducible rfl)
          simp only [Act.put, List.setIfInBounds_toArray, List.set_cons_zero, List.set_cons_succ]
          refine wpL_takeAt (i := 5) 87 (v := ?va5) rfl (by kernel_rfl) (by kernel_rfl) (by kernel_rfl) (by kernel_rfl) (by kernel_rfl) (fun _ _ _ h => h) (Or.inl ⟨by rfl, ?ha5⟩) (by assumption) ?ra5
          case ha5 => intro w hSw; (obtain ⟨s0, s1, s2⟩ := hSw); go_simp; (try with_reducible rfl)
          simp only [Act.put, List.setIfInBounds_toArray, List.set_cons_zero, List.set_cons_succ]
          refine wpL_takeAt (i := 6) 88 (v := ?va6) rfl (by kernel_rfl) (by kernel_rfl) (by kernel_rfl) (by kernel_rfl) (by kernel_rfl) (fun _ _ _ h => h) (Or.inl ⟨by rfl, ?ha6⟩) (by assumption) ?ra6
          case ha6 => intro w hSw; (obtain ⟨s0, s1, s2⟩ := hSw); go_simp; (try with_reducible rfl)
          simp only [Act.put, List.setIfInBounds_toArray, List.set_cons_zero, List.set_cons_succ]
          refine wpL_one (i := 1) (by kernel_rfl) rfl (fun K hK => ?_)
          go_simp
          refine (len_net N mb row' es' T' _ (HT13.out.a.below ((Below.refl wr.heap.size wr).drew))).mono ?_
          rintro e zz ⟨rfl, rfl⟩
          refine hK.out _ _ (fun _ => hHeld) (fun _ => ?_)
          clear hK K
          try simp only [Act.put, List.setIfInBounds_toArray, List.set_cons_zero, List.set_cons_succ]
          refine wpL_takeAt (i := 7) 89 (v := ?va7) rfl (by kernel_rfl) (by kernel_rfl) (by kernel_rfl) (by kernel_rfl) (by kernel_rfl) (fun _ _ _ h => h) (Or.inl ⟨by rfl, ?ha7⟩) (by assumption) ?ra7
          case ha7 => intro w hSw; (obtain ⟨s0, s1, s2⟩ := hSw); go_simp; (try with_reducible rfl)
          simp only [Act.put, List.setIfInBounds_toArray, List.set_cons_zero, List.set_cons_succ]
          refine wpL_takeAt (i := 8) 90 (v := ?va8) rfl (by kernel_rfl) (by kernel_rfl) (by kernel_rfl) (by kernel_rfl) (by kernel_rfl) (fun _ _ _ h => h) (Or.inl ⟨by rfl, ?ha8⟩) (by assumption) ?ra8
          case ha8 => intro w hSw; (obtain ⟨s0, s1, s2⟩ := hSw); go_simp; (try with_reducible rfl)
          simp only [Act.put, List.setIfInBounds_toArray, List.set_cons_zero, List.set_cons_succ]
          refine wpL_takeAt (i := 9) 91 (v := ?va9) rfl (by kernel_rfl) (by kernel_rfl) (by kernel_rfl) (by kernel_rfl) (by kernel_rfl) (fun _ _ _ h => h) (Or.inl ⟨by rfl, ?ha9⟩) (by assumption) ?ra9
          case ha9 => intro w hSw; (obtain ⟨s0, s1, s2⟩ := hSw); go_simp; (try with_reducible rfl)
          simp only [Act.put, List.setIfInBounds_toArray, List.set_cons_zero, List.set_cons_succ]
          refine wpL_takeAt (i := 11) 93 (v := ?va10) rfl (by kernel_rfl) (by kernel_rfl) (by kernel_rfl) (by kernel_rfl) (by kernel_rfl) (fun _ _ _ h => h) (Or.inl ⟨by rfl, ?ha10⟩) (by assumption) ?ra10
          case ha10 => intro w hSw; (obtain ⟨s0, s1, s2⟩ := hSw); go_simp; (try with_reducible rfl)
          simp only [Act.put, List.setIfInBounds_toArray, List.set_cons_zero, List.set_cons_succ]
          refine wpL_takeAt (i := 12) 94 (v := ?va11) rfl (by kernel_rfl) (by kernel_rfl) (by kernel_rfl) (by kernel_rfl) (by kernel_rfl) (fun _ _ _ h => h) (Or.inl ⟨by rfl, ?ha11⟩) (by assumption) ?ra11
          case ha11 => intro w hSw; (obtain ⟨s0, s1, s2⟩ := hSw); go_simp; (try with_reducible rfl)
          simp only [Act.put, List.setIfInBounds_toArray, List.set_cons_zero, List.set_cons_succ]
          refine wpL_takeAt (i := 13) 95 (v := ?va12) rfl (by kernel_rfl) (by kernel_rfl) (by kernel_rfl) (by kernel_rfl) (by kernel_rfl) (fun _ _ _ h => h) (Or.inl ⟨by rfl, ?ha12⟩) (by assumption) ?ra12
          case ha12 => intro w hSw; (obtain ⟨s0, s1, s2⟩ := hSw); go_simp; (try with_reducible rfl)
          simp only [Act.put, List.setIfInBounds_toArray, List.set_cons_zero, List.set_cons_succ]
          refine wpL_takeAt (i := 14) 96 (v := ?va13) rfl (by kernel_rfl) (by kernel_rfl) (by kernel_rfl) (by kernel_rfl) (by kernel_rfl) (fun _ _ _ h => h) (Or.inl ⟨by rfl, ?ha13⟩) (by assumption) ?ra13
          case ha13 => intro w hSw; (obtain ⟨s0, s1, s2⟩ := hSw); go_simp; (try with_reducible rfl)
          simp only [Act.put, List.setIfInBounds_toArray, List.set_cons_zero, List.set_cons_succ]
          clear hHeld
          refine wpL_one (i := 10) (by kernel_rfl) rfl (fun K hK => ?_)
          go_simp
          refine (all_law N mb row' es' T' _ (HT13.out.a.below ((Below.refl wr.heap.size wr).drew)) (Fine.ents HFE.out).1 (Fine.ents HFE.out).2).mono ?_
          rintro e z1 ⟨va, gs, rfl, G1, hg1⟩
          have dd1 : Below wr.heap.size wr z1 := ((Below.refl wr.heap.size wr).drew).trans G1.bel
          have HS2 := Lib.hid (psame_any va (.slice rao es'.length rcap) gs fs' z1 G1.pks (HPK.out.below dd1) (fun x hx => by have := (Fine.ents (by rw [hg1]; exact HFE.out : Pl.Fine (Pl.abs gs))).2 x hx; omega) (hg1.trans HEQ.out) (by have := (Fine.ents (by rw [hg1]; exact HFE.out : Pl.Fine (Pl.abs gs))).1; omega))
          have u0 := (dd1.cell (p := ⟨M, 0, none⟩) hMlt).trans rc
          have u1 := (dd1.cell (p := ⟨wA.heap.size, 1, none⟩) hHlt).trans y1
          have u2 := (dd1.cell (p := ⟨wA.heap.size, 2, none⟩) hHlt).trans y2
          have HZ1 := Lib.hid (HT13.out.below dd1)
          clear dd1 G1 hg1 rc y1 y2 HPK
          refine hK.out _ _ (fun _ => ⟨u0, u1, u2⟩) (fun _ => ?_)
          clear hK K
          try simp only [Act.put, List.setIfInBounds_toArray, List.set_cons_zero, List.set_cons_succ]
          refine wpL_one (i := 15) (by kernel_rfl) rfl (fun K hK => ?_)
          go_simp
          refine HS2.out.mono ?_
          rintro e z2 ⟨rfl, d2⟩
          have hM1 : M < z1.heap.size := World.block_lt_of_cell? _ _ u0
          have hH1 : wA.heap.size < z1.heap.size := World.block_lt_of_cell? _ _ u1
          have v0 := (d2.cell (p := ⟨M, 0, none⟩) hM1).trans u0
          have v1 := (d2.cell (p := ⟨wA.heap.size, 1, none⟩) hH1).trans u1
          have v2 := (d2.cell (p := ⟨wA.heap.size, 2, none⟩) hH1).trans u2
          have HZ2 := Lib.hid (HZ1.out.below d2)
          clear d2 u0 u1 u2 HZ1 HS2 hM1 hH1
          refine hK.out _ _ (fun _ => ⟨v0, v1, v2⟩) (fun _ => ?_)
          clear hK K
          try simp only [Act.put, List.setIfInBounds_toArray, List.set_cons_zero, List.set_cons_succ]
          refine wpL_one (i := 16) (by kernel_rfl) rfl (fun K hK => ?_)
          go_simp
          refine hK.out _ _ (fun _ => ⟨v0, v1, v2⟩) (fun _ => ?_)
          clear hK K
          try simp only [Act.put, List.setIfInBounds_toArray, List.set_cons_zero, List.set_cons_succ]
          refine wpL_one (i := 17) (by kernel_rfl) rfl (fun K hK => ?_)
          go_simp
          refine hK.out _ _ (fun _ => ⟨v0, v1, v2⟩) (fun _ => ?_)
          clear hK K
          try simp only [Act.put, List.setIfInBounds_toArray, List.set_cons_zero, List.set_cons_succ]
          refine wpL_one (i := 18) (by kernel_rfl) rfl (fun K hK => ?_)
          go_simp
          refine hK.out _ _ (fun _ => ⟨v0, v1, v2⟩) (fun _ => ?_)
          clear hK K
          try simp only [Act.put, List.setIfInBounds_toArray, List.set_cons_zero, List.set_cons_succ]
          have hHeld : z2.cell? ⟨M, 0, none⟩ = some (.slice rao es'.length rcap) ∧ z2.cell? ⟨wA.heap.size, 1, none⟩ = some (.int .i64 a) ∧ z2.cell? ⟨wA.heap.size, 2, none⟩ = some (.int .i64 b) := ⟨v0, v1, v2⟩
          refine wpL_takeAt (i := 19) 101 (v := ?va14) rfl (by kernel_rfl) (by kernel_rfl) (by kernel_rfl) (by kernel_rfl) (by kernel_rfl) (fun _ _ _ h => h) (Or.inl ⟨by rfl, ?ha14⟩) (by assumption) ?ra14
          case ha14 => intro w hSw; (obtain ⟨s0, s1, s2⟩ := hSw); go_simp; (try with_reducible rfl)
          simp only [Act.put, List.setIfInBounds_toArray, List.set_cons_zero, List.set_cons_succ]
          refine wpL_takeAt (i := 20) 102 (v := ?va15) rfl (by kernel_rfl) (by kernel_rfl) (by kernel_rfl) (by kernel_rfl) (by kernel_rfl) (fun _ _ _ h => h) (Or.inl ⟨by rfl, ?ha15⟩) (by assumption) ?ra15
          case ha15 => intro w hSw; (obtain ⟨s0, s1, s2⟩ := hSw); go_simp; (try with_reducible rfl)
          simp only [Act.put, List.setIfInBounds_toArray, List.set_cons_zero, List.set_cons_succ]
          refine wpL_takeAt (i := 21) 103 (v := ?va16) rfl (by kernel_rfl) (by kernel_rfl) (by kernel_rfl) (by kernel_rfl) (by kernel_rfl) (fun _ _ _ h => h) (Or.inl ⟨by rfl, ?ha16⟩) (by assumption) ?ra16
          case ha16 => intro w hSw; (obtain ⟨s0, s1, s2⟩ := hSw); go_simp; (try with_reducible rfl)
          simp only [Act.put, List.setIfInBounds_toArray, List.set_cons_zero, List.set_cons_succ]
          refine wpL_takeAt (i := 22) 104 (v := ?va17) rfl (by kernel_rfl) (by kernel_rfl) (by kernel_rfl) (by kernel_rfl) (by kernel_rfl) (fun _ _ _ h => h) (Or.inl ⟨by rfl, ?ha17⟩) (by assumption) ?ra17
          case ha17 => intro w hSw; (obtain ⟨s0, s1, s2⟩ := hSw); go_simp; (try with_reducible rfl)
          simp only [Act.put, List.setIfInBounds_toArray, List.set_cons_zero, List.set_cons_succ]
          refine wpL_takeAt (i := 23) 105 (v := ?va18) rfl (by kernel_rfl) (by kernel_rfl) (by kernel_rfl) (by kernel_rfl) (by kernel_rfl) (fun _ _ _ h => h) (Or.inl ⟨by rfl, ?ha18⟩) (by assumption) ?ra18
          case ha18 => intro w hSw; (obtain ⟨s0, s1, s2⟩ := hSw); go_simp; (try with_reducible rfl)
          simp only [Act.put, List.setIfInBounds_toArray, List.set_cons_zero, List.set_cons_succ]
          refine wpL_takeAt (i := 25) 107 (v := ?va19) rfl (by kernel_rfl) (by kernel_rfl) (by kernel_rfl) (by kernel_rfl) (by kernel_rfl) (fun _ _ _ h => h) (Or.inl ⟨by rfl, ?ha19⟩) (by assumption) ?ra19
          case ha19 => intro w hSw; (obtain ⟨s0, s1, s2⟩ := hSw); go_simp; (try with_reducible rfl)
          simp only [Act.put, List.setIfInBounds_toArray, List.set_cons_zero, List.set_cons_succ]
          refine wpL_takeAt (i := 26) 108 (v := ?va20) rfl (by kernel_rfl) (by kernel_rfl) (by kernel_rfl) (by kernel_rfl) (by kernel_rfl) (fun _ _ _ h => h) (Or.inl ⟨by rfl, ?ha20⟩) (by assumption) ?ra20
          case ha20 => intro w hSw; (obtain ⟨s0, s1, s2⟩ := hSw); go_simp; (try with_reducible rfl)
          simp only [Act.put, List.setIfInBounds_toArray, List.set_cons_zero, List.set_cons_succ]
          refine wpL_takeAt (i := 27) 109 (v := ?va21) rfl (by kernel_rfl) (by kernel_rfl) (by kernel_rfl) (by kernel_rfl) (by kernel_rfl) (fun _ _ _ h => h) (Or.inl ⟨by rfl, ?ha21⟩) (by assumption) ?ra21
          case ha21 => intro w hSw; (obtain ⟨s0, s1, s2⟩ := hSw); go_simp; (try with_reducible rfl)
          simp only [Act.put, List.setIfInBounds_toArray, List.set_cons_zero, List.set_cons_succ]
          refine wpL_takeAt (i := 28) 110 (v := ?va22) rfl (by kernel_rfl) (by kernel_rfl) (by kernel_rfl) (by kernel_rfl) (by kernel_rfl) (fun _ _ _ h => h) (Or.inl ⟨by rfl, ?ha22⟩) (by assumption) ?ra22
          case ha22 => intro w hSw; (obtain ⟨s0, s1, s2⟩ := hSw); go_simp; (try with_reducible rfl)
          simp only [Act.put, List.setIfInBounds_toArray, List.set_cons_zero, List.set_cons_succ]
          refine wpL_takeAt (i := 29) 111 (v := ?va23) rfl (by kernel_rfl) (by kernel_rfl) (by kernel_rfl) (by kernel_rfl) (by kernel_rfl) (fun _ _ _ h => h) (Or.inl ⟨by rfl, ?ha23⟩) (by assumption) ?ra23
          case ha23 => intro w hSw; (obtain ⟨s0, s1, s2⟩ := hSw); go_simp; (try with_reducible rfl)
          simp only [Act.put, List.setIfInBounds_toArray, List.set_cons_zero, List.set_cons_succ]
          clear hHeld
          refine wpL_one (i := 24) (by kernel_rfl) rfl (fun K hK => ?_)
          go_simp
          refine (parted_any N mb row' es' T' a b _ HZ2.out.a).mono ?_
          rintro e z3 ⟨rfl, d3⟩
          have hM2 : M < z2.heap.size := World.block_lt_of_cell? _ _ v0
          have hH2 : wA.heap.size < z2.heap.size := World.block_lt_of_cell? _ _ v1
          have x0 := (d3.cell (p := ⟨M, 0, none⟩) hM2).trans v0
          have x1 := (d3.cell (p := ⟨wA.heap.size, 1, none⟩) hH2).trans v1
          have x2 := (d3.cell (p := ⟨wA.heap.size, 2, none⟩) hH2).trans v2
          have HZ3 := Lib.hid (HZ2.out.below d3)
          clear d3 v0 v1 v2 HZ2 hM2 hH2
          refine hK.out _ _ (fun _ => ⟨x0, x1, x2⟩) (fun _ => ?_)
          clear hK K
          try simp only [Act.put, List.setIfInBounds_toArray, List.set_cons_zero, List.set_cons_succ]
          refine wpL_one (i := 30) (by kernel_rfl) rfl (fun K hK => ?_)
          go_simp
          refine (rparted_any M rrow' fs' T' a b _ HZ3.out.b).mono ?_
          rintro e z4 ⟨rfl, d4⟩
          have hM3 : M < z3.heap.size := World.block_lt_of_cell? _ _ x0
          have hH3 : wA.heap.size < z3.heap.size := World.block_lt_of_cell? _ _ x1
          have q0 := (d4.cell (p := ⟨M, 0, none⟩) hM3).trans x0
          have q1 := (d4.cell (p := ⟨wA.heap.size, 1, none⟩) hH3).trans x1
          have q2 := (d4.cell (p := ⟨wA.heap.size, 2, none⟩) hH3).trans x2
          have HZ4 := Lib.hid (HZ3.out.below d4)
          clear d4 x0 x1 x2 HZ3 hM3 hH3
          refine hK.out _ _ (fun _ => ⟨q0, q1, q2⟩) (fun _ => ?_)
          clear hK K
          try simp only [Act.put, List.setIfInBounds_toArray, List.set_cons_zero, List.set_cons_succ]
          refine wpL_one (i := 31) (by kernel_rfl) rfl (fun K hK => ?_)
          go_simp
          refine hK.out _ _ (fun _ => ⟨q0, q1, q2⟩) (fun _ => ?_)
          clear hK K
          try simp only [Act.put, List.setIfInBounds_toArray, List.set_cons_zero, List.set_cons_succ]
          refine wpL_one (i := 32) (by kernel_rfl) rfl (fun K hK => ?_)
          go_simp
          refine hK.out _ _ (fun _ => ⟨q0, q1, q2⟩) (fun _ => ?_)
          clear hK K
          try simp only [Act.put, List.setIfInBounds_toArray, List.set_cons_zero, List.set_cons_succ]
          refine wpL_done (by kernel_rfl) ?_ _
          clear ep ee0 q0 q1 q2
          go_wp2_with fail
          exact ⟨⟨k + 1, row', rrow', es', fs', T', HKL.out, rfl, HZ4.out, HEQ.out, HFE.out⟩, by have := HKL.out; simp [intOf]; omega⟩
    · obtain rfl : k = len := by omega
      have HTW := Lib.hid H2
      clear H2 heq hfine hlt hk HST HSM
      go_wp2_with fail
      go_loopw [15] (fun i wx => ∃ (c : Int), i = .int .i64 c ∧ -1 ≤ c ∧ c ≤ 9 ∧ Two w wx N mb M row rrow es fs TT TT) (fun i _ => (9 - intOf i).toNat)
      case atStart => exact ⟨-1, rfl, by omega, by omega, HTW.out⟩
      case round =>
        obtain ⟨c, rfl, hc0, hc9, H3⟩ := hrel
        clear HTW
        have H3h := Lib.hid H3
        clear H3
        have hc1 : c + 1 ≤ 9223372036854775807 := by omega
        have hc2 : -9223372036854775808 ≤ c + 1 := by omega
        by_cases hc8 : c ≤ 8
        · go_wp2_with fail
          go_loopw [16] (fun i wy => ∃ (d : Int), i = .int .i64 d ∧ -1 ≤ d ∧ d ≤ 9 ∧ Two w wy N mb M row rrow es fs TT TT) (fun i _ => (9 - intOf i).toNat)
          case atStart => exact ⟨-1, rfl, by omega, by omega, H3h.out⟩
          case round =>
            obtain ⟨d, rfl, hd0, hd9, H4⟩ := hrel
            clear H3h
            have H4h := Lib.hid H4
            clear H4
            have hd1 : d + 1 ≤ 9223372036854775807 := by omega
            have hd2 : -9223372036854775808 ≤ d + 1 := by omega
            by_cases hd8 : d ≤ 8
            · go_wp2_with fail
              refine (parted_any N mb row es TT c d _ H4h.out.a).mono ?_
              rintro e z1 ⟨rfl, d1⟩
              have HZ1 := Lib.hid (H4h.out.below d1)
              clear d1 H4h
              go_wp2_with fail
              refine (rparted_any M rrow fs TT c d _ HZ1.out.b).mono ?_
              rintro e z2 ⟨rfl, d2⟩
              have HZ2 := Lib.hid (HZ1.out.below d2)
              clear d2 HZ1
              generalize Pl.parted TT c d = pab at *
              have ep : (pab != pab) = false := by simp
              go_wp2_with fail
              exact ⟨⟨d + 1, rfl, by omega, by omega, HZ2.out⟩, by simp [intOf]; omega⟩
            · clear hd1 hd2
              go_wp2_with fail
              exact ⟨⟨c + 1, rfl, by omega, by omega, H4h.out⟩, by simp [intOf]; omega⟩
        · clear hc1 hc2
          have HBL := Lib.hid H3h.out.bel
          clear H3h
          go_wp2_with fail
          go_ret
          exact ⟨rfl, HBL.out⟩

end Go.Proofs.Ytjoikochpkfoaaa
