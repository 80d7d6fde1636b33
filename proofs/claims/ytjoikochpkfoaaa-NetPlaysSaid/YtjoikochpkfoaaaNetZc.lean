/- All packets, handed over as the document's. -/
import Derived.Test.YtjoikochpkfoaaaNetZb
namespace Go.Proofs.Ytjoikochpkfoaaa
open Go.RowKit
set_option linter.unusedVariables false

set_option maxHeartbeats 2000000 in
theorem all_law (N mb : Nat) (row : Option Nat) (es : List Pl.Ent) (T : Pl.Off) (w : World) (h : NetAt w N row mb es T) (hn : es.length ≤ 64) (hl : ∀ e ∈ es, e.bs.length ≤ 4096) :
    Calls Try.prog 18 #[.pointer (some ⟨N, 0, none⟩)] w fun e w' => ∃ v' es', e = .returned v' ∧ Got 41 w w' v' es' ∧ Pl.abs es' = Pl.abs es := by
  obtain ⟨i0, hi, hz0, hz1, hz2⟩ := info_parts info41
  have HALL := Lib.hid (all_net N mb row es T w h hn hl)
  clear h hl
  go_enter Try.func18, Try.ntmps18
  go_wp2_with fail
  refine HALL.out.mono ?_
  rintro e w1 ⟨v1, fs, rfl, G1, habs1⟩
  obtain ⟨ao, cap, hv1, hen⟩ := G1.v
  subst hv1
  have hfl : fs.length ≤ 64 := by have := congrArg List.length habs1; rw [Pl.abs_len, Pl.abs_len] at this; omega
  have HEN := Lib.hid hen
  have HBO := Lib.hid G1.bod
  have HG1 := Lib.hid G1.bel
  have HA1 := Lib.hid habs1
  clear G1 hen habs1 HALL
  go_wp2_with fail
  have HG0 := Lib.hid (Got.nil 41 (Below.refl w1.heap.size w1))
  go_loopw [9, 3] (fun i v wr => ∃ (k : Nat) (ss : List Pl.Ent), k ≤ fs.length ∧ i = .int .i64 k ∧ Got 41 w1 wr v ss ∧ Pl.abs ss = Pl.abs (fs.take k)) (fun i _ _ => fs.length - (intOf i).toNat)
  case atStart => exact ⟨0, [], Nat.zero_le _, rfl, HG0.out, rfl⟩
  case round =>
    obtain ⟨k, ss, hk, rfl, HG, habs⟩ := hrel
    clear HG0
    by_cases hlt : k < fs.length
    · have hsl : ss.length ≤ 64 := by have := congrArg List.length habs; rw [Pl.abs_len, Pl.abs_len, List.length_take] at this; omega
      have hbody := (HBO.out fs[k] (List.getElem_mem hlt)).below HG.bel
      have habs2 := abs_take_succ hlt
      rw [← habs] at habs2
      obtain ⟨g, rfl, hgl, c0, c1, c2⟩ := (HEN.out.below HG.bel) k hlt
      generalize fs[k] = x at *
      obtain ⟨bao, bcap, hbv, _⟩ := id hbody
      rw [hbv] at c2 hbody
      obtain ⟨ao2, cap2, hv2, _⟩ := HG.v
      subst hv2
      have HAB := Lib.hid habs2
      have b1 : Below wr.heap.size wr (wr.alloc (.cells #[.int .i64 x.frm, .int .i64 x.to, .slice bao x.bs.length bcap] 31)) := (Below.refl _ _).alloc (Nat.le_refl _) _
      have b2 : Below wr.heap.size wr ((wr.alloc (.cells #[.int .i64 x.frm, .int .i64 x.to, .slice bao x.bs.length bcap] 31)).alloc (.cells #[.int .i64 x.frm, .int .i64 x.to, .slice bao x.bs.length bcap] 41)) := b1.alloc (by simp) _
      have HG6 := Lib.hid (HG.below b2)
      have HB6 := Lib.hid (hbody.below b2)
      have HOWN := Lib.hid HG6.out.own
      have hnew := World.news_of_block (heap_alloc_new (wr.alloc (.cells #[.int .i64 x.frm, .int .i64 x.to, .slice bao x.bs.length bcap] 31)) (.cells #[.int .i64 x.frm, .int .i64 x.to, .slice bao x.bs.length bcap] 41))
      have hsz : (wr.alloc (.cells #[.int .i64 x.frm, .int .i64 x.to, .slice bao x.bs.length bcap] 31)).heap.size = wr.heap.size + 1 := by simp
      rw [hsz] at hnew
      have HNEW := Lib.hid hnew
      have hone : ∀ u ∈ ([.int .i64 x.frm, .int .i64 x.to, .slice bao x.bs.length bcap] : List Value), u.oneCell' = true := by
        intro u hu
        simp at hu
        rcases hu with rfl | rfl | rfl <;> rfl
      have HONE := Lib.hid hone
      have hbs6 := Lib.hid HG6.out.bel.size
      clear habs habs2 HG hbody hbv b1 b2 hnew hsz hone
      go_wp2_with (at_builtin; refine wpList_append_own _ rfl (.tmp 13) (.tmp 15) 38 rfl w1.heap.size 41 i0 (.agg #[.int .i64 0, .int .i64 0, .slice none 0 0]) 3 40 Try.underlying38 hi hz0 hz1 hz2 rfl (by decide) (.slice ao2 ss.length cap2) ss.length (Pl.rows ss) rfl HOWN.out ⟨wr.heap.size + 1, 0, none⟩ 1 1 [.int .i64 x.frm, .int .i64 x.to, .slice bao x.bs.length bcap] rfl rfl HNEW.out HONE.out (by unfold maxLen; omega) (by omega) hbs6.out ?_; intro v7 w7 hown7 hgrow7 hat7; have HG7 := Lib.hid (HG6.out.push (s := ⟨x.frm, x.to, .slice bao x.bs.length bcap, x.bs⟩) (by decide) HB6.out hgrow7 hown7); clear hown7 hgrow7 hat7 HOWN HNEW HG6 HB6)
      refine ⟨⟨k + 1, ss ++ [⟨x.frm, x.to, .slice bao x.bs.length bcap, x.bs⟩], by omega, rfl, HG7.out, ?_⟩, by simp [intOf]; omega⟩
      rw [HAB.out]
      unfold Pl.abs; rw [List.map_append]; rfl
    · obtain rfl : k = fs.length := by omega
      rw [List.take_length, HA1.out] at habs
      have HAB := Lib.hid habs
      have HGG := Lib.hid HG
      clear habs HG hlt
      go_wp2_with fail
      go_ret
      exact ⟨_, ss, rfl, ⟨ownsRow_base HGG.out.own HG1.out.size, HGG.out.bod, HG1.out.trans (HGG.out.bel.mono HG1.out.size)⟩, HAB.out⟩

/-- Packets, by their cells. -/
def PksAt (w : World) (v : Value) (es : List Pl.Ent) : Prop := ∃ ao cap, v = .slice ao es.length cap ∧ SentsAt w ao es ∧ ∀ e ∈ es, BytesC w e.bv e.bs
theorem PksAt.below {w w' : World} {v : Value} {es : List Pl.Ent} (h : PksAt w v es) (hb : Below w.heap.size w w') : PksAt w' v es := by
  obtain ⟨ao, cap, h1, h2, h3⟩ := h
  exact ⟨ao, cap, h1, h2.below hb, fun e he => (h3 e he).below hb⟩
theorem Got.pks {t : Nat} {w0 w : World} {v : Value} {ss : List Pl.Ent} (h : Got t w0 w v ss) : PksAt w v ss := by
  obtain ⟨ao, cap, h1, h2⟩ := h.v
  exact ⟨ao, cap, h1, h2, fun s hs => (h.bod s hs).toC⟩

set_option maxRecDepth 100000 in
set_option maxHeartbeats 2000000 in
theorem psame_any (va vb : Value) (es fs : List Pl.Ent) (w : World) (ha : PksAt w va es) (hb : PksAt w vb fs) (hl : ∀ e ∈ es, e.bs.length ≤ 1000000) (heq : Pl.abs es = Pl.abs fs) (h63 : es.length ≤ 1000000) :
    Calls Try.prog 17 #[va, vb] w fun e w' => e = .returned (.bool true) ∧ Below w.heap.size w w' := by
  obtain ⟨ao, ca, rfl, h2, h3⟩ := ha
  obtain ⟨bo, cb, rfl, k2, k3⟩ := hb
  have hlen : fs.length = es.length := by have := congrArg List.length heq; rw [Pl.abs_len, Pl.abs_len] at this; omega
  have hpk : ∀ i (hi : i < es.length) (hf : i < fs.length), (es[i]).pk = (fs[i]).pk := fun i hi hf => by
    have h4 := Pl.abs_get es i hi
    rw [heq, Pl.abs_get fs i hf] at h4
    exact (Option.some.inj h4).symm
  have H2 := Lib.hid h2
  have H3 := Lib.hid h3
  have K2 := Lib.hid k2
  have K3 := Lib.hid k3
  have HL := Lib.hid hl
  have HP := Lib.hid hpk
  have HLEN := Lib.hid hlen
  clear h2 h3 k2 k3 hl hpk heq
  rw [hlen]
  clear hlen
  go_enter Try.func17, Try.ntmps17
  go_wp2_with fail
  have HB0 := Lib.hid (Below.refl w.heap.size w)
  go_loopw [13] (fun i wr => ∃ (k : Nat), k ≤ es.length ∧ i = .int .i64 k ∧ Below w.heap.size w wr) (fun i _ => es.length - (intOf i).toNat)
  case atStart => exact ⟨0, Nat.zero_le _, rfl, HB0.out⟩
  case round =>
    obtain ⟨k, hk, rfl, hbr⟩ := hrel
    clear HB0
    by_cases hlt : k < es.length
    · have hltf : k < fs.length := by rw [HLEN.out]; exact hlt
      have hp := HP.out k hlt hltf
      have A1 := (H3.out es[k] (List.getElem_mem hlt)).below hbr
      have A2 := (K3.out fs[k] (List.getElem_mem hltf)).below hbr
      have A3 := HL.out es[k] (List.getElem_mem hlt)
      obtain ⟨g, rfl, hgl, c0, c1, c2⟩ := (H2.out.below hbr) k hlt
      obtain ⟨q, rfl, hql, d0, d1, d2⟩ := (K2.out.below hbr) k hltf
      generalize es[k] = x at *
      generalize fs[k] = y at *
      have p0 : y.frm = x.frm := (congrArg Pl.Pk.frm hp).symm
      have p1 : y.to = x.to := (congrArg Pl.Pk.to hp).symm
      have p2 : y.bs = x.bs := (congrArg Pl.Pk.bs hp).symm
      rw [p0] at d0
      rw [p1] at d1
      rw [p2] at A2
      obtain ⟨bao, bcap, hbv, _⟩ := id A1
      obtain ⟨cao, ccap, hcv, _⟩ := id A2
      rw [hbv] at c2 A1
      rw [hcv] at d2 A2
      have HSA := Lib.hid (fun W (hW : Below wr.heap.size wr W) => same_any _ _ x.bs x.bs W (A1.below hW) (A2.below hW) A3)
      have HBR := Lib.hid hbr
      have e0 : (x.frm != x.frm) = false := by simp
      have e1 : (x.to != x.to) = false := by simp
      have e2 : (x.bs == x.bs) = true := by simp
      clear p0 p1 p2 A1 A2 A3 hp hbr hbv hcv
      generalize x.frm = X at *
      generalize x.to = Y at *
      generalize x.bs = Z at *
      go_wp2_with fail
      refine wp_region_L (fun w' => w'.cell? ⟨g, k * 3, none⟩ = some (.int .i64 X) ∧ w'.cell? ⟨g, k * 3 + 1, none⟩ = some (.int .i64 Y) ∧ w'.cell? ⟨g, k * 3 + 2, none⟩ = some (.slice bao Z.length bcap) ∧ w'.cell? ⟨q, k * 3, none⟩ = some (.int .i64 X) ∧ w'.cell? ⟨q, k * 3 + 1, none⟩ = some (.int .i64 Y) ∧ w'.cell? ⟨q, k * 3 + 2, none⟩ = some (.slice cao Z.length ccap)) 99 (by kernel_rfl) ⟨c0, c1, c2, d0, d1, d2⟩ (fun hHeld => ?_)
      refine wpL_takeAt (i := 0) 16 (v := ?va1) rfl (by kernel_rfl) (by kernel_rfl) (by kernel_rfl) (by kernel_rfl) (by kernel_rfl) (fun _ _ _ h => h) (Or.inl ⟨by rfl, ?ha1⟩) (by assumption) ?ra1
      case ha1 => intro w hSw; (obtain ⟨z0, z1, z2, z3, z4, z5⟩ := hSw); go_simp; (try with_reducible rfl)
      simp only [Act.put, List.setIfInBounds_toArray, List.set_cons_zero, List.set_cons_succ]
      refine wpL_takeAt (i := 1) 17 (v := ?va2) rfl (by kernel_rfl) (by kernel_rfl) (by kernel_rfl) (by kernel_rfl) (by kernel_rfl) (fun _ _ _ h => h) (Or.inl ⟨by rfl, ?ha2⟩) (by assumption) ?ra2
      case ha2 => intro w hSw; (obtain ⟨z0, z1, z2, z3, z4, z5⟩ := hSw); go_simp; (try with_reducible rfl)
      simp only [Act.put, List.setIfInBounds_toArray, List.set_cons_zero, List.set_cons_succ]
      refine wpL_takeAt (i := 2) 18 (v := ?va3) rfl (by kernel_rfl) (by kernel_rfl) (by kernel_rfl) (by kernel_rfl) (by kernel_rfl) (fun _ _ _ h => h) (Or.inl ⟨by rfl, ?ha3⟩) (by assumption) ?ra3
      case ha3 => intro w hSw; (obtain ⟨z0, z1, z2, z3, z4, z5⟩ := hSw); go_simp; (try with_reducible rfl)
      simp only [Act.put, List.setIfInBounds_toArray, List.set_cons_zero, List.set_cons_succ]
      refine wpL_takeAt (i := 3) 19 (v := ?va4) rfl (by kernel_rfl) (by kernel_rfl) (by kernel_rfl) (by kernel_rfl) (by kernel_rfl) (fun _ _ _ h => h) (Or.inl ⟨by rfl, ?ha4⟩) (by assumption) ?ra4
      case ha4 => intro w hSw; (obtain ⟨z0, z1, z2, z3, z4, z5⟩ := hSw); go_simp; (try with_reducible rfl)
      simp only [Act.put, List.setIfInBounds_toArray, List.set_cons_zero, List.set_cons_succ]
      refine wpL_takeAt (i := 4) 20 (v := ?va5) rfl (by kernel_rfl) (by kernel_rfl) (by kernel_rfl) (by kernel_rfl) (by kernel_rfl) (fun _ _ _ h => h) (Or.inl ⟨by rfl, ?ha5⟩) (by assumption) ?ra5
      case ha5 => intro w hSw; (obtain ⟨z0, z1, z2, z3, z4, z5⟩ := hSw); go_simp; (try with_reducible rfl)
      simp only [Act.put, List.setIfInBounds_toArray, List.set_cons_zero, List.set_cons_succ]
      refine wpL_takeAt (i := 5) 21 (v := ?va6) rfl (by kernel_rfl) (by kernel_rfl) (by kernel_rfl) (by kernel_rfl) (by kernel_rfl) (fun _ _ _ h => h) (Or.inl ⟨by rfl, ?ha6⟩) (by assumption) ?ra6
      case ha6 => intro w hSw; (obtain ⟨z0, z1, z2, z3, z4, z5⟩ := hSw); go_simp; (try with_reducible rfl)
      simp only [Act.put, List.setIfInBounds_toArray, List.set_cons_zero, List.set_cons_succ]
      refine wpL_takeAt (i := 6) 22 (v := ?va7) rfl (by kernel_rfl) (by kernel_rfl) (by kernel_rfl) (by kernel_rfl) (by kernel_rfl) (fun _ _ _ h => h) (Or.inl ⟨by rfl, ?ha7⟩) (by assumption) ?ra7
      case ha7 => intro w hSw; (obtain ⟨z0, z1, z2, z3, z4, z5⟩ := hSw); go_simp; (try with_reducible rfl)
      simp only [Act.put, List.setIfInBounds_toArray, List.set_cons_zero, List.set_cons_succ]
      refine wpL_takeAt (i := 7) 23 (v := ?va8) rfl (by kernel_rfl) (by kernel_rfl) (by kernel_rfl) (by kernel_rfl) (by kernel_rfl) (fun _ _ _ h => h) (Or.inl ⟨by rfl, ?ha8⟩) (by assumption) ?ra8
      case ha8 => intro w hSw; (obtain ⟨z0, z1, z2, z3, z4, z5⟩ := hSw); go_simp; (try with_reducible rfl)
      simp only [Act.put, List.setIfInBounds_toArray, List.set_cons_zero, List.set_cons_succ]
      refine wpL_takeAt (i := 8) 24 (v := ?va9) rfl (by kernel_rfl) (by kernel_rfl) (by kernel_rfl) (by kernel_rfl) (by kernel_rfl) (fun _ _ _ h => h) (Or.inl ⟨by rfl, ?ha9⟩) (by assumption) ?ra9
      case ha9 => intro w hSw; (obtain ⟨z0, z1, z2, z3, z4, z5⟩ := hSw); go_simp; (try with_reducible rfl)
      simp only [Act.put, List.setIfInBounds_toArray, List.set_cons_zero, List.set_cons_succ]
      refine wpL_takeAt (i := 9) 25 (v := ?va10) rfl (by kernel_rfl) (by kernel_rfl) (by kernel_rfl) (by kernel_rfl) (by kernel_rfl) (fun _ _ _ h => h) (Or.inl ⟨by rfl, ?ha10⟩) (by assumption) ?ra10
      case ha10 => intro w hSw; (obtain ⟨z0, z1, z2, z3, z4, z5⟩ := hSw); go_simp; (try with_reducible rfl)
      simp only [Act.put, List.setIfInBounds_toArray, List.set_cons_zero, List.set_cons_succ]
      refine wpL_takeAt (i := 10) 26 (v := ?va11) rfl (by kernel_rfl) (by kernel_rfl) (by kernel_rfl) (by kernel_rfl) (by kernel_rfl) (fun _ _ _ h => h) (Or.inl ⟨by rfl, ?ha11⟩) (by assumption) ?ra11
      case ha11 => intro w hSw; (obtain ⟨z0, z1, z2, z3, z4, z5⟩ := hSw); go_simp; (try with_reducible rfl)
      simp only [Act.put, List.setIfInBounds_toArray, List.set_cons_zero, List.set_cons_succ]
      refine wpL_takeAt (i := 11) 27 (v := ?va12) rfl (by kernel_rfl) (by kernel_rfl) (by kernel_rfl) (by kernel_rfl) (by kernel_rfl) (fun _ _ _ h => h) (Or.inl ⟨by rfl, ?ha12⟩) (by assumption) ?ra12
      case ha12 => intro w hSw; (obtain ⟨z0, z1, z2, z3, z4, z5⟩ := hSw); go_simp; (try with_reducible rfl)
      simp only [Act.put, List.setIfInBounds_toArray, List.set_cons_zero, List.set_cons_succ]
      refine wpL_takeAt (i := 12) 28 (v := ?va13) rfl (by kernel_rfl) (by kernel_rfl) (by kernel_rfl) (by kernel_rfl) (by kernel_rfl) (fun _ _ _ h => h) (Or.inl ⟨by rfl, ?ha13⟩) (by assumption) ?ra13
      case ha13 => intro w hSw; (obtain ⟨z0, z1, z2, z3, z4, z5⟩ := hSw); go_simp; (try with_reducible rfl)
      simp only [Act.put, List.setIfInBounds_toArray, List.set_cons_zero, List.set_cons_succ]
      refine wpL_takeAt (i := 13) 29 (v := ?va14) rfl (by kernel_rfl) (by kernel_rfl) (by kernel_rfl) (by kernel_rfl) (by kernel_rfl) (fun _ _ _ h => h) (Or.inl ⟨by rfl, ?ha14⟩) (by assumption) ?ra14
      case ha14 => intro w hSw; (obtain ⟨z0, z1, z2, z3, z4, z5⟩ := hSw); go_simp; (try with_reducible rfl)
      simp only [Act.put, List.setIfInBounds_toArray, List.set_cons_zero, List.set_cons_succ]
      refine wpL_takeAt (i := 14) 30 (v := ?va15) rfl (by kernel_rfl) (by kernel_rfl) (by kernel_rfl) (by kernel_rfl) (by kernel_rfl) (fun _ _ _ h => h) (Or.inl ⟨by rfl, ?ha15⟩) (by assumption) ?ra15
      case ha15 => intro w hSw; (obtain ⟨z0, z1, z2, z3, z4, z5⟩ := hSw); go_simp; (try with_reducible rfl)
      simp only [Act.put, List.setIfInBounds_toArray, List.set_cons_zero, List.set_cons_succ]
      refine wpL_takeAt (i := 15) 31 (v := ?va16) rfl (by kernel_rfl) (by kernel_rfl) (by kernel_rfl) (by kernel_rfl) (by kernel_rfl) (fun _ _ _ h => h) (Or.inl ⟨by rfl, ?ha16⟩) (by assumption) ?ra16
      case ha16 => intro w hSw; (obtain ⟨z0, z1, z2, z3, z4, z5⟩ := hSw); go_simp; (try with_reducible rfl)
      simp only [Act.put, List.setIfInBounds_toArray, List.set_cons_zero, List.set_cons_succ]
      refine wpL_takeAt (i := 16) 32 (v := ?va17) rfl (by kernel_rfl) (by kernel_rfl) (by kernel_rfl) (by kernel_rfl) (by kernel_rfl) (fun _ _ _ h => h) (Or.inl ⟨by rfl, ?ha17⟩) (by assumption) ?ra17
      case ha17 => intro w hSw; (obtain ⟨z0, z1, z2, z3, z4, z5⟩ := hSw); go_simp; (try with_reducible rfl)
      simp only [Act.put, List.setIfInBounds_toArray, List.set_cons_zero, List.set_cons_succ]
      refine wpL_takeAt (i := 17) 33 (v := ?va18) rfl (by kernel_rfl) (by kernel_rfl) (by kernel_rfl) (by kernel_rfl) (by kernel_rfl) (fun _ _ _ h => h) (Or.inl ⟨by rfl, ?ha18⟩) (by assumption) ?ra18
      case ha18 => intro w hSw; (obtain ⟨z0, z1, z2, z3, z4, z5⟩ := hSw); go_simp; (try with_reducible rfl)
      simp only [Act.put, List.setIfInBounds_toArray, List.set_cons_zero, List.set_cons_succ]
      refine wpL_takeAt (i := 18) 34 (v := ?va19) rfl (by kernel_rfl) (by kernel_rfl) (by kernel_rfl) (by kernel_rfl) (by kernel_rfl) (fun _ _ _ h => h) (Or.inl ⟨by rfl, ?ha19⟩) (by assumption) ?ra19
      case ha19 => intro w hSw; (obtain ⟨z0, z1, z2, z3, z4, z5⟩ := hSw); go_simp; (try with_reducible rfl)
      simp only [Act.put, List.setIfInBounds_toArray, List.set_cons_zero, List.set_cons_succ]
      refine wpL_takeAt (i := 19) 35 (v := ?va20) rfl (by kernel_rfl) (by kernel_rfl) (by kernel_rfl) (by kernel_rfl) (by kernel_rfl) (fun _ _ _ h => h) (Or.inl ⟨by rfl, ?ha20⟩) (by assumption) ?ra20
      case ha20 => intro w hSw; (obtain ⟨z0, z1, z2, z3, z4, z5⟩ := hSw); go_simp; (try with_reducible rfl)
      simp only [Act.put, List.setIfInBounds_toArray, List.set_cons_zero, List.set_cons_succ]
      refine wpL_takeAt (i := 20) 36 (v := ?va21) rfl (by kernel_rfl) (by kernel_rfl) (by kernel_rfl) (by kernel_rfl) (by kernel_rfl) (fun _ _ _ h => h) (Or.inl ⟨by rfl, ?ha21⟩) (by assumption) ?ra21
      case ha21 => intro w hSw; (obtain ⟨z0, z1, z2, z3, z4, z5⟩ := hSw); go_simp; (try with_reducible rfl)
      simp only [Act.put, List.setIfInBounds_toArray, List.set_cons_zero, List.set_cons_succ]
      refine wpL_takeAt (i := 21) 37 (v := ?va22) rfl (by kernel_rfl) (by kernel_rfl) (by kernel_rfl) (by kernel_rfl) (by kernel_rfl) (fun _ _ _ h => h) (Or.inl ⟨by rfl, ?ha22⟩) (by assumption) ?ra22
      case ha22 => intro w hSw; (obtain ⟨z0, z1, z2, z3, z4, z5⟩ := hSw); go_simp; (try with_reducible rfl)
      simp only [Act.put, List.setIfInBounds_toArray, List.set_cons_zero, List.set_cons_succ]
      refine wpL_takeAt (i := 22) 38 (v := ?va23) rfl (by kernel_rfl) (by kernel_rfl) (by kernel_rfl) (by kernel_rfl) (by kernel_rfl) (fun _ _ _ h => h) (Or.inl ⟨by rfl, ?ha23⟩) (by assumption) ?ra23
      case ha23 => intro w hSw; (obtain ⟨z0, z1, z2, z3, z4, z5⟩ := hSw); go_simp; (try with_reducible rfl)
      simp only [Act.put, List.setIfInBounds_toArray, List.set_cons_zero, List.set_cons_succ]
      refine wpL_takeAt (i := 23) 39 (v := ?va24) rfl (by kernel_rfl) (by kernel_rfl) (by kernel_rfl) (by kernel_rfl) (by kernel_rfl) (fun _ _ _ h => h) (Or.inl ⟨by rfl, ?ha24⟩) (by assumption) ?ra24
      case ha24 => intro w hSw; (obtain ⟨z0, z1, z2, z3, z4, z5⟩ := hSw); go_simp; (try with_reducible rfl)
      simp only [Act.put, List.setIfInBounds_toArray, List.set_cons_zero, List.set_cons_succ]
      refine wpL_takeAt (i := 24) 40 (v := ?va25) rfl (by kernel_rfl) (by kernel_rfl) (by kernel_rfl) (by kernel_rfl) (by kernel_rfl) (fun _ _ _ h => h) (Or.inl ⟨by rfl, ?ha25⟩) (by assumption) ?ra25
      case ha25 => intro w hSw; (obtain ⟨z0, z1, z2, z3, z4, z5⟩ := hSw); go_simp; (try with_reducible rfl)
      simp only [Act.put, List.setIfInBounds_toArray, List.set_cons_zero, List.set_cons_succ]
      refine wpL_takeAt (i := 25) 41 (v := ?va26) rfl (by kernel_rfl) (by kernel_rfl) (by kernel_rfl) (by kernel_rfl) (by kernel_rfl) (fun _ _ _ h => h) (Or.inl ⟨by rfl, ?ha26⟩) (by assumption) ?ra26
      case ha26 => intro w hSw; (obtain ⟨z0, z1, z2, z3, z4, z5⟩ := hSw); go_simp; (try with_reducible rfl)
      simp only [Act.put, List.setIfInBounds_toArray, List.set_cons_zero, List.set_cons_succ]
      refine wpL_takeAt (i := 26) 42 (v := ?va27) rfl (by kernel_rfl) (by kernel_rfl) (by kernel_rfl) (by kernel_rfl) (by kernel_rfl) (fun _ _ _ h => h) (Or.inl ⟨by rfl, ?ha27⟩) (by assumption) ?ra27
      case ha27 => intro w hSw; (obtain ⟨z0, z1, z2, z3, z4, z5⟩ := hSw); go_simp; (try with_reducible rfl)
      simp only [Act.put, List.setIfInBounds_toArray, List.set_cons_zero, List.set_cons_succ]
      refine wpL_takeAt (i := 27) 43 (v := ?va28) rfl (by kernel_rfl) (by kernel_rfl) (by kernel_rfl) (by kernel_rfl) (by kernel_rfl) (fun _ _ _ h => h) (Or.inl ⟨by rfl, ?ha28⟩) (by assumption) ?ra28
      case ha28 => intro w hSw; (obtain ⟨z0, z1, z2, z3, z4, z5⟩ := hSw); go_simp; (try with_reducible rfl)
      simp only [Act.put, List.setIfInBounds_toArray, List.set_cons_zero, List.set_cons_succ]
      refine wpL_takeAt (i := 28) 44 (v := ?va29) rfl (by kernel_rfl) (by kernel_rfl) (by kernel_rfl) (by kernel_rfl) (by kernel_rfl) (fun _ _ _ h => h) (Or.inl ⟨by rfl, ?ha29⟩) (by assumption) ?ra29
      case ha29 => intro w hSw; (obtain ⟨z0, z1, z2, z3, z4, z5⟩ := hSw); go_simp; (try with_reducible rfl)
      simp only [Act.put, List.setIfInBounds_toArray, List.set_cons_zero, List.set_cons_succ]
      refine wpL_takeAt (i := 29) 45 (v := ?va30) rfl (by kernel_rfl) (by kernel_rfl) (by kernel_rfl) (by kernel_rfl) (by kernel_rfl) (fun _ _ _ h => h) (Or.inl ⟨by rfl, ?ha30⟩) (by assumption) ?ra30
      case ha30 => intro w hSw; (obtain ⟨z0, z1, z2, z3, z4, z5⟩ := hSw); go_simp; (try with_reducible rfl)
      simp only [Act.put, List.setIfInBounds_toArray, List.set_cons_zero, List.set_cons_succ]
      refine wpL_takeAt (i := 30) 46 (v := ?va31) rfl (by kernel_rfl) (by kernel_rfl) (by kernel_rfl) (by kernel_rfl) (by kernel_rfl) (fun _ _ _ h => h) (Or.inl ⟨by rfl, ?ha31⟩) (by assumption) ?ra31
      case ha31 => intro w hSw; (obtain ⟨z0, z1, z2, z3, z4, z5⟩ := hSw); go_simp; (try with_reducible rfl)
      simp only [Act.put, List.setIfInBounds_toArray, List.set_cons_zero, List.set_cons_succ]
      refine wpL_takeAt (i := 31) 47 (v := ?va32) rfl (by kernel_rfl) (by kernel_rfl) (by kernel_rfl) (by kernel_rfl) (by kernel_rfl) (fun _ _ _ h => h) (Or.inl ⟨by rfl, ?ha32⟩) (by assumption) ?ra32
      case ha32 => intro w hSw; (obtain ⟨z0, z1, z2, z3, z4, z5⟩ := hSw); go_simp; (try with_reducible rfl)
      simp only [Act.put, List.setIfInBounds_toArray, List.set_cons_zero, List.set_cons_succ]
      refine wpL_takeAt (i := 32) 48 (v := ?va33) rfl (by kernel_rfl) (by kernel_rfl) (by kernel_rfl) (by kernel_rfl) (by kernel_rfl) (fun _ _ _ h => h) (Or.inl ⟨by rfl, ?ha33⟩) (by assumption) ?ra33
      case ha33 => intro w hSw; (obtain ⟨z0, z1, z2, z3, z4, z5⟩ := hSw); go_simp; (try with_reducible rfl)
      simp only [Act.put, List.setIfInBounds_toArray, List.set_cons_zero, List.set_cons_succ]
      refine wpL_takeAt (i := 33) 49 (v := ?va34) rfl (by kernel_rfl) (by kernel_rfl) (by kernel_rfl) (by kernel_rfl) (by kernel_rfl) (fun _ _ _ h => h) (Or.inl ⟨by rfl, ?ha34⟩) (by assumption) ?ra34
      case ha34 => intro w hSw; (obtain ⟨z0, z1, z2, z3, z4, z5⟩ := hSw); go_simp; (try with_reducible rfl)
      simp only [Act.put, List.setIfInBounds_toArray, List.set_cons_zero, List.set_cons_succ]
      refine wpL_takeAt (i := 34) 50 (v := ?va35) rfl (by kernel_rfl) (by kernel_rfl) (by kernel_rfl) (by kernel_rfl) (by kernel_rfl) (fun _ _ _ h => h) (Or.inl ⟨by rfl, ?ha35⟩) (by assumption) ?ra35
      case ha35 => intro w hSw; (obtain ⟨z0, z1, z2, z3, z4, z5⟩ := hSw); go_simp; (try with_reducible rfl)
      simp only [Act.put, List.setIfInBounds_toArray, List.set_cons_zero, List.set_cons_succ]
      clear hHeld
      refine wpL_one (i := 35) (by kernel_rfl) rfl (fun K hK => ?_)
      go_simp
      refine (HSA.out _ ((Below.refl wr.heap.size wr).drew)).mono ?_
      rintro e z1 ⟨rfl, dz⟩
      have dd : Below wr.heap.size wr z1 := ((Below.refl wr.heap.size wr).drew).trans dz
      have HD := Lib.hid dd
      rw [e2]
      have u0 := (dd.cell (p := ⟨g, k * 3, none⟩) hgl).trans c0
      have u1 := (dd.cell (p := ⟨g, k * 3 + 1, none⟩) hgl).trans c1
      have u2 := (dd.cell (p := ⟨g, k * 3 + 2, none⟩) hgl).trans c2
      have v0 := (dd.cell (p := ⟨q, k * 3, none⟩) hql).trans d0
      have v1 := (dd.cell (p := ⟨q, k * 3 + 1, none⟩) hql).trans d1
      have v2 := (dd.cell (p := ⟨q, k * 3 + 2, none⟩) hql).trans d2
      clear dd dz c0 c1 c2 d0 d1 d2 HSA
      refine hK.out _ _ (fun _ => ⟨u0, u1, u2, v0, v1, v2⟩) (fun _ => ?_)
      clear hK K
      try simp only [Act.put, List.setIfInBounds_toArray, List.set_cons_zero, List.set_cons_succ]
      refine wpL_one (i := 36) (by kernel_rfl) rfl (fun K hK => ?_)
      go_simp
      refine hK.out _ _ (fun _ => ⟨u0, u1, u2, v0, v1, v2⟩) (fun _ => ?_)
      clear hK K
      try simp only [Act.put, List.setIfInBounds_toArray, List.set_cons_zero, List.set_cons_succ]
      refine wpL_one (i := 37) (by kernel_rfl) rfl (fun K hK => ?_)
      go_simp
      refine hK.out _ _ (fun _ => ⟨u0, u1, u2, v0, v1, v2⟩) (fun _ => ?_)
      clear hK K
      try simp only [Act.put, List.setIfInBounds_toArray, List.set_cons_zero, List.set_cons_succ]
      refine wpL_done (by kernel_rfl) ?_ _
      clear e0 e1 e2 u0 u1 u2 v0 v1 v2
      have HR := Lib.hid (HBR.out.trans (HD.out.mono HBR.out.size))
      clear HBR HD
      go_wp2_with fail
      exact ⟨⟨k + 1, by omega, rfl, HR.out⟩, by simp [intOf]; omega⟩
    · obtain rfl : k = es.length := by omega
      have HBR := Lib.hid hbr
      clear hbr hlt
      go_wp2_with fail
      go_ret
      exact ⟨rfl, HBR.out⟩

end Go.Proofs.Ytjoikochpkfoaaa
