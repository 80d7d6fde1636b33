/- Copies that belong to the call that made them: Copy, Take. -/
import Derived.Test.YtjoikochpkfoaaaNetFa
namespace Go.Proofs.Ytjoikochpkfoaaa
open Go.RowKit
set_option linter.unusedVariables false

theorem cp_ok_o (N mb i c R : Nat) (row : Option Nat) (es : List Pl.Ent) (T : Pl.Off) (u0 u1 u2 : Value) (w : World) (h : NetAt w N row mb es T) (hi : i < es.length) (hc : c < w.heap.size) (cc : w.cell? ⟨c, 0, none⟩ = some (.pointer (some ⟨N, 0, none⟩))) (hR : w.heap[R]? = some (.cells #[u0, u1, u2] 31 (0, 0)))
    (hp : Pl.parted T (es[i]).frm (es[i]).to = false) (hn : (es[i]).bs.length ≤ 1000000) :
    Calls Try.prog 25 #[.int .i64 i, .pointer (some ⟨c, 0, none⟩), .pointer (some ⟨R, 0, none⟩)] w fun e w' => e = .returned (.int .i64 0) ∧ Below R w w' ∧ ∃ v', OwnB w.heap.size w' v' (es[i]).bs ∧ w'.cell? ⟨R, 0, none⟩ = some (.int .i64 (es[i]).frm) ∧ w'.cell? ⟨R, 1, none⟩ = some (.int .i64 (es[i]).to) ∧ w'.cell? ⟨R, 2, none⟩ = some v' ∧ ∃ f, w'.rowIs R 31 3 f := by
  obtain ⟨g, cap, c0, hg, y0, y1, y2⟩ := h.pk hi
  have hbt := h.bodies es[i] (List.getElem_mem hi)
  obtain ⟨bao, bcap, hbv, _⟩ := id hbt
  have HH := Lib.hid h
  have HP := Lib.hid hp
  have a0 : (i : Int) < es.length := by omega
  rw [hbv] at y2 hbt
  clear h hp
  generalize hfr : (es[i]).frm = fr at *
  generalize hto : (es[i]).to = to at *
  generalize hbs : (es[i]).bs = bs at *
  clear hbv hfr hto hbs
  have hRlt : R < w.heap.size := (Array.getElem?_eq_some_iff.1 hR).1
  have b1 : Below w.heap.size w (w.alloc (.cells #[.int .i64 fr, .int .i64 to, .slice bao bs.length bcap] 31)) := (Below.refl _ _).alloc (Nat.le_refl _) _
  have x0 : ∀ j u, (#[.int .i64 fr, .int .i64 to, .slice bao bs.length bcap] : Array Value)[j]? = some u → (w.alloc (.cells #[.int .i64 fr, .int .i64 to, .slice bao bs.length bcap] 31)).cell? ⟨w.heap.size, j, none⟩ = some u := fun j u hj => by
    rw [World.cell?_alloc_at _ _ _ _ rfl]; simpa using hj
  have hls : w.heap.size < (w.alloc (.cells #[.int .i64 fr, .int .i64 to, .slice bao bs.length bcap] 31)).heap.size := by simp
  have HX := Lib.hid x0
  have HLS := Lib.hid hls
  have HC := Lib.hid (parted_any N mb row es T fr to _ (HH.out.below b1))
  have HB := Lib.hid b1
  have HBT := Lib.hid hbt
  have HR := Lib.hid hR
  clear b1 hbt hR x0 hls
  go_enter Try.func25, Try.ntmps25
  go_wp2_with fail
  refine HC.out.mono ?_
  rintro e w1 ⟨rfl, b2⟩
  rw [HP.out]
  have z0 := (b2.cell (p := ⟨w.heap.size, 0, none⟩) HLS.out).trans (HX.out 0 _ rfl)
  have z1 := (b2.cell (p := ⟨w.heap.size, 1, none⟩) HLS.out).trans (HX.out 1 _ rfl)
  have z2 := (b2.cell (p := ⟨w.heap.size, 2, none⟩) HLS.out).trans (HX.out 2 _ rfl)
  have HB2 := Lib.hid (HB.out.trans (b2.mono HB.out.size))
  have HO := Lib.hid (own_any_o fr to (.slice bao bs.length bcap) bs w1 ((HBT.out.below HB2.out).toC) hn)
  clear HC HB b2 y0 y1 y2 c0 cc HX HLS
  go_wp2_with fail
  refine HO.out.mono ?_
  rintro e w2 ⟨v2, rfl, B2, b3⟩
  obtain ⟨ao2, cap2, hv2, _⟩ := id B2.toT
  subst hv2
  have b4 := HB2.out.trans (b3.mono HB2.out.size)
  have hR2 := (b4.block R hRlt).trans HR.out
  have q : ∀ j u, (#[u0, u1, u2] : Array Value)[j]? = some u → w2.cell? ⟨R, j, none⟩ = some u := fun j u hj => by simp only [World.cell?, hR2]; simpa using hj
  have q0 := q 0 _ rfl
  have q1 := q 1 _ rfl
  have q2 := q 2 _ rfl
  have fz : ∀ j, w2.frozen? ⟨R, j, none⟩ = false := fun j => by simp [World.frozen?, hR2]
  have f0 := fz 0
  have f1 := fz 1
  have f2 := fz 2
  have HB4 := Lib.hid b4
  have HBT2 := Lib.hid (B2.mono HB2.out.size)
  have HRI := Lib.hid (rowIs_of_block hR2 rfl)
  have HR2 := Lib.hid hR2
  clear q fz hR2 b4 b3 B2 HO HB2 HBT z0 z1 z2
  go_wp2_with fail
  go_ret
  refine ⟨rfl, ?_, .slice ao2 bs.length cap2, HBT2.out.keep ?_, ?_, ?_, ?_, ?_⟩
  · have hb : Below R w w2 := HB4.out.mono (by omega)
    exact ((hb.setCell (p := ⟨R, 0, none⟩) (Nat.le_refl _) _).setCell (p := ⟨R, 1, none⟩) (Nat.le_refl _) _).setCell (p := ⟨R, 2, none⟩) (Nat.le_refl _) _
  · refine keepB_of R R (fun x h1 h2 => ?_) (fun cs fr e => by rw [HR2.out] at e; cases e) (fun cs fr e => by rw [HR2.out] at e; cases e)
    rw [Below.heap_setCell _ _ _ _ h1, Below.heap_setCell _ _ _ _ h1, Below.heap_setCell _ _ _ _ h1]
  · rw [World.cell?_setCell_other _ _ _ _ (by simp), World.cell?_setCell_other _ _ _ _ (by simp)]
    exact World.cell?_setCell_same _ _ _ q0
  · rw [World.cell?_setCell_other _ _ _ _ (by simp)]
    exact World.cell?_setCell_same _ _ _ (by rw [World.cell?_setCell_other _ _ _ _ (by simp)]; exact q1)
  · exact World.cell?_setCell_same _ _ _ (by rw [World.cell?_setCell_other _ _ _ _ (by simp), World.cell?_setCell_other _ _ _ _ (by simp)]; exact q2)
  · exact ⟨_, ((HRI.out.set 0 _).set 1 _).set 2 _⟩

theorem copy_ok_o (N mb i : Nat) (row : Option Nat) (es : List Pl.Ent) (T : Pl.Off) (w : World) (h : NetAt w N row mb es T) (hi : i < es.length) (hp : Pl.parted T (es[i]).frm (es[i]).to = false) (hn : (es[i]).bs.length ≤ 1000000) :
    Calls Try.prog 10 #[.pointer (some ⟨N, 0, none⟩), .int .i64 i] w fun e w' => ∃ v', e = .returned (.tuple #[.agg #[.int .i64 (es[i]).frm, .int .i64 (es[i]).to, v'], .int .i64 0]) ∧ OwnB w.heap.size w' v' (es[i]).bs ∧ Below w.heap.size w w' := by
  have hmf : ∀ (fn : Fn) (first cap : Array Value) (w : World), (Instr.makeFunc fn first cap).run Try.prog w = .ok (.func fn first cap) w := fun _ _ _ _ => rfl
  have A := h.below (boxes_below w N)
  obtain ⟨ao, cap, c0⟩ := A.cell0
  have C := with_copy N i w.heap.size (w.heap.size + 1) ao es.length cap _ _ c0 hi (cp_ok_o N mb i w.heap.size (w.heap.size + 1) row es T _ _ _ _ A hi (by rw [boxes_size]; omega) (boxes_c w N) (boxes_R w N) hp hn) (fun e w' h => ⟨0, h.1⟩)
  have HC := Lib.hid C
  clear h A c0 C hp hn
  generalize (es[i]).frm = fr at *
  generalize (es[i]).to = to at *
  generalize (es[i]).bs = bs at *
  go_enter Try.func10, Try.ntmps10
  go_wp2_with fail
  refine HC.out.mono ?_
  rintro e w1 ⟨rfl, b1, v1, B1, q0, q1, q2, rf, hri⟩
  have fz := hri.frozen
  have HRI := Lib.hid hri
  obtain ⟨ao1, cap1, hv1, _⟩ := id B1.toT
  subst hv1
  have b2 : Below w.heap.size w w1 := (boxes_below w N).trans (b1.mono (by omega))
  have f0 := fz 0
  have f1 := fz 1
  have f2 := fz 2
  have HB := Lib.hid b2
  have HBT := Lib.hid (B1.mono (c := w.heap.size) (by rw [boxes_size]; omega))
  have hRR : w1.cell? ⟨w.heap.size + 1, 0, none⟩ = some (.int .i64 fr) := q0
  clear b1 b2 fz HC B1 hRR hri
  go_wp2_with fail
  have r0 : (((w1.setCell ⟨w.heap.size + 1, 0, none⟩ (.int .i64 fr)).setCell ⟨w.heap.size + 1, 1, none⟩ (.int .i64 to)).setCell ⟨w.heap.size + 1, 2, none⟩ (.slice ao1 bs.length cap1)).cell? ⟨w.heap.size + 1, 0, none⟩ = some (.int .i64 fr) := by
    rw [World.cell?_setCell_other _ _ _ _ (by simp), World.cell?_setCell_other _ _ _ _ (by simp)]; exact World.cell?_setCell_same _ _ _ q0
  have r1 : (((w1.setCell ⟨w.heap.size + 1, 0, none⟩ (.int .i64 fr)).setCell ⟨w.heap.size + 1, 1, none⟩ (.int .i64 to)).setCell ⟨w.heap.size + 1, 2, none⟩ (.slice ao1 bs.length cap1)).cell? ⟨w.heap.size + 1, 1, none⟩ = some (.int .i64 to) := by
    rw [World.cell?_setCell_other _ _ _ _ (by simp)]; exact World.cell?_setCell_same _ _ _ (by rw [World.cell?_setCell_other _ _ _ _ (by simp)]; exact q1)
  have r2 : (((w1.setCell ⟨w.heap.size + 1, 0, none⟩ (.int .i64 fr)).setCell ⟨w.heap.size + 1, 1, none⟩ (.int .i64 to)).setCell ⟨w.heap.size + 1, 2, none⟩ (.slice ao1 bs.length cap1)).cell? ⟨w.heap.size + 1, 2, none⟩ = some (.slice ao1 bs.length cap1) :=
    World.cell?_setCell_same _ _ _ (by rw [World.cell?_setCell_other _ _ _ _ (by simp), World.cell?_setCell_other _ _ _ _ (by simp)]; exact q2)
  have hB : Below w.heap.size w (((w1.setCell ⟨w.heap.size + 1, 0, none⟩ (.int .i64 fr)).setCell ⟨w.heap.size + 1, 1, none⟩ (.int .i64 to)).setCell ⟨w.heap.size + 1, 2, none⟩ (.slice ao1 bs.length cap1)) :=
    ((HB.out.setCell (p := ⟨w.heap.size + 1, 0, none⟩) (Nat.le_succ _) _).setCell (p := ⟨w.heap.size + 1, 1, none⟩) (Nat.le_succ _) _).setCell (p := ⟨w.heap.size + 1, 2, none⟩) (Nat.le_succ _) _
  have hK : KeepB w1 (((w1.setCell ⟨w.heap.size + 1, 0, none⟩ (.int .i64 fr)).setCell ⟨w.heap.size + 1, 1, none⟩ (.int .i64 to)).setCell ⟨w.heap.size + 1, 2, none⟩ (.slice ao1 bs.length cap1)) := by
    obtain ⟨cR, hcR, _⟩ := HRI.out
    refine keepB_of (w.heap.size + 1) (w.heap.size + 1) (fun x h1 h2 => ?_) (fun cs fr e => by rw [hcR] at e; cases e) (fun cs fr e => by rw [hcR] at e; cases e)
    rw [Below.heap_setCell _ _ _ _ h1, Below.heap_setCell _ _ _ _ h1, Below.heap_setCell _ _ _ _ h1]
  generalize ((w1.setCell ⟨w.heap.size + 1, 0, none⟩ (.int .i64 fr)).setCell ⟨w.heap.size + 1, 1, none⟩ (.int .i64 to)).setCell ⟨w.heap.size + 1, 2, none⟩ (.slice ao1 bs.length cap1) = W at *
  exact bodyPost_ret (v := .tuple #[.agg #[.int .i64 fr, .int .i64 to, .slice ao1 bs.length cap1], .int .i64 0]) (by simp [results, Try.results10, go_sem, r0, r1, r2]) rfl ⟨_, rfl, HBT.out.keep hK, hB⟩

theorem take_gen_o (N mb : Nat) (i a b k : Int) (row : Option Nat) (es es' : List Pl.Ent) (T : Pl.Off) (bs : List Int) (w : World) (h : NetAt w N row mb es T)
    (hC : Calls Try.prog 10 #[.pointer (some ⟨N, 0, none⟩), .int .i64 i] (w.alloc (.cells #[.int .i64 0, .int .i64 0, .slice none 0 0] 31)) fun e w' => ∃ v', e = .returned (.tuple #[.agg #[.int .i64 a, .int .i64 b, v'], .int .i64 k]) ∧ OwnB w.heap.size w' v' bs ∧ Below (w.heap.size + 1) (w.alloc (.cells #[.int .i64 0, .int .i64 0, .slice none 0 0] 31)) w')
    (hD : ∀ W, NetAt W N row mb es T → Calls Try.prog 21 #[.pointer (some ⟨N, 0, none⟩), .int .i64 i] W fun e w' => (∃ d, e = .returned (.int .i64 d)) ∧ Step W w' N row mb es' T) :
    Calls Try.prog 12 #[.pointer (some ⟨N, 0, none⟩), .int .i64 i] w fun e w' => ∃ v', e = .returned (.tuple #[.agg #[.int .i64 a, .int .i64 b, v'], .int .i64 k]) ∧ OwnB w.heap.size w' v' bs ∧ Step w w' N row mb es' T := by
  have hs1 : (w.alloc (.cells #[.int .i64 0, .int .i64 0, .slice none 0 0] 31)).heap.size = w.heap.size + 1 := by simp
  have b1 : Below w.heap.size w (w.alloc (.cells #[.int .i64 0, .int .i64 0, .slice none 0 0] 31)) := (Below.refl _ _).alloc (Nat.le_refl _) _
  have hR1 := heap_alloc_new w (.cells #[.int .i64 0, .int .i64 0, .slice none 0 0] 31)
  have HH := Lib.hid h
  have HC := Lib.hid hC
  have HD := Lib.hid hD
  have HB1 := Lib.hid b1
  have HR1 := Lib.hid hR1
  have HS1 := Lib.hid hs1
  clear h hC hD b1 hR1 hs1
  go_enter Try.func12, Try.ntmps12
  go_wp2_with fail
  refine HC.out.mono ?_
  rintro e w2 ⟨v2, rfl, B2, b2⟩
  obtain ⟨ao2, cap2, hv2, _⟩ := id B2.toT
  subst hv2
  have hs2 : w.heap.size + 1 ≤ w2.heap.size := by have := b2.size; rw [HS1.out] at this; exact this
  have b3 : Below w.heap.size w w2 := HB1.out.trans (b2.mono (by omega))
  have b4 : Below w.heap.size w (w2.alloc (.cells #[.int .i64 a, .int .i64 b, .slice ao2 bs.length cap2] 31)) := b3.alloc (by omega) _
  have A4 := HH.out.below b4
  have hR4 : (w2.alloc (.cells #[.int .i64 a, .int .i64 b, .slice ao2 bs.length cap2] 31)).heap[w.heap.size]? = some (.cells #[.int .i64 0, .int .i64 0, .slice none 0 0] 31 (0, 0)) := (Below.heap_alloc _ _ _ (by omega)).trans ((b2.block w.heap.size (by omega)).trans HR1.out)
  have hX4 := heap_alloc_new w2 (.cells #[.int .i64 a, .int .i64 b, .slice ao2 bs.length cap2] 31)
  have B4 := B2.below ((Below.refl w2.heap.size w2).alloc (Nat.le_refl _) (.cells #[.int .i64 a, .int .i64 b, .slice ao2 bs.length cap2] 31))
  have hs4 : (w2.alloc (.cells #[.int .i64 a, .int .i64 b, .slice ao2 bs.length cap2] 31)).heap.size = w2.heap.size + 1 := by simp
  have HB4 := Lib.hid b4
  have HA4 := Lib.hid A4
  have HR4 := Lib.hid hR4
  have HX4 := Lib.hid hX4
  have HBT4 := Lib.hid B4
  have HS4 := Lib.hid hs4
  clear b2 b3 b4 A4 hR4 hX4 B2 B4 HC HB1 HR1 HS1 hs4
  go_wp2_with fail
  generalize w2.alloc (.cells #[.int .i64 a, .int .i64 b, .slice ao2 bs.length cap2] 31) = W at *
  refine (HD.out W HA4.out).mono ?_
  rintro e w5 ⟨⟨d, rfl⟩, row', A5, t5, r5⟩
  have hNlt := HH.out.lt
  have hmlt := HH.out.mb_lt
  have n1 : w.heap.size ≠ N := by omega
  have n2 : w.heap.size ≠ mb := by omega
  have n3 : some w.heap.size ≠ row := fun e => by have := (HH.out.row_lt _ e.symm).2; omega
  have n4 : some w2.heap.size ≠ row := fun e => by have := (HH.out.row_lt _ e.symm).2; omega
  have hR5 := (t5.same w.heap.size (by rw [HS4.out]; omega) n1 n2 n3).trans HR4.out
  have hX5 := (t5.same w2.heap.size (by rw [HS4.out]; omega) (by omega) (by omega) n4).trans HX4.out
  have q : ∀ j u, (#[.int .i64 0, .int .i64 0, .slice none 0 0] : Array Value)[j]? = some u → w5.cell? ⟨w.heap.size, j, none⟩ = some u := fun j u hj => by simp only [World.cell?, hR5]; simpa using hj
  have y : ∀ j u, (#[.int .i64 a, .int .i64 b, .slice ao2 bs.length cap2] : Array Value)[j]? = some u → w5.cell? ⟨w2.heap.size, j, none⟩ = some u := fun j u hj => by simp only [World.cell?, hX5]; simpa using hj
  have q0 : w5.cell? ⟨w.heap.size, 0, none⟩ = some (.int .i64 0) := q 0 _ rfl
  have q1 : w5.cell? ⟨w.heap.size, 1, none⟩ = some (.int .i64 0) := q 1 _ rfl
  have q2 : w5.cell? ⟨w.heap.size, 2, none⟩ = some (.slice none 0 0) := q 2 _ rfl
  have y0 : w5.cell? ⟨w2.heap.size, 0, none⟩ = some (.int .i64 a) := y 0 _ rfl
  have y1 : w5.cell? ⟨w2.heap.size, 1, none⟩ = some (.int .i64 b) := y 1 _ rfl
  have y2 : w5.cell? ⟨w2.heap.size, 2, none⟩ = some (.slice ao2 bs.length cap2) := y 2 _ rfl
  have fz : ∀ j, w5.frozen? ⟨w.heap.size, j, none⟩ = false := fun j => by simp [World.frozen?, hR5]
  have f0 := fz 0
  have f1 := fz 1
  have f2 := fz 2
  have HA5 := Lib.hid A5
  have HT5 := Lib.hid t5
  have HR5 := Lib.hid hR5
  have HQ5 := Lib.hid r5
  have HK5 := Lib.hid (HA4.out.keepB t5)
  clear A5 t5 hR5 hX5 q y fz r5 HD
  go_wp2_with fail
  have r0 : (((w5.setCell ⟨w.heap.size, 0, none⟩ (.int .i64 a)).setCell ⟨w.heap.size, 1, none⟩ (.int .i64 b)).setCell ⟨w.heap.size, 2, none⟩ (.slice ao2 bs.length cap2)).cell? ⟨w.heap.size, 0, none⟩ = some (.int .i64 a) := by
    rw [World.cell?_setCell_other _ _ _ _ (by simp), World.cell?_setCell_other _ _ _ _ (by simp)]; exact World.cell?_setCell_same _ _ _ q0
  have r1 : (((w5.setCell ⟨w.heap.size, 0, none⟩ (.int .i64 a)).setCell ⟨w.heap.size, 1, none⟩ (.int .i64 b)).setCell ⟨w.heap.size, 2, none⟩ (.slice ao2 bs.length cap2)).cell? ⟨w.heap.size, 1, none⟩ = some (.int .i64 b) := by
    rw [World.cell?_setCell_other _ _ _ _ (by simp)]; exact World.cell?_setCell_same _ _ _ (by rw [World.cell?_setCell_other _ _ _ _ (by simp)]; exact q1)
  have r2 : (((w5.setCell ⟨w.heap.size, 0, none⟩ (.int .i64 a)).setCell ⟨w.heap.size, 1, none⟩ (.int .i64 b)).setCell ⟨w.heap.size, 2, none⟩ (.slice ao2 bs.length cap2)).cell? ⟨w.heap.size, 2, none⟩ = some (.slice ao2 bs.length cap2) :=
    World.cell?_setCell_same _ _ _ (by rw [World.cell?_setCell_other _ _ _ _ (by simp), World.cell?_setCell_other _ _ _ _ (by simp)]; exact q2)
  have hh : ∀ x, x ≠ w.heap.size → (((w5.setCell ⟨w.heap.size, 0, none⟩ (.int .i64 a)).setCell ⟨w.heap.size, 1, none⟩ (.int .i64 b)).setCell ⟨w.heap.size, 2, none⟩ (.slice ao2 bs.length cap2)).heap[x]? = w5.heap[x]? := fun x hx => by
    rw [Below.heap_setCell _ _ _ _ hx, Below.heap_setCell _ _ _ _ hx, Below.heap_setCell _ _ _ _ hx]
  have hsz : (((w5.setCell ⟨w.heap.size, 0, none⟩ (.int .i64 a)).setCell ⟨w.heap.size, 1, none⟩ (.int .i64 b)).setCell ⟨w.heap.size, 2, none⟩ (.slice ao2 bs.length cap2)).heap.size = w5.heap.size := by simp [World.setCell]
  have hrest : (((w5.setCell ⟨w.heap.size, 0, none⟩ (.int .i64 a)).setCell ⟨w.heap.size, 1, none⟩ (.int .i64 b)).setCell ⟨w.heap.size, 2, none⟩ (.slice ao2 bs.length cap2)).os = w5.os ∧ (((w5.setCell ⟨w.heap.size, 0, none⟩ (.int .i64 a)).setCell ⟨w.heap.size, 1, none⟩ (.int .i64 b)).setCell ⟨w.heap.size, 2, none⟩ (.slice ao2 bs.length cap2)).tape = w5.tape ∧ (((w5.setCell ⟨w.heap.size, 0, none⟩ (.int .i64 a)).setCell ⟨w.heap.size, 1, none⟩ (.int .i64 b)).setCell ⟨w.heap.size, 2, none⟩ (.slice ao2 bs.length cap2)).output = w5.output := ⟨rfl, rfl, rfl⟩
  generalize ((w5.setCell ⟨w.heap.size, 0, none⟩ (.int .i64 a)).setCell ⟨w.heap.size, 1, none⟩ (.int .i64 b)).setCell ⟨w.heap.size, 2, none⟩ (.slice ao2 bs.length cap2) = Z at *
  have h5 : ∀ cs fr, w5.heap[w.heap.size]? ≠ some (Obj.cells cs 5 fr) := fun cs fr e => by rw [HR5.out] at e; cases e
  have n5 : row' ≠ some w.heap.size := fun e => by
    rcases HQ5.out with r | ⟨g, r, hg⟩
    · exact n3 (by rw [← r, e])
    · rw [r] at e; cases e; have := HS4.out; omega
  refine bodyPost_ret (v := .tuple #[.agg #[.int .i64 a, .int .i64 b, .slice ao2 bs.length cap2], .int .i64 k]) (by simp [results, Try.results12, go_sem, r0, r1, r2]) rfl ⟨_, rfl, (HBT4.out.keep HK5.out).keep (keepB_of w.heap.size w.heap.size (fun x hx _ => hh x hx) h5 h5), row', HA5.out.other hh n1 n2 n5 h5, ⟨?_, ?_, ?_⟩, ?_⟩
  · rw [hsz]; exact Nat.le_trans HB4.out.size HT5.out.size
  · intro j hj h1 h2 h3
    exact (hh j (by omega)).trans ((HT5.out.same j (by have := HB4.out.size; omega) h1 h2 h3).trans (HB4.out.block j hj))
  · exact ⟨hrest.1.trans (HT5.out.rest.1.trans HB4.out.os), hrest.2.1.trans (HT5.out.rest.2.1.trans HB4.out.tape), hrest.2.2.trans (HT5.out.rest.2.2.trans HB4.out.output)⟩
  · rcases HQ5.out with r | ⟨g, r, hg⟩
    · exact .inl r
    · exact .inr ⟨g, r, by have := HB4.out.size; omega⟩

theorem take_none_o (N mb : Nat) (i : Int) (row : Option Nat) (es : List Pl.Ent) (T : Pl.Off) (w : World) (h : NetAt w N row mb es T) (hi : i < 0 ∨ (es.length : Int) ≤ i) :
    Calls Try.prog 12 #[.pointer (some ⟨N, 0, none⟩), .int .i64 i] w fun e w' => ∃ v', e = .returned (.tuple #[.agg #[.int .i64 0, .int .i64 0, v'], .int .i64 8]) ∧ OwnB w.heap.size w' v' [] ∧ Step w w' N row mb es T := by
  refine take_gen_o N mb i 0 0 8 row es es T [] w h ?_ (fun W A => ?_)
  · refine (copy_none N mb i row es T _ (h.below ((Below.refl _ _).alloc (Nat.le_refl _) _)) hi).mono ?_
    rintro e w' ⟨rfl, hb⟩
    exact ⟨_, rfl, own_nil _ _, hb.mono (by simp)⟩
  · refine (drop_none N mb i row es T W A hi).mono ?_
    rintro e w' ⟨rfl, rfl⟩
    exact ⟨⟨8, rfl⟩, Step.of_below A (Below.refl _ _)⟩

theorem take_down_o (N mb i : Nat) (row : Option Nat) (es : List Pl.Ent) (T : Pl.Off) (w : World) (h : NetAt w N row mb es T) (hi : i < es.length) (hn : es.length ≤ 64) (hp : Pl.parted T (es[i]).frm (es[i]).to = true) :
    Calls Try.prog 12 #[.pointer (some ⟨N, 0, none⟩), .int .i64 i] w fun e w' => ∃ v', e = .returned (.tuple #[.agg #[.int .i64 0, .int .i64 0, v'], .int .i64 10]) ∧ OwnB w.heap.size w' v' [] ∧ Step w w' N row mb (es.take i ++ es.drop (i + 1)) T := by
  refine take_gen_o N mb i 0 0 10 row es _ T [] w h ?_ (fun W A => ?_)
  · refine (copy_down N mb i row es T _ (h.below ((Below.refl _ _).alloc (Nat.le_refl _) _)) hi hp).mono ?_
    rintro e w' ⟨rfl, hb⟩
    exact ⟨_, rfl, own_nil _ _, hb.mono (by simp)⟩
  · refine (drop_ok N mb i row es T W A hi hn).mono ?_
    rintro e w' ⟨rfl, g, A', t, hg⟩
    exact ⟨⟨0, rfl⟩, some g, A', t, .inr ⟨g, rfl, hg⟩⟩

theorem take_ok_o (N mb i : Nat) (row : Option Nat) (es : List Pl.Ent) (T : Pl.Off) (w : World) (h : NetAt w N row mb es T) (hi : i < es.length) (hn : es.length ≤ 64) (hp : Pl.parted T (es[i]).frm (es[i]).to = false) (hl : (es[i]).bs.length ≤ 1000000) :
    Calls Try.prog 12 #[.pointer (some ⟨N, 0, none⟩), .int .i64 i] w fun e w' => ∃ v', e = .returned (.tuple #[.agg #[.int .i64 (es[i]).frm, .int .i64 (es[i]).to, v'], .int .i64 0]) ∧ OwnB w.heap.size w' v' (es[i]).bs ∧ Step w w' N row mb (es.take i ++ es.drop (i + 1)) T := by
  refine take_gen_o N mb i _ _ 0 row es _ T _ w h ?_ (fun W A => ?_)
  · refine (copy_ok_o N mb i row es T _ (h.below ((Below.refl _ _).alloc (Nat.le_refl _) _)) hi hp hl).mono ?_
    rintro e w' ⟨v', rfl, hbt, hb⟩
    exact ⟨_, rfl, hbt.mono (by simp), hb.mono (by simp)⟩
  · refine (drop_ok N mb i row es T W A hi hn).mono ?_
    rintro e w' ⟨rfl, g, A', t, hg⟩
    exact ⟨⟨0, rfl⟩, some g, A', t, .inr ⟨g, rfl, hg⟩⟩

end Go.Proofs.Ytjoikochpkfoaaa
