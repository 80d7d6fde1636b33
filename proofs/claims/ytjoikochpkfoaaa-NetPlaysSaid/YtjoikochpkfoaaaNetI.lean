/- Copy's callback. -/
import Derived.Test.YtjoikochpkfoaaaNetH
namespace Go.Proofs.Ytjoikochpkfoaaa
open Go.RowKit
set_option linter.unusedVariables false

theorem NetAt.pk {w : World} {N mb i : Nat} {row : Option Nat} {es : List Pl.Ent} {T : Pl.Off} (h : NetAt w N row mb es T) (hi : i < es.length) :
    ∃ g cap, w.cell? ⟨N, 0, none⟩ = some (.slice (some ⟨g, 0, none⟩) es.length cap) ∧ g < w.heap.size ∧ w.cell? ⟨g, i * 3, none⟩ = some (.int .i64 (es[i]).frm) ∧ w.cell? ⟨g, i * 3 + 1, none⟩ = some (.int .i64 (es[i]).to) ∧ w.cell? ⟨g, i * 3 + 2, none⟩ = some (es[i]).bv := by
  obtain ⟨v, hr, ho, hv⟩ := h.obj
  have c0 := hr.cell (i := 0) (by decide)
  simp only [if_true] at c0
  rcases ho.2 with ⟨rfl, h0⟩ | ⟨g, cap, cur, rfl, hbg, hg, hc, hm, hs, ht⟩
  · omega
  have key : ∀ m, m < 3 → ∀ u, (es[i]).cells[m]? = some u → w.cell? ⟨g, i * 3 + m, none⟩ = some u := fun m hm u hu => by
    have h1 := Pl.rows_get es i m hi hm
    have h2 : (Pl.rows es)[i * 3 + m]? = cur.toList[i * 3 + m]? := by rw [← ht, List.getElem?_take, if_pos (by omega)]
    have h4 := World.news_of_block hg (i * 3 + m) u (by rw [← h2, h1, hu])
    rw [Go.WideShapes.add_plain, Nat.zero_add] at h4
    exact h4
  exact ⟨g, cap, c0, (Array.getElem?_eq_some_iff.1 hg).1, key 0 (by decide) _ rfl, key 1 (by decide) _ rfl, key 2 (by decide) _ rfl⟩

theorem cp_down (N mb i c R : Nat) (row : Option Nat) (es : List Pl.Ent) (T : Pl.Off) (w : World) (h : NetAt w N row mb es T) (hi : i < es.length) (hc : c < w.heap.size) (cc : w.cell? ⟨c, 0, none⟩ = some (.pointer (some ⟨N, 0, none⟩))) (hp : Pl.parted T (es[i]).frm (es[i]).to = true) :
    Calls Try.prog 25 #[.int .i64 i, .pointer (some ⟨c, 0, none⟩), .pointer (some ⟨R, 0, none⟩)] w fun e w' => e = .returned (.int .i64 10) ∧ Below w.heap.size w w' := by
  obtain ⟨g, cap, c0, hg, y0, y1, y2⟩ := h.pk hi
  obtain ⟨bao, bcap, hbv, _⟩ := h.bodies es[i] (List.getElem_mem hi)
  have HH := Lib.hid h
  have HP := Lib.hid hp
  have a0 : (i : Int) < es.length := by omega
  rw [hbv] at y2
  clear h hp
  generalize hfr : (es[i]).frm = fr at *
  generalize hto : (es[i]).to = to at *
  generalize hbs : (es[i]).bs = bs at *
  clear hbv hfr hto hbs
  have b1 : Below w.heap.size w (w.alloc (.cells #[.int .i64 fr, .int .i64 to, .slice bao bs.length bcap] 31)) := (Below.refl _ _).alloc (Nat.le_refl _) _
  have HC := Lib.hid (parted_any N mb row es T fr to _ (HH.out.below b1))
  have HB := Lib.hid b1
  clear b1
  go_enter Try.func25, Try.ntmps25
  go_wp2_with fail
  refine HC.out.mono ?_
  rintro e w1 ⟨rfl, b2⟩
  rw [HP.out]
  have HB2 := Lib.hid (HB.out.trans (b2.mono HB.out.size))
  clear HC HB b2 y0 y1 y2 c0 cc
  go_wp2_with fail
  go_ret
  exact ⟨rfl, HB2.out⟩

theorem cp_ok (N mb i c R : Nat) (row : Option Nat) (es : List Pl.Ent) (T : Pl.Off) (u0 u1 u2 : Value) (w : World) (h : NetAt w N row mb es T) (hi : i < es.length) (hc : c < w.heap.size) (cc : w.cell? ⟨c, 0, none⟩ = some (.pointer (some ⟨N, 0, none⟩))) (hR : w.heap[R]? = some (.cells #[u0, u1, u2] 31 (0, 0)))
    (hp : Pl.parted T (es[i]).frm (es[i]).to = false) (hn : (es[i]).bs.length ≤ 1000000) :
    Calls Try.prog 25 #[.int .i64 i, .pointer (some ⟨c, 0, none⟩), .pointer (some ⟨R, 0, none⟩)] w fun e w' => e = .returned (.int .i64 0) ∧ Below R w w' ∧ ∃ v', BytesT w' v' (es[i]).bs ∧ w'.cell? ⟨R, 0, none⟩ = some (.int .i64 (es[i]).frm) ∧ w'.cell? ⟨R, 1, none⟩ = some (.int .i64 (es[i]).to) ∧ w'.cell? ⟨R, 2, none⟩ = some v' ∧ ∃ f, w'.rowIs R 31 3 f := by
  obtain ⟨g, cap, c0, hg, y0, y1, y2⟩ := h.pk hi
  have hbt := h.bodies es[i] (List.getElem_mem hi)
  obtain ⟨bao, bcap, hbv, _⟩ := id hbt
  have HH := Lib.hid h
  have HP := Lib.hid hp
  have a0 : (i : Int) < es.length := by omega
  rw [hbv] at y2 hbt
  clear h hp
  generalize hfr : (es[i]).frm = fr at *
  generalize hto : (es[i]).to = to at *
  generalize hbs : (es[i]).bs = bs at *
  clear hbv hfr hto hbs
  have hRlt : R < w.heap.size := (Array.getElem?_eq_some_iff.1 hR).1
  have b1 : Below w.heap.size w (w.alloc (.cells #[.int .i64 fr, .int .i64 to, .slice bao bs.length bcap] 31)) := (Below.refl _ _).alloc (Nat.le_refl _) _
  have x0 : ∀ j u, (#[.int .i64 fr, .int .i64 to, .slice bao bs.length bcap] : Array Value)[j]? = some u → (w.alloc (.cells #[.int .i64 fr, .int .i64 to, .slice bao bs.length bcap] 31)).cell? ⟨w.heap.size, j, none⟩ = some u := fun j u hj => by
    rw [World.cell?_alloc_at _ _ _ _ rfl]; simpa using hj
  have hls : w.heap.size < (w.alloc (.cells #[.int .i64 fr, .int .i64 to, .slice bao bs.length bcap] 31)).heap.size := by simp
  have HX := Lib.hid x0
  have HLS := Lib.hid hls
  have HC := Lib.hid (parted_any N mb row es T fr to _ (HH.out.below b1))
  have HB := Lib.hid b1
  have HBT := Lib.hid hbt
  have HR := Lib.hid hR
  clear b1 hbt hR x0 hls
  go_enter Try.func25, Try.ntmps25
  go_wp2_with fail
  refine HC.out.mono ?_
  rintro e w1 ⟨rfl, b2⟩
  rw [HP.out]
  have z0 := (b2.cell (p := ⟨w.heap.size, 0, none⟩) HLS.out).trans (HX.out 0 _ rfl)
  have z1 := (b2.cell (p := ⟨w.heap.size, 1, none⟩) HLS.out).trans (HX.out 1 _ rfl)
  have z2 := (b2.cell (p := ⟨w.heap.size, 2, none⟩) HLS.out).trans (HX.out 2 _ rfl)
  have HB2 := Lib.hid (HB.out.trans (b2.mono HB.out.size))
  have HO := Lib.hid (own_any fr to (.slice bao bs.length bcap) bs w1 ((HBT.out.below HB2.out).toC) hn)
  clear HC HB b2 y0 y1 y2 c0 cc HX HLS
  go_wp2_with fail
  refine HO.out.mono ?_
  rintro e w2 ⟨v2, rfl, B2, b3⟩
  obtain ⟨ao2, cap2, hv2, _⟩ := id B2
  subst hv2
  have b4 := HB2.out.trans (b3.mono HB2.out.size)
  have hR2 := (b4.block R hRlt).trans HR.out
  have q : ∀ j u, (#[u0, u1, u2] : Array Value)[j]? = some u → w2.cell? ⟨R, j, none⟩ = some u := fun j u hj => by simp only [World.cell?, hR2]; simpa using hj
  have q0 := q 0 _ rfl
  have q1 := q 1 _ rfl
  have q2 := q 2 _ rfl
  have fz : ∀ j, w2.frozen? ⟨R, j, none⟩ = false := fun j => by simp [World.frozen?, hR2]
  have f0 := fz 0
  have f1 := fz 1
  have f2 := fz 2
  have HB4 := Lib.hid b4
  have HBT2 := Lib.hid B2
  have HRI := Lib.hid (rowIs_of_block hR2 rfl)
  have HR2 := Lib.hid hR2
  clear q fz hR2 b4 b3 B2 HO HB2 HBT z0 z1 z2
  go_wp2_with fail
  go_ret
  refine ⟨rfl, ?_, .slice ao2 bs.length cap2, HBT2.out.keep ?_, ?_, ?_, ?_, ?_⟩
  · have hb : Below R w w2 := HB4.out.mono (by omega)
    exact ((hb.setCell (p := ⟨R, 0, none⟩) (Nat.le_refl _) _).setCell (p := ⟨R, 1, none⟩) (Nat.le_refl _) _).setCell (p := ⟨R, 2, none⟩) (Nat.le_refl _) _
  · refine keepB_of R R (fun x h1 h2 => ?_) (fun cs fr e => by rw [HR2.out] at e; cases e) (fun cs fr e => by rw [HR2.out] at e; cases e)
    rw [Below.heap_setCell _ _ _ _ h1, Below.heap_setCell _ _ _ _ h1, Below.heap_setCell _ _ _ _ h1]
  · rw [World.cell?_setCell_other _ _ _ _ (by simp), World.cell?_setCell_other _ _ _ _ (by simp)]
    exact World.cell?_setCell_same _ _ _ q0
  · rw [World.cell?_setCell_other _ _ _ _ (by simp)]
    exact World.cell?_setCell_same _ _ _ (by rw [World.cell?_setCell_other _ _ _ _ (by simp)]; exact q1)
  · exact World.cell?_setCell_same _ _ _ (by rw [World.cell?_setCell_other _ _ _ _ (by simp), World.cell?_setCell_other _ _ _ _ (by simp)]; exact q2)
  · exact ⟨_, ((HRI.out.set 0 _).set 1 _).set 2 _⟩
end Go.Proofs.Ytjoikochpkfoaaa
