/- The document's net: Copy. -/
import Derived.Test.YtjoikochpkfoaaaNetV
namespace Go.Proofs.Ytjoikochpkfoaaa
open Go.RowKit
set_option linter.unusedVariables false

theorem RefAt.pk {w : World} {M i : Nat} {row : Option Nat} {es : List Pl.Ent} {T : Pl.Off} (h : RefAt w M row es T) (hi : i < es.length) :
    ∃ g cap, w.cell? ⟨M, 0, none⟩ = some (.slice (some ⟨g, 0, none⟩) es.length cap) ∧ g < w.heap.size ∧ w.cell? ⟨g, i * 3, none⟩ = some (.int .i64 (es[i]).frm) ∧ w.cell? ⟨g, i * 3 + 1, none⟩ = some (.int .i64 (es[i]).to) ∧ w.cell? ⟨g, i * 3 + 2, none⟩ = some (es[i]).bv := by
  obtain ⟨v, off, hr, ho, hv, _⟩ := h.obj
  have c0 := hr.cell (i := 0) (by decide)
  simp only [if_true] at c0
  rcases ho.2 with ⟨rfl, h0⟩ | ⟨g, cap, cur, rfl, hbg, hg, hc, hm, hs, ht⟩
  · omega
  have key : ∀ m, m < 3 → ∀ u, (es[i]).cells[m]? = some u → w.cell? ⟨g, i * 3 + m, none⟩ = some u := fun m hm u hu => by
    have h1 := Pl.rows_get es i m hi hm
    have h2 : (Pl.rows es)[i * 3 + m]? = cur.toList[i * 3 + m]? := by rw [← ht, List.getElem?_take, if_pos (by omega)]
    have h4 := World.news_of_block hg (i * 3 + m) u (by rw [← h2, h1, hu])
    rw [Go.WideShapes.add_plain, Nat.zero_add] at h4
    exact h4
  exact ⟨g, cap, c0, (Array.getElem?_eq_some_iff.1 hg).1, key 0 (by decide) _ rfl, key 1 (by decide) _ rfl, key 2 (by decide) _ rfl⟩

theorem RefAt.ends {w : World} {M i : Nat} {row : Option Nat} {es : List Pl.Ent} {T : Pl.Off} (h : RefAt w M row es T) (hi : i < es.length) :
    ∃ a b : Nat, (es[i]).frm = a ∧ (es[i]).to = b ∧ a < 8 ∧ b < 8 ∧ w.cell? ⟨M, 1 + a * 8 + b, none⟩ = some (.bool (Pl.parted T (es[i]).frm (es[i]).to)) := by
  have h0 := h.pairs _ (List.getElem_mem hi)
  have hp := h0
  rw [pair_eq] at h0
  simp only [Bool.and_eq_true, decide_eq_true_eq, bne_iff_ne] at h0
  obtain ⟨a0, a8, b0, b8, hne⟩ := h0
  obtain ⟨a, ha⟩ := Int.eq_ofNat_of_zero_le a0
  obtain ⟨b, hb⟩ := Int.eq_ofNat_of_zero_le b0
  refine ⟨a, b, ha, hb, by omega, by omega, ?_⟩
  unfold Pl.parted
  rw [hp, Bool.true_and, ha, hb]
  exact h.sq a b (by omega) (by omega) (by omega)

theorem rcopy_none (M : Nat) (i : Int) (row : Option Nat) (es : List Pl.Ent) (T : Pl.Off) (w : World) (h : RefAt w M row es T) (hi : i < 0 ∨ (es.length : Int) ≤ i) :
    Calls Try.prog 29 #[.pointer (some ⟨M, 0, none⟩), .int .i64 i] w fun e w' => e = .returned (.tuple #[.agg #[.int .i64 0, .int .i64 0, .slice none 0 0], .int .i64 8]) ∧ Below w.heap.size w w' := by
  obtain ⟨ao, cap, c0⟩ := h.cell0
  have hM := h.lt
  have hB : Below w.heap.size w (w.alloc (.cells #[.int .i64 0, .int .i64 0, .slice none 0 0] 41)) := (Below.refl _ _).alloc (Nat.le_refl _) _
  clear h
  by_cases h0 : i < 0
  · have d0 := decide_eq_true h0
    clear hi
    go_enter Try.func29, Try.ntmps29
    go_wp2_with fail
    exact bodyPost_ret (v := .tuple #[.agg #[.int .i64 0, .int .i64 0, .slice none 0 0], .int .i64 8]) (by simp [results, Try.results29, go_sem]) rfl ⟨rfl, hB⟩
  · have d0 := decide_eq_false h0
    have h1 : (es.length : Int) ≤ i := by omega
    clear hi
    go_enter Try.func29, Try.ntmps29
    go_wp2_with fail
    exact bodyPost_ret (v := .tuple #[.agg #[.int .i64 0, .int .i64 0, .slice none 0 0], .int .i64 8]) (by simp [results, Try.results29, go_sem]) rfl ⟨rfl, hB⟩

theorem rcopy_down (M i : Nat) (row : Option Nat) (es : List Pl.Ent) (T : Pl.Off) (w : World) (h : RefAt w M row es T) (hi : i < es.length) (hp : Pl.parted T (es[i]).frm (es[i]).to = true) :
    Calls Try.prog 29 #[.pointer (some ⟨M, 0, none⟩), .int .i64 i] w fun e w' => e = .returned (.tuple #[.agg #[.int .i64 0, .int .i64 0, .slice none 0 0], .int .i64 10]) ∧ Below w.heap.size w w' := by
  obtain ⟨g, cap, c0, hg, y0, y1, y2⟩ := h.pk hi
  obtain ⟨a, b, ha, hb, a8, b8, hq⟩ := h.ends hi
  obtain ⟨bao, bcap, hbv, -⟩ := h.bodies es[i] (List.getElem_mem hi)
  have hM := h.lt
  rw [hbv] at y2
  rw [hp] at hq
  rw [ha] at y0
  rw [hb] at y1
  have hB : ∀ v0 v1 v2, Below w.heap.size w ((w.alloc (.cells #[.int .i64 0, .int .i64 0, .slice none 0 0] 41)).alloc (.cells #[v0, v1, v2] 41)) := fun v0 v1 v2 => ((Below.refl _ _).alloc (Nat.le_refl _) _).alloc (by simp) _
  have h0 : ¬ ((i : Int) < 0) := by omega
  have d0 := decide_eq_false h0
  have h1 : ¬ ((es.length : Int) ≤ i) := by omega
  have d1 := decide_eq_false h1
  clear h hp ha hb hbv
  generalize (es[i]).bs = bs at *
  have HB := Lib.hid hB
  clear hB
  go_enter Try.func29, Try.ntmps29
  go_wp2_with fail
  go_region
  all_goals go_wp2_with fail
  all_goals exact bodyPost_ret (v := .tuple #[.agg #[.int .i64 0, .int .i64 0, .slice none 0 0], .int .i64 10]) (by simp [results, Try.results29, go_sem]) rfl ⟨rfl, (HB.out _ _ _).drew⟩

theorem u8s_one (bs : List Int) : ∀ u ∈ Pl.u8s bs, u.oneCell' = true := fun u hu => by
  unfold Pl.u8s at hu
  obtain ⟨b, _, rfl⟩ := List.mem_map.1 hu
  rfl
theorem u8s_len (bs : List Int) : (Pl.u8s bs).length = bs.length * 1 := by unfold Pl.u8s; simp
theorem BytesC.news {w : World} {ao : Option Addr} {cap : Nat} {bs : List Int} (h : BytesC w (.slice ao bs.length cap) bs) : ∀ ad, ao = some ad → ∀ j u, (Pl.u8s bs)[j]? = some u → w.cell? (ad.add j) = some u := fun ad had j u hj => by
  obtain ⟨ao', cap', hv, _, hcb⟩ := h
  cases hv
  unfold Pl.u8s at hj
  rw [List.getElem?_map] at hj
  have hjl : j < bs.length := by
    rcases Nat.lt_or_ge j bs.length with h' | h'
    · exact h'
    · rw [List.getElem?_eq_none h'] at hj; cases hj
  rw [List.getElem?_eq_getElem hjl] at hj
  obtain ⟨g, off, h1, h2, h3⟩ := hcb j hjl
  rw [had] at h1
  cases h1
  rw [Go.WideShapes.add_plain]
  cases hj
  exact h3
theorem BytesC.none {w : World} {ao : Option Addr} {cap : Nat} {bs : List Int} (h : BytesC w (.slice ao bs.length cap) bs) : ao = none → bs.length = 0 ∧ cap = 0 := fun ha => by
  obtain ⟨ao', cap', hv, hn, _⟩ := h
  cases hv
  obtain ⟨h1, h2⟩ := hn ha
  exact ⟨by rw [h1]; rfl, h2⟩
theorem own_empty (w : World) : (w.alloc (.cells #[] 5)).ownsRow w.heap.size 5 1 (.slice (some ⟨w.heap.size, 0, none⟩) 0 0) 0 [] :=
  ⟨rfl, .inr ⟨w.heap.size, 0, #[], rfl, Nat.le_refl _, heap_alloc_new w _, Nat.le_refl _, by decide, rfl, rfl⟩⟩
/-- A copy behind an empty slice of the call's own. -/
theorem own_copied {w w1 : World} {v1 : Value} {bs : List Int} (h : w1.ownsRow w.heap.size 5 1 v1 (0 + bs.length) ([] ++ Pl.u8s bs)) (hg : (w.alloc (.cells #[] 5)).grownBy w1 (Value.slice (some ⟨w.heap.size, 0, none⟩) 0 0).ownBlock) : OwnB w.heap.size w1 v1 bs ∧ Below w.heap.size w w1 :=
  ⟨by rw [Nat.zero_add, List.nil_append] at h; exact h, ((Below.refl w.heap.size w).alloc (Nat.le_refl _) _).grown hg (by simp) (fun j hj => ((own_empty w).lt j hj).1)⟩

theorem rcopy_ok (M i : Nat) (row : Option Nat) (es : List Pl.Ent) (T : Pl.Off) (w : World) (h : RefAt w M row es T) (hi : i < es.length) (hp : Pl.parted T (es[i]).frm (es[i]).to = false) (hn : (es[i]).bs.length ≤ 1000000) :
    Calls Try.prog 29 #[.pointer (some ⟨M, 0, none⟩), .int .i64 i] w fun e w' => ∃ v', e = .returned (.tuple #[.agg #[.int .i64 (es[i]).frm, .int .i64 (es[i]).to, v'], .int .i64 0]) ∧ BytesT w' v' (es[i]).bs ∧ Below w.heap.size w w' := by
  obtain ⟨i5, hi5, hz50, hz51, hz52⟩ := info_parts info5
  obtain ⟨g, cap, c0, hg, y0, y1, y2⟩ := h.pk hi
  obtain ⟨a, b, ha, hb, a8, b8, hq⟩ := h.ends hi
  have hbt := (h.bodies es[i] (List.getElem_mem hi)).toC
  obtain ⟨bao, bcap, hbv, -⟩ := id hbt
  have hM := h.lt
  rw [hbv] at y2 hbt
  rw [hp] at hq
  rw [ha] at y0
  rw [hb] at y1
  rw [ha, hb]
  have h0 : ¬ ((i : Int) < 0) := by omega
  have d0 := decide_eq_false h0
  have h1 : ¬ ((es.length : Int) ≤ i) := by omega
  have d1 := decide_eq_false h1
  clear h hp ha hb hbv
  generalize (es[i]).bs = bs at *
  have hB : Below w.heap.size w (((w.alloc (.cells #[.int .i64 0, .int .i64 0, .slice none 0 0] 41)).alloc (.cells #[.int .i64 a, .int .i64 b, .slice bao bs.length bcap] 41)).drew) := (((Below.refl _ _).alloc (Nat.le_refl _) _).alloc (by simp) _).drew
  have hX0 : (((w.alloc (.cells #[.int .i64 0, .int .i64 0, .slice none 0 0] 41)).alloc (.cells #[.int .i64 a, .int .i64 b, .slice bao bs.length bcap] 41)).drew).heap[w.heap.size]? = some (.cells #[.int .i64 0, .int .i64 0, .slice none 0 0] 41 (0, 0)) := (Below.heap_alloc _ _ _ (by simp)).trans (heap_alloc_new w _)
  have hX1 : (((w.alloc (.cells #[.int .i64 0, .int .i64 0, .slice none 0 0] 41)).alloc (.cells #[.int .i64 a, .int .i64 b, .slice bao bs.length bcap] 41)).drew).heap[w.heap.size + 1]? = some (.cells #[.int .i64 a, .int .i64 b, .slice bao bs.length bcap] 41 (0, 0)) := by
    have := heap_alloc_new (w.alloc (.cells #[.int .i64 0, .int .i64 0, .slice none 0 0] 41)) (.cells #[.int .i64 a, .int .i64 b, .slice bao bs.length bcap] 41)
    rw [show (w.alloc (.cells #[.int .i64 0, .int .i64 0, .slice none 0 0] 41)).heap.size = w.heap.size + 1 from by simp] at this
    exact this
  have hbt2 := hbt.below hB
  have HB := Lib.hid hB
  have HX0 := Lib.hid hX0
  have HX1 := Lib.hid hX1
  have HBT := Lib.hid hbt2
  clear hB hX0 hX1 hbt hbt2
  go_enter Try.func29, Try.ntmps29
  go_wp2_with fail
  go_region
  generalize (((w.alloc (.cells #[.int .i64 0, .int .i64 0, .slice none 0 0] 41)).alloc (.cells #[.int .i64 a, .int .i64 b, .slice bao bs.length bcap] 41)).drew) = W at *
  clear c0 y0 y1 y2 hq hi h0 h1 d0 d1
  have x1 : ∀ j u, (#[.int .i64 a, .int .i64 b, .slice bao bs.length bcap] : Array Value)[j]? = some u → W.cell? ⟨w.heap.size + 1, j, none⟩ = some u := fun j u hj => by simp only [World.cell?, HX1.out]; simpa using hj
  have y2 := x1 2 _ rfl
  have hs := (Array.getElem?_eq_some_iff.1 HX1.out).1
  have HNN := Lib.hid HBT.out.none
  have HN := Lib.hid ((HBT.out.below ((Below.refl W.heap.size W).alloc (Nat.le_refl _) (.cells #[] 5))).news)
  have H1 := Lib.hid (u8s_one bs)
  have HL := Lib.hid (u8s_len bs)
  have HO := Lib.hid (own_empty W)
  have y2' : (W.alloc (.cells #[] 5)).cell? ⟨w.heap.size + 1, 2, none⟩ = some (.slice bao bs.length bcap) := (World.cell?_alloc_lt _ _ _ hs).trans y2
  clear x1
  go_wp2_with (at_builtin; refine wpList_append_src _ rfl (.tmp 37) (.tmp 39) 26 rfl W.heap.size 5 i5 (.int .u8 0) 1 1 Try.underlying26 hi5 hz50 hz51 hz52 rfl (by decide) (.slice (some ⟨W.heap.size, 0, none⟩) 0 0) 0 [] rfl HO.out bao bs.length bcap (Pl.u8s bs) rfl HL.out HNN.out HN.out H1.out (by unfold maxLen; omega) (by omega) (by simp) ?_; intro v1 w1 hown1 hgrow1; obtain ⟨o1, b1⟩ := own_copied (w := W) hown1 hgrow1; obtain ⟨ao1, cap1, hv1, -⟩ := o1.toT; subst hv1; have HO1 := Lib.hid o1; have HB1 := Lib.hid (HB.out.trans (b1.mono HB.out.size)); have X0 := Lib.hid ((b1.block _ (by omega)).trans HX0.out); have X1 := Lib.hid ((b1.block _ hs).trans HX1.out); clear hown1 hgrow1 o1 b1 HO HN HNN y2 y2'; have x0 : ∀ j u, (#[.int .i64 0, .int .i64 0, .slice none 0 0] : Array Value)[j]? = some u → w1.cell? ⟨w.heap.size, j, none⟩ = some u := fun j u hj => (by simp only [World.cell?, X0.out]; simpa using hj); have x1 : ∀ j u, (#[.int .i64 a, .int .i64 b, .slice bao bs.length bcap] : Array Value)[j]? = some u → w1.cell? ⟨w.heap.size + 1, j, none⟩ = some u := fun j u hj => (by simp only [World.cell?, X1.out]; simpa using hj); have f0 : ∀ j, w1.frozen? ⟨w.heap.size, j, none⟩ = false := fun j => (by simp [World.frozen?, X0.out]); have f1 : ∀ j, w1.frozen? ⟨w.heap.size + 1, j, none⟩ = false := fun j => (by simp [World.frozen?, X1.out]); have p0 := x0 0 _ rfl; have p1 := x0 1 _ rfl; have p2 := x0 2 _ rfl; have r0 := x1 0 _ rfl; have r1 := x1 1 _ rfl; have r2 := x1 2 _ rfl; have g0 := f0 0; have g1 := f0 1; have g2 := f0 2; have k2 := f1 2; clear x0 x1 f0 f1)
  have hB : Below w.heap.size w ((((w1.setCell ⟨w.heap.size + 1, 2, none⟩ (.slice ao1 bs.length cap1)).setCell ⟨w.heap.size, 0, none⟩ (.int .i64 a)).setCell ⟨w.heap.size, 1, none⟩ (.int .i64 b)).setCell ⟨w.heap.size, 2, none⟩ (.slice ao1 bs.length cap1)) :=
    (((HB1.out.setCell (p := ⟨w.heap.size + 1, 2, none⟩) (Nat.le_succ _) _).setCell (p := ⟨w.heap.size, 0, none⟩) (Nat.le_refl _) _).setCell (p := ⟨w.heap.size, 1, none⟩) (Nat.le_refl _) _).setCell (p := ⟨w.heap.size, 2, none⟩) (Nat.le_refl _) _
  have hK : KeepB w1 ((((w1.setCell ⟨w.heap.size + 1, 2, none⟩ (.slice ao1 bs.length cap1)).setCell ⟨w.heap.size, 0, none⟩ (.int .i64 a)).setCell ⟨w.heap.size, 1, none⟩ (.int .i64 b)).setCell ⟨w.heap.size, 2, none⟩ (.slice ao1 bs.length cap1)) :=
    keepB_of w.heap.size (w.heap.size + 1) (fun g h1 h2 => by
      rw [Below.heap_setCell _ _ _ _ h1, Below.heap_setCell _ _ _ _ h1, Below.heap_setCell _ _ _ _ h1, Below.heap_setCell _ _ _ _ h2]) (fun cs fr e => by rw [X0.out] at e; cases e) (fun cs fr e => by rw [X1.out] at e; cases e)
  have e0 : ((((w1.setCell ⟨w.heap.size + 1, 2, none⟩ (.slice ao1 bs.length cap1)).setCell ⟨w.heap.size, 0, none⟩ (.int .i64 a)).setCell ⟨w.heap.size, 1, none⟩ (.int .i64 b)).setCell ⟨w.heap.size, 2, none⟩ (.slice ao1 bs.length cap1)).cell? ⟨w.heap.size, 0, none⟩ = some (.int .i64 a) := by
    rw [World.cell?_setCell_other _ _ _ _ (by simp), World.cell?_setCell_other _ _ _ _ (by simp)]
    exact World.cell?_setCell_same _ _ _ (by rw [World.cell?_setCell_other _ _ _ _ (by simp)]; exact p0)
  have e1 : ((((w1.setCell ⟨w.heap.size + 1, 2, none⟩ (.slice ao1 bs.length cap1)).setCell ⟨w.heap.size, 0, none⟩ (.int .i64 a)).setCell ⟨w.heap.size, 1, none⟩ (.int .i64 b)).setCell ⟨w.heap.size, 2, none⟩ (.slice ao1 bs.length cap1)).cell? ⟨w.heap.size, 1, none⟩ = some (.int .i64 b) := by
    rw [World.cell?_setCell_other _ _ _ _ (by simp)]
    exact World.cell?_setCell_same _ _ _ (by rw [World.cell?_setCell_other _ _ _ _ (by simp), World.cell?_setCell_other _ _ _ _ (by simp)]; exact p1)
  have e2 : ((((w1.setCell ⟨w.heap.size + 1, 2, none⟩ (.slice ao1 bs.length cap1)).setCell ⟨w.heap.size, 0, none⟩ (.int .i64 a)).setCell ⟨w.heap.size, 1, none⟩ (.int .i64 b)).setCell ⟨w.heap.size, 2, none⟩ (.slice ao1 bs.length cap1)).cell? ⟨w.heap.size, 2, none⟩ = some (.slice ao1 bs.length cap1) :=
    World.cell?_setCell_same _ _ _ (by rw [World.cell?_setCell_other _ _ _ _ (by simp), World.cell?_setCell_other _ _ _ _ (by simp), World.cell?_setCell_other _ _ _ _ (by simp)]; exact p2)
  generalize ((((w1.setCell ⟨w.heap.size + 1, 2, none⟩ (.slice ao1 bs.length cap1)).setCell ⟨w.heap.size, 0, none⟩ (.int .i64 a)).setCell ⟨w.heap.size, 1, none⟩ (.int .i64 b)).setCell ⟨w.heap.size, 2, none⟩ (.slice ao1 bs.length cap1)) = Z at *
  exact bodyPost_ret (v := .tuple #[.agg #[.int .i64 a, .int .i64 b, .slice ao1 bs.length cap1], .int .i64 0]) (by simp [results, Try.results29, go_sem, e0, e1, e2]) rfl ⟨_, rfl, HO1.out.toT.keep hK, hB⟩
end Go.Proofs.Ytjoikochpkfoaaa
