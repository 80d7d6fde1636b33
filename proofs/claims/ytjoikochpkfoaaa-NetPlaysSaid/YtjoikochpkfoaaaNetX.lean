/- The document's net: Drop. -/
import Derived.Test.YtjoikochpkfoaaaNetW
namespace Go.Proofs.Ytjoikochpkfoaaa
open Go.RowKit
set_option linter.unusedVariables false

/-- What a step leaves of the document's net. -/
def StepR (w w' : World) (M : Nat) (row : Option Nat) (es : List Pl.Ent) (T : Pl.Off) : Prop :=
  ∃ row', RefAt w' M row' es T ∧ Turned w w' M row M ∧ ∀ g, row' = some g → row = some g ∨ w.heap.size ≤ g
theorem StepR.of_below {w w' : World} {M : Nat} {row : Option Nat} {es : List Pl.Ent} {T : Pl.Off} (h : RefAt w M row es T) (hb : Below w.heap.size w w') : StepR w w' M row es T :=
  ⟨row, h.below hb, Turned.of_below hb, fun g hg => .inl hg⟩

theorem ownsRow_base {w : World} {b c T size n : Nat} {v : Value} {xs : List Value} (h : w.ownsRow b T size v n xs) (hc : c ≤ b) : w.ownsRow c T size v n xs :=
  ⟨h.1, h.2.imp id (fun ⟨g, cap, cur, e, h1, rest⟩ => ⟨g, cap, cur, e, Nat.le_trans hc h1, rest⟩)⟩

/-- One packet is gone: the rest lies in a new row. -/
theorem ref_less {w W : World} {M i : Nat} {row : Option Nat} {es : List Pl.Ent} {T : Pl.Off} {v2 : Value} (h : RefAt w M row es T) (hb : Below w.heap.size w W) (hi : i < es.length)
    (ho : W.ownsRow w.heap.size 41 3 v2 (i + (es.length - (i + 1))) ((Pl.rows es).take (i * 3) ++ (Pl.rows es).drop ((i + 1) * 3))) :
    StepR w (W.setCell ⟨M, 0, none⟩ v2) M row (es.take i ++ es.drop (i + 1)) T := by
  have hMlt := h.lt
  obtain ⟨v, off, hr, ho', hv, hl⟩ := h.obj
  have r2 := hr.of_block (hb.block M hMlt)
  have hlen : (es.take i ++ es.drop (i + 1)).length = i + (es.length - (i + 1)) := by rw [List.length_append, List.length_take, List.length_drop]; omega
  have k2 : KeepB W (W.setCell ⟨M, 0, none⟩ v2) := fun x cs fr hx => Below.heap_setCell _ _ _ _ (fun e => by
    obtain ⟨c, hc, _⟩ := r2
    change x = M at e
    subst e
    rw [hc] at hx; cases hx)
  have hs2 := hb.size
  refine ⟨v2.ownBlock, ⟨⟨v2, off, (r2.set 0 _).congr (fun i hi => ?_), ?_, rfl, hl⟩, ?_, ?_⟩, ⟨?_, ?_, ?_⟩, ?_⟩
  · by_cases h0 : i = 0
    · subst h0; rfl
    · simp [h0]
  · rw [hlen, Pl.rows_append, Pl.rows_take, Pl.rows_drop]
    exact ownsRow_setCell_below (ownsRow_base ho (by omega)) (by show M < M + 1; omega) _
  · intro x hx
    exact ((h.bodies x (ents_less hx)).below hb).keep k2
  · intro x hx
    exact h.pairs x (ents_less hx)
  · simp [World.setCell]; omega
  · intro j hj h1 h2 h3
    rw [Below.heap_setCell _ _ _ _ h1]
    exact hb.block j hj
  · exact ⟨hb.os, hb.tape, hb.output⟩
  · intro g hg
    exact .inr (ho.lt g hg).1

theorem rdrop_none (M : Nat) (i : Int) (row : Option Nat) (es : List Pl.Ent) (T : Pl.Off) (w : World) (h : RefAt w M row es T) (hi : i < 0 ∨ (es.length : Int) ≤ i) :
    Calls Try.prog 30 #[.pointer (some ⟨M, 0, none⟩), .int .i64 i] w fun e w' => e = .returned (.int .i64 8) ∧ Below w.heap.size w w' := by
  obtain ⟨ao, cap, c0⟩ := h.cell0
  clear h
  by_cases h0 : i < 0
  · have d0 := decide_eq_true h0
    clear hi
    go_enter Try.func30, Try.ntmps30
    go_wp2_with fail
    go_ret
    exact ⟨rfl, Below.refl _ _⟩
  · have d0 := decide_eq_false h0
    have h1 : (es.length : Int) ≤ i := by omega
    clear hi
    go_enter Try.func30, Try.ntmps30
    go_wp2_with fail
    go_ret
    exact ⟨rfl, Below.refl _ _⟩

theorem ents_one {w : World} {es : List Pl.Ent} (h : ∀ e ∈ es, BytesT w e.bv e.bs) : ∀ u ∈ Pl.rows es, u.oneCell' = true := rows_cells h

set_option maxHeartbeats 1000000 in
theorem rdrop_ok (M i : Nat) (row : Option Nat) (es : List Pl.Ent) (T : Pl.Off) (w : World) (h : RefAt w M row es T) (hi : i < es.length) (hn : es.length ≤ 64) :
    Calls Try.prog 30 #[.pointer (some ⟨M, 0, none⟩), .int .i64 i] w fun e w' => e = .returned (.int .i64 0) ∧ StepR w w' M row (es.take i ++ es.drop (i + 1)) T := by
  obtain ⟨i0, hi0, hz0, hz1, hz2⟩ := info_parts info41'
  have hMlt := h.lt
  obtain ⟨v, off, hr, ho, hv, _⟩ := h.obj
  have h1 := rows_cells h.bodies
  rcases ho.2 with ⟨rfl, h0⟩ | ⟨g, cap, cur, rfl, hbg, hg, hc, hm, hs, ht⟩
  · omega
  have c0 := hr.cell (i := 0) (by decide)
  simp only [if_true] at c0
  have hgl : g < w.heap.size := (Array.getElem?_eq_some_iff.1 hg).1
  have hnews : ∀ (W : World), W.heap[g]? = w.heap[g]? → ∀ o j u, ((Pl.rows es).drop o)[j]? = some u → W.cell? ((⟨g, o, none⟩ : Addr).add j) = some u := fun W hW o j u hj => by
    rw [Go.WideShapes.add_plain]
    have h2 : (Pl.rows es)[o + j]? = cur.toList[o + j]? := by
      rw [← ht, List.getElem?_take, if_pos]
      rw [List.getElem?_drop] at hj
      have := (List.getElem?_eq_some_iff.1 hj).1
      rw [Pl.rows_length] at this
      exact this
    have h4 := World.news_of_block (hW.trans hg) (o + j) u (by rw [← h2, ← List.getElem?_drop]; exact hj)
    rw [Go.WideShapes.add_plain, Nat.zero_add] at h4
    exact h4
  have HH := Lib.hid h
  have HN := Lib.hid hnews
  have H1 := Lib.hid h1
  have HR := Lib.hid hr
  have hrl := ho.1
  have HRL := Lib.hid hrl
  have hi' := hi
  generalize hne : es.length = n at *
  have HNE := Lib.hid hne
  clear hne
  have d0 := decide_eq_false (show ¬ ((i : Int) < 0) by omega)
  have d1 := decide_eq_false (show ¬ ((n : Int) ≤ i) by omega)
  have a0 : ¬ ((i : Int) < 0) := by omega
  have a1 : ¬ ((n : Int) ≤ i) := by omega
  have a2 : (i : Int) ≤ n := by omega
  have a3 : (i : Int) ≤ cap := by omega
  have a4 : (0 : Int) ≤ i := by omega
  obtain ⟨i1, hi1⟩ : ∃ i1, i1 = i + 1 := ⟨_, rfl⟩
  have a5 : (0 : Int) ≤ (i1 : Int) := by omega
  have a6 : (i1 : Int) ≤ n := by omega
  have hwr : IntKind.i64.wrap ((i : Int) + 1) = (i1 : Int) := by
    rw [hi1]; simp [IntKind.wrap, IntKind.bits, IntKind.signed]; omega
  obtain ⟨sAd, hsAd, hnew2⟩ : ∃ sAd : Addr, (if cap = i1 then (some ⟨g, 0, none⟩ : Option Addr) else some ⟨g, i1 * 3, none⟩) = some sAd ∧ ∀ (W : World), W.heap[g]? = w.heap[g]? → ∀ j u, ((Pl.rows es).drop (i1 * 3))[j]? = some u → W.cell? (sAd.add j) = some u := by
    by_cases hcc : cap = i1
    · refine ⟨⟨g, 0, none⟩, if_pos hcc, fun W hW j u hj => ?_⟩
      rw [List.drop_eq_nil_of_le (by rw [hrl]; omega)] at hj
      simp at hj
    · exact ⟨⟨g, i1 * 3, none⟩, if_neg hcc, fun W hW j u hj => hnews W hW _ j u hj⟩
  have HI1 := Lib.hid hi1
  clear hi1
  have HN2 := Lib.hid hnew2
  have a7 : (n : Int) ≤ cap := by omega
  have a8 : (i : Int) + 1 ≤ 9223372036854775807 := by omega
  clear h ho h1 hr hg ht hs hnews hrl hv hnew2
  go_enter Try.func30, Try.ntmps30
  go_wp2_with fail
  refine wp_region_L (fun w' => w'.cell? ⟨M, 0, none⟩ = some (.slice (some ⟨g, 0, none⟩) n cap)) 19 (by kernel_rfl) c0 (fun hHeld => ?_)
  refine wpL_takeAt (i := 0) 16 (v := ?va1) rfl (by kernel_rfl) (by kernel_rfl) (by kernel_rfl) (by kernel_rfl) (by kernel_rfl) (fun _ _ _ h => h) (Or.inl ⟨by rfl, ?ha1⟩) (by assumption) ?ra1
  case ha1 => intro w hSw; (try dsimp only at hSw); go_simp; (try with_reducible rfl)
  simp only [Act.put, List.setIfInBounds_toArray, List.set_cons_zero, List.set_cons_succ]
  refine wpL_takeAt (i := 2) 18 (v := ?va2) rfl (by kernel_rfl) (by kernel_rfl) (by kernel_rfl) (by kernel_rfl) (by kernel_rfl) (fun _ _ _ h => h) (Or.inl ⟨by rfl, ?ha2⟩) (by assumption) ?ra2
  case ha2 => intro w hSw; (try dsimp only at hSw); go_simp; (try with_reducible rfl)
  simp only [Act.put, List.setIfInBounds_toArray, List.set_cons_zero, List.set_cons_succ]
  refine wpL_takeAt (i := 3) 19 (v := ?va3) rfl (by kernel_rfl) (by kernel_rfl) (by kernel_rfl) (by kernel_rfl) (by kernel_rfl) (fun _ _ _ h => h) (Or.inl ⟨by rfl, ?ha3⟩) (by assumption) ?ra3
  case ha3 => intro w hSw; (try dsimp only at hSw); go_simp; (try with_reducible rfl)
  simp only [Act.put, List.setIfInBounds_toArray, List.set_cons_zero, List.set_cons_succ]
  refine wpL_takeAt (i := 4) 20 (v := ?va4) rfl (by kernel_rfl) (by kernel_rfl) (by kernel_rfl) (by kernel_rfl) (by kernel_rfl) (fun _ _ _ h => h) (Or.inl ⟨by rfl, ?ha4⟩) (by assumption) ?ra4
  case ha4 => intro w hSw; (try dsimp only at hSw); go_simp; (try with_reducible rfl)
  simp only [Act.put, List.setIfInBounds_toArray, List.set_cons_zero, List.set_cons_succ]
  refine wpL_takeAt (i := 5) 21 (v := ?va5) rfl (by kernel_rfl) (by kernel_rfl) (by kernel_rfl) (by kernel_rfl) (by kernel_rfl) (fun _ _ _ h => h) (Or.inl ⟨by rfl, ?ha5⟩) (by assumption) ?ra5
  case ha5 => intro w hSw; (try dsimp only at hSw); go_simp; (try with_reducible rfl)
  simp only [Act.put, List.setIfInBounds_toArray, List.set_cons_zero, List.set_cons_succ]
  refine wpL_takeAt (i := 6) 22 (v := ?va6) rfl (by kernel_rfl) (by kernel_rfl) (by kernel_rfl) (by kernel_rfl) (by kernel_rfl) (fun _ _ _ h => h) (Or.inl ⟨by rfl, ?ha6⟩) (by assumption) ?ra6
  case ha6 => intro w hSw; (try dsimp only at hSw); go_simp; (try with_reducible rfl)
  simp only [Act.put, List.setIfInBounds_toArray, List.set_cons_zero, List.set_cons_succ]
  refine wpL_takeAt (i := 7) 23 (v := ?va7) rfl (by kernel_rfl) (by kernel_rfl) (by kernel_rfl) (by kernel_rfl) (by kernel_rfl) (fun _ _ _ h => h) (Or.inl ⟨by rfl, ?ha7⟩) (by assumption) ?ra7
  case ha7 => intro w hSw; (try dsimp only at hSw); go_simp; (try with_reducible rfl)
  simp only [Act.put, List.setIfInBounds_toArray, List.set_cons_zero, List.set_cons_succ]
  refine wpL_takeAt (i := 9) 25 (v := ?va8) rfl (by kernel_rfl) (by kernel_rfl) (by kernel_rfl) (by kernel_rfl) (by kernel_rfl) (fun _ _ _ h => h) (Or.inl ⟨by rfl, ?ha8⟩) (by assumption) ?ra8
  case ha8 => intro w hSw; (try dsimp only at hSw); go_simp; (try with_reducible rfl)
  simp only [Act.put, List.setIfInBounds_toArray, List.set_cons_zero, List.set_cons_succ]
  refine wpL_takeAt (i := 10) 26 (v := ?va9) rfl (by kernel_rfl) (by kernel_rfl) (by kernel_rfl) (by kernel_rfl) (by kernel_rfl) (fun _ _ _ h => h) (Or.inl ⟨by rfl, ?ha9⟩) (by assumption) ?ra9
  case ha9 => intro w hSw; (try dsimp only at hSw); go_simp; (try with_reducible rfl)
  simp only [Act.put, List.setIfInBounds_toArray, List.set_cons_zero, List.set_cons_succ]
  refine wpL_takeAt (i := 11) 27 (v := ?va10) rfl (by kernel_rfl) (by kernel_rfl) (by kernel_rfl) (by kernel_rfl) (by kernel_rfl) (fun _ _ _ h => h) (Or.inl ⟨by rfl, ?ha10⟩) (by assumption) ?ra10
  case ha10 => intro w hSw; (try dsimp only at hSw); go_simp; (try with_reducible rfl)
  simp only [Act.put, List.setIfInBounds_toArray, List.set_cons_zero, List.set_cons_succ]
  refine wpL_takeAt (i := 12) 28 (v := ?va11) rfl (by kernel_rfl) (by kernel_rfl) (by kernel_rfl) (by kernel_rfl) (by kernel_rfl) (fun _ _ _ h => h) (Or.inl ⟨by rfl, ?ha11⟩) (by assumption) ?ra11
  case ha11 => intro w hSw; (try dsimp only at hSw); go_simp; (try with_reducible rfl)
  simp only [Act.put, List.setIfInBounds_toArray, List.set_cons_zero, List.set_cons_succ]
  refine wpL_takeAt (i := 13) 29 (v := ?va12) rfl (by kernel_rfl) (by kernel_rfl) (by kernel_rfl) (by kernel_rfl) (by kernel_rfl) (fun _ _ _ h => h) (Or.inl ⟨by rfl, ?ha12⟩) (by assumption) ?ra12
  case ha12 => intro w hSw; (try dsimp only at hSw); go_simp; (try with_reducible rfl)
  simp only [Act.put, List.setIfInBounds_toArray, List.set_cons_zero, List.set_cons_succ]
  refine wpL_takeAt (i := 14) 30 (v := .int .i64 (i1 : Int)) rfl (by kernel_rfl) (by kernel_rfl) (by kernel_rfl) (by kernel_rfl) (by kernel_rfl) (fun _ _ _ h => h) (Or.inl ⟨by rfl, ?hx14⟩) (by assumption) ?rx14
  case hx14 => intro w hSw; (try dsimp only at hSw); go_simp; first | done | exact hwr
  simp only [Act.put, List.setIfInBounds_toArray, List.set_cons_zero, List.set_cons_succ]
  refine wpL_takeAt (i := 15) 31 (v := .slice (some sAd) (n - i1) (cap - i1)) rfl (by kernel_rfl) (by kernel_rfl) (by kernel_rfl) (by kernel_rfl) (by kernel_rfl) (fun _ _ _ h => h) (Or.inl ⟨by rfl, ?hx15⟩) (by assumption) ?rx15
  case hx15 => intro w hSw; (try dsimp only at hSw); go_simp
  simp only [Act.put, List.setIfInBounds_toArray, List.set_cons_zero, List.set_cons_succ]
  clear hHeld
  have HSA := Lib.hid hsAd
  clear d0 d1 a0 a1 hwr hsAd
  refine wpL_one (i := 1) (by kernel_rfl) rfl (fun K hK => ?_)
  go_simp
  have HB0 := Lib.hid ((Below.refl w.heap.size w).drew)
  have HB1 := Lib.hid (HB0.out.alloc (Nat.le_refl w.heap.size) (.cells #[] 41))
  have q1 : (w.drew.alloc (.cells #[] 41)).cell? ⟨M, 0, none⟩ = some (.slice (some ⟨g, 0, none⟩) n cap) := (World.cell?_alloc_lt _ _ _ hMlt).trans c0
  have HOWN : Hid ((w.drew.alloc (.cells #[] 41)).ownsRow w.heap.size 41 3 (.slice (some ⟨w.heap.size, 0, none⟩) 0 0) 0 []) :=
    Lib.hid ⟨rfl, .inr ⟨w.heap.size, 0, #[], rfl, Nat.le_refl _, heap_alloc_new w.drew _, Nat.le_refl _, by decide, rfl, rfl⟩⟩
  refine hK.out _ _ (fun _ => q1) (fun _ => ?_)
  clear hK K
  try simp only [Act.put, List.setIfInBounds_toArray, List.set_cons_zero, List.set_cons_succ]
  clear c0
  refine wpL_one (i := 8) (by kernel_rfl) rfl (fun K hK => ?_)
  (refine step_append_src rfl (.tmp 17) (.tmp 23) 38 rfl w.heap.size 41 i0 (.agg #[.int .i64 0, .int .i64 0, .slice none 0 0]) 3 40 Try.underlying38 hi0 hz0 hz1 hz2 rfl (by decide) (.slice (some ⟨w.heap.size, 0, none⟩) 0 0) 0 [] rfl HOWN.out (some ⟨g, 0, none⟩) i cap ((Pl.rows es).take (i * 3)) rfl (by rw [List.length_take, HRL.out]; omega) (fun e => by cases e) (fun ad had j u hj => ?sn1) (fun u hu => H1.out u (List.mem_of_mem_take hu)) (by unfold maxLen; omega) (by omega) (by simp) ?_)
  case sn1 =>
    cases had
    rw [List.getElem?_take] at hj
    split at hj
    · exact HN.out _ (HB1.out.block g hgl) 0 j u (by simpa using hj)
    · cases hj
  intro v1 w2 hown2 hgrow2
  have HB2 := Lib.hid (HB1.out.grown hgrow2 (by simp) (fun j hj => (HOWN.out.lt j hj).1))
  have q2 : w2.cell? ⟨M, 0, none⟩ = some (.slice (some ⟨g, 0, none⟩) n cap) := (hgrow2.cell_far ⟨M, 0, none⟩ (by simp; omega) (fun e => by simp [Value.ownBlock] at e; omega)).trans q1
  have HOWN2 := Lib.hid hown2
  clear hown2 hgrow2 q1 HOWN HB1
  refine hK.out _ _ (fun _ => q2) (fun _ => ?_)
  clear hK K
  try simp only [Act.put, List.setIfInBounds_toArray, List.set_cons_zero, List.set_cons_succ]
  refine wpL_one (i := 16) (by kernel_rfl) rfl (fun K hK => ?_)
  (refine step_append_src rfl (.tmp 24) (.tmp 31) 38 rfl w.heap.size 41 i0 (.agg #[.int .i64 0, .int .i64 0, .slice none 0 0]) 3 40 Try.underlying38 hi0 hz0 hz1 hz2 rfl (by decide) v1 (0 + i) ([] ++ (Pl.rows es).take (i * 3)) rfl HOWN2.out (some sAd) (n - i1) (cap - i1) ((Pl.rows es).drop (i1 * 3)) rfl (by rw [List.length_drop, HRL.out]; omega) (fun e => by cases e) (fun ad had j u hj => ?sn2) (fun u hu => H1.out u (List.mem_of_mem_drop hu)) (by unfold maxLen; omega) (by omega) HB2.out.size ?_)
  case sn2 =>
    cases had
    exact HN2.out _ (HB2.out.block g hgl) j u hj
  intro v3 w3 hown3 hgrow3
  have HB3 := Lib.hid (HB2.out.grown hgrow3 HB2.out.size (fun j hj => (HOWN2.out.lt j hj).1))
  have q3 : w3.cell? ⟨M, 0, none⟩ = some (.slice (some ⟨g, 0, none⟩) n cap) := (hgrow3.cell_far ⟨M, 0, none⟩ (World.block_lt_of_cell? _ _ q2) (fun e => by have := (HOWN2.out.lt M e.symm).1; omega)).trans q2
  obtain ⟨ao3, cap3, n3, rfl⟩ : ∃ ao3 cap3 n3, v3 = .slice ao3 n3 cap3 := by
    rcases hown3.2 with ⟨rfl, h0⟩ | ⟨g, cap, cur, e, _⟩
    · exact ⟨none, 0, 0, rfl⟩
    · exact ⟨_, cap, _, e⟩
  have f3 : w3.frozen? ⟨M, 0, none⟩ = false := (HB3.out.frozen (p := ⟨M, 0, none⟩) hMlt).trans (HR.out.frozen 0)
  have hown4 : w3.ownsRow w.heap.size 41 3 (.slice ao3 n3 cap3) (i + (n - (i + 1))) ((Pl.rows es).take (i * 3) ++ (Pl.rows es).drop ((i + 1) * 3)) := by
    have := hown3
    rw [Nat.zero_add, List.nil_append, HI1.out] at this
    exact this
  have HOWN3 := Lib.hid hown4
  clear hown3 hown4 hgrow3 q2 HOWN2 HB2
  refine hK.out _ _ (fun _ => q3) (fun _ => ?_)
  clear hK K
  try simp only [Act.put, List.setIfInBounds_toArray, List.set_cons_zero, List.set_cons_succ]
  refine wpL_one (i := 17) (by kernel_rfl) rfl (fun K hK => ?_)
  go_simp
  refine hK.out _ _ (fun _ => q3) (fun _ => ?_)
  clear hK K
  try simp only [Act.put, List.setIfInBounds_toArray, List.set_cons_zero, List.set_cons_succ]
  refine wpL_one (i := 18) (by kernel_rfl) rfl (fun K hK => ?_)
  go_simp
  refine hK.out _ _ (fun _ => q3) (fun _ => ?_)
  clear hK K
  try simp only [Act.put, List.setIfInBounds_toArray, List.set_cons_zero, List.set_cons_succ]
  refine wpL_one (i := 19) (by kernel_rfl) rfl (fun K hK => ?_)
  go_simp
  refine hK.out _ _ (fun hne => absurd rfl hne) (fun _ => ?_)
  clear hK K
  try simp only [Act.put, List.setIfInBounds_toArray, List.set_cons_zero, List.set_cons_succ]
  refine wpL_done (by kernel_rfl) ?_ _
  have S := ref_less (i := i) (v2 := .slice ao3 n3 cap3) HH.out HB3.out (by rw [HNE.out]; exact hi) (by rw [HNE.out]; exact HOWN3.out)
  have HS := Lib.hid S
  clear q3 f3 S
  generalize w3.setCell _ _ = W6 at *
  go_wp2_with fail
  go_ret
  exact ⟨rfl, HS.out⟩

/-- A block beside the document's net is written to. -/
theorem RefAt.other {w w' : World} {M R : Nat} {row : Option Nat} {es : List Pl.Ent} {T : Pl.Off} (h : RefAt w M row es T) (hh : ∀ x, x ≠ R → w'.heap[x]? = w.heap[x]?) (h1 : R ≠ M) (h3 : row ≠ some R) (h5 : ∀ cs fr, w.heap[R]? ≠ some (Obj.cells cs 5 fr)) : RefAt w' M row es T :=
  h.keep (hh M (Ne.symm h1)) (fun g hg => hh g (fun e => h3 (by rw [hg, e]))) (fun e he => (h.bodies e he).keep (keepB_of R R (fun x hx _ => hh x hx) h5 h5))

theorem rtake_gen (M : Nat) (i a b k : Int) (row : Option Nat) (es es' : List Pl.Ent) (T : Pl.Off) (bs : List Int) (w : World) (h : RefAt w M row es T)
    (hC : Calls Try.prog 29 #[.pointer (some ⟨M, 0, none⟩), .int .i64 i] (w.alloc (.cells #[.int .i64 0, .int .i64 0, .slice none 0 0] 41)) fun e w' => ∃ v', e = .returned (.tuple #[.agg #[.int .i64 a, .int .i64 b, v'], .int .i64 k]) ∧ BytesT w' v' bs ∧ Below (w.heap.size + 1) (w.alloc (.cells #[.int .i64 0, .int .i64 0, .slice none 0 0] 41)) w')
    (hD : ∀ W, RefAt W M row es T → Calls Try.prog 30 #[.pointer (some ⟨M, 0, none⟩), .int .i64 i] W fun e w' => (∃ d, e = .returned (.int .i64 d)) ∧ StepR W w' M row es' T) :
    Calls Try.prog 28 #[.pointer (some ⟨M, 0, none⟩), .int .i64 i] w fun e w' => ∃ v', e = .returned (.tuple #[.agg #[.int .i64 a, .int .i64 b, v'], .int .i64 k]) ∧ BytesT w' v' bs ∧ StepR w w' M row es' T := by
  have hs1 : (w.alloc (.cells #[.int .i64 0, .int .i64 0, .slice none 0 0] 41)).heap.size = w.heap.size + 1 := by simp
  have b1 : Below w.heap.size w (w.alloc (.cells #[.int .i64 0, .int .i64 0, .slice none 0 0] 41)) := (Below.refl _ _).alloc (Nat.le_refl _) _
  have hR1 := heap_alloc_new w (.cells #[.int .i64 0, .int .i64 0, .slice none 0 0] 41)
  have HH := Lib.hid h
  have HC := Lib.hid hC
  have HD := Lib.hid hD
  have HB1 := Lib.hid b1
  have HR1 := Lib.hid hR1
  have HS1 := Lib.hid hs1
  clear h hC hD b1 hR1 hs1
  go_enter Try.func28, Try.ntmps28
  go_wp2_with fail
  refine HC.out.mono ?_
  rintro e w2 ⟨v2, rfl, B2, b2⟩
  obtain ⟨ao2, cap2, hv2, _⟩ := id B2
  subst hv2
  have hs2 : w.heap.size + 1 ≤ w2.heap.size := by have := b2.size; rw [HS1.out] at this; exact this
  have b3 : Below w.heap.size w w2 := HB1.out.trans (b2.mono (by omega))
  have b4 : Below w.heap.size w (w2.alloc (.cells #[.int .i64 a, .int .i64 b, .slice ao2 bs.length cap2] 41)) := b3.alloc (by omega) _
  have A4 := HH.out.below b4
  have hR4 : (w2.alloc (.cells #[.int .i64 a, .int .i64 b, .slice ao2 bs.length cap2] 41)).heap[w.heap.size]? = some (.cells #[.int .i64 0, .int .i64 0, .slice none 0 0] 41 (0, 0)) := (Below.heap_alloc _ _ _ (by omega)).trans ((b2.block w.heap.size (by omega)).trans HR1.out)
  have hX4 := heap_alloc_new w2 (.cells #[.int .i64 a, .int .i64 b, .slice ao2 bs.length cap2] 41)
  have B4 := B2.below ((Below.refl w2.heap.size w2).alloc (Nat.le_refl _) (.cells #[.int .i64 a, .int .i64 b, .slice ao2 bs.length cap2] 41))
  have hs4 : (w2.alloc (.cells #[.int .i64 a, .int .i64 b, .slice ao2 bs.length cap2] 41)).heap.size = w2.heap.size + 1 := by simp
  have HB4 := Lib.hid b4
  have HA4 := Lib.hid A4
  have HR4 := Lib.hid hR4
  have HX4 := Lib.hid hX4
  have HBT4 := Lib.hid B4
  have HS4 := Lib.hid hs4
  clear b2 b3 b4 A4 hR4 hX4 B2 B4 HC HB1 HR1 HS1 hs4
  go_wp2_with fail
  generalize w2.alloc (.cells #[.int .i64 a, .int .i64 b, .slice ao2 bs.length cap2] 41) = W at *
  refine (HD.out W HA4.out).mono ?_
  rintro e w5 ⟨⟨d, rfl⟩, row', A5, t5, r5⟩
  have hNlt := HH.out.lt
  have n1 : w.heap.size ≠ M := by omega
  have n3 : some w.heap.size ≠ row := fun e => by have := (HH.out.row_lt _ e.symm).2; omega
  have n4 : some w2.heap.size ≠ row := fun e => by have := (HH.out.row_lt _ e.symm).2; omega
  have hR5 := (t5.same w.heap.size (by rw [HS4.out]; omega) n1 n1 n3).trans HR4.out
  have hX5 := (t5.same w2.heap.size (by rw [HS4.out]; omega) (by omega) (by omega) n4).trans HX4.out
  have q : ∀ j u, (#[.int .i64 0, .int .i64 0, .slice none 0 0] : Array Value)[j]? = some u → w5.cell? ⟨w.heap.size, j, none⟩ = some u := fun j u hj => by simp only [World.cell?, hR5]; simpa using hj
  have y : ∀ j u, (#[.int .i64 a, .int .i64 b, .slice ao2 bs.length cap2] : Array Value)[j]? = some u → w5.cell? ⟨w2.heap.size, j, none⟩ = some u := fun j u hj => by simp only [World.cell?, hX5]; simpa using hj
  have q0 : w5.cell? ⟨w.heap.size, 0, none⟩ = some (.int .i64 0) := q 0 _ rfl
  have q1 : w5.cell? ⟨w.heap.size, 1, none⟩ = some (.int .i64 0) := q 1 _ rfl
  have q2 : w5.cell? ⟨w.heap.size, 2, none⟩ = some (.slice none 0 0) := q 2 _ rfl
  have y0 : w5.cell? ⟨w2.heap.size, 0, none⟩ = some (.int .i64 a) := y 0 _ rfl
  have y1 : w5.cell? ⟨w2.heap.size, 1, none⟩ = some (.int .i64 b) := y 1 _ rfl
  have y2 : w5.cell? ⟨w2.heap.size, 2, none⟩ = some (.slice ao2 bs.length cap2) := y 2 _ rfl
  have fz : ∀ j, w5.frozen? ⟨w.heap.size, j, none⟩ = false := fun j => by simp [World.frozen?, hR5]
  have f0 := fz 0
  have f1 := fz 1
  have f2 := fz 2
  have HA5 := Lib.hid A5
  have HT5 := Lib.hid t5
  have HR5 := Lib.hid hR5
  have HQ5 := Lib.hid r5
  have HK5 := Lib.hid (HA4.out.keepB t5)
  clear A5 t5 hR5 hX5 q y fz r5 HD
  go_wp2_with fail
  have r0 : (((w5.setCell ⟨w.heap.size, 0, none⟩ (.int .i64 a)).setCell ⟨w.heap.size, 1, none⟩ (.int .i64 b)).setCell ⟨w.heap.size, 2, none⟩ (.slice ao2 bs.length cap2)).cell? ⟨w.heap.size, 0, none⟩ = some (.int .i64 a) := by
    rw [World.cell?_setCell_other _ _ _ _ (by simp), World.cell?_setCell_other _ _ _ _ (by simp)]; exact World.cell?_setCell_same _ _ _ q0
  have r1 : (((w5.setCell ⟨w.heap.size, 0, none⟩ (.int .i64 a)).setCell ⟨w.heap.size, 1, none⟩ (.int .i64 b)).setCell ⟨w.heap.size, 2, none⟩ (.slice ao2 bs.length cap2)).cell? ⟨w.heap.size, 1, none⟩ = some (.int .i64 b) := by
    rw [World.cell?_setCell_other _ _ _ _ (by simp)]; exact World.cell?_setCell_same _ _ _ (by rw [World.cell?_setCell_other _ _ _ _ (by simp)]; exact q1)
  have r2 : (((w5.setCell ⟨w.heap.size, 0, none⟩ (.int .i64 a)).setCell ⟨w.heap.size, 1, none⟩ (.int .i64 b)).setCell ⟨w.heap.size, 2, none⟩ (.slice ao2 bs.length cap2)).cell? ⟨w.heap.size, 2, none⟩ = some (.slice ao2 bs.length cap2) :=
    World.cell?_setCell_same _ _ _ (by rw [World.cell?_setCell_other _ _ _ _ (by simp), World.cell?_setCell_other _ _ _ _ (by simp)]; exact q2)
  have hh : ∀ x, x ≠ w.heap.size → (((w5.setCell ⟨w.heap.size, 0, none⟩ (.int .i64 a)).setCell ⟨w.heap.size, 1, none⟩ (.int .i64 b)).setCell ⟨w.heap.size, 2, none⟩ (.slice ao2 bs.length cap2)).heap[x]? = w5.heap[x]? := fun x hx => by
    rw [Below.heap_setCell _ _ _ _ hx, Below.heap_setCell _ _ _ _ hx, Below.heap_setCell _ _ _ _ hx]
  have hsz : (((w5.setCell ⟨w.heap.size, 0, none⟩ (.int .i64 a)).setCell ⟨w.heap.size, 1, none⟩ (.int .i64 b)).setCell ⟨w.heap.size, 2, none⟩ (.slice ao2 bs.length cap2)).heap.size = w5.heap.size := by simp [World.setCell]
  have hrest : (((w5.setCell ⟨w.heap.size, 0, none⟩ (.int .i64 a)).setCell ⟨w.heap.size, 1, none⟩ (.int .i64 b)).setCell ⟨w.heap.size, 2, none⟩ (.slice ao2 bs.length cap2)).os = w5.os ∧ (((w5.setCell ⟨w.heap.size, 0, none⟩ (.int .i64 a)).setCell ⟨w.heap.size, 1, none⟩ (.int .i64 b)).setCell ⟨w.heap.size, 2, none⟩ (.slice ao2 bs.length cap2)).tape = w5.tape ∧ (((w5.setCell ⟨w.heap.size, 0, none⟩ (.int .i64 a)).setCell ⟨w.heap.size, 1, none⟩ (.int .i64 b)).setCell ⟨w.heap.size, 2, none⟩ (.slice ao2 bs.length cap2)).output = w5.output := ⟨rfl, rfl, rfl⟩
  generalize ((w5.setCell ⟨w.heap.size, 0, none⟩ (.int .i64 a)).setCell ⟨w.heap.size, 1, none⟩ (.int .i64 b)).setCell ⟨w.heap.size, 2, none⟩ (.slice ao2 bs.length cap2) = Z at *
  have h5 : ∀ cs fr, w5.heap[w.heap.size]? ≠ some (Obj.cells cs 5 fr) := fun cs fr e => by rw [HR5.out] at e; cases e
  have n5 : row' ≠ some w.heap.size := fun e => by
    rcases HQ5.out _ e with r | hg
    · exact n3 r.symm
    · have := HS4.out; omega
  refine bodyPost_ret (v := .tuple #[.agg #[.int .i64 a, .int .i64 b, .slice ao2 bs.length cap2], .int .i64 k]) (by simp [results, Try.results28, go_sem, r0, r1, r2]) rfl ⟨_, rfl, (HBT4.out.keep HK5.out).keep (keepB_of w.heap.size w.heap.size (fun x hx _ => hh x hx) h5 h5), row', HA5.out.other hh n1 n5 h5, ⟨?_, ?_, ?_⟩, ?_⟩
  · rw [hsz]; exact Nat.le_trans HB4.out.size HT5.out.size
  · intro j hj h1 h2 h3
    exact (hh j (by omega)).trans ((HT5.out.same j (by have := HB4.out.size; omega) h1 h2 h3).trans (HB4.out.block j hj))
  · exact ⟨hrest.1.trans (HT5.out.rest.1.trans HB4.out.os), hrest.2.1.trans (HT5.out.rest.2.1.trans HB4.out.tape), hrest.2.2.trans (HT5.out.rest.2.2.trans HB4.out.output)⟩
  · intro g hg
    rcases HQ5.out g hg with r | hg
    · exact .inl r
    · exact .inr (by have := HB4.out.size; omega)
end Go.Proofs.Ytjoikochpkfoaaa
