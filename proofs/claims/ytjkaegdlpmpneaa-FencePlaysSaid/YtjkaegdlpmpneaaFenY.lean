/- Write, where the log is full: the first write goes. -/
import Derived.Test.YtjkaegdlpmpneaaFenX
import Derived.Test.YtjkaegdlpmpneaaFenM
namespace Go.Proofs.Ytjkaegdlpmpneaa
open Go.RowKit
set_option linter.unusedVariables false


theorem late_del {w W w3 : World} {B k n g cap : Nat} {r b : Int} {rep fen : Nat → Int} {row : Option Nat} {ys : List Value} {cur : Array Value} (hk : k < 8) (hB : B < w.heap.size) (hn0 : 0 < n)
    (M : LateAt w W B k (n + 1) r b rep fen row (.slice (some ⟨g, 0, none⟩) (n + 1) cap) ys) (hBg : B + 1 ≤ g) (hat : some g = row ∨ w.heap.size + 5 ≤ g)
    (hrow : ∀ g, row = some g → B + 1 ≤ g ∧ g < w.heap.size) (hg : W.heap[g]? = some (.cells cur 47 (0, 0))) (hcap : n + 1 ≤ cap) (hmax : cap ≤ maxLen) (hcs : cur.size = cap * 5) (htk : cur.toList.take ((n + 1) * 5) = ys)
    (hr : w3.rowIs g 47 (cap * 5) (fun j => if n * 5 ≤ j ∧ j < n * 5 + 5 then .int .i64 0 else if j < n * 5 then cur[5 + j]?.getD default else cur[j]?.getD default))
    (hs : w3.heap.size = W.heap.size) (hh : ∀ i, i < W.heap.size → i ≠ g → w3.heap[i]? = W.heap[i]?) (ho : w3.os = W.os) (ht : w3.tape = W.tape) (hu : w3.output = W.output) :
    (w3.cell? ⟨w.heap.size, 0, none⟩ = some (.pointer (some ⟨B, 0, none⟩)) ∧ w3.cell? ⟨B, 16, none⟩ = some (.slice (some ⟨g, 0, none⟩) (n + 1) cap) ∧ w3.frozen? ⟨B, 16, none⟩ = false) ∧
    LateAt w (w3.setCell ⟨B, 16, none⟩ (.slice (some ⟨g, 0, none⟩) n cap)) B k n r b rep fen row (.slice (some ⟨g, 0, none⟩) n cap) (ys.drop 5) := by
  have hsz := M.size
  have hne : ∀ x, (x = B ∨ (w.heap.size ≤ x ∧ x < w.heap.size + 5)) → x ≠ g := by
    rintro x hx rfl
    rcases hat with h | h5
    · have := (hrow x h.symm); omega
    · omega
  have kc : ∀ x o, (x = B ∨ (w.heap.size ≤ x ∧ x < w.heap.size + 5)) → w3.cell? ⟨x, o, none⟩ = W.cell? ⟨x, o, none⟩ := fun x o hx => World.cell?_of_block (hh x (by omega) (hne x hx))
  have kf : ∀ x o, (x = B ∨ (w.heap.size ≤ x ∧ x < w.heap.size + 5)) → w3.frozen? ⟨x, o, none⟩ = W.frozen? ⟨x, o, none⟩ := fun x o hx => World.frozen?_of_block (hh x (by omega) (hne x hx))
  have oth : ∀ (a : Addr), a ≠ ⟨B, 16, none⟩ → (w3.setCell ⟨B, 16, none⟩ (.slice (some ⟨g, 0, none⟩) n cap)).cell? a = w3.cell? a := fun a ha => World.cell?_setCell_other _ _ _ _ (fun e => ha e.symm)
  refine ⟨⟨(kc _ _ (.inr (by omega))).trans M.b0, (kc _ _ (.inl rfl)).trans M.cv, (kf _ _ (.inl rfl)).trans (M.fr _)⟩, ?_⟩
  refine ⟨(oth _ (by simp <;> omega)).trans ((kc _ _ (.inr (by omega))).trans M.b0), (oth _ (by simp <;> omega)).trans ((kc _ _ (.inr (by omega))).trans M.b1), (oth _ (by simp <;> omega)).trans ((kc _ _ (.inr (by omega))).trans M.b3),
    (oth _ (by simp <;> omega)).trans ((kc _ _ (.inl rfl)).trans M.c0), (oth _ (by simp <;> omega)).trans ((kc _ _ (.inl rfl)).trans M.c1), World.cell?_setCell_same _ _ _ ((kc _ _ (.inl rfl)).trans M.cv), ?_, ?_, ?_, ?_, ?_, ?_⟩
  · intro o; rw [World.frozen?_setCell]; exact (kf _ _ (.inl rfl)).trans (M.fr o)
  · refine ownsRow_setCell_below (w := w3) ?_ (by show B < B + 1; omega) _
    obtain ⟨c, hc, hcz, hcg⟩ := hr
    have hlen : ys.length = (n + 1) * 5 := M.own.1
    refine ⟨by rw [List.length_drop, hlen]; omega, .inr ⟨g, cap, c, rfl, hBg, hc, by omega, hmax, hcz, ?_⟩⟩
    apply List.ext_getElem?
    intro i
    rw [List.getElem?_take, List.getElem?_drop]
    by_cases hi : i < n * 5
    · rw [if_pos hi, Array.getElem?_toList, hcg i (by omega)]
      show some (if n * 5 ≤ i ∧ i < n * 5 + 5 then Value.int .i64 0 else if i < n * 5 then cur[5 + i]?.getD default else cur[i]?.getD default) = _
      rw [if_neg (by omega), if_pos hi, ← htk, List.getElem?_take, if_pos (by omega), Array.getElem?_toList, Array.getElem?_eq_getElem (show 5 + i < cur.size by omega)]
      rfl
    · rw [if_neg hi, List.getElem?_eq_none (by omega)]
  · simp [World.setCell]; omega
  · intro i hi hiB hir
    rw [Below.heap_setCell _ _ _ _ hiB]
    refine (hh i (by omega) ?_).trans (M.same i hi hiB hir)
    rintro rfl
    rcases hat with h | h5
    · exact hir h
    · omega
  · intro o h1 h2
    rw [World.cell?_setCell_other _ _ _ _ (by simp <;> omega)]
    exact (kc _ _ (.inl rfl)).trans (M.others o h1 h2)
  · exact ⟨ho.trans M.rest.1, ht.trans M.rest.2.1, hu.trans M.rest.2.2⟩

set_option maxHeartbeats 4000000 in
theorem write_full (B k n : Nat) (f r b : Int) (rep fen : Nat → Int) (v : Value) (xs : List Value) (w : World) (hk : k < 8) (hB : B < w.heap.size) (h : CellsAt w B rep fen)
    (h1 : Pl.inB r 0 1000 = true) (h2 : Pl.inB b 0 7 = true) (h3 : (fen k != f) = false) (hf0 : 0 ≤ fen k) (hf1 : fen k ≤ 1000000)
    (hv : w.cell? ⟨B, 16, none⟩ = some v) (hfr : ∀ o, w.frozen? ⟨B, o, none⟩ = false) (hown : w.ownsRow (B + 1) 47 5 v n xs) (hn : n = 256) (h1x : ∀ u ∈ xs, u.oneCell' = true) :
    Calls Try.prog 9 #[.pointer (some ⟨B, 0, none⟩), .int .i64 k, .int .i64 f, .int .i64 r, .int .i64 b] w fun e w' => e = .returned (.int .i64 0) ∧ ∃ v', Wrote w w' B k n r rep fen v.ownBlock v' ((xs ++ newW k r b rep fen).drop 5) := by
  have hmf : ∀ (fn : Fn) (first cap : Array Value) (w : World), (Instr.makeFunc fn first cap).run Try.prog w = .ok (.func fn first cap) w := fun _ _ _ _ => rfl
  have hin : Pl.inB k 0 7 = true := (Pl.inB_iff _ _ _).2 (by omega)
  have c0 := ((boxed_below w B k f r b).cell (p := ⟨B, k * 2, none⟩) hB).trans (h.rep k hk)
  have c1 := ((boxed_below w B k f r b).cell (p := ⟨B, k * 2 + 1, none⟩) hB).trans (h.fen k hk)
  have e1 := ((boxed_below w B k f r b).frozen (p := ⟨B, k * 2 + 1, none⟩) hB).trans (hfr _)
  obtain ⟨i0, hi, hz0, hz1, hz2⟩ := info_parts info47
  have HM := fun nq => mid_at (nq := nq) (f := f) (r := r) (b := b) hk hB h hv hfr hown
  have HC := Lib.hid h
  have vlt := hown.lt
  have VLT : Hid (∀ g, v.ownBlock = some g → B + 1 ≤ g ∧ g < w.heap.size) := Lib.hid vlt
  clear h hv hfr hown vlt
  have HM' := Lib.hid HM
  have HN := Lib.hid hn
  have H1X := Lib.hid h1x
  have hn1 : 256 ≤ n := by omega
  have hn2 : n ≤ 256 := by omega
  clear hn h1x
  clear HM
  go_enter Try.func9, Try.ntmps9
  go_wp2_with (first | (go_at_call 19; refine (inB_any _ _ _ _).mono ?_; rintro e w' ⟨rfl, rfl⟩) | go_in)
  go_quiet (fail)
  go_wp2_with fail
  have M := HM'.out nq
  clear HM' c0 c1 e1 h1 h2 h3 hin hmf
  generalize ((boxed w B k f r b).drewN nq).setCell ⟨B, k * 2 + 1, none⟩ (.int .i64 (fen k + 1)) = W at *
  have MM := Lib.hid M
  obtain ⟨b0, b1, b3, b4, c0, c1, cv, fr, own, hs, same, others, rest⟩ := M
  have fv := fr 16
  have hBW : B < W.heap.size := by omega
  have l0 : w.heap.size < W.heap.size := by omega
  have l1 : w.heap.size + 1 < W.heap.size := by omega
  have l3 : w.heap.size + 1 + 1 + 1 < W.heap.size := by omega
  have l4 : w.heap.size + 1 + 1 + 1 + 1 < W.heap.size := by omega
  have OWN := Lib.hid own
  have LT := Lib.hid own.lt
  have SAME := Lib.hid same
  have OTH := Lib.hid others
  have FR := Lib.hid fr
  have REST := Lib.hid rest
  have HS := Lib.hid hs
  clear own same others fr rest hs
  refine wp_region_L (fun w' => w'.cell? ⟨w.heap.size, 0, none⟩ = some (.pointer (some ⟨B, 0, none⟩)) ∧ w'.cell? ⟨w.heap.size + 1, 0, none⟩ = some (.int .i64 k) ∧ w'.cell? ⟨B, k * 2 + 1, none⟩ = some (.int .i64 (fen k + 1)) ∧ w'.cell? ⟨B, k * 2, none⟩ = some (.int .i64 (rep k)) ∧ w'.cell? ⟨w.heap.size + 1 + 1 + 1, 0, none⟩ = some (.int .i64 r) ∧ w'.cell? ⟨w.heap.size + 1 + 1 + 1 + 1, 0, none⟩ = some (.int .i64 b) ∧ w'.cell? ⟨B, 16, none⟩ = some v) 21 (by kernel_rfl) ⟨b0, b1, c1, c0, b3, b4, cv⟩ (fun hHeld => ?_)
  refine wpL_takeAt (i := 0) 31 (v := ?v0) rfl (by kernel_rfl) (by kernel_rfl) (by kernel_rfl) (by kernel_rfl) (by kernel_rfl) (fun _ _ _ h => h) (Or.inl ⟨by rfl, ?h0⟩) (by assumption) ?r0
  case h0 => intro w hSw; (try dsimp only at hSw); go_simp; (try with_reducible rfl)
  simp only [Act.put, List.setIfInBounds_toArray, List.set_cons_zero, List.set_cons_succ]
  refine wpL_takeAt (i := 1) 32 (v := ?v1) rfl (by kernel_rfl) (by kernel_rfl) (by kernel_rfl) (by kernel_rfl) (by kernel_rfl) (fun _ _ _ h => h) (Or.inl ⟨by rfl, ?h1⟩) (by assumption) ?r1
  case h1 => intro w hSw; (try dsimp only at hSw); go_simp; (try with_reducible rfl)
  simp only [Act.put, List.setIfInBounds_toArray, List.set_cons_zero, List.set_cons_succ]
  refine wpL_takeAt (i := 2) 33 (v := ?v2) rfl (by kernel_rfl) (by kernel_rfl) (by kernel_rfl) (by kernel_rfl) (by kernel_rfl) (fun _ _ _ h => h) (Or.inl ⟨by rfl, ?h2⟩) (by assumption) ?r2
  case h2 => intro w hSw; (try dsimp only at hSw); go_simp; (try with_reducible rfl)
  simp only [Act.put, List.setIfInBounds_toArray, List.set_cons_zero, List.set_cons_succ]
  refine wpL_takeAt (i := 3) 34 (v := ?v3) rfl (by kernel_rfl) (by kernel_rfl) (by kernel_rfl) (by kernel_rfl) (by kernel_rfl) (fun _ _ _ h => h) (Or.inl ⟨by rfl, ?h3⟩) (by assumption) ?r3
  case h3 => intro w hSw; (try dsimp only at hSw); go_simp; (try with_reducible rfl)
  simp only [Act.put, List.setIfInBounds_toArray, List.set_cons_zero, List.set_cons_succ]
  refine wpL_takeAt (i := 4) 35 (v := ?v4) rfl (by kernel_rfl) (by kernel_rfl) (by kernel_rfl) (by kernel_rfl) (by kernel_rfl) (fun _ _ _ h => h) (Or.inl ⟨by rfl, ?h4⟩) (by assumption) ?r4
  case h4 => intro w hSw; (try dsimp only at hSw); go_simp; (try with_reducible rfl)
  simp only [Act.put, List.setIfInBounds_toArray, List.set_cons_zero, List.set_cons_succ]
  refine wpL_takeAt (i := 5) 36 (v := ?v5) rfl (by kernel_rfl) (by kernel_rfl) (by kernel_rfl) (by kernel_rfl) (by kernel_rfl) (fun _ _ _ h => h) (Or.inl ⟨by rfl, ?h5⟩) (by assumption) ?r5
  case h5 => intro w hSw; (try dsimp only at hSw); go_simp; (try with_reducible rfl)
  simp only [Act.put, List.setIfInBounds_toArray, List.set_cons_zero, List.set_cons_succ]
  refine wpL_takeAt (i := 6) 37 (v := ?v6) rfl (by kernel_rfl) (by kernel_rfl) (by kernel_rfl) (by kernel_rfl) (by kernel_rfl) (fun _ _ _ h => h) (Or.inl ⟨by rfl, ?h6⟩) (by assumption) ?r6
  case h6 => intro w hSw; (try dsimp only at hSw); go_simp; (try with_reducible rfl)
  simp only [Act.put, List.setIfInBounds_toArray, List.set_cons_zero, List.set_cons_succ]
  refine wpL_takeAt (i := 7) 38 (v := ?v7) rfl (by kernel_rfl) (by kernel_rfl) (by kernel_rfl) (by kernel_rfl) (by kernel_rfl) (fun _ _ _ h => h) (Or.inl ⟨by rfl, ?h7⟩) (by assumption) ?r7
  case h7 => intro w hSw; (try dsimp only at hSw); go_simp; (try with_reducible rfl)
  simp only [Act.put, List.setIfInBounds_toArray, List.set_cons_zero, List.set_cons_succ]
  refine wpL_takeAt (i := 8) 39 (v := ?v8) rfl (by kernel_rfl) (by kernel_rfl) (by kernel_rfl) (by kernel_rfl) (by kernel_rfl) (fun _ _ _ h => h) (Or.inl ⟨by rfl, ?h8⟩) (by assumption) ?r8
  case h8 => intro w hSw; (try dsimp only at hSw); go_simp; (try with_reducible rfl)
  simp only [Act.put, List.setIfInBounds_toArray, List.set_cons_zero, List.set_cons_succ]
  refine wpL_takeAt (i := 9) 40 (v := ?v9) rfl (by kernel_rfl) (by kernel_rfl) (by kernel_rfl) (by kernel_rfl) (by kernel_rfl) (fun _ _ _ h => h) (Or.inl ⟨by rfl, ?h9⟩) (by assumption) ?r9
  case h9 => intro w hSw; (try dsimp only at hSw); go_simp; (try with_reducible rfl)
  simp only [Act.put, List.setIfInBounds_toArray, List.set_cons_zero, List.set_cons_succ]
  refine wpL_takeAt (i := 10) 41 (v := ?v10) rfl (by kernel_rfl) (by kernel_rfl) (by kernel_rfl) (by kernel_rfl) (by kernel_rfl) (fun _ _ _ h => h) (Or.inl ⟨by rfl, ?h10⟩) (by assumption) ?r10
  case h10 => intro w hSw; (try dsimp only at hSw); go_simp; (try with_reducible rfl)
  simp only [Act.put, List.setIfInBounds_toArray, List.set_cons_zero, List.set_cons_succ]
  refine wpL_takeAt (i := 11) 42 (v := ?v11) rfl (by kernel_rfl) (by kernel_rfl) (by kernel_rfl) (by kernel_rfl) (by kernel_rfl) (fun _ _ _ h => h) (Or.inl ⟨by rfl, ?h11⟩) (by assumption) ?r11
  case h11 => intro w hSw; (try dsimp only at hSw); go_simp; (try with_reducible rfl)
  simp only [Act.put, List.setIfInBounds_toArray, List.set_cons_zero, List.set_cons_succ]
  refine wpL_takeAt (i := 12) 43 (v := ?v12) rfl (by kernel_rfl) (by kernel_rfl) (by kernel_rfl) (by kernel_rfl) (by kernel_rfl) (fun _ _ _ h => h) (Or.inl ⟨by rfl, ?h12⟩) (by assumption) ?r12
  case h12 => intro w hSw; (try dsimp only at hSw); go_simp; (try with_reducible rfl)
  simp only [Act.put, List.setIfInBounds_toArray, List.set_cons_zero, List.set_cons_succ]
  refine wpL_takeAt (i := 13) 44 (v := ?v13) rfl (by kernel_rfl) (by kernel_rfl) (by kernel_rfl) (by kernel_rfl) (by kernel_rfl) (fun _ _ _ h => h) (Or.inl ⟨by rfl, ?h13⟩) (by assumption) ?r13
  case h13 => intro w hSw; (try dsimp only at hSw); go_simp; (try with_reducible rfl)
  simp only [Act.put, List.setIfInBounds_toArray, List.set_cons_zero, List.set_cons_succ]
  refine wpL_takeAt (i := 14) 45 (v := ?v14) rfl (by kernel_rfl) (by kernel_rfl) (by kernel_rfl) (by kernel_rfl) (by kernel_rfl) (fun _ _ _ h => h) (Or.inl ⟨by rfl, ?h14⟩) (by assumption) ?r14
  case h14 => intro w hSw; (try dsimp only at hSw); go_simp; (try with_reducible rfl)
  simp only [Act.put, List.setIfInBounds_toArray, List.set_cons_zero, List.set_cons_succ]
  refine wpL_takeAt (i := 15) 46 (v := ?v15) rfl (by kernel_rfl) (by kernel_rfl) (by kernel_rfl) (by kernel_rfl) (by kernel_rfl) (fun _ _ _ h => h) (Or.inl ⟨by rfl, ?h15⟩) (by assumption) ?r15
  case h15 => intro w hSw; (try dsimp only at hSw); go_simp; (try with_reducible rfl)
  simp only [Act.put, List.setIfInBounds_toArray, List.set_cons_zero, List.set_cons_succ]
  refine wpL_takeAt (i := 16) 47 (v := ?v16) rfl (by kernel_rfl) (by kernel_rfl) (by kernel_rfl) (by kernel_rfl) (by kernel_rfl) (fun _ _ _ h => h) (Or.inl ⟨by rfl, ?h16⟩) (by assumption) ?r16
  case h16 => intro w hSw; (try dsimp only at hSw); go_simp; (try with_reducible rfl)
  simp only [Act.put, List.setIfInBounds_toArray, List.set_cons_zero, List.set_cons_succ]
  refine wpL_one (i := 17) (by kernel_rfl) rfl (fun K hK => ?_)
  go_simp
  refine hK.out _ _ (fun _ => ?sa) (fun hH => ?ra)
  case sa => exact ⟨(World.cell?_alloc_lt W _ _ l0).trans b0, (World.cell?_alloc_lt W _ _ l1).trans b1, (World.cell?_alloc_lt W _ _ hBW).trans c1, (World.cell?_alloc_lt W _ _ hBW).trans c0, (World.cell?_alloc_lt W _ _ l3).trans b3, (World.cell?_alloc_lt W _ _ l4).trans b4, (World.cell?_alloc_lt W _ _ hBW).trans cv⟩
  clear hK K hHeld
  refine wpL_one (i := 18) (by kernel_rfl) rfl (fun K hK => ?_)
  (refine step_append_lies _ rfl (.tmp 35) (.tmp 48) 41 rfl (B + 1) 47 i0 (.agg #[.int .i64 0, .int .i64 0, .int .i64 0, .int .i64 0, .int .i64 0]) 5 40 Try.underlying41 hi hz0 hz1 hz2 rfl (by decide) v n xs rfl ((World.ownsRow.alloc (w := W) OWN.out _)) ⟨W.heap.size, 0, none⟩ 1 1 (newW k r b rep fen) rfl rfl (World.news_of_block (cs := #[.int .i64 k, .int .i64 (fen k + 1), .int .i64 (rep k), .int .i64 r, .int .i64 b]) (t := 47) (fr := (0, 0)) (heap_alloc_new W _)) (by simp [Value.oneCell']) (by decide) (by unfold maxLen; omega) (by omega) (by simp; omega) (W.heap.size + 1) (by simp) ?_; intro g cap w1 hown1 hgrow1 hat1 hlt1)
  have ne : ∀ x, (x = B ∨ w.heap.size ≤ x) → some x ≠ v.ownBlock := fun x hx e => by have := VLT.out x e.symm; omega
  have q0 := far_cell hgrow1 b0 l0 (ne _ (.inr (Nat.le_refl _)))
  have q1 := far_cell hgrow1 b1 l1 (ne _ (.inr (by show _ ≤ w.heap.size + 1; omega)))
  have q3 := far_cell hgrow1 b3 l3 (ne _ (.inr (by show _ ≤ w.heap.size + 1 + 1 + 1; omega)))
  have q4 := far_cell hgrow1 b4 l4 (ne _ (.inr (by show _ ≤ w.heap.size + 1 + 1 + 1 + 1; omega)))
  have p0 := far_cell hgrow1 c0 hBW (ne _ (.inl rfl))
  have p1 := far_cell hgrow1 c1 hBW (ne _ (.inl rfl))
  have pv := far_cell hgrow1 cv hBW (ne _ (.inl rfl))
  have pf : w1.frozen? ⟨B, 16, none⟩ = false := (hgrow1.frozen_far ⟨B, 16, none⟩ (by simp; omega) (ne B (.inl rfl))).trans ((World.frozen?_of_block (Below.heap_alloc W _ _ hBW)).trans fv)
  refine hK.out _ _ (fun _ => ⟨q0, q1, p1, p0, q3, q4, pv⟩) (fun hH => ?rb)
  clear hK K hH
  simp only [Act.put, List.setIfInBounds_toArray]
  have late := late_at (v := v) (B := B) hk hB MM.out VLT.out hgrow1 hown1
  have hat2 : some g = v.ownBlock ∨ w.heap.size + 5 ≤ g := hat1.imp (fun e => e.symm) (fun e => by omega)
  have LATE := Lib.hid late
  have HAT := Lib.hid hat2
  clear late hat2 hat1 hown1 hgrow1 MM OWN LT SAME OTH FR REST HS
  refine wpL_one (i := 19) (by kernel_rfl) rfl (fun K hK => ?_)
  go_simp
  refine hK.out _ _ (fun _ => ⟨q0, q1, p1, p0, q3, q4, pv⟩) (fun _ => ?ro19)
  clear hK K
  try simp only [Act.put, List.setIfInBounds_toArray, List.set_cons_zero, List.set_cons_succ]
  refine wpL_one (i := 20) (by kernel_rfl) rfl (fun K hK => ?_)
  go_simp
  refine hK.out _ _ (fun _ => ⟨q0, q1, p1, p0, q3, q4, pv⟩) (fun _ => ?ro20)
  clear hK K
  try simp only [Act.put, List.setIfInBounds_toArray, List.set_cons_zero, List.set_cons_succ]
  refine wpL_one (i := 21) (by kernel_rfl) rfl (fun K hK => ?_)
  go_simp
  refine hK.out _ _ (fun hne => absurd rfl hne) (fun _ => ?rc)
  clear hK K
  try simp only [Act.put, List.setIfInBounds_toArray, List.set_cons_zero, List.set_cons_succ]
  refine wpL_done (by kernel_rfl) ?_ _
  clear pf pv p0 p1 q0 q1 q3 q4 ne b0 b1 b3 b4 c0 c1 cv fv l0 l1 l3 l4 hBW
  generalize w1.setCell _ _ = W2 at *
  have b0 := LATE.out.b0
  have b1 := LATE.out.b1
  have b3 := LATE.out.b3
  have c0 := LATE.out.c0
  have cv := LATE.out.cv
  have f0 := LATE.out.fr (k * 2)
  have hlen : decide (((n + 1 : Nat) : Int) > 256) = true := decide_eq_true (by omega)
  have hlen2 : decide ((n : Int) + 1 > 256) = true := decide_eq_true (by omega)
  have hsub : (n : Int) + 1 - 256 = 1 := by omega
  have hbox : w.heap.size + 5 ≤ W2.heap.size := LATE.out.size
  go_wp2_with fail
  rcases LATE.out.own.2 with ⟨h0, _⟩ | ⟨g', cap', cur, hvg, hbg, hg, hcap, hmax, hsz, htk⟩
  · cases h0
  cases hvg
  have hxl : xs.length = n * 5 := by have := LATE.out.own.1; simp at this; omega
  have h1c : ∀ u ∈ cur.toList.take ((n + 1) * 5), u.oneCell' = true := by
    rw [htk]
    intro u hu
    rcases List.mem_append.1 hu with h | h
    · exact H1X.out u h
    · simp at h; rcases h with rfl | rfl | rfl | rfl | rfl <;> rfl
  have DEL := fun (W : World) (hb : W.heap[g]? = some (.cells cur 47 (0, 0))) => delete_first g n cap cur W hb (by omega) hcap hmax hsz h1c
  have HDEL := Lib.hid DEL
  have HG := Lib.hid hg
  have HTK := Lib.hid htk
  have HXL := Lib.hid hxl
  have HSZ := Lib.hid hsz
  clear DEL hg htk hxl hsz h1c
  refine wp_region_L (fun w' => w'.cell? ⟨w.heap.size, 0, none⟩ = some (.pointer (some ⟨B, 0, none⟩)) ∧ w'.cell? ⟨B, 16, none⟩ = some (Value.slice (some { block := g, off := 0 }) (n + 1) cap)) 14 (by kernel_rfl) ⟨b0, cv⟩ (fun hHeld => ?_)
  refine wpL_takeAt (i := 0) 58 (v := ?v30) rfl (by kernel_rfl) (by kernel_rfl) (by kernel_rfl) (by kernel_rfl) (by kernel_rfl) (fun _ _ _ h => h) (Or.inl ⟨by rfl, ?h30⟩) (by assumption) ?r30
  case h30 => intro w hSw; (try dsimp only at hSw); go_simp; (try with_reducible rfl)
  simp only [Act.put, List.setIfInBounds_toArray, List.set_cons_zero, List.set_cons_succ]
  refine wpL_takeAt (i := 1) 59 (v := ?v31) rfl (by kernel_rfl) (by kernel_rfl) (by kernel_rfl) (by kernel_rfl) (by kernel_rfl) (fun _ _ _ h => h) (Or.inl ⟨by rfl, ?h31⟩) (by assumption) ?r31
  case h31 => intro w hSw; (try dsimp only at hSw); go_simp; (try with_reducible rfl)
  simp only [Act.put, List.setIfInBounds_toArray, List.set_cons_zero, List.set_cons_succ]
  refine wpL_takeAt (i := 2) 60 (v := ?v32) rfl (by kernel_rfl) (by kernel_rfl) (by kernel_rfl) (by kernel_rfl) (by kernel_rfl) (fun _ _ _ h => h) (Or.inl ⟨by rfl, ?h32⟩) (by assumption) ?r32
  case h32 => intro w hSw; (try dsimp only at hSw); go_simp; (try with_reducible rfl)
  simp only [Act.put, List.setIfInBounds_toArray, List.set_cons_zero, List.set_cons_succ]
  refine wpL_takeAt (i := 3) 61 (v := ?v33) rfl (by kernel_rfl) (by kernel_rfl) (by kernel_rfl) (by kernel_rfl) (by kernel_rfl) (fun _ _ _ h => h) (Or.inl ⟨by rfl, ?h33⟩) (by assumption) ?r33
  case h33 => intro w hSw; (try dsimp only at hSw); go_simp; (try with_reducible rfl)
  simp only [Act.put, List.setIfInBounds_toArray, List.set_cons_zero, List.set_cons_succ]
  refine wpL_takeAt (i := 4) 62 (v := ?v34) rfl (by kernel_rfl) (by kernel_rfl) (by kernel_rfl) (by kernel_rfl) (by kernel_rfl) (fun _ _ _ h => h) (Or.inl ⟨by rfl, ?h34⟩) (by assumption) ?r34
  case h34 => intro w hSw; (try dsimp only at hSw); go_simp; (try with_reducible rfl)
  simp only [Act.put, List.setIfInBounds_toArray, List.set_cons_zero, List.set_cons_succ]
  refine wpL_takeAt (i := 5) 63 (v := ?v35) rfl (by kernel_rfl) (by kernel_rfl) (by kernel_rfl) (by kernel_rfl) (by kernel_rfl) (fun _ _ _ h => h) (Or.inl ⟨by rfl, ?h35⟩) (by assumption) ?r35
  case h35 => intro w hSw; (try dsimp only at hSw); go_simp; (try with_reducible rfl)
  simp only [Act.put, List.setIfInBounds_toArray, List.set_cons_zero, List.set_cons_succ]
  refine wpL_takeAt (i := 6) 64 (v := ?v36) rfl (by kernel_rfl) (by kernel_rfl) (by kernel_rfl) (by kernel_rfl) (by kernel_rfl) (fun _ _ _ h => h) (Or.inl ⟨by rfl, ?h36⟩) (by assumption) ?r36
  case h36 => intro w hSw; (try dsimp only at hSw); go_simp; (try with_reducible rfl)
  simp only [Act.put, List.setIfInBounds_toArray, List.set_cons_zero, List.set_cons_succ]
  refine wpL_takeAt (i := 7) 65 (v := ?v37) rfl (by kernel_rfl) (by kernel_rfl) (by kernel_rfl) (by kernel_rfl) (by kernel_rfl) (fun _ _ _ h => h) (Or.inl ⟨by rfl, ?h37⟩) (by assumption) ?r37
  case h37 => intro w hSw; (try dsimp only at hSw); go_simp; (try with_reducible rfl)
  simp only [Act.put, List.setIfInBounds_toArray, List.set_cons_zero, List.set_cons_succ]
  refine wpL_takeAt (i := 8) 66 (v := ?v38) rfl (by kernel_rfl) (by kernel_rfl) (by kernel_rfl) (by kernel_rfl) (by kernel_rfl) (fun _ _ _ h => h) (Or.inl ⟨by rfl, ?h38⟩) (by assumption) ?r38
  case h38 => intro w hSw; (try dsimp only at hSw); go_simp; (try with_reducible rfl)
  simp only [Act.put, List.setIfInBounds_toArray, List.set_cons_zero, List.set_cons_succ]
  refine wpL_takeAt (i := 9) 67 (v := ?v39) rfl (by kernel_rfl) (by kernel_rfl) (by kernel_rfl) (by kernel_rfl) (by kernel_rfl) (fun _ _ _ h => h) (Or.inl ⟨by rfl, ?h39⟩) (by assumption) ?r39
  case h39 => intro w hSw; (try dsimp only at hSw); go_simp; (try with_reducible rfl)
  simp only [Act.put, List.setIfInBounds_toArray, List.set_cons_zero, List.set_cons_succ]
  refine wpL_takeAt (i := 10) 68 (v := ?v40) rfl (by kernel_rfl) (by kernel_rfl) (by kernel_rfl) (by kernel_rfl) (by kernel_rfl) (fun _ _ _ h => h) (Or.inl ⟨by rfl, ?h40⟩) (by assumption) ?r40
  case h40 => intro w hSw; (try dsimp only at hSw); go_simp; (try with_reducible rfl)
  simp only [Act.put, List.setIfInBounds_toArray, List.set_cons_zero, List.set_cons_succ]
  clear hHeld
  refine wpL_one (i := 11) (by kernel_rfl) rfl (fun K hK => ?_)
  go_simp
  refine (HDEL.out W2.drew HG.out).mono ?_
  rintro e w3 ⟨rfl, r3, s3, h3, o3, t3, u3⟩
  have LD := late_del hk hB (by omega) LATE.out hbg HAT.out VLT.out HG.out hcap hmax HSZ.out HTK.out r3 s3 h3 o3 t3 u3
  obtain ⟨⟨d0, dv, df⟩, L3⟩ := LD
  have HL3 := Lib.hid L3
  clear L3 r3 s3 h3 o3 t3 u3 b0 b1 b3 c0 cv f0
  refine hK.out _ _ (fun _ => ⟨d0, dv⟩) (fun _ => ?rd)
  clear hK K
  try simp only [Act.put, List.setIfInBounds_toArray, List.set_cons_zero, List.set_cons_succ]
  refine wpL_one (i := 12) (by kernel_rfl) rfl (fun K hK => ?_)
  go_simp
  refine hK.out _ _ (fun _ => ⟨d0, dv⟩) (fun _ => ?ro29)
  clear hK K
  try simp only [Act.put, List.setIfInBounds_toArray, List.set_cons_zero, List.set_cons_succ]
  refine wpL_one (i := 13) (by kernel_rfl) rfl (fun K hK => ?_)
  go_simp
  refine hK.out _ _ (fun _ => ⟨d0, dv⟩) (fun _ => ?ro30)
  clear hK K
  try simp only [Act.put, List.setIfInBounds_toArray, List.set_cons_zero, List.set_cons_succ]
  refine wpL_one (i := 14) (by kernel_rfl) rfl (fun K hK => ?_)
  go_simp
  refine hK.out _ _ (fun hne => absurd rfl hne) (fun _ => ?rx)
  clear hK K
  try simp only [Act.put, List.setIfInBounds_toArray, List.set_cons_zero, List.set_cons_succ]
  refine wpL_done (by kernel_rfl) ?_ _
  clear d0 dv df
  generalize w3.setCell _ _ = W4 at *
  have b0 := HL3.out.b0
  have b1 := HL3.out.b1
  have b3 := HL3.out.b3
  have c0 := HL3.out.c0
  have cv := HL3.out.cv
  have f0 := HL3.out.fr (k * 2)
  go_wp2_with fail
  go_ret
  refine ⟨rfl, _, wrote_of (b := b) hk hB HC.out HL3.out ?_⟩
  rcases HAT.out with h | h5
  · exact .inl h
  · exact .inr ⟨g, rfl, by omega⟩
end Go.Proofs.Ytjkaegdlpmpneaa
