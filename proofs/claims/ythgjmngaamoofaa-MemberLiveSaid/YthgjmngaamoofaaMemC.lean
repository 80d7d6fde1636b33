/- Hear of a word that may be. -/
import Derived.Test.YthgjmngaamoofaaMemB
namespace Go.Proofs.Ythgjmngaamoofaa
open Go.RowKit
set_option linter.unusedVariables false

/-- The two boxes that Hear makes of its word, behind 'may'. -/
structure HearAt (w W : World) (B : Nat) (k s i : Int) : Prop where
  b0 : W.cell? ⟨w.heap.size + 1, 0, none⟩ = some (.int .i64 k)
  b1 : W.cell? ⟨w.heap.size + 1, 1, none⟩ = some (.int .i64 s)
  b2 : W.cell? ⟨w.heap.size + 1, 2, none⟩ = some (.int .i64 i)
  bel : Below w.heap.size w W
  sz : w.heap.size + 2 ≤ W.heap.size
theorem HearAt.below {w W W' : World} {B : Nat} {k s i : Int} (h : HearAt w W B k s i) (hb : Below W.heap.size W W') : HearAt w W' B k s i :=
  ⟨(hb.cell (p := ⟨w.heap.size + 1, 0, none⟩) h.sz).trans h.b0, (hb.cell (p := ⟨w.heap.size + 1, 1, none⟩) h.sz).trans h.b1, (hb.cell (p := ⟨w.heap.size + 1, 2, none⟩) h.sz).trans h.b2, h.bel.trans (hb.mono h.bel.size), Nat.le_trans h.sz hb.size⟩
theorem hear_at (w : World) (B : Nat) (k s i : Int) : HearAt w ((w.alloc (.cells #[.int .i64 k, .int .i64 s, .int .i64 i] 29)).alloc (.cells #[.int .i64 k, .int .i64 s, .int .i64 i] 40)) B k s i := by
  refine ⟨?_, ?_, ?_, ((Below.refl _ _).alloc (Nat.le_refl _) _).alloc (by simp) _, by simp⟩ <;> simp [World.cell?_alloc_at]

set_option maxHeartbeats 2000000 in
theorem tab_set {W : World} {B k : Nat} {s i sf : Int} {T : Pl.Tab} (hk : k < 8) (h : TabAt W B sf T) :
    TabAt ((((W.setCell ⟨B, 1 + k, none⟩ (.bool true)).setCell ⟨B, 9 + k * 3, none⟩ (.int .i64 k)).setCell ⟨B, 9 + k * 3 + 1, none⟩ (.int .i64 s)).setCell ⟨B, 9 + k * 3 + 2, none⟩ (.int .i64 i)).drew B sf (T.set k s i) ∧
    Turned W ((((W.setCell ⟨B, 1 + k, none⟩ (.bool true)).setCell ⟨B, 9 + k * 3, none⟩ (.int .i64 k)).setCell ⟨B, 9 + k * 3 + 1, none⟩ (.int .i64 s)).setCell ⟨B, 9 + k * 3 + 2, none⟩ (.int .i64 i)).drew B := by
  have sz : ((((W.setCell ⟨B, 1 + k, none⟩ (.bool true)).setCell ⟨B, 9 + k * 3, none⟩ (.int .i64 k)).setCell ⟨B, 9 + k * 3 + 1, none⟩ (.int .i64 s)).setCell ⟨B, 9 + k * 3 + 2, none⟩ (.int .i64 i)).drew.heap.size = W.heap.size := by simp [World.setCell]
  have cl : ∀ o, ((((W.setCell ⟨B, 1 + k, none⟩ (.bool true)).setCell ⟨B, 9 + k * 3, none⟩ (.int .i64 k)).setCell ⟨B, 9 + k * 3 + 1, none⟩ (.int .i64 s)).setCell ⟨B, 9 + k * 3 + 2, none⟩ (.int .i64 i)).drew.cell? ⟨B, o, none⟩ =
      if o = 1 + k then some (.bool true) else if o = 9 + k * 3 then some (.int .i64 k) else if o = 9 + k * 3 + 1 then some (.int .i64 s) else if o = 9 + k * 3 + 2 then some (.int .i64 i) else W.cell? ⟨B, o, none⟩ := by
    intro o
    have c0 := h.no k hk
    have c1 := h.st k hk
    have c2 := h.inc k hk
    have k0 := h.kn k hk
    show ((((W.setCell ⟨B, 1 + k, none⟩ (.bool true)).setCell ⟨B, 9 + k * 3, none⟩ (.int .i64 k)).setCell ⟨B, 9 + k * 3 + 1, none⟩ (.int .i64 s)).setCell ⟨B, 9 + k * 3 + 2, none⟩ (.int .i64 i)).cell? ⟨B, o, none⟩ = _
    by_cases h3 : o = 9 + k * 3 + 2
    · subst h3
      rw [if_neg (by omega), if_neg (by omega), if_neg (by omega), if_pos rfl]
      exact World.cell?_setCell_same _ _ _ (by rw [World.cell?_setCell_other _ _ _ _ (by simp), World.cell?_setCell_other _ _ _ _ (by simp), World.cell?_setCell_other _ _ _ _ (by simp <;> omega)]; exact c2)
    · rw [World.cell?_setCell_other _ _ _ _ (by simp <;> omega)]
      by_cases h2 : o = 9 + k * 3 + 1
      · subst h2
        rw [if_neg (by omega), if_neg (by omega), if_pos rfl]
        exact World.cell?_setCell_same _ _ _ (by rw [World.cell?_setCell_other _ _ _ _ (by simp), World.cell?_setCell_other _ _ _ _ (by simp <;> omega)]; exact c1)
      · rw [World.cell?_setCell_other _ _ _ _ (by simp <;> omega)]
        by_cases h1 : o = 9 + k * 3
        · subst h1
          rw [if_neg (by omega), if_pos rfl]
          exact World.cell?_setCell_same _ _ _ (by rw [World.cell?_setCell_other _ _ _ _ (by simp <;> omega)]; exact c0)
        · rw [World.cell?_setCell_other _ _ _ _ (by simp <;> omega)]
          by_cases h0 : o = 1 + k
          · subst h0
            rw [if_pos rfl]
            exact World.cell?_setCell_same _ _ _ k0
          · rw [World.cell?_setCell_other _ _ _ _ (by simp <;> omega), if_neg h0, if_neg h1, if_neg h2, if_neg h3]
  refine ⟨⟨by rw [sz]; exact h.lt, ?_, ?_, ?_, ?_, ?_, ?_⟩, ⟨by rw [sz]; exact Nat.le_refl _, ?_, rfl, rfl, rfl⟩⟩
  · rw [cl, if_neg (by omega), if_neg (by omega), if_neg (by omega), if_neg (by omega)]; exact h.own
  · intro j hj
    rw [cl]
    unfold Pl.Tab.set
    by_cases e : j = k
    · subst e; rw [if_pos rfl]; simp
    · rw [if_neg (by omega), if_neg (by omega), if_neg (by omega), if_neg (by omega)]; simp only [if_neg e]; exact h.kn j hj
  · intro j hj
    rw [cl]
    unfold Pl.Tab.set
    by_cases e : j = k
    · subst e; rw [if_neg (by omega), if_pos rfl]; simp
    · rw [if_neg (by omega), if_neg (by omega), if_neg (by omega), if_neg (by omega)]; simp only [if_neg e]; exact h.no j hj
  · intro j hj
    rw [cl]
    unfold Pl.Tab.set
    by_cases e : j = k
    · subst e; rw [if_neg (by omega), if_neg (by omega), if_pos rfl]; simp
    · rw [if_neg (by omega), if_neg (by omega), if_neg (by omega), if_neg (by omega)]; simp only [if_neg e]; exact h.st j hj
  · intro j hj
    rw [cl]
    unfold Pl.Tab.set
    by_cases e : j = k
    · subst e; rw [if_neg (by omega), if_neg (by omega), if_neg (by omega), if_pos rfl]; simp
    · rw [if_neg (by omega), if_neg (by omega), if_neg (by omega), if_neg (by omega)]; simp only [if_neg e]; exact h.inc j hj
  · intro o
    exact ((World.frozen?_setCell _ _ _ _).trans ((World.frozen?_setCell _ _ _ _).trans ((World.frozen?_setCell _ _ _ _).trans (World.frozen?_setCell _ _ _ _)))).trans (h.fr o)
  · intro x hx hne
    exact (Below.heap_setCell _ _ _ _ hne).trans ((Below.heap_setCell _ _ _ _ hne).trans ((Below.heap_setCell _ _ _ _ hne).trans (Below.heap_setCell _ _ _ _ hne)))

theorem Turned.of_hear {w W W' : World} {B : Nat} {k s i : Int} (h : HearAt w W B k s i) (t : Turned W W' B) : Turned w W' B :=
  ⟨Nat.le_trans h.bel.size t.size, fun j hj hne => (t.same j (Nat.lt_of_lt_of_le hj h.bel.size) hne).trans (h.bel.block j hj), t.rest.1.trans h.bel.os, t.rest.2.1.trans h.bel.tape, t.rest.2.2.trans h.bel.output⟩

theorem hear_fresh (B k : Nat) (s i sf : Int) (T : Pl.Tab) (w : World) (hk : k < 8) (h : TabAt w B sf T) (hmay : Pl.may k s i = true) (hnew : T.known k = false) :
    Calls Try.prog 6 #[.pointer (some ⟨B, 0, none⟩), .agg #[.int .i64 k, .int .i64 s, .int .i64 i]] w fun e w' => e = .returned (.tuple #[.bool true, .int .i64 0]) ∧ TabAt w' B sf (T.set k s i) ∧ Turned w w' B := by
  have a0 : (k : Int) < 8 := by omega
  have HH := Lib.hid h
  have HN := Lib.hid hnew
  clear h hnew
  go_enter Try.func6, Try.ntmps6
  go_wp2_with fail
  refine (may_any k s i _).mono ?_
  rintro e w1 ⟨rfl, b1⟩
  rw [hmay]
  have A := (hear_at w B k s i).below b1
  have k0 := (A.bel.cell (p := ⟨B, 1 + k, none⟩) HH.out.lt).trans (HH.out.kn k hk)
  rw [HN.out] at k0
  have HA := Lib.hid A
  obtain ⟨y0, y1, y2, _, _⟩ := id A
  clear A b1
  go_wp2_with fail
  go_quiet (fail)
  go_wp2_with fail
  have HA3 := Lib.hid (HA.out.below (below_drewN (Below.refl _ _) nq))
  clear k0 y0 y1 y2 HA
  generalize w1.drewN nq = W at *
  have HA2 := HA3.out
  have HT := HH.out.below HA2.bel
  have hHA2 := Lib.hid HA2
  have hHT := Lib.hid HT
  clear HA3
  have c0 := HT.no k hk
  have c1 := HT.st k hk
  have c2 := HT.inc k hk
  have k0 := HT.kn k hk
  have f0 := HT.fr (1 + k)
  have f1 := HT.fr (9 + k * 3)
  have f2 := HT.fr (9 + k * 3 + 1)
  have f3 := HT.fr (9 + k * 3 + 2)
  have y0 := HA2.b0
  have y1 := HA2.b1
  have y2 := HA2.b2
  have hne : B ≠ w.heap.size + 1 := by have := HH.out.lt; omega
  have hne' : w.heap.size + 1 ≠ B := fun e => hne e.symm
  clear HA2 HT
  go_region
  go_wp2_with fail
  obtain ⟨A, t⟩ := tab_set (s := s) (i := i) hk hHT.out
  exact bodyPost_ret (v := .tuple #[.bool true, .int .i64 0]) (by simp [results, Try.results6, go_sem]) rfl ⟨rfl, A, t.of_hear hHA2.out⟩

theorem hear_old (B k : Nat) (s i sf : Int) (T : Pl.Tab) (w : World) (hk : k < 8) (h : TabAt w B sf T) (hmay : Pl.may k s i = true) (hold : T.known k = true) (hc : decide (Pl.cmp s i (T.st k) (T.inc k) ≤ 0) = true) :
    Calls Try.prog 6 #[.pointer (some ⟨B, 0, none⟩), .agg #[.int .i64 k, .int .i64 s, .int .i64 i]] w fun e w' => e = .returned (.tuple #[.bool false, .int .i64 0]) ∧ Below w.heap.size w w' := by
  have a0 : (k : Int) < 8 := by omega
  have HH := Lib.hid h
  have HN := Lib.hid hold
  have HC := Lib.hid hc
  clear h hold hc
  go_enter Try.func6, Try.ntmps6
  go_wp2_with fail
  refine (may_any k s i _).mono ?_
  rintro e w1 ⟨rfl, b1⟩
  rw [hmay]
  have A := (hear_at w B k s i).below b1
  have k0 := (A.bel.cell (p := ⟨B, 1 + k, none⟩) HH.out.lt).trans (HH.out.kn k hk)
  rw [HN.out] at k0
  have HA := Lib.hid A
  obtain ⟨y0, y1, y2, _, _⟩ := id A
  have c0 := (A.bel.cell (p := ⟨B, 9 + k * 3, none⟩) HH.out.lt).trans (HH.out.no k hk)
  rw [HN.out, if_pos rfl] at c0
  have c1 := (A.bel.cell (p := ⟨B, 9 + k * 3 + 1, none⟩) HH.out.lt).trans (HH.out.st k hk)
  have c2 := (A.bel.cell (p := ⟨B, 9 + k * 3 + 2, none⟩) HH.out.lt).trans (HH.out.inc k hk)
  have hBW := Nat.lt_of_lt_of_le HH.out.lt A.bel.size
  have hsW := A.sz
  clear A b1
  go_wp2_with fail
  refine wp_region_L (fun w' => w'.cell? ⟨B, 1 + k, none⟩ = some (.bool true) ∧ w'.cell? ⟨B, 9 + k * 3, none⟩ = some (.int .i64 k) ∧ w'.cell? ⟨B, 9 + k * 3 + 1, none⟩ = some (.int .i64 (T.st k)) ∧ w'.cell? ⟨B, 9 + k * 3 + 2, none⟩ = some (.int .i64 (T.inc k)) ∧ w'.cell? ⟨w.heap.size + 1, 0, none⟩ = some (.int .i64 k) ∧ w'.cell? ⟨w.heap.size + 1, 1, none⟩ = some (.int .i64 s) ∧ w'.cell? ⟨w.heap.size + 1, 2, none⟩ = some (.int .i64 i)) 99 (by kernel_rfl) ⟨k0, c0, c1, c2, y0, y1, y2⟩ (fun hHeld => ?_)
  refine wpL_takeAt (i := 0) 16 (v := ?va0) rfl (by kernel_rfl) (by kernel_rfl) (by kernel_rfl) (by kernel_rfl) (by kernel_rfl) (fun _ _ _ h => h) (Or.inl ⟨by rfl, ?ha0⟩) (by assumption) ?ra0
  case ha0 => intro w hSw; (try dsimp only at hSw); go_simp; (try with_reducible rfl)
  simp only [Act.put, List.setIfInBounds_toArray, List.set_cons_zero, List.set_cons_succ]
  refine wpL_takeAt (i := 1) 17 (v := ?va1) rfl (by kernel_rfl) (by kernel_rfl) (by kernel_rfl) (by kernel_rfl) (by kernel_rfl) (fun _ _ _ h => h) (Or.inl ⟨by rfl, ?ha1⟩) (by assumption) ?ra1
  case ha1 => intro w hSw; (try dsimp only at hSw); go_simp; (try with_reducible rfl)
  simp only [Act.put, List.setIfInBounds_toArray, List.set_cons_zero, List.set_cons_succ]
  refine wpL_takeAt (i := 2) 18 (v := ?va2) rfl (by kernel_rfl) (by kernel_rfl) (by kernel_rfl) (by kernel_rfl) (by kernel_rfl) (fun _ _ _ h => h) (Or.inl ⟨by rfl, ?ha2⟩) (by assumption) ?ra2
  case ha2 => intro w hSw; (try dsimp only at hSw); go_simp; (try with_reducible rfl)
  simp only [Act.put, List.setIfInBounds_toArray, List.set_cons_zero, List.set_cons_succ]
  refine wpL_takeAt (i := 3) 19 (v := ?va3) rfl (by kernel_rfl) (by kernel_rfl) (by kernel_rfl) (by kernel_rfl) (by kernel_rfl) (fun _ _ _ h => h) (Or.inl ⟨by rfl, ?ha3⟩) (by assumption) ?ra3
  case ha3 => intro w hSw; (try dsimp only at hSw); go_simp; (try with_reducible rfl)
  simp only [Act.put, List.setIfInBounds_toArray, List.set_cons_zero, List.set_cons_succ]
  refine wpL_takeAt (i := 4) 20 (v := ?va4) rfl (by kernel_rfl) (by kernel_rfl) (by kernel_rfl) (by kernel_rfl) (by kernel_rfl) (fun _ _ _ h => h) (Or.inl ⟨by rfl, ?ha4⟩) (by assumption) ?ra4
  case ha4 => intro w hSw; (try dsimp only at hSw); go_simp; (try with_reducible rfl)
  simp only [Act.put, List.setIfInBounds_toArray, List.set_cons_zero, List.set_cons_succ]
  refine wpL_takeAt (i := 5) 21 (v := ?va5) rfl (by kernel_rfl) (by kernel_rfl) (by kernel_rfl) (by kernel_rfl) (by kernel_rfl) (fun _ _ _ h => h) (Or.inl ⟨by rfl, ?ha5⟩) (by assumption) ?ra5
  case ha5 => intro w hSw; (try dsimp only at hSw); go_simp; (try with_reducible rfl)
  simp only [Act.put, List.setIfInBounds_toArray, List.set_cons_zero, List.set_cons_succ]
  refine wpL_takeAt (i := 6) 22 (v := ?va6) rfl (by kernel_rfl) (by kernel_rfl) (by kernel_rfl) (by kernel_rfl) (by kernel_rfl) (fun _ _ _ h => h) (Or.inl ⟨by rfl, ?ha6⟩) (by assumption) ?ra6
  case ha6 => intro w hSw; (try dsimp only at hSw); go_simp; (try with_reducible rfl)
  simp only [Act.put, List.setIfInBounds_toArray, List.set_cons_zero, List.set_cons_succ]
  refine wpL_takeAt (i := 7) 23 (v := ?va7) rfl (by kernel_rfl) (by kernel_rfl) (by kernel_rfl) (by kernel_rfl) (by kernel_rfl) (fun _ _ _ h => h) (Or.inl ⟨by rfl, ?ha7⟩) (by assumption) ?ra7
  case ha7 => intro w hSw; (try dsimp only at hSw); go_simp; (try with_reducible rfl)
  simp only [Act.put, List.setIfInBounds_toArray, List.set_cons_zero, List.set_cons_succ]
  refine wpL_takeAt (i := 8) 24 (v := ?va8) rfl (by kernel_rfl) (by kernel_rfl) (by kernel_rfl) (by kernel_rfl) (by kernel_rfl) (fun _ _ _ h => h) (Or.inl ⟨by rfl, ?ha8⟩) (by assumption) ?ra8
  case ha8 => intro w hSw; (try dsimp only at hSw); go_simp; (try with_reducible rfl)
  simp only [Act.put, List.setIfInBounds_toArray, List.set_cons_zero, List.set_cons_succ]
  refine wpL_takeAt (i := 9) 25 (v := ?va9) rfl (by kernel_rfl) (by kernel_rfl) (by kernel_rfl) (by kernel_rfl) (by kernel_rfl) (fun _ _ _ h => h) (Or.inl ⟨by rfl, ?ha9⟩) (by assumption) ?ra9
  case ha9 => intro w hSw; (try dsimp only at hSw); go_simp; (try with_reducible rfl)
  simp only [Act.put, List.setIfInBounds_toArray, List.set_cons_zero, List.set_cons_succ]
  refine wpL_takeAt (i := 10) 26 (v := ?va10) rfl (by kernel_rfl) (by kernel_rfl) (by kernel_rfl) (by kernel_rfl) (by kernel_rfl) (fun _ _ _ h => h) (Or.inl ⟨by rfl, ?ha10⟩) (by assumption) ?ra10
  case ha10 => intro w hSw; (try dsimp only at hSw); go_simp; (try with_reducible rfl)
  simp only [Act.put, List.setIfInBounds_toArray, List.set_cons_zero, List.set_cons_succ]
  refine wpL_takeAt (i := 11) 27 (v := ?va11) rfl (by kernel_rfl) (by kernel_rfl) (by kernel_rfl) (by kernel_rfl) (by kernel_rfl) (fun _ _ _ h => h) (Or.inl ⟨by rfl, ?ha11⟩) (by assumption) ?ra11
  case ha11 => intro w hSw; (try dsimp only at hSw); go_simp; (try with_reducible rfl)
  simp only [Act.put, List.setIfInBounds_toArray, List.set_cons_zero, List.set_cons_succ]
  refine wpL_takeAt (i := 12) 28 (v := ?va12) rfl (by kernel_rfl) (by kernel_rfl) (by kernel_rfl) (by kernel_rfl) (by kernel_rfl) (fun _ _ _ h => h) (Or.inl ⟨by rfl, ?ha12⟩) (by assumption) ?ra12
  case ha12 => intro w hSw; (try dsimp only at hSw); go_simp; (try with_reducible rfl)
  simp only [Act.put, List.setIfInBounds_toArray, List.set_cons_zero, List.set_cons_succ]
  refine wpL_takeAt (i := 13) 29 (v := ?va13) rfl (by kernel_rfl) (by kernel_rfl) (by kernel_rfl) (by kernel_rfl) (by kernel_rfl) (fun _ _ _ h => h) (Or.inl ⟨by rfl, ?ha13⟩) (by assumption) ?ra13
  case ha13 => intro w hSw; (try dsimp only at hSw); go_simp; (try with_reducible rfl)
  simp only [Act.put, List.setIfInBounds_toArray, List.set_cons_zero, List.set_cons_succ]
  refine wpL_takeAt (i := 14) 30 (v := ?va14) rfl (by kernel_rfl) (by kernel_rfl) (by kernel_rfl) (by kernel_rfl) (by kernel_rfl) (fun _ _ _ h => h) (Or.inl ⟨by rfl, ?ha14⟩) (by assumption) ?ra14
  case ha14 => intro w hSw; (try dsimp only at hSw); go_simp; (try with_reducible rfl)
  simp only [Act.put, List.setIfInBounds_toArray, List.set_cons_zero, List.set_cons_succ]
  refine wpL_takeAt (i := 15) 31 (v := ?va15) rfl (by kernel_rfl) (by kernel_rfl) (by kernel_rfl) (by kernel_rfl) (by kernel_rfl) (fun _ _ _ h => h) (Or.inl ⟨by rfl, ?ha15⟩) (by assumption) ?ra15
  case ha15 => intro w hSw; (try dsimp only at hSw); go_simp; (try with_reducible rfl)
  simp only [Act.put, List.setIfInBounds_toArray, List.set_cons_zero, List.set_cons_succ]
  refine wpL_one (i := 16) (by kernel_rfl) rfl (fun K hK => ?_)
  go_simp
  refine (cmp_any k s i k (T.st k) (T.inc k) _).mono ?_
  rintro e w2 ⟨rfl, b2⟩
  have b2' : Below w1.heap.size w1.drew w2 := b2
  have HA3 := Lib.hid (HA.out.below (((Below.refl w1.heap.size w1).drew).trans b2'))
  have q0 := (b2'.cell (p := ⟨B, 1 + k, none⟩) hBW).trans k0
  have q1 := (b2'.cell (p := ⟨B, 9 + k * 3, none⟩) hBW).trans c0
  have q2 := (b2'.cell (p := ⟨B, 9 + k * 3 + 1, none⟩) hBW).trans c1
  have q3 := (b2'.cell (p := ⟨B, 9 + k * 3 + 2, none⟩) hBW).trans c2
  have q4 := HA3.out.b0
  have q5 := HA3.out.b1
  have q6 := HA3.out.b2
  clear k0 c0 c1 c2 y0 y1 y2 b2 b2' HA hHeld hBW hsW
  refine hK.out _ _ (fun _ => ⟨q0, q1, q2, q3, q4, q5, q6⟩) (fun _ => ?rk0)
  clear hK K
  try simp only [Act.put, List.setIfInBounds_toArray, List.set_cons_zero, List.set_cons_succ]
  have hc := HC.out
  generalize Pl.cmp s i (T.st k) (T.inc k) = cc at *
  refine wpL_one (i := 17) (by kernel_rfl) rfl (fun K hK => ?_)
  go_simp
  refine hK.out _ _ (fun _ => ⟨q0, q1, q2, q3, q4, q5, q6⟩) (fun _ => ?rk17)
  clear hK K
  try simp only [Act.put, List.setIfInBounds_toArray, List.set_cons_zero, List.set_cons_succ]
  refine wpL_one (i := 18) (by kernel_rfl) rfl (fun K hK => ?_)
  go_simp
  refine hK.out _ _ (fun _ => ⟨q0, q1, q2, q3, q4, q5, q6⟩) (fun _ => ?rk18)
  clear hK K
  try simp only [Act.put, List.setIfInBounds_toArray, List.set_cons_zero, List.set_cons_succ]
  refine wpL_one (i := 19) (by kernel_rfl) rfl (fun K hK => ?_)
  go_simp
  refine hK.out _ _ (fun _ => ⟨q0, q1, q2, q3, q4, q5, q6⟩) (fun _ => ?rk19)
  clear hK K
  try simp only [Act.put, List.setIfInBounds_toArray, List.set_cons_zero, List.set_cons_succ]
  clear q0 q1 q2 q3 q4 q5 q6 hc
  refine wpL_done (by kernel_rfl) ?_ _
  go_wp2_with fail
  exact bodyPost_ret (v := .tuple #[.bool false, .int .i64 0]) (by simp [results, Try.results6, go_sem]) rfl ⟨rfl, HA3.out.bel⟩

theorem hear_new (B k : Nat) (s i sf : Int) (T : Pl.Tab) (w : World) (hk : k < 8) (h : TabAt w B sf T) (hmay : Pl.may k s i = true) (hold : T.known k = true) (hc : decide (Pl.cmp s i (T.st k) (T.inc k) ≤ 0) = false) :
    Calls Try.prog 6 #[.pointer (some ⟨B, 0, none⟩), .agg #[.int .i64 k, .int .i64 s, .int .i64 i]] w fun e w' => e = .returned (.tuple #[.bool true, .int .i64 0]) ∧ TabAt w' B sf (T.set k s i) ∧ Turned w w' B := by
  have a0 : (k : Int) < 8 := by omega
  have HH := Lib.hid h
  have HN := Lib.hid hold
  have HC := Lib.hid hc
  clear h hold hc
  go_enter Try.func6, Try.ntmps6
  go_wp2_with fail
  refine (may_any k s i _).mono ?_
  rintro e w1 ⟨rfl, b1⟩
  rw [hmay]
  have A := (hear_at w B k s i).below b1
  have k0 := (A.bel.cell (p := ⟨B, 1 + k, none⟩) HH.out.lt).trans (HH.out.kn k hk)
  rw [HN.out] at k0
  have HA := Lib.hid A
  obtain ⟨y0, y1, y2, _, _⟩ := id A
  have c0 := (A.bel.cell (p := ⟨B, 9 + k * 3, none⟩) HH.out.lt).trans (HH.out.no k hk)
  rw [HN.out, if_pos rfl] at c0
  have c1 := (A.bel.cell (p := ⟨B, 9 + k * 3 + 1, none⟩) HH.out.lt).trans (HH.out.st k hk)
  have c2 := (A.bel.cell (p := ⟨B, 9 + k * 3 + 2, none⟩) HH.out.lt).trans (HH.out.inc k hk)
  have hBW := Nat.lt_of_lt_of_le HH.out.lt A.bel.size
  have hsW := A.sz
  clear A b1
  go_wp2_with fail
  refine wp_region_L (fun w' => w'.cell? ⟨B, 1 + k, none⟩ = some (.bool true) ∧ w'.cell? ⟨B, 9 + k * 3, none⟩ = some (.int .i64 k) ∧ w'.cell? ⟨B, 9 + k * 3 + 1, none⟩ = some (.int .i64 (T.st k)) ∧ w'.cell? ⟨B, 9 + k * 3 + 2, none⟩ = some (.int .i64 (T.inc k)) ∧ w'.cell? ⟨w.heap.size + 1, 0, none⟩ = some (.int .i64 k) ∧ w'.cell? ⟨w.heap.size + 1, 1, none⟩ = some (.int .i64 s) ∧ w'.cell? ⟨w.heap.size + 1, 2, none⟩ = some (.int .i64 i)) 99 (by kernel_rfl) ⟨k0, c0, c1, c2, y0, y1, y2⟩ (fun hHeld => ?_)
  refine wpL_takeAt (i := 0) 16 (v := ?va0) rfl (by kernel_rfl) (by kernel_rfl) (by kernel_rfl) (by kernel_rfl) (by kernel_rfl) (fun _ _ _ h => h) (Or.inl ⟨by rfl, ?ha0⟩) (by assumption) ?ra0
  case ha0 => intro w hSw; (try dsimp only at hSw); go_simp; (try with_reducible rfl)
  simp only [Act.put, List.setIfInBounds_toArray, List.set_cons_zero, List.set_cons_succ]
  refine wpL_takeAt (i := 1) 17 (v := ?va1) rfl (by kernel_rfl) (by kernel_rfl) (by kernel_rfl) (by kernel_rfl) (by kernel_rfl) (fun _ _ _ h => h) (Or.inl ⟨by rfl, ?ha1⟩) (by assumption) ?ra1
  case ha1 => intro w hSw; (try dsimp only at hSw); go_simp; (try with_reducible rfl)
  simp only [Act.put, List.setIfInBounds_toArray, List.set_cons_zero, List.set_cons_succ]
  refine wpL_takeAt (i := 2) 18 (v := ?va2) rfl (by kernel_rfl) (by kernel_rfl) (by kernel_rfl) (by kernel_rfl) (by kernel_rfl) (fun _ _ _ h => h) (Or.inl ⟨by rfl, ?ha2⟩) (by assumption) ?ra2
  case ha2 => intro w hSw; (try dsimp only at hSw); go_simp; (try with_reducible rfl)
  simp only [Act.put, List.setIfInBounds_toArray, List.set_cons_zero, List.set_cons_succ]
  refine wpL_takeAt (i := 3) 19 (v := ?va3) rfl (by kernel_rfl) (by kernel_rfl) (by kernel_rfl) (by kernel_rfl) (by kernel_rfl) (fun _ _ _ h => h) (Or.inl ⟨by rfl, ?ha3⟩) (by assumption) ?ra3
  case ha3 => intro w hSw; (try dsimp only at hSw); go_simp; (try with_reducible rfl)
  simp only [Act.put, List.setIfInBounds_toArray, List.set_cons_zero, List.set_cons_succ]
  refine wpL_takeAt (i := 4) 20 (v := ?va4) rfl (by kernel_rfl) (by kernel_rfl) (by kernel_rfl) (by kernel_rfl) (by kernel_rfl) (fun _ _ _ h => h) (Or.inl ⟨by rfl, ?ha4⟩) (by assumption) ?ra4
  case ha4 => intro w hSw; (try dsimp only at hSw); go_simp; (try with_reducible rfl)
  simp only [Act.put, List.setIfInBounds_toArray, List.set_cons_zero, List.set_cons_succ]
  refine wpL_takeAt (i := 5) 21 (v := ?va5) rfl (by kernel_rfl) (by kernel_rfl) (by kernel_rfl) (by kernel_rfl) (by kernel_rfl) (fun _ _ _ h => h) (Or.inl ⟨by rfl, ?ha5⟩) (by assumption) ?ra5
  case ha5 => intro w hSw; (try dsimp only at hSw); go_simp; (try with_reducible rfl)
  simp only [Act.put, List.setIfInBounds_toArray, List.set_cons_zero, List.set_cons_succ]
  refine wpL_takeAt (i := 6) 22 (v := ?va6) rfl (by kernel_rfl) (by kernel_rfl) (by kernel_rfl) (by kernel_rfl) (by kernel_rfl) (fun _ _ _ h => h) (Or.inl ⟨by rfl, ?ha6⟩) (by assumption) ?ra6
  case ha6 => intro w hSw; (try dsimp only at hSw); go_simp; (try with_reducible rfl)
  simp only [Act.put, List.setIfInBounds_toArray, List.set_cons_zero, List.set_cons_succ]
  refine wpL_takeAt (i := 7) 23 (v := ?va7) rfl (by kernel_rfl) (by kernel_rfl) (by kernel_rfl) (by kernel_rfl) (by kernel_rfl) (fun _ _ _ h => h) (Or.inl ⟨by rfl, ?ha7⟩) (by assumption) ?ra7
  case ha7 => intro w hSw; (try dsimp only at hSw); go_simp; (try with_reducible rfl)
  simp only [Act.put, List.setIfInBounds_toArray, List.set_cons_zero, List.set_cons_succ]
  refine wpL_takeAt (i := 8) 24 (v := ?va8) rfl (by kernel_rfl) (by kernel_rfl) (by kernel_rfl) (by kernel_rfl) (by kernel_rfl) (fun _ _ _ h => h) (Or.inl ⟨by rfl, ?ha8⟩) (by assumption) ?ra8
  case ha8 => intro w hSw; (try dsimp only at hSw); go_simp; (try with_reducible rfl)
  simp only [Act.put, List.setIfInBounds_toArray, List.set_cons_zero, List.set_cons_succ]
  refine wpL_takeAt (i := 9) 25 (v := ?va9) rfl (by kernel_rfl) (by kernel_rfl) (by kernel_rfl) (by kernel_rfl) (by kernel_rfl) (fun _ _ _ h => h) (Or.inl ⟨by rfl, ?ha9⟩) (by assumption) ?ra9
  case ha9 => intro w hSw; (try dsimp only at hSw); go_simp; (try with_reducible rfl)
  simp only [Act.put, List.setIfInBounds_toArray, List.set_cons_zero, List.set_cons_succ]
  refine wpL_takeAt (i := 10) 26 (v := ?va10) rfl (by kernel_rfl) (by kernel_rfl) (by kernel_rfl) (by kernel_rfl) (by kernel_rfl) (fun _ _ _ h => h) (Or.inl ⟨by rfl, ?ha10⟩) (by assumption) ?ra10
  case ha10 => intro w hSw; (try dsimp only at hSw); go_simp; (try with_reducible rfl)
  simp only [Act.put, List.setIfInBounds_toArray, List.set_cons_zero, List.set_cons_succ]
  refine wpL_takeAt (i := 11) 27 (v := ?va11) rfl (by kernel_rfl) (by kernel_rfl) (by kernel_rfl) (by kernel_rfl) (by kernel_rfl) (fun _ _ _ h => h) (Or.inl ⟨by rfl, ?ha11⟩) (by assumption) ?ra11
  case ha11 => intro w hSw; (try dsimp only at hSw); go_simp; (try with_reducible rfl)
  simp only [Act.put, List.setIfInBounds_toArray, List.set_cons_zero, List.set_cons_succ]
  refine wpL_takeAt (i := 12) 28 (v := ?va12) rfl (by kernel_rfl) (by kernel_rfl) (by kernel_rfl) (by kernel_rfl) (by kernel_rfl) (fun _ _ _ h => h) (Or.inl ⟨by rfl, ?ha12⟩) (by assumption) ?ra12
  case ha12 => intro w hSw; (try dsimp only at hSw); go_simp; (try with_reducible rfl)
  simp only [Act.put, List.setIfInBounds_toArray, List.set_cons_zero, List.set_cons_succ]
  refine wpL_takeAt (i := 13) 29 (v := ?va13) rfl (by kernel_rfl) (by kernel_rfl) (by kernel_rfl) (by kernel_rfl) (by kernel_rfl) (fun _ _ _ h => h) (Or.inl ⟨by rfl, ?ha13⟩) (by assumption) ?ra13
  case ha13 => intro w hSw; (try dsimp only at hSw); go_simp; (try with_reducible rfl)
  simp only [Act.put, List.setIfInBounds_toArray, List.set_cons_zero, List.set_cons_succ]
  refine wpL_takeAt (i := 14) 30 (v := ?va14) rfl (by kernel_rfl) (by kernel_rfl) (by kernel_rfl) (by kernel_rfl) (by kernel_rfl) (fun _ _ _ h => h) (Or.inl ⟨by rfl, ?ha14⟩) (by assumption) ?ra14
  case ha14 => intro w hSw; (try dsimp only at hSw); go_simp; (try with_reducible rfl)
  simp only [Act.put, List.setIfInBounds_toArray, List.set_cons_zero, List.set_cons_succ]
  refine wpL_takeAt (i := 15) 31 (v := ?va15) rfl (by kernel_rfl) (by kernel_rfl) (by kernel_rfl) (by kernel_rfl) (by kernel_rfl) (fun _ _ _ h => h) (Or.inl ⟨by rfl, ?ha15⟩) (by assumption) ?ra15
  case ha15 => intro w hSw; (try dsimp only at hSw); go_simp; (try with_reducible rfl)
  simp only [Act.put, List.setIfInBounds_toArray, List.set_cons_zero, List.set_cons_succ]
  refine wpL_one (i := 16) (by kernel_rfl) rfl (fun K hK => ?_)
  go_simp
  refine (cmp_any k s i k (T.st k) (T.inc k) _).mono ?_
  rintro e w2 ⟨rfl, b2⟩
  have b2' : Below w1.heap.size w1.drew w2 := b2
  have HA3 := Lib.hid (HA.out.below (((Below.refl w1.heap.size w1).drew).trans b2'))
  have q0 := (b2'.cell (p := ⟨B, 1 + k, none⟩) hBW).trans k0
  have q1 := (b2'.cell (p := ⟨B, 9 + k * 3, none⟩) hBW).trans c0
  have q2 := (b2'.cell (p := ⟨B, 9 + k * 3 + 1, none⟩) hBW).trans c1
  have q3 := (b2'.cell (p := ⟨B, 9 + k * 3 + 2, none⟩) hBW).trans c2
  have q4 := HA3.out.b0
  have q5 := HA3.out.b1
  have q6 := HA3.out.b2
  clear k0 c0 c1 c2 y0 y1 y2 b2 b2' HA hHeld hBW hsW
  refine hK.out _ _ (fun _ => ⟨q0, q1, q2, q3, q4, q5, q6⟩) (fun _ => ?rk0)
  clear hK K
  try simp only [Act.put, List.setIfInBounds_toArray, List.set_cons_zero, List.set_cons_succ]
  have hc := HC.out
  generalize Pl.cmp s i (T.st k) (T.inc k) = cc at *
  refine wpL_one (i := 17) (by kernel_rfl) rfl (fun K hK => ?_)
  go_simp
  refine hK.out _ _ (fun _ => ⟨q0, q1, q2, q3, q4, q5, q6⟩) (fun _ => ?rk17)
  clear hK K
  try simp only [Act.put, List.setIfInBounds_toArray, List.set_cons_zero, List.set_cons_succ]
  refine wpL_one (i := 18) (by kernel_rfl) rfl (fun K hK => ?_)
  go_simp
  refine hK.out _ _ (fun _ => ⟨q0, q1, q2, q3, q4, q5, q6⟩) (fun _ => ?rk18)
  clear hK K
  try simp only [Act.put, List.setIfInBounds_toArray, List.set_cons_zero, List.set_cons_succ]
  refine wpL_one (i := 19) (by kernel_rfl) rfl (fun K hK => ?_)
  go_simp
  refine hK.out _ _ (fun _ => ⟨q0, q1, q2, q3, q4, q5, q6⟩) (fun _ => ?rk19)
  clear hK K
  try simp only [Act.put, List.setIfInBounds_toArray, List.set_cons_zero, List.set_cons_succ]
  clear q0 q1 q2 q3 q4 q5 q6 hc
  refine wpL_done (by kernel_rfl) ?_ _
  go_wp2_with fail
  generalize w2 = W at *
  have HA2 := HA3.out
  have HT := HH.out.below HA2.bel
  have hHA2 := Lib.hid HA2
  have hHT := Lib.hid HT
  clear HA3
  have c0 := HT.no k hk
  have c1 := HT.st k hk
  have c2 := HT.inc k hk
  have k0 := HT.kn k hk
  have f0 := HT.fr (1 + k)
  have f1 := HT.fr (9 + k * 3)
  have f2 := HT.fr (9 + k * 3 + 1)
  have f3 := HT.fr (9 + k * 3 + 2)
  have y0 := HA2.b0
  have y1 := HA2.b1
  have y2 := HA2.b2
  have hne : B ≠ w.heap.size + 1 := by have := HH.out.lt; omega
  have hne' : w.heap.size + 1 ≠ B := fun e => hne e.symm
  clear HA2 HT
  go_region
  go_wp2_with fail
  obtain ⟨A, t⟩ := tab_set (s := s) (i := i) hk hHT.out
  exact bodyPost_ret (v := .tuple #[.bool true, .int .i64 0]) (by simp [results, Try.results6, go_sem]) rfl ⟨rfl, A, t.of_hear hHA2.out⟩

end Go.Proofs.Ythgjmngaamoofaa
