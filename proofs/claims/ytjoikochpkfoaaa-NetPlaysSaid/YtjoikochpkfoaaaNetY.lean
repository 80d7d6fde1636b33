/- The document's net: Part. -/
import Derived.Test.YtjoikochpkfoaaaNetX
namespace Go.Proofs.Ytjoikochpkfoaaa
open Go.RowKit
set_option linter.unusedVariables false

theorem rpart_arg (M : Nat) (a b : Int) (x : Bool) (w : World) (h : Pl.pair a b = false) :
    Calls Try.prog 31 #[.pointer (some ⟨M, 0, none⟩), .int .i64 a, .int .i64 b, .bool x] w fun e w' => e = .returned (.int .i64 2) ∧ Below w.heap.size w w' := by
  go_enter Try.func31, Try.ntmps31
  go_wp2_with fail
  refine (refpair_any a b _).mono ?_
  rintro e w1 ⟨rfl, b1⟩
  rw [h]
  go_wp2_with fail
  go_ret
  exact ⟨rfl, b1⟩

theorem pair_ends {a b : Int} (h : Pl.pair a b = true) : ∃ c d : Nat, a = c ∧ b = d ∧ c < 8 ∧ d < 8 ∧ c ≠ d := by
  rw [pair_eq] at h
  simp only [Bool.and_eq_true, decide_eq_true_eq, bne_iff_ne] at h
  obtain ⟨a0, a8, b0, b8, hne⟩ := h
  obtain ⟨c, rfl⟩ := Int.eq_ofNat_of_zero_le a0
  obtain ⟨d, rfl⟩ := Int.eq_ofNat_of_zero_le b0
  exact ⟨c, d, rfl, rfl, by omega, by omega, by omega⟩

theorem rpart_same (M : Nat) (row : Option Nat) (es : List Pl.Ent) (T : Pl.Off) (a b : Int) (x : Bool) (w : World) (h : RefAt w M row es T) (hp : Pl.pair a b = true) (hx : (Pl.look T (min a b) (max a b) == x) = true) :
    Calls Try.prog 31 #[.pointer (some ⟨M, 0, none⟩), .int .i64 a, .int .i64 b, .bool x] w fun e w' => e = .returned (.int .i64 15) ∧ Below w.heap.size w w' := by
  obtain ⟨a, b, rfl, rfl, a8, b8, hne⟩ := pair_ends hp
  have hq := fun (W : World) (H : RefAt W M row es T) => H.sq a b a8 b8 hne
  generalize Pl.look T (min (a : Int) b) (max (a : Int) b) = lk at *
  obtain rfl : lk = x := by simpa using hx
  have HQ := Lib.hid hq
  have HP := Lib.hid hp
  have HH := Lib.hid h
  have hxx : (lk == lk) = true := by simp
  have a8' : (a : Int) < 8 := by omega
  have b8' : (b : Int) < 8 := by omega
  clear hq hp h hx hne
  go_enter Try.func31, Try.ntmps31
  go_wp2_with fail
  refine (refpair_any a b _).mono ?_
  rintro e w1 ⟨rfl, b1⟩
  rw [HP.out]
  have c0 := HQ.out _ (HH.out.below b1)
  have HB := Lib.hid b1
  clear b1
  go_wp2_with fail
  go_ret
  exact ⟨rfl, HB.out⟩

theorem link_put {off : Nat → Bool} {T : Pl.Off} (h : Pl.Link off T) (a b : Nat) (ha : a < 8) (hb : b < 8) (hne : a ≠ b) (x : Bool) :
    Pl.Link (fun j => if j = b * 8 + a then x else if j = a * 8 + b then x else off j) (Pl.put T (min (a : Int) b) (max (a : Int) b) x) := by
  intro c d hc hd hcd
  rw [Pl.look_put]
  have h1 := h c d hc hd hcd
  by_cases e1 : c = a ∧ d = b
  · obtain ⟨rfl, rfl⟩ := e1
    simp
  · by_cases e2 : c = b ∧ d = a
    · obtain ⟨rfl, rfl⟩ := e2
      rw [Int.min_comm (d : Int), Int.max_comm (d : Int)]
      simp
    · have n1 : ¬ c * 8 + d = b * 8 + a := by omega
      have n2 : ¬ c * 8 + d = a * 8 + b := by omega
      have n3 : (min (c : Int) d == min (a : Int) b && max (c : Int) d == max (a : Int) b) = false := by
        rw [Bool.and_eq_false_iff]
        simp only [beq_eq_false_iff_ne]
        omega
      simp only [n1, n2, n3, if_false, h1]
      rfl

/-- Two cells of the square are written to. -/
theorem ref_put {w W : World} {M : Nat} {row : Option Nat} {es : List Pl.Ent} {T : Pl.Off} (h : RefAt w M row es T) (hb : Below w.heap.size w W) (a b : Nat) (ha : a < 8) (hb8 : b < 8) (hne : a ≠ b) (x : Bool) :
    StepR w ((W.setCell ⟨M, 1 + a * 8 + b, none⟩ (.bool x)).setCell ⟨M, 1 + b * 8 + a, none⟩ (.bool x)) M row es (Pl.put T (min (a : Int) b) (max (a : Int) b) x) := by
  have hMlt := h.lt
  obtain ⟨v, off, hr, ho, hv, hl⟩ := h.obj
  have r2 := hr.of_block (hb.block M hMlt)
  have hs2 := hb.size
  have kk : ∀ i, i ≠ M → ((W.setCell ⟨M, 1 + a * 8 + b, none⟩ (.bool x)).setCell ⟨M, 1 + b * 8 + a, none⟩ (.bool x)).heap[i]? = W.heap[i]? := fun i hi => by
    rw [Below.heap_setCell _ _ _ _ hi, Below.heap_setCell _ _ _ _ hi]
  have k2 : KeepB W ((W.setCell ⟨M, 1 + a * 8 + b, none⟩ (.bool x)).setCell ⟨M, 1 + b * 8 + a, none⟩ (.bool x)) := fun i cs fr hx => kk i (fun e => by
    obtain ⟨c, hc, _⟩ := r2
    subst e
    rw [hc] at hx; cases hx)
  refine ⟨row, ⟨⟨v, _, ((r2.set (1 + a * 8 + b) _).set (1 + b * 8 + a) _).congr (fun i hi => ?_), ownsRow_of ho (fun g hg => ?_), hv, link_put hl a b ha hb8 hne x⟩, ?_, h.pairs⟩, ⟨?_, ?_, ?_⟩, fun g hg => .inl hg⟩
  · by_cases h0 : i = 0
    · subst h0
      rw [if_neg (by omega), if_neg (by omega), if_pos rfl]; rfl
    · by_cases h1 : i = 1 + b * 8 + a
      · subst h1
        rw [if_pos rfl, if_neg (by omega), if_pos (by omega)]
      · by_cases h2 : i = 1 + a * 8 + b
        · subst h2
          rw [if_neg h1, if_pos rfl, if_neg (by omega), if_neg (by omega), if_pos (by omega)]
        · rw [if_neg h1, if_neg h2, if_neg h0, if_neg h0, if_neg (by omega), if_neg (by omega)]
  · have hg2 := ho.lt g hg
    exact (kk g (by omega)).trans (hb.block g hg2.2)
  · intro e he
    exact ((h.bodies e he).below hb).keep k2
  · simp [World.setCell]; omega
  · intro i hi h1 h2 h3
    exact (kk i h1).trans (hb.block i hi)
  · exact ⟨hb.os, hb.tape, hb.output⟩

set_option maxHeartbeats 1000000 in
theorem rpart_ok (M : Nat) (row : Option Nat) (es : List Pl.Ent) (T : Pl.Off) (a b : Int) (x : Bool) (w : World) (h : RefAt w M row es T) (hp : Pl.pair a b = true) (hx : (Pl.look T (min a b) (max a b) == x) = false) :
    Calls Try.prog 31 #[.pointer (some ⟨M, 0, none⟩), .int .i64 a, .int .i64 b, .bool x] w fun e w' => e = .returned (.int .i64 0) ∧ StepR w w' M row es (Pl.put T (min a b) (max a b) x) := by
  obtain ⟨a, b, rfl, rfl, a8, b8, hne⟩ := pair_ends hp
  have hq := fun (W : World) (H : RefAt W M row es T) => And.intro (H.sq a b a8 b8 hne) (H.sq b a b8 a8 (Ne.symm hne))
  have hf : ∀ (W : World) (H : RefAt W M row es T) o, W.frozen? ⟨M, o, none⟩ = false := fun W H o => by
    obtain ⟨v, off, hr, _⟩ := H.obj
    exact hr.frozen o
  have hput := fun (W : World) (hW : Below w.heap.size w W) => ref_put h hW a b a8 b8 hne x
  have hco : (Pl.look T (min (b : Int) a) (max (b : Int) a)) = (Pl.look T (min (a : Int) b) (max (a : Int) b)) := by rw [Int.min_comm (b : Int), Int.max_comm (b : Int)]
  rw [hco] at hq
  generalize Pl.look T (min (a : Int) b) (max (a : Int) b) = lk at *
  have nq : ¬ (1 + a * 8 + b = 1 + b * 8 + a) := by omega
  have a8' : (a : Int) < 8 := by omega
  have b8' : (b : Int) < 8 := by omega
  have HQ := Lib.hid hq
  have HP := Lib.hid hp
  have HH := Lib.hid h
  have HF := Lib.hid hf
  have HT := Lib.hid hput
  have HN := Lib.hid nq
  clear hq hp h hne hf hput hco nq
  go_enter Try.func31, Try.ntmps31
  go_wp2_with fail
  refine (refpair_any a b _).mono ?_
  rintro e w1 ⟨rfl, b1⟩
  rw [HP.out]
  obtain ⟨c0, c1⟩ := HQ.out _ (HH.out.below b1)
  have f0 := HF.out _ (HH.out.below b1) (1 + a * 8 + b)
  have f1 := HF.out _ (HH.out.below b1) (1 + b * 8 + a)
  have HB := Lib.hid b1
  clear b1
  go_wp2_with fail
  have d1 : (w1.setCell ⟨M, 1 + a * 8 + b, none⟩ (.bool x)).cell? ⟨M, 1 + b * 8 + a, none⟩ = some (.bool lk) := by
    rw [World.cell?_setCell_other _ _ _ _ (fun e => HN.out (by simpa using e))]; exact c1
  have g1 : (w1.setCell ⟨M, 1 + a * 8 + b, none⟩ (.bool x)).frozen? ⟨M, 1 + b * 8 + a, none⟩ = false := by
    rw [World.frozen?_setCell]; exact f1
  refine wp_region_L (fun _ => True) 99 (by kernel_rfl) trivial (fun hHeld => ?_)
  refine wpL_takeAt (i := 0) 23 (v := ?va1) rfl (by kernel_rfl) (by kernel_rfl) (by kernel_rfl) (by kernel_rfl) (by kernel_rfl) (fun _ _ _ h => h) (Or.inl ⟨by rfl, ?ha1⟩) (by assumption) ?ra1
  case ha1 => intro w hSw; (try dsimp only at hSw); go_simp; (try with_reducible rfl)
  simp only [Act.put, List.setIfInBounds_toArray, List.set_cons_zero, List.set_cons_succ]
  refine wpL_takeAt (i := 1) 24 (v := ?va2) rfl (by kernel_rfl) (by kernel_rfl) (by kernel_rfl) (by kernel_rfl) (by kernel_rfl) (fun _ _ _ h => h) (Or.inl ⟨by rfl, ?ha2⟩) (by assumption) ?ra2
  case ha2 => intro w hSw; (try dsimp only at hSw); go_simp; (try with_reducible rfl)
  simp only [Act.put, List.setIfInBounds_toArray, List.set_cons_zero, List.set_cons_succ]
  refine wpL_takeAt (i := 2) 25 (v := ?va3) rfl (by kernel_rfl) (by kernel_rfl) (by kernel_rfl) (by kernel_rfl) (by kernel_rfl) (fun _ _ _ h => h) (Or.inl ⟨by rfl, ?ha3⟩) (by assumption) ?ra3
  case ha3 => intro w hSw; (try dsimp only at hSw); go_simp; (try with_reducible rfl)
  simp only [Act.put, List.setIfInBounds_toArray, List.set_cons_zero, List.set_cons_succ]
  refine wpL_takeAt (i := 3) 26 (v := ?va4) rfl (by kernel_rfl) (by kernel_rfl) (by kernel_rfl) (by kernel_rfl) (by kernel_rfl) (fun _ _ _ h => h) (Or.inl ⟨by rfl, ?ha4⟩) (by assumption) ?ra4
  case ha4 => intro w hSw; (try dsimp only at hSw); go_simp; (try with_reducible rfl)
  simp only [Act.put, List.setIfInBounds_toArray, List.set_cons_zero, List.set_cons_succ]
  refine wpL_takeAt (i := 4) 27 (v := ?va5) rfl (by kernel_rfl) (by kernel_rfl) (by kernel_rfl) (by kernel_rfl) (by kernel_rfl) (fun _ _ _ h => h) (Or.inl ⟨by rfl, ?ha5⟩) (by assumption) ?ra5
  case ha5 => intro w hSw; (try dsimp only at hSw); go_simp; (try with_reducible rfl)
  simp only [Act.put, List.setIfInBounds_toArray, List.set_cons_zero, List.set_cons_succ]
  refine wpL_takeAt (i := 5) 28 (v := ?va6) rfl (by kernel_rfl) (by kernel_rfl) (by kernel_rfl) (by kernel_rfl) (by kernel_rfl) (fun _ _ _ h => h) (Or.inl ⟨by rfl, ?ha6⟩) (by assumption) ?ra6
  case ha6 => intro w hSw; (try dsimp only at hSw); go_simp; (try with_reducible rfl)
  simp only [Act.put, List.setIfInBounds_toArray, List.set_cons_zero, List.set_cons_succ]
  refine wpL_takeAt (i := 6) 29 (v := ?va7) rfl (by kernel_rfl) (by kernel_rfl) (by kernel_rfl) (by kernel_rfl) (by kernel_rfl) (fun _ _ _ h => h) (Or.inl ⟨by rfl, ?ha7⟩) (by assumption) ?ra7
  case ha7 => intro w hSw; (try dsimp only at hSw); go_simp; (try with_reducible rfl)
  simp only [Act.put, List.setIfInBounds_toArray, List.set_cons_zero, List.set_cons_succ]
  refine wpL_takeAt (i := 7) 30 (v := ?va8) rfl (by kernel_rfl) (by kernel_rfl) (by kernel_rfl) (by kernel_rfl) (by kernel_rfl) (fun _ _ _ h => h) (Or.inl ⟨by rfl, ?ha8⟩) (by assumption) ?ra8
  case ha8 => intro w hSw; (try dsimp only at hSw); go_simp; (try with_reducible rfl)
  simp only [Act.put, List.setIfInBounds_toArray, List.set_cons_zero, List.set_cons_succ]
  refine wpL_takeAt (i := 8) 31 (v := ?va9) rfl (by kernel_rfl) (by kernel_rfl) (by kernel_rfl) (by kernel_rfl) (by kernel_rfl) (fun _ _ _ h => h) (Or.inl ⟨by rfl, ?ha9⟩) (by assumption) ?ra9
  case ha9 => intro w hSw; (try dsimp only at hSw); go_simp; (try with_reducible rfl)
  simp only [Act.put, List.setIfInBounds_toArray, List.set_cons_zero, List.set_cons_succ]
  refine wpL_takeAt (i := 9) 32 (v := ?va10) rfl (by kernel_rfl) (by kernel_rfl) (by kernel_rfl) (by kernel_rfl) (by kernel_rfl) (fun _ _ _ h => h) (Or.inl ⟨by rfl, ?ha10⟩) (by assumption) ?ra10
  case ha10 => intro w hSw; (try dsimp only at hSw); go_simp; (try with_reducible rfl)
  simp only [Act.put, List.setIfInBounds_toArray, List.set_cons_zero, List.set_cons_succ]
  refine wpL_takeAt (i := 10) 33 (v := ?va11) rfl (by kernel_rfl) (by kernel_rfl) (by kernel_rfl) (by kernel_rfl) (by kernel_rfl) (fun _ _ _ h => h) (Or.inl ⟨by rfl, ?ha11⟩) (by assumption) ?ra11
  case ha11 => intro w hSw; (try dsimp only at hSw); go_simp; (try with_reducible rfl)
  simp only [Act.put, List.setIfInBounds_toArray, List.set_cons_zero, List.set_cons_succ]
  refine wpL_takeAt (i := 11) 34 (v := ?va12) rfl (by kernel_rfl) (by kernel_rfl) (by kernel_rfl) (by kernel_rfl) (by kernel_rfl) (fun _ _ _ h => h) (Or.inl ⟨by rfl, ?ha12⟩) (by assumption) ?ra12
  case ha12 => intro w hSw; (try dsimp only at hSw); go_simp; (try with_reducible rfl)
  simp only [Act.put, List.setIfInBounds_toArray, List.set_cons_zero, List.set_cons_succ]
  refine wpL_takeAt (i := 13) 35 (v := ?va13) rfl (by kernel_rfl) (by kernel_rfl) (by kernel_rfl) (by kernel_rfl) (by kernel_rfl) (fun _ _ _ h => h) (Or.inl ⟨by rfl, ?ha13⟩) (by assumption) ?ra13
  case ha13 => intro w hSw; (try dsimp only at hSw); go_simp; (try with_reducible rfl)
  simp only [Act.put, List.setIfInBounds_toArray, List.set_cons_zero, List.set_cons_succ]
  refine wpL_takeAt (i := 14) 36 (v := ?va14) rfl (by kernel_rfl) (by kernel_rfl) (by kernel_rfl) (by kernel_rfl) (by kernel_rfl) (fun _ _ _ h => h) (Or.inl ⟨by rfl, ?ha14⟩) (by assumption) ?ra14
  case ha14 => intro w hSw; (try dsimp only at hSw); go_simp; (try with_reducible rfl)
  simp only [Act.put, List.setIfInBounds_toArray, List.set_cons_zero, List.set_cons_succ]
  refine wpL_takeAt (i := 15) 37 (v := ?va15) rfl (by kernel_rfl) (by kernel_rfl) (by kernel_rfl) (by kernel_rfl) (by kernel_rfl) (fun _ _ _ h => h) (Or.inl ⟨by rfl, ?ha15⟩) (by assumption) ?ra15
  case ha15 => intro w hSw; (try dsimp only at hSw); go_simp; (try with_reducible rfl)
  simp only [Act.put, List.setIfInBounds_toArray, List.set_cons_zero, List.set_cons_succ]
  refine wpL_one (i := 12) (by kernel_rfl) rfl (fun K hK => ?_)
  go_simp
  refine hK.out _ _ (fun _ => trivial) (fun _ => ?_)
  clear hK K
  try simp only [Act.put, List.setIfInBounds_toArray, List.set_cons_zero, List.set_cons_succ]
  refine wpL_takeAt (i := 16) 38 (v := ?va16) rfl (by kernel_rfl) (by kernel_rfl) (by kernel_rfl) (by kernel_rfl) (by kernel_rfl) (fun _ _ _ h => h) (Or.inl ⟨by rfl, ?ha16⟩) (by assumption) ?ra16
  case ha16 => intro w hSw; (try dsimp only at hSw); go_simp; (try with_reducible rfl)
  simp only [Act.put, List.setIfInBounds_toArray, List.set_cons_zero, List.set_cons_succ]
  refine wpL_one (i := 17) (by kernel_rfl) rfl (fun K hK => ?_)
  go_simp
  refine hK.out _ _ (fun _ => trivial) (fun _ => ?_)
  clear hK K
  try simp only [Act.put, List.setIfInBounds_toArray, List.set_cons_zero, List.set_cons_succ]
  refine wpL_done (by kernel_rfl) ?_ _
  have HS : Hid (StepR w ((w1.setCell ⟨M, 1 + a * 8 + b, none⟩ (.bool x)).setCell ⟨M, 1 + b * 8 + a, none⟩ (.bool x)).drew M row es (Pl.put T (min (a : Int) b) (max (a : Int) b) x)) := Lib.hid (HT.out _ HB.out.drew)
  clear d1 g1 c0 c1 f0 f1
  generalize World.drew _ = W6 at *
  go_wp2_with fail
  go_ret
  exact ⟨rfl, HS.out⟩

theorem rpart_any (M : Nat) (row : Option Nat) (es : List Pl.Ent) (T : Pl.Off) (A B : Int) (x : Bool) (w : World) (h : RefAt w M row es T) :
    Calls Try.prog 31 #[.pointer (some ⟨M, 0, none⟩), .int .i64 A, .int .i64 B, .bool x] w fun e w' => e = .returned (.int .i64 (Pl.partF A B x (Pl.abs es) T).err) ∧ StepR w w' M row es (Pl.partF A B x (Pl.abs es) T).T := by
  cases hp : Pl.pair A B with
  | false =>
    have e0 : Pl.partF A B x (Pl.abs es) T = ⟨Pl.zero, 2, Pl.abs es, T⟩ := by unfold Pl.partF; rw [if_pos hp]
    rw [e0]
    refine (rpart_arg M A B x w hp).mono ?_
    rintro e w' ⟨rfl, hb⟩
    exact ⟨rfl, StepR.of_below h hb⟩
  | true =>
    cases hx : (Pl.look T (min A B) (max A B) == x) with
    | true =>
      have e0 : Pl.partF A B x (Pl.abs es) T = ⟨Pl.zero, 15, Pl.abs es, T⟩ := by unfold Pl.partF; rw [if_neg (by rw [hp]; decide), if_pos hx]
      rw [e0]
      refine (rpart_same M row es T A B x w h hp hx).mono ?_
      rintro e w' ⟨rfl, hb⟩
      exact ⟨rfl, StepR.of_below h hb⟩
    | false =>
      have e0 : Pl.partF A B x (Pl.abs es) T = ⟨Pl.zero, 0, Pl.abs es, Pl.put T (min A B) (max A B) x⟩ := by unfold Pl.partF; rw [if_neg (by rw [hp]; decide), if_neg (by rw [hx]; decide)]
      rw [e0]
      exact rpart_ok M row es T A B x w h hp hx

end Go.Proofs.Ytjoikochpkfoaaa
