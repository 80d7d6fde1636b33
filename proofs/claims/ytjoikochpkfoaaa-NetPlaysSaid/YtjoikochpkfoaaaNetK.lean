/- Take in its three ways; the document's example. -/
import Derived.Test.YtjoikochpkfoaaaNetJ
namespace Go.Proofs.Ytjoikochpkfoaaa
open Go.RowKit
set_option linter.unusedVariables false

theorem bytes_nil (w : World) : BytesT w (.slice none 0 0) [] := ⟨none, 0, rfl, fun _ => ⟨rfl, rfl⟩, fun i hi => absurd hi (by simp)⟩

theorem take_none (N mb : Nat) (i : Int) (row : Option Nat) (es : List Pl.Ent) (T : Pl.Off) (w : World) (h : NetAt w N row mb es T) (hi : i < 0 ∨ (es.length : Int) ≤ i) :
    Calls Try.prog 12 #[.pointer (some ⟨N, 0, none⟩), .int .i64 i] w fun e w' => ∃ v', e = .returned (.tuple #[.agg #[.int .i64 0, .int .i64 0, v'], .int .i64 8]) ∧ BytesT w' v' [] ∧ Step w w' N row mb es T := by
  refine take_gen N mb i 0 0 8 row es es T [] w h ?_ (fun W A => ?_)
  · refine (copy_none N mb i row es T _ (h.below ((Below.refl _ _).alloc (Nat.le_refl _) _)) hi).mono ?_
    rintro e w' ⟨rfl, hb⟩
    exact ⟨_, rfl, bytes_nil _, hb.mono (by simp)⟩
  · refine (drop_none N mb i row es T W A hi).mono ?_
    rintro e w' ⟨rfl, rfl⟩
    exact ⟨⟨8, rfl⟩, Step.of_below A (Below.refl _ _)⟩

theorem take_down (N mb i : Nat) (row : Option Nat) (es : List Pl.Ent) (T : Pl.Off) (w : World) (h : NetAt w N row mb es T) (hi : i < es.length) (hn : es.length ≤ 64) (hp : Pl.parted T (es[i]).frm (es[i]).to = true) :
    Calls Try.prog 12 #[.pointer (some ⟨N, 0, none⟩), .int .i64 i] w fun e w' => ∃ v', e = .returned (.tuple #[.agg #[.int .i64 0, .int .i64 0, v'], .int .i64 10]) ∧ BytesT w' v' [] ∧ Step w w' N row mb (es.take i ++ es.drop (i + 1)) T := by
  refine take_gen N mb i 0 0 10 row es _ T [] w h ?_ (fun W A => ?_)
  · refine (copy_down N mb i row es T _ (h.below ((Below.refl _ _).alloc (Nat.le_refl _) _)) hi hp).mono ?_
    rintro e w' ⟨rfl, hb⟩
    exact ⟨_, rfl, bytes_nil _, hb.mono (by simp)⟩
  · refine (drop_ok N mb i row es T W A hi hn).mono ?_
    rintro e w' ⟨rfl, g, A', t, hg⟩
    exact ⟨⟨0, rfl⟩, some g, A', t, .inr ⟨g, rfl, hg⟩⟩

theorem take_ok (N mb i : Nat) (row : Option Nat) (es : List Pl.Ent) (T : Pl.Off) (w : World) (h : NetAt w N row mb es T) (hi : i < es.length) (hn : es.length ≤ 64) (hp : Pl.parted T (es[i]).frm (es[i]).to = false) (hl : (es[i]).bs.length ≤ 1000000) :
    Calls Try.prog 12 #[.pointer (some ⟨N, 0, none⟩), .int .i64 i] w fun e w' => ∃ v', e = .returned (.tuple #[.agg #[.int .i64 (es[i]).frm, .int .i64 (es[i]).to, v'], .int .i64 0]) ∧ BytesT w' v' (es[i]).bs ∧ Step w w' N row mb (es.take i ++ es.drop (i + 1)) T := by
  refine take_gen N mb i _ _ 0 row es _ T _ w h ?_ (fun W A => ?_)
  · refine (copy_ok N mb i row es T _ (h.below ((Below.refl _ _).alloc (Nat.le_refl _) _)) hi hp hl).mono ?_
    rintro e w' ⟨v', rfl, hbt, hb⟩
    exact ⟨_, rfl, hbt, hb.mono (by simp)⟩
  · refine (drop_ok N mb i row es T W A hi hn).mono ?_
    rintro e w' ⟨rfl, g, A', t, hg⟩
    exact ⟨⟨0, rfl⟩, some g, A', t, .inr ⟨g, rfl, hg⟩⟩

theorem bytes_new (w : World) (b : Int) : BytesC (w.alloc (.cells #[.int .u8 b] 5)) (.slice (some ⟨w.heap.size, 0, none⟩) 1 1) [b] := by
  refine ⟨_, 1, rfl, (fun e => by cases e), fun i hi => ⟨w.heap.size, 0, rfl, by simp, ?_⟩⟩
  have : i = 0 := by simp at hi; omega
  subst this
  rw [World.cell?_alloc_at _ _ _ _ rfl]; rfl

/-- A block beside the net stays beside it. -/
theorem Step.block {w w' : World} {N mb X : Nat} {row : Option Nat} {es : List Pl.Ent} {T : Pl.Off} (h : Step w w' N row mb es T) (hX : X < w.heap.size) (h1 : X ≠ N) (h2 : X ≠ mb) (h3 : some X ≠ row) :
    ∃ row', NetAt w' N row' mb es T ∧ some X ≠ row' ∧ w'.heap[X]? = w.heap[X]? := by
  obtain ⟨row', A, t, hr⟩ := h
  refine ⟨row', A, ?_, t.same X hX h1 h2 h3⟩
  rcases hr with rfl | ⟨g, rfl, hg⟩
  · exact h3
  · intro e; cases e; omega

theorem alive_ok (w : World) : Calls Try.prog 6 #[] w fun e w' => e = .returned (.bool true) ∧ Below w.heap.size w w' := by
  go_enter Try.func6, Try.ntmps6
  go_wp2_with fail
  refine (new_net w).mono ?_
  rintro e w1 ⟨rfl, b1, A1⟩
  have HA1 := Lib.hid (A1.below ((Below.refl w1.heap.size w1).alloc (Nat.le_refl _) (.cells #[.int .u8 1] 5)))
  have HB1 := Lib.hid (b1.alloc b1.size (.cells #[.int .u8 1] 5))
  have HY := Lib.hid (bytes_new w1 1)
  clear b1 A1
  go_wp2_with fail
  refine (send_ok (w.heap.size + 1) w.heap.size none [] [] 0 1 _ [1] _ HA1.out (by decide) HY.out (by decide) (by decide)).mono ?_
  rintro e w2 ⟨rfl, row2, va, A2, t2, r2⟩
  have b2 := t2.below HB1.out (Nat.le_succ _) (Nat.le_refl _) (fun g hg => by cases hg)
  have HA2 := Lib.hid (A2.below ((Below.refl w2.heap.size w2).alloc (Nat.le_refl _) (.cells #[.int .u8 2] 5)))
  have HB2 := Lib.hid (b2.alloc b2.size (.cells #[.int .u8 2] 5))
  have HY2 := Lib.hid (bytes_new w2 2)
  have hr2 : ∀ g, row2 = some g → w.heap.size ≤ g := fun g hg => by have := (A2.row_lt g hg).1; omega
  have HR2 := Lib.hid hr2
  clear b2 A2 t2 r2 HA1 HB1 HY hr2
  go_wp2_with fail
  refine (send_ok (w.heap.size + 1) w.heap.size row2 _ [] 1 0 _ [2] _ HA2.out (by decide) HY2.out (by decide) (by show 1 < 64; decide)).mono ?_
  rintro e w3 ⟨rfl, row3, vb, A3, t3, r3⟩
  have b3 := t3.below HB2.out (Nat.le_succ _) (Nat.le_refl _) HR2.out
  have HA3 := Lib.hid A3
  have HB3 := Lib.hid b3
  clear b3 A3 t3 r3 HA2 HB2 HY2 HR2
  go_wp2_with fail
  have C3 : Calls Try.prog 12 #[.pointer (some ⟨w.heap.size + 1, 0, none⟩), .int .i64 1] w3 fun e w' => ∃ v', e = .returned (.tuple #[.agg #[.int .i64 1, .int .i64 0, v'], .int .i64 0]) ∧ BytesT w' v' [2] ∧ Step w3 w' (w.heap.size + 1) row3 w.heap.size [⟨0, 1, va, [1]⟩] [] :=
    take_ok (w.heap.size + 1) w.heap.size 1 row3 [⟨0, 1, va, [1]⟩, ⟨1, 0, vb, [2]⟩] [] w3 HA3.out (by show 1 < 2; decide) (by show 2 ≤ 64; decide) (by show Pl.parted [] 1 0 = false; decide) (by show 1 ≤ 1000000; decide)
  refine C3.mono ?_
  rintro e w4 ⟨vp, rfl, BP, row4, A4, t4, r4⟩
  clear C3
  obtain ⟨ap, cp, hvp, _⟩ := id BP
  subst hvp
  have hr3 : ∀ g, row3 = some g → w.heap.size ≤ g := fun g hg => by have := (HA3.out.row_lt g hg).1; omega
  have b4 := t4.below HB3.out (Nat.le_succ _) (Nat.le_refl _) hr3
  have bX : Below w4.heap.size w4 (w4.alloc (.cells #[.int .i64 1, .int .i64 0, .slice ap 1 cp] 31)) := (Below.refl _ _).alloc (Nat.le_refl _) _
  have A4X := A4.below bX
  have hX := heap_alloc_new w4 (.cells #[.int .i64 1, .int .i64 0, .slice ap 1 cp] 31)
  have xN : w4.heap.size ≠ w.heap.size + 1 := by have := A4.lt; omega
  have xm : w4.heap.size ≠ w.heap.size := by have := A4.mb_lt; omega
  have xr : some w4.heap.size ≠ row4 := fun e => by have := (A4.row_lt _ e.symm).2; omega
  have hXlt : w4.heap.size < (w4.alloc (.cells #[.int .i64 1, .int .i64 0, .slice ap 1 cp] 31)).heap.size := by simp
  have hr4 : ∀ g, row4 = some g → w.heap.size ≤ g := fun g hg => by have := (A4.row_lt g hg).1; omega
  have HA4 := Lib.hid A4X
  have HBP4 := Lib.hid (BP.below bX)
  have HX4 := Lib.hid hX
  have HB4 := Lib.hid (b4.trans (bX.mono b4.size))
  clear BP A4 t4 r4 hr3 b4 bX A4X hX HA3 HB3
  go_wp2_with fail
  generalize w4.alloc (.cells #[.int .i64 1, .int .i64 0, .slice ap 1 cp] 31) = W4 at *
  have C4 : Calls Try.prog 20 #[.pointer (some ⟨w.heap.size + 1, 0, none⟩), .int .i64 1, .int .i64 0] W4 fun e w' => e = .returned (.int .i64 0) ∧ NetAt w' (w.heap.size + 1) row4 w.heap.size [⟨0, 1, va, [1]⟩] [(0, 1, true)] ∧ Turned W4 w' (w.heap.size + 1) row4 w.heap.size :=
    cut_ok (w.heap.size + 1) w.heap.size row4 [⟨0, 1, va, [1]⟩] [] 1 0 W4 HA4.out (by decide) (by decide)
  refine C4.mono ?_
  rintro e w5 ⟨rfl, A5, t5⟩
  clear C4
  have hX5 := (t5.same _ hXlt xN xm xr).trans HX4.out
  have HX5 := Lib.hid hX5
  have HBP5 := Lib.hid (HBP4.out.keep (HA4.out.keepB t5))
  have HA5 := Lib.hid A5
  have hXlt5 : w4.heap.size < w5.heap.size := Nat.lt_of_lt_of_le hXlt t5.size
  have HB5 := Lib.hid (t5.below HB4.out (Nat.le_succ _) (Nat.le_refl _) hr4)
  clear A5 t5 hX5 HX4 HBP4 HA4 HB4 hXlt
  go_wp2_with fail
  refine (copy_down (w.heap.size + 1) w.heap.size 0 row4 [⟨0, 1, va, [1]⟩] [(0, 1, true)] w5 HA5.out (by show 0 < 1; decide) (by show Pl.parted [(0, 1, true)] 0 1 = true; decide)).mono ?_
  rintro e w6 ⟨rfl, b6⟩
  have b6X : Below w5.heap.size w5 (w6.alloc (.cells #[.int .i64 0, .int .i64 0, .slice none 0 0] 31)) := b6.alloc b6.size _
  have HA6 := Lib.hid (HA5.out.below b6X)
  have HX6 := Lib.hid ((b6X.block _ hXlt5).trans HX5.out)
  have HBP6 := Lib.hid (HBP5.out.below b6X)
  have HB6 := Lib.hid (HB5.out.trans (b6X.mono HB5.out.size))
  have hXlt6 : w4.heap.size < (w6.alloc (.cells #[.int .i64 0, .int .i64 0, .slice none 0 0] 31)).heap.size := Nat.lt_of_lt_of_le hXlt5 b6X.size
  clear b6 b6X HA5 HX5 HBP5 HB5 hXlt5
  go_wp2_with fail
  generalize w6.alloc (.cells #[.int .i64 0, .int .i64 0, .slice none 0 0] 31) = W6 at *
  refine (len_net (w.heap.size + 1) w.heap.size row4 _ _ W6 HA6.out).mono ?_
  rintro e w7 ⟨rfl, rfl⟩
  go_wp2_with fail
  have C7 : Calls Try.prog 12 #[.pointer (some ⟨w.heap.size + 1, 0, none⟩), .int .i64 0] W6 fun e w' => ∃ v', e = .returned (.tuple #[.agg #[.int .i64 0, .int .i64 0, v'], .int .i64 10]) ∧ BytesT w' v' [] ∧ Step W6 w' (w.heap.size + 1) row4 w.heap.size [] [(0, 1, true)] :=
    take_down (w.heap.size + 1) w.heap.size 0 row4 [⟨0, 1, va, [1]⟩] [(0, 1, true)] W6 HA6.out (by show 0 < 1; decide) (by show 1 ≤ 64; decide) (by show Pl.parted [(0, 1, true)] 0 1 = true; decide)
  refine C7.mono ?_
  rintro e w8 ⟨v8, rfl, B8, S8⟩
  clear C7
  obtain ⟨a8, c8, hv8, _⟩ := id B8
  subst hv8
  obtain ⟨row8, A8, t8, r8⟩ := S8
  have b8X : Below w8.heap.size w8 (w8.alloc (.cells #[.int .i64 0, .int .i64 0, .slice a8 0 c8] 31)) := (Below.refl _ _).alloc (Nat.le_refl _) _
  have hXlt8 : w4.heap.size < w8.heap.size := Nat.lt_of_lt_of_le hXlt6 t8.size
  have hX8 := (b8X.block _ hXlt8).trans ((t8.same _ hXlt6 xN xm xr).trans HX6.out)
  have BP8 := (HBP6.out.keep (HA6.out.keepB t8)).below b8X
  have HB8 := Lib.hid ((t8.below HB6.out (Nat.le_succ _) (Nat.le_refl _) hr4).trans (b8X.mono (t8.below HB6.out (Nat.le_succ _) (Nat.le_refl _) hr4).size))
  have HA8 := Lib.hid (A8.below b8X)
  obtain ⟨ap', cp', hap, _, hbp⟩ := BP8.toC
  obtain ⟨gp, op, hgp, _, hpc⟩ := hbp 0 (by decide)
  cases hap
  subst hgp
  have x0 : (w8.alloc (.cells #[.int .i64 0, .int .i64 0, .slice a8 0 c8] 31)).cell? ⟨w4.heap.size, 0, none⟩ = some (.int .i64 1) := by simp only [World.cell?, hX8]; rfl
  have x2 : (w8.alloc (.cells #[.int .i64 0, .int .i64 0, .slice a8 0 c8] 31)).cell? ⟨w4.heap.size, 2, none⟩ = some (.slice (some ⟨gp, op, none⟩) 1 cp) := by simp only [World.cell?, hX8]; rfl
  have x3 : (w8.alloc (.cells #[.int .i64 0, .int .i64 0, .slice a8 0 c8] 31)).cell? ⟨gp, op, none⟩ = some (.int .u8 2) := hpc
  clear hpc hbp BP8 hX8 HX6 HBP6 HA6 HB6 A8 t8 r8 B8 b8X
  go_wp2_with fail
  generalize w8.alloc (.cells #[.int .i64 0, .int .i64 0, .slice a8 0 c8] 31) = W8 at *
  refine (len_net (w.heap.size + 1) w.heap.size row8 _ _ W8 HA8.out).mono ?_
  rintro e w9 ⟨rfl, rfl⟩
  go_wp2_with fail
  refine (drop_nil 0 W8).mono ?_
  rintro e w9 ⟨rfl, rfl⟩
  go_wp2_with fail
  go_ret
  exact ⟨rfl, HB8.out⟩
end Go.Proofs.Ytjoikochpkfoaaa
