/- Parted; Cut and Mend. -/
import Derived.Test.YtjoikochpkfoaaaNetG
namespace Go.Proofs.Ytjoikochpkfoaaa
open Go.RowKit
set_option linter.unusedVariables false

namespace Pl
def parted (T : Off) (a b : Int) : Bool := pair a b && look T (min a b) (max a b)
end Pl

theorem NetAt.map_cell {w : World} {N mb : Nat} {row : Option Nat} {es : List Pl.Ent} {T : Pl.Off} (h : NetAt w N row mb es T) : w.cell? ⟨N, 1, none⟩ = some (.map (some mb)) := by
  obtain ⟨v, hr, _⟩ := h.obj
  have := hr.cell (i := 1) (by decide)
  simpa using this

theorem parted_any (N mb : Nat) (row : Option Nat) (es : List Pl.Ent) (T : Pl.Off) (a b : Int) (w : World) (h : NetAt w N row mb es T) :
    Calls Try.prog 15 #[.pointer (some ⟨N, 0, none⟩), .int .i64 a, .int .i64 b] w fun e w' => e = .returned (.bool (Pl.parted T a b)) ∧ Below w.heap.size w w' := by
  have HH := Lib.hid h
  clear h
  unfold Pl.parted
  cases hp : Pl.pair a b
  · have HP := Lib.hid hp
    clear hp
    go_enter Try.func15, Try.ntmps15
    go_wp2_with fail
    refine (of_any a b _).mono ?_
    rintro e w1 ⟨rfl, b1⟩
    rw [HP.out]
    have HB := Lib.hid b1
    clear b1
    go_wp2_with fail
    go_quiet (fail)
    go_wp2_with fail
    go_ret
    exact ⟨rfl, below_drewN (HB.out.alloc HB.out.size _) _⟩
  · have HP := Lib.hid hp
    clear hp
    rw [Bool.true_and]
    generalize hlo : min a b = lo
    generalize hhi : max a b = hi
    generalize hlk : Pl.look T lo hi = lk
    have HLO := Lib.hid hlo
    have HHI := Lib.hid hhi
    have HLK := Lib.hid hlk
    clear hlo hhi hlk
    go_enter Try.func15, Try.ntmps15
    go_wp2_with fail
    refine (of_any a b _).mono ?_
    rintro e w1 ⟨rfl, b1⟩
    rw [HP.out, HLO.out, HHI.out]
    have A1 := HH.out.below b1
    have A2 := A1.below (w' := w1.alloc (.cells #[.int .i64 lo, .int .i64 hi] 61)) ((Below.refl _ _).alloc (Nat.le_refl _) _)
    have hN1 := A1.lt
    have c1 := A1.map_cell
    have M2 : ∀ n, MapAt ((w1.alloc (.cells #[.int .i64 lo, .int .i64 hi] 61)).drewN n) mb T := fun n => A2.mp.of_block rfl
    have hlk : ∀ n, (Instr.lookup 56 (.map (some mb)) (.agg #[.int .i64 lo, .int .i64 hi]) false).run Try.prog ((w1.alloc (.cells #[.int .i64 lo, .int .i64 hi] 61)).drewN n) = .ok (.bool (Pl.look T lo hi)) ((w1.alloc (.cells #[.int .i64 lo, .int .i64 hi] 61)).drewN n) := fun n =>
      run_lookup (M2 n) lo hi
    simp only [HLK.out] at hlk
    clear M2
    have HB := Lib.hid b1
    clear b1 A1 A2
    go_wp2_with fail
    go_quiet (fail)
    go_wp2_with fail
    go_ret
    exact ⟨rfl, below_drewN (HB.out.alloc HB.out.size _) _⟩

theorem part_arg (N : Nat) (a b : Int) (x : Bool) (w : World) (h : Pl.pair a b = false) :
    Calls Try.prog 34 #[.pointer (some ⟨N, 0, none⟩), .int .i64 a, .int .i64 b, .bool x] w fun e w' => e = .returned (.int .i64 2) ∧ Below w.heap.size w w' := by
  go_enter Try.func34, Try.ntmps34
  go_wp2_with fail
  refine (of_any a b _).mono ?_
  rintro e w1 ⟨rfl, b1⟩
  rw [h]
  have HB := Lib.hid b1
  clear b1
  go_wp2_with fail
  go_ret
  exact ⟨rfl, HB.out.alloc HB.out.size _⟩

theorem part_same (N mb : Nat) (row : Option Nat) (es : List Pl.Ent) (T : Pl.Off) (a b : Int) (x : Bool) (w : World) (h : NetAt w N row mb es T) (hp : Pl.pair a b = true) (hx : (Pl.look T (min a b) (max a b) == x) = true) :
    Calls Try.prog 34 #[.pointer (some ⟨N, 0, none⟩), .int .i64 a, .int .i64 b, .bool x] w fun e w' => e = .returned (.int .i64 15) ∧ Below w.heap.size w w' := by
  generalize hlo : min a b = lo at *
  generalize hhi : max a b = hi at *
  generalize hlk : Pl.look T lo hi = lk at *
  have HLO := Lib.hid hlo
  have HHI := Lib.hid hhi
  have HLK := Lib.hid hlk
  clear hlo hhi hlk
  have HH := Lib.hid h
  have HP := Lib.hid hp
  clear h hp
  go_enter Try.func34, Try.ntmps34
  go_wp2_with fail
  refine (of_any a b _).mono ?_
  rintro e w1 ⟨rfl, b1⟩
  rw [HP.out, HLO.out, HHI.out]
  have A1 := HH.out.below b1
  have A2 := A1.below (w' := w1.alloc (.cells #[.int .i64 lo, .int .i64 hi] 61)) ((Below.refl _ _).alloc (Nat.le_refl _) _)
  have hN1 := A1.lt
  have c1 := A1.map_cell
  have M2 : ∀ n, MapAt ((w1.alloc (.cells #[.int .i64 lo, .int .i64 hi] 61)).drewN n) mb T := fun n => A2.mp.of_block rfl
  have hlk : ∀ n, (Instr.lookup 56 (.map (some mb)) (.agg #[.int .i64 lo, .int .i64 hi]) false).run Try.prog ((w1.alloc (.cells #[.int .i64 lo, .int .i64 hi] 61)).drewN n) = .ok (.bool (Pl.look T lo hi)) ((w1.alloc (.cells #[.int .i64 lo, .int .i64 hi] 61)).drewN n) := fun n =>
    run_lookup (M2 n) lo hi
  simp only [HLK.out] at hlk
  clear M2
  have HB := Lib.hid b1
  clear b1 A1 A2
  go_wp2_with fail
  go_quiet (fail)
  go_wp2_with fail
  go_ret
  exact ⟨rfl, below_drewN (HB.out.alloc HB.out.size _) _⟩

theorem net_put {w W : World} {N mb : Nat} {row : Option Nat} {es : List Pl.Ent} {T T' : Pl.Off} {o : Obj} (h : NetAt w N row mb es T) (hb : Below w.heap.size w W) (hm : MapAt (setBlk W mb o) mb T') : NetAt (setBlk W mb o) N row mb es T' ∧ Turned w (setBlk W mb o) N row mb := by
  have A := h.below hb
  have hne := A.ne
  have hrne := A.row_ne
  obtain ⟨v, hr, ho, hv⟩ := A.obj
  have hs := hb.size
  refine ⟨⟨⟨v, hr.of_block (setBlk_heap _ _ _ hne), ownsRow_of ho (fun g hg => setBlk_heap _ _ _ (fun e => hrne (by rw [← hv, hg, e]))), hv⟩, hm, fun e he => (A.bodies e he).keep (fun g cs fr hg => setBlk_heap _ _ _ (A.bytes_ne hg).2.1)⟩, ⟨?_, ?_, ?_⟩⟩
  · rw [setBlk_size]; exact hs
  · intro i hi h1 h2 h3; exact (setBlk_heap _ _ _ h2).trans (hb.block i hi)
  · exact ⟨hb.os, hb.tape, hb.output⟩

theorem part_ok (N mb : Nat) (row : Option Nat) (es : List Pl.Ent) (T : Pl.Off) (a b : Int) (x : Bool) (w : World) (h : NetAt w N row mb es T) (hp : Pl.pair a b = true) (hx : (Pl.look T (min a b) (max a b) == x) = false) :
    Calls Try.prog 34 #[.pointer (some ⟨N, 0, none⟩), .int .i64 a, .int .i64 b, .bool x] w fun e w' => e = .returned (.int .i64 0) ∧ NetAt w' N row mb es (Pl.put T (min a b) (max a b) x) ∧ Turned w w' N row mb := by
  generalize hlo : min a b = lo at *
  generalize hhi : max a b = hi at *
  generalize hlk : Pl.look T lo hi = lk at *
  have HLO := Lib.hid hlo
  have HHI := Lib.hid hhi
  have HLK := Lib.hid hlk
  clear hlo hhi hlk
  have HH := Lib.hid h
  have HP := Lib.hid hp
  clear h hp
  go_enter Try.func34, Try.ntmps34
  go_wp2_with fail
  refine (of_any a b _).mono ?_
  rintro e w1 ⟨rfl, b1⟩
  rw [HP.out, HLO.out, HHI.out]
  have A1 := HH.out.below b1
  have b2 : Below w.heap.size w (w1.alloc (.cells #[.int .i64 lo, .int .i64 hi] 61)) := b1.alloc b1.size _
  have A2 := HH.out.below b2
  have hN1 := A1.lt
  have c1 := A1.map_cell
  have M2 : ∀ n, MapAt ((w1.alloc (.cells #[.int .i64 lo, .int .i64 hi] 61)).drewN n) mb T := fun n => A2.mp.of_block rfl
  have hlk : ∀ n, (Instr.lookup 56 (.map (some mb)) (.agg #[.int .i64 lo, .int .i64 hi]) false).run Try.prog ((w1.alloc (.cells #[.int .i64 lo, .int .i64 hi] 61)).drewN n) = .ok (.bool (Pl.look T lo hi)) ((w1.alloc (.cells #[.int .i64 lo, .int .i64 hi] 61)).drewN n) := fun n =>
    run_lookup (M2 n) lo hi
  simp only [HLK.out] at hlk
  clear M2
  have HB := Lib.hid b2
  have HA2 := Lib.hid A2
  clear b1 A1 A2 b2
  go_wp2_with fail
  go_quiet (fail)
  go_wp2_with fail
  clear hlk
  have HB2 : Hid (Below w.heap.size w ((w1.alloc (.cells #[.int .i64 lo, .int .i64 hi] 61)).drewN nq)) := Lib.hid (below_drewN HB.out _)
  have MB : MapAt (((w1.alloc (.cells #[.int .i64 lo, .int .i64 hi] 61)).drewN nq).drew) mb T := HA2.out.mp.of_block rfl
  obtain ⟨o, hup, hma⟩ := run_update MB lo hi x
  have HMA := Lib.hid hma
  have z0 : ((w1.alloc (.cells #[.int .i64 lo, .int .i64 hi] 61)).drewN nq).cell? ⟨w1.heap.size, 0, none⟩ = some (.int .i64 lo) := by simp
  have z1 : ((w1.alloc (.cells #[.int .i64 lo, .int .i64 hi] 61)).drewN nq).cell? ⟨w1.heap.size, 1, none⟩ = some (.int .i64 hi) := by simp
  have z2 : ((w1.alloc (.cells #[.int .i64 lo, .int .i64 hi] 61)).drewN nq).cell? ⟨N, 1, none⟩ = some (.map (some mb)) := by simpa using (World.cell?_alloc_lt w1 _ _ hN1).trans c1
  clear MB hma HB HA2 c1 hN1
  generalize (w1.alloc (.cells #[.int .i64 lo, .int .i64 hi] 61)).drewN nq = W at *
  refine wp_region_L (fun w' => w'.cell? ⟨w1.heap.size, 0, none⟩ = some (.int .i64 lo) ∧ w'.cell? ⟨w1.heap.size, 1, none⟩ = some (.int .i64 hi) ∧ w'.cell? ⟨N, 1, none⟩ = some (.map (some mb))) 6 (by kernel_rfl) ⟨z0, z1, z2⟩ (fun hHeld => ?_)
  refine wpL_takeAt (i := 0) 31 (v := ?va0) rfl (by kernel_rfl) (by kernel_rfl) (by kernel_rfl) (by kernel_rfl) (by kernel_rfl) (fun _ _ _ h => h) (Or.inl ⟨by rfl, ?ha0⟩) (by assumption) ?ra0
  case ha0 => intro w hSw; (try dsimp only at hSw); go_simp; (try with_reducible rfl)
  simp only [Act.put, List.setIfInBounds_toArray, List.set_cons_zero, List.set_cons_succ]
  refine wpL_takeAt (i := 1) 32 (v := ?va1) rfl (by kernel_rfl) (by kernel_rfl) (by kernel_rfl) (by kernel_rfl) (by kernel_rfl) (fun _ _ _ h => h) (Or.inl ⟨by rfl, ?ha1⟩) (by assumption) ?ra1
  case ha1 => intro w hSw; (try dsimp only at hSw); go_simp; (try with_reducible rfl)
  simp only [Act.put, List.setIfInBounds_toArray, List.set_cons_zero, List.set_cons_succ]
  refine wpL_takeAt (i := 2) 33 (v := ?va2) rfl (by kernel_rfl) (by kernel_rfl) (by kernel_rfl) (by kernel_rfl) (by kernel_rfl) (fun _ _ _ h => h) (Or.inl ⟨by rfl, ?ha2⟩) (by assumption) ?ra2
  case ha2 => intro w hSw; (try dsimp only at hSw); go_simp; (try with_reducible rfl)
  simp only [Act.put, List.setIfInBounds_toArray, List.set_cons_zero, List.set_cons_succ]
  refine wpL_takeAt (i := 3) 34 (v := ?va3) rfl (by kernel_rfl) (by kernel_rfl) (by kernel_rfl) (by kernel_rfl) (by kernel_rfl) (fun _ _ _ h => h) (Or.inl ⟨by rfl, ?ha3⟩) (by assumption) ?ra3
  case ha3 => intro w hSw; (try dsimp only at hSw); go_simp; (try with_reducible rfl)
  simp only [Act.put, List.setIfInBounds_toArray, List.set_cons_zero, List.set_cons_succ]
  refine wpL_takeAt (i := 4) 35 (v := ?va4) rfl (by kernel_rfl) (by kernel_rfl) (by kernel_rfl) (by kernel_rfl) (by kernel_rfl) (fun _ _ _ h => h) (Or.inl ⟨by rfl, ?ha4⟩) (by assumption) ?ra4
  case ha4 => intro w hSw; (try dsimp only at hSw); go_simp; (try with_reducible rfl)
  simp only [Act.put, List.setIfInBounds_toArray, List.set_cons_zero, List.set_cons_succ]
  refine wpL_takeAt (i := 5) 36 (v := ?va5) rfl (by kernel_rfl) (by kernel_rfl) (by kernel_rfl) (by kernel_rfl) (by kernel_rfl) (fun _ _ _ h => h) (Or.inl ⟨by rfl, ?ha5⟩) (by assumption) ?ra5
  case ha5 => intro w hSw; (try dsimp only at hSw); go_simp; (try with_reducible rfl)
  simp only [Act.put, List.setIfInBounds_toArray, List.set_cons_zero, List.set_cons_succ]
  clear hHeld
  refine wpL_one (i := 6) (by kernel_rfl) rfl (fun K hK => ?_)
  go_simp
  refine hK.out _ _ (fun hne => absurd rfl hne) (fun _ => ?o6)
  clear hK K
  try simp only [Act.put, List.setIfInBounds_toArray, List.set_cons_zero, List.set_cons_succ]
  refine wpL_done (by kernel_rfl) ?_ _
  have P := net_put HH.out (HB2.out.drew) HMA.out
  have HPP := Lib.hid P
  clear P z0 z1 z2 hup HMA HB2
  generalize setBlk W.drew mb o = W2 at *
  go_wp2_with fail
  go_ret
  exact ⟨rfl, HPP.out.1, HPP.out.2⟩

theorem cut_arg (N : Nat) (a b : Int) (w : World) (h : Pl.pair a b = false) :
    Calls Try.prog 20 #[.pointer (some ⟨N, 0, none⟩), .int .i64 a, .int .i64 b] w fun e w' => e = .returned (.int .i64 2) ∧ Below w.heap.size w w' := by
  have HC := Lib.hid (part_arg N a b true w h)
  go_enter Try.func20, Try.ntmps20
  go_wp2_with fail
  refine HC.out.mono ?_
  rintro e w1 ⟨rfl, b1⟩
  have HB := Lib.hid b1
  clear b1 HC
  go_wp2_with fail
  go_ret
  exact ⟨rfl, HB.out⟩
theorem cut_same (N mb : Nat) (row : Option Nat) (es : List Pl.Ent) (T : Pl.Off) (a b : Int) (w : World) (h : NetAt w N row mb es T) (hp : Pl.pair a b = true) (hx : (Pl.look T (min a b) (max a b) == true) = true) :
    Calls Try.prog 20 #[.pointer (some ⟨N, 0, none⟩), .int .i64 a, .int .i64 b] w fun e w' => e = .returned (.int .i64 15) ∧ Below w.heap.size w w' := by
  have HC := Lib.hid (part_same N mb row es T a b true w h hp hx)
  clear h hx
  go_enter Try.func20, Try.ntmps20
  go_wp2_with fail
  refine HC.out.mono ?_
  rintro e w1 ⟨rfl, b1⟩
  have HB := Lib.hid b1
  clear b1 HC
  go_wp2_with fail
  go_ret
  exact ⟨rfl, HB.out⟩
theorem cut_ok (N mb : Nat) (row : Option Nat) (es : List Pl.Ent) (T : Pl.Off) (a b : Int) (w : World) (h : NetAt w N row mb es T) (hp : Pl.pair a b = true) (hx : (Pl.look T (min a b) (max a b) == true) = false) :
    Calls Try.prog 20 #[.pointer (some ⟨N, 0, none⟩), .int .i64 a, .int .i64 b] w fun e w' => e = .returned (.int .i64 0) ∧ NetAt w' N row mb es (Pl.put T (min a b) (max a b) true) ∧ Turned w w' N row mb := by
  have HC := Lib.hid (part_ok N mb row es T a b true w h hp hx)
  clear h hx
  go_enter Try.func20, Try.ntmps20
  go_wp2_with fail
  refine HC.out.mono ?_
  rintro e w1 ⟨rfl, b1, t1⟩
  have HB := Lib.hid b1
  have HT := Lib.hid t1
  clear b1 t1 HC
  go_wp2_with fail
  go_ret
  exact ⟨rfl, HB.out, HT.out⟩
theorem mend_arg (N : Nat) (a b : Int) (w : World) (h : Pl.pair a b = false) :
    Calls Try.prog 26 #[.pointer (some ⟨N, 0, none⟩), .int .i64 a, .int .i64 b] w fun e w' => e = .returned (.int .i64 2) ∧ Below w.heap.size w w' := by
  have HC := Lib.hid (part_arg N a b false w h)
  go_enter Try.func26, Try.ntmps26
  go_wp2_with fail
  refine HC.out.mono ?_
  rintro e w1 ⟨rfl, b1⟩
  have HB := Lib.hid b1
  clear b1 HC
  go_wp2_with fail
  go_ret
  exact ⟨rfl, HB.out⟩
theorem mend_same (N mb : Nat) (row : Option Nat) (es : List Pl.Ent) (T : Pl.Off) (a b : Int) (w : World) (h : NetAt w N row mb es T) (hp : Pl.pair a b = true) (hx : (Pl.look T (min a b) (max a b) == false) = true) :
    Calls Try.prog 26 #[.pointer (some ⟨N, 0, none⟩), .int .i64 a, .int .i64 b] w fun e w' => e = .returned (.int .i64 15) ∧ Below w.heap.size w w' := by
  have HC := Lib.hid (part_same N mb row es T a b false w h hp hx)
  clear h hx
  go_enter Try.func26, Try.ntmps26
  go_wp2_with fail
  refine HC.out.mono ?_
  rintro e w1 ⟨rfl, b1⟩
  have HB := Lib.hid b1
  clear b1 HC
  go_wp2_with fail
  go_ret
  exact ⟨rfl, HB.out⟩
theorem mend_ok (N mb : Nat) (row : Option Nat) (es : List Pl.Ent) (T : Pl.Off) (a b : Int) (w : World) (h : NetAt w N row mb es T) (hp : Pl.pair a b = true) (hx : (Pl.look T (min a b) (max a b) == false) = false) :
    Calls Try.prog 26 #[.pointer (some ⟨N, 0, none⟩), .int .i64 a, .int .i64 b] w fun e w' => e = .returned (.int .i64 0) ∧ NetAt w' N row mb es (Pl.put T (min a b) (max a b) false) ∧ Turned w w' N row mb := by
  have HC := Lib.hid (part_ok N mb row es T a b false w h hp hx)
  clear h hx
  go_enter Try.func26, Try.ntmps26
  go_wp2_with fail
  refine HC.out.mono ?_
  rintro e w1 ⟨rfl, b1, t1⟩
  have HB := Lib.hid b1
  have HT := Lib.hid t1
  clear b1 t1 HC
  go_wp2_with fail
  go_ret
  exact ⟨rfl, HB.out, HT.out⟩
end Go.Proofs.Ytjoikochpkfoaaa
