/- The document's Write and Read. -/
import Derived.Test.YtjkaegdlpmpneaaFenZ
namespace Go.Proofs.Ytjkaegdlpmpneaa
open Go.RowKit
set_option linter.unusedVariables false

theorem ref_arg (M : Nat) (x f r b : Int) (w : World) (h : (Pl.inB x 0 7 && (Pl.inB r 0 1000 && Pl.inB b 0 7)) = false) :
    Calls Try.prog 10 #[.pointer (some ⟨M, 0, none⟩), .int .i64 x, .int .i64 f, .int .i64 r, .int .i64 b] w fun e w' => e = .returned (.int .i64 2) ∧ w = w' := by
  have h' : ¬ ((0 ≤ x ∧ x ≤ 7) ∧ (0 ≤ r ∧ r ≤ 1000) ∧ (0 ≤ b ∧ b ≤ 7)) := by
    rintro ⟨h0, h1, h2⟩
    rw [(Pl.inB_iff x 0 7).2 h0, (Pl.inB_iff r 0 1000).2 h1, (Pl.inB_iff b 0 7).2 h2] at h
    cases h
  clear h
  by_cases a1 : x < 0
  · clear h'; go_enter Try.func10, Try.ntmps10; go_wp2; go_ret; exact ⟨rfl, rfl⟩
  by_cases a2 : 7 < x
  · clear h'; go_enter Try.func10, Try.ntmps10; go_wp2; go_ret; exact ⟨rfl, rfl⟩
  by_cases a3 : r < 0
  · clear h'; go_enter Try.func10, Try.ntmps10; go_wp2; go_ret; exact ⟨rfl, rfl⟩
  by_cases a4 : 1000 < r
  · clear h'; go_enter Try.func10, Try.ntmps10; go_wp2; go_ret; exact ⟨rfl, rfl⟩
  by_cases a5 : b < 0
  · clear h'; go_enter Try.func10, Try.ntmps10; go_wp2; go_ret; exact ⟨rfl, rfl⟩
  by_cases a6 : 7 < b
  · clear h'; go_enter Try.func10, Try.ntmps10; go_wp2; go_ret; exact ⟨rfl, rfl⟩
  exact absurd ⟨⟨by omega, by omega⟩, ⟨by omega, by omega⟩, by omega, by omega⟩ h'

theorem ref_fence (M k : Nat) (f r b fe : Int) (w : World) (hk : k < 8) (h0 : 0 ≤ r) (h1 : r ≤ 1000) (h2 : 0 ≤ b) (h3 : b ≤ 7) (hc : w.cell? ⟨M, 8 + k, none⟩ = some (.int .i64 fe)) (hne : (fe != f) = true) :
    Calls Try.prog 10 #[.pointer (some ⟨M, 0, none⟩), .int .i64 k, .int .i64 f, .int .i64 r, .int .i64 b] w fun e w' => e = .returned (.int .i64 13) ∧ w = w' := by
  have a1 : ¬ ((k : Int) < 0) := by omega
  have a2 : ¬ (7 < (k : Int)) := by omega
  have a0 : (k : Int) < 8 := by omega
  have a3 : ¬ (r < 0) := by omega
  have a4 : ¬ (1000 < r) := by omega
  have a5 : ¬ (b < 0) := by omega
  have a6 : ¬ (7 < b) := by omega
  go_enter Try.func10, Try.ntmps10
  go_wp2
  go_ret
  exact ⟨rfl, rfl⟩

theorem ref_read_no (M : Nat) (x : Int) (w : World) (h : Pl.inB x 0 7 = false) :
    Calls Try.prog 11 #[.pointer (some ⟨M, 0, none⟩), .int .i64 x] w fun e w' => e = .returned (.tuple #[.int .i64 0, .int .i64 0, .int .i64 2]) ∧ w = w' := by
  have h' : ¬ (0 ≤ x ∧ x ≤ 7) := (Pl.inB_no _ _ _).1 h
  clear h
  by_cases a1 : x < 0
  · clear h'; go_enter Try.func11, Try.ntmps11; go_wp2; exact bodyPost_ret (v := .tuple #[.int .i64 0, .int .i64 0, .int .i64 2]) (by simp [results, Try.results11, go_sem]) rfl ⟨rfl, rfl⟩
  by_cases a2 : 7 < x
  · clear h'; go_enter Try.func11, Try.ntmps11; go_wp2; exact bodyPost_ret (v := .tuple #[.int .i64 0, .int .i64 0, .int .i64 2]) (by simp [results, Try.results11, go_sem]) rfl ⟨rfl, rfl⟩
  exact absurd ⟨by omega, by omega⟩ h'

theorem ref_read (M k : Nat) (re fe : Int) (w : World) (hk : k < 8) (c0 : w.cell? ⟨M, k, none⟩ = some (.int .i64 re)) (c1 : w.cell? ⟨M, 8 + k, none⟩ = some (.int .i64 fe)) :
    Calls Try.prog 11 #[.pointer (some ⟨M, 0, none⟩), .int .i64 k] w fun e w' => e = .returned (.tuple #[.int .i64 re, .int .i64 fe, .int .i64 0]) ∧ Below w.heap.size w w' := by
  have a1 : ¬ ((k : Int) < 0) := by omega
  have a2 : ¬ (7 < (k : Int)) := by omega
  have a0 : (k : Int) < 8 := by omega
  go_enter Try.func11, Try.ntmps11
  go_wp2_with fail
  go_quiet (fail)
  go_wp2
  exact bodyPost_ret (v := .tuple #[.int .i64 re, .int .i64 fe, .int .i64 0]) (by simp [results, Try.results11, go_sem]) rfl ⟨rfl, below_drewN (Below.refl _ _) _⟩

set_option maxHeartbeats 4000000 in
theorem ref_ok (M k : Nat) (f r b : Int) (row : Option Nat) (es : List Pl.Ent) (w : World) (hk : k < 8) (h : RefAt w M row es) (h0 : 0 ≤ r) (h1 : r ≤ 1000) (h2 : 0 ≤ b) (h3 : b ≤ 7) (hne : (Pl.fenOf es k != f) = false) (hn : es.length ≤ 1000) :
    Calls Try.prog 10 #[.pointer (some ⟨M, 0, none⟩), .int .i64 k, .int .i64 f, .int .i64 r, .int .i64 b] w fun e w' => e = .returned (.int .i64 0) ∧ ∃ row', RefAt w' M row' (es ++ [⟨k, Pl.fenOf es k + 1, Pl.repOf es k, r, b⟩]) ∧ Turned w w' M row ∧ (row' = row ∨ ∃ g, row' = some g ∧ w.heap.size ≤ g) := by
  obtain ⟨i0, hi, hz0, hz1, hz2⟩ := info_parts info61
  obtain ⟨v, hv, ho, hb⟩ := h.log
  have R := rmid_at hk h hv ho hb
  have hlow := h.low k hk
  have hlt := h.lt
  have c1 := h.fen k hk
  have fr := h.fr (8 + k)
  have RH := Lib.hid R
  have HB := Lib.hid hb
  have HH := Lib.hid h
  have VLT : Hid (∀ g, v.ownBlock = some g → M + 1 ≤ g ∧ g < w.heap.size) := Lib.hid ho.lt
  clear h hv ho hb R
  have a1 : ¬ ((k : Int) < 0) := by omega
  have a2 : ¬ (7 < (k : Int)) := by omega
  have a0 : (k : Int) < 8 := by omega
  have a3 : ¬ (r < 0) := by omega
  have a4 : ¬ (1000 < r) := by omega
  have a5 : ¬ (b < 0) := by omega
  have a6 : ¬ (7 < b) := by omega
  have wr : IntKind.i64.wrap (Pl.fenOf es k + 1) = Pl.fenOf es k + 1 := IntWalk.i64_in _ (by omega)
  have WR := Lib.hid wr
  clear wr
  go_enter Try.func10, Try.ntmps10
  go_wp2_with fail
  refine wp_region_L (fun w' => w'.cell? ⟨M, 8 + k, none⟩ = some (.int .i64 (Pl.fenOf es k)) ∧ w'.frozen? ⟨M, 8 + k, none⟩ = false) 10 (by kernel_rfl) ⟨c1, fr⟩ (fun hHeld => ?_)
  refine wpL_takeAt (i := 0) 41 (v := ?va0) rfl (by kernel_rfl) (by kernel_rfl) (by kernel_rfl) (by kernel_rfl) (by kernel_rfl) (fun _ _ _ h => h) (Or.inl ⟨by rfl, ?ha0⟩) (by assumption) ?ra0
  case ha0 => intro w hSw; (try dsimp only at hSw); go_simp; (try with_reducible rfl)
  simp only [Act.put, List.setIfInBounds_toArray, List.set_cons_zero, List.set_cons_succ]
  refine wpL_takeAt (i := 1) 42 (v := ?va1) rfl (by kernel_rfl) (by kernel_rfl) (by kernel_rfl) (by kernel_rfl) (by kernel_rfl) (fun _ _ _ h => h) (Or.inl ⟨by rfl, ?ha1⟩) (by assumption) ?ra1
  case ha1 => intro w hSw; (try dsimp only at hSw); go_simp; (try with_reducible rfl)
  simp only [Act.put, List.setIfInBounds_toArray, List.set_cons_zero, List.set_cons_succ]
  refine wpL_takeAt (i := 2) 43 (v := ?va2) rfl (by kernel_rfl) (by kernel_rfl) (by kernel_rfl) (by kernel_rfl) (by kernel_rfl) (fun _ _ _ h => h) (Or.inl ⟨by rfl, ?ha2⟩) (by assumption) ?ra2
  case ha2 => intro w hSw; (try dsimp only at hSw); go_simp; (try with_reducible rfl)
  simp only [Act.put, List.setIfInBounds_toArray, List.set_cons_zero, List.set_cons_succ]
  refine wpL_takeAt (i := 3) 44 (v := ?va3) rfl (by kernel_rfl) (by kernel_rfl) (by kernel_rfl) (by kernel_rfl) (by kernel_rfl) (fun _ _ _ h => h) (Or.inl ⟨by rfl, ?ha3⟩) (by assumption) ?ra3
  case ha3 => intro w hSw; (try dsimp only at hSw); go_simp; (try with_reducible rfl)
  simp only [Act.put, List.setIfInBounds_toArray, List.set_cons_zero, List.set_cons_succ]
  refine wpL_takeAt (i := 4) 45 (v := ?va4) rfl (by kernel_rfl) (by kernel_rfl) (by kernel_rfl) (by kernel_rfl) (by kernel_rfl) (fun _ _ _ h => h) (Or.inl ⟨by rfl, ?ha4⟩) (by assumption) ?ra4
  case ha4 => intro w hSw; (try dsimp only at hSw); go_simp; (try with_reducible rfl)
  simp only [Act.put, List.setIfInBounds_toArray, List.set_cons_zero, List.set_cons_succ]
  refine wpL_takeAt (i := 5) 46 (v := ?va5) rfl (by kernel_rfl) (by kernel_rfl) (by kernel_rfl) (by kernel_rfl) (by kernel_rfl) (fun _ _ _ h => h) (Or.inl ⟨by rfl, ?ha5⟩) (by assumption) ?ra5
  case ha5 => intro w hSw; (try dsimp only at hSw); go_simp; (try with_reducible rfl)
  simp only [Act.put, List.setIfInBounds_toArray, List.set_cons_zero, List.set_cons_succ]
  have wr := WR.out
  refine wpL_takeAt (i := 6) 47 (v := ?va6) rfl (by kernel_rfl) (by kernel_rfl) (by kernel_rfl) (by kernel_rfl) (by kernel_rfl) (fun _ _ _ h => h) (Or.inl ⟨by rfl, ?ha6⟩) (by assumption) ?ra6
  case ha6 => intro w hSw; (try dsimp only at hSw); go_simp; (try with_reducible rfl)
  simp only [Act.put, List.setIfInBounds_toArray, List.set_cons_zero, List.set_cons_succ]
  clear wr
  clear hHeld
  refine wpL_one (i := 7) (by kernel_rfl) rfl (fun K hK => ?_)
  go_simp
  refine hK.out _ _ (fun _ => ⟨c1, fr⟩) (fun _ => ?oa7)
  clear hK K
  try simp only [Act.put, List.setIfInBounds_toArray, List.set_cons_zero, List.set_cons_succ]
  refine wpL_one (i := 8) (by kernel_rfl) rfl (fun K hK => ?_)
  go_simp
  refine hK.out _ _ (fun _ => ⟨c1, fr⟩) (fun _ => ?oa8)
  clear hK K
  try simp only [Act.put, List.setIfInBounds_toArray, List.set_cons_zero, List.set_cons_succ]
  refine wpL_one (i := 9) (by kernel_rfl) rfl (fun K hK => ?_)
  go_simp
  refine hK.out _ _ (fun _ => ⟨c1, fr⟩) (fun _ => ?oa9)
  clear hK K
  try simp only [Act.put, List.setIfInBounds_toArray, List.set_cons_zero, List.set_cons_succ]
  refine wpL_one (i := 10) (by kernel_rfl) rfl (fun K hK => ?_)
  go_simp
  refine hK.out _ _ (fun hne => absurd rfl hne) (fun _ => ?oa10)
  clear hK K
  try simp only [Act.put, List.setIfInBounds_toArray, List.set_cons_zero, List.set_cons_succ]
  refine wpL_done (by kernel_rfl) ?_ _
  have R : RMid w ((w.setCell ⟨M, 8 + k, none⟩ (.int .i64 (Pl.fenOf es k + 1))).drew) M k es.length (Pl.repOf es k) (Pl.fenOf es k + 1) row v (Pl.rows es) := RH.out
  have RH2 := Lib.hid R
  clear c1 fr R RH
  generalize (w.setCell ⟨M, 8 + k, none⟩ (.int .i64 (Pl.fenOf es k + 1))).drew = W at *
  have hWs := RH2.out.size
  have c0 := RH2.out.c0
  have c1 := RH2.out.c1
  have cv := RH2.out.cv
  have fr := RH2.out.fr 16
  have hMW : M < W.heap.size := by omega
  have OWN := Lib.hid RH2.out.own
  go_wp2_with fail
  refine wp_region_L (fun w' => w'.cell? ⟨M, k, none⟩ = some (.int .i64 (Pl.repOf es k)) ∧ w'.cell? ⟨M, 8 + k, none⟩ = some (.int .i64 (Pl.fenOf es k + 1)) ∧ w'.cell? ⟨M, 16, none⟩ = some v) 25 (by kernel_rfl) ⟨c0, c1, cv⟩ (fun hHeld => ?_)
  refine wpL_takeAt (i := 0) 51 (v := ?vb0) rfl (by kernel_rfl) (by kernel_rfl) (by kernel_rfl) (by kernel_rfl) (by kernel_rfl) (fun _ _ _ h => h) (Or.inl ⟨by rfl, ?hb0⟩) (by assumption) ?rb0
  case hb0 => intro w hSw; (try dsimp only at hSw); go_simp; (try with_reducible rfl)
  simp only [Act.put, List.setIfInBounds_toArray, List.set_cons_zero, List.set_cons_succ]
  refine wpL_takeAt (i := 1) 52 (v := ?vb1) rfl (by kernel_rfl) (by kernel_rfl) (by kernel_rfl) (by kernel_rfl) (by kernel_rfl) (fun _ _ _ h => h) (Or.inl ⟨by rfl, ?hb1⟩) (by assumption) ?rb1
  case hb1 => intro w hSw; (try dsimp only at hSw); go_simp; (try with_reducible rfl)
  simp only [Act.put, List.setIfInBounds_toArray, List.set_cons_zero, List.set_cons_succ]
  refine wpL_takeAt (i := 2) 53 (v := ?vb2) rfl (by kernel_rfl) (by kernel_rfl) (by kernel_rfl) (by kernel_rfl) (by kernel_rfl) (fun _ _ _ h => h) (Or.inl ⟨by rfl, ?hb2⟩) (by assumption) ?rb2
  case hb2 => intro w hSw; (try dsimp only at hSw); go_simp; (try with_reducible rfl)
  simp only [Act.put, List.setIfInBounds_toArray, List.set_cons_zero, List.set_cons_succ]
  refine wpL_takeAt (i := 3) 54 (v := ?vb3) rfl (by kernel_rfl) (by kernel_rfl) (by kernel_rfl) (by kernel_rfl) (by kernel_rfl) (fun _ _ _ h => h) (Or.inl ⟨by rfl, ?hb3⟩) (by assumption) ?rb3
  case hb3 => intro w hSw; (try dsimp only at hSw); go_simp; (try with_reducible rfl)
  simp only [Act.put, List.setIfInBounds_toArray, List.set_cons_zero, List.set_cons_succ]
  refine wpL_takeAt (i := 4) 55 (v := ?vb4) rfl (by kernel_rfl) (by kernel_rfl) (by kernel_rfl) (by kernel_rfl) (by kernel_rfl) (fun _ _ _ h => h) (Or.inl ⟨by rfl, ?hb4⟩) (by assumption) ?rb4
  case hb4 => intro w hSw; (try dsimp only at hSw); go_simp; (try with_reducible rfl)
  simp only [Act.put, List.setIfInBounds_toArray, List.set_cons_zero, List.set_cons_succ]
  refine wpL_takeAt (i := 5) 56 (v := ?vb5) rfl (by kernel_rfl) (by kernel_rfl) (by kernel_rfl) (by kernel_rfl) (by kernel_rfl) (fun _ _ _ h => h) (Or.inl ⟨by rfl, ?hb5⟩) (by assumption) ?rb5
  case hb5 => intro w hSw; (try dsimp only at hSw); go_simp; (try with_reducible rfl)
  simp only [Act.put, List.setIfInBounds_toArray, List.set_cons_zero, List.set_cons_succ]
  refine wpL_takeAt (i := 6) 57 (v := ?vb6) rfl (by kernel_rfl) (by kernel_rfl) (by kernel_rfl) (by kernel_rfl) (by kernel_rfl) (fun _ _ _ h => h) (Or.inl ⟨by rfl, ?hb6⟩) (by assumption) ?rb6
  case hb6 => intro w hSw; (try dsimp only at hSw); go_simp; (try with_reducible rfl)
  simp only [Act.put, List.setIfInBounds_toArray, List.set_cons_zero, List.set_cons_succ]
  refine wpL_takeAt (i := 7) 58 (v := ?vb7) rfl (by kernel_rfl) (by kernel_rfl) (by kernel_rfl) (by kernel_rfl) (by kernel_rfl) (fun _ _ _ h => h) (Or.inl ⟨by rfl, ?hb7⟩) (by assumption) ?rb7
  case hb7 => intro w hSw; (try dsimp only at hSw); go_simp; (try with_reducible rfl)
  simp only [Act.put, List.setIfInBounds_toArray, List.set_cons_zero, List.set_cons_succ]
  refine wpL_takeAt (i := 8) 59 (v := ?vb8) rfl (by kernel_rfl) (by kernel_rfl) (by kernel_rfl) (by kernel_rfl) (by kernel_rfl) (fun _ _ _ h => h) (Or.inl ⟨by rfl, ?hb8⟩) (by assumption) ?rb8
  case hb8 => intro w hSw; (try dsimp only at hSw); go_simp; (try with_reducible rfl)
  simp only [Act.put, List.setIfInBounds_toArray, List.set_cons_zero, List.set_cons_succ]
  refine wpL_takeAt (i := 9) 60 (v := ?vb9) rfl (by kernel_rfl) (by kernel_rfl) (by kernel_rfl) (by kernel_rfl) (by kernel_rfl) (fun _ _ _ h => h) (Or.inl ⟨by rfl, ?hb9⟩) (by assumption) ?rb9
  case hb9 => intro w hSw; (try dsimp only at hSw); go_simp; (try with_reducible rfl)
  simp only [Act.put, List.setIfInBounds_toArray, List.set_cons_zero, List.set_cons_succ]
  refine wpL_takeAt (i := 10) 61 (v := ?vb10) rfl (by kernel_rfl) (by kernel_rfl) (by kernel_rfl) (by kernel_rfl) (by kernel_rfl) (fun _ _ _ h => h) (Or.inl ⟨by rfl, ?hb10⟩) (by assumption) ?rb10
  case hb10 => intro w hSw; (try dsimp only at hSw); go_simp; (try with_reducible rfl)
  simp only [Act.put, List.setIfInBounds_toArray, List.set_cons_zero, List.set_cons_succ]
  refine wpL_takeAt (i := 11) 62 (v := ?vb11) rfl (by kernel_rfl) (by kernel_rfl) (by kernel_rfl) (by kernel_rfl) (by kernel_rfl) (fun _ _ _ h => h) (Or.inl ⟨by rfl, ?hb11⟩) (by assumption) ?rb11
  case hb11 => intro w hSw; (try dsimp only at hSw); go_simp; (try with_reducible rfl)
  simp only [Act.put, List.setIfInBounds_toArray, List.set_cons_zero, List.set_cons_succ]
  refine wpL_takeAt (i := 12) 63 (v := ?vb12) rfl (by kernel_rfl) (by kernel_rfl) (by kernel_rfl) (by kernel_rfl) (by kernel_rfl) (fun _ _ _ h => h) (Or.inl ⟨by rfl, ?hb12⟩) (by assumption) ?rb12
  case hb12 => intro w hSw; (try dsimp only at hSw); go_simp; (try with_reducible rfl)
  simp only [Act.put, List.setIfInBounds_toArray, List.set_cons_zero, List.set_cons_succ]
  refine wpL_takeAt (i := 13) 64 (v := ?vb13) rfl (by kernel_rfl) (by kernel_rfl) (by kernel_rfl) (by kernel_rfl) (by kernel_rfl) (fun _ _ _ h => h) (Or.inl ⟨by rfl, ?hb13⟩) (by assumption) ?rb13
  case hb13 => intro w hSw; (try dsimp only at hSw); go_simp; (try with_reducible rfl)
  simp only [Act.put, List.setIfInBounds_toArray, List.set_cons_zero, List.set_cons_succ]
  refine wpL_takeAt (i := 14) 65 (v := ?vb14) rfl (by kernel_rfl) (by kernel_rfl) (by kernel_rfl) (by kernel_rfl) (by kernel_rfl) (fun _ _ _ h => h) (Or.inl ⟨by rfl, ?hb14⟩) (by assumption) ?rb14
  case hb14 => intro w hSw; (try dsimp only at hSw); go_simp; (try with_reducible rfl)
  simp only [Act.put, List.setIfInBounds_toArray, List.set_cons_zero, List.set_cons_succ]
  refine wpL_takeAt (i := 15) 66 (v := ?vb15) rfl (by kernel_rfl) (by kernel_rfl) (by kernel_rfl) (by kernel_rfl) (by kernel_rfl) (fun _ _ _ h => h) (Or.inl ⟨by rfl, ?hb15⟩) (by assumption) ?rb15
  case hb15 => intro w hSw; (try dsimp only at hSw); go_simp; (try with_reducible rfl)
  simp only [Act.put, List.setIfInBounds_toArray, List.set_cons_zero, List.set_cons_succ]
  refine wpL_takeAt (i := 16) 67 (v := ?vb16) rfl (by kernel_rfl) (by kernel_rfl) (by kernel_rfl) (by kernel_rfl) (by kernel_rfl) (fun _ _ _ h => h) (Or.inl ⟨by rfl, ?hb16⟩) (by assumption) ?rb16
  case hb16 => intro w hSw; (try dsimp only at hSw); go_simp; (try with_reducible rfl)
  simp only [Act.put, List.setIfInBounds_toArray, List.set_cons_zero, List.set_cons_succ]
  refine wpL_takeAt (i := 17) 68 (v := ?vb17) rfl (by kernel_rfl) (by kernel_rfl) (by kernel_rfl) (by kernel_rfl) (by kernel_rfl) (fun _ _ _ h => h) (Or.inl ⟨by rfl, ?hb17⟩) (by assumption) ?rb17
  case hb17 => intro w hSw; (try dsimp only at hSw); go_simp; (try with_reducible rfl)
  simp only [Act.put, List.setIfInBounds_toArray, List.set_cons_zero, List.set_cons_succ]
  refine wpL_takeAt (i := 18) 69 (v := ?vb18) rfl (by kernel_rfl) (by kernel_rfl) (by kernel_rfl) (by kernel_rfl) (by kernel_rfl) (fun _ _ _ h => h) (Or.inl ⟨by rfl, ?hb18⟩) (by assumption) ?rb18
  case hb18 => intro w hSw; (try dsimp only at hSw); go_simp; (try with_reducible rfl)
  simp only [Act.put, List.setIfInBounds_toArray, List.set_cons_zero, List.set_cons_succ]
  refine wpL_takeAt (i := 19) 70 (v := ?vb19) rfl (by kernel_rfl) (by kernel_rfl) (by kernel_rfl) (by kernel_rfl) (by kernel_rfl) (fun _ _ _ h => h) (Or.inl ⟨by rfl, ?hb19⟩) (by assumption) ?rb19
  case hb19 => intro w hSw; (try dsimp only at hSw); go_simp; (try with_reducible rfl)
  simp only [Act.put, List.setIfInBounds_toArray, List.set_cons_zero, List.set_cons_succ]
  refine wpL_takeAt (i := 20) 71 (v := ?vb20) rfl (by kernel_rfl) (by kernel_rfl) (by kernel_rfl) (by kernel_rfl) (by kernel_rfl) (fun _ _ _ h => h) (Or.inl ⟨by rfl, ?hb20⟩) (by assumption) ?rb20
  case hb20 => intro w hSw; (try dsimp only at hSw); go_simp; (try with_reducible rfl)
  simp only [Act.put, List.setIfInBounds_toArray, List.set_cons_zero, List.set_cons_succ]
  refine wpL_one (i := 21) (by kernel_rfl) rfl (fun K hK => ?_)
  go_simp
  refine hK.out _ _ (fun _ => ⟨(World.cell?_alloc_lt W _ _ hMW).trans c0, (World.cell?_alloc_lt W _ _ hMW).trans c1, (World.cell?_alloc_lt W _ _ hMW).trans cv⟩) (fun hH => ?rb)
  clear hK K hHeld
  refine wpL_one (i := 22) (by kernel_rfl) rfl (fun K hK => ?_)
  (refine step_append_lies _ rfl (.tmp 55) (.tmp 72) 35 rfl (M + 1) 61 i0 (.agg #[.int .i64 0, .int .i64 0, .int .i64 0, .int .i64 0, .int .i64 0]) 5 40 Try.underlying35 hi hz0 hz1 hz2 rfl (by decide) v es.length (Pl.rows es) rfl ((World.ownsRow.alloc (w := W) OWN.out _)) ⟨W.heap.size, 0, none⟩ 1 1 (Pl.Ent.cells ⟨k, Pl.fenOf es k + 1, Pl.repOf es k, r, b⟩) rfl rfl (World.news_of_block (cs := #[.int .i64 k, .int .i64 (Pl.fenOf es k + 1), .int .i64 (Pl.repOf es k), .int .i64 r, .int .i64 b]) (t := 61) (fr := (0, 0)) (heap_alloc_new W _)) (by simp [Value.oneCell', Pl.Ent.cells]) (by decide) (by unfold maxLen; omega) (by omega) (by simp; omega) (W.heap.size + 1) (by simp) ?_; intro g cap w1 hown1 hgrow1 hat1 hlt1)
  have ne : some M ≠ v.ownBlock := fun e => by have := VLT.out M e.symm; omega
  have hblk : w1.heap[M]? = W.heap[M]? := (hgrow1.block M (by simp; omega) ne).trans (Below.heap_alloc W _ _ (by omega))
  have q0 : w1.cell? ⟨M, k, none⟩ = _ := (World.cell?_of_block hblk).trans c0
  have q1 : w1.cell? ⟨M, 8 + k, none⟩ = _ := (World.cell?_of_block hblk).trans c1
  have q2 : w1.cell? ⟨M, 16, none⟩ = _ := (World.cell?_of_block hblk).trans cv
  have qf : w1.frozen? ⟨M, 16, none⟩ = false := (World.frozen?_of_block hblk).trans fr
  refine hK.out _ _ (fun _ => ⟨q0, q1, q2⟩) (fun hH => ?rc)
  clear hK K hH
  simp only [Act.put, List.setIfInBounds_toArray]
  have hat2 : some g = row ∨ W.heap.size ≤ g := hat1.imp (fun e => by rw [← HB.out, ← e]) (fun e => by omega)
  have late := rmid_late (v := v) (o := .cells #[.int .i64 k, .int .i64 (Pl.fenOf es k + 1), .int .i64 (Pl.repOf es k), .int .i64 r, .int .i64 b] 61) hk hlt RH2.out (fun g hg => by have := VLT.out g hg; omega) HB.out hgrow1 hown1 hat2
  have LATE := Lib.hid late
  clear late hat2 hat1 hown1 hgrow1 hblk ne OWN
  refine wpL_one (i := 23) (by kernel_rfl) rfl (fun K hK => ?_)
  go_simp
  refine hK.out _ _ (fun _ => ⟨q0, q1, q2⟩) (fun _ => ?oc23)
  clear hK K
  try simp only [Act.put, List.setIfInBounds_toArray, List.set_cons_zero, List.set_cons_succ]
  refine wpL_one (i := 24) (by kernel_rfl) rfl (fun K hK => ?_)
  go_simp
  refine hK.out _ _ (fun _ => ⟨q0, q1, q2⟩) (fun _ => ?oc24)
  clear hK K
  try simp only [Act.put, List.setIfInBounds_toArray, List.set_cons_zero, List.set_cons_succ]
  refine wpL_one (i := 25) (by kernel_rfl) rfl (fun K hK => ?_)
  go_simp
  refine hK.out _ _ (fun hne => absurd rfl hne) (fun _ => ?oc25)
  clear hK K
  try simp only [Act.put, List.setIfInBounds_toArray, List.set_cons_zero, List.set_cons_succ]
  refine wpL_done (by kernel_rfl) ?_ _
  clear q0 q1 q2 qf c0 c1 cv fr hMW hWs RH2
  generalize w1.setCell _ _ = W2 at *
  have c0 := LATE.out.c0
  have f0 := LATE.out.fr k
  go_wp2_with fail
  go_ret
  obtain ⟨A, T⟩ := rmid_end (r := r) (b := b) hk HH.out (by rw [Pl.rows_append]; exact LATE.out)
  refine ⟨rfl, _, A, T, ?_⟩
  rcases LATE.out.at' with h | h
  · exact .inl h
  · exact .inr h
end Go.Proofs.Ytjkaegdlpmpneaa
