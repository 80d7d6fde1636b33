/- The walks of stir and Hash, of the program and of the reference: both compute the plain functions. -/
import Derived.Test.YtbmihbmhpmmdcaaRows
import Derived.Test.YtbmihbmhpmmdcaaPlain
import Derived.WalkKit
import Derived.ProofKit
import Derived.Lib.Hide
namespace Go.Proofs.Ytbmihbmhpmmdcaa
open Go.RowKit

theorem ret_u64 {a b : Int} (h : a = b) : Ending.returned (.int .u64 a) = .returned (.int .u64 b) := by rw [h]

theorem stir_any (y : Int) (w : World) (h0 : 0 ≤ y) (h1 : y < 18446744073709551616) :
    Calls Try.prog 13 #[.int .u64 y] w fun e w' => e = .returned (.int .u64 (Pl.stirI y)) ∧ w = w' := by
  have H := Lib.hid (Pl.stir_eq y h0 h1)
  go_enter Try.func13, Try.ntmps13
  go_wp2
  go_ret
  exact ⟨ret_u64 H.out, rfl⟩
theorem stirR_any (y : Int) (w : World) (h0 : 0 ≤ y) (h1 : y < 18446744073709551616) :
    Calls Try.prog 14 #[.int .u64 y] w fun e w' => e = .returned (.int .u64 (Pl.stirI y)) ∧ w = w' := by
  have H := Lib.hid (Pl.stir_eq y h0 h1)
  go_enter Try.func14, Try.ntmps14
  go_wp2
  go_ret
  exact ⟨ret_u64 H.out, rfl⟩

/-- A slice of bytes, as it lies in the world: of length 0, or a row of cells. -/
def BytesAt (w : World) (v : Value) (zs : List Int) : Prop :=
  (zs = [] ∧ ∃ a cap, v = .slice a 0 cap) ∨
  ∃ b off cap, v = .slice (some ⟨b, off, none⟩) zs.length cap ∧ 0 < zs.length ∧ zs.length ≤ 9223372036854775807 ∧
    ∀ j (h : j < zs.length), w.cell? ⟨b, off + j, none⟩ = some (.int .u8 zs[j]) ∧ 0 ≤ zs[j] ∧ zs[j] < 256

set_option maxHeartbeats 400000 in
theorem hash_any (v : Value) (zs : List Int) (w : World) (h : BytesAt w v zs) :
    Calls Try.prog 7 #[v] w fun e w' => e = .returned (.int .u64 (Pl.hash zs)) ∧ w = w' := by
  rcases h with ⟨rfl, a, cap, rfl⟩ | ⟨b, off, cap, rfl, hpos, hm, hc⟩
  · go_enter Try.func7, Try.ntmps7
    go_wp2
    refine wp_loop_rounds 1 ?_
    rw [rounds_succ]
    go_wp2_with (go_at_call 13; refine (stir_any _ _ (by decide) (by decide)).mono ?_; rintro e w' ⟨rfl, rfl⟩)
    go_ret
    exact ⟨rfl, rfl⟩
  · go_enter Try.func7, Try.ntmps7
    go_wp2
    go_loop [3, 8] (fun x i => ∃ k : Nat, k ≤ zs.length ∧ i = .int .i64 k ∧ x = .int .u64 (Pl.foldH (zs.take k))) (fun _ i => zs.length - (intOf i).toNat)
    case atStart => exact ⟨0, Nat.zero_le _, rfl, rfl⟩
    case round =>
      obtain ⟨k, hk, rfl, rfl⟩ := hrel
      have hbd := Pl.foldH_bd (zs.take k)
      by_cases hlt : k < zs.length
      · obtain ⟨hcell, hz0, hz1⟩ := hc k hlt
        have HS := Lib.hid (Pl.foldH_take zs k hlt)
        go_wp2
        go_round
        case rel => exact ⟨k + 1, by omega, by go_num, by rw [HS.out]; rfl⟩
        case measure => simp [intOf]; omega
      · have HK : Hid (zs.take k = zs) := List.take_of_length_le (by omega)
        have hb1 := hbd.1
        have hb2 := hbd.2
        go_wp2_with (go_at_call 13; refine (stir_any _ _ hb1 hb2).mono ?_; rintro e w' ⟨rfl, rfl⟩)
        go_ret
        exact ⟨ret_u64 (by rw [HK.out]; rfl), rfl⟩

set_option maxHeartbeats 400000 in
theorem hashR_any (v : Value) (zs : List Int) (w : World) (h : BytesAt w v zs) :
    Calls Try.prog 8 #[v] w fun e w' => e = .returned (.int .u64 (Pl.hash zs)) ∧ w = w' := by
  rcases h with ⟨rfl, a, cap, rfl⟩ | ⟨b, off, cap, rfl, hpos, hm, hc⟩
  · go_enter Try.func8, Try.ntmps8
    go_wp2
    refine wp_loop_rounds 1 ?_
    rw [rounds_succ]
    go_wp2_with (go_at_call 14; refine (stirR_any _ _ (by decide) (by decide)).mono ?_; rintro e w' ⟨rfl, rfl⟩)
    go_ret
    exact ⟨rfl, rfl⟩
  · go_enter Try.func8, Try.ntmps8
    go_wp2
    go_loop [3, 8] (fun x i => ∃ k : Nat, k ≤ zs.length ∧ i = .int .i64 k ∧ x = .int .u64 (Pl.foldH (zs.take k))) (fun _ i => zs.length - (intOf i).toNat)
    case atStart => exact ⟨0, Nat.zero_le _, rfl, rfl⟩
    case round =>
      obtain ⟨k, hk, rfl, rfl⟩ := hrel
      have hbd := Pl.foldH_bd (zs.take k)
      by_cases hlt : k < zs.length
      · obtain ⟨hcell, hz0, hz1⟩ := hc k hlt
        have HS := Lib.hid (Pl.foldH_take zs k hlt)
        go_wp2
        go_round
        case rel => exact ⟨k + 1, by omega, by go_num, by rw [HS.out]; rfl⟩
        case measure => simp [intOf]; omega
      · have HK : Hid (zs.take k = zs) := List.take_of_length_le (by omega)
        have hb1 := hbd.1
        have hb2 := hbd.2
        go_wp2_with (go_at_call 14; refine (stirR_any _ _ hb1 hb2).mono ?_; rintro e w' ⟨rfl, rfl⟩)
        go_ret
        exact ⟨ret_u64 (by rw [HK.out]; rfl), rfl⟩

end Go.Proofs.Ytbmihbmhpmmdcaa
