/- The walk of MixDraws: it returns true at every input. -/
import Derived.Test.YtbmihbmhpmmdcaaAlive
import Derived.WalkSmall
import Derived.OpenShut
namespace Go.Proofs.Ytbmihbmhpmmdcaa
open Go.RowKit
set_option linter.unusedVariables false

/-- What the walk is told of a slice of integers that came in. -/
def IsRow (k : IntKind) (w : World) (a : Option Addr) (len cap : Nat) (zs : List Int) : Prop :=
  (a = none ∧ len = 0 ∧ cap = 0 ∧ zs = []) ∨
  ∃ x, a = some x ∧ len ≤ cap ∧ cap ≤ maxLen ∧ zs.length = cap ∧ (∀ i, i < zs.length → w.cell? (x.add i) = some (.int k (zs.getD i 0))) ∧ ∀ n ∈ zs, (Lit.int k n).wf = true

/-- The state behind so many draws. -/
def it (s : Int) : Nat → Int
  | 0 => s
  | k + 1 => Pl.golden (it s k)

theorem wf_i64_le {n : Int} (h : (Lit.int .i64 n).wf = true) : -9223372036854775808 ≤ n ∧ n ≤ 9223372036854775807 := by
  simpa [Lit.wf, IntKind.min, IntKind.max, IntKind.signed, IntKind.bits] using h

/-- The tests of one round, each in the walk's own form. -/
theorem tests (s n : Int) : (Pl.golden s != Pl.golden s) = false ∧ (kOf s n != kOf s n) = false ∧ ¬ kOf s n < 0 ∧ (0 < n → kOf s n < n) ∧ (n ≤ 0 → (kOf s n != 0) = false) := by
  refine ⟨by simp, by simp, by have := kOf_bd s n; omega, (kOf_bd s n).2, fun h => ?_⟩
  rw [kOf_neg s n h]; rfl

set_option maxHeartbeats 1000000 in
set_option maxRecDepth 100000 in
theorem draws_walk (a0 : Int) (a1 : Option Addr) (len1 cap1 : Nat) (z1 : List Int) (w : World) (w0 : (Lit.int .u64 a0).wf = true) (w1 : IsRow .i64 w a1 len1 cap1 z1) :
    Calls Try.prog 4 #[.int .u64 a0, .slice a1 len1 cap1] w fun e w' => e = .returned (.bool true) ∧ Below w.heap.size w w' := by
  by_cases h0 : len1 = 0
  · subst h0
    clear w1
    go_enter Try.func4, Try.ntmps4
    go_wp2_with fail
    refine (alive_any w).mono ?_
    rintro e w2 ⟨rfl, hb⟩
    go_wp2_with fail
    refine wp_loop_rounds 1 ?_
    rw [rounds_succ]
    go_wp2
    go_ret
    exact ⟨rfl, hb⟩
  · rcases w1 with ⟨rfl, rfl, rfl, rfl⟩ | ⟨x, rfl, hl, hm, hz, hcell, hwz⟩
    · exact absurd rfl h0
    by_cases hbig : 1000 < len1
    · go_enter Try.func4, Try.ntmps4
      go_wp2_with fail
      refine (alive_any w).mono ?_
      rintro e w2 ⟨rfl, hb⟩
      go_wp2
      go_ret
      exact ⟨rfl, hb⟩
    · have hlen : len1 ≤ 1000 := by omega
      obtain ⟨b, off, rfl, hc⟩ := ints_at hcell (by omega)
      have hblk : b < w.heap.size := World.block_lt_of_cell? _ _ (hc 0 (by omega))
      clear hbig w0 hcell
      go_enter Try.func4, Try.ntmps4
      go_wp2_with fail
      refine (alive_any w).mono ?_
      rintro e w2 ⟨rfl, hb⟩
      go_wp2_with fail
      go_loopw [5, 6, 22] (fun a b i wr => ∃ k : Nat, k ≤ len1 ∧ i = .int .i64 k ∧ a = .int .u64 (it a0 k) ∧ b = .int .u64 (it a0 k) ∧ Below w.heap.size w wr) (fun _ _ i _ => len1 - (intOf i).toNat)
      case atStart => exact ⟨0, Nat.zero_le _, rfl, rfl, rfl, hb⟩
      case round =>
        obtain ⟨k, hk, rfl, rfl, rfl, hbel⟩ := hrel
        by_cases hlt : k < len1
        · have hx : wr.cell? ⟨b, off + k, none⟩ = some (.int .i64 (z1.getD k 0)) := (hbel.cell (by exact hblk)).trans (hc k (by omega))
          have hn := wf_i64_le (hwz (z1.getD k 0) (by
            have h : k < z1.length := by omega
            rw [List.getD_eq_getElem?_getD, List.getElem?_eq_getElem h]; exact List.getElem_mem h))
          clear hc hwz
          generalize z1.getD k 0 = n at *
          generalize hs : it a0 k = s at *
          have HS := Lib.hid hs
          clear hs
          obtain ⟨t1, t2, t3, t4, t5⟩ := tests s n
          by_cases hp : 0 < n
          · have t6 := t4 hp
            clear t4 t5
            go_wp2_with fail
            refine (draw_any s n wr hn.2).mono ?_
            rintro e w' ⟨rfl, rfl⟩
            go_wp2_with fail
            refine (drawR_any s n wr hn.2).mono ?_
            rintro e w' ⟨rfl, m, rfl⟩
            go_wp2_with fail
            refine (draw_any s 7 _ (by decide)).mono ?_
            rintro e w' ⟨rfl, rfl⟩
            go_wp2
            go_roundw
            case rel => exact ⟨k + 1, by omega, by go_num, by rw [it, HS.out], by rw [it, HS.out], below_drewN hbel m⟩
            case measure => simp [intOf]; omega
          · have hp' : n ≤ 0 := by omega
            have t6 := t5 hp'
            clear t4 t5
            go_wp2_with fail
            refine (draw_any s n wr hn.2).mono ?_
            rintro e w' ⟨rfl, rfl⟩
            go_wp2_with fail
            refine (drawR_any s n wr hn.2).mono ?_
            rintro e w' ⟨rfl, m, rfl⟩
            go_wp2_with fail
            refine (draw_any s 7 _ (by decide)).mono ?_
            rintro e w' ⟨rfl, rfl⟩
            go_wp2
            go_roundw
            case rel => exact ⟨k + 1, by omega, by go_num, by rw [it, HS.out], by rw [it, HS.out], below_drewN hbel m⟩
            case measure => simp [intOf]; omega
        · go_wp2
          go_ret
          exact ⟨rfl, hbel⟩
end Go.Proofs.Ytbmihbmhpmmdcaa
