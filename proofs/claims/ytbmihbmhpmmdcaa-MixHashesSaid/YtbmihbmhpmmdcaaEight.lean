/- The walk of eight, of the reference: the eight bytes of a number in new memory. -/
import Derived.Test.YtbmihbmhpmmdcaaAlive
namespace Go.Proofs.Ytbmihbmhpmmdcaa
open Go.RowKit

/-- What is left of a number behind so many bytes. -/
def rest (n : Int) (k : Nat) : Int := n / 2 ^ (8 * k)

theorem rest_nonneg (n : Int) (k : Nat) (h : 0 ≤ n) : 0 ≤ rest n k := Int.ediv_nonneg h (by exact Int.le_of_lt (Int.pow_pos (by decide)))
theorem rest_lt (n : Int) (k : Nat) (h : 0 ≤ n) (h1 : n < 18446744073709551616) : rest n k < 18446744073709551616 := Int.lt_of_le_of_lt (Int.ediv_le_self _ h) h1
theorem div_mul (n a b : Int) (h : 0 ≤ a) : n / (a * b) = n / a / b := by rw [Int.ediv_ediv, if_neg (by omega)]; omega
theorem rest_succ (n : Int) (k : Nat) : rest n (k + 1) = rest n k / 256 := by
  unfold rest
  rw [show 8 * (k + 1) = 8 * k + 8 from by omega, Int.pow_add, div_mul _ _ _ (Int.le_of_lt (Int.pow_pos (by decide)))]
  rfl
theorem eight_below {B n : Nat} {w wr w1 : World} {o : Obj} {v : Value} {xs : List Value} (hbel : Below B w wr) (hB : B ≤ wr.heap.size) (hown : wr.ownsRow B 5 1 v n xs) (hg : (wr.alloc o).grownBy w1 v.ownBlock) : Below B w w1 :=
  (hbel.alloc hB o).grown hg (by simp; omega) (fun j hj => (hown.lt j hj).1)

set_option maxHeartbeats 400000 in
theorem eight_any (n : Int) (w : World) (h0 : 0 ≤ n) (h1 : n < 18446744073709551616) :
    Calls Try.prog 16 #[.int .u64 n] w fun e w' => ∃ g cap, e = .returned (.slice (some ⟨g, 0, none⟩) 8 cap) ∧ w'.ownsRow w.heap.size 5 1 (.slice (some ⟨g, 0, none⟩) 8 cap) 8 ((Pl.bytesOf n 8).map (Value.int .u8)) ∧ Below w.heap.size w w' := by
  obtain ⟨i0, hi, hz0, hz1, hz2⟩ := info_parts info5
  go_enter Try.func16, Try.ntmps16
  go_wp2
  go_loopw [0, 3, 4] (fun x v i wr => ∃ k : Nat, k ≤ 8 ∧ i = .int .i64 k ∧ x = .int .u64 (rest n k) ∧ wr.ownsRow w.heap.size 5 1 v k ((Pl.bytesOf n k).map (Value.int .u8)) ∧ Below w.heap.size w wr) (fun _ _ i _ => 8 - (intOf i).toNat)
  case atStart => exact ⟨0, by omega, rfl, by simp [rest], World.ownsRow_nil _ _ _ _, Below.refl _ _⟩
  case round =>
    obtain ⟨k, hk, rfl, rfl, hown, hbel⟩ := hrel
    have r0 := rest_nonneg n k h0
    have r1 := rest_lt n k h0 h1
    have hB := hbel.size
    by_cases hlt : k < 8
    · go_wp2_with (at_builtin; refine wpList_append_lies _ rfl (.tmp 9) (.tmp 13) 22 rfl w.heap.size 5 i0 (.int .u8 0) 1 1 Try.underlying22 hi hz0 hz1 hz2 rfl (by decide) _ _ _ rfl (hown.alloc _) ⟨wr.heap.size, 0, none⟩ 1 1 [.int .u8 (rest n k % 256)] rfl rfl (cell_one_new _ _ _) (by intro u hu; simp at hu; subst hu; rfl) (by decide) (by unfold maxLen; omega) (by omega) (by simp; omega) (wr.heap.size + 1) (by simp) ?_; intro g cap w1 hown1 hgrow1 hat1 hlt1; have hb1 := eight_below hbel hB hown hgrow1; clear hgrow1 hat1 hlt1)
      go_roundw
      case rel => exact ⟨k + 1, by omega, by go_num, by rw [rest_succ], by simpa [Pl.bytesOf, rest] using hown1, hb1⟩
      case measure => simp [intOf]; omega
    · obtain rfl : k = 8 := by omega
      obtain ⟨g, cap, rfl, _⟩ := hown.form (by omega)
      go_wp2
      go_ret
      exact ⟨g, cap, rfl, hown, hbel⟩
end Go.Proofs.Ytbmihbmhpmmdcaa
