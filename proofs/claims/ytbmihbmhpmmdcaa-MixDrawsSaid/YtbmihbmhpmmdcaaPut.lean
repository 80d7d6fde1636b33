/- The walk of the closure inside Weight: a number of 64 bits is appended as eight bytes to the captured variable. -/
import Derived.Test.YtbmihbmhpmmdcaaDraw
import Derived.Deep.AppendLies
import Derived.Deep.RegionLaw
import Derived.WalkLawsBesides
namespace Go.Proofs.Ytbmihbmhpmmdcaa
open Go.RowKit

theorem info5 : (Try.prog.info? 5).map (fun i => (i.zero, i.size, i.bytes)) = some (some (.int .u8 0), 1, 1) := by kernel_rfl

def Buf (B : Nat) (xs : List Int) (w : World) : Prop :=
  ∃ v, w.heap[B]? = some (.cells #[v] 22 (0, 0)) ∧ w.ownsRow (B + 1) 5 1 v xs.length (xs.map (Value.int .u8))

theorem owns_drew {w : World} {b e s n : Nat} {v : Value} {xs : List Value} (h : w.ownsRow b e s v n xs) : w.drew.ownsRow b e s v n xs := h
/-- What an append leaves of the variable's block. -/
theorem buf_after {w w1 : World} {B : Nat} {v : Value} {n : Nat} {xs : List Value} {o : Obj} (hv : w.heap[B]? = some (.cells #[v] 22 (0, 0))) (hown : w.ownsRow (B + 1) 5 1 v n xs)
    (hg : (w.alloc o).drew.grownBy w1 v.ownBlock) : w1.heap[B]? = some (.cells #[v] 22 (0, 0)) := by
  have hlt := lt_of_block hv
  have h1 : (w.alloc o).drew.heap[B]? = some (.cells #[v] 22 (0, 0)) := (Below.heap_alloc w o B hlt).trans hv
  exact (hg.block B (lt_of_block h1) (fun e => by have := hown.lt B e.symm; omega)).trans h1
theorem buf_store {w1 : World} {B : Nat} {v : Value} {g cap n : Nat} {xs : List Int} (h : w1.heap[B]? = some (.cells #[v] 22 (0, 0))) (hl : xs.length = n)
    (hown : w1.ownsRow (B + 1) 5 1 (.slice (some ⟨g, 0, none⟩) n cap) n (xs.map (Value.int .u8))) : Buf B xs (w1.setCell ⟨B, 0, none⟩ (.slice (some ⟨g, 0, none⟩) n cap)) := by
  subst hl
  refine ⟨_, one_setCell h, ownsRow_setCell_below hown (by show B < B + 1; omega) _⟩
theorem byte_eq (n : Int) (k : Nat) : IntKind.u8.wrap (n / 2 ^ (8 * (k : Int)).toNat) = n / 2 ^ (8 * k) % 256 := by
  rw [IntKind.wrap_u8', show (8 * (k : Int)).toNat = 8 * k from by omega]

theorem put_step {w1 : World} {B g cap k : Nat} {n : Int} {v : Value} {xs : List Int} (h : w1.heap[B]? = some (.cells #[v] 22 (0, 0)))
    (hown : w1.ownsRow (B + 1) 5 1 (.slice (some ⟨g, 0, none⟩) ((xs ++ Pl.bytesOf n k).length + 1) cap) ((xs ++ Pl.bytesOf n k).length + 1)
      (List.map (Value.int .u8) (xs ++ Pl.bytesOf n k) ++ [.int .u8 (IntKind.u8.wrap (n / 2 ^ (8 * (k : Int)).toNat))])) :
    Buf B (xs ++ Pl.bytesOf n (k + 1)) (w1.setCell ⟨B, 0, none⟩ (.slice (some ⟨g, 0, none⟩) (xs.length + (Pl.bytesOf n k).length + 1) cap)) := by
  have e : (xs ++ Pl.bytesOf n k).length + 1 = xs.length + (Pl.bytesOf n k).length + 1 := by rw [List.length_append]
  rw [e] at hown
  refine buf_store h (by simp [Pl.bytesOf]; omega) ?_
  rw [byte_eq] at hown
  simpa [Pl.bytesOf] using hown

set_option maxHeartbeats 400000 in
theorem put_any (B : Nat) (n : Int) (xs : List Int) (w : World) (h0 : 0 ≤ n) (h1 : n < 18446744073709551616) (hx : xs.length ≤ 100) (h : Buf B xs w) :
    Calls Try.prog 15 #[.int .u64 n, .pointer (some ⟨B, 0, none⟩)] w fun e w' => e = .returned (.tuple #[]) ∧ Buf B (xs ++ Pl.bytesOf n 8) w' ∧ Below B w w' := by
  obtain ⟨i0, hi, hz0, hz1, hz2⟩ := info_parts info5
  go_enter Try.func15, Try.ntmps15
  go_wp2
  go_loopw [3] (fun i wr => ∃ k : Nat, k ≤ 8 ∧ i = .int .i64 (8 * k : Nat) ∧ Buf B (xs ++ Pl.bytesOf n k) wr ∧ Below B w wr) (fun i _ => 64 - (intOf i).toNat)
  case atStart => exact ⟨0, by omega, rfl, by simpa [Pl.bytesOf] using h, Below.refl _ _⟩
  case round =>
    obtain ⟨k, hk, rfl, hbuf, hbel⟩ := hrel
    have hbuf0 := Lib.hid hbuf
    obtain ⟨v, hv, hown⟩ := hbuf
    have cW := cell_of_one hv
    have fW := free_of_one hv
    have hlen : Hid ((xs ++ Pl.bytesOf n k).length = xs.length + k) := by unfold Hid; rw [List.length_append, Pl.bytesOf_length]
    have cW2 : (wr.alloc (.cells #[.int .u8 (IntKind.u8.wrap (n / 2 ^ (8 * (k : Int)).toNat))] 5)).cell? ⟨B, 0, none⟩ = some v := (World.cell?_alloc_past _ _ _ (lt_of_block hv)).trans cW
    by_cases hlt : k < 8
    · go_wp2
      go_region_law (refine step_append_lies _ rfl (.tmp 8) (.tmp 13) 22 rfl (B + 1) 5 i0 (.int .u8 0) 1 1 Try.underlying22 hi hz0 hz1 hz2 rfl (by decide) v _ _ rfl ((owns_drew hown).alloc _) ⟨wr.heap.size, 0, none⟩ 1 1 [.int .u8 (IntKind.u8.wrap (n / 2 ^ (8 * (k : Int)).toNat))] rfl rfl (cell_one_new _ _ _) (by intro u hu; simp at hu; subst hu; rfl) (by decide) (by rw [hlen.out]; unfold maxLen; omega) (by rw [hlen.out]; omega) (by have := lt_of_block hv; simp; omega) (wr.heap.size + 1) (by simp) ?_; intro g cap w1 hown1 hgrow1 hat1 hlt1; have hb1 := buf_after hv hown hgrow1; have cW1 := cell_of_one hb1; have fW1 := free_of_one hb1)
      all_goals
        have R := put_step hb1 hown1
        have hBl := lt_of_block hv
        have hown0 := hown.lt
        have hb2 : Below B w (w1.setCell ⟨B, 0, none⟩ (.slice (some ⟨g, 0, none⟩) (xs.length + (Pl.bytesOf n k).length + 1) cap)) :=
          ((hbel.alloc (by omega) _).drew.grown hgrow1 (by simp; omega) (fun j hj => by have := hown0 j hj; omega)).setCell (Nat.le_refl _) _
        clear hown hown0 hown1 hgrow1 hat1 hlt1 hb1 cW1 fW1 cW2 cW fW hv hBl
        go_wp2
        go_roundw
        case rel => exact ⟨k + 1, by omega, by go_num, R, hb2⟩
        case measure => simp [intOf]; omega
    · obtain rfl : k = 8 := by omega
      go_wp2
      go_end0
      exact ⟨rfl, hbuf0.out, hbel⟩
end Go.Proofs.Ytbmihbmhpmmdcaa
