/- The walk of alive: the document's examples come out as they should. -/
import Derived.Test.YtbmihbmhpmmdcaaWeight
namespace Go.Proofs.Ytbmihbmhpmmdcaa
open Go.RowKit

theorem one_byte (w : World) (z : Int) (h0 : 0 ≤ z) (h1 : z < 256) (B : Nat) (hB : B = w.heap.size) : BytesAt (w.alloc (.cells #[.int .u8 z] 5)) (.slice (some ⟨B, 0, none⟩) 1 1) [z] := by
  subst hB
  refine .inr ⟨w.heap.size, 0, 1, rfl, by simp, by simp, fun j hj => ?_⟩
  obtain rfl : j = 0 := by simpa using hj
  exact ⟨by rw [World.cell?_alloc_at _ _ _ _ rfl]; rfl, h0, h1⟩

set_option maxHeartbeats 200000 in
theorem alive_any (w : World) : Calls Try.prog 6 #[] w fun e w' => e = .returned (.bool true) ∧ Below w.heap.size w w' := by
  have HW := Lib.hid Pl.weight_alive
  have HH := Lib.hid Pl.hash_alive
  have HG : Hid (Pl.golden 0 = 11400714819323198485) := by unfold Hid; decide +kernel
  have HK : Hid (kOf 0 1 = 0) := by unfold Hid; decide +kernel
  go_enter Try.func6, Try.ntmps6
  go_wp2_with fail
  refine (draw_any 0 1 w (by decide)).mono ?_
  rintro e w' ⟨rfl, rfl⟩
  rw [HG.out, HK.out]
  go_wp2_with fail
  refine (weight_any 0 1 2 w (by decide) (by decide)).mono ?_
  rintro e w1 ⟨rfl, hb1⟩
  go_wp2_with fail
  refine (weight_any 1 0 2 w1 (by decide) (by decide)).mono ?_
  rintro e w2 ⟨rfl, hb2⟩
  have hw := HW.out
  generalize Pl.weight 0 1 2 = x at *
  generalize Pl.weight 1 0 2 = y at *
  have hw' : (x != y) = true := by rw [bne, hw]; rfl
  go_wp2_with fail
  refine (hash_any _ [1] (w2.alloc (.cells #[.int .u8 1] 5)) (one_byte w2 1 (by decide) (by decide) w2.heap.size rfl)).mono ?_
  rintro e w' ⟨rfl, rfl⟩
  go_wp2_with fail
  refine (hash_any _ [2] ((w2.alloc (.cells #[.int .u8 1] 5)).alloc (.cells #[.int .u8 2] 5)) (one_byte (w2.alloc (.cells #[.int .u8 1] 5)) 2 (by decide) (by decide) (w2.heap.size + 1) (by simp))).mono ?_
  rintro e w' ⟨rfl, rfl⟩
  have hh := HH.out
  generalize Pl.hash [1] = x' at *
  generalize Pl.hash [2] = y' at *
  have hh' : (x' != y') = true := by rw [bne, hh]; rfl
  go_wp2
  go_ret
  exact ⟨rfl, (((hb1.trans (hb2.mono hb1.size)).alloc (by have := hb1.size; have := hb2.size; omega) _).alloc (by have := hb1.size; have := hb2.size; simp; omega) _)⟩
end Go.Proofs.Ytbmihbmhpmmdcaa
