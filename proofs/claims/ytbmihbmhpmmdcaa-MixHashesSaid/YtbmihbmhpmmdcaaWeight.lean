/- The walk of Weight of the program: it computes the plain weight and writes new memory alone. -/
import Derived.Test.YtbmihbmhpmmdcaaPut
namespace Go.Proofs.Ytbmihbmhpmmdcaa
open Go.RowKit

theorem buf_bytes {B : Nat} {xs : List Int} {w : World} (h : Buf B xs w) (hb : ∀ z ∈ xs, 0 ≤ z ∧ z < 256) (hl : xs.length ≤ 100) : ∃ v, w.cell? ⟨B, 0, none⟩ = some v ∧ BytesAt w v xs := by
  obtain ⟨v, hv, hown⟩ := h
  refine ⟨v, cell_of_one hv, ?_⟩
  have hown' := hown
  rcases hown.2 with ⟨rfl, h0⟩ | ⟨g, cap, cur, rfl, _⟩
  · exact .inl ⟨List.eq_nil_of_length_eq_zero h0, _, _, rfl⟩
  · by_cases h0 : xs.length = 0
    · left
      exact ⟨List.eq_nil_of_length_eq_zero h0, some ⟨g, 0, none⟩, cap, by rw [h0]⟩
    · right
      refine ⟨g, 0, cap, rfl, by omega, by omega, fun j hj => ⟨?_, hb _ (List.getElem_mem hj)⟩⟩
      rw [Nat.zero_add, hown'.cellAt j (by omega)]
      simp [hj]

theorem weight_any (a b c : Int) (w : World) (c0 : 0 ≤ c) (c1 : c < 18446744073709551616) :
    Calls Try.prog 9 #[.int .i64 a, .int .i64 b, .int .u64 c] w fun e w' => e = .returned (.int .u64 (Pl.weight a b c)) ∧ Below w.heap.size w w' := by
  have hmf : ∀ (fn : Fn) (first cap : Array Value) (w : World), (Instr.makeFunc fn first cap).run Try.prog w = .ok (.func fn first cap) w := fun _ _ _ _ => rfl
  have ha := Pl.u64_bd a
  have hb := Pl.u64_bd b
  have hbuf0 : Buf w.heap.size [] (w.alloc (.cells #[.slice none 0 0] 22)) := ⟨_, heap_alloc_new w _, World.ownsRow_nil _ _ _ _⟩
  have hbel0 : Below w.heap.size w (w.alloc (.cells #[.slice none 0 0] 22)) := (Below.refl _ _).alloc (Nat.le_refl _) _
  go_enter Try.func9, Try.ntmps9
  go_wp2_with fail
  refine (put_any w.heap.size (IntKind.u64.wrap a) [] (w.alloc (.cells #[.slice none 0 0] 22)) ha.1 ha.2 (by simp) hbuf0).mono ?_
  rintro e w1 ⟨rfl, hbuf1, hbel1⟩
  have l1 : ([] ++ Pl.bytesOf (IntKind.u64.wrap a) 8).length = 8 := by simp [Pl.bytesOf_length]
  have L1 := Lib.hid l1
  clear l1
  go_wp2_with fail
  refine (put_any w.heap.size (IntKind.u64.wrap b) _ w1 hb.1 hb.2 (by rw [L1.out]; omega) hbuf1).mono ?_
  rintro e w2 ⟨rfl, hbuf2, hbel2⟩
  have l2 : ([] ++ Pl.bytesOf (IntKind.u64.wrap a) 8 ++ Pl.bytesOf (IntKind.u64.wrap b) 8).length = 16 := by simp [Pl.bytesOf_length]
  have L2 := Lib.hid l2
  clear l2
  go_wp2_with fail
  refine (put_any w.heap.size c _ w2 c0 c1 (by rw [L2.out]; omega) hbuf2).mono ?_
  rintro e w3 ⟨rfl, hbuf3, hbel3⟩
  have hbel : Below w.heap.size w w3 := ((hbel0.trans hbel1).trans hbel2).trans hbel3
  obtain ⟨v, cv, hbytes⟩ := buf_bytes hbuf3 (by
    intro z hz
    simp only [List.nil_append, List.mem_append] at hz
    rcases hz with (hz | hz) | hz <;> exact Pl.bytesOf_bd _ _ _ hz) (by simp [Pl.bytesOf_length])
  clear hbuf0 hbel0 hbuf1 hbel1 hbuf2 hbel2 hbuf3 hbel3
  go_wp2_with fail
  refine (hash_any v _ w3 hbytes).mono ?_
  rintro e w4 ⟨rfl, rfl⟩
  go_wp2
  go_ret
  exact ⟨rfl, hbel⟩
end Go.Proofs.Ytbmihbmhpmmdcaa
