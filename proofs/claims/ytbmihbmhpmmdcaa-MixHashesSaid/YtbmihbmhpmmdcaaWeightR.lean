/- The walk of Weight of the reference: the same plain weight. -/
import Derived.Test.YtbmihbmhpmmdcaaEight
namespace Go.Proofs.Ytbmihbmhpmmdcaa
open Go.RowKit

theorem owns_below {w1 w2 : World} {b e s n : Nat} {v : Value} {xs : List Value} (h : w1.ownsRow b e s v n xs) (hb : Below w1.heap.size w1 w2) : w2.ownsRow b e s v n xs := by
  have hlt := h.lt
  obtain ⟨h1, h2⟩ := h
  refine ⟨h1, ?_⟩
  rcases h2 with h2 | ⟨g, cap, cur, rfl, hg, hh, r⟩
  · exact .inl h2
  · exact .inr ⟨g, cap, cur, rfl, hg, (hb.block g (hlt g rfl).2).trans hh, r⟩
theorem owns_mono {w1 : World} {b b' e s n : Nat} {v : Value} {xs : List Value} (h : w1.ownsRow b e s v n xs) (hb : b' ≤ b) : w1.ownsRow b' e s v n xs := by
  obtain ⟨h1, h2⟩ := h
  refine ⟨h1, ?_⟩
  rcases h2 with h2 | ⟨g, cap, cur, rfl, hg, hh, r⟩
  · exact .inl h2
  · exact .inr ⟨g, cap, cur, rfl, by omega, hh, r⟩
/-- An owned row of bytes reads as these bytes. -/
theorem owns_bytes {w : World} {b g cap : Nat} {xs : List Int} (h : w.ownsRow b 5 1 (.slice (some ⟨g, 0, none⟩) xs.length cap) xs.length (xs.map (Value.int .u8))) (hb : ∀ z ∈ xs, 0 ≤ z ∧ z < 256) (hp : 0 < xs.length) (hl : xs.length ≤ 100) : BytesAt w (.slice (some ⟨g, 0, none⟩) xs.length cap) xs := by
  refine .inr ⟨g, 0, cap, rfl, hp, by omega, fun j hj => ⟨?_, hb _ (List.getElem_mem hj)⟩⟩
  rw [Nat.zero_add, h.cellAt j (by omega)]
  simp [hj]

set_option maxHeartbeats 800000 in
theorem weightR_any (a b c : Int) (w : World) (c0 : 0 ≤ c) (c1 : c < 18446744073709551616) :
    Calls Try.prog 10 #[.int .i64 a, .int .i64 b, .int .u64 c] w fun e w' => e = .returned (.int .u64 (Pl.weight a b c)) ∧ Below w.heap.size w w' := by
  obtain ⟨i0, hi, hz0, hz1, hz2⟩ := info_parts info5
  have ha := Pl.u64_bd a
  have hb := Pl.u64_bd b
  go_enter Try.func10, Try.ntmps10
  go_wp2_with fail
  refine (eight_any (IntKind.u64.wrap a) w ha.1 ha.2).mono ?_
  rintro e w1 ⟨g1, cap1, rfl, hown1, hbel1⟩
  go_wp2_with fail
  refine (eight_any (IntKind.u64.wrap b) w1 hb.1 hb.2).mono ?_
  rintro e w2 ⟨g2, cap2, rfl, hown2, hbel2⟩
  have hown1' := owns_below hown1 hbel2
  have hs1 := hbel1.size
  have hs2 := hbel2.size
  have L8 : Hid ((Pl.bytesOf (IntKind.u64.wrap b) 8).length = 8) := Pl.bytesOf_length _ _
  go_wp2_with (at_builtin; refine wpList_append_lies _ rfl (.tmp 10) (.tmp 13) 22 rfl w.heap.size 5 i0 (.int .u8 0) 1 1 Try.underlying22 hi hz0 hz1 hz2 rfl (by decide) (.slice (some ⟨g1, 0, none⟩) 8 cap1) 8 _ rfl hown1' ⟨g2, 0, none⟩ 8 cap2 ((Pl.bytesOf (IntKind.u64.wrap b) 8).map (Value.int .u8)) rfl (by rw [List.length_map, L8.out]) (hown2.cells rfl) (by intro u hu; obtain ⟨z, _, rfl⟩ := List.mem_map.1 hu; rfl) (by decide) (by unfold maxLen; omega) (by omega) (by omega) w2.heap.size rfl ?_; intro g3 cap3 w3 hown3 hgrow3 hat3 hlt3)
  have hb3 : Below w.heap.size w w3 := (hbel1.trans (hbel2.mono hs1)).grown hgrow3 (by omega) (fun j hj => (hown1'.lt j hj).1)
  simp only [Nat.reduceAdd, ← List.map_append] at hown3
  have hs3 := hb3.size
  clear hgrow3 hat3 hlt3 hown1' hown2 hown1 hbel1 hbel2
  refine (eight_any c w3 c0 c1).mono ?_
  rintro e w4 ⟨g4, cap4, rfl, hown4, hbel4⟩
  have hown3' := owns_below hown3 hbel4
  have hs4 := hbel4.size
  have L8c : Hid ((Pl.bytesOf c 8).length = 8) := Pl.bytesOf_length _ _
  go_wp2_with (at_builtin; refine wpList_append_lies _ rfl (.tmp 15) (.tmp 17) 22 rfl w.heap.size 5 i0 (.int .u8 0) 1 1 Try.underlying22 hi hz0 hz1 hz2 rfl (by decide) (.slice (some ⟨g3, 0, none⟩) 16 cap3) 16 _ rfl hown3' ⟨g4, 0, none⟩ 8 cap4 ((Pl.bytesOf c 8).map (Value.int .u8)) rfl (by rw [List.length_map, L8c.out]) (hown4.cells rfl) (by intro u hu; obtain ⟨z, _, rfl⟩ := List.mem_map.1 hu; rfl) (by decide) (by unfold maxLen; omega) (by omega) (by omega) w4.heap.size rfl ?_; intro g5 cap5 w5 hown5 hgrow5 hat5 hlt5)
  have hb5 : Below w.heap.size w w5 := (hb3.trans (hbel4.mono hs3)).grown hgrow5 (by omega) (fun j hj => (hown3'.lt j hj).1)
  simp only [Nat.reduceAdd, ← List.map_append] at hown5
  clear hgrow5 hat5 hlt5 hown3' hown3 hown4 hbel4 hb3
  have L24 : (Pl.bytesOf (IntKind.u64.wrap a) 8 ++ Pl.bytesOf (IntKind.u64.wrap b) 8 ++ Pl.bytesOf c 8).length = 24 := by simp [Pl.bytesOf_length]
  have hby : BytesAt w5 (.slice (some ⟨g5, 0, none⟩) 24 cap5) (Pl.bytesOf (IntKind.u64.wrap a) 8 ++ Pl.bytesOf (IntKind.u64.wrap b) 8 ++ Pl.bytesOf c 8) := by
    have := owns_bytes (w := w5) (b := w.heap.size) (g := g5) (cap := cap5) (xs := Pl.bytesOf (IntKind.u64.wrap a) 8 ++ Pl.bytesOf (IntKind.u64.wrap b) 8 ++ Pl.bytesOf c 8) (by rw [L24]; exact hown5) (by
      intro z hz
      simp only [List.mem_append] at hz
      rcases hz with (hz | hz) | hz <;> exact Pl.bytesOf_bd _ _ _ hz) (by omega) (by omega)
    rwa [L24] at this
  clear L24 hown5
  refine (hashR_any _ _ w5 hby).mono ?_
  rintro e w6 ⟨rfl, rfl⟩
  go_wp2
  go_ret
  exact ⟨rfl, hb5⟩
end Go.Proofs.Ytbmihbmhpmmdcaa
