/- The walk of MixHashes, and how its argument reads. -/
import Derived.Test.YtbmihbmhpmmdcaaDraws
import Derived.Test.YtbmihbmhpmmdcaaWeightR
import Derived.Lib.SmallJoins
namespace Go.Proofs.Ytbmihbmhpmmdcaa
open Go.RowKit Go.ChangeShapes Go.WideShapes Go.ChangeAt Go.Joins
set_option linter.unusedVariables false

theorem cells25 : Try.prog.cellsOf 25 = 4 := by kernel_rfl

/-- What the walk is told of the argument. -/
def Asked (W : World) (v : Value) : Prop :=
  ∃ a len cap zs n m s, v = .agg #[.slice a len cap, .int .i64 n, .int .i64 m, .int .u64 s] ∧ IsRow .u8 W a len cap zs ∧ (Lit.int .i64 n).wf = true ∧ (Lit.int .i64 m).wf = true ∧ (Lit.int .u64 s).wf = true

theorem open_asked {H : Type} {enc : TypeId × Value → H} {W : World} {base : Nat} {v : Value} {d : DataW H} {p : List MemPlace} (hv : Value.okWide Try.prog W .any base 25 v)
    (h : DataW.Trod enc Try.prog W 0 (fun _ => true) true 25 v d p) : Asked W v := by
  obtain ⟨c0, c1, c2, c3, y0, y1, y2, y3, m, rfl, _, _, hy0, hy1, hy2, hy3⟩ := open_agg4 Try.underlying25 (by kernel_rfl) cells25 hv h
  obtain ⟨n1, e1, _, w1⟩ := DataW.trod_int Try.underlying3 hy1
  obtain ⟨n2, e2, _, w2⟩ := DataW.trod_int Try.underlying3 hy2
  obtain ⟨n3, e3, _, w3⟩ := DataW.trod_int Try.underlying23 hy3
  simp at e1 e2 e3
  subst e1 e2 e3
  rcases open_ints Try.underlying22 Try.underlying5 (by kernel_rfl) hy0 with ⟨hcs, _⟩ | ⟨x, l, c, zs, hcs, _, hl, hm, hz, _, hcell, hwz⟩
  · simp at hcs
    subst hcs
    exact ⟨none, 0, 0, [], _, _, _, rfl, .inl ⟨rfl, rfl, rfl, rfl⟩, w1, w2, w3⟩
  · simp at hcs
    subst hcs
    exact ⟨some x, l, c, zs, _, _, _, rfl, .inr ⟨x, rfl, hl, hm, by simpa using hz, hcell, hwz⟩, w1, w2, w3⟩

/-- A slice of bytes that came in, within 5000, reads as its bytes. -/
theorem row_bytes {W : World} {a : Option Addr} {len cap : Nat} {zs : List Int} (h : IsRow .u8 W a len cap zs) : ∃ xs : List Int, xs.length = len ∧ BytesAt W (.slice a len cap) xs ∧ (∀ b, a = some b → 0 < len → b.block < W.heap.size) := by
  by_cases h0 : len = 0
  · subst h0
    exact ⟨[], rfl, .inl ⟨rfl, a, cap, rfl⟩, fun _ _ h => absurd h (by omega)⟩
  · rcases h with ⟨rfl, rfl, rfl, rfl⟩ | ⟨x, rfl, hl, hm, hz, hcell, hwz⟩
    · exact absurd rfl h0
    · obtain ⟨b, off, rfl, hc⟩ := ints_at hcell (by omega)
      unfold maxLen at hm
      have hlen : (zs.take len).length = len := by rw [List.length_take]; omega
      refine ⟨zs.take len, hlen, .inr ⟨b, off, cap, by rw [hlen], by omega, by omega, fun j hj => ?_⟩, fun b' hb' _ => ?_⟩
      · have hj' : j < zs.length := by omega
        have hb := bounds_u8 (hwz zs[j] (List.getElem_mem hj'))
        rw [hc j hj', List.getD_eq_getElem?_getD, List.getElem?_eq_getElem hj', List.getElem_take]
        exact ⟨rfl, hb.1, by omega⟩
      · obtain rfl := Option.some.inj hb'
        exact World.block_lt_of_cell? _ _ (hc 0 (by omega))

theorem BytesAt.below {w w' : World} {a : Option Addr} {len cap : Nat} {xs : List Int} (h : BytesAt w (.slice a len cap) xs) (hb : Below w.heap.size w w') (hl : xs.length = len) : BytesAt w' (.slice a len cap) xs := by
  rcases h with ⟨h1, h2⟩ | ⟨b, off, cap', hv, hp, hm, hc⟩
  · exact .inl ⟨h1, h2⟩
  · refine .inr ⟨b, off, cap', hv, hp, hm, fun j hj => ⟨?_, (hc j hj).2⟩⟩
    have h0 := (hc j hj).1
    exact (hb.cell (World.block_lt_of_cell? _ _ h0)).trans h0

set_option maxHeartbeats 1000000 in
theorem hashes_walk (v : Value) (w : World) (hv : Asked w v) :
    Calls Try.prog 3 #[v] w fun e w' => e = .returned (.bool true) ∧ Below w.heap.size w w' := by
  obtain ⟨a, len, cap, zs, n, m, s, rfl, hrow, wn, wm, ws⟩ := hv
  obtain ⟨xs, hlen, hby, _⟩ := row_bytes hrow
  have hs := bounds_u64 ws
  have hbox : Below w.heap.size w (w.alloc (.cells #[.slice a len cap, .int .i64 n, .int .i64 m, .int .u64 s] 25)) := (Below.refl _ _).alloc (Nat.le_refl _) _
  clear hrow wn wm ws
  go_enter Try.func3, Try.ntmps3
  go_wp2_with fail
  refine (alive_any _).mono ?_
  rintro e w2 ⟨rfl, hb⟩
  have f0 : w2.cell? ⟨w.heap.size, 0, none⟩ = some (.slice a len cap) := (hb.cell (p := ⟨w.heap.size, 0, none⟩) (by simp)).trans (by rw [World.cell?_alloc_at _ _ _ _ rfl]; rfl)
  have f1 : w2.cell? ⟨w.heap.size, 1, none⟩ = some (.int .i64 n) := (hb.cell (p := ⟨w.heap.size, 1, none⟩) (by simp)).trans (by rw [World.cell?_alloc_at _ _ _ _ rfl]; rfl)
  have f2 : w2.cell? ⟨w.heap.size, 2, none⟩ = some (.int .i64 m) := (hb.cell (p := ⟨w.heap.size, 2, none⟩) (by simp)).trans (by rw [World.cell?_alloc_at _ _ _ _ rfl]; rfl)
  have f3 : w2.cell? ⟨w.heap.size, 3, none⟩ = some (.int .u64 s) := (hb.cell (p := ⟨w.heap.size, 3, none⟩) (by simp)).trans (by rw [World.cell?_alloc_at _ _ _ _ rfl]; rfl)
  have hb2 : Below w.heap.size w w2 := hbox.trans (hb.mono (by simp))
  have hby2 := hby.below hb2 hlen
  clear hby hb hbox
  have hs0 := hs.1
  have hs1 : s < 18446744073709551616 := by omega
  clear hs
  go_wp2_with fail
  go_quiet (fail)
  by_cases hbig : 5000 < len
  · go_wp2
    go_ret
    exact ⟨rfl, below_drewN hb2 _⟩
  · have hl : len ≤ 5000 := by omega
    have hby3 := hby2.below (below_drewN (Below.refl _ w2) nq) hlen
    have hb3 : Below w.heap.size w (w2.drewN nq) := below_drewN hb2 nq
    clear hby2 hb2 f0 f1 f2 f3
    go_wp2_with fail
    refine (hash_any _ xs _ hby3).mono ?_
    rintro e w' ⟨rfl, rfl⟩
    go_wp2_with fail
    refine (hashR_any _ xs _ hby3).mono ?_
    rintro e w' ⟨rfl, rfl⟩
    generalize Pl.hash xs = x at *
    go_wp2_with fail
    refine (weight_any n m s _ hs0 hs1).mono ?_
    rintro e w5 ⟨rfl, hb5⟩
    go_wp2_with fail
    refine (weightR_any n m s _ hs0 hs1).mono ?_
    rintro e w6 ⟨rfl, hb6⟩
    generalize Pl.weight n m s = y at *
    go_wp2
    go_ret
    exact ⟨rfl, (hb3.trans (hb5.mono hb3.size)).trans (hb6.mono (Nat.le_trans hb3.size hb5.size))⟩
end Go.Proofs.Ytbmihbmhpmmdcaa
