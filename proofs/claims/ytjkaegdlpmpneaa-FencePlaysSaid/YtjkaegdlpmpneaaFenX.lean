/- slices.Delete of the first write of a log. -/
import Derived.Test.YtjkaegdlpmpneaaFenT
import Derived.Deep.RegionLaw
import Derived.Deep.OwnRows
import Derived.Lib.LazyBuf
import Derived.Laws.IdiomCopy
namespace Go.Proofs.Ytjkaegdlpmpneaa
open Go.RowKit
set_option linter.unusedVariables false

/-- 'clear(s)' on a slice of one element of five cells. -/
theorem run_clear5 (w : World) (ty : TypeId) (b o c : Nat) (hc : ∀ j, j < 5 → (w.cell? ⟨b, o + j, none⟩).isSome = true) (hf : ∀ j, j < 5 → w.frozen? ⟨b, o + j, none⟩ = false) :
    (Builtin.clear_ #[41] ty #[.slice (some ⟨b, o, none⟩) 1 c]).run Try.prog w = .ok (.tuple #[]) (w.setCells b o (List.replicate 5 (.int .i64 0))) := by
  have hst := run_storeCells_cells (P := Try.prog) b o (List.replicate 5 (.int .i64 0)) 0 w (by simpa using hc) (by simpa using hf) (by intro v hv'; rw [List.eq_of_mem_replicate hv']; rfl)
  simp only [Nat.add_zero] at hst
  have hz : ∀ w, (zeroValue 47).run Try.prog w = .ok (.agg #[.int .i64 0, .int .i64 0, .int .i64 0, .int .i64 0, .int .i64 0]) w := fun _ => by kernel_rfl
  have hzc : (Builtin.zeroCells (Value.agg #[.int .i64 0, .int .i64 0, .int .i64 0, .int .i64 0, .int .i64 0]).cells 1).toList = List.replicate 5 (.int .i64 0) := by kernel_rfl
  rw [show List.replicate 5 (Value.int .i64 0) = [.int .i64 0, .int .i64 0, .int .i64 0, .int .i64 0, .int .i64 0] from rfl] at hst hzc ⊢
  simp [Builtin.clear_, run_underlying Try.underlying41, hz, hzc, hst]

theorem rowIs_of_block {w : World} {g n : Nat} {t : TypeId} {cur : Array Value} (hb : w.heap[g]? = some (.cells cur t (0, 0))) (hs : cur.size = n) : w.rowIs g t n (fun i => cur[i]?.getD default) := by
  refine ⟨cur, hb, hs, fun i hi => ?_⟩
  simp [Array.getElem?_eq_getElem (show i < cur.size by omega)]

theorem setCells_rest (g : Nat) : ∀ (vs : List Value) (o : Nat) (w : World), (w.setCells g o vs).heap.size = w.heap.size ∧ (∀ i, i ≠ g → (w.setCells g o vs).heap[i]? = w.heap[i]?) ∧ (w.setCells g o vs).os = w.os ∧ (w.setCells g o vs).tape = w.tape ∧ (w.setCells g o vs).output = w.output
  | [], _, _ => ⟨rfl, fun _ _ => rfl, rfl, rfl, rfl⟩
  | v :: r, o, w => by
    obtain ⟨h1, h2, h3, h4, h5⟩ := setCells_rest g r (o + 1) (w.setCell ⟨g, o, none⟩ v)
    exact ⟨h1.trans (by simp [World.setCell]), fun i hi => (h2 i hi).trans (Below.heap_setCell _ _ _ _ hi), h3, h4, h5⟩

theorem delete_first (g N cap : Nat) (cur : Array Value) (w : World) (hb : w.heap[g]? = some (.cells cur 47 (0, 0))) (hN : 0 < N) (hc : N + 1 ≤ cap) (hm : cap ≤ maxLen) (hs : cur.size = cap * 5) (h1 : ∀ u ∈ cur.toList.take ((N + 1) * 5), u.oneCell' = true) :
    Calls Try.prog 20 #[.slice (some ⟨g, 0, none⟩) (N + 1 : Nat) cap, .int .i64 0, .int .i64 1] w fun e w' => e = .returned (.slice (some ⟨g, 0, none⟩) N cap) ∧ w'.rowIs g 47 (cap * 5) (fun j => if N * 5 ≤ j ∧ j < N * 5 + 5 then .int .i64 0 else if j < N * 5 then cur[5 + j]?.getD default else cur[j]?.getD default) ∧ w'.heap.size = w.heap.size ∧ (∀ i, i < w.heap.size → i ≠ g → w'.heap[i]? = w.heap[i]?) ∧ w'.os = w.os ∧ w'.tape = w.tape ∧ w'.output = w.output := by
  obtain ⟨i0, hi, hz0, hz1, hz2⟩ := info_parts info47
  have hcap1 : (1 : Nat) ≤ cap := by omega
  have hcne : ¬ cap = 1 := by omega
  have h1N : (1 : Int) ≤ (N : Int) + 1 := by omega
  obtain ⟨news, hnews⟩ : ∃ news, news = (cur.toList.drop 5).take (N * 5) := ⟨_, rfl⟩
  have hlen : news.length = N * 5 := by rw [hnews, List.length_take, List.length_drop, Array.length_toList, hs]; omega
  have hsrc : ∀ j u, news[j]? = some u → w.drew.cell? ((⟨g, 5, none⟩ : Addr).add j) = some u := fun j u hu => by
    rw [hnews, List.getElem?_take] at hu
    split at hu
    · rw [List.getElem?_drop] at hu
      have := World.news_of_block (w := w.drew) hb (5 + j) u hu
      rw [Go.WideShapes.add_plain] at this ⊢
      rw [show 5 + j = 0 + (5 + j) from by omega]
      exact this
    · cases hu
  have hone : ∀ u ∈ news, u.oneCell' = true := fun u hu => by
    refine h1 u ?_
    rw [hnews] at hu
    obtain ⟨i, hi, rfl⟩ := List.mem_iff_getElem.1 hu
    refine List.mem_iff_getElem?.2 ⟨5 + i, ?_⟩
    have hi' : i < N * 5 := by rw [List.length_take] at hi; omega
    rw [List.getElem?_take, if_pos (by omega)]
    rw [List.getElem_take, List.getElem_drop]
    exact List.getElem?_eq_getElem _
  have hcells : ∀ t, t < cap * 5 → (w.drew.cell? ⟨g, t, none⟩).isSome = true ∧ w.drew.frozen? ⟨g, t, none⟩ = false := fun t ht => by
    have hu : cur.toList[t]? = some (cur.toList[t]'(by rw [Array.length_toList, hs]; exact ht)) := List.getElem?_eq_getElem _
    have := World.news_of_block (w := w.drew) hb t _ hu
    rw [Go.WideShapes.add_plain, Nat.zero_add] at this
    refine ⟨by rw [this]; rfl, ?_⟩
    unfold World.frozen?
    rw [show w.drew.heap[g]? = _ from hb]
    simp
  have S0 := Lib.hid hlen
  have S1 := Lib.hid hsrc
  have S2 := Lib.hid hone
  have S3 := Lib.hid hcells
  have HB := Lib.hid hb
  have HS := Lib.hid hs
  clear hlen hsrc hone hcells hb h1 hs
  have HNW := Lib.hid hnews
  clear hnews
  go_enter Try.func20, Try.ntmps20
  go_wp2_with fail
  go_region_law (refine step_append_room rfl (.tmp 22) (.tmp 25) 41 rfl 47 i0 5 Try.underlying41 hi hz1 g 0 0 cap (by simp [Act.eval, Act.put]) ⟨g, 5, none⟩ N (cap - 1) news (by simp [Act.eval, Act.put]) S0.out S1.out S2.out (by omega) (fun j hj => by rw [S0.out] at hj; rw [show 0 + 0 * 5 + j = j from by omega]; exact S3.out j (by omega)) ?_)
  have hcN : ¬ cap = N := by omega
  have hcN' : ¬ N = cap := by omega
  have R1 : (w.drew.setCells g 0 news).rowIs g 47 (cap * 5) (fun j => if 0 ≤ j ∧ j < 0 + news.length then news[j - 0]?.getD default else cur[j]?.getD default) := rowIs_setCells news 0 w.drew _ (rowIs_of_block HB.out HS.out)
  have RH := Lib.hid R1
  have KH := Lib.hid (setCells_rest g news 0 w.drew)
  clear R1
  generalize w.drew.setCells g 0 news = W1 at *
  have CL := run_clear5 W1 0 g (N * 5) (cap - N) (fun j hj => by rw [RH.out.cell (by omega)]; rfl) (fun j hj => RH.out.frozen _)
  go_wp2_with fail
  go_ret
  obtain ⟨q1, q2, q3, q4, q5⟩ := KH.out
  obtain ⟨r1, r2, r3, r4, r5⟩ := setCells_rest g (List.replicate 5 (.int .i64 0)) (N * 5) W1
  refine ⟨rfl, ?_, r1.trans q1, fun i hi hne => (r2 i hne).trans (q2 i hne), r3.trans q3, r4.trans q4, r5.trans q5⟩
  refine (rowIs_setCells (List.replicate 5 (.int .i64 0)) (N * 5) W1 _ RH.out).congr (fun i hi => ?_)
  have hl : news.length = N * 5 := S0.out
  simp only [List.length_replicate, hl, Nat.zero_le, true_and, Nat.zero_add, Nat.sub_zero]
  by_cases hc1 : N * 5 ≤ i ∧ i < N * 5 + 5
  · rw [if_pos hc1, if_pos hc1, List.getElem?_replicate, if_pos (by omega)]; rfl
  · rw [if_neg hc1, if_neg hc1]
    by_cases hc2 : i < N * 5
    · rw [if_pos hc2, if_pos hc2, HNW.out, List.getElem?_take, if_pos hc2, List.getElem?_drop, Array.getElem?_toList]
    · rw [if_neg hc2, if_neg hc2]
end Go.Proofs.Ytjkaegdlpmpneaa
