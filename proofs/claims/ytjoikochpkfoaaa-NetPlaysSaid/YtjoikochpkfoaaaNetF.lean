/- slices.Clone and slices.Delete of packets. -/
import Derived.Test.YtjoikochpkfoaaaNetE
import Derived.Deep.RegionLaw
import Derived.Lib.LazyBuf
import Derived.Laws.IdiomCopy
namespace Go.Proofs.Ytjoikochpkfoaaa
open Go.RowKit
set_option linter.unusedVariables false

/-- 'clear(s)' on a slice of one packet. -/
theorem run_clear3 (w : World) (ty : TypeId) (b o c : Nat) (hc : ∀ j, j < 3 → (w.cell? ⟨b, o + j, none⟩).isSome = true) (hf : ∀ j, j < 3 → w.frozen? ⟨b, o + j, none⟩ = false) :
    (Builtin.clear_ #[57] ty #[.slice (some ⟨b, o, none⟩) 1 c]).run Try.prog w = .ok (.tuple #[]) (w.setCells b o [.int .i64 0, .int .i64 0, .slice none 0 0]) := by
  have hst := run_storeCells_cells (P := Try.prog) b o [.int .i64 0, .int .i64 0, .slice none 0 0] 0 w (by simpa using hc) (by simpa using hf) (by intro v hv'; simp at hv'; rcases hv' with rfl | rfl <;> rfl)
  simp only [Nat.add_zero] at hst
  have hz : ∀ w, (zeroValue 31).run Try.prog w = .ok (.agg #[.int .i64 0, .int .i64 0, .slice none 0 0]) w := fun _ => by kernel_rfl
  have hzc : (Builtin.zeroCells (Value.agg #[.int .i64 0, .int .i64 0, .slice none 0 0]).cells 1).toList = [.int .i64 0, .int .i64 0, .slice none 0 0] := by kernel_rfl
  simp [Builtin.clear_, run_underlying Try.underlying57, hz, hzc, hst]

theorem rowIs_of_block {w : World} {g n : Nat} {t : TypeId} {cur : Array Value} (hb : w.heap[g]? = some (.cells cur t (0, 0))) (hs : cur.size = n) : w.rowIs g t n (fun i => cur[i]?.getD default) := by
  refine ⟨cur, hb, hs, fun i hi => ?_⟩
  simp [Array.getElem?_eq_getElem (show i < cur.size by omega)]

theorem setCells_rest (g : Nat) : ∀ (vs : List Value) (o : Nat) (w : World), (w.setCells g o vs).heap.size = w.heap.size ∧ (∀ i, i ≠ g → (w.setCells g o vs).heap[i]? = w.heap[i]?) ∧ (w.setCells g o vs).os = w.os ∧ (w.setCells g o vs).tape = w.tape ∧ (w.setCells g o vs).output = w.output
  | [], _, _ => ⟨rfl, fun _ _ => rfl, rfl, rfl, rfl⟩
  | v :: r, o, w => by
    obtain ⟨h1, h2, h3, h4, h5⟩ := setCells_rest g r (o + 1) (w.setCell ⟨g, o, none⟩ v)
    exact ⟨h1.trans (by simp [World.setCell]), fun i hi => (h2 i hi).trans (Below.heap_setCell _ _ _ _ hi), h3, h4, h5⟩

theorem pnil_clone (w : World) : Calls Try.prog 38 #[.slice none 0 0] w fun e w' => e = .returned (.slice none 0 0) ∧ w = w' := by
  have hcmp : ∀ w, (binOp BinOp.eql 57 (.slice none 0 0) (.slice none 0 0)).run Try.prog w = .ok (.bool true) w := fun _ => by kernel_rfl
  go_enter Try.func38, Try.ntmps38
  go_wp2
  go_ret
  exact ⟨rfl, rfl⟩

theorem pclone_any (g n cap : Nat) (cur : Array Value) (xs : List Value) (w : World) (hb : w.heap[g]? = some (.cells cur 31 (0, 0))) (hx : cur.toList.take (n * 3) = xs) (hl : xs.length = n * 3) (h1 : ∀ u ∈ xs, u.oneCell' = true) (hn : n ≤ 1000) :
    Calls Try.prog 38 #[.slice (some ⟨g, 0, none⟩) n cap] w fun e w' => ∃ v', e = .returned v' ∧ w'.ownsRow w.heap.size 31 3 v' n xs ∧ Below w.heap.size w w' := by
  obtain ⟨i0, hi, hz0, hz1, hz2⟩ := info_parts info31
  have hg : g < w.heap.size := (Array.getElem?_eq_some_iff.1 hb).1
  have hnews : ∀ (o : Obj) j u, xs[j]? = some u → (w.alloc o).cell? ((⟨g, 0, none⟩ : Addr).add j) = some u := fun o j u hj => by
    refine World.news_of_block (cs := cur) (t := 31) (fr := (0, 0)) ((Below.heap_alloc w _ _ hg).trans hb) j u ?_
    rw [← hx, List.getElem?_take] at hj
    split at hj
    · exact hj
    · cases hj
  have hown : (w.alloc (.cells #[] 31)).ownsRow w.heap.size 31 3 (.slice (some ⟨w.heap.size, 0, none⟩) 0 0) 0 [] :=
    ⟨rfl, .inr ⟨w.heap.size, 0, #[], rfl, Nat.le_refl _, heap_alloc_new w _, Nat.le_refl _, by decide, rfl, rfl⟩⟩
  have hB : Below w.heap.size w (w.alloc (.cells #[] 31)) := (Below.refl _ _).alloc (Nat.le_refl _) _
  have hcmp : ∀ w, (binOp BinOp.eql 57 (.slice (some ⟨g, 0, none⟩) n cap) (.slice none 0 0)).run Try.prog w = .ok (.bool false) w := fun _ => by kernel_rfl
  have HN := Lib.hid hnews
  have HL := Lib.hid hl
  have H1 := Lib.hid h1
  have HO := Lib.hid hown
  clear hnews hl h1 hx hb hown
  go_enter Try.func38, Try.ntmps38
  go_wp2_with (at_builtin; refine wpList_append_src _ rfl (.tmp 5) (.tmp 6) 57 rfl w.heap.size 31 i0 (.agg #[.int .i64 0, .int .i64 0, .slice none 0 0]) 3 40 Try.underlying57 hi hz0 hz1 hz2 rfl (by decide) (.slice (some ⟨w.heap.size, 0, none⟩) 0 0) 0 [] rfl HO.out (some ⟨g, 0, none⟩) n cap xs rfl HL.out (by simp) (fun ad had => by cases had; exact HN.out _) H1.out (by unfold maxLen; omega) (by omega) (by simp) ?_; intro v1 w1 hown1 hgrow1)
  go_ret
  refine ⟨v1, rfl, by simpa using hown1, hB.grown hgrow1 (by simp) (fun j hj => (HO.out.lt j hj).1)⟩


theorem delete_mid (g n i cap : Nat) (cur : Array Value) (w : World) (hb : w.heap[g]? = some (.cells cur 31 (0, 0))) (hin : i ≤ n) (hc : n + 1 ≤ cap) (hm : cap ≤ maxLen) (hs : cur.size = cap * 3) (h1 : ∀ u ∈ cur.toList.take ((n + 1) * 3), u.oneCell' = true) (hcj : ¬ cap = i + 1) :
    Calls Try.prog 37 #[.slice (some ⟨g, 0, none⟩) (n + 1 : Nat) cap, .int .i64 i, .int .i64 ((i : Int) + 1)] w fun e w' => e = .returned (.slice (some ⟨g, 0, none⟩) n cap) ∧ w'.rowIs g 31 (cap * 3) (fun j => if n * 3 ≤ j ∧ j < n * 3 + 3 then #[Value.int .i64 0, .int .i64 0, .slice none 0 0][j - n * 3]?.getD default else if i * 3 ≤ j ∧ j < n * 3 then cur[3 + j]?.getD default else cur[j]?.getD default) ∧ w'.heap.size = w.heap.size ∧ (∀ i, i < w.heap.size → i ≠ g → w'.heap[i]? = w.heap[i]?) ∧ w'.os = w.os ∧ w'.tape = w.tape ∧ w'.output = w.output := by
  obtain ⟨i0, hi, hz0, hz1, hz2⟩ := info_parts info31
  have hcap1 : i ≤ cap := by omega
  have hcap2 : i + 1 ≤ cap := by omega
  have hcap3 : (i : Int) ≤ n := by omega
  have hcap4 : (i : Int) + 1 ≤ (n : Int) + 1 := by omega
  have hcap5 : (n : Int) ≤ cap := by omega
  have hcap6 : (n : Int) + 1 ≤ cap := by omega
  have hneq : ((i : Int) == (i : Int) + 1) = false := by rw [beq_eq_false_iff_ne]; omega
  have hcap8 : (i : Int) + 1 ≤ cap := by omega
  have hcap9 : (i : Int) ≤ cap := by omega
  have hcap10 : i ≤ n + 1 := by omega
  have hcap11 : (i : Int) ≤ (n : Int) + 1 := by omega
  have hsum : i + (n - i) = n := by omega
  have hcap12 : (0 : Int) ≤ (i : Int) + 1 := by omega
  have hcap13 : (i : Int) ≤ (i : Int) + 1 := by omega
  obtain ⟨news, hnews⟩ : ∃ news, news = (cur.toList.drop ((i + 1) * 3)).take ((n - i) * 3) := ⟨_, rfl⟩
  have hlen : news.length = (n - i) * 3 := by rw [hnews, List.length_take, List.length_drop, Array.length_toList, hs]; omega
  have hsrc : ∀ j u, news[j]? = some u → w.drew.cell? ((⟨g, (i + 1) * 3, none⟩ : Addr).add j) = some u := fun j u hu => by
    rw [hnews, List.getElem?_take] at hu
    split at hu
    · rw [List.getElem?_drop] at hu
      have := World.news_of_block (w := w.drew) hb ((i + 1) * 3 + j) u hu
      rw [Go.WideShapes.add_plain] at this ⊢
      rw [show (i + 1) * 3 + j = 0 + ((i + 1) * 3 + j) from by omega]
      exact this
    · cases hu
  have hone : ∀ u ∈ news, u.oneCell' = true := fun u hu => by
    refine h1 u ?_
    rw [hnews] at hu
    obtain ⟨k, hk, rfl⟩ := List.mem_iff_getElem.1 hu
    refine List.mem_iff_getElem?.2 ⟨(i + 1) * 3 + k, ?_⟩
    have hk' : k < (n - i) * 3 := by rw [List.length_take] at hk; omega
    rw [List.getElem?_take, if_pos (by omega)]
    rw [List.getElem_take, List.getElem_drop]
    exact List.getElem?_eq_getElem _
  have hcells : ∀ t, t < cap * 3 → (w.drew.cell? ⟨g, t, none⟩).isSome = true ∧ w.drew.frozen? ⟨g, t, none⟩ = false := fun t ht => by
    have hu : cur.toList[t]? = some (cur.toList[t]'(by rw [Array.length_toList, hs]; exact ht)) := List.getElem?_eq_getElem _
    have := World.news_of_block (w := w.drew) hb t _ hu
    rw [Go.WideShapes.add_plain, Nat.zero_add] at this
    refine ⟨by rw [this]; rfl, ?_⟩
    unfold World.frozen?
    rw [show w.drew.heap[g]? = _ from hb]
    simp
  have S0 := Lib.hid hlen
  have S1 := Lib.hid hsrc
  have S2 := Lib.hid hone
  have S3 := Lib.hid hcells
  have HB := Lib.hid hb
  have HS := Lib.hid hs
  have HNW := Lib.hid hnews
  clear hlen hsrc hone hcells hb h1 hs hnews
  go_enter Try.func37, Try.ntmps37
  go_wp2_with fail
  go_region_law (refine step_append_room rfl (.tmp 22) (.tmp 25) 57 rfl 31 i0 3 Try.underlying57 hi hz1 g 0 i cap (by simp [Act.eval, Act.put]) ⟨g, (i + 1) * 3, none⟩ (n - i) (cap - (i + 1)) news (by simp [Act.eval, Act.put]) S0.out S1.out S2.out (by omega) (fun j hj => by rw [S0.out] at hj; rw [show 0 + i * 3 + j = i * 3 + j from by omega]; exact S3.out (i * 3 + j) (by omega)) ?_)
  have hcN : ¬ cap = n := by omega
  have hcN' : ¬ n = cap := by omega
  have R1 : (w.drew.setCells g (i * 3) news).rowIs g 31 (cap * 3) (fun j => if i * 3 ≤ j ∧ j < i * 3 + news.length then news[j - (i * 3)]?.getD default else cur[j]?.getD default) := rowIs_setCells news (i * 3) w.drew _ (rowIs_of_block HB.out HS.out)
  have RH := Lib.hid R1
  have KH := Lib.hid (setCells_rest g news (i * 3) w.drew)
  clear R1
  generalize w.drew.setCells g (i * 3) news = W1 at *
  have CL := run_clear3 W1 0 g (n * 3) (cap - n) (fun j hj => by rw [RH.out.cell (by omega)]; rfl) (fun j hj => RH.out.frozen _)
  go_wp2_with fail
  go_ret
  obtain ⟨q1, q2, q3, q4, q5⟩ := KH.out
  obtain ⟨r1, r2, r3, r4, r5⟩ := setCells_rest g [.int .i64 0, .int .i64 0, .slice none 0 0] (n * 3) W1
  refine ⟨rfl, ?_, r1.trans q1, fun i hi hne => (r2 i hne).trans (q2 i hne), r3.trans q3, r4.trans q4, r5.trans q5⟩
  refine (rowIs_setCells [.int .i64 0, .int .i64 0, .slice none 0 0] (n * 3) W1 _ RH.out).congr (fun j hj => ?_)
  have hl : news.length = (n - i) * 3 := S0.out
  have hadd : i * 3 + (n - i) * 3 = n * 3 := by omega
  simp only [List.length_cons, List.length_nil, hl, Nat.zero_add, hadd]
  by_cases hc1 : n * 3 ≤ j ∧ j < n * 3 + 3
  · rw [if_pos hc1, if_pos hc1]; simp
  · rw [if_neg hc1, if_neg hc1]
    by_cases hc2 : i * 3 ≤ j ∧ j < n * 3
    · rw [if_pos hc2, if_pos hc2, HNW.out, List.getElem?_take, if_pos (by omega), List.getElem?_drop, Array.getElem?_toList, show (i + 1) * 3 + (j - i * 3) = 3 + j from by omega]
    · rw [if_neg hc2, if_neg hc2]

theorem delete_end (g i : Nat) (cur : Array Value) (w : World) (hb : w.heap[g]? = some (.cells cur 31 (0, 0))) (hin : i ≤ i) (hc : i + 1 ≤ (i + 1)) (hm : (i + 1) ≤ maxLen) (hs : cur.size = (i + 1) * 3) (h1 : ∀ u ∈ cur.toList.take ((i + 1) * 3), u.oneCell' = true) :
    Calls Try.prog 37 #[.slice (some ⟨g, 0, none⟩) (i + 1 : Nat) (i + 1), .int .i64 i, .int .i64 ((i : Int) + 1)] w fun e w' => e = .returned (.slice (some ⟨g, 0, none⟩) i (i + 1)) ∧ w'.rowIs g 31 ((i + 1) * 3) (fun j => if i * 3 ≤ j ∧ j < i * 3 + 3 then #[Value.int .i64 0, .int .i64 0, .slice none 0 0][j - i * 3]?.getD default else if i * 3 ≤ j ∧ j < i * 3 then cur[3 + j]?.getD default else cur[j]?.getD default) ∧ w'.heap.size = w.heap.size ∧ (∀ i, i < w.heap.size → i ≠ g → w'.heap[i]? = w.heap[i]?) ∧ w'.os = w.os ∧ w'.tape = w.tape ∧ w'.output = w.output := by
  obtain ⟨i0, hi, hz0, hz1, hz2⟩ := info_parts info31
  have hcap1 : i ≤ (i + 1) := by omega
  have hcap2 : i + 1 ≤ (i + 1) := by omega
  have hcap3 : (i : Int) ≤ i := by omega
  have hcap4 : (i : Int) + 1 ≤ (i : Int) + 1 := by omega
  have hcap5 : (i : Int) ≤ (i + 1) := by omega
  have hcap6 : (i : Int) + 1 ≤ (i + 1) := by omega
  have hneq : ((i : Int) == (i : Int) + 1) = false := by rw [beq_eq_false_iff_ne]; omega
  have hcap8 : (i : Int) + 1 ≤ (i + 1) := by omega
  have hcap9 : (i : Int) ≤ (i + 1) := by omega
  have hcap10 : i ≤ i + 1 := by omega
  have hcap11 : (i : Int) ≤ (i : Int) + 1 := by omega
  have hcap12 : (0 : Int) ≤ (i : Int) + 1 := by omega
  have hcap13 : (i : Int) ≤ (i : Int) + 1 := by omega
  obtain ⟨news, hnews⟩ : ∃ news : List Value, news = [] := ⟨_, rfl⟩
  have hlen : news.length = 0 * 3 := by rw [hnews]; rfl
  have hsrc : ∀ j u, news[j]? = some u → w.drew.cell? ((⟨g, 0, none⟩ : Addr).add j) = some u := fun j u hu => by rw [hnews] at hu; cases hu
  have hone : ∀ u ∈ news, u.oneCell' = true := fun u hu => by rw [hnews] at hu; cases hu
  have hcells : ∀ t, t < (i + 1) * 3 → (w.drew.cell? ⟨g, t, none⟩).isSome = true ∧ w.drew.frozen? ⟨g, t, none⟩ = false := fun t ht => by
    have hu : cur.toList[t]? = some (cur.toList[t]'(by rw [Array.length_toList, hs]; exact ht)) := List.getElem?_eq_getElem _
    have := World.news_of_block (w := w.drew) hb t _ hu
    rw [Go.WideShapes.add_plain, Nat.zero_add] at this
    refine ⟨by rw [this]; rfl, ?_⟩
    unfold World.frozen?
    rw [show w.drew.heap[g]? = _ from hb]
    simp
  have S0 := Lib.hid hlen
  have S1 := Lib.hid hsrc
  have S2 := Lib.hid hone
  have S3 := Lib.hid hcells
  have HB := Lib.hid hb
  have HS := Lib.hid hs
  have HNW := Lib.hid hnews
  clear hlen hsrc hone hcells hb h1 hs hnews
  go_enter Try.func37, Try.ntmps37
  go_wp2_with fail
  go_region_law (refine step_append_room rfl (.tmp 22) (.tmp 25) 57 rfl 31 i0 3 Try.underlying57 hi hz1 g 0 i (i + 1) (by simp [Act.eval, Act.put]) ⟨g, 0, none⟩ 0 0 news (by simp [Act.eval, Act.put]) S0.out S1.out S2.out (by omega) (fun j hj => by rw [S0.out] at hj; rw [show 0 + i * 3 + j = i * 3 + j from by omega]; exact S3.out (i * 3 + j) (by omega)) ?_)
  have R1 : (w.drew.setCells g (i * 3) news).rowIs g 31 ((i + 1) * 3) (fun j => if i * 3 ≤ j ∧ j < i * 3 + news.length then news[j - (i * 3)]?.getD default else cur[j]?.getD default) := rowIs_setCells news (i * 3) w.drew _ (rowIs_of_block HB.out HS.out)
  have RH := Lib.hid R1
  have KH := Lib.hid (setCells_rest g news (i * 3) w.drew)
  clear R1
  generalize w.drew.setCells g (i * 3) news = W1 at *
  have CL := run_clear3 W1 0 g (i * 3) 1 (fun j hj => by rw [RH.out.cell (by omega)]; rfl) (fun j hj => RH.out.frozen _)
  go_wp2_with fail
  go_ret
  obtain ⟨q1, q2, q3, q4, q5⟩ := KH.out
  obtain ⟨r1, r2, r3, r4, r5⟩ := setCells_rest g [.int .i64 0, .int .i64 0, .slice none 0 0] (i * 3) W1
  refine ⟨rfl, ?_, r1.trans q1, fun i hi hne => (r2 i hne).trans (q2 i hne), r3.trans q3, r4.trans q4, r5.trans q5⟩
  refine (rowIs_setCells [.int .i64 0, .int .i64 0, .slice none 0 0] (i * 3) W1 _ RH.out).congr (fun j hj => ?_)
  have hl : news.length = 0 := S0.out
  simp only [List.length_cons, List.length_nil, hl, Nat.zero_add, Nat.add_zero]
  by_cases hc1 : i * 3 ≤ j ∧ j < i * 3 + 3
  · rw [if_pos hc1, if_pos hc1]; simp
  · rw [if_neg hc1, if_neg hc1]
    rw [if_neg (by omega), if_neg (by omega)]

theorem delete_at (g n i cap : Nat) (cur : Array Value) (w : World) (hb : w.heap[g]? = some (.cells cur 31 (0, 0))) (hin : i ≤ n) (hc : n + 1 ≤ cap) (hm : cap ≤ maxLen) (hs : cur.size = cap * 3) (h1 : ∀ u ∈ cur.toList.take ((n + 1) * 3), u.oneCell' = true) :
    Calls Try.prog 37 #[.slice (some ⟨g, 0, none⟩) (n + 1 : Nat) cap, .int .i64 i, .int .i64 ((i : Int) + 1)] w fun e w' => e = .returned (.slice (some ⟨g, 0, none⟩) n cap) ∧
      (∃ cur' : Array Value, w'.heap[g]? = some (.cells cur' 31 (0, 0)) ∧ cur'.size = cap * 3 ∧ cur'.toList.take (n * 3) = (cur.toList.take ((n + 1) * 3)).take (i * 3) ++ (cur.toList.take ((n + 1) * 3)).drop ((i + 1) * 3)) ∧ w'.heap.size = w.heap.size ∧ (∀ i, i < w.heap.size → i ≠ g → w'.heap[i]? = w.heap[i]?) ∧ w'.os = w.os ∧ w'.tape = w.tape ∧ w'.output = w.output := by
  have fin : ∀ (e : Ending) (w' : World), (e = Ending.returned (.slice (some ⟨g, 0, none⟩) n cap) ∧ w'.rowIs g 31 (cap * 3) (fun j => if n * 3 ≤ j ∧ j < n * 3 + 3 then #[Value.int .i64 0, .int .i64 0, .slice none 0 0][j - n * 3]?.getD default else if i * 3 ≤ j ∧ j < n * 3 then cur[3 + j]?.getD default else cur[j]?.getD default) ∧ w'.heap.size = w.heap.size ∧ (∀ i, i < w.heap.size → i ≠ g → w'.heap[i]? = w.heap[i]?) ∧ w'.os = w.os ∧ w'.tape = w.tape ∧ w'.output = w.output) →
      e = Ending.returned (.slice (some ⟨g, 0, none⟩) n cap) ∧ (∃ cur' : Array Value, w'.heap[g]? = some (.cells cur' 31 (0, 0)) ∧ cur'.size = cap * 3 ∧ cur'.toList.take (n * 3) = (cur.toList.take ((n + 1) * 3)).take (i * 3) ++ (cur.toList.take ((n + 1) * 3)).drop ((i + 1) * 3)) ∧ w'.heap.size = w.heap.size ∧ (∀ i, i < w.heap.size → i ≠ g → w'.heap[i]? = w.heap[i]?) ∧ w'.os = w.os ∧ w'.tape = w.tape ∧ w'.output = w.output := by
    rintro e w' ⟨rfl, ⟨c, hc1, hc2, hc3⟩, rest⟩
    refine ⟨rfl, ⟨c, hc1, hc2, ?_⟩, rest⟩
    apply List.ext_getElem?
    intro j
    have hcl : cur.toList.length = cap * 3 := by rw [Array.length_toList]; exact hs
    have hget : ∀ x, x < cap * 3 → cur[x]?.getD default = cur[x]?.getD default ∧ cur[x]? = some (cur[x]?.getD default) := fun x hx => by
      refine ⟨rfl, ?_⟩
      rw [Array.getElem?_eq_getElem (show x < cur.size by omega)]; rfl
    have hl : ((cur.toList.take ((n + 1) * 3)).take (i * 3)).length = i * 3 := by rw [List.length_take, List.length_take, hcl]; omega
    rw [List.getElem?_take]
    by_cases hj : j < n * 3
    · rw [if_pos hj, Array.getElem?_toList, hc3 j (by omega)]
      show some (if n * 3 ≤ j ∧ j < n * 3 + 3 then #[Value.int .i64 0, .int .i64 0, .slice none 0 0][j - n * 3]?.getD default else if i * 3 ≤ j ∧ j < n * 3 then cur[3 + j]?.getD default else cur[j]?.getD default) = _
      rw [if_neg (by omega)]
      by_cases hij : i * 3 ≤ j
      · rw [if_pos ⟨hij, hj⟩, List.getElem?_append_right (by omega), hl, List.getElem?_drop, List.getElem?_take, if_pos (by omega), Array.getElem?_toList, show (i + 1) * 3 + (j - i * 3) = 3 + j from by omega]
        exact (hget (3 + j) (by omega)).2.symm
      · rw [if_neg (by omega), List.getElem?_append_left (by omega), List.getElem?_take, if_pos (by omega), List.getElem?_take, if_pos (by omega), Array.getElem?_toList]
        exact (hget j (by omega)).2.symm
    · rw [if_neg hj, List.getElem?_append_right (by omega), List.getElem?_eq_none]
      rw [List.length_drop, List.length_take, hcl, hl]; omega
  by_cases hcj : cap = i + 1
  · have hi : n = i := by omega
    subst hcj
    subst hi
    exact (delete_end g n cur w hb (by omega) (by omega) hm hs h1).mono fin
  · exact (delete_mid g n i cap cur w hb hin hc hm hs h1 hcj).mono fin
end Go.Proofs.Ytjoikochpkfoaaa
