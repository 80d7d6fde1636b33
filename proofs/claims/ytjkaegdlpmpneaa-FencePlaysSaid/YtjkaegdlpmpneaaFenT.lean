/- The log handed over: a copy. -/
import Derived.Test.YtjkaegdlpmpneaaFenS
namespace Go.Proofs.Ytjkaegdlpmpneaa
open Go.RowKit
set_option linter.unusedVariables false

/-- An append to what the call owns, out of whatever slice. -/
theorem wpList_append_src {P : Program} (w : World) {ops : Array Oper} {rest : List Oper} {o : Oper} {a : Act} {Q : Exit → Act → World → Prop} (hgd : o.guard = none) (s x : Operand) (t : TypeId)
    (ho : o.op = .call { callee := .builtin .append, args := #[s, x], argTypes := #[t, t] })
    (base : Nat) (e : TypeId) (i : TypeInfo) (z : Value) (size bytes : Nat) (ht : P.underlying t = some (.slice e)) (hi : P.info? e = some i) (hz : i.zero = some z)
    (hsize : i.size = size) (hby : i.bytes = bytes) (hzs : z.cells.size = size) (hsz : 0 < size)
    (v : Value) (n : Nat) (xs : List Value) (hs : a.eval s = v) (hown : w.ownsRow base e size v n xs)
    (ao : Option Addr) (m c : Nat) (news : List Value) (hx : a.eval x = .slice ao m c) (hl : news.length = m * size) (hnone : ao = none → m = 0 ∧ c = 0)
    (hnews : ∀ ad, ao = some ad → ∀ j u, news[j]? = some u → w.cell? (ad.add j) = some u) (h1 : ∀ u ∈ news, u.oneCell' = true)
    (h63 : n + m ≤ maxLen) (hbytes : (n + m) * bytes ≤ 140737488355328) (hbase : base ≤ w.heap.size)
    (h : ∀ v' w', w'.ownsRow base e size v' (n + m) (xs ++ news) → w.grownBy w' v.ownBlock → wpList P ops Q rest (a.put o.dst v') w') : wpList P ops Q (o :: rest) a w := by
  cases ao with
  | some ad => exact wpList_append_own w hgd s x t ho base e i z size bytes ht hi hz hsize hby hzs hsz v n xs hs hown ad m c news hx hl (hnews ad rfl) h1 h63 hbytes hbase (fun v' w' h2 h3 _ => h v' w' h2 h3)
  | none =>
    obtain ⟨rfl, rfl⟩ := hnone rfl
    have hnews' : news = [] := List.eq_nil_of_length_eq_zero (by simpa using hl)
    subst hnews'
    refine wpList_plain hgd fun K hK' => ?_
    have hrun := run_append_owned_none (P := P) w base t o.type e i size ht hi v n xs hown
    unfold Oper.wp
    simp [execOp, ho, resolve, invoke, builtin, hs, hx, hrun, Result.andThen]
    exact hK' _ _ (h v w (by simpa using hown) ⟨rfl, rfl, rfl, Nat.le_refl _, fun _ _ _ => rfl⟩)

theorem nil_clone (w : World) : Calls Try.prog 21 #[.slice none 0 0] w fun e w' => e = .returned (.slice none 0 0) ∧ w = w' := by
  have hcmp : ∀ w, (binOp BinOp.eql 41 (.slice none 0 0) (.slice none 0 0)).run Try.prog w = .ok (.bool true) w := fun _ => by kernel_rfl
  go_enter Try.func21, Try.ntmps21
  go_wp2
  go_ret
  exact ⟨rfl, rfl⟩

theorem clone_any (g n cap : Nat) (cur : Array Value) (xs : List Value) (w : World) (hb : w.heap[g]? = some (.cells cur 47 (0, 0))) (hx : cur.toList.take (n * 5) = xs) (hl : xs.length = n * 5) (h1 : ∀ u ∈ xs, u.oneCell' = true) (hn : n ≤ 1000) :
    Calls Try.prog 21 #[.slice (some ⟨g, 0, none⟩) n cap] w fun e w' => ∃ v', e = .returned v' ∧ w'.ownsRow w.heap.size 47 5 v' n xs ∧ Below w.heap.size w w' := by
  obtain ⟨i0, hi, hz0, hz1, hz2⟩ := info_parts info47
  have hg : g < w.heap.size := (Array.getElem?_eq_some_iff.1 hb).1
  have hnews : ∀ (o : Obj) j u, xs[j]? = some u → (w.alloc o).cell? ((⟨g, 0, none⟩ : Addr).add j) = some u := fun o j u hj => by
    refine World.news_of_block (cs := cur) (t := 47) (fr := (0, 0)) ((Below.heap_alloc w _ _ hg).trans hb) j u ?_
    rw [← hx, List.getElem?_take] at hj
    split at hj
    · exact hj
    · cases hj
  have hown : (w.alloc (.cells #[] 47)).ownsRow w.heap.size 47 5 (.slice (some ⟨w.heap.size, 0, none⟩) 0 0) 0 [] :=
    ⟨rfl, .inr ⟨w.heap.size, 0, #[], rfl, Nat.le_refl _, heap_alloc_new w _, Nat.le_refl _, by decide, rfl, rfl⟩⟩
  have hB : Below w.heap.size w (w.alloc (.cells #[] 47)) := (Below.refl _ _).alloc (Nat.le_refl _) _
  have hcmp : ∀ w, (binOp BinOp.eql 41 (.slice (some ⟨g, 0, none⟩) n cap) (.slice none 0 0)).run Try.prog w = .ok (.bool false) w := fun _ => by kernel_rfl
  have HN := Lib.hid hnews
  have HL := Lib.hid hl
  have H1 := Lib.hid h1
  have HO := Lib.hid hown
  clear hnews hl h1 hx hb hown
  go_enter Try.func21, Try.ntmps21
  go_wp2_with (at_builtin; refine wpList_append_src _ rfl (.tmp 5) (.tmp 6) 41 rfl w.heap.size 47 i0 (.agg #[.int .i64 0, .int .i64 0, .int .i64 0, .int .i64 0, .int .i64 0]) 5 40 Try.underlying41 hi hz0 hz1 hz2 rfl (by decide) (.slice (some ⟨w.heap.size, 0, none⟩) 0 0) 0 [] rfl HO.out (some ⟨g, 0, none⟩) n cap xs rfl HL.out (by simp) (fun ad had => by cases had; exact HN.out _) H1.out (by unfold maxLen; omega) (by omega) (by simp) ?_; intro v1 w1 hown1 hgrow1)
  go_ret
  refine ⟨v1, rfl, by simpa using hown1, hB.grown hgrow1 (by simp) (fun j hj => (HO.out.lt j hj).1)⟩

theorem log_ok (B : Nat) (row : Option Nat) (es : List Pl.Ent) (w : World) (h : LogAt w B row es) (hn : es.length ≤ 1000) :
    Calls Try.prog 12 #[.pointer (some ⟨B, 0, none⟩)] w fun e w' => ∃ v', e = .returned v' ∧ w'.ownsRow w.heap.size 47 5 v' es.length (Pl.rows es) ∧ Below w.heap.size w w' := by
  obtain ⟨v, hv, ho, hb⟩ := h.log
  have h1 : ∀ u ∈ Pl.rows es, u.oneCell' = true := by
    intro u hu
    obtain ⟨e, _, he⟩ := List.mem_flatMap.1 hu
    simp [Pl.Ent.cells] at he
    rcases he with rfl | rfl | rfl | rfl | rfl <;> rfl
  rcases ho.2 with ⟨rfl, h0⟩ | ⟨g, cap, cur, rfl, hbg, hg, hc, hm, hs, ht⟩
  · have ho' := ho
    rw [h0] at ho'
    have HO := Lib.hid ho
    clear ho' ho h1 hb
    go_enter Try.func12, Try.ntmps12
    go_wp2_with fail
    refine (nil_clone w).mono ?_
    rintro e w' ⟨rfl, rfl⟩
    go_wp2
    go_ret
    exact ⟨_, rfl, ⟨HO.out.1, .inl ⟨rfl, h0⟩⟩, Below.refl _ _⟩
  · have HG := Lib.hid hg
    have HT := Lib.hid ht
    have H1 := Lib.hid h1
    have HL := Lib.hid ho.1
    clear hg ht h1 ho hs hb
    go_enter Try.func12, Try.ntmps12
    go_wp2_with fail
    refine (clone_any g es.length cap cur _ w HG.out HT.out HL.out H1.out hn).mono ?_
    rintro e w' ⟨v', rfl, hown, hbel⟩
    go_wp2
    go_ret
    exact ⟨_, rfl, hown, hbel⟩
end Go.Proofs.Ytjkaegdlpmpneaa
