/- Bytes: their copies. -/
import Derived.Test.YtjoikochpkfoaaaNetB
import Derived.Test.YtjoikochpkfoaaaNetL
namespace Go.Proofs.Ytjoikochpkfoaaa
open Go.RowKit
set_option linter.unusedVariables false

/-- Bytes in memory, by their cells. -/
def BytesC (w : World) (v : Value) (bs : List Int) : Prop :=
  ∃ ao cap, v = .slice ao bs.length cap ∧ (ao = none → bs = [] ∧ cap = 0) ∧ ∀ i (h : i < bs.length), ∃ g off, ao = some ⟨g, off, none⟩ ∧ g < w.heap.size ∧ w.cell? ⟨g, off + i, none⟩ = some (.int .u8 bs[i])
/-- The same, in a block of bytes. -/
def BytesT (w : World) (v : Value) (bs : List Int) : Prop :=
  ∃ ao cap, v = .slice ao bs.length cap ∧ (ao = none → bs = [] ∧ cap = 0) ∧ ∀ i (h : i < bs.length), ∃ g off cs fr, ao = some ⟨g, off, none⟩ ∧ w.heap[g]? = some (Obj.cells cs 5 fr) ∧ cs[off + i]? = some (.int .u8 bs[i])
/-- Blocks of bytes are as they were. -/
def KeepB (w w' : World) : Prop := ∀ (g : Nat) (cs : Array Value) (fr : Nat × Nat), w.heap[g]? = some (Obj.cells cs 5 fr) → w'.heap[g]? = w.heap[g]?
theorem KeepB.of_below {w w' : World} (h : Below w.heap.size w w') : KeepB w w' := fun g cs fr hg => h.block g (Array.getElem?_eq_some_iff.1 hg).1
theorem KeepB.trans {a b c : World} (h : KeepB a b) (k : KeepB b c) : KeepB a c := fun g cs fr hg => (k g cs fr ((h g cs fr hg).trans hg)).trans (h g cs fr hg)
theorem BytesT.toC {w : World} {v : Value} {bs : List Int} (h : BytesT w v bs) : BytesC w v bs := by
  obtain ⟨ao, cap, rfl, h0, h⟩ := h
  refine ⟨ao, cap, rfl, h0, fun i hi => ?_⟩
  obtain ⟨g, off, cs, fr, h1, h2, h3⟩ := h i hi
  exact ⟨g, off, h1, (Array.getElem?_eq_some_iff.1 h2).1, by simp [World.cell?, h2, h3]⟩
theorem BytesT.keep {w w' : World} {v : Value} {bs : List Int} (h : BytesT w v bs) (k : KeepB w w') : BytesT w' v bs := by
  obtain ⟨ao, cap, rfl, h0, h⟩ := h
  refine ⟨ao, cap, rfl, h0, fun i hi => ?_⟩
  obtain ⟨g, off, cs, fr, h1, h2, h3⟩ := h i hi
  exact ⟨g, off, cs, fr, h1, (k g cs fr h2).trans h2, h3⟩
theorem BytesT.below {w w' : World} {v : Value} {bs : List Int} (h : BytesT w v bs) (hb : Below w.heap.size w w') : BytesT w' v bs := h.keep (KeepB.of_below hb)
theorem BytesC.below {w w' : World} {v : Value} {bs : List Int} (h : BytesC w v bs) (hb : Below w.heap.size w w') : BytesC w' v bs := by
  obtain ⟨ao, cap, rfl, h0, h⟩ := h
  refine ⟨ao, cap, rfl, h0, fun i hi => ?_⟩
  obtain ⟨g, off, h1, h2, h3⟩ := h i hi
  exact ⟨g, off, h1, Nat.lt_of_lt_of_le h2 hb.size, (hb.cell (p := ⟨g, off + i, none⟩) h2).trans h3⟩

namespace Pl
def u8s (bs : List Int) : List Value := bs.map (fun b => Value.int .u8 b)
end Pl
theorem bytes_of {w : World} {base : Nat} {v : Value} {bs : List Int} (h : w.ownsRow base 5 1 v bs.length (Pl.u8s bs)) : BytesT w v bs := by
  rcases h.2 with ⟨rfl, h0⟩ | ⟨g, cap, cur, rfl, hb, hg, _, _, _, ht⟩
  · have : bs = [] := List.eq_nil_of_length_eq_zero h0
    subst this
    exact ⟨none, 0, rfl, fun _ => ⟨rfl, rfl⟩, fun i hi => absurd hi (by simp)⟩
  · refine ⟨_, cap, rfl, (fun e => by cases e), fun i hi => ⟨g, 0, cur, (0, 0), rfl, hg, ?_⟩⟩
    have h2 : (Pl.u8s bs)[i]? = cur.toList[i]? := by rw [← ht, List.getElem?_take, if_pos (by omega)]
    rw [Nat.zero_add, ← Array.getElem?_toList, ← h2]
    unfold Pl.u8s; rw [List.getElem?_map, List.getElem?_eq_getElem hi]; rfl

theorem info5 : (Try.prog.info? 5).map (fun i => (i.zero, i.size, i.bytes)) = some (some (.int .u8 0), 1, 1) := by kernel_rfl

/-- An append to what the call owns, out of whatever slice. -/
theorem wpList_append_src {P : Program} (w : World) {ops : Array Oper} {rest : List Oper} {o : Oper} {a : Act} {Q : Exit → Act → World → Prop} (hgd : o.guard = none) (s x : Operand) (t : TypeId)
    (ho : o.op = .call { callee := .builtin .append, args := #[s, x], argTypes := #[t, t] })
    (base : Nat) (e : TypeId) (i : TypeInfo) (z : Value) (size bytes : Nat) (ht : P.underlying t = some (.slice e)) (hi : P.info? e = some i) (hz : i.zero = some z)
    (hsize : i.size = size) (hby : i.bytes = bytes) (hzs : z.cells.size = size) (hsz : 0 < size)
    (v : Value) (n : Nat) (xs : List Value) (hs : a.eval s = v) (hown : w.ownsRow base e size v n xs)
    (ao : Option Addr) (m c : Nat) (news : List Value) (hx : a.eval x = .slice ao m c) (hl : news.length = m * size) (hnone : ao = none → m = 0 ∧ c = 0)
    (hnews : ∀ ad, ao = some ad → ∀ j u, news[j]? = some u → w.cell? (ad.add j) = some u) (h1 : ∀ u ∈ news, u.oneCell' = true)
    (h63 : n + m ≤ maxLen) (hbytes : (n + m) * bytes ≤ 140737488355328) (hbase : base ≤ w.heap.size)
    (h : ∀ v' w', w'.ownsRow base e size v' (n + m) (xs ++ news) → w.grownBy w' v.ownBlock → wpList P ops Q rest (a.put o.dst v') w') : wpList P ops Q (o :: rest) a w := by
  cases ao with
  | some ad => exact wpList_append_own w hgd s x t ho base e i z size bytes ht hi hz hsize hby hzs hsz v n xs hs hown ad m c news hx hl (hnews ad rfl) h1 h63 hbytes hbase (fun v' w' h2 h3 _ => h v' w' h2 h3)
  | none =>
    obtain ⟨rfl, rfl⟩ := hnone rfl
    have hnews' : news = [] := List.eq_nil_of_length_eq_zero (by simpa using hl)
    subst hnews'
    refine wpList_plain hgd fun K hK' => ?_
    have hrun := run_append_owned_none (P := P) w base t o.type e i size ht hi v n xs hown
    unfold Oper.wp
    simp [execOp, ho, resolve, invoke, builtin, hs, hx, hrun, Result.andThen]
    exact hK' _ _ (h v w (by simpa using hown) ⟨rfl, rfl, rfl, Nat.le_refl _, fun _ _ _ => rfl⟩)


theorem clone_nil (w : World) : Calls Try.prog 36 #[.slice none 0 0] w fun e w' => e = .returned (.slice none 0 0) ∧ w = w' := by
  have hcmp : ∀ w, (binOp BinOp.eql 26 (.slice none 0 0) (.slice none 0 0)).run Try.prog w = .ok (.bool true) w := fun _ => by kernel_rfl
  go_enter Try.func36, Try.ntmps36
  go_wp2
  go_ret
  exact ⟨rfl, rfl⟩

theorem clone_some (ad : Addr) (cap : Nat) (bs : List Int) (w : World) (h : ∀ i (h : i < bs.length), ∃ g off, (some ad : Option Addr) = some ⟨g, off, none⟩ ∧ g < w.heap.size ∧ w.cell? ⟨g, off + i, none⟩ = some (.int .u8 bs[i])) (hn : bs.length ≤ 1000000) :
    Calls Try.prog 36 #[.slice (some ad) bs.length cap] w fun e w' => ∃ v', e = .returned v' ∧ BytesT w' v' bs ∧ Below w.heap.size w w' := by
  obtain ⟨i0, hi, hz0, hz1, hz2⟩ := info_parts info5
  have hnews : ∀ (o : Obj) j u, (Pl.u8s bs)[j]? = some u → (w.alloc o).cell? (ad.add j) = some u := fun o j u hj => by
    unfold Pl.u8s at hj
    rw [List.getElem?_map] at hj
    have hjl : j < bs.length := by
      rcases Nat.lt_or_ge j bs.length with h' | h'
      · exact h'
      · rw [List.getElem?_eq_none h'] at hj; cases hj
    rw [List.getElem?_eq_getElem hjl] at hj
    obtain ⟨g, off, h1, h2, h3⟩ := h j hjl
    cases h1
    rw [Go.WideShapes.add_plain]
    cases hj
    exact (World.cell?_alloc_lt _ _ _ (by exact h2)).trans h3
  have hown : (w.alloc (.cells #[] 5)).ownsRow w.heap.size 5 1 (.slice (some ⟨w.heap.size, 0, none⟩) 0 0) 0 [] :=
    ⟨rfl, .inr ⟨w.heap.size, 0, #[], rfl, Nat.le_refl _, heap_alloc_new w _, Nat.le_refl _, by decide, rfl, rfl⟩⟩
  have hB : Below w.heap.size w (w.alloc (.cells #[] 5)) := (Below.refl _ _).alloc (Nat.le_refl _) _
  have hcmp : ∀ w, (binOp BinOp.eql 26 (.slice (some ad) bs.length cap) (.slice none 0 0)).run Try.prog w = .ok (.bool false) w := fun _ => by kernel_rfl
  have hlen : (Pl.u8s bs).length = bs.length * 1 := by unfold Pl.u8s; simp
  have hone : ∀ u ∈ Pl.u8s bs, u.oneCell' = true := fun u hu => by
    unfold Pl.u8s at hu
    obtain ⟨b, _, rfl⟩ := List.mem_map.1 hu
    rfl
  have HN := Lib.hid hnews
  have HO := Lib.hid hown
  have HL := Lib.hid hlen
  have H1 := Lib.hid hone
  have HB := Lib.hid hB
  clear hnews hown h hlen hone hB
  go_enter Try.func36, Try.ntmps36
  go_wp2_with (at_builtin; refine wpList_append_src _ rfl (.tmp 5) (.tmp 6) 26 rfl w.heap.size 5 i0 (.int .u8 0) 1 1 Try.underlying26 hi hz0 hz1 hz2 rfl (by decide) (.slice (some ⟨w.heap.size, 0, none⟩) 0 0) 0 [] rfl HO.out (some ad) bs.length cap (Pl.u8s bs) rfl HL.out (by simp) (fun ad' had => by cases had; exact HN.out _) H1.out (by unfold maxLen; omega) (by omega) (by simp) ?_; intro v1 w1 hown1 hgrow1)
  go_ret
  refine ⟨v1, rfl, bytes_of (base := w.heap.size) (by simpa using hown1), HB.out.grown hgrow1 (by simp) (fun j hj => (HO.out.lt j hj).1)⟩

theorem clone_any (v : Value) (bs : List Int) (w : World) (h : BytesC w v bs) (hn : bs.length ≤ 1000000) :
    Calls Try.prog 36 #[v] w fun e w' => ∃ v', e = .returned v' ∧ BytesT w' v' bs ∧ Below w.heap.size w w' := by
  obtain ⟨ao, cap, rfl, h0, hc⟩ := h
  cases ao with
  | none =>
    obtain ⟨rfl, rfl⟩ := h0 rfl
    refine (clone_nil w).mono ?_
    rintro e w' ⟨rfl, rfl⟩
    exact ⟨_, rfl, ⟨none, 0, rfl, fun _ => ⟨rfl, rfl⟩, fun i hi => absurd hi (by simp)⟩, Below.refl _ _⟩
  | some ad => exact clone_some ad cap bs w hc hn

theorem keepB_of {w w' : World} (x y : Nat) (h : ∀ g, g ≠ x → g ≠ y → w'.heap[g]? = w.heap[g]?) (hx : ∀ cs fr, w.heap[x]? ≠ some (Obj.cells cs 5 fr)) (hy : ∀ cs fr, w.heap[y]? ≠ some (Obj.cells cs 5 fr)) : KeepB w w' :=
  fun g cs fr hg => h g (fun e => hx cs fr (e ▸ hg)) (fun e => hy cs fr (e ▸ hg))

theorem own_any (a b : Int) (v : Value) (bs : List Int) (w : World) (h : BytesC w v bs) (hn : bs.length ≤ 1000000) :
    Calls Try.prog 23 #[.agg #[.int .i64 a, .int .i64 b, v]] w fun e w' => ∃ v', e = .returned (.agg #[.int .i64 a, .int .i64 b, v']) ∧ BytesT w' v' bs ∧ Below w.heap.size w w' := by
  obtain ⟨ao, cap, hv⟩ : ∃ ao cap, v = .slice ao bs.length cap := by obtain ⟨ao, cap, e, _⟩ := h; exact ⟨ao, cap, e⟩
  have b0 : Below w.heap.size w ((w.alloc (.cells #[.int .i64 a, .int .i64 b, v] 31)).alloc (.cells #[.int .i64 0, .int .i64 0, .slice none 0 0] 31)) := ((Below.refl _ _).alloc (Nat.le_refl _) _).alloc (by simp) _
  have hlt : w.heap.size + 1 < ((w.alloc (.cells #[.int .i64 a, .int .i64 b, v] 31)).alloc (.cells #[.int .i64 0, .int .i64 0, .slice none 0 0] 31)).heap.size := by simp
  have x0 : ∀ j u, (#[.int .i64 a, .int .i64 b, v] : Array Value)[j]? = some u → ((w.alloc (.cells #[.int .i64 a, .int .i64 b, v] 31)).alloc (.cells #[.int .i64 0, .int .i64 0, .slice none 0 0] 31)).cell? ⟨w.heap.size, j, none⟩ = some u := fun j u hj => by
    rw [World.cell?_alloc_lt _ _ _ (by simp), World.cell?_alloc_at _ _ _ _ rfl]; simpa using hj
  have x1 : ∀ j u, (#[.int .i64 0, .int .i64 0, .slice none 0 0] : Array Value)[j]? = some u → ((w.alloc (.cells #[.int .i64 a, .int .i64 b, v] 31)).alloc (.cells #[.int .i64 0, .int .i64 0, .slice none 0 0] 31)).cell? ⟨w.heap.size + 1, j, none⟩ = some u := fun j u hj => by
    rw [World.cell?_alloc_at _ _ _ _ (by simp)]; simpa using hj
  have f0 : ∀ j, ((w.alloc (.cells #[.int .i64 a, .int .i64 b, v] 31)).alloc (.cells #[.int .i64 0, .int .i64 0, .slice none 0 0] 31)).frozen? ⟨w.heap.size, j, none⟩ = false := fun j => by simp
  have f1 : ∀ j, ((w.alloc (.cells #[.int .i64 a, .int .i64 b, v] 31)).alloc (.cells #[.int .i64 0, .int .i64 0, .slice none 0 0] 31)).frozen? ⟨w.heap.size + 1, j, none⟩ = false := fun j => by simp
  have HX0 := Lib.hid x0
  have HX1 := Lib.hid x1
  have HF0 := Lib.hid f0
  have HF1 := Lib.hid f1
  have HLT := Lib.hid hlt
  have HC := Lib.hid (clone_any v bs _ (h.below b0) hn)
  have HB0 := Lib.hid b0
  clear h b0 x0 x1 f0 f1 hlt
  subst hv
  go_enter Try.func23, Try.ntmps23
  go_wp2_with fail
  refine HC.out.mono ?_
  rintro e w1 ⟨v1, rfl, B1, b1⟩
  have hl := HLT.out
  have y0 := (b1.cell (p := ⟨w.heap.size, 0, none⟩) (by show w.heap.size < _; omega)).trans (HX0.out 0 _ rfl)
  have y1 := (b1.cell (p := ⟨w.heap.size, 1, none⟩) (by show w.heap.size < _; omega)).trans (HX0.out 1 _ rfl)
  have y2 := (b1.cell (p := ⟨w.heap.size, 2, none⟩) (by show w.heap.size < _; omega)).trans (HX0.out 2 _ rfl)
  have z0 := (b1.cell (p := ⟨w.heap.size + 1, 0, none⟩) hl).trans (HX1.out 0 _ rfl)
  have z1 := (b1.cell (p := ⟨w.heap.size + 1, 1, none⟩) hl).trans (HX1.out 1 _ rfl)
  have z2 := (b1.cell (p := ⟨w.heap.size + 1, 2, none⟩) hl).trans (HX1.out 2 _ rfl)
  have g2 := (b1.frozen (p := ⟨w.heap.size, 2, none⟩) (by show w.heap.size < _; omega)).trans (HF0.out 2)
  have k0 := (b1.frozen (p := ⟨w.heap.size + 1, 0, none⟩) hl).trans (HF1.out 0)
  have k1 := (b1.frozen (p := ⟨w.heap.size + 1, 1, none⟩) hl).trans (HF1.out 1)
  have k2 := (b1.frozen (p := ⟨w.heap.size + 1, 2, none⟩) hl).trans (HF1.out 2)
  obtain ⟨ao1, cap1, hv1, _⟩ := id B1
  subst hv1
  have HB1 := Lib.hid B1
  have HB2 := Lib.hid (HB0.out.trans (b1.mono HB0.out.size))
  have t0 : w1.heap[w.heap.size]? = some (.cells #[.int .i64 a, .int .i64 b, .slice ao bs.length cap] 31) := (b1.block _ (by omega)).trans ((Below.heap_alloc _ _ _ (by simp)).trans (heap_alloc_new w _))
  have t1 : w1.heap[w.heap.size + 1]? = some (.cells #[.int .i64 0, .int .i64 0, .slice none 0 0] 31) := (b1.block _ hl).trans (by have := heap_alloc_new (w.alloc (.cells #[.int .i64 a, .int .i64 b, .slice ao bs.length cap] 31)) (.cells #[.int .i64 0, .int .i64 0, .slice none 0 0] 31); simpa using this)
  have T0 := Lib.hid t0
  have T1 := Lib.hid t1
  clear t0 t1 B1 b1 hl HX0 HX1 HF0 HF1 HLT HC HB0
  go_wp2_with fail
  have hB : Below w.heap.size w ((((w1.setCell ⟨w.heap.size, 2, none⟩ (.slice ao1 bs.length cap1)).setCell ⟨w.heap.size + 1, 0, none⟩ (.int .i64 a)).setCell ⟨w.heap.size + 1, 1, none⟩ (.int .i64 b)).setCell ⟨w.heap.size + 1, 2, none⟩ (.slice ao1 bs.length cap1)) :=
    (((HB2.out.setCell (p := ⟨w.heap.size, 2, none⟩) (Nat.le_refl _) _).setCell (p := ⟨w.heap.size + 1, 0, none⟩) (Nat.le_succ _) _).setCell (p := ⟨w.heap.size + 1, 1, none⟩) (Nat.le_succ _) _).setCell (p := ⟨w.heap.size + 1, 2, none⟩) (Nat.le_succ _) _
  have hK : KeepB w1 ((((w1.setCell ⟨w.heap.size, 2, none⟩ (.slice ao1 bs.length cap1)).setCell ⟨w.heap.size + 1, 0, none⟩ (.int .i64 a)).setCell ⟨w.heap.size + 1, 1, none⟩ (.int .i64 b)).setCell ⟨w.heap.size + 1, 2, none⟩ (.slice ao1 bs.length cap1)) :=
    keepB_of w.heap.size (w.heap.size + 1) (fun g h1 h2 => by
      rw [Below.heap_setCell _ _ _ _ h2, Below.heap_setCell _ _ _ _ h2, Below.heap_setCell _ _ _ _ h2, Below.heap_setCell _ _ _ _ h1]) (fun cs fr e => by rw [T0.out] at e; cases e) (fun cs fr e => by rw [T1.out] at e; cases e)
  have r0 : ((((w1.setCell ⟨w.heap.size, 2, none⟩ (.slice ao1 bs.length cap1)).setCell ⟨w.heap.size + 1, 0, none⟩ (.int .i64 a)).setCell ⟨w.heap.size + 1, 1, none⟩ (.int .i64 b)).setCell ⟨w.heap.size + 1, 2, none⟩ (.slice ao1 bs.length cap1)).cell? ⟨w.heap.size + 1, 0, none⟩ = some (.int .i64 a) := by
    rw [World.cell?_setCell_other _ _ _ _ (by simp), World.cell?_setCell_other _ _ _ _ (by simp)]
    exact World.cell?_setCell_same _ _ _ (by rw [World.cell?_setCell_other _ _ _ _ (by simp)]; exact z0)
  have r1 : ((((w1.setCell ⟨w.heap.size, 2, none⟩ (.slice ao1 bs.length cap1)).setCell ⟨w.heap.size + 1, 0, none⟩ (.int .i64 a)).setCell ⟨w.heap.size + 1, 1, none⟩ (.int .i64 b)).setCell ⟨w.heap.size + 1, 2, none⟩ (.slice ao1 bs.length cap1)).cell? ⟨w.heap.size + 1, 1, none⟩ = some (.int .i64 b) := by
    rw [World.cell?_setCell_other _ _ _ _ (by simp)]
    exact World.cell?_setCell_same _ _ _ (by rw [World.cell?_setCell_other _ _ _ _ (by simp), World.cell?_setCell_other _ _ _ _ (by simp)]; exact z1)
  have r2 : ((((w1.setCell ⟨w.heap.size, 2, none⟩ (.slice ao1 bs.length cap1)).setCell ⟨w.heap.size + 1, 0, none⟩ (.int .i64 a)).setCell ⟨w.heap.size + 1, 1, none⟩ (.int .i64 b)).setCell ⟨w.heap.size + 1, 2, none⟩ (.slice ao1 bs.length cap1)).cell? ⟨w.heap.size + 1, 2, none⟩ = some (.slice ao1 bs.length cap1) :=
    World.cell?_setCell_same _ _ _ (by rw [World.cell?_setCell_other _ _ _ _ (by simp), World.cell?_setCell_other _ _ _ _ (by simp), World.cell?_setCell_other _ _ _ _ (by simp)]; exact z2)
  generalize (((w1.setCell ⟨w.heap.size, 2, none⟩ (.slice ao1 bs.length cap1)).setCell ⟨w.heap.size + 1, 0, none⟩ (.int .i64 a)).setCell ⟨w.heap.size + 1, 1, none⟩ (.int .i64 b)).setCell ⟨w.heap.size + 1, 2, none⟩ (.slice ao1 bs.length cap1) = W at *
  exact bodyPost_ret (v := .agg #[.int .i64 a, .int .i64 b, .slice ao1 bs.length cap1]) (by simp [results, Try.results23, go_sem, r0, r1, r2]) rfl ⟨_, rfl, HB1.out.keep hK, hB⟩
end Go.Proofs.Ytjoikochpkfoaaa
