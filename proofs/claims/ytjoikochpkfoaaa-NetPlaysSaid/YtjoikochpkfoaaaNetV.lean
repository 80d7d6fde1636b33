/- The document's net: Send. -/
import Derived.Test.YtjoikochpkfoaaaNetU
namespace Go.Proofs.Ytjoikochpkfoaaa
open Go.RowKit
set_option linter.unusedVariables false

/-- An append to what the call owns, out of whatever slice: at a step of a region that draws its order. -/
theorem step_append_src {P : Program} {w : World} {ops : Array Oper} {o : Oper} {a : Act} {K : Act → World → Prop} {Q : Exit → Act → World → Prop} {E : Prop} (hgd : o.guard = none) (s x : Operand) (t : TypeId)
    (ho : o.op = .call { callee := .builtin .append, args := #[s, x], argTypes := #[t, t] })
    (base : Nat) (e : TypeId) (i : TypeInfo) (z : Value) (size bytes : Nat) (ht : P.underlying t = some (.slice e)) (hi : P.info? e = some i) (hz : i.zero = some z)
    (hsize : i.size = size) (hby : i.bytes = bytes) (hzs : z.cells.size = size) (hsz : 0 < size)
    (v : Value) (n : Nat) (xs : List Value) (hs : a.eval s = v) (hown : w.ownsRow base e size v n xs)
    (ao : Option Addr) (m c : Nat) (news : List Value) (hx : a.eval x = .slice ao m c) (hl : news.length = m * size) (hnone : ao = none → m = 0 ∧ c = 0)
    (hnews : ∀ ad, ao = some ad → ∀ j u, news[j]? = some u → w.cell? (ad.add j) = some u) (h1 : ∀ u ∈ news, u.oneCell' = true)
    (h63 : n + m ≤ maxLen) (hbytes : (n + m) * bytes ≤ 140737488355328) (hbase : base ≤ w.heap.size)
    (h : ∀ v' w', w'.ownsRow base e size v' (n + m) (xs ++ news) → w.grownBy w' v.ownBlock → K (a.put o.dst v') w') :
    if Region.wanted o (yielded ops a.tmps) = true then Oper.wp P o a w K Q else E := by
  have hw : Region.wanted o (yielded ops a.tmps) = true := by simp [Region.wanted, hgd]
  rw [if_pos hw]
  cases ao with
  | some ad => exact wp_append_own w s x t ho base e i z size bytes ht hi hz hsize hby hzs hsz v n xs hs hown ad m c news hx hl (hnews ad rfl) h1 h63 hbytes hbase (fun v' w' h2 h3 _ => h v' w' h2 h3)
  | none =>
    obtain ⟨rfl, rfl⟩ := hnone rfl
    have hnews' : news = [] := List.eq_nil_of_length_eq_zero (by simpa using hl)
    subst hnews'
    have hrun := run_append_owned_none (P := P) w base t o.type e i size ht hi v n xs hown
    unfold Oper.wp
    simp [execOp, ho, resolve, invoke, builtin, hs, hx, hrun, Result.andThen]
    exact h v w (by simpa using hown) ⟨rfl, rfl, rfl, Nat.le_refl _, fun _ _ _ => rfl⟩

theorem info41' : (Try.prog.info? 41).map (fun i => (i.zero, i.size, i.bytes)) = some (some (.agg #[.int .i64 0, .int .i64 0, .slice none 0 0]), 3, 40) := by kernel_rfl

theorem keepB_grown41 {w w' : World} {base n : Nat} {v : Value} {xs : List Value} (h : w.ownsRow base 41 3 v n xs) (hg : w.grownBy w' v.ownBlock) : KeepB w w' := fun g cs fr hc =>
  hg.block g (Array.getElem?_eq_some_iff.1 hc).1 (fun e => by
    obtain ⟨cs', hc'⟩ := own_cells h e.symm
    rw [hc'] at hc; cases hc)

/-- Behind the append and its store: from a world W in which only memory was made since w. -/
theorem ref_late {w W w2 : World} {M g cap : Nat} {row : Option Nat} {es : List Pl.Ent} {T : Pl.Off} {e : Pl.Ent} {v : Value} {off : Nat → Bool} (h : RefAt w M row es T) (hb : Below w.heap.size w W)
    (hr : W.rowIs M 49 65 (fun j => if j = 0 then v else .bool (off (j - 1)))) (hv : v.ownBlock = row) (hl : Pl.Link off T) (ho : W.ownsRow (M + 1) 41 3 v es.length (Pl.rows es)) (he : BytesT W e.bv e.bs) (hp : Pl.pair e.frm e.to = true)
    (hg : W.grownBy w2 v.ownBlock) (ho2 : w2.ownsRow (M + 1) 41 3 (.slice (some ⟨g, 0, none⟩) (es.length + 1) cap) (es.length + 1) (Pl.rows es ++ e.cells)) (hat : v.ownBlock = some g ∨ g = W.heap.size) :
    RefAt (w2.setCell ⟨M, 0, none⟩ (.slice (some ⟨g, 0, none⟩) (es.length + 1) cap)) M (some g) (es ++ [e]) T ∧ Turned w (w2.setCell ⟨M, 0, none⟩ (.slice (some ⟨g, 0, none⟩) (es.length + 1) cap)) M row M ∧
      (some g = row ∨ w.heap.size ≤ g) := by
  have hNlt := h.lt
  have hs := hb.size
  have hs2 := hg.size
  have nN : some M ≠ v.ownBlock := fun e => by have := (ho.lt M e.symm).1; omega
  have kN : w2.heap[M]? = W.heap[M]? := hg.block M (by omega) nN
  have k1 : KeepB W w2 := keepB_grown41 ho hg
  have r2 := hr.of_block kN
  have k2 : KeepB w2 (w2.setCell ⟨M, 0, none⟩ (.slice (some ⟨g, 0, none⟩) (es.length + 1) cap)) := fun x cs fr hx => Below.heap_setCell _ _ _ _ (fun e => by
    obtain ⟨c, hc, _⟩ := r2
    change x = M at e
    subst e
    rw [hc] at hx; cases hx)
  refine ⟨⟨⟨.slice (some ⟨g, 0, none⟩) (es.length + 1) cap, off, (r2.set 0 _).congr (fun i hi => ?_), ?_, rfl, hl⟩, ?_, ?_⟩, ⟨?_, ?_, ?_⟩, ?_⟩
  · by_cases h0 : i = 0
    · subst h0; rfl
    · simp [h0]
  · rw [Pl.rows_append, Pl.rows_one, List.length_append]
    exact ownsRow_setCell_below ho2 (by show M < M + 1; omega) _
  · intro x hx
    rcases List.mem_append.1 hx with hx | hx
    · exact (((h.bodies x hx).below hb).keep k1).keep k2
    · obtain rfl := List.mem_singleton.1 hx
      exact (he.keep k1).keep k2
  · intro x hx
    rcases List.mem_append.1 hx with hx | hx
    · exact h.pairs x hx
    · obtain rfl := List.mem_singleton.1 hx
      exact hp
  · simp [World.setCell]; omega
  · intro i hi h1 h2 h3
    rw [Below.heap_setCell _ _ _ _ h1]
    exact (hg.block i (by omega) (by rw [hv]; exact h3)).trans (hb.block i hi)
  · exact ⟨hg.os.trans hb.os, hg.tape.trans hb.tape, hg.output.trans hb.output⟩
  · rcases hat with h1 | h1
    · exact .inl (by rw [← h1, hv])
    · exact .inr (by omega)

theorem rsend_arg (M : Nat) (a b : Int) (ao : Option Addr) (len cap : Nat) (w : World) (h : Pl.pair a b = false) :
    Calls Try.prog 27 #[.pointer (some ⟨M, 0, none⟩), .int .i64 a, .int .i64 b, .slice ao len cap] w fun e w' => e = .returned (.int .i64 2) ∧ Below w.heap.size w w' := by
  go_enter Try.func27, Try.ntmps27
  go_wp2_with fail
  refine (refpair_any a b _).mono ?_
  rintro e w1 ⟨rfl, b1⟩
  rw [h]
  go_wp2_with fail
  go_ret
  exact ⟨rfl, b1⟩

theorem rsend_long (M : Nat) (a b : Int) (ao : Option Addr) (len cap : Nat) (w : World) (h : Pl.pair a b = true) (hl : 4096 < len) :
    Calls Try.prog 27 #[.pointer (some ⟨M, 0, none⟩), .int .i64 a, .int .i64 b, .slice ao len cap] w fun e w' => e = .returned (.int .i64 6) ∧ Below w.heap.size w w' := by
  go_enter Try.func27, Try.ntmps27
  go_wp2_with fail
  refine (refpair_any a b _).mono ?_
  rintro e w1 ⟨rfl, b1⟩
  rw [h]
  go_wp2_with fail
  go_ret
  exact ⟨rfl, b1⟩

theorem rsend_full (M : Nat) (a b : Int) (ao ao' : Option Addr) (len cap n cap' : Nat) (w : World) (h : Pl.pair a b = true) (hl : len ≤ 4096) (hM : M < w.heap.size) (hn : 64 ≤ n) (c0 : w.cell? ⟨M, 0, none⟩ = some (.slice ao' n cap')) :
    Calls Try.prog 27 #[.pointer (some ⟨M, 0, none⟩), .int .i64 a, .int .i64 b, .slice ao len cap] w fun e w' => e = .returned (.int .i64 7) ∧ Below w.heap.size w w' := by
  have C0 := Lib.hid c0
  clear c0
  go_enter Try.func27, Try.ntmps27
  go_wp2_with fail
  refine (refpair_any a b _).mono ?_
  rintro e w1 ⟨rfl, b1⟩
  rw [h]
  have c1 := (b1.cell (p := ⟨M, 0, none⟩) hM).trans C0.out
  have HB := Lib.hid b1
  clear b1
  go_wp2_with fail
  go_ret
  exact ⟨rfl, HB.out⟩

/-- The document's: sent. -/
def RSent1 (w' : World) (M : Nat) (row' : Option Nat) (es : List Pl.Ent) (T : Pl.Off) (a b : Int) (bs : List Int) (base : Nat) : Prop := ∃ v', RefAt w' M row' (es ++ [⟨a, b, v', bs⟩]) T ∧ NewB base v'
theorem RSent1.mk {w' : World} {M : Nat} {row' : Option Nat} {es : List Pl.Ent} {T : Pl.Off} {a b : Int} {bs : List Int} {base : Nat} {v' : Value} (h : RefAt w' M row' (es ++ [⟨a, b, v', bs⟩]) T) (hn : NewB base v') : RSent1 w' M row' es T a b bs base := ⟨v', h, hn⟩

set_option maxHeartbeats 1000000 in
theorem rsend_ok (M : Nat) (row : Option Nat) (es : List Pl.Ent) (T : Pl.Off) (a b : Int) (v : Value) (bs : List Int) (w : World) (h : RefAt w M row es T) (hp : Pl.pair a b = true) (hbs : BytesC w v bs) (hl : bs.length ≤ 4096) (hn : es.length < 64) :
    Calls Try.prog 27 #[.pointer (some ⟨M, 0, none⟩), .int .i64 a, .int .i64 b, v] w fun e w' => e = .returned (.int .i64 0) ∧ ∃ row', RSent1 w' M row' es T a b bs w.heap.size ∧ Turned w w' M row M ∧ (row' = row ∨ ∃ g, row' = some g ∧ w.heap.size ≤ g) := by
  obtain ⟨i0, hi, hz0, hz1, hz2⟩ := info_parts info41'
  obtain ⟨i5, hi5, hz50, hz51, hz52⟩ := info_parts info5
  obtain ⟨ao, cap, hv, hnn, hcb⟩ := id hbs
  obtain ⟨lv, off, hr, ho, hlv, hlk⟩ := h.obj
  obtain ⟨lao, lcap, hlvs⟩ : ∃ lao lcap, lv = .slice lao es.length lcap := by
    rcases ho.2 with ⟨rfl, h0⟩ | ⟨g, cap, cur, e, _⟩
    · exact ⟨none, 0, by rw [h0]⟩
    · exact ⟨_, cap, e⟩
  have hNlt := h.lt
  have hone5 : ∀ u ∈ Pl.u8s bs, u.oneCell' = true := fun u hu => by
    unfold Pl.u8s at hu
    obtain ⟨b, _, rfl⟩ := List.mem_map.1 hu
    rfl
  have hlen5 : (Pl.u8s bs).length = bs.length * 1 := by unfold Pl.u8s; simp
  have hnews5 : ∀ (W : World), Below w.heap.size w W → ∀ ad, ao = some ad → ∀ j u, (Pl.u8s bs)[j]? = some u → W.cell? (ad.add j) = some u := fun W hW ad had j u hj => by
    unfold Pl.u8s at hj
    rw [List.getElem?_map] at hj
    have hjl : j < bs.length := by
      rcases Nat.lt_or_ge j bs.length with h' | h'
      · exact h'
      · rw [List.getElem?_eq_none h'] at hj; cases hj
    rw [List.getElem?_eq_getElem hjl] at hj
    obtain ⟨g, off, h1, h2, h3⟩ := hcb j hjl
    rw [had] at h1
    cases h1
    rw [Go.WideShapes.add_plain]
    cases hj
    exact (hW.cell (p := ⟨g, off + j, none⟩) h2).trans h3
  have HNN := Lib.hid (fun h => And.intro (congrArg List.length (hnn h).1) (hnn h).2)
  have H5 := Lib.hid hone5
  have HL5 := Lib.hid hlen5
  have HN5 := Lib.hid hnews5
  have HH := Lib.hid h
  have HR := Lib.hid hr
  have HO := Lib.hid ho
  have HLV := Lib.hid hlv
  have HLK := Lib.hid hlk
  clear h hbs hr ho hlv hlk hone5 hlen5 hnews5 hcb hnn
  subst hv
  have h64 : ¬ ((es.length : Int) ≥ 64) := by omega
  go_enter Try.func27, Try.ntmps27
  go_wp2_with fail
  refine (refpair_any a b _).mono ?_
  rintro e W ⟨rfl, b1⟩
  rw [hp]
  have c1 : W.cell? ⟨M, 0, none⟩ = some lv := (b1.cell (p := ⟨M, 0, none⟩) hNlt).trans (HR.out.cell (i := 0) (by decide))
  have hN1 : M < W.heap.size := Nat.lt_of_lt_of_le hNlt b1.size
  rw [hlvs] at c1
  have HB := Lib.hid b1
  clear b1
  go_wp2_with fail
  clear h64
  refine wp_region_L (fun w' => w'.cell? ⟨M, 0, none⟩ = some (.slice lao es.length lcap)) 15 (by kernel_rfl) c1 (fun hHeld => ?_)
  refine wpL_takeAt (i := 0) 22 (v := ?va1) rfl (by kernel_rfl) (by kernel_rfl) (by kernel_rfl) (by kernel_rfl) (by kernel_rfl) (fun _ _ _ h => h) (Or.inl ⟨by rfl, ?ha1⟩) (by assumption) ?ra1
  case ha1 => intro w hSw; (try dsimp only at hSw); go_simp; (try with_reducible rfl)
  simp only [Act.put, List.setIfInBounds_toArray, List.set_cons_zero, List.set_cons_succ]
  refine wpL_takeAt (i := 1) 23 (v := ?va2) rfl (by kernel_rfl) (by kernel_rfl) (by kernel_rfl) (by kernel_rfl) (by kernel_rfl) (fun _ _ _ h => h) (Or.inl ⟨by rfl, ?ha2⟩) (by assumption) ?ra2
  case ha2 => intro w hSw; (try dsimp only at hSw); go_simp; (try with_reducible rfl)
  simp only [Act.put, List.setIfInBounds_toArray, List.set_cons_zero, List.set_cons_succ]
  refine wpL_takeAt (i := 2) 24 (v := ?va3) rfl (by kernel_rfl) (by kernel_rfl) (by kernel_rfl) (by kernel_rfl) (by kernel_rfl) (fun _ _ _ h => h) (Or.inl ⟨by rfl, ?ha3⟩) (by assumption) ?ra3
  case ha3 => intro w hSw; (try dsimp only at hSw); go_simp; (try with_reducible rfl)
  simp only [Act.put, List.setIfInBounds_toArray, List.set_cons_zero, List.set_cons_succ]
  refine wpL_takeAt (i := 3) 25 (v := ?va4) rfl (by kernel_rfl) (by kernel_rfl) (by kernel_rfl) (by kernel_rfl) (by kernel_rfl) (fun _ _ _ h => h) (Or.inl ⟨by rfl, ?ha4⟩) (by assumption) ?ra4
  case ha4 => intro w hSw; (try dsimp only at hSw); go_simp; (try with_reducible rfl)
  simp only [Act.put, List.setIfInBounds_toArray, List.set_cons_zero, List.set_cons_succ]
  refine wpL_takeAt (i := 4) 26 (v := ?va5) rfl (by kernel_rfl) (by kernel_rfl) (by kernel_rfl) (by kernel_rfl) (by kernel_rfl) (fun _ _ _ h => h) (Or.inl ⟨by rfl, ?ha5⟩) (by assumption) ?ra5
  case ha5 => intro w hSw; (try dsimp only at hSw); go_simp; (try with_reducible rfl)
  simp only [Act.put, List.setIfInBounds_toArray, List.set_cons_zero, List.set_cons_succ]
  refine wpL_takeAt (i := 5) 27 (v := ?va6) rfl (by kernel_rfl) (by kernel_rfl) (by kernel_rfl) (by kernel_rfl) (by kernel_rfl) (fun _ _ _ h => h) (Or.inl ⟨by rfl, ?ha6⟩) (by assumption) ?ra6
  case ha6 => intro w hSw; (try dsimp only at hSw); go_simp; (try with_reducible rfl)
  simp only [Act.put, List.setIfInBounds_toArray, List.set_cons_zero, List.set_cons_succ]
  refine wpL_takeAt (i := 6) 28 (v := ?va7) rfl (by kernel_rfl) (by kernel_rfl) (by kernel_rfl) (by kernel_rfl) (by kernel_rfl) (fun _ _ _ h => h) (Or.inl ⟨by rfl, ?ha7⟩) (by assumption) ?ra7
  case ha7 => intro w hSw; (try dsimp only at hSw); go_simp; (try with_reducible rfl)
  simp only [Act.put, List.setIfInBounds_toArray, List.set_cons_zero, List.set_cons_succ]
  refine wpL_takeAt (i := 8) 30 (v := ?va8) rfl (by kernel_rfl) (by kernel_rfl) (by kernel_rfl) (by kernel_rfl) (by kernel_rfl) (fun _ _ _ h => h) (Or.inl ⟨by rfl, ?ha8⟩) (by assumption) ?ra8
  case ha8 => intro w hSw; (try dsimp only at hSw); go_simp; (try with_reducible rfl)
  simp only [Act.put, List.setIfInBounds_toArray, List.set_cons_zero, List.set_cons_succ]
  clear hHeld
  refine wpL_one (i := 7) (by kernel_rfl) rfl (fun K hK => ?_)
  go_simp
  have HBd : Below w.heap.size w W.drew := HB.out.drew
  have hs0 : (W.drew.alloc (.cells #[] 5)).heap.size = W.drew.heap.size + 1 := by simp
  have HB2 := Lib.hid (HBd.alloc HBd.size (.cells #[] 5))
  have q1 : (W.drew.alloc (.cells #[] 5)).cell? ⟨M, 0, none⟩ = some (.slice lao es.length lcap) := (World.cell?_alloc_lt _ _ _ hN1).trans c1
  have HOWN5 : Hid ((W.drew.alloc (.cells #[] 5)).ownsRow W.drew.heap.size 5 1 (.slice (some ⟨W.drew.heap.size, 0, none⟩) 0 0) 0 []) :=
    Lib.hid ⟨rfl, .inr ⟨W.drew.heap.size, 0, #[], rfl, Nat.le_refl _, heap_alloc_new W.drew _, Nat.le_refl _, by decide, rfl, rfl⟩⟩
  have HSD := Lib.hid HBd.size
  refine hK.out _ _ (fun _ => q1) (fun _ => ?_)
  clear hK K
  try simp only [Act.put, List.setIfInBounds_toArray, List.set_cons_zero, List.set_cons_succ]
  clear c1
  refine wpL_one (i := 9) (by kernel_rfl) rfl (fun K hK => ?_)
  (refine step_append_src rfl (.tmp 29) (.tmp 30) 26 rfl W.drew.heap.size 5 i5 (.int .u8 0) 1 1 Try.underlying26 hi5 hz50 hz51 hz52 rfl (by decide) (.slice (some ⟨W.drew.heap.size, 0, none⟩) 0 0) 0 [] rfl HOWN5.out ao bs.length cap (Pl.u8s bs) rfl HL5.out HNN.out (HN5.out _ HB2.out) H5.out (by unfold maxLen; omega) (by omega) (by simp) ?_; intro v4 w4 hown4 hgrow4)
  have HO4 : Hid (OwnB W.drew.heap.size w4 v4 bs) := Lib.hid (by simpa [OwnB] using hown4)
  obtain ⟨ao4, cap4, hv4, _⟩ := HO4.out.toT
  subst hv4
  have HB4 := Lib.hid (HB2.out.grown hgrow4 (by have := HSD.out; simp at this ⊢; omega) (fun j hj => Nat.le_trans HSD.out (HOWN5.out.lt j hj).1))
  have q2 : w4.cell? ⟨M, 0, none⟩ = some (.slice lao es.length lcap) := (hgrow4.cell_far ⟨M, 0, none⟩ (by simp; omega) (fun e => by simp [Value.ownBlock] at e; omega)).trans q1
  have hN4 : M < w4.heap.size := World.block_lt_of_cell? _ _ q2
  clear hown4 hgrow4 q1 HOWN5 HB2
  refine hK.out _ _ (fun _ => q2) (fun _ => ?_)
  clear hK K
  try simp only [Act.put, List.setIfInBounds_toArray, List.set_cons_zero, List.set_cons_succ]
  refine wpL_one (i := 10) (by kernel_rfl) rfl (fun K hK => ?_)
  go_simp
  refine hK.out _ _ (fun _ => q2) (fun _ => ?_)
  clear hK K
  try simp only [Act.put, List.setIfInBounds_toArray, List.set_cons_zero, List.set_cons_succ]
  refine wpL_one (i := 11) (by kernel_rfl) rfl (fun K hK => ?_)
  go_simp
  have q3 : (w4.alloc (.cells #[.int .i64 a, .int .i64 b, .slice ao4 bs.length cap4] 41)).cell? ⟨M, 0, none⟩ = some (.slice lao es.length lcap) := (World.cell?_alloc_lt _ _ _ hN4).trans q2
  refine hK.out _ _ (fun _ => q3) (fun _ => ?_)
  clear hK K
  try simp only [Act.put, List.setIfInBounds_toArray, List.set_cons_zero, List.set_cons_succ]
  clear q2
  have HB5 := Lib.hid (HB4.out.alloc HB4.out.size (.cells #[.int .i64 a, .int .i64 b, .slice ao4 bs.length cap4] 41))
  have HNEW := Lib.hid (World.news_of_block (heap_alloc_new w4 (.cells #[.int .i64 a, .int .i64 b, .slice ao4 bs.length cap4] 41)))
  have OWN := Lib.hid (ownsRow_of HO.out (fun g hg => HB5.out.block g (HO.out.lt g hg).2))
  have HBT := Lib.hid ((HO4.out.toT).below ((Below.refl w4.heap.size w4).alloc (Nat.le_refl _) (.cells #[.int .i64 a, .int .i64 b, .slice ao4 bs.length cap4] 41)))
  have HNB := Lib.hid (HO4.out.new.mono HSD.out)
  have HR5 := Lib.hid (HR.out.of_block (HB5.out.block M hNlt))
  have hs5 : (w4.alloc (.cells #[.int .i64 a, .int .i64 b, .slice ao4 bs.length cap4] 41)).heap.size = w4.heap.size + 1 := by simp
  have HS5 := Lib.hid hs5
  have hone : ∀ u ∈ ([.int .i64 a, .int .i64 b, .slice ao4 bs.length cap4] : List Value), u.oneCell' = true := by
    intro u hu
    simp at hu
    rcases hu with rfl | rfl | rfl
    · rfl
    · rfl
    · rfl
  have H1 := Lib.hid hone
  clear hone hs5 HO4 HB4
  have HLVS := Lib.hid hlvs
  have own5 := OWN.out
  rw [hlvs] at own5
  refine wpL_one (i := 12) (by kernel_rfl) rfl (fun K hK => ?_)
  (refine step_append_lies _ rfl (.tmp 26) (.tmp 33) 38 rfl (M + 1) 41 i0 (.agg #[.int .i64 0, .int .i64 0, .slice none 0 0]) 3 40 Try.underlying38 hi hz0 hz1 hz2 rfl (by decide) (.slice lao es.length lcap) es.length (Pl.rows es) rfl own5 ⟨w4.heap.size, 0, none⟩ 1 1 [.int .i64 a, .int .i64 b, .slice ao4 bs.length cap4] rfl rfl HNEW.out H1.out (by decide) (by unfold maxLen; omega) (by omega) (by simp; omega) (w4.heap.size + 1) HS5.out ?_; intro g6 cap6 w6 hown6 hgrow6 hat6 hlt6)
  clear own5
  rw [← HLVS.out] at hgrow6 hat6
  have L := ref_late (e := ⟨a, b, .slice ao4 bs.length cap4, bs⟩) HH.out HB5.out HR5.out HLV.out HLK.out OWN.out HBT.out hp hgrow6 hown6 (by rw [HS5.out]; exact hat6)
  have nN : some M ≠ lv.ownBlock := fun e => by have := (HO.out.lt M e.symm).1; omega
  have kN : w6.heap[M]? = (w4.alloc (.cells #[.int .i64 a, .int .i64 b, .slice ao4 bs.length cap4] 41)).heap[M]? := hgrow6.block M (by rw [HS5.out]; omega) nN
  have q6 : w6.cell? ⟨M, 0, none⟩ = some (.slice lao es.length lcap) := (World.cell?_of_block kN).trans q3
  have f6 : w6.frozen? ⟨M, 0, none⟩ = false := (World.frozen?_of_block kN).trans (HR5.out.frozen 0)
  have HL := Lib.hid L
  clear L hown6 hgrow6 hat6 kN nN q3
  refine hK.out _ _ (fun _ => q6) (fun _ => ?_)
  clear hK K
  try simp only [Act.put, List.setIfInBounds_toArray, List.set_cons_zero, List.set_cons_succ]
  refine wpL_one (i := 13) (by kernel_rfl) rfl (fun K hK => ?_)
  go_simp
  refine hK.out _ _ (fun _ => q6) (fun _ => ?_)
  clear hK K
  try simp only [Act.put, List.setIfInBounds_toArray, List.set_cons_zero, List.set_cons_succ]
  refine wpL_one (i := 14) (by kernel_rfl) rfl (fun K hK => ?_)
  go_simp
  refine hK.out _ _ (fun _ => q6) (fun _ => ?_)
  clear hK K
  try simp only [Act.put, List.setIfInBounds_toArray, List.set_cons_zero, List.set_cons_succ]
  refine wpL_one (i := 15) (by kernel_rfl) rfl (fun K hK => ?_)
  go_simp
  refine hK.out _ _ (fun hne => absurd rfl hne) (fun _ => ?_)
  clear hK K
  try simp only [Act.put, List.setIfInBounds_toArray, List.set_cons_zero, List.set_cons_succ]
  refine wpL_done (by kernel_rfl) ?_ _
  clear q6 f6
  generalize w6.setCell _ _ = W6 at *
  go_wp2_with fail
  go_ret
  obtain ⟨l1, l2, l3⟩ := HL.out
  refine ⟨rfl, some g6, RSent1.mk l1 HNB.out, l2, ?_⟩
  rcases l3 with h | h
  · exact .inl h
  · exact .inr ⟨g6, rfl, h⟩
end Go.Proofs.Ytjoikochpkfoaaa
