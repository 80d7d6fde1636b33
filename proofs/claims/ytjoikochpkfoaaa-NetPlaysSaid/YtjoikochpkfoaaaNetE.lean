/- Send. -/
import Derived.Test.YtjoikochpkfoaaaNetD
namespace Go.Proofs.Ytjoikochpkfoaaa
open Go.RowKit
set_option linter.unusedVariables false

theorem send_arg (N : Nat) (a b : Int) (ao : Option Addr) (len cap : Nat) (w : World) (h : Pl.pair a b = false) :
    Calls Try.prog 8 #[.pointer (some ⟨N, 0, none⟩), .int .i64 a, .int .i64 b, .slice ao len cap] w fun e w' => e = .returned (.int .i64 2) ∧ Below w.heap.size w w' := by
  go_enter Try.func8, Try.ntmps8
  go_wp2_with fail
  refine (of_any a b _).mono ?_
  rintro e w1 ⟨rfl, b1⟩
  rw [h]
  have HB := Lib.hid b1
  clear b1
  go_wp2_with fail
  go_ret
  exact ⟨rfl, HB.out.alloc HB.out.size _⟩

theorem send_long (N : Nat) (a b : Int) (ao : Option Addr) (len cap : Nat) (w : World) (h : Pl.pair a b = true) (hl : 4096 < len) :
    Calls Try.prog 8 #[.pointer (some ⟨N, 0, none⟩), .int .i64 a, .int .i64 b, .slice ao len cap] w fun e w' => e = .returned (.int .i64 6) ∧ Below w.heap.size w w' := by
  go_enter Try.func8, Try.ntmps8
  go_wp2_with fail
  refine (of_any a b _).mono ?_
  rintro e w1 ⟨rfl, b1⟩
  rw [h]
  have HB := Lib.hid b1
  clear b1
  go_wp2_with fail
  go_ret
  exact ⟨rfl, HB.out.alloc HB.out.size _⟩

theorem send_full (N : Nat) (a b : Int) (ao ao' : Option Addr) (len cap cap' : Nat) (w : World) (h : Pl.pair a b = true) (hl : len ≤ 4096) (hN : N < w.heap.size) (c0 : w.cell? ⟨N, 0, none⟩ = some (.slice ao' 64 cap')) :
    Calls Try.prog 8 #[.pointer (some ⟨N, 0, none⟩), .int .i64 a, .int .i64 b, .slice ao len cap] w fun e w' => e = .returned (.int .i64 7) ∧ Below w.heap.size w w' := by
  have C0 := Lib.hid c0
  clear c0
  go_enter Try.func8, Try.ntmps8
  go_wp2_with fail
  refine (of_any a b _).mono ?_
  rintro e w1 ⟨rfl, b1⟩
  rw [h]
  have c1 := (b1.cell (p := ⟨N, 0, none⟩) hN).trans C0.out
  have hN1 : N < w1.heap.size := Nat.lt_of_lt_of_le hN b1.size
  have HB := Lib.hid b1
  clear b1
  go_wp2_with fail
  go_ret
  exact ⟨rfl, HB.out.alloc HB.out.size _⟩

theorem info31 : (Try.prog.info? 31).map (fun i => (i.zero, i.size, i.bytes)) = some (some (.agg #[.int .i64 0, .int .i64 0, .slice none 0 0]), 3, 40) := by kernel_rfl

theorem keepB_grown {w w' : World} {base n : Nat} {v : Value} {xs : List Value} (h : w.ownsRow base 31 3 v n xs) (hg : w.grownBy w' v.ownBlock) : KeepB w w' := fun g cs fr hc =>
  hg.block g (Array.getElem?_eq_some_iff.1 hc).1 (fun e => by
    obtain ⟨cs', hc'⟩ := own_cells h e.symm
    rw [hc'] at hc; cases hc)

/-- Behind the append and its store: from a world W in which only memory was made since w. -/
theorem net_late {w W w2 : World} {N mb g cap : Nat} {row : Option Nat} {es : List Pl.Ent} {T : Pl.Off} {e : Pl.Ent} {v : Value} (h : NetAt w N row mb es T) (hb : Below w.heap.size w W)
    (hr : W.rowIs N 59 2 (fun j => if j = 0 then v else .map (some mb))) (hv : v.ownBlock = row) (ho : W.ownsRow (N + 1) 31 3 v es.length (Pl.rows es)) (he : BytesT W e.bv e.bs)
    (hg : W.grownBy w2 v.ownBlock) (ho2 : w2.ownsRow (N + 1) 31 3 (.slice (some ⟨g, 0, none⟩) (es.length + 1) cap) (es.length + 1) (Pl.rows es ++ e.cells)) (hat : v.ownBlock = some g ∨ g = W.heap.size) :
    NetAt (w2.setCell ⟨N, 0, none⟩ (.slice (some ⟨g, 0, none⟩) (es.length + 1) cap)) N (some g) mb (es ++ [e]) T ∧ Turned w (w2.setCell ⟨N, 0, none⟩ (.slice (some ⟨g, 0, none⟩) (es.length + 1) cap)) N row mb ∧
      (some g = row ∨ w.heap.size ≤ g) := by
  have hNlt := h.lt
  have hmlt := h.mb_lt
  have hne := h.ne
  have hrne := h.row_ne
  have hs := hb.size
  have hs2 := hg.size
  have nN : some N ≠ v.ownBlock := fun e => by have := (ho.lt N e.symm).1; omega
  have nm : some mb ≠ v.ownBlock := fun e => hrne (by rw [← hv, ← e])
  have kN : w2.heap[N]? = W.heap[N]? := hg.block N (by omega) nN
  have km : w2.heap[mb]? = W.heap[mb]? := hg.block mb (by omega) nm
  have k1 : KeepB W w2 := keepB_grown ho hg
  have r2 : w2.rowIs N 59 2 (fun j => if j = 0 then v else .map (some mb)) := hr.of_block kN
  have k2 : KeepB w2 (w2.setCell ⟨N, 0, none⟩ (.slice (some ⟨g, 0, none⟩) (es.length + 1) cap)) := fun x cs fr hx => Below.heap_setCell _ _ _ _ (fun e => by
    obtain ⟨c, hc, _⟩ := r2
    change x = N at e
    subst e
    rw [hc] at hx; cases hx)
  refine ⟨⟨⟨.slice (some ⟨g, 0, none⟩) (es.length + 1) cap, (r2.set 0 _).congr (fun i hi => ?_), ?_, rfl⟩, (h.mp.of_block (hb.block mb hmlt)).of_block ((Below.heap_setCell _ _ _ _ (Ne.symm hne)).trans km), ?_⟩, ⟨?_, ?_, ?_⟩, ?_⟩
  · have : i = 0 ∨ i = 1 := by omega
    rcases this with rfl | rfl <;> rfl
  · rw [Pl.rows_append, Pl.rows_one, List.length_append]
    exact ownsRow_setCell_below ho2 (by show N < N + 1; omega) _
  · intro x hx
    rcases List.mem_append.1 hx with hx | hx
    · exact (((h.bodies x hx).below hb).keep k1).keep k2
    · obtain rfl := List.mem_singleton.1 hx
      exact (he.keep k1).keep k2
  · simp [World.setCell]; omega
  · intro i hi h1 h2 h3
    rw [Below.heap_setCell _ _ _ _ h1]
    exact (hg.block i (by omega) (by rw [hv]; exact h3)).trans (hb.block i hi)
  · exact ⟨hg.os.trans hb.os, hg.tape.trans hb.tape, hg.output.trans hb.output⟩
  · rcases hat with h1 | h1
    · exact .inl (by rw [← h1, hv])
    · exact .inr (by omega)

set_option maxHeartbeats 1000000 in
theorem send_ok (N mb : Nat) (row : Option Nat) (es : List Pl.Ent) (T : Pl.Off) (a b : Int) (v : Value) (bs : List Int) (w : World) (h : NetAt w N row mb es T) (hp : Pl.pair a b = true) (hbs : BytesC w v bs) (hl : bs.length ≤ 4096) (hn : es.length < 64) :
    Calls Try.prog 8 #[.pointer (some ⟨N, 0, none⟩), .int .i64 a, .int .i64 b, v] w fun e w' => e = .returned (.int .i64 0) ∧ ∃ row' v', NetAt w' N row' mb (es ++ [⟨a, b, v', bs⟩]) T ∧ Turned w w' N row mb ∧ (row' = row ∨ ∃ g, row' = some g ∧ w.heap.size ≤ g) := by
  obtain ⟨i0, hi, hz0, hz1, hz2⟩ := info_parts info31
  obtain ⟨ao, cap, hv, _⟩ := id hbs
  obtain ⟨lv, hr, ho, hlv⟩ := h.obj
  obtain ⟨lao, lcap, hlvs⟩ : ∃ lao lcap, lv = .slice lao es.length lcap := by
    rcases ho.2 with ⟨rfl, h0⟩ | ⟨g, cap, cur, e, _⟩
    · exact ⟨none, 0, by rw [h0]⟩
    · exact ⟨_, cap, e⟩
  have hNlt := h.lt
  have HH := Lib.hid h
  have HBS := Lib.hid hbs
  have HR := Lib.hid hr
  have HO := Lib.hid ho
  have HLV := Lib.hid hlv
  clear h hbs hr ho hlv
  subst hv
  have h64 : ((es.length : Int) == 64) = false := by rw [beq_eq_false_iff_ne]; omega
  go_enter Try.func8, Try.ntmps8
  go_wp2_with fail
  refine (of_any a b _).mono ?_
  rintro e w1 ⟨rfl, b1⟩
  rw [hp]
  have b2 : Below w.heap.size w (w1.alloc (.cells #[.int .i64 (min a b), .int .i64 (max a b)] 61)) := b1.alloc b1.size _
  have c1 : w1.cell? ⟨N, 0, none⟩ = some lv := (b1.cell (p := ⟨N, 0, none⟩) hNlt).trans (HR.out.cell (i := 0) (by decide))
  have hN1 : N < w1.heap.size := Nat.lt_of_lt_of_le hNlt b1.size
  have c2 : (w1.alloc (.cells #[.int .i64 (min a b), .int .i64 (max a b)] 61)).cell? ⟨N, 0, none⟩ = some lv := (World.cell?_alloc_lt _ _ _ hN1).trans c1
  rw [hlvs] at c1 c2
  have HB := Lib.hid b2
  clear b1 b2
  go_wp2_with fail
  clear c1 h64
  generalize w1.alloc (.cells #[.int .i64 (min a b), .int .i64 (max a b)] 61) = W at *
  refine wp_region_L (fun w' => w'.cell? ⟨N, 0, none⟩ = some (.slice lao es.length lcap)) 14 (by kernel_rfl) c2 (fun hHeld => ?_)
  refine wpL_takeAt (i := 0) 33 (v := ?va0) rfl (by kernel_rfl) (by kernel_rfl) (by kernel_rfl) (by kernel_rfl) (by kernel_rfl) (fun _ _ _ h => h) (Or.inl ⟨by rfl, ?ha0⟩) (by assumption) ?ra0
  case ha0 => intro w hSw; (try dsimp only at hSw); go_simp; (try with_reducible rfl)
  simp only [Act.put, List.setIfInBounds_toArray, List.set_cons_zero, List.set_cons_succ]
  refine wpL_takeAt (i := 1) 34 (v := ?va1) rfl (by kernel_rfl) (by kernel_rfl) (by kernel_rfl) (by kernel_rfl) (by kernel_rfl) (fun _ _ _ h => h) (Or.inl ⟨by rfl, ?ha1⟩) (by assumption) ?ra1
  case ha1 => intro w hSw; (try dsimp only at hSw); go_simp; (try with_reducible rfl)
  simp only [Act.put, List.setIfInBounds_toArray, List.set_cons_zero, List.set_cons_succ]
  refine wpL_takeAt (i := 2) 35 (v := ?va2) rfl (by kernel_rfl) (by kernel_rfl) (by kernel_rfl) (by kernel_rfl) (by kernel_rfl) (fun _ _ _ h => h) (Or.inl ⟨by rfl, ?ha2⟩) (by assumption) ?ra2
  case ha2 => intro w hSw; (try dsimp only at hSw); go_simp; (try with_reducible rfl)
  simp only [Act.put, List.setIfInBounds_toArray, List.set_cons_zero, List.set_cons_succ]
  refine wpL_takeAt (i := 3) 36 (v := ?va3) rfl (by kernel_rfl) (by kernel_rfl) (by kernel_rfl) (by kernel_rfl) (by kernel_rfl) (fun _ _ _ h => h) (Or.inl ⟨by rfl, ?ha3⟩) (by assumption) ?ra3
  case ha3 => intro w hSw; (try dsimp only at hSw); go_simp; (try with_reducible rfl)
  simp only [Act.put, List.setIfInBounds_toArray, List.set_cons_zero, List.set_cons_succ]
  refine wpL_takeAt (i := 4) 37 (v := ?va4) rfl (by kernel_rfl) (by kernel_rfl) (by kernel_rfl) (by kernel_rfl) (by kernel_rfl) (fun _ _ _ h => h) (Or.inl ⟨by rfl, ?ha4⟩) (by assumption) ?ra4
  case ha4 => intro w hSw; (try dsimp only at hSw); go_simp; (try with_reducible rfl)
  simp only [Act.put, List.setIfInBounds_toArray, List.set_cons_zero, List.set_cons_succ]
  refine wpL_takeAt (i := 5) 38 (v := ?va5) rfl (by kernel_rfl) (by kernel_rfl) (by kernel_rfl) (by kernel_rfl) (by kernel_rfl) (fun _ _ _ h => h) (Or.inl ⟨by rfl, ?ha5⟩) (by assumption) ?ra5
  case ha5 => intro w hSw; (try dsimp only at hSw); go_simp; (try with_reducible rfl)
  simp only [Act.put, List.setIfInBounds_toArray, List.set_cons_zero, List.set_cons_succ]
  refine wpL_takeAt (i := 6) 39 (v := ?va6) rfl (by kernel_rfl) (by kernel_rfl) (by kernel_rfl) (by kernel_rfl) (by kernel_rfl) (fun _ _ _ h => h) (Or.inl ⟨by rfl, ?ha6⟩) (by assumption) ?ra6
  case ha6 => intro w hSw; (try dsimp only at hSw); go_simp; (try with_reducible rfl)
  simp only [Act.put, List.setIfInBounds_toArray, List.set_cons_zero, List.set_cons_succ]
  refine wpL_takeAt (i := 7) 40 (v := ?va7) rfl (by kernel_rfl) (by kernel_rfl) (by kernel_rfl) (by kernel_rfl) (by kernel_rfl) (fun _ _ _ h => h) (Or.inl ⟨by rfl, ?ha7⟩) (by assumption) ?ra7
  case ha7 => intro w hSw; (try dsimp only at hSw); go_simp; (try with_reducible rfl)
  simp only [Act.put, List.setIfInBounds_toArray, List.set_cons_zero, List.set_cons_succ]
  refine wpL_takeAt (i := 8) 41 (v := ?va8) rfl (by kernel_rfl) (by kernel_rfl) (by kernel_rfl) (by kernel_rfl) (by kernel_rfl) (fun _ _ _ h => h) (Or.inl ⟨by rfl, ?ha8⟩) (by assumption) ?ra8
  case ha8 => intro w hSw; (try dsimp only at hSw); go_simp; (try with_reducible rfl)
  simp only [Act.put, List.setIfInBounds_toArray, List.set_cons_zero, List.set_cons_succ]
  clear hHeld
  refine wpL_one (i := 9) (by kernel_rfl) rfl (fun K hK => ?_)
  go_simp
  have HBd : Below w.heap.size w W.drew := HB.out.drew
  refine (own_any a b (.slice ao bs.length cap) bs _ (HBS.out.below HBd) (by omega)).mono ?_
  rintro e w3 ⟨v3, rfl, B3, b3⟩
  obtain ⟨ao3, cap3, hv3, _⟩ := id B3
  subst hv3
  have b3' := HBd.trans (b3.mono HBd.size)
  have q0 : w3.cell? ⟨N, 0, none⟩ = some lv := (b3'.cell (p := ⟨N, 0, none⟩) hNlt).trans (HR.out.cell (i := 0) (by decide))
  rw [hlvs] at q0
  have hN3 : N < w3.heap.size := Nat.lt_of_lt_of_le hNlt b3'.size
  have HB3 := Lib.hid b3'
  have HBT := Lib.hid B3
  clear HB b3 b3' B3 c2 HBd
  refine hK.out _ _ (fun _ => q0) (fun _ => ?o9)
  clear hK K
  try simp only [Act.put, List.setIfInBounds_toArray, List.set_cons_zero, List.set_cons_succ]
  refine wpL_one (i := 10) (by kernel_rfl) rfl (fun K hK => ?_)
  go_simp
  have q1 : (w3.alloc (.cells #[.int .i64 a, .int .i64 b, .slice ao3 bs.length cap3] 31)).cell? ⟨N, 0, none⟩ = some (.slice lao es.length lcap) := (World.cell?_alloc_lt _ _ _ hN3).trans q0
  refine hK.out _ _ (fun _ => q1) (fun _ => ?o10)
  clear hK K q0
  have HB4 := Lib.hid (HB3.out.alloc HB3.out.size (.cells #[.int .i64 a, .int .i64 b, .slice ao3 bs.length cap3] 31))
  have HNEW := Lib.hid (World.news_of_block (heap_alloc_new w3 (.cells #[.int .i64 a, .int .i64 b, .slice ao3 bs.length cap3] 31)))
  have OWN := Lib.hid (ownsRow_of HO.out (fun g hg => HB4.out.block g (HO.out.lt g hg).2))
  have HBT4 := Lib.hid (HBT.out.below ((Below.refl w3.heap.size w3).alloc (Nat.le_refl _) (.cells #[.int .i64 a, .int .i64 b, .slice ao3 bs.length cap3] 31)))
  have HR4 := Lib.hid (HR.out.of_block (HB4.out.block N hNlt))
  have hs4 : (w3.alloc (.cells #[.int .i64 a, .int .i64 b, .slice ao3 bs.length cap3] 31)).heap.size = w3.heap.size + 1 := by simp
  have HS4 := Lib.hid hs4
  have hone : ∀ u ∈ ([.int .i64 a, .int .i64 b, .slice ao3 bs.length cap3] : List Value), u.oneCell' = true := by
    intro u hu
    simp at hu
    rcases hu with rfl | rfl | rfl
    · rfl
    · rfl
    · rfl
  have H1 := Lib.hid hone
  clear hone hs4 HBT HB3
  have HLVS := Lib.hid hlvs
  have own4 := OWN.out
  rw [hlvs] at own4
  refine wpL_one (i := 11) (by kernel_rfl) rfl (fun K hK => ?_)
  (refine step_append_lies _ rfl (.tmp 37) (.tmp 43) 57 rfl (N + 1) 31 i0 (.agg #[.int .i64 0, .int .i64 0, .slice none 0 0]) 3 40 Try.underlying57 hi hz0 hz1 hz2 rfl (by decide) (.slice lao es.length lcap) es.length (Pl.rows es) rfl own4 ⟨w3.heap.size, 0, none⟩ 1 1 [.int .i64 a, .int .i64 b, .slice ao3 bs.length cap3] rfl rfl HNEW.out H1.out (by decide) (by unfold maxLen; omega) (by omega) (by simp; omega) (w3.heap.size + 1) HS4.out ?_; intro g5 cap5 w5 hown5 hgrow5 hat5 hlt5)
  clear own4
  rw [← HLVS.out] at hgrow5 hat5
  have L := net_late (e := ⟨a, b, .slice ao3 bs.length cap3, bs⟩) HH.out HB4.out HR4.out HLV.out OWN.out HBT4.out hgrow5 hown5 (by rw [HS4.out]; exact hat5)
  have nN : some N ≠ lv.ownBlock := fun e => by have := (HO.out.lt N e.symm).1; omega
  have kN : w5.heap[N]? = (w3.alloc (.cells #[.int .i64 a, .int .i64 b, .slice ao3 bs.length cap3] 31)).heap[N]? := hgrow5.block N (by rw [HS4.out]; omega) nN
  have q5 : w5.cell? ⟨N, 0, none⟩ = some (.slice lao es.length lcap) := (World.cell?_of_block kN).trans q1
  have f5 : w5.frozen? ⟨N, 0, none⟩ = false := (World.frozen?_of_block kN).trans (HR4.out.frozen 0)
  have HL := Lib.hid L
  clear L hown5 hgrow5 hat5 kN nN q1
  refine hK.out _ _ (fun _ => q5) (fun _ => ?o11)
  clear hK K
  try simp only [Act.put, List.setIfInBounds_toArray]
  refine wpL_one (i := 12) (by kernel_rfl) rfl (fun K hK => ?_)
  go_simp
  refine hK.out _ _ (fun _ => q5) (fun _ => ?o12)
  clear hK K
  try simp only [Act.put, List.setIfInBounds_toArray, List.set_cons_zero, List.set_cons_succ]
  refine wpL_one (i := 13) (by kernel_rfl) rfl (fun K hK => ?_)
  go_simp
  refine hK.out _ _ (fun _ => q5) (fun _ => ?o13)
  clear hK K
  try simp only [Act.put, List.setIfInBounds_toArray, List.set_cons_zero, List.set_cons_succ]
  refine wpL_one (i := 14) (by kernel_rfl) rfl (fun K hK => ?_)
  go_simp
  refine hK.out _ _ (fun hne => absurd rfl hne) (fun _ => ?o14)
  clear hK K
  try simp only [Act.put, List.setIfInBounds_toArray, List.set_cons_zero, List.set_cons_succ]
  refine wpL_done (by kernel_rfl) ?_ _
  clear q5 f5
  generalize w5.setCell _ _ = W6 at *
  go_wp2_with fail
  go_ret
  obtain ⟨l1, l2, l3⟩ := HL.out
  refine ⟨rfl, some g5, ⟨_, l1⟩, l2, ?_⟩
  rcases l3 with h | h
  · exact .inl h
  · exact .inr ⟨g5, rfl, h⟩
end Go.Proofs.Ytjoikochpkfoaaa
