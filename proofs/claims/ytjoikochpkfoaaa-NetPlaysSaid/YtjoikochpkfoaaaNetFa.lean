/- Copies that belong to the call that made them: Send. -/
import Derived.Test.YtjoikochpkfoaaaNetS
namespace Go.Proofs.Ytjoikochpkfoaaa
open Go.RowKit
set_option linter.unusedVariables false

/-- Bytes in a block that was made behind base. -/
def OwnB (base : Nat) (w : World) (v : Value) (bs : List Int) : Prop := w.ownsRow base 5 1 v bs.length (Pl.u8s bs)
theorem OwnB.toT {base : Nat} {w : World} {v : Value} {bs : List Int} (h : OwnB base w v bs) : BytesT w v bs := bytes_of h
theorem OwnB.keep {base : Nat} {w w' : World} {v : Value} {bs : List Int} (h : OwnB base w v bs) (k : KeepB w w') : OwnB base w' v bs := ownsRow_of h (fun g hg => by
  obtain ⟨cs, hc⟩ := own_cells h hg
  exact k g cs (0, 0) hc)
theorem OwnB.below {base : Nat} {w w' : World} {v : Value} {bs : List Int} (h : OwnB base w v bs) (hb : Below w.heap.size w w') : OwnB base w' v bs := h.keep (KeepB.of_below hb)
theorem OwnB.mono {base c : Nat} {w : World} {v : Value} {bs : List Int} (h : OwnB base w v bs) (hb : c ≤ base) : OwnB c w v bs :=
  ⟨h.1, h.2.imp id (fun ⟨g, cap, cur, e, h1, rest⟩ => ⟨g, cap, cur, e, Nat.le_trans hb h1, rest⟩)⟩
/-- Nothing that stood below base. -/
def NewB (base : Nat) (v : Value) : Prop := ∀ g, v.ownBlock = some g → base ≤ g
theorem OwnB.new {base : Nat} {w : World} {v : Value} {bs : List Int} (h : OwnB base w v bs) : NewB base v := fun g hg => (h.lt g hg).1
theorem NewB.mono {base c : Nat} {v : Value} (h : NewB base v) (hb : c ≤ base) : NewB c v := fun g hg => Nat.le_trans hb (h g hg)
theorem own_nil (base : Nat) (w : World) : OwnB base w (.slice none 0 0) [] := ⟨rfl, .inl ⟨rfl, rfl⟩⟩

theorem clone_some_o (ad : Addr) (cap : Nat) (bs : List Int) (w : World) (h : ∀ i (h : i < bs.length), ∃ g off, (some ad : Option Addr) = some ⟨g, off, none⟩ ∧ g < w.heap.size ∧ w.cell? ⟨g, off + i, none⟩ = some (.int .u8 bs[i])) (hn : bs.length ≤ 1000000) :
    Calls Try.prog 36 #[.slice (some ad) bs.length cap] w fun e w' => ∃ v', e = .returned v' ∧ OwnB w.heap.size w' v' bs ∧ Below w.heap.size w w' := by
  obtain ⟨i0, hi, hz0, hz1, hz2⟩ := info_parts info5
  have hnews : ∀ (o : Obj) j u, (Pl.u8s bs)[j]? = some u → (w.alloc o).cell? (ad.add j) = some u := fun o j u hj => by
    unfold Pl.u8s at hj
    rw [List.getElem?_map] at hj
    have hjl : j < bs.length := by
      rcases Nat.lt_or_ge j bs.length with h' | h'
      · exact h'
      · rw [List.getElem?_eq_none h'] at hj; cases hj
    rw [List.getElem?_eq_getElem hjl] at hj
    obtain ⟨g, off, h1, h2, h3⟩ := h j hjl
    cases h1
    rw [Go.WideShapes.add_plain]
    cases hj
    exact (World.cell?_alloc_lt _ _ _ (by exact h2)).trans h3
  have hown : (w.alloc (.cells #[] 5)).ownsRow w.heap.size 5 1 (.slice (some ⟨w.heap.size, 0, none⟩) 0 0) 0 [] :=
    ⟨rfl, .inr ⟨w.heap.size, 0, #[], rfl, Nat.le_refl _, heap_alloc_new w _, Nat.le_refl _, by decide, rfl, rfl⟩⟩
  have hB : Below w.heap.size w (w.alloc (.cells #[] 5)) := (Below.refl _ _).alloc (Nat.le_refl _) _
  have hcmp : ∀ w, (binOp BinOp.eql 26 (.slice (some ad) bs.length cap) (.slice none 0 0)).run Try.prog w = .ok (.bool false) w := fun _ => by kernel_rfl
  have hlen : (Pl.u8s bs).length = bs.length * 1 := by unfold Pl.u8s; simp
  have hone : ∀ u ∈ Pl.u8s bs, u.oneCell' = true := fun u hu => by
    unfold Pl.u8s at hu
    obtain ⟨b, _, rfl⟩ := List.mem_map.1 hu
    rfl
  have HN := Lib.hid hnews
  have HO := Lib.hid hown
  have HL := Lib.hid hlen
  have H1 := Lib.hid hone
  have HB := Lib.hid hB
  clear hnews hown h hlen hone hB
  go_enter Try.func36, Try.ntmps36
  go_wp2_with (at_builtin; refine wpList_append_src _ rfl (.tmp 5) (.tmp 6) 26 rfl w.heap.size 5 i0 (.int .u8 0) 1 1 Try.underlying26 hi hz0 hz1 hz2 rfl (by decide) (.slice (some ⟨w.heap.size, 0, none⟩) 0 0) 0 [] rfl HO.out (some ad) bs.length cap (Pl.u8s bs) rfl HL.out (by simp) (fun ad' had => by cases had; exact HN.out _) H1.out (by unfold maxLen; omega) (by omega) (by simp) ?_; intro v1 w1 hown1 hgrow1)
  go_ret
  refine ⟨v1, rfl, (show w1.ownsRow w.heap.size 5 1 v1 bs.length (Pl.u8s bs) from by simpa using hown1), HB.out.grown hgrow1 (by simp) (fun j hj => (HO.out.lt j hj).1)⟩

theorem clone_any_o (v : Value) (bs : List Int) (w : World) (h : BytesC w v bs) (hn : bs.length ≤ 1000000) :
    Calls Try.prog 36 #[v] w fun e w' => ∃ v', e = .returned v' ∧ OwnB w.heap.size w' v' bs ∧ Below w.heap.size w w' := by
  obtain ⟨ao, cap, rfl, h0, hc⟩ := h
  cases ao with
  | none =>
    obtain ⟨rfl, rfl⟩ := h0 rfl
    refine (clone_nil w).mono ?_
    rintro e w' ⟨rfl, rfl⟩
    exact ⟨_, rfl, own_nil _ _, Below.refl _ _⟩
  | some ad => exact clone_some_o ad cap bs w hc hn

theorem own_any_o (a b : Int) (v : Value) (bs : List Int) (w : World) (h : BytesC w v bs) (hn : bs.length ≤ 1000000) :
    Calls Try.prog 23 #[.agg #[.int .i64 a, .int .i64 b, v]] w fun e w' => ∃ v', e = .returned (.agg #[.int .i64 a, .int .i64 b, v']) ∧ OwnB w.heap.size w' v' bs ∧ Below w.heap.size w w' := by
  obtain ⟨ao, cap, hv⟩ : ∃ ao cap, v = .slice ao bs.length cap := by obtain ⟨ao, cap, e, _⟩ := h; exact ⟨ao, cap, e⟩
  have b0 : Below w.heap.size w ((w.alloc (.cells #[.int .i64 a, .int .i64 b, v] 31)).alloc (.cells #[.int .i64 0, .int .i64 0, .slice none 0 0] 31)) := ((Below.refl _ _).alloc (Nat.le_refl _) _).alloc (by simp) _
  have hlt : w.heap.size + 1 < ((w.alloc (.cells #[.int .i64 a, .int .i64 b, v] 31)).alloc (.cells #[.int .i64 0, .int .i64 0, .slice none 0 0] 31)).heap.size := by simp
  have x0 : ∀ j u, (#[.int .i64 a, .int .i64 b, v] : Array Value)[j]? = some u → ((w.alloc (.cells #[.int .i64 a, .int .i64 b, v] 31)).alloc (.cells #[.int .i64 0, .int .i64 0, .slice none 0 0] 31)).cell? ⟨w.heap.size, j, none⟩ = some u := fun j u hj => by
    rw [World.cell?_alloc_lt _ _ _ (by simp), World.cell?_alloc_at _ _ _ _ rfl]; simpa using hj
  have x1 : ∀ j u, (#[.int .i64 0, .int .i64 0, .slice none 0 0] : Array Value)[j]? = some u → ((w.alloc (.cells #[.int .i64 a, .int .i64 b, v] 31)).alloc (.cells #[.int .i64 0, .int .i64 0, .slice none 0 0] 31)).cell? ⟨w.heap.size + 1, j, none⟩ = some u := fun j u hj => by
    rw [World.cell?_alloc_at _ _ _ _ (by simp)]; simpa using hj
  have f0 : ∀ j, ((w.alloc (.cells #[.int .i64 a, .int .i64 b, v] 31)).alloc (.cells #[.int .i64 0, .int .i64 0, .slice none 0 0] 31)).frozen? ⟨w.heap.size, j, none⟩ = false := fun j => by simp
  have f1 : ∀ j, ((w.alloc (.cells #[.int .i64 a, .int .i64 b, v] 31)).alloc (.cells #[.int .i64 0, .int .i64 0, .slice none 0 0] 31)).frozen? ⟨w.heap.size + 1, j, none⟩ = false := fun j => by simp
  have HX0 := Lib.hid x0
  have HX1 := Lib.hid x1
  have HF0 := Lib.hid f0
  have HF1 := Lib.hid f1
  have HLT := Lib.hid hlt
  have HC := Lib.hid (clone_any_o v bs _ (h.below b0) hn)
  have HB0 := Lib.hid b0
  clear h b0 x0 x1 f0 f1 hlt
  subst hv
  go_enter Try.func23, Try.ntmps23
  go_wp2_with fail
  refine HC.out.mono ?_
  rintro e w1 ⟨v1, rfl, B1, b1⟩
  have hl := HLT.out
  have y0 := (b1.cell (p := ⟨w.heap.size, 0, none⟩) (by show w.heap.size < _; omega)).trans (HX0.out 0 _ rfl)
  have y1 := (b1.cell (p := ⟨w.heap.size, 1, none⟩) (by show w.heap.size < _; omega)).trans (HX0.out 1 _ rfl)
  have y2 := (b1.cell (p := ⟨w.heap.size, 2, none⟩) (by show w.heap.size < _; omega)).trans (HX0.out 2 _ rfl)
  have z0 := (b1.cell (p := ⟨w.heap.size + 1, 0, none⟩) hl).trans (HX1.out 0 _ rfl)
  have z1 := (b1.cell (p := ⟨w.heap.size + 1, 1, none⟩) hl).trans (HX1.out 1 _ rfl)
  have z2 := (b1.cell (p := ⟨w.heap.size + 1, 2, none⟩) hl).trans (HX1.out 2 _ rfl)
  have g2 := (b1.frozen (p := ⟨w.heap.size, 2, none⟩) (by show w.heap.size < _; omega)).trans (HF0.out 2)
  have k0 := (b1.frozen (p := ⟨w.heap.size + 1, 0, none⟩) hl).trans (HF1.out 0)
  have k1 := (b1.frozen (p := ⟨w.heap.size + 1, 1, none⟩) hl).trans (HF1.out 1)
  have k2 := (b1.frozen (p := ⟨w.heap.size + 1, 2, none⟩) hl).trans (HF1.out 2)
  obtain ⟨ao1, cap1, hv1, _⟩ := id B1.toT
  subst hv1
  have HB1 := Lib.hid (B1.mono (c := w.heap.size) (by simp; omega))
  have HB2 := Lib.hid (HB0.out.trans (b1.mono HB0.out.size))
  have t0 : w1.heap[w.heap.size]? = some (.cells #[.int .i64 a, .int .i64 b, .slice ao bs.length cap] 31) := (b1.block _ (by omega)).trans ((Below.heap_alloc _ _ _ (by simp)).trans (heap_alloc_new w _))
  have t1 : w1.heap[w.heap.size + 1]? = some (.cells #[.int .i64 0, .int .i64 0, .slice none 0 0] 31) := (b1.block _ hl).trans (by have := heap_alloc_new (w.alloc (.cells #[.int .i64 a, .int .i64 b, .slice ao bs.length cap] 31)) (.cells #[.int .i64 0, .int .i64 0, .slice none 0 0] 31); simpa using this)
  have T0 := Lib.hid t0
  have T1 := Lib.hid t1
  clear t0 t1 B1 b1 hl HX0 HX1 HF0 HF1 HLT HC HB0
  go_wp2_with fail
  have hB : Below w.heap.size w ((((w1.setCell ⟨w.heap.size, 2, none⟩ (.slice ao1 bs.length cap1)).setCell ⟨w.heap.size + 1, 0, none⟩ (.int .i64 a)).setCell ⟨w.heap.size + 1, 1, none⟩ (.int .i64 b)).setCell ⟨w.heap.size + 1, 2, none⟩ (.slice ao1 bs.length cap1)) :=
    (((HB2.out.setCell (p := ⟨w.heap.size, 2, none⟩) (Nat.le_refl _) _).setCell (p := ⟨w.heap.size + 1, 0, none⟩) (Nat.le_succ _) _).setCell (p := ⟨w.heap.size + 1, 1, none⟩) (Nat.le_succ _) _).setCell (p := ⟨w.heap.size + 1, 2, none⟩) (Nat.le_succ _) _
  have hK : KeepB w1 ((((w1.setCell ⟨w.heap.size, 2, none⟩ (.slice ao1 bs.length cap1)).setCell ⟨w.heap.size + 1, 0, none⟩ (.int .i64 a)).setCell ⟨w.heap.size + 1, 1, none⟩ (.int .i64 b)).setCell ⟨w.heap.size + 1, 2, none⟩ (.slice ao1 bs.length cap1)) :=
    keepB_of w.heap.size (w.heap.size + 1) (fun g h1 h2 => by
      rw [Below.heap_setCell _ _ _ _ h2, Below.heap_setCell _ _ _ _ h2, Below.heap_setCell _ _ _ _ h2, Below.heap_setCell _ _ _ _ h1]) (fun cs fr e => by rw [T0.out] at e; cases e) (fun cs fr e => by rw [T1.out] at e; cases e)
  have r0 : ((((w1.setCell ⟨w.heap.size, 2, none⟩ (.slice ao1 bs.length cap1)).setCell ⟨w.heap.size + 1, 0, none⟩ (.int .i64 a)).setCell ⟨w.heap.size + 1, 1, none⟩ (.int .i64 b)).setCell ⟨w.heap.size + 1, 2, none⟩ (.slice ao1 bs.length cap1)).cell? ⟨w.heap.size + 1, 0, none⟩ = some (.int .i64 a) := by
    rw [World.cell?_setCell_other _ _ _ _ (by simp), World.cell?_setCell_other _ _ _ _ (by simp)]
    exact World.cell?_setCell_same _ _ _ (by rw [World.cell?_setCell_other _ _ _ _ (by simp)]; exact z0)
  have r1 : ((((w1.setCell ⟨w.heap.size, 2, none⟩ (.slice ao1 bs.length cap1)).setCell ⟨w.heap.size + 1, 0, none⟩ (.int .i64 a)).setCell ⟨w.heap.size + 1, 1, none⟩ (.int .i64 b)).setCell ⟨w.heap.size + 1, 2, none⟩ (.slice ao1 bs.length cap1)).cell? ⟨w.heap.size + 1, 1, none⟩ = some (.int .i64 b) := by
    rw [World.cell?_setCell_other _ _ _ _ (by simp)]
    exact World.cell?_setCell_same _ _ _ (by rw [World.cell?_setCell_other _ _ _ _ (by simp), World.cell?_setCell_other _ _ _ _ (by simp)]; exact z1)
  have r2 : ((((w1.setCell ⟨w.heap.size, 2, none⟩ (.slice ao1 bs.length cap1)).setCell ⟨w.heap.size + 1, 0, none⟩ (.int .i64 a)).setCell ⟨w.heap.size + 1, 1, none⟩ (.int .i64 b)).setCell ⟨w.heap.size + 1, 2, none⟩ (.slice ao1 bs.length cap1)).cell? ⟨w.heap.size + 1, 2, none⟩ = some (.slice ao1 bs.length cap1) :=
    World.cell?_setCell_same _ _ _ (by rw [World.cell?_setCell_other _ _ _ _ (by simp), World.cell?_setCell_other _ _ _ _ (by simp), World.cell?_setCell_other _ _ _ _ (by simp)]; exact z2)
  generalize (((w1.setCell ⟨w.heap.size, 2, none⟩ (.slice ao1 bs.length cap1)).setCell ⟨w.heap.size + 1, 0, none⟩ (.int .i64 a)).setCell ⟨w.heap.size + 1, 1, none⟩ (.int .i64 b)).setCell ⟨w.heap.size + 1, 2, none⟩ (.slice ao1 bs.length cap1) = W at *
  exact bodyPost_ret (v := .agg #[.int .i64 a, .int .i64 b, .slice ao1 bs.length cap1]) (by simp [results, Try.results23, go_sem, r0, r1, r2]) rfl ⟨_, rfl, HB1.out.keep hK, hB⟩

/-- Sent: one packet more, its bytes in memory of their own. -/
def Sent1 (w' : World) (N mb : Nat) (row' : Option Nat) (es : List Pl.Ent) (T : Pl.Off) (a b : Int) (bs : List Int) (base : Nat) : Prop := ∃ v', NetAt w' N row' mb (es ++ [⟨a, b, v', bs⟩]) T ∧ NewB base v'
theorem Sent1.mk {w' : World} {N mb : Nat} {row' : Option Nat} {es : List Pl.Ent} {T : Pl.Off} {a b : Int} {bs : List Int} {base : Nat} {v' : Value} (h : NetAt w' N row' mb (es ++ [⟨a, b, v', bs⟩]) T) (hn : NewB base v') : Sent1 w' N mb row' es T a b bs base := ⟨v', h, hn⟩

set_option maxHeartbeats 1000000 in
theorem send_ok_o (N mb : Nat) (row : Option Nat) (es : List Pl.Ent) (T : Pl.Off) (a b : Int) (v : Value) (bs : List Int) (w : World) (h : NetAt w N row mb es T) (hp : Pl.pair a b = true) (hbs : BytesC w v bs) (hl : bs.length ≤ 4096) (hn : es.length < 64) :
    Calls Try.prog 8 #[.pointer (some ⟨N, 0, none⟩), .int .i64 a, .int .i64 b, v] w fun e w' => e = .returned (.int .i64 0) ∧ ∃ row', Sent1 w' N mb row' es T a b bs w.heap.size ∧ Turned w w' N row mb ∧ (row' = row ∨ ∃ g, row' = some g ∧ w.heap.size ≤ g) := by
  obtain ⟨i0, hi, hz0, hz1, hz2⟩ := info_parts info31
  obtain ⟨ao, cap, hv, _⟩ := id hbs
  obtain ⟨lv, hr, ho, hlv⟩ := h.obj
  obtain ⟨lao, lcap, hlvs⟩ : ∃ lao lcap, lv = .slice lao es.length lcap := by
    rcases ho.2 with ⟨rfl, h0⟩ | ⟨g, cap, cur, e, _⟩
    · exact ⟨none, 0, by rw [h0]⟩
    · exact ⟨_, cap, e⟩
  have hNlt := h.lt
  have HH := Lib.hid h
  have HBS := Lib.hid hbs
  have HR := Lib.hid hr
  have HO := Lib.hid ho
  have HLV := Lib.hid hlv
  clear h hbs hr ho hlv
  subst hv
  have h64 : ((es.length : Int) == 64) = false := by rw [beq_eq_false_iff_ne]; omega
  go_enter Try.func8, Try.ntmps8
  go_wp2_with fail
  refine (of_any a b _).mono ?_
  rintro e w1 ⟨rfl, b1⟩
  rw [hp]
  have b2 : Below w.heap.size w (w1.alloc (.cells #[.int .i64 (min a b), .int .i64 (max a b)] 61)) := b1.alloc b1.size _
  have c1 : w1.cell? ⟨N, 0, none⟩ = some lv := (b1.cell (p := ⟨N, 0, none⟩) hNlt).trans (HR.out.cell (i := 0) (by decide))
  have hN1 : N < w1.heap.size := Nat.lt_of_lt_of_le hNlt b1.size
  have c2 : (w1.alloc (.cells #[.int .i64 (min a b), .int .i64 (max a b)] 61)).cell? ⟨N, 0, none⟩ = some lv := (World.cell?_alloc_lt _ _ _ hN1).trans c1
  rw [hlvs] at c1 c2
  have HB := Lib.hid b2
  clear b1 b2
  go_wp2_with fail
  clear c1 h64
  generalize w1.alloc (.cells #[.int .i64 (min a b), .int .i64 (max a b)] 61) = W at *
  refine wp_region_L (fun w' => w'.cell? ⟨N, 0, none⟩ = some (.slice lao es.length lcap)) 14 (by kernel_rfl) c2 (fun hHeld => ?_)
  refine wpL_takeAt (i := 0) 33 (v := ?va0) rfl (by kernel_rfl) (by kernel_rfl) (by kernel_rfl) (by kernel_rfl) (by kernel_rfl) (fun _ _ _ h => h) (Or.inl ⟨by rfl, ?ha0⟩) (by assumption) ?ra0
  case ha0 => intro w hSw; (try dsimp only at hSw); go_simp; (try with_reducible rfl)
  simp only [Act.put, List.setIfInBounds_toArray, List.set_cons_zero, List.set_cons_succ]
  refine wpL_takeAt (i := 1) 34 (v := ?va1) rfl (by kernel_rfl) (by kernel_rfl) (by kernel_rfl) (by kernel_rfl) (by kernel_rfl) (fun _ _ _ h => h) (Or.inl ⟨by rfl, ?ha1⟩) (by assumption) ?ra1
  case ha1 => intro w hSw; (try dsimp only at hSw); go_simp; (try with_reducible rfl)
  simp only [Act.put, List.setIfInBounds_toArray, List.set_cons_zero, List.set_cons_succ]
  refine wpL_takeAt (i := 2) 35 (v := ?va2) rfl (by kernel_rfl) (by kernel_rfl) (by kernel_rfl) (by kernel_rfl) (by kernel_rfl) (fun _ _ _ h => h) (Or.inl ⟨by rfl, ?ha2⟩) (by assumption) ?ra2
  case ha2 => intro w hSw; (try dsimp only at hSw); go_simp; (try with_reducible rfl)
  simp only [Act.put, List.setIfInBounds_toArray, List.set_cons_zero, List.set_cons_succ]
  refine wpL_takeAt (i := 3) 36 (v := ?va3) rfl (by kernel_rfl) (by kernel_rfl) (by kernel_rfl) (by kernel_rfl) (by kernel_rfl) (fun _ _ _ h => h) (Or.inl ⟨by rfl, ?ha3⟩) (by assumption) ?ra3
  case ha3 => intro w hSw; (try dsimp only at hSw); go_simp; (try with_reducible rfl)
  simp only [Act.put, List.setIfInBounds_toArray, List.set_cons_zero, List.set_cons_succ]
  refine wpL_takeAt (i := 4) 37 (v := ?va4) rfl (by kernel_rfl) (by kernel_rfl) (by kernel_rfl) (by kernel_rfl) (by kernel_rfl) (fun _ _ _ h => h) (Or.inl ⟨by rfl, ?ha4⟩) (by assumption) ?ra4
  case ha4 => intro w hSw; (try dsimp only at hSw); go_simp; (try with_reducible rfl)
  simp only [Act.put, List.setIfInBounds_toArray, List.set_cons_zero, List.set_cons_succ]
  refine wpL_takeAt (i := 5) 38 (v := ?va5) rfl (by kernel_rfl) (by kernel_rfl) (by kernel_rfl) (by kernel_rfl) (by kernel_rfl) (fun _ _ _ h => h) (Or.inl ⟨by rfl, ?ha5⟩) (by assumption) ?ra5
  case ha5 => intro w hSw; (try dsimp only at hSw); go_simp; (try with_reducible rfl)
  simp only [Act.put, List.setIfInBounds_toArray, List.set_cons_zero, List.set_cons_succ]
  refine wpL_takeAt (i := 6) 39 (v := ?va6) rfl (by kernel_rfl) (by kernel_rfl) (by kernel_rfl) (by kernel_rfl) (by kernel_rfl) (fun _ _ _ h => h) (Or.inl ⟨by rfl, ?ha6⟩) (by assumption) ?ra6
  case ha6 => intro w hSw; (try dsimp only at hSw); go_simp; (try with_reducible rfl)
  simp only [Act.put, List.setIfInBounds_toArray, List.set_cons_zero, List.set_cons_succ]
  refine wpL_takeAt (i := 7) 40 (v := ?va7) rfl (by kernel_rfl) (by kernel_rfl) (by kernel_rfl) (by kernel_rfl) (by kernel_rfl) (fun _ _ _ h => h) (Or.inl ⟨by rfl, ?ha7⟩) (by assumption) ?ra7
  case ha7 => intro w hSw; (try dsimp only at hSw); go_simp; (try with_reducible rfl)
  simp only [Act.put, List.setIfInBounds_toArray, List.set_cons_zero, List.set_cons_succ]
  refine wpL_takeAt (i := 8) 41 (v := ?va8) rfl (by kernel_rfl) (by kernel_rfl) (by kernel_rfl) (by kernel_rfl) (by kernel_rfl) (fun _ _ _ h => h) (Or.inl ⟨by rfl, ?ha8⟩) (by assumption) ?ra8
  case ha8 => intro w hSw; (try dsimp only at hSw); go_simp; (try with_reducible rfl)
  simp only [Act.put, List.setIfInBounds_toArray, List.set_cons_zero, List.set_cons_succ]
  clear hHeld
  refine wpL_one (i := 9) (by kernel_rfl) rfl (fun K hK => ?_)
  go_simp
  have HBd : Below w.heap.size w W.drew := HB.out.drew
  refine (own_any_o a b (.slice ao bs.length cap) bs _ (HBS.out.below HBd) (by omega)).mono ?_
  rintro e w3 ⟨v3, rfl, B3, b3⟩
  obtain ⟨ao3, cap3, hv3, _⟩ := id B3.toT
  subst hv3
  have b3' := HBd.trans (b3.mono HBd.size)
  have q0 : w3.cell? ⟨N, 0, none⟩ = some lv := (b3'.cell (p := ⟨N, 0, none⟩) hNlt).trans (HR.out.cell (i := 0) (by decide))
  rw [hlvs] at q0
  have hN3 : N < w3.heap.size := Nat.lt_of_lt_of_le hNlt b3'.size
  have HB3 := Lib.hid b3'
  have HBT := Lib.hid B3.toT
  have HNB := Lib.hid (B3.new.mono HBd.size)
  clear HB b3 b3' B3 c2 HBd
  refine hK.out _ _ (fun _ => q0) (fun _ => ?o9)
  clear hK K
  try simp only [Act.put, List.setIfInBounds_toArray, List.set_cons_zero, List.set_cons_succ]
  refine wpL_one (i := 10) (by kernel_rfl) rfl (fun K hK => ?_)
  go_simp
  have q1 : (w3.alloc (.cells #[.int .i64 a, .int .i64 b, .slice ao3 bs.length cap3] 31)).cell? ⟨N, 0, none⟩ = some (.slice lao es.length lcap) := (World.cell?_alloc_lt _ _ _ hN3).trans q0
  refine hK.out _ _ (fun _ => q1) (fun _ => ?o10)
  clear hK K q0
  have HB4 := Lib.hid (HB3.out.alloc HB3.out.size (.cells #[.int .i64 a, .int .i64 b, .slice ao3 bs.length cap3] 31))
  have HNEW := Lib.hid (World.news_of_block (heap_alloc_new w3 (.cells #[.int .i64 a, .int .i64 b, .slice ao3 bs.length cap3] 31)))
  have OWN := Lib.hid (ownsRow_of HO.out (fun g hg => HB4.out.block g (HO.out.lt g hg).2))
  have HBT4 := Lib.hid (HBT.out.below ((Below.refl w3.heap.size w3).alloc (Nat.le_refl _) (.cells #[.int .i64 a, .int .i64 b, .slice ao3 bs.length cap3] 31)))
  have HR4 := Lib.hid (HR.out.of_block (HB4.out.block N hNlt))
  have hs4 : (w3.alloc (.cells #[.int .i64 a, .int .i64 b, .slice ao3 bs.length cap3] 31)).heap.size = w3.heap.size + 1 := by simp
  have HS4 := Lib.hid hs4
  have hone : ∀ u ∈ ([.int .i64 a, .int .i64 b, .slice ao3 bs.length cap3] : List Value), u.oneCell' = true := by
    intro u hu
    simp at hu
    rcases hu with rfl | rfl | rfl
    · rfl
    · rfl
    · rfl
  have H1 := Lib.hid hone
  clear hone hs4 HBT HB3
  have HLVS := Lib.hid hlvs
  have own4 := OWN.out
  rw [hlvs] at own4
  refine wpL_one (i := 11) (by kernel_rfl) rfl (fun K hK => ?_)
  (refine step_append_lies _ rfl (.tmp 37) (.tmp 43) 57 rfl (N + 1) 31 i0 (.agg #[.int .i64 0, .int .i64 0, .slice none 0 0]) 3 40 Try.underlying57 hi hz0 hz1 hz2 rfl (by decide) (.slice lao es.length lcap) es.length (Pl.rows es) rfl own4 ⟨w3.heap.size, 0, none⟩ 1 1 [.int .i64 a, .int .i64 b, .slice ao3 bs.length cap3] rfl rfl HNEW.out H1.out (by decide) (by unfold maxLen; omega) (by omega) (by simp; omega) (w3.heap.size + 1) HS4.out ?_; intro g5 cap5 w5 hown5 hgrow5 hat5 hlt5)
  clear own4
  rw [← HLVS.out] at hgrow5 hat5
  have L := net_late (e := ⟨a, b, .slice ao3 bs.length cap3, bs⟩) HH.out HB4.out HR4.out HLV.out OWN.out HBT4.out hgrow5 hown5 (by rw [HS4.out]; exact hat5)
  have nN : some N ≠ lv.ownBlock := fun e => by have := (HO.out.lt N e.symm).1; omega
  have kN : w5.heap[N]? = (w3.alloc (.cells #[.int .i64 a, .int .i64 b, .slice ao3 bs.length cap3] 31)).heap[N]? := hgrow5.block N (by rw [HS4.out]; omega) nN
  have q5 : w5.cell? ⟨N, 0, none⟩ = some (.slice lao es.length lcap) := (World.cell?_of_block kN).trans q1
  have f5 : w5.frozen? ⟨N, 0, none⟩ = false := (World.frozen?_of_block kN).trans (HR4.out.frozen 0)
  have HL := Lib.hid L
  clear L hown5 hgrow5 hat5 kN nN q1
  refine hK.out _ _ (fun _ => q5) (fun _ => ?o11)
  clear hK K
  try simp only [Act.put, List.setIfInBounds_toArray]
  refine wpL_one (i := 12) (by kernel_rfl) rfl (fun K hK => ?_)
  go_simp
  refine hK.out _ _ (fun _ => q5) (fun _ => ?o12)
  clear hK K
  try simp only [Act.put, List.setIfInBounds_toArray, List.set_cons_zero, List.set_cons_succ]
  refine wpL_one (i := 13) (by kernel_rfl) rfl (fun K hK => ?_)
  go_simp
  refine hK.out _ _ (fun _ => q5) (fun _ => ?o13)
  clear hK K
  try simp only [Act.put, List.setIfInBounds_toArray, List.set_cons_zero, List.set_cons_succ]
  refine wpL_one (i := 14) (by kernel_rfl) rfl (fun K hK => ?_)
  go_simp
  refine hK.out _ _ (fun hne => absurd rfl hne) (fun _ => ?o14)
  clear hK K
  try simp only [Act.put, List.setIfInBounds_toArray, List.set_cons_zero, List.set_cons_succ]
  refine wpL_done (by kernel_rfl) ?_ _
  clear q5 f5
  generalize w5.setCell _ _ = W6 at *
  go_wp2_with fail
  go_ret
  obtain ⟨l1, l2, l3⟩ := HL.out
  refine ⟨rfl, some g5, Sent1.mk l1 HNB.out, l2, ?_⟩
  rcases l3 with h | h
  · exact .inl h
  · exact .inr ⟨g5, rfl, h⟩

end Go.Proofs.Ytjoikochpkfoaaa
