/- FenceApart. -/
import Derived.Test.YtjkaegdlpmpneaaFenQ
namespace Go.Proofs.Ytjkaegdlpmpneaa
open Go.RowKit
set_option linter.unusedVariables false

/-- Two objects side by side. -/
structure Both (w0 w : World) (B1 B2 nA nB : Nat) (rA rB : Option Nat) (repA fenA repB fenB : Nat → Int) : Prop where
  a : ApiAt w B1 nA rA repA fenA
  b : ApiAt w B2 nB rB repB fenB
  ne : B1 ≠ B2
  n1 : rA ≠ some B2
  n2 : rB ≠ some B1
  nr : ∀ g, rA = some g → rB ≠ some g
  l1 : w0.heap.size ≤ B1
  l2 : w0.heap.size ≤ B2
  bel : Below w0.heap.size w0 w

theorem Both.swap {w0 w : World} {B1 B2 nA nB : Nat} {rA rB : Option Nat} {repA fenA repB fenB : Nat → Int} (h : Both w0 w B1 B2 nA nB rA rB repA fenA repB fenB) :
    Both w0 w B2 B1 nB nA rB rA repB fenB repA fenA :=
  ⟨h.b, h.a, h.ne.symm, h.n2, h.n1, fun g hg e => h.nr g e hg, h.l2, h.l1, h.bel⟩
theorem Both.below {w0 w w' : World} {B1 B2 nA nB : Nat} {rA rB : Option Nat} {repA fenA repB fenB : Nat → Int} (h : Both w0 w B1 B2 nA nB rA rB repA fenA repB fenB) (hb : Below w.heap.size w w') :
    Both w0 w' B1 B2 nA nB rA rB repA fenA repB fenB :=
  ⟨h.a.below hb, h.b.below hb, h.ne, h.n1, h.n2, h.nr, h.l1, h.l2, h.bel.trans (hb.mono h.bel.size)⟩
theorem Both.raise {w0 w : World} {B1 B2 nA nB m : Nat} {rA rB : Option Nat} {repA fenA repB fenB : Nat → Int} (h : Both w0 w B1 B2 nA nB rA rB repA fenA repB fenB) (hm : nB ≤ m) :
    Both w0 w B1 B2 nA m rA rB repA fenA repB fenB :=
  ⟨h.a, h.b.kept hm (Nat.le_refl _) rfl (fun _ _ => rfl), h.ne, h.n1, h.n2, h.nr, h.l1, h.l2, h.bel⟩
theorem Both.write {w0 w w' : World} {B1 B2 nA nB m : Nat} {rA rB rA' : Option Nat} {repA fenA repB fenB repA' fenA' : Nat → Int} (h : Both w0 w B1 B2 nA nB rA rB repA fenA repB fenB)
    (A : ApiAt w' B1 m rA' repA' fenA') (t : Turned w w' B1 rA) (hr : rA' = rA ∨ ∃ g, rA' = some g ∧ w.heap.size ≤ g) : Both w0 w' B1 B2 m nB rA' rB repA' fenA' repB fenB := by
  have hB := h.b.lt
  refine ⟨A, h.b.beside t h.ne.symm (fun e => h.n1 e.symm) h.n2 (fun g hg e => h.nr g e hg), h.ne, ?_, h.n2, ?_, h.l1, h.l2, t.below h.bel h.l1 (fun g hg => by have := h.a.row_lt g hg; have := h.l1; omega)⟩
  · rcases hr with rfl | ⟨g, rfl, hg⟩
    · exact h.n1
    · intro e; cases e; omega
  · rcases hr with rfl | ⟨g, rfl, hg⟩
    · exact h.nr
    · intro g' e e'
      cases e
      have := h.b.row_lt _ e'
      omega

/-- The cells of a step in memory. -/
structure BoxAt (w : World) (b : Nat) (x f r c : Int) : Prop where
  x : w.cell? ⟨b, 0, none⟩ = some (.int .i64 x)
  f : w.cell? ⟨b, 1, none⟩ = some (.int .i64 f)
  r : w.cell? ⟨b, 2, none⟩ = some (.int .i64 r)
  c : w.cell? ⟨b, 3, none⟩ = some (.int .i64 c)
theorem BoxAt.below {w w' : World} {b B : Nat} {x f r c : Int} (h : BoxAt w b x f r c) (hb : Below B w w') (hlt : b < B) : BoxAt w' b x f r c :=
  ⟨(hb.cell (p := ⟨b, 0, none⟩) hlt).trans h.x, (hb.cell (p := ⟨b, 1, none⟩) hlt).trans h.f, (hb.cell (p := ⟨b, 2, none⟩) hlt).trans h.r, (hb.cell (p := ⟨b, 3, none⟩) hlt).trans h.c⟩
theorem BoxAt.turned {w w' : World} {b B : Nat} {row : Option Nat} {x f r c : Int} (h : BoxAt w b x f r c) (t : Turned w w' B row) (hlt : b < w.heap.size) (h1 : b ≠ B) (h2 : some b ≠ row) : BoxAt w' b x f r c := by
  have e := t.same b hlt h1 h2
  exact ⟨(World.cell?_of_block e).trans h.x, (World.cell?_of_block e).trans h.f, (World.cell?_of_block e).trans h.r, (World.cell?_of_block e).trans h.c⟩
theorem BoxAt.new (w : World) (x f r c : Int) : BoxAt (w.alloc (.cells #[.int .i64 x, .int .i64 f, .int .i64 r, .int .i64 c] 27)) w.heap.size x f r c := by
  refine ⟨?_, ?_, ?_, ?_⟩ <;> (rw [World.cell?_alloc_at _ _ _ _ rfl]; rfl)

theorem u8_le {n : Int} (h : (Lit.int .u8 n).wf = true) : 0 ≤ n ∧ n ≤ 255 := by
  simpa [Lit.wf, IntKind.min, IntKind.max, IntKind.signed, IntKind.bits] using h

theorem code_same {fA fB : Nat → Int} {k : Nat} (h : fA k = fB k) (f r b : Int) : Pl.code fA k f r b = Pl.code fB k f r b := by
  unfold Pl.code; rw [show ((k : Int).toNat) = k from rfl, h]
theorem code_in {fA : Nat → Int} {x f r b : Int} (h : Pl.code fA x f r b = 0) : 0 ≤ x ∧ x ≤ 7 := by
  unfold Pl.code at h
  cases hi : Pl.inB x 0 7 with
  | false => rw [if_pos hi] at h; exact absurd h (by decide)
  | true => exact (Pl.inB_iff _ _ _).1 hi
theorem rep_other {rep fen : Nat → Int} {x f r b : Int} {k : Nat} (h : x ≠ k) : Pl.rep' rep fen x f r b k = rep k := by
  unfold Pl.rep'
  split
  · rename_i hc; have := code_in hc; unfold upd; rw [if_neg (by omega)]
  · rfl
theorem fen_other {rep fen : Nat → Int} {x f r b : Int} {k : Nat} (h : x ≠ k) : Pl.fen' fen x f r b k = fen k := by
  unfold Pl.fen'
  split
  · rename_i hc; have := code_in hc; unfold upd; rw [if_neg (by omega)]
  · rfl
theorem rep_no {rep fen : Nat → Int} {x f r b : Int} (h : Pl.code fen x f r b ≠ 0) : Pl.rep' rep fen x f r b = rep := by unfold Pl.rep'; rw [if_neg h]
theorem fen_no {fen : Nat → Int} {x f r b : Int} (h : Pl.code fen x f r b ≠ 0) : Pl.fen' fen x f r b = fen := by unfold Pl.fen'; rw [if_neg h]
theorem rep_same {rA rB fA fB : Nat → Int} {k : Nat} (h1 : rA k = rB k) (h2 : fA k = fB k) (f r b : Int) : Pl.rep' rA fA k f r b k = Pl.rep' rB fB k f r b k := by
  unfold Pl.rep'; rw [code_same h2]; split
  · unfold upd; rw [show ((k : Int).toNat) = k from rfl, if_pos rfl, if_pos rfl]
  · exact h1
theorem fen_same {fA fB : Nat → Int} {k : Nat} (h2 : fA k = fB k) (f r b : Int) : Pl.fen' fA k f r b k = Pl.fen' fB k f r b k := by
  unfold Pl.fen'; rw [code_same h2]; split
  · unfold upd; rw [show ((k : Int).toNat) = k from rfl, if_pos rfl, if_pos rfl, h2]
  · exact h2

set_option maxRecDepth 100000 in
set_option maxHeartbeats 4000000 in
theorem apart_walk (v : Value) (a1 : Int) (w : World) (hv : IsOps w v) (w1 : (Lit.int .u8 a1).wf = true) :
    Calls Try.prog 3 #[v, .int .u8 a1] w fun e w' => e = .returned (.bool true) ∧ Below w.heap.size w w' := by
  have wf := u8_le w1
  obtain ⟨own, hown, ho7⟩ : ∃ k : Nat, a1 % 8 = k ∧ k < 8 := ⟨(a1 % 8).toNat, by omega, by omega⟩
  have hrem : a1.tmod 8 = own := by rw [Int.tmod_eq_emod_of_nonneg wf.1]; exact hown
  rcases hv with ⟨a, cap, rfl⟩ | ⟨b, off, len, cap, z, rfl, hpos, hblk, hlc, hcm, hc, hwz⟩
  · go_enter Try.func3, Try.ntmps3
    go_wp2_with fail
    refine (alive_ok w).mono ?_
    rintro e w2 ⟨rfl, hb2⟩
    go_wp2_with fail
    refine (new_any w2).mono ?_
    rintro e w3 ⟨rfl, hb3, hs3, A3⟩
    go_wp2_with fail
    refine (new_any w3).mono ?_
    rintro e w4 ⟨rfl, hb4, hs4, B4⟩
    have A4 := A3.below hb4
    have hs2 := hb2.size
    have bel4 : Below w.heap.size w w4 := (hb2.trans (hb3.mono hs2)).trans (hb4.mono (by omega))
    have both4 : Both w w4 w2.heap.size w3.heap.size 0 0 none none (fun _ => 0) (fun _ => 0) (fun _ => 0) (fun _ => 0) :=
      ⟨A4, B4, by omega, by simp, by simp, fun g hg => by simp at hg, by omega, by omega, bel4⟩
    clear hs3 hs4 hb2 hb3 hb4 A3 A4 B4 bel4 hs2
    generalize w2.heap.size = B1 at *
    generalize w3.heap.size = B2 at *
    have HB := Lib.hid both4
    clear both4
    go_wp2_with fail
    refine wp_loop_rounds 1 ?_
    rw [rounds_succ]
    go_wp2_with fail
    refine (read_any B1 own 0 none _ _ w4 ho7 HB.out.a).mono ?_
    rintro e v1 ⟨rfl, b1⟩
    have BT1 := HB.out.below b1
    have HB1 := Lib.hid BT1
    clear HB BT1 b1
    go_wp2_with fail
    refine (read_any B2 own 0 none _ _ v1 ho7 HB1.out.b).mono ?_
    rintro e v2 ⟨rfl, b2⟩
    have BT2 := HB1.out.below b2
    have bel := BT2.bel
    clear HB1 BT2 b2
    go_wp2_with fail
    all_goals go_ret
    all_goals exact ⟨rfl, bel⟩
  · by_cases hbig : 250 < len
    · go_enter Try.func3, Try.ntmps3
      go_wp2_with fail
      refine (alive_ok w).mono ?_
      rintro e w2 ⟨rfl, hb⟩
      go_wp2
      go_ret
      exact ⟨rfl, hb⟩
    · have hlen : len ≤ 250 := by omega
      clear hbig
      go_enter Try.func3, Try.ntmps3
      go_wp2_with fail
      refine (alive_ok w).mono ?_
      rintro e w2 ⟨rfl, hb2⟩
      go_wp2_with fail
      refine (new_any w2).mono ?_
      rintro e w3 ⟨rfl, hb3, hs3, A3⟩
      go_wp2_with fail
      refine (new_any w3).mono ?_
      rintro e w4 ⟨rfl, hb4, hs4, B4⟩
      have A4 := A3.below hb4
      have hs2 := hb2.size
      have bel4 : Below w.heap.size w w4 := (hb2.trans (hb3.mono hs2)).trans (hb4.mono (by omega))
      have both4 : Both w w4 w2.heap.size w3.heap.size 0 0 none none (fun _ => 0) (fun _ => 0) (fun _ => 0) (fun _ => 0) :=
        ⟨A4, B4, by omega, by simp, by simp, fun g hg => by simp at hg, by omega, by omega, bel4⟩
      clear hs3 hs4 hb2 hb3 hb4 A3 A4 B4 bel4 hs2
      generalize w2.heap.size = B1 at *
      generalize w3.heap.size = B2 at *
      have HB4 := Lib.hid both4
      clear both4
      go_wp2_with fail
      go_loopw [35] (fun i wr => ∃ (k : Nat) (rA rB : Option Nat) (repA fenA repB fenB : Nat → Int), k ≤ len ∧ i = .int .i64 k ∧ Both w wr B1 B2 k k rA rB repA fenA repB fenB ∧ repA own = repB own ∧ fenA own = fenB own) (fun i _ => len - (intOf i).toNat)
      case atStart => exact ⟨0, none, none, _, _, _, _, Nat.zero_le _, rfl, HB4.out, rfl, rfl⟩
      case round =>
        obtain ⟨k, rA, rB, repA, fenA, repB, fenB, hk, rfl, BT, er, ef⟩ := hrel
        have hbel := BT.bel
        have ER := Lib.hid er
        have EF := Lib.hid ef
        clear HB4 er ef
        by_cases hlt : k < len
        · have hx : ∀ j, j < 4 → wr.cell? ⟨b, off + (k * 4 + j), none⟩ = some (.int .i64 (z k j)) := fun j hj => (hbel.cell (by exact hblk)).trans (hc k j hlt hj)
          have hx0 : wr.cell? ⟨b, off + k * 4, none⟩ = some (.int .i64 (z k 0)) := hx 0 (by decide)
          have hx1 : wr.cell? ⟨b, off + k * 4 + 1, none⟩ = some (.int .i64 (z k 1)) := by rw [Nat.add_assoc]; exact hx 1 (by decide)
          have hx2 : wr.cell? ⟨b, off + k * 4 + 2, none⟩ = some (.int .i64 (z k 2)) := by rw [Nat.add_assoc]; exact hx 2 (by decide)
          have hx3 : wr.cell? ⟨b, off + k * 4 + 3, none⟩ = some (.int .i64 (z k 3)) := by rw [Nat.add_assoc]; exact hx 3 (by decide)
          clear hc hwz hx
          generalize z k 0 = x at *
          generalize z k 1 = f at *
          generalize z k 2 = r at *
          generalize z k 3 = c at *
          have BX1 := BoxAt.new wr x f r c
          have BT1 := BT.below (w' := wr.alloc (.cells #[.int .i64 x, .int .i64 f, .int .i64 r, .int .i64 c] 27)) ((Below.refl _ _).alloc (Nat.le_refl _) _)
          have ls1 : wr.heap.size < (wr.alloc (.cells #[.int .i64 x, .int .i64 f, .int .i64 r, .int .i64 c] 27)).heap.size := by simp
          have hB1 := BT.a.lt
          have hB2 := BT.b.lt
          have hrA : some wr.heap.size ≠ rA := fun e => by have := BT.a.row_lt _ e.symm; omega
          have hrB : some wr.heap.size ≠ rB := fun e => by have := BT.b.row_lt _ e.symm; omega
          have HBT := Lib.hid BT1
          clear BT1 BT hbel
          go_wp2_with fail
          generalize wr.alloc (.cells #[.int .i64 x, .int .i64 f, .int .i64 r, .int .i64 c] 27) = v1 at *
          refine (read_any B1 own k rA repA fenA v1 ho7 HBT.out.a).mono ?_
          rintro e v2 ⟨rfl, b2⟩
          have BT2 := HBT.out.below b2
          have BX2 := BX1.below b2 ls1
          have ls2 : wr.heap.size < v2.heap.size := Nat.lt_of_lt_of_le ls1 b2.size
          have HBT2 := Lib.hid BT2
          clear HBT BX1 b2 ls1 BT2 hx0 hx1 hx2 hx3
          obtain ⟨y0, y1, y2, y3⟩ := id BX2
          go_wp2_with fail
          refine (write_any B1 k rA repA fenA x f r c v2 HBT2.out.a (by omega)).mono ?_
          rintro e v3 ⟨rfl, rA', A3, t3, r3⟩
          have BT3 := HBT2.out.write A3 t3 r3
          have BX3 := BX2.turned t3 ls2 (by omega) hrA
          have ls3 : wr.heap.size < v3.heap.size := Nat.lt_of_lt_of_le ls2 t3.size
          have HBT3 := Lib.hid BT3
          clear HBT2 BX2 ls2 BT3 A3 t3 r3 y0 y1 y2 y3
          go_wp2_with fail
          refine (read_any B1 own (k + 1) rA' _ _ v3 ho7 HBT3.out.a).mono ?_
          rintro e v4 ⟨rfl, b4⟩
          have BT4 := HBT3.out.below b4
          have BX4 := BX3.below b4 ls3
          have ls4 : wr.heap.size < v4.heap.size := Nat.lt_of_lt_of_le ls3 b4.size
          have HBT4 := Lib.hid BT4
          clear HBT3 BX3 b4 ls3 BT4
          obtain ⟨y0, y1, y2, y3⟩ := id BX4
          by_cases hxo : x = own
          · subst hxo
            have hqb := code_same (k := own) EF.out f r c
            by_cases hq : Pl.code fenA own f r c = 0
            · have HQ := Lib.hid (hqb.symm.trans hq)
              have HR := Lib.hid (rep_same ER.out EF.out f r c)
              have HF := Lib.hid (fen_same EF.out f r c)
              rw [hq]
              clear hqb hq
              generalize Pl.rep' repA fenA own f r c = repA' at *
              generalize Pl.fen' fenA own f r c = fenA' at *
              go_wp2_with fail
              refine (write_any B2 k rB repB fenB own f r c v4 HBT4.out.b (by omega)).mono ?_
              rintro e v5 ⟨rfl, rB', B5, t5, r5⟩
              rw [HQ.out]
              have BT5 := Lib.hid (HBT4.out.swap.write B5 t5 r5).swap
              clear HBT4 BX4 y0 y1 y2 y3 B5 t5 r5
              go_wp2_with fail
              all_goals exact ⟨⟨k + 1, _, _, _, _, _, _, by omega, rfl, BT5.out, HR.out, HF.out⟩, by simp [intOf]; omega⟩
            · have HQ := Lib.hid hqb.symm
              have HR := Lib.hid (rep_same ER.out EF.out f r c)
              have HF := Lib.hid (fen_same EF.out f r c)
              have HN := Lib.hid (rep_no (rep := repA) hq)
              have HM := Lib.hid (fen_no hq)
              have hn : (Pl.code fenA own f r c != 0) = true := bne_iff_ne.2 hq
              rw [rep_no hq, fen_no hq]
              have e1 : (repA own != repA own) = false := by simp
              have e2 : (fenA own != fenA own) = false := by simp
              clear hqb
              generalize Pl.rep' repA fenA own f r c = repA' at *
              generalize Pl.fen' fenA own f r c = fenA' at *
              generalize Pl.code fenA own f r c = q at *
              go_wp2_with fail
              refine (write_any B2 k rB repB fenB own f r c v4 HBT4.out.b (by omega)).mono ?_
              rintro e v5 ⟨rfl, rB', B5, t5, r5⟩
              rw [HQ.out]
              have e3 : (q != q) = false := by simp
              have BT5 := Lib.hid (HBT4.out.swap.write B5 t5 r5).swap
              clear HBT4 BX4 y0 y1 y2 y3 B5 t5 r5
              go_wp2_with fail
              all_goals exact ⟨⟨k + 1, _, _, _, _, _, _, by omega, rfl, BT5.out, HR.out, HF.out⟩, by simp [intOf]; omega⟩
          · rw [rep_other hxo, fen_other (rep := repA) hxo]
            have hxn : (x == (own : Int)) = false := beq_eq_false_iff_ne.2 hxo
            have hxb : (x != (own : Int)) = true := bne_iff_ne.2 hxo
            have e1 : (repA own != repA own) = false := by simp
            have e2 : (fenA own != fenA own) = false := by simp
            have HR := Lib.hid ((rep_other (rep := repA) (fen := fenA) (f := f) (r := r) (b := c) hxo).trans ER.out)
            have HF := Lib.hid ((fen_other (rep := repA) (fen := fenA) (f := f) (r := r) (b := c) hxo).trans EF.out)
            clear hxo
            generalize Pl.rep' repA fenA x f r c = repA' at *
            generalize Pl.fen' fenA x f r c = fenA' at *
            generalize Pl.code fenA x f r c = q at *
            have BT5 := Lib.hid (HBT4.out.raise (m := k + 1) (by omega))
            go_wp2_with fail
            all_goals exact ⟨⟨k + 1, _, _, _, _, _, _, by omega, rfl, BT5.out, HR.out, HF.out⟩, by simp [intOf]; omega⟩
        · have HB := Lib.hid BT
          clear BT hc hwz hbel
          go_wp2_with fail
          refine (read_any B1 own k rA _ _ wr ho7 HB.out.a).mono ?_
          rintro e v1 ⟨rfl, b1⟩
          have BT1 := HB.out.below b1
          have HB1 := Lib.hid BT1
          clear HB BT1 b1
          go_wp2_with fail
          refine (read_any B2 own k rB _ _ v1 ho7 HB1.out.b).mono ?_
          rintro e v2 ⟨rfl, b2⟩
          have BT2 := HB1.out.below b2
          have bel := BT2.bel
          clear HB1 BT2 b2
          rw [ER.out, EF.out]
          have e1 : (repB own == repB own) = true := by simp
          have e2 : (fenB own == fenB own) = true := by simp
          go_wp2_with fail
          all_goals go_ret
          all_goals exact ⟨rfl, bel⟩
end Go.Proofs.Ytjkaegdlpmpneaa
