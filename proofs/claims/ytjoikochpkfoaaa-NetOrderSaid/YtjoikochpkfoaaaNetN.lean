/- NetOrder: the walk. -/
import Derived.Test.YtjoikochpkfoaaaNetM
namespace Go.Proofs.Ytjoikochpkfoaaa
open Go.RowKit
set_option linter.unusedVariables false

namespace Pl
/-- What was sent, from number m on. -/
def Sent (bs : Nat → List Int) (es : List Ent) (m : Nat) : Prop := ∀ j (h : j < es.length), (es[j]).frm = ((m + j : Nat) : Int) % 7 ∧ (es[j]).to = 7 ∧ (es[j]).bs = bs (m + j) ∧ (bs (m + j)).length ≤ 4096
theorem Sent.push {bs : Nat → List Int} {es : List Ent} {v : Value} (h : Sent bs es 0) (hl : (bs es.length).length ≤ 4096) : Sent bs (es ++ [⟨(es.length : Int) % 7, 7, v, bs es.length⟩]) 0 := by
  intro j hj
  by_cases hje : j < es.length
  · rw [List.getElem_append_left hje]; exact h j hje
  · have : j = es.length := by simp at hj; omega
    subst this
    rw [List.getElem_append_right (by omega)]
    simp
    exact hl
theorem Sent.tail {bs : Nat → List Int} {es : List Ent} {m : Nat} (h : Sent bs es m) : Sent bs (es.take 0 ++ es.drop (0 + 1)) (m + 1) := by
  intro j hj
  have hj' : j + 1 < es.length := by simp at hj; omega
  have e : (es.take 0 ++ es.drop (0 + 1))[j] = es[j + 1] := by simp
  rw [e, show m + 1 + j = m + (j + 1) from by omega]
  exact h (j + 1) hj'
theorem pair7 (k : Nat) : pair ((k : Int) % 7) 7 = true := by
  have h1 : 0 ≤ (k : Int) % 7 := by omega
  have h2 : (k : Int) % 7 < 7 := by omega
  unfold pair
  rw [show min ((k : Int) % 7) 7 = (k : Int) % 7 from by omega, show max ((k : Int) % 7) 7 = 7 from by omega]
  simp only [h1, decide_true, Bool.true_and]
  simp
  omega
theorem parted_nil (a b : Int) : parted [] a b = false := by unfold parted; simp [look]
end Pl

set_option maxRecDepth 100000 in
set_option maxHeartbeats 8000000 in
theorem order_walk (v0 : Value) (tw : Bool) (w : World) (hv : IsBodies w v0) :
    Calls Try.prog 3 #[v0, .bool tw] w fun e w' => e = .returned (.bool true) ∧ Below w.heap.size w w' := by
  obtain ⟨ao, len, cap, rfl, bs, hbs⟩ := hv
  by_cases hbig : 64 < len
  · clear hbs
    go_enter Try.func3, Try.ntmps3
    go_wp2_with fail
    refine (alive_ok w).mono ?_
    rintro e w2 ⟨rfl, hb⟩
    go_wp2
    go_ret
    exact ⟨rfl, hb⟩
  · have hlen : len ≤ 64 := by omega
    clear hbig
    have HBS := Lib.hid hbs
    clear hbs
    go_enter Try.func3, Try.ntmps3
    go_wp2_with fail
    refine (alive_ok w).mono ?_
    rintro e w2 ⟨rfl, hb2⟩
    go_wp2_with fail
    refine (new_net w2).mono ?_
    rintro e w3 ⟨rfl, hb3, A3⟩
    have hN1 : w.heap.size ≤ w2.heap.size + 1 := Nat.le_trans hb2.size (Nat.le_succ _)
    have hm1 : w.heap.size ≤ w2.heap.size := hb2.size
    have HB3 := Lib.hid (hb2.trans (hb3.mono hb2.size))
    have HA3 := Lib.hid A3
    clear hb2 hb3 A3
    generalize w2.heap.size + 1 = N at *
    generalize w2.heap.size = mb at *
    go_wp2_with fail
    go_loopw [24, 6, 7] (fun i x y wr => ∃ (k : Nat) (row : Option Nat) (es : List Pl.Ent), k ≤ len ∧ i = .int .i64 k ∧ NetAt wr N row mb es [] ∧ es.length = k ∧ Pl.Sent bs es 0 ∧ Below w.heap.size w wr) (fun i _ _ _ => len - (intOf i).toNat)
    case atStart => exact ⟨0, none, [], Nat.zero_le _, rfl, HA3.out, rfl, fun j hj => absurd hj (by simp), HB3.out⟩
    case round =>
      obtain ⟨k, row, es, hk, rfl, A, hel, hse, bel⟩ := hrel
      clear HA3 HB3
      by_cases hlt : k < len
      · obtain ⟨b, off, bv, rfl, hblk, hc, hB, hL⟩ := HBS.out k hlt
        have c0 : wr.cell? ⟨b, off + k, none⟩ = some bv := (bel.cell (p := ⟨b, off + k, none⟩) hblk).trans hc
        have hB' := hB.below bel
        obtain ⟨bao, bcap, hbv, _⟩ := id hB
        subst hbv
        have HA := Lib.hid A
        have HSE := Lib.hid hse
        have HBEL := Lib.hid bel
        have HBB := Lib.hid hB'
        have HP := Lib.hid (Pl.pair7 k)
        have HEL := Lib.hid hel
        have HBS' := Lib.hid HBS.out
        have hr : ∀ g, row = some g → w.heap.size ≤ g := fun g hg => by have := (A.row_lt g hg).1; omega
        have HR := Lib.hid hr
        clear A hse bel hB hB' hc hel HBS hr
        by_cases hlong : 4096 < (bs k).length
        · go_wp2_with fail
          refine (send_long N _ 7 bao _ bcap wr HP.out hlong).mono ?_
          rintro e w5 ⟨rfl, b5⟩
          have HB5 := Lib.hid (HBEL.out.trans (b5.mono HBEL.out.size))
          clear b5
          go_wp2_with fail
          go_ret
          exact ⟨rfl, HB5.out⟩
        · have hsh : (bs k).length ≤ 4096 := by omega
          have HSND := Lib.hid (send_ok N mb row es [] ((k : Int) % 7) 7 _ (bs k) wr HA.out HP.out HBB.out hsh (by have := HEL.out; omega))
          have HPU := Lib.hid (fun v => Pl.Sent.push (v := v) HSE.out (by rw [HEL.out]; exact hsh))
          go_wp2_with fail
          refine HSND.out.mono ?_
          rintro e w5 ⟨rfl, row5, v5, A5, t5, r5⟩
          have hs5 := HPU.out v5
          rw [HEL.out] at hs5
          have HS5 := Lib.hid hs5
          have HA5 := Lib.hid A5
          have HB5 := Lib.hid (t5.below HBEL.out hN1 hm1 HR.out)
          clear hs5 A5 t5 r5 HSND HA HSE HBEL HPU HBB
          have hl5 : (es ++ [(⟨(k : Int) % 7, 7, v5, bs k⟩ : Pl.Ent)]).length = k + 1 := by rw [List.length_append, HEL.out]; rfl
          have HL5 := Lib.hid hl5
          clear hl5
          generalize es ++ [(⟨(k : Int) % 7, 7, v5, bs k⟩ : Pl.Ent)] = es5 at *
          go_wp2_with fail
          refine (len_net N mb row5 es5 [] w5 HA5.out).mono ?_
          rintro e w6 ⟨rfl, rfl⟩
          rw [HL5.out]
          have e7 : (((k + 1 : Nat) : Int) != (k : Int) + 1) = false := by simp
          go_wp2_with fail
          all_goals exact ⟨⟨k + 1, row5, es5, by omega, rfl, HA5.out, HL5.out, HS5.out, HB5.out⟩, by simp [intOf]; omega⟩
      · obtain rfl : k = len := by omega
        rename World => wL
        have HA := Lib.hid A
        have HSE := Lib.hid hse
        have HBEL := Lib.hid bel
        have HEL := Lib.hid hel
        clear A hse bel hel hlt
        go_wp2_with fail
        go_loopw [54, 8, 9] (fun i x y wr => ∃ (m : Nat) (row : Option Nat) (es : List Pl.Ent), m ≤ k ∧ i = .int .i64 m ∧ NetAt wr N row mb es [] ∧ es.length = k - m ∧ Pl.Sent bs es m ∧ Below w.heap.size w wr) (fun i _ _ _ => k - (intOf i).toNat)
        case atStart => exact ⟨0, row, es, Nat.zero_le _, rfl, HA.out, by rw [HEL.out]; rfl, HSE.out, HBEL.out⟩
        case round =>
          obtain ⟨m, row2, es2, hm, rfl, A, hel, hse, bel⟩ := hrel
          clear HA HSE HBEL HEL
          by_cases hml : m < k
          · obtain ⟨b, off, bv, rfl, hblk, hc, hB, hL⟩ := HBS.out m hml
            have c0 : wr.cell? ⟨b, off + m, none⟩ = some bv := (bel.cell (p := ⟨b, off + m, none⟩) hblk).trans hc
            obtain ⟨bao, bcap, hbv, _⟩ := id hB
            subst hbv
            have h0 : 0 < es2.length := by omega
            obtain ⟨q1, q2, q3, q4⟩ := hse 0 h0
            rw [Nat.add_zero] at q1 q3 q4
            have hr : ∀ g, row2 = some g → w.heap.size ≤ g := fun g hg => by have := (A.row_lt g hg).1; omega
            have hp : Pl.parted [] (es2[0]).frm (es2[0]).to = false := Pl.parted_nil _ _
            have HBX := Lib.hid (fun (W : World) (hW : Below w.heap.size w W) => hB.below hW)
            have HSE := Lib.hid hse.tail
            have hn64 : es2.length ≤ 64 := by omega
            have HCP := Lib.hid (fun (W : World) (B : NetAt W N row2 mb es2 []) => copy_ok N mb 0 row2 es2 [] W B h0 hp (by rw [q3]; omega))
            have HTK := Lib.hid (fun (W : World) (B : NetAt W N row2 mb es2 []) => take_ok N mb 0 row2 es2 [] W B h0 hn64 hp (by rw [q3]; omega))
            rw [q1, q2, q3] at HCP HTK
            have htl : (es2.take 0 ++ es2.drop (0 + 1)).length = k - m - 1 := by simp; omega
            have HTL := Lib.hid htl
            have HEL := Lib.hid hel
            have HA := Lib.hid A
            have HBEL := Lib.hid bel
            have HR := Lib.hid hr
            have HM : Hid (((k - m : Nat) : Int) = (k : Int) - m) := Lib.hid (by omega)
            have HM1 : Hid (((k - m - 1 : Nat) : Int) = (k : Int) - m - 1) := Lib.hid (by omega)
            clear hB hc hse A bel hr hp q1 q2 q3 htl hel h0 hn64
            have e1 : ((m : Int) % 7 != (m : Int) % 7) = false := by simp
            have e2 : (((k : Int) - m) != ((k : Int) - m)) = false := by simp
            have e3 : (((k : Int) - m - 1) != ((k : Int) - m - 1)) = false := by simp
            generalize es2.take 0 ++ es2.drop (0 + 1) = es3 at *
            cases tw
            · go_wp2_with fail
              refine (HTK.out _ HA.out).mono ?_
              rintro e w5 ⟨v5, rfl, B5, row5, A5, t5, r5⟩
              obtain ⟨ao5, cp5, hv5, _⟩ := id B5
              subst hv5
              have bel5 := t5.below HBEL.out hN1 hm1 HR.out
              have bX : Below w5.heap.size w5 (w5.alloc (.cells #[.int .i64 ((m : Int) % 7), .int .i64 7, .slice ao5 (bs m).length cp5] 31)) := (Below.refl _ _).alloc (Nat.le_refl _) _
              have x0 : (w5.alloc (.cells #[.int .i64 ((m : Int) % 7), .int .i64 7, .slice ao5 (bs m).length cp5] 31)).cell? ⟨w5.heap.size, 0, none⟩ = some (.int .i64 ((m : Int) % 7)) := by rw [World.cell?_alloc_at _ _ _ _ rfl]; rfl
              have x1 : (w5.alloc (.cells #[.int .i64 ((m : Int) % 7), .int .i64 7, .slice ao5 (bs m).length cp5] 31)).cell? ⟨w5.heap.size, 1, none⟩ = some (.int .i64 7) := by rw [World.cell?_alloc_at _ _ _ _ rfl]; rfl
              have x2 : (w5.alloc (.cells #[.int .i64 ((m : Int) % 7), .int .i64 7, .slice ao5 (bs m).length cp5] 31)).cell? ⟨w5.heap.size, 2, none⟩ = some (.slice ao5 (bs m).length cp5) := by rw [World.cell?_alloc_at _ _ _ _ rfl]; rfl
              have BE5 := bel5.trans (bX.mono bel5.size)
              have HSM := Lib.hid (same_bytes _ _ (bs m) _ (B5.below bX).toC (HBX.out _ BE5) (by omega))
              have HA5 := Lib.hid (A5.below bX)
              have HB5 := Lib.hid BE5
              clear B5 A5 t5 r5 bel5 bX BE5 HTK HBX
              go_wp2_with fail
              generalize w5.alloc (.cells #[.int .i64 ((m : Int) % 7), .int .i64 7, .slice ao5 (bs m).length cp5] 31) = W5 at *
              refine HSM.out.mono ?_
              rintro e w6 ⟨rfl, b6⟩
              have HA6 := Lib.hid (HA5.out.below b6)
              have HB6 := Lib.hid (HB5.out.trans (b6.mono HB5.out.size))
              clear b6 HA5 HB5 HSM x0 x1 x2
              go_wp2_with fail
              refine (len_net N mb row5 es3 [] w6 HA6.out).mono ?_
              rintro e w7 ⟨rfl, rfl⟩
              rw [HTL.out, HM1.out]
              go_wp2_with fail
              all_goals exact ⟨⟨m + 1, row5, es3, by omega, rfl, HA6.out, by rw [HTL.out]; omega, HSE.out, HB6.out⟩, by simp [intOf]; omega⟩
            · go_wp2_with fail
              refine (HCP.out _ HA.out).mono ?_
              rintro e y5 ⟨u5, rfl, D5, d5⟩
              obtain ⟨ao6, cp6, hu5, _⟩ := id D5
              subst hu5
              have dX : Below y5.heap.size y5 (y5.alloc (.cells #[.int .i64 ((m : Int) % 7), .int .i64 7, .slice ao6 (bs m).length cp6] 31)) := (Below.refl _ _).alloc (Nat.le_refl _) _
              have y0 : (y5.alloc (.cells #[.int .i64 ((m : Int) % 7), .int .i64 7, .slice ao6 (bs m).length cp6] 31)).cell? ⟨y5.heap.size, 0, none⟩ = some (.int .i64 ((m : Int) % 7)) := by rw [World.cell?_alloc_at _ _ _ _ rfl]; rfl
              have y2 : (y5.alloc (.cells #[.int .i64 ((m : Int) % 7), .int .i64 7, .slice ao6 (bs m).length cp6] 31)).cell? ⟨y5.heap.size, 2, none⟩ = some (.slice ao6 (bs m).length cp6) := by rw [World.cell?_alloc_at _ _ _ _ rfl]; rfl
              have dd := d5.trans (dX.mono d5.size)
              have DE5 := HBEL.out.trans (dd.mono HBEL.out.size)
              have HSM := Lib.hid (same_bytes _ _ (bs m) _ (D5.below dX).toC (HBX.out _ DE5) (by omega))
              have HY5 := Lib.hid (HA.out.below dd)
              have HD5 := Lib.hid DE5
              clear D5 d5 dX dd DE5 HCP HA HBEL c0
              go_wp2_with fail
              generalize y5.alloc (.cells #[.int .i64 ((m : Int) % 7), .int .i64 7, .slice ao6 (bs m).length cp6] 31) = Y5 at *
              refine HSM.out.mono ?_
              rintro e y6 ⟨rfl, d6⟩
              have HY6 := Lib.hid (HY5.out.below d6)
              have HD6 := Lib.hid (HD5.out.trans (d6.mono HD5.out.size))
              clear d6 HY5 HD5 HSM y0 y2
              go_wp2_with fail
              refine (len_net N mb row2 es2 [] y6 HY6.out).mono ?_
              rintro e y7 ⟨rfl, rfl⟩
              rw [HEL.out, HM.out]
              go_wp2_with fail
              refine (HTK.out _ HY6.out).mono ?_
              rintro e w5 ⟨v5, rfl, B5, row5, A5, t5, r5⟩
              obtain ⟨ao5, cp5, hv5, _⟩ := id B5
              subst hv5
              have bel5 := t5.below HD6.out hN1 hm1 HR.out
              have bX : Below w5.heap.size w5 (w5.alloc (.cells #[.int .i64 ((m : Int) % 7), .int .i64 7, .slice ao5 (bs m).length cp5] 31)) := (Below.refl _ _).alloc (Nat.le_refl _) _
              have x0 : (w5.alloc (.cells #[.int .i64 ((m : Int) % 7), .int .i64 7, .slice ao5 (bs m).length cp5] 31)).cell? ⟨w5.heap.size, 0, none⟩ = some (.int .i64 ((m : Int) % 7)) := by rw [World.cell?_alloc_at _ _ _ _ rfl]; rfl
              have x1 : (w5.alloc (.cells #[.int .i64 ((m : Int) % 7), .int .i64 7, .slice ao5 (bs m).length cp5] 31)).cell? ⟨w5.heap.size, 1, none⟩ = some (.int .i64 7) := by rw [World.cell?_alloc_at _ _ _ _ rfl]; rfl
              have x2 : (w5.alloc (.cells #[.int .i64 ((m : Int) % 7), .int .i64 7, .slice ao5 (bs m).length cp5] 31)).cell? ⟨w5.heap.size, 2, none⟩ = some (.slice ao5 (bs m).length cp5) := by rw [World.cell?_alloc_at _ _ _ _ rfl]; rfl
              have BE5 := bel5.trans (bX.mono bel5.size)
              have HSM := Lib.hid (same_bytes _ _ (bs m) _ (B5.below bX).toC (HBX.out _ BE5) (by omega))
              have HA5 := Lib.hid (A5.below bX)
              have HB5 := Lib.hid BE5
              clear B5 A5 t5 r5 bel5 bX BE5 HTK HBX
              go_wp2_with fail
              generalize w5.alloc (.cells #[.int .i64 ((m : Int) % 7), .int .i64 7, .slice ao5 (bs m).length cp5] 31) = W5 at *
              refine HSM.out.mono ?_
              rintro e w6 ⟨rfl, b6⟩
              have HA6 := Lib.hid (HA5.out.below b6)
              have HB6 := Lib.hid (HB5.out.trans (b6.mono HB5.out.size))
              clear b6 HA5 HB5 HSM x0 x1 x2
              go_wp2_with fail
              refine (len_net N mb row5 es3 [] w6 HA6.out).mono ?_
              rintro e w7 ⟨rfl, rfl⟩
              rw [HTL.out, HM1.out]
              go_wp2_with fail
              all_goals exact ⟨⟨m + 1, row5, es3, by omega, rfl, HA6.out, by rw [HTL.out]; omega, HSE.out, HB6.out⟩, by simp [intOf]; omega⟩
          · obtain rfl : m = k := by omega
            have HA := Lib.hid A
            have HBEL := Lib.hid bel
            have hz : es2 = [] := List.eq_nil_of_length_eq_zero (by omega)
            subst hz
            clear A bel hse hel hml
            have HTN := Lib.hid (take_none N mb 0 row2 [] [] _ HA.out (.inr (by simp)))
            have hr : ∀ g, row2 = some g → w.heap.size ≤ g := fun g hg => by have := (HA.out.row_lt g hg).1; omega
            have HR := Lib.hid hr
            clear hr
            go_wp2_with fail
            refine HTN.out.mono ?_
            rintro e w5 ⟨v5, rfl, B5, row5, A5, t5, r5⟩
            obtain ⟨ao5, cp5, hv5, _⟩ := id B5
            subst hv5
            have bel5 := t5.below HBEL.out hN1 hm1 HR.out
            have HB5 := Lib.hid (bel5.alloc bel5.size (.cells #[.int .i64 0, .int .i64 0, .slice ao5 0 cp5] 31))
            clear B5 A5 t5 r5 bel5 HTN
            go_wp2_with fail
            go_ret
            exact ⟨rfl, HB5.out⟩
end Go.Proofs.Ytjoikochpkfoaaa
