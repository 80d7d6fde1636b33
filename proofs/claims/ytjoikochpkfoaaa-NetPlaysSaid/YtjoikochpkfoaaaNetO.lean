/- Same, whatever it compares; what a step comes to. -/
import Derived.Test.YtjoikochpkfoaaaNetM
namespace Go.Proofs.Ytjoikochpkfoaaa
open Go.RowKit
set_option linter.unusedVariables false

theorem same_any (va vb : Value) (l r : List Int) (w : World) (ha : BytesC w va l) (hb : BytesC w vb r) (hn : l.length ≤ 1000000) :
    Calls Try.prog 11 #[va, vb] w fun e w' => e = .returned (.bool (l == r)) ∧ Below w.heap.size w w' := by
  obtain ⟨a, ca, hva, _⟩ := id ha
  obtain ⟨b, cb, hvb, _⟩ := id hb
  subst hva
  subst hvb
  have HA := Lib.hid ha
  have HB := Lib.hid hb
  clear ha hb
  by_cases hlr : l.length = r.length
  · have HLR := Lib.hid hlr
    rw [← hlr]
    have e0 : ((l.length : Int) != (l.length : Int)) = false := by simp
    clear hlr
    generalize hres : (l == r) = res
    have HRES := Lib.hid hres
    clear hres
    go_enter Try.func11, Try.ntmps11
    go_wp2_with fail
    clear e0
    go_loopw [13, 5] (fun i x wr => ∃ (j : Nat), j ≤ l.length ∧ i = .int .i64 j ∧ (∀ q, q < j → l[q]? = r[q]?) ∧ Below w.heap.size w wr) (fun i _ _ => l.length - (intOf i).toNat)
    case atStart => exact ⟨0, Nat.zero_le _, rfl, fun q hq => by omega, Below.refl _ _⟩
    case round =>
      obtain ⟨j, hj, rfl, heq, bel⟩ := hrel
      have BEL := Lib.hid bel
      have HEQ := Lib.hid heq
      clear heq
      by_cases hjl : j < l.length
      · obtain ⟨a2, ca2, e2, _, h2⟩ := HA.out.below bel
        obtain ⟨b2, cb2, e3, _, h3⟩ := HB.out.below bel
        have hjr : j < r.length := by have := HLR.out; omega
        obtain ⟨g, off, hgo, hg2, hc⟩ := h2 j hjl
        obtain ⟨g', off', hgo', hg2', hc'⟩ := h3 j hjr
        have q2 : a = a2 := by injection e2
        have q3 : b = b2 := by injection e3
        clear h2 h3 e2 e3
        subst q2
        subst q3
        subst hgo
        subst hgo'
        have hgl : l[j]? = some l[j] := List.getElem?_eq_getElem hjl
        have hgr : r[j]? = some r[j] := List.getElem?_eq_getElem hjr
        have HGL := Lib.hid hgl
        have HGR := Lib.hid hgr
        clear hgl hgr bel
        generalize l[j] = x at *
        generalize r[j] = y at *
        cases e0 : (x != y)
        · have hxy : x = y := by simpa using e0
          have HXY := Lib.hid hxy
          clear hxy
          go_wp2_with fail
          go_quiet (fail)
          go_wp2_with fail
          all_goals refine ⟨⟨j + 1, by omega, rfl, fun q hq => ?_, below_drewN BEL.out _⟩, by simp [intOf]; omega⟩
          all_goals
            rcases Nat.lt_or_ge q j with h | h
            · exact HEQ.out q h
            · have : q = j := by omega
              subst this
              rw [HGL.out, HGR.out, HXY.out]
        · have hne : res = false := by
            rw [← HRES.out]
            rw [beq_eq_false_iff_ne]
            rintro rfl
            have := HGL.out.symm.trans HGR.out
            cases this
            simp at e0
          have HNE := Lib.hid hne
          clear hne
          go_wp2_with fail
          go_quiet (fail)
          go_wp2_with fail
          go_ret
          exact ⟨by rw [HNE.out]; rfl, below_drewN BEL.out _⟩
      · have hall : res = true := by
          rw [← HRES.out, beq_iff_eq]
          apply List.ext_getElem?
          intro q
          rcases Nat.lt_or_ge q j with h | h
          · exact HEQ.out q h
          · rw [List.getElem?_eq_none (by omega), List.getElem?_eq_none (by have := HLR.out; omega)]
        have HALL := Lib.hid hall
        clear bel hall
        go_wp2_with fail
        go_ret
        exact ⟨by rw [HALL.out]; rfl, BEL.out⟩
  · have hres : (l == r) = false := by rw [beq_eq_false_iff_ne]; rintro rfl; exact hlr rfl
    rw [hres]
    have e0 : ((l.length : Int) != (r.length : Int)) = true := by rw [bne_iff_ne]; omega
    clear hres
    go_enter Try.func11, Try.ntmps11
    go_wp2_with fail
    go_ret
    exact ⟨rfl, Below.refl _ _⟩
end Go.Proofs.Ytjoikochpkfoaaa
