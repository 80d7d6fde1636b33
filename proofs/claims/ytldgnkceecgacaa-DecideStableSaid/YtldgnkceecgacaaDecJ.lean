/- The walks of DecideStable and DecideBounds. -/
import Derived.Test.YtldgnkceecgacaaDecI
import Derived.Test.YtldgnkceecgacaaDecPlainB
namespace Go.Proofs.Ytldgnkceecgacaa
open Go.RowKit Go.ChangeShapes Go.WideShapes
set_option linter.unusedVariables false

/-- What the walk is told of a slice of integers that came in. -/
def IsRow (k : IntKind) (w : World) (a : Option Addr) (len cap : Nat) (zs : List Int) : Prop :=
  (a = none ∧ len = 0 ∧ cap = 0 ∧ zs = []) ∨
  ∃ x, a = some x ∧ len ≤ cap ∧ cap ≤ maxLen ∧ zs.length = cap ∧ (∀ i, i < zs.length → w.cell? (x.add i) = some (.int k (zs.getD i 0))) ∧ ∀ n ∈ zs, (Lit.int k n).wf = true
theorem row_ints {w : World} {ao : Option Addr} {len cap : Nat} {zs : List Int} (h : IsRow .i64 w ao len cap zs) : ∃ xs : List Int, xs.length = len ∧ IntsAt w ao cap xs := by
  rcases h with ⟨rfl, rfl, rfl, rfl⟩ | ⟨x, rfl, hl, hm, hz, hcell, hwz⟩
  · exact ⟨[], rfl, fun _ => ⟨rfl, rfl⟩, fun h => absurd h (by decide)⟩
  · have hlen : (zs.take len).length = len := by rw [List.length_take]; omega
    refine ⟨zs.take len, hlen, (fun h => by cases h), fun hp => ?_⟩
    obtain ⟨b, off, rfl, hc⟩ := ints_at hcell (by omega)
    refine ⟨b, off, rfl, World.block_lt_of_cell? _ _ (hc 0 (by omega)), fun j hj => ?_⟩
    have hj' : j < zs.length := by omega
    rw [hc j hj', List.getD_eq_getElem?_getD, List.getElem?_eq_getElem hj', List.getElem_take]
    rfl
theorem owns_ints {w : World} {base : Nat} {v : Value} {zs : List Int} (h : w.ownsRow base 3 1 v zs.length (zs.map (Value.int .i64))) : ∃ ao cap, v = .slice ao zs.length cap ∧ IntsAt w ao cap zs := by
  have h' := h
  have hlt := h.lt
  rcases h.2 with ⟨rfl, h0⟩ | ⟨g, cap, cur, rfl, _⟩
  · exact ⟨none, 0, by rw [h0], fun _ => ⟨h0, rfl⟩, fun hp => by omega⟩
  · refine ⟨some ⟨g, 0, none⟩, cap, rfl, (fun h => by cases h), fun hp => ⟨g, 0, rfl, (hlt g rfl).2, fun j hj => ?_⟩⟩
    rw [Nat.zero_add, h'.cellAt j (by omega)]
    simp [hj]

set_option maxHeartbeats 1000000 in
theorem dstable_walk (ao : Option Addr) (len cap : Nat) (z : List Int) (want now : Int) (w : World) (hr : IsRow .i64 w ao len cap z) (ww : (Lit.int .i64 want).wf = true) (wn : (Lit.int .i64 now).wf = true) :
    Calls Try.prog 9 #[.slice ao len cap, .int .i64 want, .int .i64 now] w fun e w' => e = .returned (.bool true) ∧ Below w.heap.size w w' := by
  obtain ⟨zs, rfl, hz⟩ := row_ints hr
  clear hr ww wn
  by_cases hbig : 1000 < zs.length
  · clear hz
    go_enter Try.func9, Try.ntmps9
    go_wp2_with fail
    refine (alive11_any _).mono ?_
    rintro e w1 ⟨rfl, hb1⟩
    go_wp2
    go_ret
    exact ⟨rfl, hb1⟩
  · have hlen : zs.length ≤ 1000 := by omega
    clear hbig
    obtain ⟨i0, hi, hz0, hz1, hz2⟩ := info_parts info3
    go_enter Try.func9, Try.ntmps9
    go_wp2_with fail
    refine (alive11_any _).mono ?_
    rintro e w1 ⟨rfl, hb1⟩
    have hzz := hz.below hb1
    have hB2 : Below w1.heap.size w1 (w1.alloc (.cells #[] 3)) := (Below.refl _ _).alloc (Nat.le_refl _) _
    have hown : (w1.alloc (.cells #[] 3)).ownsRow w1.heap.size 3 1 (.slice (some ⟨w1.heap.size, 0, none⟩) 0 0) 0 [] := World.ownsRow_lit w1 #[] 0 (Nat.le_refl _) (by decide) rfl
    have hzz2 := hzz.below hB2
    have hnone := hzz2.1
    have hsrc := hzz2.src
    have Hz := Lib.hid hz
    clear hz hzz
    go_wp2_with (at_builtin; refine wpList_append_src _ rfl (.tmp 13) (.tmp 14) 43 rfl w1.heap.size 3 i0 (.int .i64 0) 1 8 Try.underlying43 hi hz0 hz1 hz2 rfl (by decide) (.slice (some ⟨w1.heap.size, 0, none⟩) 0 0) 0 [] rfl hown ao zs.length cap (zs.map (Value.int .i64)) rfl (by simp) hnone hsrc (by intro u hu; obtain ⟨z, _, rfl⟩ := List.mem_map.1 hu; rfl) (by unfold maxLen; omega) (by omega) (by simp) ?_; intro v2 w2 hown2 hgrow2; simp only [Nat.zero_add, List.nil_append] at hown2; obtain ⟨ao2, cap2, rfl, hz2'⟩ := owns_ints hown2)
    have hb2 := hB2.grown hgrow2 (by simp) (fun j hj => (hown.lt j hj).1)
    have hB := hb1.trans (hb2.mono hb1.size)
    have hzr := Hz.out.below hB
    clear hown2 hgrow2 hsrc hnone hown hB2 hb2 hzz2
    refine (stable_any ao2 cap2 zs want now w2 hlen hz2').mono ?_
    rintro e w3 ⟨rfl, hb3⟩
    have hz3 := hzr.below hb3
    have hB3 := hB.trans (hb3.mono hB.size)
    clear hz2' hzr hb1 hB hb3
    go_wp2_with fail
    refine (stableR_any ao cap zs want now w3 hlen hz3).mono ?_
    rintro e w' ⟨rfl, rfl⟩
    clear hz3
    by_cases hw : now ≤ want
    · have t : (Pl.stableF zs want now == want) = true := by rw [Pl.stableF_up hw]; simp
      generalize Pl.stableF zs want now = r at *
      go_wp2
      go_ret
      exact ⟨rfl, hB3⟩
    · have t := Pl.stableF_mid (l := zs) (show want < now by omega)
      have t1 := t.1
      have t2 := t.2
      clear t
      generalize Pl.stableF zs want now = r at *
      go_wp2
      go_ret
      exact ⟨rfl, hB3⟩

theorem okB_bd {p : Pl.Pol} {now : Int} (h : Pl.okB p now = true) : Pl.Right p ∧ 0 ≤ now ∧ now ≤ 1000 := by
  unfold Pl.okB at h
  simp only [Bool.and_eq_true] at h
  exact ⟨(Pl.rightB_iff p).1 h.1, ((Pl.inB_iff _ _ _).1 h.2).1, ((Pl.inB_iff _ _ _).1 h.2).2⟩
theorem okB_mk {p : Pl.Pol} {now : Int} (h : Pl.rightB p = true) (h0 : 0 ≤ now) (h1 : now ≤ 1000) : Pl.okB p now = true := by
  unfold Pl.okB; rw [h, (Pl.inB_iff _ _ _).2 ⟨h0, h1⟩]; rfl

set_option maxHeartbeats 2000000 in
theorem dbounds_walk (v : Value) (load now : Int) (w : World) (hv : IsPol v) (wl : (Lit.int .i64 load).wf = true) (wn : (Lit.int .i64 now).wf = true) :
    Calls Try.prog 10 #[v, .int .i64 load, .int .i64 now] w fun e w' => e = .returned (.bool true) ∧ Below w.heap.size w w' := by
  obtain ⟨p, rfl⟩ := hv
  clear wl wn
  have hb0 := polBox_below w p
  have HP := PolAt.box w p
  cases hk : Pl.okB p now
  · have e1 : (Pl.stepE p now == 2) = true := by rw [stepE_no hk]; rfl
    have e2 : (Pl.stepQ p load now == 0) = true := by rw [stepQ_no hk]; rfl
    have HK := Lib.hid hk
    clear hk
    go_enter Try.func10, Try.ntmps10
    go_wp2_with fail
    refine (alive11_any _).mono ?_
    rintro e w1 ⟨rfl, hb1⟩
    have HP1 := HP.below hb1 (by simp)
    have hs1 := hb1.size
    simp at hs1
    replace hb1 := hb0.trans (hb1.mono (by simp))
    clear hb0 HP
    have HP1' := HP1
    obtain ⟨f0, f1, f2, f3, f4, f5, f6⟩ := HP1
    go_wp2_with fail
    refine (step_any p load now _).mono ?_
    rintro e w2 ⟨rfl, hb2⟩
    have HP2 := HP1'.below hb2 (by omega)
    have hs2 := hb2.size
    replace hb2 := hb1.trans (hb2.mono (by omega))
    clear hb1 HP1' f0 f1 f2 f3 f4 f5 f6
    obtain ⟨f0, f1, f2, f3, f4, f5, f6⟩ := HP2
    generalize Pl.stepQ p load now = a at *
    generalize Pl.stepE p now = b at *
    go_wp2_with fail
    refine (right_any p _).mono ?_
    rintro e w3 ⟨rfl, hb3⟩
    replace hb3 := hb2.trans (hb3.mono (by omega))
    clear f0 f1 f2 f3 f4 f5 f6 hb2
    cases hr : Pl.rightB p
    · go_wp2
      go_ret
      exact ⟨rfl, hb3⟩
    · by_cases hn : now < 0
      · go_wp2
        go_ret
        exact ⟨rfl, hb3⟩
      · have hn2 : 1000 < now := by
          rcases Int.lt_or_le 1000 now with h | h
          · exact h
          · have := okB_mk hr (by omega) h; rw [HK.out] at this; cases this
        have hn3 : 0 ≤ now := by omega
        clear hn
        go_wp2
        go_ret
        exact ⟨rfl, hb3⟩
  · obtain ⟨hR, hn0, hn1⟩ := okB_bd hk
    have HR := Lib.hid hR
    have e1 : (Pl.stepE p now != 0) = false := by rw [stepE_ok hk]; rfl
    have hq := stepQ_ok (load := load) hk
    have hnear := Pl.step_near hR load now
    rw [← hq] at hnear
    have hn2 := hnear.1
    have hn3 := hnear.2
    have hd0 := hR.down0
    have hd1 := hR.down1
    have hu0 := hR.up0
    have hu1 := hR.up1
    have hr := (Pl.rightB_iff p).2 hR
    have hin := fun h0 h1 => hq ▸ Pl.step_in hR load (now := now) h0 h1
    have hbe := fun h0 => hq ▸ Pl.step_below hR load (now := now) h0
    have hab := fun h0 => hq ▸ Pl.step_above hR load (now := now) h0
    have HIN := Lib.hid hin
    have HBE := Lib.hid hbe
    have HAB := Lib.hid hab
    clear hin hbe hab hnear hR hk hq
    go_enter Try.func10, Try.ntmps10
    go_wp2_with fail
    refine (alive11_any _).mono ?_
    rintro e w1 ⟨rfl, hb1⟩
    have HP1 := HP.below hb1 (by simp)
    have hs1 := hb1.size
    simp at hs1
    replace hb1 := hb0.trans (hb1.mono (by simp))
    clear hb0 HP
    have HP1' := HP1
    obtain ⟨f0, f1, f2, f3, f4, f5, f6⟩ := HP1
    go_wp2_with fail
    refine (step_any p load now _).mono ?_
    rintro e w2 ⟨rfl, hb2⟩
    have HP2 := HP1'.below hb2 (by omega)
    have hs2 := hb2.size
    replace hb2 := hb1.trans (hb2.mono (by omega))
    clear hb1 HP1' f0 f1 f2 f3 f4 f5 f6
    have HP2' := HP2
    obtain ⟨f0, f1, f2, f3, f4, f5, f6⟩ := HP2
    generalize Pl.stepQ p load now = a at *
    generalize Pl.stepE p now = b at *
    go_wp2_with fail
    refine (right_any p _).mono ?_
    rintro e w3 ⟨rfl, hb3⟩
    have HP3 := HP2'.below hb3 (by omega)
    replace hb3 := hb2.trans (hb3.mono (by omega))
    clear f0 f1 f2 f3 f4 f5 f6 hb2 HP2'
    obtain ⟨f0, f1, f2, f3, f4, f5, f6⟩ := HP3
    by_cases c1 : now < p.mn
    · have k1 := (HBE.out c1).1
      have k2 := (HBE.out c1).2
      go_wp2
      go_ret
      exact ⟨rfl, hb3⟩
    · have c1' : p.mn ≤ now := by omega
      clear c1
      by_cases c2 : p.mx < now
      · have k1 := (HAB.out c2).1
        have k2 := (HAB.out c2).2
        go_wp2
        go_ret
        exact ⟨rfl, hb3⟩
      · have c2' : now ≤ p.mx := by omega
        have k1 := (HIN.out c1' c2').1
        have k2 := (HIN.out c1' c2').2
        clear c2
        go_wp2
        go_ret
        exact ⟨rfl, hb3⟩
end Go.Proofs.Ytldgnkceecgacaa
