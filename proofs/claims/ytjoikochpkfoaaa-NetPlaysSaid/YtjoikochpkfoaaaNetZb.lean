/- All packets, handed over. -/
import Derived.Test.YtjoikochpkfoaaaNetZa
import Derived.Test.YtjoikochpkfoaaaNetT
namespace Go.Proofs.Ytjoikochpkfoaaa
open Go.RowKit
set_option linter.unusedVariables false

/-- Packets that the call has gathered. -/
structure Got (t : Nat) (w0 w : World) (v : Value) (ss : List Pl.Ent) : Prop where
  own : w.ownsRow w0.heap.size t 3 v ss.length (Pl.rows ss)
  bod : ∀ s ∈ ss, BytesT w s.bv s.bs
  bel : Below w0.heap.size w0 w
theorem Got.nil (t : Nat) {w0 w : World} (h : Below w0.heap.size w0 w) : Got t w0 w (.slice none 0 0) [] := ⟨⟨rfl, .inl ⟨rfl, rfl⟩⟩, (fun s hs => by cases hs), h⟩
theorem Got.below {t : Nat} {w0 w w' : World} {v : Value} {ss : List Pl.Ent} (h : Got t w0 w v ss) (hb : Below w.heap.size w w') : Got t w0 w' v ss :=
  ⟨ownsRow_of h.own (fun g hg => hb.block g (h.own.lt g hg).2), fun s hs => (h.bod s hs).below hb, h.bel.trans (hb.mono h.bel.size)⟩
theorem Got.push {t : Nat} {w0 W w' : World} {v v' : Value} {ss : List Pl.Ent} {s : Pl.Ent} (h : Got t w0 W v ss) (ht : t ≠ 5) (he : BytesT W s.bv s.bs) (hg : W.grownBy w' v.ownBlock) (ho : w'.ownsRow w0.heap.size t 3 v' (ss.length + 1) (Pl.rows ss ++ s.cells)) :
    Got t w0 w' v' (ss ++ [s]) := by
  have k : KeepB W w' := fun g cs fr hc => hg.block g (Array.getElem?_eq_some_iff.1 hc).1 (fun e => by
    obtain ⟨cs', hc'⟩ := own_cells h.own e.symm
    rw [hc'] at hc; cases hc; exact ht rfl)
  refine ⟨by rw [Pl.rows_append, Pl.rows_one, List.length_append]; exact ho, fun x hx => ?_, h.bel.grown hg h.bel.size (fun g hg => (h.own.lt g hg).1)⟩
  rcases List.mem_append.1 hx with hx | hx
  · exact (h.bod x hx).keep k
  · obtain rfl := List.mem_singleton.1 hx
    exact he.keep k
theorem Got.v {t : Nat} {w0 w : World} {v : Value} {ss : List Pl.Ent} (h : Got t w0 w v ss) : ∃ ao cap, v = .slice ao ss.length cap ∧ SentsAt w ao ss := sents_of h.own

theorem NetAt.ents {w : World} {N mb : Nat} {row : Option Nat} {es : List Pl.Ent} {T : Pl.Off} (h : NetAt w N row mb es T) : ∃ ao cap, w.cell? ⟨N, 0, none⟩ = some (.slice ao es.length cap) ∧ SentsAt w ao es := by
  obtain ⟨v, hr, ho, hv⟩ := h.obj
  obtain ⟨ao, cap, rfl, hs⟩ := sents_of ho
  exact ⟨ao, cap, hr.cell (i := 0) (by decide), hs⟩
theorem RefAt.ents {w : World} {M : Nat} {row : Option Nat} {es : List Pl.Ent} {T : Pl.Off} (h : RefAt w M row es T) : ∃ ao cap, w.cell? ⟨M, 0, none⟩ = some (.slice ao es.length cap) ∧ SentsAt w ao es := by
  obtain ⟨v, off, hr, ho, hv, _⟩ := h.obj
  obtain ⟨ao, cap, rfl, hs⟩ := sents_of ho
  have c0 := hr.cell (i := 0) (by decide)
  simp only [if_true] at c0
  exact ⟨ao, cap, c0, hs⟩
theorem abs_take_succ {es : List Pl.Ent} {k : Nat} (h : k < es.length) : Pl.abs (es.take (k + 1)) = Pl.abs (es.take k) ++ [(es[k]).pk] := by
  rw [List.take_add_one, List.getElem?_eq_getElem h]
  unfold Pl.abs; rw [List.map_append]; rfl

set_option maxHeartbeats 2000000 in
theorem all_net (N mb : Nat) (row : Option Nat) (es : List Pl.Ent) (T : Pl.Off) (w : World) (h : NetAt w N row mb es T) (hn : es.length ≤ 64) (hl : ∀ e ∈ es, e.bs.length ≤ 4096) :
    Calls Try.prog 32 #[.pointer (some ⟨N, 0, none⟩)] w fun e w' => ∃ v' es', e = .returned v' ∧ Got 31 w w' v' es' ∧ Pl.abs es' = Pl.abs es := by
  obtain ⟨i0, hi, hz0, hz1, hz2⟩ := info_parts info31
  obtain ⟨ao, cap, c0, hen⟩ := h.ents
  have HEN := Lib.hid hen
  have HBO := Lib.hid h.bodies
  have HL := Lib.hid hl
  clear h hen hl
  go_enter Try.func32, Try.ntmps32
  go_wp2_with fail
  clear c0
  have HG0 := Lib.hid (Got.nil 31 (Below.refl w.heap.size w))
  go_loopw [12, 2] (fun i v wr => ∃ (k : Nat) (ss : List Pl.Ent), k ≤ es.length ∧ i = .int .i64 k ∧ Got 31 w wr v ss ∧ Pl.abs ss = Pl.abs (es.take k)) (fun i _ _ => es.length - (intOf i).toNat)
  case atStart => exact ⟨0, [], Nat.zero_le _, rfl, HG0.out, rfl⟩
  case round =>
    obtain ⟨k, ss, hk, rfl, HG, habs⟩ := hrel
    clear HG0
    by_cases hlt : k < es.length
    · have hsl : ss.length ≤ 64 := by have := congrArg List.length habs; rw [Pl.abs_len, Pl.abs_len, List.length_take] at this; omega
      have hbody := (HBO.out es[k] (List.getElem_mem hlt)).below HG.bel
      have hlen := HL.out es[k] (List.getElem_mem hlt)
      have habs2 := abs_take_succ hlt
      rw [← habs] at habs2
      obtain ⟨g, rfl, hgl, c0, c1, c2⟩ := (HEN.out.below HG.bel) k hlt
      generalize es[k] = x at *
      obtain ⟨bao, bcap, hbv, _⟩ := id hbody
      rw [hbv] at c2 hbody
      obtain ⟨ao2, cap2, hv2, _⟩ := HG.v
      subst hv2
      have HAB := Lib.hid habs2
      have HGG := Lib.hid HG
      have HBD := Lib.hid hbody
      clear habs habs2 HG hbody hbv
      go_wp2_with fail
      have b1 : Below wr.heap.size wr (wr.alloc (.cells #[.int .i64 x.frm, .int .i64 x.to, .slice bao x.bs.length bcap] 31)) := (Below.refl _ _).alloc (Nat.le_refl _) _
      have HG1 := Lib.hid (HGG.out.below b1)
      have HB1 := Lib.hid (HBD.out.below b1)
      clear b1 c0 c1 c2 HGG HBD
      generalize wr.alloc (.cells #[.int .i64 x.frm, .int .i64 x.to, .slice bao x.bs.length bcap] 31) = W1 at *
      refine (own_any_o x.frm x.to (.slice bao x.bs.length bcap) x.bs W1 HB1.out.toC (by omega)).mono ?_
      rintro e w5 ⟨v5, rfl, B5, b5⟩
      obtain ⟨ao5, cap5, hv5, _⟩ := id B5.toT
      subst hv5
      have b6 : Below w5.heap.size w5 (w5.alloc (.cells #[.int .i64 x.frm, .int .i64 x.to, .slice ao5 x.bs.length cap5] 31)) := (Below.refl _ _).alloc (Nat.le_refl _) _
      have HG6 := Lib.hid ((HG1.out.below b5).below b6)
      have HB6 := Lib.hid (B5.toT.below b6)
      have HOWN := Lib.hid HG6.out.own
      have HNEW := Lib.hid (World.news_of_block (heap_alloc_new w5 (.cells #[.int .i64 x.frm, .int .i64 x.to, .slice ao5 x.bs.length cap5] 31)))
      have hone : ∀ u ∈ ([.int .i64 x.frm, .int .i64 x.to, .slice ao5 x.bs.length cap5] : List Value), u.oneCell' = true := by
        intro u hu
        simp at hu
        rcases hu with rfl | rfl | rfl <;> rfl
      have HONE := Lib.hid hone
      have hbs6 := Lib.hid HG6.out.bel.size
      clear hone B5 b5 b6 HG1 HB1
      go_wp2_with (at_builtin; refine wpList_append_own _ rfl (.tmp 16) (.tmp 19) 57 rfl w.heap.size 31 i0 (.agg #[.int .i64 0, .int .i64 0, .slice none 0 0]) 3 40 Try.underlying57 hi hz0 hz1 hz2 rfl (by decide) (.slice ao2 ss.length cap2) ss.length (Pl.rows ss) rfl HOWN.out ⟨w5.heap.size, 0, none⟩ 1 1 [.int .i64 x.frm, .int .i64 x.to, .slice ao5 x.bs.length cap5] rfl rfl HNEW.out HONE.out (by unfold maxLen; omega) (by omega) hbs6.out ?_; intro v7 w7 hown7 hgrow7 hat7; have HG7 := Lib.hid (HG6.out.push (s := ⟨x.frm, x.to, .slice ao5 x.bs.length cap5, x.bs⟩) (by decide) HB6.out hgrow7 hown7); clear hown7 hgrow7 hat7 HOWN HNEW HG6 HB6)
      refine ⟨⟨k + 1, ss ++ [⟨x.frm, x.to, .slice ao5 x.bs.length cap5, x.bs⟩], by omega, rfl, HG7.out, ?_⟩, by simp [intOf]; omega⟩
      rw [HAB.out]
      unfold Pl.abs; rw [List.map_append]; rfl
    · obtain rfl : k = es.length := by omega
      rw [List.take_length] at habs
      have HAB := Lib.hid habs
      have HGG := Lib.hid HG
      clear habs HG hlt
      go_wp2_with fail
      go_ret
      exact ⟨_, ss, rfl, HGG.out, HAB.out⟩

end Go.Proofs.Ytjoikochpkfoaaa
