/- remove, Drop. -/
import Derived.Test.YtjoikochpkfoaaaNetF
namespace Go.Proofs.Ytjoikochpkfoaaa
open Go.RowKit
set_option linter.unusedVariables false

theorem rows_cells {w : World} {es : List Pl.Ent} (h : ∀ e ∈ es, BytesT w e.bv e.bs) : ∀ u ∈ Pl.rows es, u.oneCell' = true := by
  intro u hu
  obtain ⟨e, he, hu⟩ := List.mem_flatMap.1 hu
  obtain ⟨ao, cap, hv, _⟩ := h e he
  simp [Pl.Ent.cells] at hu
  rcases hu with rfl | rfl | rfl
  · rfl
  · rfl
  · rw [hv]; rfl

/-- One packet is gone: the rest lies in a new row. -/
theorem net_less {w W : World} {N mb g cap n i : Nat} {row : Option Nat} {es : List Pl.Ent} {T : Pl.Off} {cur : Array Value} (h : NetAt w N row mb es T) (hb : Below w.heap.size w W) (hi : i < es.length) (hn : es.length = n + 1) (hg : w.heap.size ≤ g)
    (hc : W.heap[g]? = some (.cells cur 31 (0, 0))) (hs : cur.size = cap * 3) (hcap : n + 1 ≤ cap) (hm : cap ≤ maxLen) (ht : cur.toList.take (n * 3) = (Pl.rows es).take (i * 3) ++ (Pl.rows es).drop ((i + 1) * 3)) :
    NetAt (W.setCell ⟨N, 0, none⟩ (.slice (some ⟨g, 0, none⟩) n cap)) N (some g) mb (es.take i ++ es.drop (i + 1)) T ∧ Turned w (W.setCell ⟨N, 0, none⟩ (.slice (some ⟨g, 0, none⟩) n cap)) N row mb := by
  have hNlt := h.lt
  have hmlt := h.mb_lt
  have hne := h.ne
  obtain ⟨v, hr, ho, hv⟩ := h.obj
  have r2 : W.rowIs N 59 2 (fun j => if j = 0 then v else .map (some mb)) := hr.of_block (hb.block N hNlt)
  have hlen : (es.take i ++ es.drop (i + 1)).length = n := by rw [List.length_append, List.length_take, List.length_drop]; omega
  have k2 : KeepB W (W.setCell ⟨N, 0, none⟩ (.slice (some ⟨g, 0, none⟩) n cap)) := fun x cs fr hx => Below.heap_setCell _ _ _ _ (fun e => by
    obtain ⟨c, hc, _⟩ := r2
    change x = N at e
    subst e
    rw [hc] at hx; cases hx)
  have hs2 := hb.size
  refine ⟨⟨⟨.slice (some ⟨g, 0, none⟩) n cap, (r2.set 0 _).congr (fun i hi => ?_), ?_, rfl⟩, (h.mp.of_block (hb.block mb hmlt)).of_block (Below.heap_setCell _ _ _ _ (Ne.symm hne)), ?_⟩, ⟨?_, ?_, ?_⟩⟩
  · have : i = 0 ∨ i = 1 := by omega
    rcases this with rfl | rfl <;> rfl
  · rw [hlen]
    refine ownsRow_setCell_below (w := W) (base := N + 1) ⟨?_, .inr ⟨g, cap, cur, rfl, by omega, hc, by omega, hm, hs, ?_⟩⟩ (by show N < N + 1; omega) _
    · rw [Pl.rows_length, hlen]
    · rw [ht, Pl.rows_append, Pl.rows_take, Pl.rows_drop]
  · intro x hx
    have hx' : x ∈ es := by
      rcases List.mem_append.1 hx with hx | hx
      · exact List.mem_of_mem_take hx
      · exact List.mem_of_mem_drop hx
    exact ((h.bodies x hx').below hb).keep k2
  · simp [World.setCell]; omega
  · intro j hj h1 h2 h3
    rw [Below.heap_setCell _ _ _ _ h1]
    exact hb.block j hj
  · exact ⟨hb.os, hb.tape, hb.output⟩

theorem remove_ok (N mb i : Nat) (row : Option Nat) (es : List Pl.Ent) (T : Pl.Off) (w : World) (h : NetAt w N row mb es T) (hi : i < es.length) (hn : es.length ≤ 64) :
    Calls Try.prog 35 #[.pointer (some ⟨N, 0, none⟩), .int .i64 i] w fun e w' => e = .returned (.int .i64 0) ∧ ∃ g, NetAt w' N (some g) mb (es.take i ++ es.drop (i + 1)) T ∧ Turned w w' N row mb ∧ w.heap.size ≤ g := by
  obtain ⟨v, hr, ho, hv⟩ := h.obj
  have hNlt := h.lt
  have h1 := rows_cells h.bodies
  obtain ⟨n, hn1⟩ : ∃ n, es.length = n + 1 := ⟨es.length - 1, by omega⟩
  rcases ho.2 with ⟨rfl, h0⟩ | ⟨g, cap, cur, rfl, hbg, hg, hc, hm, hs, ht⟩
  · omega
  have c0 := hr.cell (i := 0) (by decide)
  simp only [if_true] at c0
  have HH := Lib.hid h
  have HG := Lib.hid hg
  have HT := Lib.hid ht
  have HL := Lib.hid ho.1
  have H1 := Lib.hid h1
  have HR := Lib.hid hr
  have CC := Lib.hid (pclone_any g es.length cap cur (Pl.rows es) w hg ht ho.1 h1 (by omega))
  have HN1 := Lib.hid hn1
  clear h hg ht ho h1 hr hv hs hn1
  go_enter Try.func35, Try.ntmps35
  go_wp2_with fail
  refine CC.out.mono ?_
  rintro e w1 ⟨v1, rfl, own1, b1⟩
  rcases own1.2 with ⟨_, h0⟩ | ⟨g1, cap1, cur1, rfl, hbg1, hg1, hc1, hm1, hs1, ht1⟩
  · have := HN1.out; omega
  have hl1 := HN1.out
  rw [hl1] at hc1 ht1
  have D := delete_at g1 n i cap1 cur1 w1 hg1 (by omega) hc1 hm1 hs1 (by rw [ht1]; exact H1.out)
  have HD := Lib.hid D
  have HB1 := Lib.hid b1
  have HT1 := Lib.hid ht1
  have c1 := (b1.cell (p := ⟨N, 0, none⟩) hNlt).trans c0
  have f1 := (b1.frozen (p := ⟨N, 0, none⟩) hNlt).trans (HR.out.frozen 0)
  rw [show (es.length : Nat) = n + 1 from hl1]
  clear D own1 b1 hg1 ht1 hs1 CC HG HT HL c0 hl1
  go_wp2_with fail
  refine HD.out.mono ?_
  rintro e w2 ⟨rfl, ⟨cur2, k1, k2, k3⟩, s2, o2, r2⟩
  have hb2 : Below w.heap.size w w2 := by
    refine ⟨r2.1.trans HB1.out.os, r2.2.1.trans HB1.out.tape, r2.2.2.trans HB1.out.output, by have := HB1.out.size; omega, fun j hj => ?_⟩
    exact (o2 j (by have := HB1.out.size; omega) (by omega)).trans (HB1.out.block j hj)
  have q0 := (hb2.cell (p := ⟨N, 0, none⟩) hNlt).trans (HR.out.cell (i := 0) (by decide))
  simp only [if_true] at q0
  have f2 := (hb2.frozen (p := ⟨N, 0, none⟩) hNlt).trans (HR.out.frozen 0)
  have L := net_less HH.out hb2 hi HN1.out hbg1 k1 k2 hc1 hm1 (by rw [k3, HT1.out])
  have HL2 := Lib.hid L
  clear L k1 k2 k3 o2 r2 hb2 c1 f1 HD
  go_wp2_with fail
  go_ret
  exact ⟨rfl, g1, HL2.out.1, HL2.out.2, hbg1⟩

theorem with_none (N : Nat) (i : Int) (ao : Option Addr) (len cap : Nat) (f : Value) (w : World) (c0 : w.cell? ⟨N, 0, none⟩ = some (.slice ao len cap)) (hi : i < 0 ∨ (len : Int) ≤ i) :
    Calls Try.prog 24 #[.pointer (some ⟨N, 0, none⟩), .int .i64 i, f] w fun e w' => e = .returned (.int .i64 8) ∧ w = w' := by
  by_cases h0 : i < 0
  · clear hi
    go_enter Try.func24, Try.ntmps24
    go_wp2_with fail
    go_ret
    exact ⟨rfl, rfl⟩
  · have h1 : (len : Int) ≤ i := by omega
    clear hi
    go_enter Try.func24, Try.ntmps24
    go_wp2_with fail
    go_ret
    exact ⟨rfl, rfl⟩

theorem drop_nil (i : Int) (w : World) : Calls Try.prog 21 #[.pointer none, .int .i64 i] w fun e w' => e = .returned (.int .i64 1) ∧ w = w' := by
  go_enter Try.func21, Try.ntmps21
  go_wp2_with fail
  go_ret
  exact ⟨rfl, rfl⟩

theorem drop_none (N mb : Nat) (i : Int) (row : Option Nat) (es : List Pl.Ent) (T : Pl.Off) (w : World) (h : NetAt w N row mb es T) (hi : i < 0 ∨ (es.length : Int) ≤ i) :
    Calls Try.prog 21 #[.pointer (some ⟨N, 0, none⟩), .int .i64 i] w fun e w' => e = .returned (.int .i64 8) ∧ w = w' := by
  have hmf : ∀ (fn : Fn) (first cap : Array Value) (w : World), (Instr.makeFunc fn first cap).run Try.prog w = .ok (.func fn first cap) w := fun _ _ _ _ => rfl
  obtain ⟨v, hr, ho, hv⟩ := h.obj
  obtain ⟨ao, cap, hvs⟩ : ∃ ao cap, v = .slice ao es.length cap := by
    rcases ho.2 with ⟨rfl, h0⟩ | ⟨g, cap, cur, e, _⟩
    · exact ⟨none, 0, by rw [h0]⟩
    · exact ⟨_, cap, e⟩
  have c0 := hr.cell (i := 0) (by decide)
  simp only [if_true] at c0
  rw [hvs] at c0
  have C0 := Lib.hid c0
  have HI := Lib.hid hi
  clear h hr ho hv hvs c0 hi
  go_enter Try.func21, Try.ntmps21
  go_wp2_with fail
  refine (with_none N i ao es.length cap _ w C0.out HI.out).mono ?_
  rintro e w' ⟨rfl, rfl⟩
  go_wp2_with fail
  go_ret
  exact ⟨rfl, rfl⟩

theorem with_remove (N mb i : Nat) (row : Option Nat) (es : List Pl.Ent) (T : Pl.Off) (w : World) (h : NetAt w N row mb es T) (hi : i < es.length) (hn : es.length ≤ 64) :
    Calls Try.prog 24 #[.pointer (some ⟨N, 0, none⟩), .int .i64 i, .func (.func 35) #[.pointer (some ⟨N, 0, none⟩)] #[]] w fun e w' => e = .returned (.int .i64 0) ∧ ∃ g, NetAt w' N (some g) mb (es.take i ++ es.drop (i + 1)) T ∧ Turned w w' N row mb ∧ w.heap.size ≤ g := by
  obtain ⟨v, hr, ho, hv⟩ := h.obj
  obtain ⟨ao, cap, hvs⟩ : ∃ ao cap, v = .slice ao es.length cap := by
    rcases ho.2 with ⟨rfl, h0⟩ | ⟨g, cap, cur, e, _⟩
    · exact ⟨none, 0, by rw [h0]⟩
    · exact ⟨_, cap, e⟩
  have c0 := hr.cell (i := 0) (by decide)
  simp only [if_true] at c0
  rw [hvs] at c0
  have a1 : ¬ ((i : Int) < 0) := by omega
  have a2 : ¬ ((es.length : Int) ≤ i) := by omega
  have HR := Lib.hid (remove_ok N mb i row es T w h hi hn)
  clear h hr ho hv hvs
  go_enter Try.func24, Try.ntmps24
  go_wp2_with fail
  refine HR.out.mono ?_
  rintro e w1 ⟨rfl, g, A, t, hg⟩
  have HA := Lib.hid A
  have HT := Lib.hid t
  clear A t HR c0
  go_wp2_with fail
  go_ret
  exact ⟨rfl, g, HA.out, HT.out, hg⟩

theorem drop_ok (N mb i : Nat) (row : Option Nat) (es : List Pl.Ent) (T : Pl.Off) (w : World) (h : NetAt w N row mb es T) (hi : i < es.length) (hn : es.length ≤ 64) :
    Calls Try.prog 21 #[.pointer (some ⟨N, 0, none⟩), .int .i64 i] w fun e w' => e = .returned (.int .i64 0) ∧ ∃ g, NetAt w' N (some g) mb (es.take i ++ es.drop (i + 1)) T ∧ Turned w w' N row mb ∧ w.heap.size ≤ g := by
  have hmf : ∀ (fn : Fn) (first cap : Array Value) (w : World), (Instr.makeFunc fn first cap).run Try.prog w = .ok (.func fn first cap) w := fun _ _ _ _ => rfl
  have HR := Lib.hid (with_remove N mb i row es T w h hi hn)
  clear h
  go_enter Try.func21, Try.ntmps21
  go_wp2_with fail
  refine HR.out.mono ?_
  rintro e w1 ⟨rfl, g, A, t, hg⟩
  have HA := Lib.hid A
  have HT := Lib.hid t
  clear A t HR
  go_wp2_with fail
  go_ret
  exact ⟨rfl, g, HA.out, HT.out, hg⟩
end Go.Proofs.Ytjoikochpkfoaaa
