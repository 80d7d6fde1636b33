/- FencePlays: the walk. -/
import Derived.Test.YtjkaegdlpmpneaaFenZd
import Derived.Test.YtjkaegdlpmpneaaFenV
namespace Go.Proofs.Ytjkaegdlpmpneaa
open Go.RowKit
set_option linter.unusedVariables false

/-- The copy of the log whose entries are written over. -/
def Got (w : World) (go : Option Addr) (n hi : Nat) : Prop := ∀ i, i < n → ∃ g cap f, go = some ⟨g, 0, none⟩ ∧ hi ≤ g ∧ n ≤ cap ∧ w.rowIs g 47 (cap * 5) f
theorem got_of {w : World} {base n : Nat} {v : Value} {xs : List Value} (h : w.ownsRow base 47 5 v n xs) : ∃ go c, v = .slice go n c ∧ Got w go n base := by
  rcases h.2 with ⟨rfl, h0⟩ | ⟨g, cap, cur, rfl, hb, hg, hc, _, hs, _⟩
  · exact ⟨none, 0, by rw [h0], fun i hi => absurd hi (by omega)⟩
  · exact ⟨_, cap, rfl, fun i hi => ⟨g, cap, _, rfl, hb, hc, rowIs_of_block hg hs⟩⟩
theorem Got.below {w w' : World} {go : Option Addr} {n hi : Nat} (h : Got w go n hi) (hb : Below w.heap.size w w') : Got w' go n hi := fun i hi' => by
  obtain ⟨g, cap, f, h1, h2, h3, h4⟩ := h i hi'
  exact ⟨g, cap, f, h1, h2, h3, h4.of_block (hb.block g h4.lt)⟩
theorem Got.set {w : World} {g n hi : Nat} (h : Got w (some ⟨g, 0, none⟩) n hi) (j : Nat) (u : Value) : Got (w.setCell ⟨g, j, none⟩ u) (some ⟨g, 0, none⟩) n hi := fun i hi' => by
  obtain ⟨g', cap, f, h1, h2, h3, h4⟩ := h i hi'
  cases h1
  exact ⟨g, cap, _, rfl, h2, h3, h4.set j u⟩

set_option maxRecDepth 100000 in
set_option maxHeartbeats 8000000 in
theorem plays_walk (v0 : Value) (w : World) (hv : IsOps w v0) :
    Calls Try.prog 4 #[v0] w fun e w' => e = .returned (.bool true) ∧ Below w.heap.size w w' := by
  obtain ⟨ao, len, cap, z, rfl, hops⟩ := hv.uni
  clear hv
  by_cases hbig : 600 < len
  · clear hops
    go_enter Try.func4, Try.ntmps4
    go_wp2_with fail
    refine (alive_ok w).mono ?_
    rintro e w2 ⟨rfl, hb⟩
    go_wp2
    go_ret
    exact ⟨rfl, hb⟩
  · have hlen : len ≤ 600 := by omega
    clear hbig
    have HOPS := Lib.hid hops
    clear hops
    go_enter Try.func4, Try.ntmps4
    go_wp2_with fail
    refine (alive_ok w).mono ?_
    rintro e w2 ⟨rfl, hb2⟩
    go_wp2_with fail
    refine (new_win w2).mono ?_
    rintro e w3 ⟨rfl, hb3, hs3, A3⟩
    have hs2 := hb2.size
    have L3 : Pair w (w3.alloc (.cells #[.int .i64 0, .int .i64 0, .int .i64 0, .int .i64 0, .int .i64 0, .int .i64 0, .int .i64 0, .int .i64 0, .int .i64 0, .int .i64 0, .int .i64 0, .int .i64 0, .int .i64 0, .int .i64 0, .int .i64 0, .int .i64 0, .slice none 0 0] 37)) w2.heap.size w3.heap.size none none [] :=
      ⟨A3.below ((Below.refl _ _).alloc (Nat.le_refl _) _), ref_new w3, hs2, by omega, by omega, (fun e => by cases e), (fun e => by cases e), (fun g e => by cases e), (hb2.trans (hb3.mono hs2)).alloc (by omega) _⟩
    have hM : w2.heap.size + 1 = w3.heap.size := by omega
    have HL3 := Lib.hid L3
    have HM := Lib.hid hM
    clear hb2 hb3 hs3 A3 hs2 L3 hM
    go_wp2_with fail
    generalize w2.heap.size = B at *
    generalize w3.heap.size = M at *
    clear HM
    go_loopw [25, 6] (fun i x wr => ∃ (k : Nat) (rA rM : Option Nat) (es : List Pl.Ent), k ≤ len ∧ i = .int .i64 k ∧ es.length ≤ k ∧ Pair w wr B M rA rM es) (fun i _ _ => len - (intOf i).toNat)
    case atStart => exact ⟨0, none, none, [], Nat.zero_le _, rfl, Nat.le_refl _, HL3.out⟩
    case round =>
      obtain ⟨k, rA, rM, es, hk, rfl, hek, LT⟩ := hrel
      have hbel := LT.bel
      clear HL3
      by_cases hlt : k < len
      · obtain ⟨b, off, rfl, hblk, hx⟩ := HOPS.out k hlt
        clear HOPS
        have hx0 : wr.cell? ⟨b, off + k * 4, none⟩ = some (.int .i64 (z k 0)) := (hbel.cell (by exact hblk)).trans (hx 0 (by decide))
        have hx1 : wr.cell? ⟨b, off + k * 4 + 1, none⟩ = some (.int .i64 (z k 1)) := by rw [Nat.add_assoc]; exact (hbel.cell (by exact hblk)).trans (hx 1 (by decide))
        have hx2 : wr.cell? ⟨b, off + k * 4 + 2, none⟩ = some (.int .i64 (z k 2)) := by rw [Nat.add_assoc]; exact (hbel.cell (by exact hblk)).trans (hx 2 (by decide))
        have hx3 : wr.cell? ⟨b, off + k * 4 + 3, none⟩ = some (.int .i64 (z k 3)) := by rw [Nat.add_assoc]; exact (hbel.cell (by exact hblk)).trans (hx 3 (by decide))
        clear hx
        generalize z k 0 = x at *
        generalize z k 1 = f at *
        generalize z k 2 = r at *
        generalize z k 3 = c at *
        have BX1 := BoxAt.new wr x f r c
        have LT1 := LT.below (w' := wr.alloc (.cells #[.int .i64 x, .int .i64 f, .int .i64 r, .int .i64 c] 27)) ((Below.refl _ _).alloc (Nat.le_refl _) _)
        have ls1 : wr.heap.size < (wr.alloc (.cells #[.int .i64 x, .int .i64 f, .int .i64 r, .int .i64 c] 27)).heap.size := by simp
        have hB1 := LT.a.lt
        have hM1 := LT.m.lt
        have hrA : some wr.heap.size ≠ rA := fun e => by have := LT.a.row_lt _ e.symm; omega
        have hrM : some wr.heap.size ≠ rM := fun e => by have := LT.m.row_lt _ e.symm; omega
        have HLT := Lib.hid LT1
        clear LT1 LT hbel
        go_wp2_with fail
        generalize wr.alloc (.cells #[.int .i64 x, .int .i64 f, .int .i64 r, .int .i64 c] 27) = v1 at *
        obtain ⟨y0, y1, y2, y3⟩ := id BX1
        refine wp_region_L (fun w' => w'.cell? ⟨wr.heap.size, 0, none⟩ = some (.int .i64 x) ∧ w'.cell? ⟨wr.heap.size, 1, none⟩ = some (.int .i64 f) ∧ w'.cell? ⟨wr.heap.size, 2, none⟩ = some (.int .i64 r) ∧ w'.cell? ⟨wr.heap.size, 3, none⟩ = some (.int .i64 c)) 99 (by kernel_rfl) ⟨y0, y1, y2, y3⟩ (fun hHeld => ?_)
        refine wpL_takeAt (i := 0) 29 (v := ?va0) rfl (by kernel_rfl) (by kernel_rfl) (by kernel_rfl) (by kernel_rfl) (by kernel_rfl) (fun _ _ _ h => h) (Or.inl ⟨by rfl, ?ha0⟩) (by assumption) ?ra0
        case ha0 => intro w hSw; (try dsimp only at hSw); go_simp; (try with_reducible rfl)
        simp only [Act.put, List.setIfInBounds_toArray, List.set_cons_zero, List.set_cons_succ]
        refine wpL_takeAt (i := 1) 30 (v := ?va1) rfl (by kernel_rfl) (by kernel_rfl) (by kernel_rfl) (by kernel_rfl) (by kernel_rfl) (fun _ _ _ h => h) (Or.inl ⟨by rfl, ?ha1⟩) (by assumption) ?ra1
        case ha1 => intro w hSw; (try dsimp only at hSw); go_simp; (try with_reducible rfl)
        simp only [Act.put, List.setIfInBounds_toArray, List.set_cons_zero, List.set_cons_succ]
        refine wpL_takeAt (i := 2) 31 (v := ?va2) rfl (by kernel_rfl) (by kernel_rfl) (by kernel_rfl) (by kernel_rfl) (by kernel_rfl) (fun _ _ _ h => h) (Or.inl ⟨by rfl, ?ha2⟩) (by assumption) ?ra2
        case ha2 => intro w hSw; (try dsimp only at hSw); go_simp; (try with_reducible rfl)
        simp only [Act.put, List.setIfInBounds_toArray, List.set_cons_zero, List.set_cons_succ]
        refine wpL_takeAt (i := 3) 32 (v := ?va3) rfl (by kernel_rfl) (by kernel_rfl) (by kernel_rfl) (by kernel_rfl) (by kernel_rfl) (fun _ _ _ h => h) (Or.inl ⟨by rfl, ?ha3⟩) (by assumption) ?ra3
        case ha3 => intro w hSw; (try dsimp only at hSw); go_simp; (try with_reducible rfl)
        simp only [Act.put, List.setIfInBounds_toArray, List.set_cons_zero, List.set_cons_succ]
        refine wpL_takeAt (i := 4) 33 (v := ?va4) rfl (by kernel_rfl) (by kernel_rfl) (by kernel_rfl) (by kernel_rfl) (by kernel_rfl) (fun _ _ _ h => h) (Or.inl ⟨by rfl, ?ha4⟩) (by assumption) ?ra4
        case ha4 => intro w hSw; (try dsimp only at hSw); go_simp; (try with_reducible rfl)
        simp only [Act.put, List.setIfInBounds_toArray, List.set_cons_zero, List.set_cons_succ]
        refine wpL_takeAt (i := 5) 34 (v := ?va5) rfl (by kernel_rfl) (by kernel_rfl) (by kernel_rfl) (by kernel_rfl) (by kernel_rfl) (fun _ _ _ h => h) (Or.inl ⟨by rfl, ?ha5⟩) (by assumption) ?ra5
        case ha5 => intro w hSw; (try dsimp only at hSw); go_simp; (try with_reducible rfl)
        simp only [Act.put, List.setIfInBounds_toArray, List.set_cons_zero, List.set_cons_succ]
        refine wpL_takeAt (i := 6) 35 (v := ?va6) rfl (by kernel_rfl) (by kernel_rfl) (by kernel_rfl) (by kernel_rfl) (by kernel_rfl) (fun _ _ _ h => h) (Or.inl ⟨by rfl, ?ha6⟩) (by assumption) ?ra6
        case ha6 => intro w hSw; (try dsimp only at hSw); go_simp; (try with_reducible rfl)
        simp only [Act.put, List.setIfInBounds_toArray, List.set_cons_zero, List.set_cons_succ]
        refine wpL_takeAt (i := 7) 36 (v := ?va7) rfl (by kernel_rfl) (by kernel_rfl) (by kernel_rfl) (by kernel_rfl) (by kernel_rfl) (fun _ _ _ h => h) (Or.inl ⟨by rfl, ?ha7⟩) (by assumption) ?ra7
        case ha7 => intro w hSw; (try dsimp only at hSw); go_simp; (try with_reducible rfl)
        simp only [Act.put, List.setIfInBounds_toArray, List.set_cons_zero, List.set_cons_succ]
        refine wpL_takeAt (i := 8) 37 (v := ?va8) rfl (by kernel_rfl) (by kernel_rfl) (by kernel_rfl) (by kernel_rfl) (by kernel_rfl) (fun _ _ _ h => h) (Or.inl ⟨by rfl, ?ha8⟩) (by assumption) ?ra8
        case ha8 => intro w hSw; (try dsimp only at hSw); go_simp; (try with_reducible rfl)
        simp only [Act.put, List.setIfInBounds_toArray, List.set_cons_zero, List.set_cons_succ]
        refine wpL_takeAt (i := 10) 39 (v := ?va10) rfl (by kernel_rfl) (by kernel_rfl) (by kernel_rfl) (by kernel_rfl) (by kernel_rfl) (fun _ _ _ h => h) (Or.inl ⟨by rfl, ?ha10⟩) (by assumption) ?ra10
        case ha10 => intro w hSw; (try dsimp only at hSw); go_simp; (try with_reducible rfl)
        simp only [Act.put, List.setIfInBounds_toArray, List.set_cons_zero, List.set_cons_succ]
        refine wpL_takeAt (i := 11) 40 (v := ?va11) rfl (by kernel_rfl) (by kernel_rfl) (by kernel_rfl) (by kernel_rfl) (by kernel_rfl) (fun _ _ _ h => h) (Or.inl ⟨by rfl, ?ha11⟩) (by assumption) ?ra11
        case ha11 => intro w hSw; (try dsimp only at hSw); go_simp; (try with_reducible rfl)
        simp only [Act.put, List.setIfInBounds_toArray, List.set_cons_zero, List.set_cons_succ]
        refine wpL_takeAt (i := 12) 41 (v := ?va12) rfl (by kernel_rfl) (by kernel_rfl) (by kernel_rfl) (by kernel_rfl) (by kernel_rfl) (fun _ _ _ h => h) (Or.inl ⟨by rfl, ?ha12⟩) (by assumption) ?ra12
        case ha12 => intro w hSw; (try dsimp only at hSw); go_simp; (try with_reducible rfl)
        simp only [Act.put, List.setIfInBounds_toArray, List.set_cons_zero, List.set_cons_succ]
        refine wpL_takeAt (i := 13) 42 (v := ?va13) rfl (by kernel_rfl) (by kernel_rfl) (by kernel_rfl) (by kernel_rfl) (by kernel_rfl) (fun _ _ _ h => h) (Or.inl ⟨by rfl, ?ha13⟩) (by assumption) ?ra13
        case ha13 => intro w hSw; (try dsimp only at hSw); go_simp; (try with_reducible rfl)
        simp only [Act.put, List.setIfInBounds_toArray, List.set_cons_zero, List.set_cons_succ]
        refine wpL_takeAt (i := 14) 43 (v := ?va14) rfl (by kernel_rfl) (by kernel_rfl) (by kernel_rfl) (by kernel_rfl) (by kernel_rfl) (fun _ _ _ h => h) (Or.inl ⟨by rfl, ?ha14⟩) (by assumption) ?ra14
        case ha14 => intro w hSw; (try dsimp only at hSw); go_simp; (try with_reducible rfl)
        simp only [Act.put, List.setIfInBounds_toArray, List.set_cons_zero, List.set_cons_succ]
        refine wpL_takeAt (i := 15) 44 (v := ?va15) rfl (by kernel_rfl) (by kernel_rfl) (by kernel_rfl) (by kernel_rfl) (by kernel_rfl) (fun _ _ _ h => h) (Or.inl ⟨by rfl, ?ha15⟩) (by assumption) ?ra15
        case ha15 => intro w hSw; (try dsimp only at hSw); go_simp; (try with_reducible rfl)
        simp only [Act.put, List.setIfInBounds_toArray, List.set_cons_zero, List.set_cons_succ]
        refine wpL_takeAt (i := 16) 45 (v := ?va16) rfl (by kernel_rfl) (by kernel_rfl) (by kernel_rfl) (by kernel_rfl) (by kernel_rfl) (fun _ _ _ h => h) (Or.inl ⟨by rfl, ?ha16⟩) (by assumption) ?ra16
        case ha16 => intro w hSw; (try dsimp only at hSw); go_simp; (try with_reducible rfl)
        simp only [Act.put, List.setIfInBounds_toArray, List.set_cons_zero, List.set_cons_succ]
        refine wpL_takeAt (i := 17) 46 (v := ?va17) rfl (by kernel_rfl) (by kernel_rfl) (by kernel_rfl) (by kernel_rfl) (by kernel_rfl) (fun _ _ _ h => h) (Or.inl ⟨by rfl, ?ha17⟩) (by assumption) ?ra17
        case ha17 => intro w hSw; (try dsimp only at hSw); go_simp; (try with_reducible rfl)
        simp only [Act.put, List.setIfInBounds_toArray, List.set_cons_zero, List.set_cons_succ]
        refine wpL_takeAt (i := 18) 47 (v := ?va18) rfl (by kernel_rfl) (by kernel_rfl) (by kernel_rfl) (by kernel_rfl) (by kernel_rfl) (fun _ _ _ h => h) (Or.inl ⟨by rfl, ?ha18⟩) (by assumption) ?ra18
        case ha18 => intro w hSw; (try dsimp only at hSw); go_simp; (try with_reducible rfl)
        simp only [Act.put, List.setIfInBounds_toArray, List.set_cons_zero, List.set_cons_succ]
        clear hHeld
        refine wpL_one (i := 9) (by kernel_rfl) rfl (fun K hK => ?_)
        go_simp
        have P1 := HLT.out.below (below_drewN (Below.refl v1.heap.size v1) 1)
        have BXd := BX1.below (below_drewN (Below.refl v1.heap.size v1) 1) ls1
        refine (write_win B rA es x f r c _ P1.a (by omega)).mono ?_
        rintro e v2 ⟨rfl, rA', A2, t2, r2⟩
        have BX2 := BXd.turned t2 ls1 (by omega) hrA
        have ls2 : wr.heap.size < v2.heap.size := Nat.lt_of_lt_of_le ls1 t2.size
        have R2 := P1.first A2 t2
        have BOTH := fun (v3 : World) (rM' : Option Nat) (R3 : RefAt v3 M rM' (Pl.es' es x f r c)) (t3 : Turned v2 v3 M rM) (r3 : rM' = rM ∨ ∃ g, rM' = some g ∧ v2.heap.size ≤ g) => P1.both A2 t2 r2 R3 t3 r3
        have HBOTH := Lib.hid BOTH
        have HR2 := Lib.hid R2
        have HES := Lib.hid (Pl.es_len es x f r c)
        clear BOTH R2 P1 BXd A2 t2 r2 y0 y1 y2 y3 HLT BX1
        obtain ⟨y0, y1, y2, y3⟩ := id BX2
        refine hK.out _ _ (fun _ => ⟨y0, y1, y2, y3⟩) (fun _ => ?rb0)
        clear hK K
        try simp only [Act.put, List.setIfInBounds_toArray, List.set_cons_zero, List.set_cons_succ]
        refine wpL_one (i := 19) (by kernel_rfl) rfl (fun K hK => ?_)
        go_simp
        refine (ref_write M rM es x f r c _ HR2.out (by omega)).mono ?_
        rintro e v3 ⟨rfl, rM', R3, t3, r3⟩
        have BX3 := BX2.turned t3 ls2 (by omega) hrM
        have ls3 : wr.heap.size < v3.heap.size := Nat.lt_of_lt_of_le ls2 t3.size
        have P3 := HBOTH.out v3 rM' R3 t3 r3
        have HP3 := Lib.hid P3
        have HBX3 := Lib.hid BX3
        clear P3 R3 t3 r3 HR2 HBOTH y0 y1 y2 y3 BX2 BX3
        obtain ⟨y0, y1, y2, y3⟩ := id HBX3.out
        refine hK.out _ _ (fun _ => ⟨y0, y1, y2, y3⟩) (fun _ => ?rb1)
        clear hK K
        try simp only [Act.put, List.setIfInBounds_toArray, List.set_cons_zero, List.set_cons_succ]
        have e0 : ∀ (cd : Int), (cd != cd) = false := fun cd => by simp
        have e1 := e0 (Pl.code (Pl.fenOf es) x f r c)
        generalize Pl.code (Pl.fenOf es) x f r c = cd at *
        generalize Pl.es' es x f r c = es' at *
        have hes : es'.length ≤ k + 1 := by have := HES.out.2; omega
        refine wpL_one (i := 20) (by kernel_rfl) rfl (fun K hK => ?_)
        go_simp
        refine hK.out _ _ (fun _ => ⟨y0, y1, y2, y3⟩) (fun _ => ?rb2)
        clear hK K e1
        try simp only [Act.put, List.setIfInBounds_toArray, List.set_cons_zero, List.set_cons_succ]
        refine wpL_done (by kernel_rfl) ?_ _
        cases h0 : Pl.inB x 0 7
        · go_wp2_with fail
          refine (read_no B x v3 h0).mono ?_
          rintro e v4 ⟨rfl, b4⟩
          have HP4 := Lib.hid (HP3.out.below b4)
          have BX4 := HBX3.out.below b4 ls3
          clear y0 y1 y2 y3 HP3 HBX3 b4
          obtain ⟨y0, y1, y2, y3⟩ := id BX4
          go_wp2_with fail
          refine (ref_read_no M x v4 h0).mono ?_
          rintro e v5 ⟨rfl, rfl⟩
          go_wp2_with fail
          all_goals exact ⟨⟨k + 1, _, _, es', by omega, rfl, by omega, HP4.out⟩, by simp [intOf]; omega⟩
        · obtain ⟨x0, x7⟩ := (Pl.inB_iff _ _ _).1 h0
          obtain ⟨q, rfl⟩ := Int.eq_ofNat_of_zero_le x0
          have hq : q < 8 := by omega
          go_wp2_with fail
          refine (read_win B q _ es' v3 hq HP3.out.a).mono ?_
          rintro e v4 ⟨rfl, b4⟩
          have HP4 := Lib.hid (HP3.out.below b4)
          have BX4 := HBX3.out.below b4 ls3
          clear y0 y1 y2 y3 HP3 HBX3 b4
          obtain ⟨y0, y1, y2, y3⟩ := id BX4
          have e1 := e0 (Pl.repOf es' q)
          have e2 := e0 (Pl.fenOf es' q)
          go_wp2_with fail
          refine (ref_read M q _ _ v4 hq (HP4.out.m.has q hq) (HP4.out.m.fen q hq)).mono ?_
          rintro e v5 ⟨rfl, b5⟩
          have HP5 := Lib.hid (HP4.out.below b5)
          clear b5 y0 y1 y2 y3 BX4
          go_wp2_with fail
          all_goals exact ⟨⟨k + 1, _, _, es', by omega, rfl, by omega, HP5.out⟩, by simp [intOf]; omega⟩
      · obtain rfl : k = len := by omega
        have HLT := Lib.hid LT
        clear LT hbel HOPS
        go_wp2_with fail
        rename World => wL
        refine (log_win B rA es wL HLT.out.a).mono ?_
        rintro e w4 ⟨v4, rfl, own4, b4⟩
        obtain ⟨go, gc, rfl, G4⟩ := got_of own4
        have hus : (Pl.win es).length ≤ 256 := by rw [Pl.win_length]; omega
        have P4 := HLT.out.below b4
        have hi1 := b4.size
        have HP := Lib.hid P4
        have HG := Lib.hid G4
        have HB4 := Lib.hid b4
        have HLOGS := fun (W : World) (P : Pair w W B M rA rM es) => law_log B rA es W P.a
        have HREF := fun (W : World) (P : Pair w W B M rA rM es) => ref_log M rM es W P.m
        have HLL := Lib.hid HLOGS
        have HRR := Lib.hid HREF
        clear own4 G4 P4 b4 HLOGS HREF
        generalize hu : Pl.win es = us at *
        have HU := Lib.hid hu
        clear hu
        go_wp2_with fail
        refine (HLL.out w4 HP.out).mono ?_
        rintro e w5 ⟨v5, rfl, own5, b5⟩
        obtain ⟨a5, c5, rfl, E5⟩ := ents_of own5
        have HP5 := Lib.hid (HP.out.below b5)
        have HG5 := Lib.hid (HG.out.below b5)
        have HE5 := Lib.hid E5
        have HB5 := Lib.hid (HB4.out.trans (b5.mono hi1))
        have hi2 := HB5.out.size
        clear own5 b5 E5 HG HP
        go_wp2_with fail
        refine (HRR.out w5 HP5.out).mono ?_
        rintro e w6 ⟨a6, c6, rfl, E6, b6⟩
        have HP6 := Lib.hid (HP5.out.below b6)
        have HG6 := Lib.hid (HG5.out.below b6)
        have HE56 := Lib.hid (HE5.out.below b6)
        have HE6 := Lib.hid E6
        have HB6 := Lib.hid (HB5.out.trans (b6.mono hi2))
        have hi3 := HB6.out.size
        clear b6 E6 HG5 HP5 HE5
        go_wp2_with fail
        refine (same_ok a5 a6 c5 c6 us w6 HE56.out HE6.out (by omega)).mono ?_
        rintro e w7 ⟨rfl, b7⟩
        have HP7 := Lib.hid (HP6.out.below b7)
        have HG7 := Lib.hid (HG6.out.below b7)
        have HB7 := Lib.hid (HB6.out.trans (b7.mono hi3))
        have hi4 := HB7.out.size
        clear HP7 HB4 HB5 HB6 hi1 hi2 hi3 b7 HG6 HP6 HE56 HE6
        go_wp2_with fail
        go_loopw [90, 14] (fun i x wz => ∃ (m : Nat), m ≤ us.length ∧ i = .int .i64 m ∧ Got wz go us.length wL.heap.size ∧ Below wL.heap.size wL wz) (fun i _ _ => us.length - (intOf i).toNat)
        case atStart => exact ⟨0, Nat.zero_le _, rfl, HG7.out, HB7.out⟩
        case round =>
          obtain ⟨m, hm, rfl, G, bz⟩ := hrel
          clear HG7 HB7
          by_cases hml : m < us.length
          · obtain ⟨g, gcap, gf, hgo, g1, g2, g3⟩ := G m hml
            subst hgo
            have c0 := g3.cell (i := m * 5 + 4) (by omega)
            have c1 := g3.frozen (m * 5 + 4)
            have GS := G.set (m * 5 + 4) (.int .i64 (-1))
            have BS := bz.setCell (p := ⟨g, m * 5 + 4, none⟩) g1 (.int .i64 (-1))
            have HGS := Lib.hid GS
            have HBS := Lib.hid BS
            clear G bz g3 GS BS
            go_wp2_with fail
            all_goals exact ⟨⟨m + 1, by omega, rfl, HGS.out, HBS.out⟩, by simp [intOf]; omega⟩
          · obtain rfl : m = us.length := by omega
            clear hml
            have HPZ := Lib.hid (HLT.out.below bz)
            have HBZ := Lib.hid bz
            clear G bz
            go_wp2_with fail
            refine (HLL.out _ HPZ.out).mono ?_
            rintro e y5 ⟨v5, rfl, own5, b5⟩
            obtain ⟨a5, c5, rfl, E5⟩ := ents_of own5
            have HP5 := Lib.hid (HPZ.out.below b5)
            have HE5 := Lib.hid E5
            have HB5 := Lib.hid (HBZ.out.trans (b5.mono HBZ.out.size))
            clear own5 b5 E5 HPZ HBZ
            go_wp2_with fail
            refine (HRR.out y5 HP5.out).mono ?_
            rintro e y6 ⟨a6, c6, rfl, E6, b6⟩
            have HE56 := Lib.hid (HE5.out.below b6)
            have HE6 := Lib.hid E6
            have HB6 := Lib.hid (HB5.out.trans (b6.mono HB5.out.size))
            clear b6 E6 HP5 HE5 HB5
            go_wp2_with fail
            refine (same_ok a5 a6 c5 c6 us y6 HE56.out HE6.out (by omega)).mono ?_
            rintro e y7 ⟨rfl, b7⟩
            have HB7 := Lib.hid (HB6.out.trans (b7.mono HB6.out.size))
            clear b7 HE56 HE6 HB6
            go_wp2_with fail
            go_ret
            exact ⟨rfl, HLT.out.bel.trans (HB7.out.mono HLT.out.bel.size)⟩
end Go.Proofs.Ytjkaegdlpmpneaa
