/- The walks of Stable, of the program and of the reference. -/
import Derived.Test.YtldgnkceecgacaaSatB
import Derived.Laws.AppendOwnNone
import Derived.Deep.AppendLies
import Derived.OpenShut
namespace Go.Proofs.Ytldgnkceecgacaa
open Go.RowKit
set_option linter.unusedVariables false

namespace Pl
/-- The greatest of a number and of a list. -/
def mx (a : Int) (l : List Int) : Int := l.foldl (fun m x => if m < x then x else m) a
theorem mx_snoc (a : Int) (l : List Int) (x : Int) : mx a (l ++ [x]) = if mx a l < x then x else mx a l := by unfold mx; rw [List.foldl_append]; rfl
theorem mx_take (a : Int) (l : List Int) (k : Nat) (h : k < l.length) : mx a (l.take (k + 1)) = if mx a (l.take k) < l[k] then l[k] else mx a (l.take k) := by
  rw [List.take_succ_eq_append_getElem h, mx_snoc]
theorem mx_ge (a : Int) (l : List Int) : a ≤ mx a l := by
  have h : ∀ (l : List Int) (a : Int), a ≤ l.foldl (fun m x => if m < x then x else m) a := by
    intro l
    induction l with
    | nil => intro a; exact Int.le_refl _
    | cons x l ih =>
      intro a
      simp only [List.foldl_cons]
      have := ih (if a < x then x else a)
      split at this <;> split <;> omega
  exact h l a
def stableF (l : List Int) (want now : Int) : Int := if now ≤ want then want else if now < mx want l then now else mx want l
theorem stableF_up {l : List Int} {want now : Int} (h : now ≤ want) : stableF l want now = want := by unfold stableF; rw [if_pos h]
theorem stableF_mid {l : List Int} {want now : Int} (h : want < now) : want ≤ stableF l want now ∧ stableF l want now ≤ now := by
  have := mx_ge want l
  unfold stableF; rw [if_neg (by omega)]; split <;> omega
end Pl

/-- A slice of ints, as it lies in the world. -/
def IntsAt (w : World) (ao : Option Addr) (cap : Nat) (zs : List Int) : Prop :=
  (ao = none → zs.length = 0 ∧ cap = 0) ∧ (0 < zs.length → ∃ b off, ao = some ⟨b, off, none⟩ ∧ b < w.heap.size ∧ ∀ j (h : j < zs.length), w.cell? ⟨b, off + j, none⟩ = some (.int .i64 zs[j]))
theorem IntsAt.below {w w' : World} {ao : Option Addr} {cap : Nat} {zs : List Int} (h : IntsAt w ao cap zs) (hb : Below w.heap.size w w') : IntsAt w' ao cap zs := by
  refine ⟨h.1, fun hp => ?_⟩
  obtain ⟨b, off, h1, h2, h3⟩ := h.2 hp
  exact ⟨b, off, h1, Nat.lt_of_lt_of_le h2 hb.size, fun j hj => (hb.cell (by exact h2)).trans (h3 j hj)⟩
theorem IntsAt.src {w : World} {ao : Option Addr} {cap : Nat} {zs : List Int} (h : IntsAt w ao cap zs) : ∀ ad, ao = some ad → ∀ j u, (zs.map (Value.int .i64))[j]? = some u → w.cell? (ad.add j) = some u := by
  intro ad ha j u hu
  have hj : j < zs.length := by
    have := (List.getElem?_eq_some_iff.1 hu).1
    simpa using this
  obtain ⟨b, off, h1, h2, h3⟩ := h.2 (by omega)
  rw [ha] at h1
  obtain rfl := Option.some.inj h1
  rw [Go.WideShapes.add_plain, h3 j hj]
  rw [List.getElem?_map, List.getElem?_eq_getElem hj] at hu
  simpa using hu

/-- An append to what the call owns, out of whatever slice. -/
theorem wpList_append_src {P : Program} (w : World) {ops : Array Oper} {rest : List Oper} {o : Oper} {a : Act} {Q : Exit → Act → World → Prop} (hgd : o.guard = none) (s x : Operand) (t : TypeId)
    (ho : o.op = .call { callee := .builtin .append, args := #[s, x], argTypes := #[t, t] })
    (base : Nat) (e : TypeId) (i : TypeInfo) (z : Value) (size bytes : Nat) (ht : P.underlying t = some (.slice e)) (hi : P.info? e = some i) (hz : i.zero = some z)
    (hsize : i.size = size) (hby : i.bytes = bytes) (hzs : z.cells.size = size) (hsz : 0 < size)
    (v : Value) (n : Nat) (xs : List Value) (hs : a.eval s = v) (hown : w.ownsRow base e size v n xs)
    (ao : Option Addr) (m c : Nat) (news : List Value) (hx : a.eval x = .slice ao m c) (hl : news.length = m * size) (hnone : ao = none → m = 0 ∧ c = 0)
    (hnews : ∀ ad, ao = some ad → ∀ j u, news[j]? = some u → w.cell? (ad.add j) = some u) (h1 : ∀ u ∈ news, u.oneCell' = true)
    (h63 : n + m ≤ maxLen) (hbytes : (n + m) * bytes ≤ 140737488355328) (hbase : base ≤ w.heap.size)
    (h : ∀ v' w', w'.ownsRow base e size v' (n + m) (xs ++ news) → w.grownBy w' v.ownBlock → wpList P ops Q rest (a.put o.dst v') w') : wpList P ops Q (o :: rest) a w := by
  cases ao with
  | some ad => exact wpList_append_own w hgd s x t ho base e i z size bytes ht hi hz hsize hby hzs hsz v n xs hs hown ad m c news hx hl (hnews ad rfl) h1 h63 hbytes hbase (fun v' w' h2 h3 _ => h v' w' h2 h3)
  | none =>
    obtain ⟨rfl, rfl⟩ := hnone rfl
    have hnews' : news = [] := List.eq_nil_of_length_eq_zero (by simpa using hl)
    subst hnews'
    refine wpList_plain hgd fun K hK' => ?_
    have hrun := run_append_owned_none (P := P) w base t o.type e i size ht hi v n xs hown
    unfold Oper.wp
    simp [execOp, ho, resolve, invoke, builtin, hs, hx, hrun, Result.andThen]
    exact hK' _ _ (h v w (by simpa using hown) ⟨rfl, rfl, rfl, Nat.le_refl _, fun _ _ _ => rfl⟩)

theorem info3 : (Try.prog.info? 3).map (fun i => (i.zero, i.size, i.bytes)) = some (some (.int .i64 0), 1, 8) := by kernel_rfl

/-- The library's Max at a row of ints that is not empty. -/
theorem max_any (b off cap : Nat) (a : Int) (zs : List Int) (w : World) (hlen : zs.length ≤ 1000000) (hc : ∀ j (h : j < (a :: zs).length), w.cell? ⟨b, off + j, none⟩ = some (.int .i64 (a :: zs)[j])) :
    Calls Try.prog 43 #[.slice (some ⟨b, off, none⟩) (zs.length + 1) cap] w fun e w' => e = .returned (.int .i64 (Pl.mx a zs)) ∧ w = w' := by
  have h0 : w.cell? ⟨b, off, none⟩ = some (.int .i64 a) := hc 0 (by simp)
  go_enter Try.func43, Try.ntmps43
  go_wp2
  go_loop [3, 4] (fun m i => ∃ k : Nat, k ≤ zs.length ∧ i = .int .i64 (k + 1 : Nat) ∧ m = .int .i64 (Pl.mx a (zs.take k))) (fun _ i => zs.length + 1 - (intOf i).toNat)
  case atStart => exact ⟨0, Nat.zero_le _, rfl, rfl⟩
  case round =>
    obtain ⟨k, hk, rfl, rfl⟩ := hrel
    by_cases hlt : k < zs.length
    · have hcell : w.cell? ⟨b, off + (k + 1), none⟩ = some (.int .i64 zs[k]) := hc (k + 1) (by simp; omega)
      have HS := Lib.hid (Pl.mx_take a zs k hlt)
      by_cases hm : Pl.mx a (zs.take k) < zs[k]
      · go_wp2
        go_round
        case rel => exact ⟨k + 1, by omega, by go_num, by rw [HS.out, if_pos hm]⟩
        case measure => simp [intOf]; omega
      · have hm' : zs[k] ≤ Pl.mx a (zs.take k) := by omega
        have HM := Lib.hid hm
        clear hm
        go_wp2
        go_round
        case rel => exact ⟨k + 1, by omega, by go_num, by rw [HS.out, if_neg HM.out]⟩
        case measure => simp [intOf]; omega
    · have HK : Hid (zs.take k = zs) := List.take_of_length_le (by omega)
      go_wp2
      go_ret
      exact ⟨ret_int (by rw [HK.out]), rfl⟩

set_option maxHeartbeats 400000 in
theorem stable_any (ao : Option Addr) (cap : Nat) (zs : List Int) (want now : Int) (w : World) (hlen : zs.length ≤ 1000) (hz : IntsAt w ao cap zs) :
    Calls Try.prog 31 #[.slice ao zs.length cap, .int .i64 want, .int .i64 now] w fun e w' => e = .returned (.int .i64 (Pl.stableF zs want now)) ∧ Below w.heap.size w w' := by
  by_cases h : now ≤ want
  · have H := Lib.hid (Pl.stableF_up (l := zs) h)
    clear hz
    go_enter Try.func31, Try.ntmps31
    go_wp2
    go_ret
    exact ⟨ret_int H.out.symm, Below.refl _ _⟩
  · have h' : want < now := by omega
    have H : Hid (Pl.stableF zs want now = if now < Pl.mx want zs then now else Pl.mx want zs) := by unfold Hid Pl.stableF; rw [if_neg h]
    clear h
    obtain ⟨i0, hi, hz0, hz1, hz2⟩ := info_parts info3
    have hb0 : Below w.heap.size w (w.alloc (.cells #[.int .i64 want] 3)) := (Below.refl _ _).alloc (Nat.le_refl _) _
    have hown : (w.alloc (.cells #[.int .i64 want] 3)).ownsRow w.heap.size 3 1 (.slice (some ⟨w.heap.size, 0, none⟩) 1 1) 1 [.int .i64 want] := World.ownsRow_lit w #[.int .i64 want] 1 (Nat.le_refl _) (by decide) rfl
    have hz1' := hz.below hb0
    have hnone := hz1'.1
    have hsrc := hz1'.src
    clear hz hz1'
    go_enter Try.func31, Try.ntmps31
    go_wp2_with (at_builtin; refine wpList_append_src _ rfl (.tmp 12) (.tmp 13) 43 rfl w.heap.size 3 i0 (.int .i64 0) 1 8 Try.underlying43 hi hz0 hz1 hz2 rfl (by decide) (.slice (some ⟨w.heap.size, 0, none⟩) 1 1) 1 [.int .i64 want] rfl hown ao zs.length cap (zs.map (Value.int .i64)) rfl (by simp) hnone hsrc (by intro u hu; obtain ⟨z, _, rfl⟩ := List.mem_map.1 hu; rfl) (by unfold maxLen; omega) (by omega) (by simp) ?_; intro v1 w1 hown1 hgrow1; obtain ⟨g, cp, rfl, hg1, hg2⟩ := hown1.form (by omega))
    have hb1 := hb0.grown hgrow1 (by simp) (fun j hj => (hown.lt j hj).1)
    clear hgrow1 hsrc hnone hown hb0
    have hcells : ∀ j (h : j < (want :: zs).length), w1.cell? ⟨g, 0 + j, none⟩ = some (.int .i64 (want :: zs)[j]) := by
      intro j hj
      rw [Nat.zero_add, hown1.cellAt j (by simp at hj; omega)]
      have : ([Value.int .i64 want] ++ zs.map (Value.int .i64)) = (want :: zs).map (Value.int .i64) := rfl
      rw [this, List.getElem?_map, List.getElem?_eq_getElem hj]
      rfl
    rw [Nat.add_comm 1 zs.length]
    refine (max_any g 0 cp want zs w1 (by omega) hcells).mono ?_
    rintro e w' ⟨rfl, rfl⟩
    generalize hm : Pl.mx want zs = m at *
    clear hm
    by_cases hq : now < m
    · have HF : Hid (Pl.stableF zs want now = now) := by rw [Hid, H.out, if_pos hq]
      go_wp2
      go_ret
      exact ⟨ret_int HF.out.symm, hb1⟩
    · have HF : Hid (Pl.stableF zs want now = m) := by rw [Hid, H.out, if_neg hq]
      go_wp2
      go_ret
      exact ⟨ret_int HF.out.symm, hb1⟩

set_option maxHeartbeats 400000 in
theorem stableR_any (ao : Option Addr) (cap : Nat) (zs : List Int) (want now : Int) (w : World) (hlen : zs.length ≤ 1000) (hz : IntsAt w ao cap zs) :
    Calls Try.prog 32 #[.slice ao zs.length cap, .int .i64 want, .int .i64 now] w fun e w' => e = .returned (.int .i64 (Pl.stableF zs want now)) ∧ w = w' := by
  by_cases h : now ≤ want
  · have H := Lib.hid (Pl.stableF_up (l := zs) h)
    clear hz
    go_enter Try.func32, Try.ntmps32
    go_wp2
    go_ret
    exact ⟨ret_int H.out.symm, rfl⟩
  · have h' : want < now := by omega
    have H : Hid (Pl.stableF zs want now = if now < Pl.mx want zs then now else Pl.mx want zs) := by unfold Hid Pl.stableF; rw [if_neg h]
    clear h
    have hz2 := Lib.hid hz.2
    clear hz
    go_enter Try.func32, Try.ntmps32
    go_wp2
    go_loop [1, 15] (fun m i => ∃ k : Nat, k ≤ zs.length ∧ i = .int .i64 k ∧ m = .int .i64 (Pl.mx want (zs.take k))) (fun _ i => zs.length - (intOf i).toNat)
    case atStart => exact ⟨0, Nat.zero_le _, rfl, rfl⟩
    case round =>
      obtain ⟨k, hk, rfl, rfl⟩ := hrel
      by_cases hlt : k < zs.length
      · obtain ⟨b, off, hao, hb, hc⟩ := hz2.out (by omega)
        have hcell := hc k hlt
        subst hao
        clear hc
        have HS := Lib.hid (Pl.mx_take want zs k hlt)
        by_cases hm : Pl.mx want (zs.take k) < zs[k]
        · go_wp2
          go_round
          case rel => exact ⟨k + 1, by omega, by go_num, by rw [HS.out, if_pos hm]⟩
          case measure => simp [intOf]; omega
        · have hm' : zs[k] ≤ Pl.mx want (zs.take k) := by omega
          have HM := Lib.hid hm
          clear hm
          go_wp2
          go_round
          case rel => exact ⟨k + 1, by omega, by go_num, by rw [HS.out, if_neg HM.out]⟩
          case measure => simp [intOf]; omega
      · have HK : Hid (zs.take k = zs) := List.take_of_length_le (by omega)
        rw [HK.out]
        generalize Pl.mx want zs = m at *
        by_cases hq : now < m
        · have HF : Hid (Pl.stableF zs want now = now) := by rw [Hid, H.out, if_pos hq]
          go_wp2
          go_ret
          exact ⟨ret_int HF.out.symm, rfl⟩
        · have HF : Hid (Pl.stableF zs want now = m) := by rw [Hid, H.out, if_neg hq]
          have hq' : m ≤ now := by omega
          clear hq
          go_wp2
          go_ret
          exact ⟨ret_int HF.out.symm, rfl⟩
end Go.Proofs.Ytldgnkceecgacaa
