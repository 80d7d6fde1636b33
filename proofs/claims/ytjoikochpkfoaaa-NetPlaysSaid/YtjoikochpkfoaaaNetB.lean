/- The map of those that are parted. -/
import Derived.Test.YtjoikochpkfoaaaNetA
namespace Go.Proofs.Ytjoikochpkfoaaa
open Go.RowKit
set_option linter.unusedVariables false

theorem equal61 (a b c d : Int) (w : World) : (Op.equal 61 (.agg #[.int .i64 a, .int .i64 b]) (.agg #[.int .i64 c, .int .i64 d])).run Try.prog w = .ok (a == c && b == d) w := by
  show (Op.equalIn 10000 61 _ _).run Try.prog w = _
  go_simp
  split
  · split <;> simp_all
  · simp_all
theorem check61 (e : Bool) (a b : Int) (w : World) : (Instr.checkKey e 10000 61 (.agg #[.int .i64 a, .int .i64 b])).run Try.prog w = .ok () w := by
  cases e <;> kernel_rfl

namespace Pl
/-- Who is parted: the pairs that were ever parted, and whether they still are. -/
abbrev Off := List (Int × Int × Bool)
def key (p : Int × Int × Bool) : Value := .agg #[.int .i64 p.1, .int .i64 p.2.1]
def look : Off → Int → Int → Bool
  | [], _, _ => false
  | p :: t, a, b => if a == p.1 && b == p.2.1 then p.2.2 else look t a b
def put : Off → Int → Int → Bool → Off
  | [], a, b, x => [(a, b, x)]
  | p :: t, a, b, x => if a == p.1 && b == p.2.1 then (a, b, x) :: t else p :: put t a b x
theorem look_put (t : Off) (a b c d : Int) (x : Bool) : look (put t a b x) c d = if c == a && d == b then x else look t c d := by
  induction t with
  | nil => simp only [put, look]
  | cons p t ih =>
    unfold put
    split
    · rename_i h
      simp only [Bool.and_eq_true, beq_iff_eq] at h
      simp only [look, h.1, h.2]
      split <;> rfl
    · rename_i h
      simp only [look, ih]
      split
      · rename_i h1
        rw [if_neg]
        intro h2
        apply h
        simp only [Bool.and_eq_true, beq_iff_eq] at h1 h2 ⊢
        exact ⟨h2.1 ▸ h1.1, h2.2 ▸ h1.2⟩
      · rfl
end Pl

/-- The entries as the map lays them. -/
def Fits (es : List MapEntry) (T : Pl.Off) : Prop := es.map (fun e => (e.key, e.val)) = T.map (fun p => (Pl.key p, .bool p.2.2))

theorem run_find (a b : Int) (w : World) : ∀ (es : List MapEntry) (T : Pl.Off) (i : Nat), Fits es T →
    ∃ r, (Instr.findAsking 61 (.agg #[.int .i64 a, .int .i64 b]) es i).run Try.prog w = .ok r w ∧
      (r = none ∧ Pl.look T a b = false ∧ (∀ x, Pl.put T a b x = T ++ [(a, b, x)]) ∨
       ∃ k, k < es.length ∧ r = some (i + k, .bool (Pl.look T a b)) ∧ (es[k]?).map (·.key) = some (.agg #[.int .i64 a, .int .i64 b]) ∧ ∀ x, Pl.put T a b x = T.set k (a, b, x))
  | [], T, i, h => by
    have : T = [] := by unfold Fits at h; simpa using h.symm
    subst this
    exact ⟨none, rfl, .inl ⟨rfl, rfl, fun x => rfl⟩⟩
  | e :: es, T, i, h => by
    cases T with
    | nil => unfold Fits at h; simp at h
    | cons p T =>
      unfold Fits at h
      simp only [List.map_cons, List.cons.injEq, Prod.mk.injEq] at h
      obtain ⟨⟨hk, hv⟩, ht⟩ := h
      have heq := equal61 a b p.1 p.2.1 w
      by_cases hc : (a == p.1 && b == p.2.1) = true
      · refine ⟨some (i, e.val), ?_, .inr ⟨0, by simp, ?_, ?_, ?_⟩⟩
        · unfold Instr.findAsking
          rw [hk]
          unfold Pl.key
          simp [heq, hc]
        · simp only [Pl.look, if_pos hc, hv, Nat.add_zero]
        · simp only [Bool.and_eq_true, beq_iff_eq] at hc
          simp [hk, Pl.key, hc.1, hc.2]
        · intro x; simp only [Pl.put, if_pos hc, List.set_cons_zero]
      · obtain ⟨r, hr, hcase⟩ := run_find a b w es T (i + 1) ht
        refine ⟨r, ?_, ?_⟩
        · unfold Instr.findAsking
          rw [hk]
          unfold Pl.key
          simp only [Bool.not_eq_true] at hc
          simp [heq, hc, hr]
        · rcases hcase with ⟨rfl, h1, h2⟩ | ⟨k, hkl, rfl, h1, h2⟩
          · refine .inl ⟨rfl, ?_, ?_⟩
            · simp only [Pl.look, if_neg hc, h1]
            · intro x; simp only [Pl.put, if_neg hc, h2 x, List.cons_append]
          · refine .inr ⟨k + 1, by simp; omega, ?_, ?_, ?_⟩
            · simp only [Pl.look, if_neg hc]; congr 2; omega
            · simpa using h1
            · intro x; simp only [Pl.put, if_neg hc, h2 x, List.set_cons_succ]

/-- Block mb is the map. -/
def MapAt (w : World) (mb : Nat) (T : Pl.Off) : Prop := ∃ es clock, w.heap[mb]? = some (.map es clock) ∧ Fits es.toList T

theorem check61' (e : Bool) (a b : Int) (w : World) : (Instr.checkKey e 10000 61 (.agg #[.int .i64 a, .int .i64 b])).run Try.prog w = .ok () w := check61 e a b w
theorem find61 (a b : Int) (w : World) (es : List MapEntry) (T : Pl.Off) (h : Fits es T) :
    ∃ r, (Instr.findKey 61 (.agg #[.int .i64 a, .int .i64 b]) es).run Try.prog w = .ok r w ∧
      (r = none ∧ Pl.look T a b = false ∧ (∀ x, Pl.put T a b x = T ++ [(a, b, x)]) ∨
       ∃ k, k < es.length ∧ r = some (k, .bool (Pl.look T a b)) ∧ (es[k]?).map (·.key) = some (.agg #[.int .i64 a, .int .i64 b]) ∧ ∀ x, Pl.put T a b x = T.set k (a, b, x)) := by
  obtain ⟨r, hr, hc⟩ := run_find a b w es T 0 h
  simp only [Nat.zero_add] at hc
  refine ⟨r, ?_, hc⟩
  unfold Instr.findKey
  simp only [Sem.run_bind, run_underlying Try.underlying61, Result.andThen]
  cases es with
  | nil =>
    rcases hc with ⟨rfl, _, _⟩ | ⟨k, hk, _⟩
    · rfl
    · exact absurd hk (by simp)
  | cons e es => exact hr

theorem run_lookup {w : World} {mb : Nat} {T : Pl.Off} (h : MapAt w mb T) (a b : Int) :
    (Instr.lookup 56 (.map (some mb)) (.agg #[.int .i64 a, .int .i64 b]) false).run Try.prog w = .ok (.bool (Pl.look T a b)) w := by
  obtain ⟨es, clock, hb, hf⟩ := h
  obtain ⟨r, hr, hc⟩ := find61 a b w es.toList T hf
  have hz : ∀ w, (zeroValue 4).run Try.prog w = .ok (.bool false) w := fun _ => by kernel_rfl
  have hg : (getObj mb).run Try.prog w = .ok (.map es clock) w := by simp [getObj, Sem.run, hb]
  unfold Instr.lookup
  rcases hc with ⟨rfl, h1, _⟩ | ⟨k, hk, rfl, _, _⟩
  · simp [run_underlying Try.underlying56, hg, check61, hr, hz, h1]
  · simp [run_underlying Try.underlying56, hg, check61, hr]

/-- One block laid anew. -/
def setBlk (w : World) (b : Nat) (o : Obj) : World := { w with heap := w.heap.setIfInBounds b o }
theorem setBlk_heap (w : World) (b : Nat) (o : Obj) {i : Nat} (h : i ≠ b) : (setBlk w b o).heap[i]? = w.heap[i]? := by
  unfold setBlk; exact Array.getElem?_setIfInBounds_ne (Ne.symm h)
theorem setBlk_same {w : World} {b : Nat} {o' : Obj} (h : w.heap[b]? = some o') (o : Obj) : (setBlk w b o).heap[b]? = some o := by
  unfold setBlk; exact Array.getElem?_setIfInBounds_self_of_lt (Array.getElem?_eq_some_iff.1 h).1
theorem setBlk_size (w : World) (b : Nat) (o : Obj) : (setBlk w b o).heap.size = w.heap.size := by unfold setBlk; simp

theorem run_update {w : World} {mb : Nat} {T : Pl.Off} (h : MapAt w mb T) (a b : Int) (x : Bool) :
    ∃ o, (Instr.mapUpdate 56 (.map (some mb)) (.agg #[.int .i64 a, .int .i64 b]) (.bool x)).run Try.prog w = .ok () (setBlk w mb o) ∧ MapAt (setBlk w mb o) mb (Pl.put T a b x) := by
  obtain ⟨es, clock, hb, hf⟩ := h
  obtain ⟨r, hr, hc⟩ := find61 a b w es.toList T hf
  have hg : (getObj mb).run Try.prog w = .ok (.map es clock) w := by simp [getObj, Sem.run, hb]
  have hs : ∀ o, (setObj mb o).run Try.prog w = .ok () (setBlk w mb o) := fun o => by simp [setObj, Sem.run, hb, setBlk]
  unfold Instr.mapUpdate
  rcases hc with ⟨rfl, h1, h2⟩ | ⟨k, hk, rfl, h1, h2⟩
  · refine ⟨.map (es.push { key := .agg #[.int .i64 a, .int .i64 b], val := .bool x, born := clock }) (clock + 1), ?_, ?_⟩
    · simp [run_underlying Try.underlying56, hg, check61, hr, hs]
    · refine ⟨_, _, setBlk_same hb _, ?_⟩
      unfold Fits at hf ⊢
      rw [h2 x, Array.toList_push, List.map_append, List.map_append, hf]
      rfl
  · have hkey : (((es[k]?).map (·.key)).getD (.agg #[.int .i64 a, .int .i64 b])) = .agg #[.int .i64 a, .int .i64 b] := by
      rw [← Array.getElem?_toList, h1]; rfl
    refine ⟨.map (es.modify k fun e => { e with key := .agg #[.int .i64 a, .int .i64 b], val := .bool x }) clock, ?_, ?_⟩
    · have hst : (Instr.keyThatStays (.agg #[.int .i64 a, .int .i64 b]) (.agg #[.int .i64 a, .int .i64 b])).run Try.prog w = .ok (.agg #[.int .i64 a, .int .i64 b]) w := by
        unfold Instr.keyThatStays
        rw [if_pos (by simp [Instr.sameBits])]
        rfl
      simp [run_underlying Try.underlying56, hg, check61, hr, hkey, hst, hs]
    · refine ⟨_, _, setBlk_same hb _, ?_⟩
      unfold Fits at hf ⊢
      rw [h2 x, Array.toList_modify]
      apply List.ext_getElem?
      intro i
      have hi := congrArg (fun l => l[i]?) hf
      simp only [List.getElem?_map] at hi
      rw [List.getElem?_map, List.getElem?_map, List.getElem?_modify, List.getElem?_set]
      by_cases hik : k = i
      · subst hik
        have hlt : k < T.length := by
          have := congrArg List.length hf
          simp at this; simp at hk; omega
        simp only [if_true, hlt]
        have hk' : k < es.toList.length := hk
        rw [List.getElem?_eq_getElem hk']
        rfl
      · simp only [if_neg hik]
        rw [← hi]
        cases es.toList[i]? <;> rfl
end Go.Proofs.Ytjoikochpkfoaaa
