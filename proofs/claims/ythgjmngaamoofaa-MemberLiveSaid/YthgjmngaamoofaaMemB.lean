/- The table in memory; Hear. -/
import Derived.Test.YthgjmngaamoofaaMemL
namespace Go.Proofs.Ythgjmngaamoofaa
open Go.RowKit
set_option linter.unusedVariables false

namespace Pl
structure Tab where
  known : Nat → Bool
  st : Nat → Int
  inc : Nat → Int
def Tab.none : Tab := ⟨fun _ => false, fun _ => 0, fun _ => 0⟩
def Tab.set (T : Tab) (k : Nat) (s i : Int) : Tab := ⟨fun j => if j = k then true else T.known j, fun j => if j = k then s else T.st j, fun j => if j = k then i else T.inc j⟩
/-- Is a word on a node news? -/
def Tab.news (T : Tab) (k : Nat) (s i : Int) : Bool := !(T.known k && decide (cmp s i (T.st k) (T.inc k) ≤ 0))
end Pl

/-- The table's cells. -/
structure TabAt (w : World) (B : Nat) (sf : Int) (T : Pl.Tab) : Prop where
  lt : B < w.heap.size
  own : w.cell? ⟨B, 0, none⟩ = some (.int .i64 sf)
  kn : ∀ k, k < 8 → w.cell? ⟨B, 1 + k, none⟩ = some (.bool (T.known k))
  no : ∀ k, k < 8 → w.cell? ⟨B, 9 + k * 3, none⟩ = some (.int .i64 (if T.known k then k else 0))
  st : ∀ k, k < 8 → w.cell? ⟨B, 9 + k * 3 + 1, none⟩ = some (.int .i64 (T.st k))
  inc : ∀ k, k < 8 → w.cell? ⟨B, 9 + k * 3 + 2, none⟩ = some (.int .i64 (T.inc k))
  fr : ∀ o, w.frozen? ⟨B, o, none⟩ = false

/-- The memory that stood, but for one object, is as it was. -/
structure Turned (w w' : World) (B : Nat) : Prop where
  size : w.heap.size ≤ w'.heap.size
  same : ∀ i, i < w.heap.size → i ≠ B → w'.heap[i]? = w.heap[i]?
  rest : w'.os = w.os ∧ w'.tape = w.tape ∧ w'.output = w.output
theorem Turned.of_below {w w' : World} {B : Nat} (h : Below w.heap.size w w') : Turned w w' B := ⟨h.size, fun i hi _ => h.block i hi, h.os, h.tape, h.output⟩
theorem Turned.below {w0 w w' : World} {B : Nat} (t : Turned w w' B) (h0 : Below w0.heap.size w0 w) (hB : w0.heap.size ≤ B) : Below w0.heap.size w0 w' := by
  have hs := h0.size
  refine ⟨t.rest.1.trans h0.os, t.rest.2.1.trans h0.tape, t.rest.2.2.trans h0.output, Nat.le_trans hs t.size, ?_⟩
  intro i hi
  exact (t.same i (by omega) (by omega)).trans (h0.block i hi)

theorem TabAt.kept {w w' : World} {B : Nat} {sf : Int} {T : Pl.Tab} (h : TabAt w B sf T) (hs : w.heap.size ≤ w'.heap.size) (h1 : w'.heap[B]? = w.heap[B]?) : TabAt w' B sf T :=
  ⟨Nat.lt_of_lt_of_le h.lt hs, (World.cell?_of_block h1).trans h.own, fun k hk => (World.cell?_of_block h1).trans (h.kn k hk), fun k hk => (World.cell?_of_block h1).trans (h.no k hk),
    fun k hk => (World.cell?_of_block h1).trans (h.st k hk), fun k hk => (World.cell?_of_block h1).trans (h.inc k hk), fun o => (World.frozen?_of_block h1).trans (h.fr o)⟩
theorem TabAt.below {w w' : World} {B : Nat} {sf : Int} {T : Pl.Tab} (h : TabAt w B sf T) (hb : Below w.heap.size w w') : TabAt w' B sf T := h.kept hb.size (hb.block B h.lt)

theorem hear_nil (n s i : Int) (w : World) : Calls Try.prog 6 #[.pointer none, .agg #[.int .i64 n, .int .i64 s, .int .i64 i]] w fun e w' => e = .returned (.tuple #[.bool false, .int .i64 1]) ∧ Below w.heap.size w w' := by
  go_enter Try.func6, Try.ntmps6
  go_wp2_with fail
  refine bodyPost_ret (v := .tuple #[.bool false, .int .i64 1]) (by simp [results, Try.results6, go_sem]) rfl ⟨rfl, ?_⟩
  exact ((Below.refl _ _).alloc (Nat.le_refl _) _).alloc (by simp) _

theorem hear_arg (B : Nat) (n s i : Int) (w : World) (h : Pl.may n s i = false) : Calls Try.prog 6 #[.pointer (some ⟨B, 0, none⟩), .agg #[.int .i64 n, .int .i64 s, .int .i64 i]] w fun e w' => e = .returned (.tuple #[.bool false, .int .i64 2]) ∧ Below w.heap.size w w' := by
  go_enter Try.func6, Try.ntmps6
  go_wp2_with fail
  refine (may_any n s i _).mono ?_
  rintro e w1 ⟨rfl, b1⟩
  rw [h]
  have b0 : Below w.heap.size w ((w.alloc (.cells #[.int .i64 n, .int .i64 s, .int .i64 i] 29)).alloc (.cells #[.int .i64 n, .int .i64 s, .int .i64 i] 40)) := ((Below.refl _ _).alloc (Nat.le_refl _) _).alloc (by simp) _
  have HB := Lib.hid (b0.trans (b1.mono b0.size))
  clear b0 b1
  go_wp2_with fail
  refine bodyPost_ret (v := .tuple #[.bool false, .int .i64 2]) (by simp [results, Try.results6, go_sem]) rfl ⟨rfl, HB.out⟩
end Go.Proofs.Ythgjmngaamoofaa
