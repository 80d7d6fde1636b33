/- The document's example. -/
import Derived.Test.YtjkaegdlpmpneaaFenO
namespace Go.Proofs.Ytjkaegdlpmpneaa
open Go.RowKit
set_option linter.unusedVariables false

theorem write_nil (x f r b : Int) (w : World) :
    Calls Try.prog 9 #[.pointer none, .int .i64 x, .int .i64 f, .int .i64 r, .int .i64 b] w fun e w' => e = .returned (.int .i64 1) ∧ Below w.heap.size w w' := by
  have hmf : ∀ (fn : Fn) (first cap : Array Value) (w : World), (Instr.makeFunc fn first cap).run Try.prog w = .ok (.func fn first cap) w := fun _ _ _ _ => rfl
  go_enter Try.func9, Try.ntmps9
  go_wp2_with (first | (go_at_call 19; refine (inB_any _ _ _ _).mono ?_; rintro e w' ⟨rfl, rfl⟩) | go_in)
  go_ret
  exact ⟨rfl, (((((Below.refl _ _).alloc (Nat.le_refl _) _).alloc (by simp) _).alloc (by simp; omega) _).alloc (by simp; omega) _).alloc (by simp; omega) _⟩

theorem Turned.below {w0 w w' : World} {B : Nat} {row : Option Nat} (t : Turned w w' B row) (h0 : Below w0.heap.size w0 w) (hB : w0.heap.size ≤ B) (hr : ∀ g, row = some g → w0.heap.size ≤ g) : Below w0.heap.size w0 w' := by
  have hs := h0.size
  refine ⟨t.rest.1.trans h0.os, t.rest.2.1.trans h0.tape, t.rest.2.2.trans h0.output, Nat.le_trans hs t.size, ?_⟩
  intro i hi
  exact (t.same i (by omega) (by omega) (fun e => by have := hr i e.symm; omega)).trans (h0.block i hi)

theorem alive_ok (w : World) : Calls Try.prog 6 #[] w fun e w' => e = .returned (.bool true) ∧ Below w.heap.size w w' := by
  go_enter Try.func6, Try.ntmps6
  go_wp2_with fail
  refine (new_any w).mono ?_
  rintro e w1 ⟨rfl, b1, s1, A1⟩
  go_wp2_with fail
  refine (write_any w.heap.size 0 none _ _ 3 0 5 1 w1 A1 (by decide)).mono ?_
  rintro e w2 ⟨rfl, row2, A2, t2, r2⟩
  rw [show Pl.code (fun _ => 0) 3 0 5 1 = 0 from by decide]
  have hb2 := t2.below b1 (Nat.le_refl _) (by simp)
  go_wp2_with fail
  refine (write_any w.heap.size 1 row2 _ _ 3 0 5 1 w2 A2 (by decide)).mono ?_
  rintro e w3 ⟨rfl, row3, A3, t3, r3⟩
  rw [show Pl.code (Pl.fen' (fun _ => 0) 3 0 5 1) 3 0 5 1 = 13 from by decide]
  have hb3 := t3.below hb2 (Nat.le_refl _) (fun g hg => by have := A2.row_lt g hg; omega)
  go_wp2_with fail
  refine (read_any w.heap.size 3 2 row3 _ _ w3 (by decide) A3).mono ?_
  rintro e w4 ⟨rfl, b4⟩
  rw [show Pl.rep' (Pl.rep' (fun _ => 0) (fun _ => 0) 3 0 5 1) (Pl.fen' (fun _ => 0) 3 0 5 1) 3 0 5 1 3 = 5 from by decide, show Pl.fen' (Pl.fen' (fun _ => 0) 3 0 5 1) 3 0 5 1 3 = 1 from by decide]
  have hs3 := hb3.size
  have hb4 := hb3.trans (b4.mono hs3)
  go_wp2_with fail
  refine (read_no w.heap.size 8 w4 (by decide)).mono ?_
  rintro e w5 ⟨rfl, b5⟩
  have hs4 := hb4.size
  have hb5 := hb4.trans (b5.mono hs4)
  clear A1 A2 A3 t2 t3 r2 r3
  go_wp2_with fail
  refine (write_nil 0 0 0 0 w5).mono ?_
  rintro e w6 ⟨rfl, b6⟩
  have hs5 := hb5.size
  have hb6 := hb5.trans (b6.mono hs5)
  go_wp2_with fail
  go_ret
  exact ⟨rfl, hb6⟩
end Go.Proofs.Ytjkaegdlpmpneaa
