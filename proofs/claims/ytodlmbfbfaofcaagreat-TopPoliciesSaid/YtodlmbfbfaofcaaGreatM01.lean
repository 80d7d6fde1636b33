/- TopPolicies, part 1. -/
import Derived.Below
import Derived.WalkKit
namespace Go.Proofs.YtodlmbfbfaofcaaGreat
set_option linter.unusedVariables false
set_option linter.unusedSimpArgs false
set_option maxRecDepth 100000
open Go.RowKit
theorem zA {p : Prop} (h : p) : Hid p := h
theorem gsi {α} {xs : Array α} {i : Nat} {b : α} : xs[i]? = some b ↔ ∃ h : i < xs.size, xs[i] = b := Array.getElem?_eq_some_iff
theorem zP : (∀ (a : Act) (v : Value), a.put none v = a) ∧ (∀ (a : Act) (d : Tmp) (v : Value), a.put (some d) v = { a with tmps := a.tmps.setIfInBounds d v }) ∧ (∀ (xs : List Value) (i : Nat) (a : Value), xs.toArray.setIfInBounds i a = (xs.set i a).toArray) ∧ (∀ (xs : List Value) (a b : Value), (a :: xs).set 0 b = b :: xs) ∧ ∀ (xs : List Value) (a b : Value) (i : Nat), (a :: xs).set (i + 1) b = a :: xs.set i b :=
  ⟨fun _ _ => rfl, fun _ _ _ => rfl, by simp, by simp, by simp⟩
theorem yG {P : Program} {fn : Func} {R : Ending → World → Prop} {a : Act} {w : World} (h : fn.results = #[]) (hR : R (.returned (.tuple #[])) w) (hd : a.defers = [] := by rfl) : bodyPost P fn R .normal a w := bodyPost_end (results_none h _ _ _) hd hR
theorem bn (w : World) (o : Obj) : Below w.heap.size w (w.alloc o) := (Below.refl _ _).alloc (Nat.le_refl _) o
/-- Rows of values,by their shapes: each stands for the row that its instance names. -/
inductive Rw where
 | Qe (a0 a1 a2 a3 a4 a5 a6 a7 a8 a9 a10 a11 a12:Int)
 | Qn (a0 a1 a2 a3 a4 a5 a6 a7 a8 a9 a10 a11 a12:Int)
 | Qs (a0 a1 a2 a3 a4 a5 a6 a7 a8 a9 a10 a11 a12:Int) (s0:Value)
 | Qt (a0 a1 a2 a3 a4 a5 a6 a7 a8 a9 a10 a11 a12:Int) (s0:Value)
 | Qr (a0 a1 a2 a3 a4 a5 a6 a7 a8 a9 a10 a11 a12:Int) (s0:Value)
 | Qx (a0 a1 a2 a3 a4 a5 a6 a7 a8 a9 a10 a11 a12:Int) (s0 s1 s2:Value)
 | Qw (a0 a1 a2 a3 a4 a5 a6 a7:Int) (s0:Value)
 | Qv (a0 a1 a2 a3 a4 a5 a6 a7:Int)
 | Qg (a0 a1 a2 a3 a4 a5 a6:Int)
 | Qk (a0 a1 a2 a3 a4 a5 a6 a7 a8 a9 a10:Int)
 | Qb (a0:Bool) (a1 a2 a3 a4 a5 a6 a7 a8 a9 a10 a11 a12:Int)
 | Qc (a0 a1 a2 a3 a4 a5 a6 a7 a8 a9 a10:Int)
 | Qd (a0 a1 a2 a3 a4 a5 a6 a7 a8:Int)
 | Qi (a0 a1:Int)
 | Qj (a0 a1 a2:Int)
 | Qo (a0:Int)
 | Qy (a0 a1 a2 a3 a4 a5 a6 a7 a8 a9 a10 a11 a12:Int) (s0:Value)
 | Qeh (a0 a1 a2 a3 a4 a5:Int)
 | Qei (a0 a1 a2 a3 a4:Int)
 | Qen
 | Qnj (a0 a1 a2 a3:Int)
 | Qnk (a0 a1 a2:Int)
 | Qnn
 | Qtk (a0 a1 a2:Int) (s0:Value)
 | Qri (a0 a1 a2 a3 a4:Int) (s0:Value)
 | Qrj (a0 a1 a2 a3:Int) (s0:Value)
 | Qrk (a0 a1 a2:Int) (s0:Value)
 | Qgh
 | Qkh (a0 a1 a2 a3:Int)
 | Qki (a0 a1 a2:Int)
 | Qkl
 | Qbm (a0:Bool)
 | Qcd (a0 a1 a2 a3 a4 a5 a6 a7:Int)
 | Qdd (a0 a1 a2 a3 a4 a5:Int)
 | Qu (U:Nat→Nat) (b:Option Addr) (n c:Nat)
 | Qfa
 | Qfb
 | Qfc
 | Qfd
 | Qsu (a b c d:Int) (U:Nat→Nat) (s:Value)
 | Qp (g:Nat)
 | Qm (f:Nat)
open Rw
instance (a0 a1 a2 a3 a4 a5 a6 a7 a8 a9 a10 a11 a12:Int):CoeDep Rw (Qe a0 a1 a2 a3 a4 a5 a6 a7 a8 a9 a10 a11 a12) (Array Value):=⟨#[.int .i64 a0,.int .i64 a1,.int .i64 a2,.int .i64 a3,.int .i64 a4,.int .i64 a5,.int .i64 a6,.int .i64 a7,.int .i64 a8,.int .i64 a9,.int .i64 a10,.int .i64 a11,.int .i64 a12,.slice none 0 0]⟩
instance (a0 a1 a2 a3 a4 a5 a6 a7 a8 a9 a10 a11 a12:Int):CoeDep Rw (Qn a0 a1 a2 a3 a4 a5 a6 a7 a8 a9 a10 a11 a12) (Array Value):=⟨#[.int .i64 a0,.int .i64 a1,.int .i64 a2,.int .i64 a3,.int .i64 a4,.int .i64 a5,.int .i64 a6,.int .i64 a7,.int .i64 a8,.int .i64 a9,.int .i64 a10,.int .i64 a11,.int .i64 a12,.slice none 0 0,.slice none 0 0,.slice none 0 0]⟩
instance (a0 a1 a2 a3 a4 a5 a6 a7 a8 a9 a10 a11 a12:Int) (s0:Value):CoeDep Rw (Qs a0 a1 a2 a3 a4 a5 a6 a7 a8 a9 a10 a11 a12 s0) (Array Value):=⟨#[.int .i64 a0,.int .i64 a1,.int .i64 a2,.int .i64 a3,.int .i64 a4,.int .i64 a5,.int .i64 a6,.int .i64 a7,.int .i64 a8,.int .i64 a9,.int .i64 a10,.int .i64 a11,.int .i64 a12,s0,.slice none 0 0,.slice none 0 0]⟩
instance (a0 a1 a2 a3 a4 a5 a6 a7 a8 a9 a10 a11 a12:Int) (s0:Value):CoeDep Rw (Qt a0 a1 a2 a3 a4 a5 a6 a7 a8 a9 a10 a11 a12 s0) (Array Value):=⟨#[.int .i64 a0,.int .i64 a1,.int .i64 a2,.int .i64 a3,.int .i64 a4,.int .i64 a5,.int .i64 a6,.int .i64 a7,.int .i64 a8,.int .i64 a9,.int .i64 a10,.int .i64 a11,.int .i64 a12,.slice none 0 0,s0,.slice none 0 0]⟩
instance (a0 a1 a2 a3 a4 a5 a6 a7 a8 a9 a10 a11 a12:Int) (s0:Value):CoeDep Rw (Qr a0 a1 a2 a3 a4 a5 a6 a7 a8 a9 a10 a11 a12 s0) (Array Value):=⟨#[.int .i64 a0,.int .i64 a1,.int .i64 a2,.int .i64 a3,.int .i64 a4,.int .i64 a5,.int .i64 a6,.int .i64 a7,.int .i64 a8,.int .i64 a9,.int .i64 a10,.int .i64 a11,.int .i64 a12,.slice none 0 0,.slice none 0 0,s0]⟩
instance (a0 a1 a2 a3 a4 a5 a6 a7 a8 a9 a10 a11 a12:Int) (s0 s1 s2:Value):CoeDep Rw (Qx a0 a1 a2 a3 a4 a5 a6 a7 a8 a9 a10 a11 a12 s0 s1 s2) (Array Value):=⟨#[.int .i64 a0,.int .i64 a1,.int .i64 a2,.int .i64 a3,.int .i64 a4,.int .i64 a5,.int .i64 a6,.int .i64 a7,.int .i64 a8,.int .i64 a9,.int .i64 a10,.int .i64 a11,.int .i64 a12,s0,s1,s2]⟩
instance (a0 a1 a2 a3 a4 a5 a6 a7:Int) (s0:Value):CoeDep Rw (Qw a0 a1 a2 a3 a4 a5 a6 a7 s0) (Array Value):=⟨#[.int .i64 a0,.int .i64 a1,.int .i64 a2,.int .i64 a3,.int .i64 a4,.int .i64 a5,.int .i64 a6,.int .i64 a7,s0]⟩
instance (a0 a1 a2 a3 a4 a5 a6 a7:Int):CoeDep Rw (Qv a0 a1 a2 a3 a4 a5 a6 a7) (Array Value):=⟨#[.int .i64 a0,.int .i64 a1,.int .i64 a2,.int .i64 a3,.int .i64 a4,.int .i64 a5,.int .i64 a6,.int .i64 a7,.slice none 0 0]⟩
instance (a0 a1 a2 a3 a4 a5 a6:Int):CoeDep Rw (Qg a0 a1 a2 a3 a4 a5 a6) (Array Value):=⟨#[.int .i64 a0,.int .i64 a1,.int .i64 a2,.int .i64 a3,.int .i64 a4,.int .i64 a5,.int .i64 a6]⟩
instance (a0 a1 a2 a3 a4 a5 a6 a7 a8 a9 a10:Int):CoeDep Rw (Qk a0 a1 a2 a3 a4 a5 a6 a7 a8 a9 a10) (Array Value):=⟨#[.int .i64 a0,.int .i64 a1,.int .i64 a2,.int .i64 a3,.int .i64 a4,.int .i64 a5,.int .i64 a6,.int .i64 a7,.int .i64 a8,.int .i64 a9,.int .i64 a10]⟩
instance (a0:Bool) (a1 a2 a3 a4 a5 a6 a7 a8 a9 a10 a11 a12:Int):CoeDep Rw (Qb a0 a1 a2 a3 a4 a5 a6 a7 a8 a9 a10 a11 a12) (Array Value):=⟨#[.bool a0,.int .i64 a1,.int .i64 a2,.int .i64 a3,.int .i64 a4,.int .i64 a5,.int .i64 a6,.int .i64 a7,.int .i64 a8,.int .i64 a9,.int .i64 a10,.int .i64 a11,.int .i64 a12]⟩
instance (a0 a1 a2 a3 a4 a5 a6 a7 a8 a9 a10:Int):CoeDep Rw (Qc a0 a1 a2 a3 a4 a5 a6 a7 a8 a9 a10) (Array Value):=⟨#[.int .i64 a0,.int .i64 a1,.int .i64 a2,.int .i64 a3,.int .i64 a4,.int .i64 a5,.int .u64 a6,.int .u64 a7,.int .i64 a8,.int .i64 a9,.int .i64 a10]⟩
instance (a0 a1 a2 a3 a4 a5 a6 a7 a8:Int):CoeDep Rw (Qd a0 a1 a2 a3 a4 a5 a6 a7 a8) (Array Value):=⟨#[.int .i64 a0,.int .i64 a1,.int .i64 a2,.int .i64 a3,.int .u64 a4,.int .u64 a5,.int .i64 a6,.int .i64 a7,.int .i64 a8]⟩
instance (a0 a1:Int):CoeDep Rw (Qi a0 a1) (Array Value):=⟨#[.int .i64 a0,.int .i64 a1]⟩
instance (a0 a1 a2:Int):CoeDep Rw (Qj a0 a1 a2) (Array Value):=⟨#[.int .i64 a0,.int .i64 a1,.int .i64 a2]⟩
instance (a0:Int):CoeDep Rw (Qo a0) (Array Value):=⟨#[.int .i64 a0]⟩
instance (a0 a1 a2 a3 a4 a5 a6 a7 a8 a9 a10 a11 a12:Int) (s0:Value):CoeDep Rw (Qy a0 a1 a2 a3 a4 a5 a6 a7 a8 a9 a10 a11 a12 s0) (Array Value):=⟨#[.int .i64 a0,.int .i64 a1,.int .i64 a2,.int .i64 a3,.int .i64 a4,.int .i64 a5,.int .i64 a6,.int .i64 a7,.int .i64 a8,.int .i64 a9,.int .i64 a10,.int .i64 a11,.int .i64 a12,s0]⟩
instance (a0 a1 a2 a3 a4 a5:Int):CoeDep Rw (Qeh a0 a1 a2 a3 a4 a5) (Array Value):=⟨(Qe a0 a1 a2 a3 a4 a5 0 0 0 0 0 0 0)⟩
instance (a0 a1 a2 a3 a4:Int):CoeDep Rw (Qei a0 a1 a2 a3 a4) (Array Value):=⟨(Qe a0 a1 a2 a3 a4 0 0 0 0 0 0 0 0)⟩
instance:CoeDep Rw (Qen) (Array Value):=⟨(Qe 0 0 0 0 0 0 0 0 0 0 0 0 0)⟩
instance (a0 a1 a2 a3:Int):CoeDep Rw (Qnj a0 a1 a2 a3) (Array Value):=⟨(Qn a0 a1 a2 a3 0 0 0 0 0 0 0 0 0)⟩
instance (a0 a1 a2:Int):CoeDep Rw (Qnk a0 a1 a2) (Array Value):=⟨(Qn a0 a1 a2 0 0 0 0 0 0 0 0 0 0)⟩
instance:CoeDep Rw (Qnn) (Array Value):=⟨(Qn 0 0 0 0 0 0 0 0 0 0 0 0 0)⟩
instance (a0 a1 a2:Int) (s0:Value):CoeDep Rw (Qtk a0 a1 a2 s0) (Array Value):=⟨(Qt a0 a1 a2 0 0 0 0 0 0 0 0 0 0 s0)⟩
instance (a0 a1 a2 a3 a4:Int) (s0:Value):CoeDep Rw (Qri a0 a1 a2 a3 a4 s0) (Array Value):=⟨(Qr a0 a1 a2 a3 a4 0 0 0 0 0 0 0 0 s0)⟩
instance (a0 a1 a2 a3:Int) (s0:Value):CoeDep Rw (Qrj a0 a1 a2 a3 s0) (Array Value):=⟨(Qr a0 a1 a2 a3 0 0 0 0 0 0 0 0 0 s0)⟩
instance (a0 a1 a2:Int) (s0:Value):CoeDep Rw (Qrk a0 a1 a2 s0) (Array Value):=⟨(Qr a0 a1 a2 0 0 0 0 0 0 0 0 0 0 s0)⟩
instance:CoeDep Rw (Qgh) (Array Value):=⟨(Qg 0 0 0 0 0 0 0)⟩
instance (a0 a1 a2 a3:Int):CoeDep Rw (Qkh a0 a1 a2 a3) (Array Value):=⟨(Qk a0 a1 a2 a3 0 0 0 0 0 0 0)⟩
instance (a0 a1 a2:Int):CoeDep Rw (Qki a0 a1 a2) (Array Value):=⟨(Qk a0 a1 a2 0 0 0 0 0 0 0 0)⟩
instance:CoeDep Rw (Qkl) (Array Value):=⟨(Qk 0 0 0 0 0 0 0 0 0 0 0)⟩
instance (a0:Bool):CoeDep Rw (Qbm a0) (Array Value):=⟨(Qb a0 0 0 0 0 0 0 0 0 0 0 0 0)⟩
instance (a0 a1 a2 a3 a4 a5 a6 a7:Int):CoeDep Rw (Qcd a0 a1 a2 a3 a4 a5 a6 a7) (Array Value):=⟨(Qc a0 a1 a2 a3 a4 a5 a6 a7 0 0 0)⟩
instance (a0 a1 a2 a3 a4 a5:Int):CoeDep Rw (Qdd a0 a1 a2 a3 a4 a5) (Array Value):=⟨(Qd a0 a1 a2 a3 a4 a5 0 0 0)⟩
instance (U:Nat→Nat) (b:Option Addr) (n c:Nat):CoeDep Rw (Qu U b n c) (Array Value):=⟨#[.int .i64 (U 0),.int .i64 (U 1),.int .i64 (U 2),.int .i64 (U 3),.int .i64 (U 4),.int .i64 (U 5),.int .i64 (U 6),.int .i64 (U 7),.slice b n c]⟩
instance:CoeDep Rw Qfa (Array Value):=⟨#[.bool true,.bool false,.bool false,.bool false]⟩
instance:CoeDep Rw Qfb (Array Value):=⟨#[.bool false,.bool false,.bool false,.bool false,.bool true,.bool false,.bool false,.bool false,.bool true,.bool true,.bool false,.bool false,.bool true,.bool true,.bool false,.bool false,.bool true,.bool false,.bool true,.bool false,.bool false,.bool false,.bool false,.bool true]⟩
instance:CoeDep Rw Qfc (Array Value):=⟨#[.bool true,.bool false,.bool true,.bool false]⟩
instance:CoeDep Rw Qfd (Array Value):=⟨#[.bool false,.bool false,.bool false,.bool true]⟩
instance (a b c d:Int) (U:Nat→Nat) (s:Value):CoeDep Rw (Qsu a b c d U s) (Array Value):=⟨(Qs a b c d 0 (U 0) (U 1) (U 2) (U 3) (U 4) (U 5) (U 6) (U 7) s)⟩
instance (g:Nat):CoeDep Rw (Qp g) Value:=⟨.pointer (some ⟨g,0,none⟩)⟩
instance (f:Nat):CoeDep Rw (Qm f) Value:=⟨.func (.func f) #[] #[]⟩
end Go.Proofs.YtodlmbfbfaofcaaGreat
