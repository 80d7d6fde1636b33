/- TopLoads, part 1. -/
import Derived.Below
import Derived.BigQuiet
import Derived.BigRegion
import Derived.Deep.AppendLies
import Derived.Deep.OwnRows
import Derived.Deep.QuietTactic
import Derived.Deep.RegionHeld
import Derived.Deep.RegionHeld3
import Derived.Defers
import Derived.Lib.Hide
import Derived.OrdersHeld
import Derived.ProofKit
import Derived.Recover
import Derived.RowKit
import Derived.WalkKit
import Derived.WalkLawsBesides
import Derived.WalkSmall
import Derived.Test.YtodlmbfbfaofcaaGreatRows
open Go.Proofs.Tryz
namespace Go.Proofs.YtodlmbfbfaofcaaGreat
set_option linter.unusedVariables false
set_option linter.unusedSimpArgs false
set_option maxRecDepth 100000
set_option maxHeartbeats 600000
open Go.RowKit
theorem zA {p : Prop} (h : p) : Hid p := h
theorem gsi {α} {xs : Array α} {i : Nat} {b : α} : xs[i]? = some b ↔ ∃ h : i < xs.size, xs[i] = b := Array.getElem?_eq_some_iff
theorem zN : (∀ (a : Act) (v : Value), a.put none v = a) ∧ (∀ (a : Act) (d : Tmp) (v : Value), a.put (some d) v = { a with tmps := a.tmps.setIfInBounds d v }) ∧ (∀ (xs : List Value) (i : Nat) (a : Value), xs.toArray.setIfInBounds i a = (xs.set i a).toArray) ∧ (∀ (xs : List Value) (a b : Value), (a :: xs).set 0 b = b :: xs) ∧ ∀ (xs : List Value) (a b : Value) (i : Nat), (a :: xs).set (i + 1) b = a :: xs.set i b :=
  ⟨fun _ _ => rfl, fun _ _ _ => rfl, by simp, by simp, by simp⟩
theorem yD {P : Program} {fn : Func} {R : Ending → World → Prop} {a : Act} {w : World} (h : fn.results = #[]) (hR : R (.returned (.tuple #[])) w) (hd : a.defers = [] := by rfl) : bodyPost P fn R .normal a w := bodyPost_end (results_none h _ _ _) hd hR
theorem bn (w : World) (o : Obj) : Below w.heap.size w (w.alloc o) := (Below.refl _ _).alloc (Nat.le_refl _) o
/-- Rows of values,by their shapes: each stands for the row that its instance names. -/
inductive Rw where
 | Qe (a0 a1 a2 a3 a4 a5 a6 a7 a8 a9 a10 a11 a12:Int)
 | Qn (a0 a1 a2 a3 a4 a5 a6 a7 a8 a9 a10 a11 a12:Int)
 | Qs (a0 a1 a2 a3 a4 a5 a6 a7 a8 a9 a10 a11 a12:Int) (s0:Value)
 | Qt (a0 a1 a2 a3 a4 a5 a6 a7 a8 a9 a10 a11 a12:Int) (s0:Value)
 | Qr (a0 a1 a2 a3 a4 a5 a6 a7 a8 a9 a10 a11 a12:Int) (s0:Value)
 | Qx (a0 a1 a2 a3 a4 a5 a6 a7 a8 a9 a10 a11 a12:Int) (s0 s1 s2:Value)
 | Qw (a0 a1 a2 a3 a4 a5 a6 a7:Int) (s0:Value)
 | Qv (a0 a1 a2 a3 a4 a5 a6 a7:Int)
 | Qg (a0 a1 a2 a3 a4 a5 a6:Int)
 | Qk (a0 a1 a2 a3 a4 a5 a6 a7 a8 a9 a10:Int)
 | Qb (a0:Bool) (a1 a2 a3 a4 a5 a6 a7 a8 a9 a10 a11 a12:Int)
 | Qc (a0 a1 a2 a3 a4 a5 a6 a7 a8 a9 a10:Int)
 | Qd (a0 a1 a2 a3 a4 a5 a6 a7 a8:Int)
 | Qi (a0 a1:Int)
 | Qj (a0 a1 a2:Int)
 | Qo (a0:Int)
 | Qeh (a0 a1 a2 a3 a4 a5:Int)
 | Qen
 | Qnj (a0 a1 a2 a3:Int)
 | Qnk (a0 a1 a2:Int)
 | Qnn
 | Qtk (a0 a1 a2:Int) (s0:Value)
 | Qri (a0 a1 a2 a3 a4:Int) (s0:Value)
 | Qrj (a0 a1 a2 a3:Int) (s0:Value)
 | Qrk (a0 a1 a2:Int) (s0:Value)
 | Qgh
 | Qkh (a0 a1 a2 a3:Int)
 | Qki (a0 a1 a2:Int)
 | Qkl
 | Qbm (a0:Bool)
 | Qcd (a0 a1 a2 a3 a4 a5 a6 a7:Int)
 | Qdd (a0 a1 a2 a3 a4 a5:Int)
 | Qu (U:Nat→Nat) (b:Option Addr) (n c:Nat)
 | Qfa
 | Qfb
 | Qfc
 | Qfd
 | Qsu (a b c d:Int) (U:Nat→Nat) (s:Value)
 | Qp (g:Nat)
 | Qm (f:Nat)
open Rw
instance (a0 a1 a2 a3 a4 a5 a6 a7 a8 a9 a10 a11 a12:Int):CoeDep Rw (Qe a0 a1 a2 a3 a4 a5 a6 a7 a8 a9 a10 a11 a12) (Array Value):=⟨#[.int .i64 a0,.int .i64 a1,.int .i64 a2,.int .i64 a3,.int .i64 a4,.int .i64 a5,.int .i64 a6,.int .i64 a7,.int .i64 a8,.int .i64 a9,.int .i64 a10,.int .i64 a11,.int .i64 a12,.slice none 0 0]⟩
instance (a0 a1 a2 a3 a4 a5 a6 a7 a8 a9 a10 a11 a12:Int):CoeDep Rw (Qn a0 a1 a2 a3 a4 a5 a6 a7 a8 a9 a10 a11 a12) (Array Value):=⟨#[.int .i64 a0,.int .i64 a1,.int .i64 a2,.int .i64 a3,.int .i64 a4,.int .i64 a5,.int .i64 a6,.int .i64 a7,.int .i64 a8,.int .i64 a9,.int .i64 a10,.int .i64 a11,.int .i64 a12,.slice none 0 0,.slice none 0 0,.slice none 0 0]⟩
instance (a0 a1 a2 a3 a4 a5 a6 a7 a8 a9 a10 a11 a12:Int) (s0:Value):CoeDep Rw (Qs a0 a1 a2 a3 a4 a5 a6 a7 a8 a9 a10 a11 a12 s0) (Array Value):=⟨#[.int .i64 a0,.int .i64 a1,.int .i64 a2,.int .i64 a3,.int .i64 a4,.int .i64 a5,.int .i64 a6,.int .i64 a7,.int .i64 a8,.int .i64 a9,.int .i64 a10,.int .i64 a11,.int .i64 a12,s0,.slice none 0 0,.slice none 0 0]⟩
instance (a0 a1 a2 a3 a4 a5 a6 a7 a8 a9 a10 a11 a12:Int) (s0:Value):CoeDep Rw (Qt a0 a1 a2 a3 a4 a5 a6 a7 a8 a9 a10 a11 a12 s0) (Array Value):=⟨#[.int .i64 a0,.int .i64 a1,.int .i64 a2,.int .i64 a3,.int .i64 a4,.int .i64 a5,.int .i64 a6,.int .i64 a7,.int .i64 a8,.int .i64 a9,.int .i64 a10,.int .i64 a11,.int .i64 a12,.slice none 0 0,s0,.slice none 0 0]⟩
instance (a0 a1 a2 a3 a4 a5 a6 a7 a8 a9 a10 a11 a12:Int) (s0:Value):CoeDep Rw (Qr a0 a1 a2 a3 a4 a5 a6 a7 a8 a9 a10 a11 a12 s0) (Array Value):=⟨#[.int .i64 a0,.int .i64 a1,.int .i64 a2,.int .i64 a3,.int .i64 a4,.int .i64 a5,.int .i64 a6,.int .i64 a7,.int .i64 a8,.int .i64 a9,.int .i64 a10,.int .i64 a11,.int .i64 a12,.slice none 0 0,.slice none 0 0,s0]⟩
instance (a0 a1 a2 a3 a4 a5 a6 a7 a8 a9 a10 a11 a12:Int) (s0 s1 s2:Value):CoeDep Rw (Qx a0 a1 a2 a3 a4 a5 a6 a7 a8 a9 a10 a11 a12 s0 s1 s2) (Array Value):=⟨#[.int .i64 a0,.int .i64 a1,.int .i64 a2,.int .i64 a3,.int .i64 a4,.int .i64 a5,.int .i64 a6,.int .i64 a7,.int .i64 a8,.int .i64 a9,.int .i64 a10,.int .i64 a11,.int .i64 a12,s0,s1,s2]⟩
instance (a0 a1 a2 a3 a4 a5 a6 a7:Int) (s0:Value):CoeDep Rw (Qw a0 a1 a2 a3 a4 a5 a6 a7 s0) (Array Value):=⟨#[.int .i64 a0,.int .i64 a1,.int .i64 a2,.int .i64 a3,.int .i64 a4,.int .i64 a5,.int .i64 a6,.int .i64 a7,s0]⟩
instance (a0 a1 a2 a3 a4 a5 a6 a7:Int):CoeDep Rw (Qv a0 a1 a2 a3 a4 a5 a6 a7) (Array Value):=⟨#[.int .i64 a0,.int .i64 a1,.int .i64 a2,.int .i64 a3,.int .i64 a4,.int .i64 a5,.int .i64 a6,.int .i64 a7,.slice none 0 0]⟩
instance (a0 a1 a2 a3 a4 a5 a6:Int):CoeDep Rw (Qg a0 a1 a2 a3 a4 a5 a6) (Array Value):=⟨#[.int .i64 a0,.int .i64 a1,.int .i64 a2,.int .i64 a3,.int .i64 a4,.int .i64 a5,.int .i64 a6]⟩
instance (a0 a1 a2 a3 a4 a5 a6 a7 a8 a9 a10:Int):CoeDep Rw (Qk a0 a1 a2 a3 a4 a5 a6 a7 a8 a9 a10) (Array Value):=⟨#[.int .i64 a0,.int .i64 a1,.int .i64 a2,.int .i64 a3,.int .i64 a4,.int .i64 a5,.int .i64 a6,.int .i64 a7,.int .i64 a8,.int .i64 a9,.int .i64 a10]⟩
instance (a0:Bool) (a1 a2 a3 a4 a5 a6 a7 a8 a9 a10 a11 a12:Int):CoeDep Rw (Qb a0 a1 a2 a3 a4 a5 a6 a7 a8 a9 a10 a11 a12) (Array Value):=⟨#[.bool a0,.int .i64 a1,.int .i64 a2,.int .i64 a3,.int .i64 a4,.int .i64 a5,.int .i64 a6,.int .i64 a7,.int .i64 a8,.int .i64 a9,.int .i64 a10,.int .i64 a11,.int .i64 a12]⟩
instance (a0 a1 a2 a3 a4 a5 a6 a7 a8 a9 a10:Int):CoeDep Rw (Qc a0 a1 a2 a3 a4 a5 a6 a7 a8 a9 a10) (Array Value):=⟨#[.int .i64 a0,.int .i64 a1,.int .i64 a2,.int .i64 a3,.int .i64 a4,.int .i64 a5,.int .u64 a6,.int .u64 a7,.int .i64 a8,.int .i64 a9,.int .i64 a10]⟩
instance (a0 a1 a2 a3 a4 a5 a6 a7 a8:Int):CoeDep Rw (Qd a0 a1 a2 a3 a4 a5 a6 a7 a8) (Array Value):=⟨#[.int .i64 a0,.int .i64 a1,.int .i64 a2,.int .i64 a3,.int .u64 a4,.int .u64 a5,.int .i64 a6,.int .i64 a7,.int .i64 a8]⟩
instance (a0 a1:Int):CoeDep Rw (Qi a0 a1) (Array Value):=⟨#[.int .i64 a0,.int .i64 a1]⟩
instance (a0 a1 a2:Int):CoeDep Rw (Qj a0 a1 a2) (Array Value):=⟨#[.int .i64 a0,.int .i64 a1,.int .i64 a2]⟩
instance (a0:Int):CoeDep Rw (Qo a0) (Array Value):=⟨#[.int .i64 a0]⟩
instance (a0 a1 a2 a3 a4 a5:Int):CoeDep Rw (Qeh a0 a1 a2 a3 a4 a5) (Array Value):=⟨(Qe a0 a1 a2 a3 a4 a5 0 0 0 0 0 0 0)⟩
instance:CoeDep Rw (Qen) (Array Value):=⟨(Qe 0 0 0 0 0 0 0 0 0 0 0 0 0)⟩
instance (a0 a1 a2 a3:Int):CoeDep Rw (Qnj a0 a1 a2 a3) (Array Value):=⟨(Qn a0 a1 a2 a3 0 0 0 0 0 0 0 0 0)⟩
instance (a0 a1 a2:Int):CoeDep Rw (Qnk a0 a1 a2) (Array Value):=⟨(Qn a0 a1 a2 0 0 0 0 0 0 0 0 0 0)⟩
instance:CoeDep Rw (Qnn) (Array Value):=⟨(Qn 0 0 0 0 0 0 0 0 0 0 0 0 0)⟩
instance (a0 a1 a2:Int) (s0:Value):CoeDep Rw (Qtk a0 a1 a2 s0) (Array Value):=⟨(Qt a0 a1 a2 0 0 0 0 0 0 0 0 0 0 s0)⟩
instance (a0 a1 a2 a3 a4:Int) (s0:Value):CoeDep Rw (Qri a0 a1 a2 a3 a4 s0) (Array Value):=⟨(Qr a0 a1 a2 a3 a4 0 0 0 0 0 0 0 0 s0)⟩
instance (a0 a1 a2 a3:Int) (s0:Value):CoeDep Rw (Qrj a0 a1 a2 a3 s0) (Array Value):=⟨(Qr a0 a1 a2 a3 0 0 0 0 0 0 0 0 0 s0)⟩
instance (a0 a1 a2:Int) (s0:Value):CoeDep Rw (Qrk a0 a1 a2 s0) (Array Value):=⟨(Qr a0 a1 a2 0 0 0 0 0 0 0 0 0 0 s0)⟩
instance:CoeDep Rw (Qgh) (Array Value):=⟨(Qg 0 0 0 0 0 0 0)⟩
instance (a0 a1 a2 a3:Int):CoeDep Rw (Qkh a0 a1 a2 a3) (Array Value):=⟨(Qk a0 a1 a2 a3 0 0 0 0 0 0 0)⟩
instance (a0 a1 a2:Int):CoeDep Rw (Qki a0 a1 a2) (Array Value):=⟨(Qk a0 a1 a2 0 0 0 0 0 0 0 0)⟩
instance:CoeDep Rw (Qkl) (Array Value):=⟨(Qk 0 0 0 0 0 0 0 0 0 0 0)⟩
instance (a0:Bool):CoeDep Rw (Qbm a0) (Array Value):=⟨(Qb a0 0 0 0 0 0 0 0 0 0 0 0 0)⟩
instance (a0 a1 a2 a3 a4 a5 a6 a7:Int):CoeDep Rw (Qcd a0 a1 a2 a3 a4 a5 a6 a7) (Array Value):=⟨(Qc a0 a1 a2 a3 a4 a5 a6 a7 0 0 0)⟩
instance (a0 a1 a2 a3 a4 a5:Int):CoeDep Rw (Qdd a0 a1 a2 a3 a4 a5) (Array Value):=⟨(Qd a0 a1 a2 a3 a4 a5 0 0 0)⟩
instance (U:Nat→Nat) (b:Option Addr) (n c:Nat):CoeDep Rw (Qu U b n c) (Array Value):=⟨#[.int .i64 (U 0),.int .i64 (U 1),.int .i64 (U 2),.int .i64 (U 3),.int .i64 (U 4),.int .i64 (U 5),.int .i64 (U 6),.int .i64 (U 7),.slice b n c]⟩
instance:CoeDep Rw Qfa (Array Value):=⟨#[.bool true,.bool false,.bool false,.bool false]⟩
instance:CoeDep Rw Qfb (Array Value):=⟨#[.bool false,.bool false,.bool false,.bool false,.bool true,.bool false,.bool false,.bool false,.bool true,.bool true,.bool false,.bool false,.bool true,.bool true,.bool false,.bool false,.bool true,.bool false,.bool true,.bool false,.bool false,.bool false,.bool false,.bool true]⟩
instance:CoeDep Rw Qfc (Array Value):=⟨#[.bool true,.bool false,.bool true,.bool false]⟩
instance:CoeDep Rw Qfd (Array Value):=⟨#[.bool false,.bool false,.bool false,.bool true]⟩
instance (a b c d:Int) (U:Nat→Nat) (s:Value):CoeDep Rw (Qsu a b c d U s) (Array Value):=⟨(Qs a b c d 0 (U 0) (U 1) (U 2) (U 3) (U 4) (U 5) (U 6) (U 7) s)⟩
instance (g:Nat):CoeDep Rw (Qp g) Value:=⟨.pointer (some ⟨g,0,none⟩)⟩
instance (f:Nat):CoeDep Rw (Qm f) Value:=⟨.func (.func f) #[] #[]⟩
section
open Go.RowKit Rw
namespace Pl
def within (n lo hi:Int):Int:=if hi<n then hi else if n<lo then lo else n
def clamp (n:Int):Int:=within n (-1099511627776) 1099511627776
theorem clamp_bd (n:Int) : -1099511627776≤clamp n∧clamp n≤1099511627776:=by unfold clamp within;(repeat' split)<;>omega
def add (a b:Int):Int:=clamp (clamp a+clamp b)
def sub (a b:Int):Int:=clamp (clamp a - clamp b)
def cdiv (a b:Int):Int:= -((-a) / b)
def ceilQ (a b:Int):Int:=if clamp b≤0 then 0 else cdiv (clamp a) (clamp b)
def ceilE (b:Int):Int:=if clamp b≤0 then 2 else 0
theorem wrap_in {n:Int} (h : -9223372036854775808≤n) (h':n≤9223372036854775807):wrap64 n=n:=by unfold wrap64;omega
theorem rA {s y:Int} (hy:0<y) (h:s*y<y) (h' : -y<s*y):s=0:=by
 have h1:s<1:=by
  rcases Int.lt_or_le s 1 with h1 | h1
  ·exact h1
  ·have:=Int.mul_le_mul_of_nonneg_right h1 (Int.le_of_lt hy);omega
 have h2 : -1<s:=by
  rcases Int.lt_or_le (-1) s with h2 | h2
  ·exact h2
  ·have:=Int.mul_le_mul_of_nonneg_right h2 (Int.le_of_lt hy);omega
 omega
theorem cdiv_spec (x:Int) {y:Int} (hy:0<y):x≤cdiv x y*y∧cdiv x y*y<x+y:=by
 have h1:=Int.mul_ediv_add_emod (-x) y
 have h2:=Int.emod_nonneg (-x) (show y≠0 by omega)
 have h3:=Int.emod_lt_of_pos (-x) hy
 have h4:cdiv x y*y = -(y*(-x / y)):=by unfold cdiv;rw[Int.neg_mul,Int.mul_comm]
 omega
theorem uY {x y q:Int} (hy:0<y) (h:x≤q*y) (h':q*y<x+y):q=cdiv x y:=by
 obtain⟨k,k'⟩:=cdiv_spec x hy
 have:=rA (s:=q - cdiv x y) hy (by rw[Int.sub_mul];omega) (by rw[Int.sub_mul];omega)
 omega
theorem tJ {x y:Int} (hx:0≤x):x.tdiv y=x / y:=Int.tdiv_eq_ediv_of_nonneg hx
theorem cdiv_up {x y:Int} (hx:0<x) (hx':x≤1099511627776) (hy:0<y) (h:(x%y != 0)=true):wrap64 (x.tdiv y+1)=cdiv x y:=by
 have h0:x%y≠0:=by simpa using h
 have h1:=Int.mul_ediv_add_emod x y
 have h2:=Int.emod_nonneg x (show y≠0 by omega)
 have h3:=Int.emod_lt_of_pos x hy
 have h4:0≤x / y:=Int.ediv_nonneg (by omega) (by omega)
 have h5:x / y≤x:=Int.ediv_le_self _ (by omega)
 rw[tJ (by omega),wrap_in (by omega) (by omega)]
 refine uY hy ?_ ?_<;>(rw[Int.add_mul,Int.mul_comm];omega)
theorem cdiv_exact {x y:Int} (hx:0<x) (hy:0<y) (h:(x%y != 0)=false):x.tdiv y=cdiv x y:=by
 have h0:x%y=0:=by simpa using h
 have h1:=Int.mul_ediv_add_emod x y
 rw[tJ (by omega)]
 refine uY hy ?_ ?_<;>(rw[Int.mul_comm];omega)
theorem cdiv_neg {x y:Int} (hx:x≤0):x.tdiv y=cdiv x y:=by
 unfold cdiv
 rw[←tJ (x:= -x) (by omega),Int.neg_tdiv,Int.neg_neg]
theorem ceilQ_pos {a b:Int} (h:0<clamp b):ceilQ a b=cdiv (clamp a) (clamp b):=by unfold ceilQ;rw[if_neg (by omega)]
theorem ceilQ_neg {a b:Int} (h:clamp b≤0):ceilQ a b=0:=by unfold ceilQ;rw[if_pos h]
theorem ceilE_pos {b:Int} (h:0<clamp b):ceilE b=0:=by unfold ceilE;rw[if_neg (by omega)]
theorem ceilE_neg {b:Int} (h:clamp b≤0):ceilE b=2:=by unfold ceilE;rw[if_pos h]
end Pl
theorem ret_int {a b:Int} (h:a=b):Ending.returned (.int .i64 a)=.returned (.int .i64 b):=by rw[h]
theorem ret_two {a b c d:Int} (h:a=b) (h':c=d):Ending.returned (.tuple (Qi a c))=.returned (.tuple (Qi b d)):=by rw[h,h']
theorem within_any (n lo hi:Int) (w:World):Calls prog 95 (Qj n lo hi) w fun e w'=>e=.returned (.int .i64 (Pl.within n lo hi))∧w=w':=by
 have H:Hid (Pl.within n lo hi=if hi<n then hi else if n<lo then lo else n):=rfl
 go_enter func95,ntmps95
 go_wp2
 all_goals go_ret
 all_goals
  refine⟨ret_int ?_,rfl⟩
  rw[H.out]
  (repeat' split)<;>omega
theorem wP (n:Int) (w:World):Calls prog 172 (Qo n) w fun e w'=>e=.returned (.int .i64 (Pl.clamp n))∧w=w':=by
 go_enter func172,ntmps172
 go_wp2_with fail
 refine(within_any _ _ _ _).mono ?_
 rintro e w' ⟨rfl,rfl⟩
 go_wp2
 go_ret
 exact⟨rfl,rfl⟩
theorem sum_any (a b:Int) (w:World) (ha : -1099511627776≤a) (ha':a≤1099511627776) (hb : -1099511627776≤b) (hb':b≤1099511627776) :
  Calls prog 260 #[.agg (Qi a b)] w fun e w'=>e=.returned (.int .i64 (a+b))∧Below w.heap.size w w':=by
 go_enter func260,ntmps260
 go_wp2
 go_ret
 exact⟨rfl,bn _ _⟩
theorem of_any (f:Nat) (F:Int→Int→Int) (hnum:f=260)
  (hf:∀(x y:Int) (w:World),-1099511627776≤x→x≤1099511627776→ -1099511627776≤y→y≤1099511627776→
   Calls prog f #[.agg (Qi x y)] w fun e w'=>(∃n,e=.returned (.int .i64 n)∧Pl.clamp n=Pl.clamp (F x y))∧Below w.heap.size w w')
  (a b:Int) (w:World) :
  Calls prog 259 #[.int .i64 a,.int .i64 b,.func (.func f) #[] #[]] w fun e w'=>e=.returned (.int .i64 (Pl.clamp (F (Pl.clamp a) (Pl.clamp b))))∧Below w.heap.size w w':=by
 have HF:=zA hf
 clear hf
 have ha:=Pl.clamp_bd a
 have hb:=Pl.clamp_bd b
 subst hnum
 all_goals
  go_enter func259,ntmps259
  go_wp2_with fail
  refine(wP _ _).mono ?_
  rintro e w' ⟨rfl,rfl⟩
  generalize hx:Pl.clamp a=x at *
  have HX:=zA hx
  clear hx
  go_wp2_with fail
  refine(wP _ _).mono ?_
  rintro e w' ⟨rfl,rfl⟩
  generalize hy:Pl.clamp b=y at *
  have HY:=zA hy
  clear hy
  go_wp2_with fail
  refine(HF.out x y _ ha.1 ha.2 hb.1 hb.2).mono ?_
  rintro e w2 ⟨⟨n,rfl,hn⟩,hbel⟩
  have HN:=zA hn
  clear hn
  go_wp2_with fail
  refine(wP _ _).mono ?_
  rintro e w' ⟨rfl,rfl⟩
  go_wp2
  go_ret
  exact⟨ret_int (by rw[HX.out,HY.out];exact HN.out),hbel⟩
theorem add_any (a b:Int) (w:World):Calls prog 169 (Qi a b) w fun e w'=>e=.returned (.int .i64 (Pl.add a b))∧Below w.heap.size w w':=by
 go_enter func169,ntmps169
 go_wp2_with fail
 refine(of_any 260 (· + ·) rfl (fun x y w h1 h2 h3 h4=>(sum_any x y w h1 h2 h3 h4).mono fun e w' h=>⟨⟨_,h.1,rfl⟩,h.2⟩) a b w).mono ?_
 rintro e w' ⟨rfl,hb⟩
 go_wp2
 go_ret
 exact⟨rfl,hb⟩
theorem ceil_any (a b:Int) (w:World):Calls prog 101 (Qi a b) w fun e w'=>e=.returned (.tuple (Qi (Pl.ceilQ a b) (Pl.ceilE b)))∧w=w':=by
 have ha:=Pl.clamp_bd a
 have hb:=Pl.clamp_bd b
 go_enter func101,ntmps101
 go_wp2_with fail
 refine(wP _ _).mono ?_
 rintro e w' ⟨rfl,rfl⟩
 generalize hx:Pl.clamp a=x at *
 have HX:=zA hx
 clear hx
 go_wp2_with fail
 refine(wP _ _).mono ?_
 rintro e w' ⟨rfl,rfl⟩
 generalize hy:Pl.clamp b=y at *
 have HY:=zA hy
 clear hy
 by_cases hy0:y≤0
 ·go_wp2
  go_ret2
  exact⟨ret_two (Pl.ceilQ_neg (by rw[HY.out];exact hy0)).symm (Pl.ceilE_neg (by rw[HY.out];exact hy0)).symm,rfl⟩
 ·have hy1:0<y:=by omega
  have HQ:Hid (Pl.ceilQ a b=Pl.cdiv x y):=by have:=Pl.ceilQ_pos (a:=a) (b:=b) (by rw[HY.out];exact hy1);rw[HX.out,HY.out]at this;exact this
  have HE:Hid (Pl.ceilE b=0):=Pl.ceilE_pos (by rw[HY.out];exact hy1)
  go_wp2
  all_goals go_ret2
  all_goals refine⟨ret_two (Eq.trans ?_ HQ.out.symm) HE.out.symm,rfl⟩
  ·exact Pl.cdiv_up (by assumption) ha.2 hy1 (by assumption)
  ·exact Pl.cdiv_exact (by assumption) hy1 (by assumption)
  ·exact Pl.cdiv_neg (by assumption)
namespace Pl
def inside (n lo hi:Int):Bool:=decide (lo≤n)&&decide (n≤hi)
theorem inside_eq (n lo hi:Int):(within n lo hi == n)=inside n lo hi:=by
 unfold within inside
 rw[Bool.eq_iff_iff]
 simp only[beq_iff_eq,Bool.and_eq_true,decide_eq_true_eq]
 (repeat' split)<;>omega
end Pl
theorem xG (n lo hi:Int) (w:World):Calls prog 37 (Qj n lo hi) w fun e w'=>e=.returned (.bool (Pl.inside n lo hi))∧w=w':=by
 go_enter func37,ntmps37
 go_wp2_with fail
 refine(within_any _ _ _ _).mono ?_
 rintro e w' ⟨rfl,rfl⟩
 have H:=zA (Pl.inside_eq n lo hi)
 generalize Pl.within n lo hi=x at *
 go_wp2
 go_ret
 exact⟨congrArg (fun b=>Ending.returned (.bool b)) H.out,rfl⟩
theorem yZ (n lo hi:Int) (w:World):Calls prog 39 (Qj n lo hi) w fun e w'=>e=.returned (.bool (Pl.inside n lo hi))∧w=w':=by
 go_enter func39,ntmps39
 go_wp2_with fail
 refine(within_any _ _ _ _).mono ?_
 rintro e w' ⟨rfl,rfl⟩
 have H:=zA (Pl.inside_eq n lo hi)
 generalize Pl.within n lo hi=x at *
 go_wp2
 go_ret
 exact⟨congrArg (fun b=>Ending.returned (.bool b)) H.out,rfl⟩
theorem zY (n lo hi:Int) (w:World):Calls prog 171 (Qj n lo hi) w fun e w'=>e=.returned (.bool (Pl.inside n lo hi))∧w=w':=by
 go_enter func171,ntmps171
 go_wp2_with fail
 refine(within_any _ _ _ _).mono ?_
 rintro e w' ⟨rfl,rfl⟩
 have H:=zA (Pl.inside_eq n lo hi)
 generalize Pl.within n lo hi=x at *
 go_wp2
 go_ret
 exact⟨congrArg (fun b=>Ending.returned (.bool b)) H.out,rfl⟩
theorem yM (n lo hi:Int) (w:World):Calls prog 177 (Qj n lo hi) w fun e w'=>e=.returned (.bool (Pl.inside n lo hi))∧w=w':=by
 go_enter func177,ntmps177
 go_wp2_with fail
 refine(within_any _ _ _ _).mono ?_
 rintro e w' ⟨rfl,rfl⟩
 have H:=zA (Pl.inside_eq n lo hi)
 generalize Pl.within n lo hi=x at *
 go_wp2
 go_ret
 exact⟨congrArg (fun b=>Ending.returned (.bool b)) H.out,rfl⟩
theorem vV (n lo hi:Int) (w:World):Calls prog 292 (Qj n lo hi) w fun e w'=>e=.returned (.bool (Pl.inside n lo hi))∧w=w':=by
 go_enter func292,ntmps292
 go_wp2_with fail
 refine(within_any _ _ _ _).mono ?_
 rintro e w' ⟨rfl,rfl⟩
 have H:=zA (Pl.inside_eq n lo hi)
 generalize Pl.within n lo hi=x at *
 go_wp2
 go_ret
 exact⟨congrArg (fun b=>Ending.returned (.bool b)) H.out,rfl⟩
end
section
open Go Go.RowKit Rw
section
variable {P:Program} {ops:Array Oper} {Q:Exit→Act→World→Prop} {md:Region.Mode} {S:World→Prop} {L:Nat}
def wpL (P:Program) (md:Region.Mode) (ops:Array Oper) (Q:Exit→Act→World→Prop) (S:World→Prop) (L:Nat):Nat→Array Bool→Act→World→Prop
 | 0,listed,a,w=>Region.ready md ops listed=[]∧Q .normal a w
 | fuel+1,listed,a,w=>
  (Region.ready md ops listed=[]→Q .normal a w)∧
  ∀i∈Region.ready md ops listed,wpOp P ops Q i (fun a' w'=>(i≠L→S w')∧wpL P md ops Q S L fuel (listed.setIfInBounds i true) a' w') a w
theorem vY:∀(fuel:Nat) (listed:Array Bool) (a:Act) (w:World),wpL P md ops Q S L fuel listed a w→wpAny P md ops Q fuel listed a w
 | 0,_,_,_,h=>h
 | fuel+1,_,_,_,h=>⟨h.1,fun i hi=>wpOp_mono (fun a' w' h'=>vY fuel _ a' w' h'.2) (h.2 i hi)⟩
theorem wpL_first {i:Nat} {oi:Oper} {v:Value} (hi:ops[i]?=some oi) (hsel:∀(j:Nat) (o:Oper) cs b,ops[j]?=some o→o.op≠.select cs b)
  (hiL:i≠L) (hwait:∀o,ops[L]?=some o→∃e∈o.after,Region.binds md e=true∧e.on=i)
  (hQ:∀c a w,Q (.panic c) (a.put oi.dst v) w→Q (.panic c) a w) :
  ∀(fuel:Nat) (listed:Array Bool) (a:Act) (w:World),
   (∀j oj,ops[j]?=some oj→j≠i→listed.getD j true=false→(∀e∈oj.after,Region.binds md e=true→e.on≠i)→oi.apart ops oj=true)→
   i∈Region.ready md ops listed→YieldsIf P ops S oi v a→S w→
   wpL P md ops Q S L fuel (listed.setIfInBounds i true) (a.put oi.dst v) w→wpL P md ops Q S L (fuel+1) listed a w:=by
 intro fuel
 induction fuel with
 | zero=>
  intro listed a w _ hr hy hS H
  refine⟨fun h=>(by rw[h]at hr;cases hr),fun j hj=>?_⟩
  by_cases hji:j=i
  ·subst hji;exact hy.wpOp hi hS ⟨fun _=>hS,H⟩
  ·have:=ready_mono hj hji
   rw[H.1]at this
   cases this
 | succ fuel ih=>
  intro listed a w hfree hr hy hS H
  refine⟨fun h=>(by rw[h]at hr;cases hr),fun j hj=>?_⟩
  by_cases hji:j=i
  ·subst hji;exact hy.wpOp hi hS ⟨fun _=>hS,H⟩
  ·have h1:=H.2 j (ready_mono hj hji)
   obtain⟨hjun,oj,hoj,rY⟩:=mem_ready.1 hj
   have pV:∀e∈oj.after,Region.binds md e=true→e.on≠i:=fun e he hb heq=>by
    have h1:=rY e he hb
    have h0:=(mem_ready.1 hr).1
    rw[heq]at h1
    rcases Nat.lt_or_ge i listed.size with h' | h'
    ·simp[h']at h0 h1;rw[h0]at h1;cases h1
    ·simp[Array.getElem?_eq_none h']at h1
   have hjL:j≠L:=fun hjl=>by
    subst hjl
    obtain⟨e,he,hb,hon⟩:=hwait oj hoj
    exact pV e he hb hon
   have h2:=wpOp_putIf hoj (hfree j oj hoj hji hjun pV) (fun cs b=>hsel i oi cs b hi) (fun cs b=>hsel j oj cs b hoj) hQ hy h1
   have hfree':∀k ok,ops[k]?=some ok→k≠i→(listed.setIfInBounds j true).getD k true=false→
     (∀e∈ok.after,Region.binds md e=true→e.on≠i)→oi.apart ops ok=true:=fun k ok hk hki hun hno=>by
    refine hfree k ok hk hki ?_ hno
    by_cases hjk:j=k
    ·subst hjk;exact hjun
    ·rw[getD_set_ne true hjk]at hun;exact hun
   refine wpOp_mono (fun a' w' h3=>⟨h3.2.1,ih (listed.setIfInBounds j true) a' w' hfree' (ready_mono hr (Ne.symm hji)) h3.1 (h3.2.1 hjL) ?_⟩) h2
   rw[Array.setIfInBounds_comm _ _ hji]
   exact h3.2.2
def waitsFor (md:Region.Mode) (ops:Array Oper) (L i:Nat):Bool:=
 match ops[L]? with
 | some o=>o.after.toList.any fun e=>Region.binds md e&&e.on == i
 | none=>true
theorem wpL_take {i:Nat} {oi:Oper} {v:Value} {fuel:Nat} {listed:Array Bool} {a:Act} {w:World} (hi:ops[i]?=some oi)
  (hs:Region.noSelect ops=true) (hw:(waitsFor md ops L i&&i != L)=true) (hf:Region.free md ops listed i=true) (hr:(Region.ready md ops listed).contains i=true)
  (hQ:∀c a w,Q (.panic c) (a.put oi.dst v) w→Q (.panic c) a w) (hy:YieldsIf P ops S oi v a) (hS:S w)
  (h:wpL P md ops Q S L fuel (listed.setIfInBounds i true) (a.put oi.dst v) w):wpL P md ops Q S L (fuel+1) listed a w:=by
 simp only[Bool.and_eq_true,bne_iff_ne]at hw
 refine wpL_first hi (Region.noSelect_spec hs) hw.2 (fun o ho=>?_) hQ fuel listed a w (Region.free_spec hi hf) (by simpa using hr) hy hS h
 have:=hw.1
 simp only[waitsFor,ho,List.any_eq_true,Bool.and_eq_true,beq_iff_eq]at this
 obtain⟨e,he,hb,hon⟩:=this
 exact⟨e,by simpa using he,hb,hon⟩
theorem yB {i:Nat} (d:Nat) {oi:Oper} {v:Value} {fuel:Nat} {listed:Array Bool} {a:Act} {w:World} (hi:ops[i]?=some oi) (hd:((ops[i]?).any fun o=>o.dst == some d)=true)
  (hs:Region.noSelect ops=true) (hw:(waitsFor md ops L i&&i != L)=true) (hf:Region.free md ops listed i=true) (hr:(Region.ready md ops listed).contains i=true)
  (hQ:∀c a w,Q (.panic c) (a.put oi.dst v) w→Q (.panic c) a w) (hy:YieldsIf P ops S oi v a) (hS:S w)
  (h:wpL P md ops Q S L fuel (listed.setIfInBounds i true) (a.put (some d) v) w):wpL P md ops Q S L (fuel+1) listed a w:=by
 have e:oi.dst=some d:=by rw[hi]at hd;simpa using hd
 exact wpL_take hi hs hw hf hr hQ hy hS (by rw[e];exact h)
theorem wpL_one {i:Nat} {o:Oper} {fuel:Nat} {listed:Array Bool} {a:Act} {w:World} (hr:Region.ready md ops listed=[i]) (ho:ops[i]?=some o)
  (h:∀K':Act→World→Prop,Shut (∀a w,(i≠L→S w)→((i≠L→S w)→wpL P md ops Q S L fuel (listed.setIfInBounds i true) a w)→K' a w)→if Region.wanted o (yielded ops a.tmps)=true then Oper.wp P o a w K' Q else K' (a.put o.dst undef) w) :
  wpL P md ops Q S L (fuel+1) listed a w:=by
 refine⟨fun h0=>(by rw[h0]at hr;cases hr),fun j hj=>?_⟩
 rw[hr]at hj
 cases List.mem_singleton.1 hj
 exact wpOp_step ho (fun K' hK=>h K' (fun a w hS hW=>hK a w ⟨hS,hW hS⟩))
theorem wpL_done {listed:Array Bool} {a:Act} {w:World} (hr:Region.ready md ops listed=[]) (h:Q .normal a w) :
  ∀fuel,wpL P md ops Q S L fuel listed a w
 | 0=>⟨hr,h⟩
 | _+1=>⟨fun _=>h,by rw[hr];simp⟩
theorem zD {id:Nat} {a:Act} {w:World} (S:World→Prop) (L:Nat) (hm:P.follows .mixedOrders=true) (hS:S w.drew)
  (h:S w.drew→wpL P .any ops Q S L ops.size (Array.replicate ops.size false) a w.drew):(Code.region id ops true).wp P Q a w:=
 wp_region_any hm (vY _ _ _ _ (h hS))
end
end
section
open Go.RowKit Rw
theorem pt {l:List Value} {ds:List Deferred} {d:Nat} {v:Value}:Act.put ⟨l.toArray,ds⟩ (some d) v=⟨(l.set d v).toArray,ds⟩:=by simp[Act.put]
section
variable {P:Program} {ops:Array Oper} {Q:Exit→Act→World→Prop} {S:World→Prop} {L fuel:Nat} {listed:Array Bool} {a:Act} {w:World} {v:Value} {oi:Oper} {B:Nat→Bool}
def okB (ops:Array Oper) (listed:Array Bool) (i d:Nat):Bool:=((ops[i]?).any fun o=>o.dst == some d)&&(Region.noSelect ops&&(Region.free .any ops listed i&&(Region.ready .any ops listed).contains i))
theorem uI {i d:Nat} (h:okB ops listed i d=true):((ops[i]?).any fun o=>o.dst == some d)=true∧Region.noSelect ops=true∧Region.free .any ops listed i=true∧(Region.ready .any ops listed).contains i=true:=by
 simpa[okB]using h
theorem tk (i d:Nat) {a':Act} (hi:ops[i]?=some oi) (ha:∀w,S w→(execOp a.eval oi).run P w=.ok (.value v) w) (h:wpL P .any ops Q S L fuel (listed.setIfInBounds i true) a' w)
  (he:a.put (some d) v=a':=by first | (simp only[pt,List.set];done) | (simp only[pt,List.set];exact rfl))
  (hg:Region.wanted oi (yielded ops a.tmps)=true:=by rfl) (hb:okB ops listed i d=true:=by kernel_rfl) (hw:(waitsFor .any ops L i&&i != L)=true:=by kernel_rfl) (hS:S w:=by assumption)
  (hQ:∀c a w,Q (.panic c) (a.put oi.dst v) w→Q (.panic c) a w:=by exact fun _ _ _ h=>h):wpL P .any ops Q S L (fuel+1) listed a w:=by
 obtain⟨h1,h2,h3,h4⟩:=uI hb
 subst he
 exact yB d hi h1 h2 hw h3 h4 hQ (.inl ⟨hg,ha⟩) hS h
theorem tkp (i d:Nat) {a':Act} (hi:ops[i]?=some oi) (h:wpL P .any ops Q S L fuel (listed.setIfInBounds i true) a' w)
  (ha:∀w,S w→(execOp a.eval oi).run P w=.ok (.value v) w:=by intro wS hSw;clear hSw;go_simp;(try with_reducible rfl))
  (he:a.put (some d) v=a':=by first | (simp only[pt,List.set];done) | (simp only[pt,List.set];exact rfl))
  (hg:Region.wanted oi (yielded ops a.tmps)=true:=by rfl) (hb:okB ops listed i d=true:=by kernel_rfl) (hw:(waitsFor .any ops L i&&i != L)=true:=by kernel_rfl) (hS:S w:=by assumption)
  (hQ:∀c a w,Q (.panic c) (a.put oi.dst v) w→Q (.panic c) a w:=by exact fun _ _ _ h=>h):wpL P .any ops Q S L (fuel+1) listed a w:=
 tk i d hi ha h he hg hb hw hS hQ
theorem tu (i d:Nat) {a':Act} (hi:ops[i]?=some oi) (h:wpL P .any ops Q S L fuel (listed.setIfInBounds i true) a' w)
  (he:a.put (some d) undef=a':=by first | (simp only[pt,List.set];done) | (simp only[pt,List.set];exact rfl))
  (hg:Region.wanted oi (yielded ops a.tmps)=false:=by rfl) (hb:okB ops listed i d=true:=by kernel_rfl) (hw:(waitsFor .any ops L i&&i != L)=true:=by kernel_rfl) (hS:S w:=by assumption)
  (hQ:∀c a w,Q (.panic c) (a.put oi.dst undef) w→Q (.panic c) a w:=by exact fun _ _ _ h=>h):wpL P .any ops Q S L (fuel+1) listed a w:=by
 obtain⟨h1,h2,h3,h4⟩:=uI hb
 subst he
 exact yB d hi h1 h2 hw h3 h4 hQ (.inr ⟨hg,rfl⟩) hS h
theorem tkd (i d:Nat) {a':Act} (hi:ops[i]?=some oi) (h:wpL P .any ops Q S L fuel (listed.setIfInBounds i true) a' w)
  (ha:∀w,S w→(execOp a.eval oi).run P w=.ok (.value v) w:=by intro w hSw;(try dsimp only at hSw);go_simp;(try with_reducible rfl))
  (he:a.put (some d) v=a':=by first | (simp only[pt,List.set];done) | (simp only[pt,List.set];exact rfl))
  (hg:Region.wanted oi (yielded ops a.tmps)=true:=by rfl) (hb:okB ops listed i d=true:=by kernel_rfl) (hw:(waitsFor .any ops L i&&i != L)=true:=by kernel_rfl) (hS:S w:=by assumption)
  (hQ:∀c a w,Q (.panic c) (a.put oi.dst v) w→Q (.panic c) a w:=by exact fun _ _ _ h=>h):wpL P .any ops Q S L (fuel+1) listed a w:=
 tk i d hi ha h he hg hb hw hS hQ
theorem t1 (i:Nat) {o:Oper} (ho:ops[i]?=some o) (h:∀K':Act→World→Prop,Shut (∀a w,(i≠L→S w)→((i≠L→S w)→wpL P .any ops Q S L fuel (listed.setIfInBounds i true) a w)→K' a w)→if Region.wanted o (yielded ops a.tmps)=true then Oper.wp P o a w K' Q else K' (a.put o.dst undef) w)
  (hr:Region.ready .any ops listed=[i]:=by kernel_rfl):wpL P .any ops Q S L (fuel+1) listed a w:=wpL_one hr ho h
theorem wd {listed:Array Bool} {a:Act} {w:World} (h:Q .normal a w) (hr:Region.ready .any ops listed=[]:=by kernel_rfl) {fuel:Nat}:wpL P .any ops Q S L fuel listed a w:=wpL_done hr h fuel
end
end
end Go.Proofs.YtodlmbfbfaofcaaGreat
