/- TopPolicies, part 3. -/
import Derived.RowKit
import Derived.WalkKit
import Derived.Test.YtodlmbfbfaofcaaGreatM01
import Derived.Test.YtodlmbfbfaofcaaGreatM02
namespace Go.Proofs.YtodlmbfbfaofcaaGreat
set_option linter.unusedVariables false
set_option linter.unusedSimpArgs false
set_option maxRecDepth 100000
section
open Go.RowKit Rw
namespace Pl
def within (n lo hi:Int):Int:=if hi<n then hi else if n<lo then lo else n
def clamp (n:Int):Int:=within n (-1099511627776) 1099511627776
theorem clamp_bd (n:Int) : -1099511627776≤clamp n∧clamp n≤1099511627776:=by unfold clamp within;(repeat' split)<;>omega
def add (a b:Int):Int:=clamp (clamp a+clamp b)
def sub (a b:Int):Int:=clamp (clamp a - clamp b)
def cdiv (a b:Int):Int:= -((-a) / b)
def ceilQ (a b:Int):Int:=if clamp b≤0 then 0 else cdiv (clamp a) (clamp b)
def ceilE (b:Int):Int:=if clamp b≤0 then 2 else 0
theorem wrap_in {n:Int} (h : -9223372036854775808≤n) (h':n≤9223372036854775807):wrap64 n=n:=by unfold wrap64;omega
theorem rK {s y:Int} (hy:0<y) (h:s*y<y) (h' : -y<s*y):s=0:=by
 have h1:s<1:=by
  rcases Int.lt_or_le s 1 with h1 | h1
  ·exact h1
  ·have:=Int.mul_le_mul_of_nonneg_right h1 (Int.le_of_lt hy);omega
 have h2 : -1<s:=by
  rcases Int.lt_or_le (-1) s with h2 | h2
  ·exact h2
  ·have:=Int.mul_le_mul_of_nonneg_right h2 (Int.le_of_lt hy);omega
 omega
theorem cdiv_spec (x:Int) {y:Int} (hy:0<y):x≤cdiv x y*y∧cdiv x y*y<x+y:=by
 have h1:=Int.mul_ediv_add_emod (-x) y
 have h2:=Int.emod_nonneg (-x) (show y≠0 by omega)
 have h3:=Int.emod_lt_of_pos (-x) hy
 have h4:cdiv x y*y = -(y*(-x / y)):=by unfold cdiv;rw[Int.neg_mul,Int.mul_comm]
 omega
theorem tE {x y q:Int} (hy:0<y) (h:x≤q*y) (h':q*y<x+y):q=cdiv x y:=by
 obtain⟨k,k'⟩:=cdiv_spec x hy
 have:=rK (s:=q - cdiv x y) hy (by rw[Int.sub_mul];omega) (by rw[Int.sub_mul];omega)
 omega
theorem tR {x y:Int} (hx:0≤x):x.tdiv y=x / y:=Int.tdiv_eq_ediv_of_nonneg hx
theorem cdiv_up {x y:Int} (hx:0<x) (hx':x≤1099511627776) (hy:0<y) (h:(x%y != 0)=true):wrap64 (x.tdiv y+1)=cdiv x y:=by
 have h0:x%y≠0:=by simpa using h
 have h1:=Int.mul_ediv_add_emod x y
 have h2:=Int.emod_nonneg x (show y≠0 by omega)
 have h3:=Int.emod_lt_of_pos x hy
 have h4:0≤x / y:=Int.ediv_nonneg lD lD
 have h5:x / y≤x:=Int.ediv_le_self _ lD
 rw[tR (by omega),wrap_in (by omega) (by omega)]
 refine tE hy ?_ ?_<;>(rw[Int.add_mul,Int.mul_comm];omega)
theorem cdiv_exact {x y:Int} (hx:0<x) (hy:0<y) (h:(x%y != 0)=false):x.tdiv y=cdiv x y:=by
 have h0:x%y=0:=by simpa using h
 have h1:=Int.mul_ediv_add_emod x y
 rw[tR (by omega)]
 refine tE hy ?_ ?_<;>(rw[Int.mul_comm];omega)
theorem cdiv_neg {x y:Int} (hx:x≤0):x.tdiv y=cdiv x y:=by
 unfold cdiv
 rw[←tR (x:= -x) (by omega),Int.neg_tdiv,Int.neg_neg]
theorem ceilQ_pos {a b:Int} (h:0<clamp b):ceilQ a b=cdiv (clamp a) (clamp b):=by unfold ceilQ;rw[if_neg (by omega)]
theorem ceilQ_neg {a b:Int} (h:clamp b≤0):ceilQ a b=0:=by unfold ceilQ;rw[if_pos h]
theorem ceilE_pos {b:Int} (h:0<clamp b):ceilE b=0:=by unfold ceilE;rw[if_neg (by omega)]
theorem ceilE_neg {b:Int} (h:clamp b≤0):ceilE b=2:=by unfold ceilE;rw[if_pos h]
end Pl
end
end Go.Proofs.YtodlmbfbfaofcaaGreat
