/- TopLoads, part 8. -/
import Derived.Deep.MidRow
import Derived.Deep.WholeRow
import Derived.Test.YtodlmbfbfaofcaaGreatM01
import Derived.Test.YtodlmbfbfaofcaaGreatM03
import Derived.Test.YtodlmbfbfaofcaaGreatM07
open Go.Proofs.Tryz
namespace Go.Proofs.YtodlmbfbfaofcaaGreat
set_option linter.unusedVariables false
set_option linter.unusedSimpArgs false
set_option maxRecDepth 100000
set_option maxHeartbeats 1000000
section
open Go.RowKit Rw Rh
structure Beh (w0:World) where
 w:World
 b:Below w0.heap.size w0 w
instance (w0:World):Nonempty (Beh w0):=⟨⟨w0,Below.refl _ _⟩⟩
theorem zU {P:Program} {id:Nat} {Q:Exit→Act→World→Prop} {a:Act} {w0 w:World} {l:List Oper} (hm:P.follows .mixedOrders=true) (hB:Region.lexB .any l.toArray=true) (hb:Below w0.heap.size w0 w)
  (h:wpQuiet P l.toArray (fun w'=>∃p:Beh w0,w'=p.w) (fun a'=>∀w',(∃p:Beh w0,w'=p.w)→Q .normal a' w') l a):(Code.region id l.toArray true).wp P Q a w:=
 wp_region_quiet (C:=fun w'=>∃p:Beh w0,w'=p.w) hm hB ⟨⟨_,hb.drew⟩,rfl⟩ (by simpa using h)
theorem Calls.beh_of {P:Program} {f:FuncId} {args:Array Value} {w0:World} {p:Beh w0} {v:Value} (h:Calls P f args p.w fun e w'=>e=.returned v∧Below p.w.heap.size p.w w'):Calls P f args p.w fun e w''=>e=.returned v∧∃q:Beh w0,w''=q.w:=
 h.mono fun _ w' ⟨he,hb⟩=>⟨he,⟨w',p.b.trans (hb.mono p.b.size)⟩,rfl⟩
theorem Calls.beh_same {P:Program} {f:FuncId} {args:Array Value} {w0:World} {p:Beh w0} {v:Value} (h:Calls P f args p.w fun e w'=>e=.returned v∧p.w=w'):Calls P f args p.w fun e w''=>e=.returned v∧∃q:Beh w0,w''=q.w:=
 h.mono fun _ w' ⟨he,hb⟩=>⟨he,p,hb.symm⟩
theorem Beh.cell {w0:World} (p:Beh w0) {a:Addr} {v:Value} (h:w0.cell? a=some v):p.w.cell? a=some v:=by
 have hlt:a.block<w0.heap.size:=by
  rcases Nat.lt_or_ge a.block w0.heap.size with h' | h'
  ·exact h'
  ·simp[World.cell?,Array.getElem?_eq_none h']at h
 exact(p.b.cell hlt).trans h
def Pl.cmp (a b c d:Int):Int:=if a=c then b - d else a - c
theorem compare_any (a b c d:Int) (w:World) (ha:0≤a∧a≤1000) (hb:0≤b∧b≤1000) (hc:0≤c∧c≤1000) (hd:0≤d∧d≤1000):Calls prog 271 #[.agg (Qi a b),.agg (Qi c d)] w fun e w'=>e=.returned (.int .i64 (Pl.cmp a b c d))∧Below w.heap.size w w':=by
 obtain⟨a1,a2⟩:=ha
 obtain⟨b1,b2⟩:=hb
 obtain⟨c1,c2⟩:=hc
 obtain⟨d1,d2⟩:=hd
 have e1 : -9223372036854775808≤a - c:=by omega
 have e2:a - c≤9223372036854775807:=by omega
 have e3 : -9223372036854775808≤b - d:=by omega
 have e4:b - d≤9223372036854775807:=by omega
 have HX:=zA (fun x y=>((bn w x).alloc (by simp) y))
 by_cases h:a=c
 ·have h':(a != c)=false:=by simp[h]
  have HH:=zA (show Pl.cmp a b c d=b - d from if_pos h)
  clear h
  go_enter func271,ntmps271
  go_wp2_with fail
  go_ret
  exact⟨congrArg (fun b=>Ending.returned (.int .i64 b)) HH.out.symm,HX.out _ _⟩
 ·have h':(a != c)=true:=by simp[h]
  have HH:=zA (show Pl.cmp a b c d=a - c from if_neg h)
  clear h
  go_enter func271,ntmps271
  go_wp2_with fail
  go_ret
  exact⟨congrArg (fun b=>Ending.returned (.int .i64 b)) HH.out.symm,HX.out _ _⟩
def IntsC (w:World) (v:Value) (xs:List Int):Prop:=
 ∃ao cap,v=.slice ao xs.length cap∧(ao=none→xs=[]∧cap=0)∧∀i (h:i<xs.length),∃g off,ao=some ⟨g,off,none⟩∧g<w.heap.size∧w.cell? ⟨g,off+i,none⟩=some (.int .i64 xs[i])
theorem IntsC.below {w w':World} {v:Value} {xs:List Int} (h:IntsC w v xs) (hb:Below w.heap.size w w'):IntsC w' v xs:=by
 obtain⟨ao,cap,h1,h2,h3⟩:=h
 refine⟨ao,cap,h1,h2,fun i hi=>?_⟩
 obtain⟨g,off,e,hg,c0⟩:=h3 i hi
 exact⟨g,off,e,Nat.lt_of_lt_of_le hg hb.size,(hb.cell (p:=⟨g,off+i,none⟩) hg).trans c0⟩
theorem idx_none (v:Value) (f:Nat) (cb:Array Value) (xs:List Int) (w:World) (hl:xs.length≤1000000) (hx:IntsC w v xs)
  (hcf:∀(x:Value) (W:World),Sem.run prog (callFunc f (#[x]++cb)) W=.ok (.enter f (#[x]++cb)) W)
  (hC:∀k (hk:k<xs.length) W,Below w.heap.size w W→Calls prog f (#[.int .i64 xs[k]]++cb) W fun e w'=>e=.returned (.bool false)∧Below W.heap.size W w') :
  Calls prog 298 #[v,.func (.func f) #[] cb] w fun e w'=>e=.returned (.int .i64 (-1))∧Below w.heap.size w w':=by
 have HX:=zA hx
 obtain⟨ao,cap,rfl,_⟩:=hx
 have HC:=zA hC
 clear hC
 go_enter func298,ntmps298
 go_wp2_with fail
 go_loopw [8] (fun i wr=>∃(k:Nat),k≤xs.length∧i=.int .i64 k∧Below w.heap.size w wr) (fun i _=>xs.length - (intOf i).toNat)
 case atStart=>exact⟨0,by omega,rfl,Below.refl _ _⟩
 case round=>
  obtain⟨k,hk,rfl,hI⟩:=hrel
  have HI:=zA hI
  by_cases hlt:k<xs.length
  ·obtain⟨ao',cap',hv,_,h3⟩:=HX.out.below hI
   cases hv
   obtain⟨g,off,rfl,hg,c0⟩:=h3 k hlt
   have HC2:=zA (HC.out k hlt wr hI)
   clear h3 hI
   generalize (xs[k]:Int)=n at *
   go_wp2_with fail
   refine HC2.out.mono ?_
   rintro e w5 ⟨rfl,b5⟩
   have HI5:=zA (HI.out.trans (b5.mono HI.out.size))
   clear b5
   go_wp2_with fail
   exact⟨⟨k+1,by omega,rfl,HI5.out⟩,by simp[intOf];omega⟩
  ·obtain rfl:k=xs.length:=by omega
   clear hI hlt
   go_wp2_with fail
   go_ret
   exact⟨rfl,HI.out⟩
namespace Pl
def Before (a b:Nat×Nat):Prop:=a.1<b.1∨a.1=b.1∧a.2<b.2
structure Closed (O:Nat→Nat→Bool) (U:Nat→Nat) (M:List (Nat×Nat)):Prop where
 upto:∀n,n<8→U n≤96
 all:∀n s,n<8→1≤s→s≤U n→O n s=true
 may:∀d∈M,d.1<8∧U d.1+2≤d.2∧d.2≤96∧O d.1 d.2=true
 ord:M.Pairwise Before
 has:∀n s,O n s=true→n<8∧1≤s∧s≤96∧(s≤U n∨(n,s)∈M)
theorem wW (B:Nat):∀(M:List (Nat×Nat)) (a:Nat),M.Pairwise Before→(∀d∈M,d.1<8∧1≤d.2∧d.2≤96∧a≤d.1*96+d.2∧d.1*96+d.2≤B)→M.length≤B+1 - a
 | [],a,_,_=>by simp
 | d::M,a,hp,hm=>by
  have hd:=hm d (by simp)
  obtain⟨h1,h2⟩:=List.pairwise_cons.1 hp
  have:=wW B M (d.1*96+d.2+1) h2 (fun e he=>by
   have h3:=hm e (by simp[he])
   have h4:=h1 e he
   refine⟨h3.1,h3.2.1,h3.2.2.1,?_,h3.2.2.2.2⟩
   rcases h4 with h4 | ⟨h4,h5⟩<;>omega)
  simp only[List.length_cons]
  omega
theorem Closed.len {O:Nat→Nat→Bool} {U:Nat→Nat} {M:List (Nat×Nat)} (h:Closed O U M):M.length≤768:=by
 have:=wW 768 M 1 h.ord (fun d hd=>by have:=h.may d hd;omega)
 omega
abbrev setv (U:Nat→Nat) (m:Value):Value:=.agg #[.int .i64 (U 0),.int .i64 (U 1),.int .i64 (U 2),.int .i64 (U 3),.int .i64 (U 4),.int .i64 (U 5),.int .i64 (U 6),.int .i64 (U 7),m]
end Pl
def SetV (w:World) (v:Value) (O:Nat→Nat→Bool) (U:Nat→Nat) (M:List (Nat×Nat)):Prop:=∃m,v=Pl.setv U m∧DotsT w m M∧Pl.Closed O U M
theorem SetV.below {w w':World} {v:Value} {O:Nat→Nat→Bool} {U:Nat→Nat} {M:List (Nat×Nat)} (h:SetV w v O U M) (hb:Below w.heap.size w w'):SetV w' v O U M:=by
 obtain⟨m,h1,h2,h3⟩:=h;exact⟨m,h1,h2.below hb,h3⟩
theorem SetV.keep {w w':World} {v:Value} {O:Nat→Nat→Bool} {U:Nat→Nat} {M:List (Nat×Nat)} (h:SetV w v O U M) (k:∀(g:Nat) (cs:Array Value) (fr:Nat×Nat),w.heap[g]?=some (Obj.cells cs 45 fr)→w'.heap[g]?=w.heap[g]?):SetV w' v O U M:=by
 obtain⟨m,h1,h2,h3⟩:=h;exact⟨m,h1,h2.keep k,h3⟩
theorem off_any (n:Int) (w:World) (h0:0≤n) (h1:n≤96):Calls prog 270 (Qo n) w fun e w'=>e=.returned (.bool false)∧Below w.heap.size w w':=by
 have HX:=zA (Below.refl w.heap.size w)
 have d0:decide (n<0)=false:=decide_eq_false (by omega)
 have d1:decide (96<n)=false:=decide_eq_false (by omega)
 go_enter func270,ntmps270
 go_wp2_with fail
 go_ret
 exact⟨rfl,HX.out⟩
theorem any_none (v:Value) (xs:List Int) (w:World) (hl:xs.length≤1000000) (hx:IntsC w v xs) (hin:∀k (hk:k<xs.length),0≤xs[k]∧xs[k]≤96) :
  Calls prog 269 #[v,Qm 270] w fun e w'=>e=.returned (.bool false)∧Below w.heap.size w w':=by
 have HC:=zA (idx_none v 270 #[] xs w hl hx (fun x W=>by kernel_rfl) (fun k hk W _=>off_any _ W (hin k hk).1 (hin k hk).2))
 obtain⟨ao,cap,rfl,_⟩:=hx
 go_enter func269,ntmps269
 go_wp2_with fail
 refine HC.out.mono ?_
 rintro e w1 ⟨rfl,b1⟩
 have HB:=zA b1
 clear b1 HC
 go_wp2_with fail
 go_ret
 exact⟨rfl,HB.out⟩
theorem uE (v:Value) (O:Nat→Nat→Bool) (U:Nat→Nat) (M:List (Nat×Nat)) (w:World) (h:SetV w v O U M) :
  Calls prog 183 #[v] w fun e w'=>e=.returned (.bool true)∧Below w.heap.size w w':=by
 obtain⟨m,rfl,hd,hc⟩:=h
 have hlen:=hc.len
 obtain⟨ao,cap,rfl,hnil⟩:=hd.toC
 clear hnil
 have b1:Below w.heap.size w (w.alloc (.cells (Qu U ao M.length cap) 60)):=bn _ _
 have hx:=heap_alloc_new w (.cells (Qu U ao M.length cap) 60)
 have HD:=zA (fun (W:World) (hW:Below (w.alloc (.cells (Qu U ao M.length cap) 60)).heap.size (w.alloc (.cells (Qu U ao M.length cap) 60)) W)=>((hd.below b1).below hW).toC)
 have hints:IntsC (w.alloc (.cells (Qu U ao M.length cap) 60)) (.slice (some ⟨w.heap.size,0,none⟩) 8 8) [(U 0:Int),(U 1:Int),(U 2:Int),(U 3:Int),(U 4:Int),(U 5:Int),(U 6:Int),(U 7:Int)]:=by
  refine⟨_,_,rfl,(fun e=>by cases e),fun i hi=>⟨_,_,rfl,(gsi.1 hx).1,?_⟩⟩
  match i,hi with
  | 0,_=>exact zF (j:=0+0) hx rfl
  | 1,_=>exact zF (j:=0+1) hx rfl
  | 2,_=>exact zF (j:=0+2) hx rfl
  | 3,_=>exact zF (j:=0+3) hx rfl
  | 4,_=>exact zF (j:=0+4) hx rfl
  | 5,_=>exact zF (j:=0+5) hx rfl
  | 6,_=>exact zF (j:=0+6) hx rfl
  | 7,_=>exact zF (j:=0+7) hx rfl
  | i+8,hi=>exact absurd hi (by simp)
 have HA:=zA (any_none _ _ _ (by simp) hints (fun k hk=>by
  match k,hk with
  | 0,_=>exact⟨Int.natCast_nonneg _,by have:=hc.upto 0 (by decide);show(U 0:Int)≤96;omega⟩
  | 1,_=>exact⟨Int.natCast_nonneg _,by have:=hc.upto 1 (by decide);show(U 1:Int)≤96;omega⟩
  | 2,_=>exact⟨Int.natCast_nonneg _,by have:=hc.upto 2 (by decide);show(U 2:Int)≤96;omega⟩
  | 3,_=>exact⟨Int.natCast_nonneg _,by have:=hc.upto 3 (by decide);show(U 3:Int)≤96;omega⟩
  | 4,_=>exact⟨Int.natCast_nonneg _,by have:=hc.upto 4 (by decide);show(U 4:Int)≤96;omega⟩
  | 5,_=>exact⟨Int.natCast_nonneg _,by have:=hc.upto 5 (by decide);show(U 5:Int)≤96;omega⟩
  | 6,_=>exact⟨Int.natCast_nonneg _,by have:=hc.upto 6 (by decide);show(U 6:Int)≤96;omega⟩
  | 7,_=>exact⟨Int.natCast_nonneg _,by have:=hc.upto 7 (by decide);show(U 7:Int)≤96;omega⟩
  | i+8,hi=>exact absurd hi (by simp)))
 have HM:=zA hc.may
 have HORD:=zA hc.ord
 have HX:=zA hx
 have HB1:=zA b1
 have H60:=zA (fun (W:World) (hW:Below (w.alloc (.cells (Qu U ao M.length cap) 60)).heap.size (w.alloc (.cells (Qu U ao M.length cap) 60)) W)=>(hW.block w.heap.size (gsi.1 hx).1).trans hx)
 clear hd hc b1 hx hints
 have e768:decide (768<(M.length:Int))=false:=decide_eq_false (by omega)
 go_enter func183,ntmps183
 go_wp2_with fail
 generalize hW0:w.alloc (.cells (Qu U ao M.length cap) 60)=W0 at *
 clear hW0
 refine HA.out.mono ?_
 rintro e w1 ⟨rfl,b2⟩
 have HB2:=zA b2
 have x1:=H60.out _ b2
 have c8:=cc 8 x1
 clear b2 HA x1 HX
 go_wp2_with fail
 clear c8
 have HL:=zA hlen
 go_loopw [17] (fun i wr=>∃(k:Nat),k≤M.length∧i=.int .i64 k∧Below W0.heap.size W0 wr) (fun i _=>M.length - (intOf i).toNat)
 case atStart=>exact⟨0,by omega,rfl,HB2.out⟩
 case round=>
  obtain⟨k,hk,rfl,hI⟩:=hrel
  have HI:=zA hI
  by_cases hlt:k<M.length
  ·obtain⟨ao',cap',hv,_,h3⟩:=HD.out wr hI
   cases hv
   obtain⟨g,off,rfl,hg,c0,c1⟩:=h3 k hlt
   have hmay:=HM.out _ (List.getElem_mem hlt)
   have x1:=H60.out _ hI
   have hH:=(gsi.1 x1).1
   have hprev:0<k→∃p q:Nat,wr.cell? ⟨g,off+(k - 1)*2,none⟩=some (.int .i64 p)∧wr.cell? ⟨g,off+(k - 1)*2+1,none⟩=some (.int .i64 q)∧p<8∧q≤96∧Pl.cmp p q (M[k]).1 (M[k]).2<0:=fun hk0=>by
    obtain⟨g',off',e',hg',d0,d1⟩:=h3 (k - 1) (by omega)
    cases e'
    have hm2:=HM.out _ (List.getElem_mem (show k - 1<M.length by omega))
    have ho:=List.pairwise_iff_getElem.1 HORD.out (k - 1) k (by omega) hlt (by omega)
    refine⟨_,_,d0,d1,hm2.1,hm2.2.2.1,?_⟩
    unfold Pl.cmp
    rcases ho with ho | ⟨ho,ho'⟩
    ·rw[if_neg (by omega)];omega
    ·rw[if_pos (by omega)];omega
   clear h3 hI
   obtain⟨n1,n2,n3,n4⟩:=hmay
   have hu:∃u:Nat,u=U (M[k]).1∧wr.cell? ⟨w.heap.size,(M[k]).1,none⟩=some (.int .i64 u):=by
    refine⟨_,rfl,?_⟩
    match (M[k]).1,n1 with
    | 0,_=>exact cc 0 x1
    | 1,_=>exact cc 1 x1
    | 2,_=>exact cc 2 x1
    | 3,_=>exact cc 3 x1
    | 4,_=>exact cc 4 x1
    | 5,_=>exact cc 5 x1
    | 6,_=>exact cc 6 x1
    | 7,_=>exact cc 7 x1
    | i+8,hi=>omega
   obtain⟨u,hu,cu⟩:=hu
   rw[←hu]at n2
   have c8:=cc 8 x1
   clear x1 n4 hu
   generalize (M[k]).1=n at *
   generalize (M[k]).2=s at *
   have bw:Below wr.heap.size wr (wr.alloc (.cells (Qi n s) 45)):=bn _ _
   have hy:=heap_alloc_new wr (.cells (Qi n s) 45)
   have f0:∀p:Beh (wr.alloc (.cells (Qi n s) 45)),p.w.cell? ⟨wr.heap.size,0,none⟩=some (.int .i64 n):=fun p=>p.cell (cc 0 hy)
   have f1:∀p:Beh (wr.alloc (.cells (Qi n s) 45)),p.w.cell? ⟨wr.heap.size,1,none⟩=some (.int .i64 s):=fun p=>p.cell (cc 1 hy)
   have fu:∀p:Beh (wr.alloc (.cells (Qi n s) 45)),p.w.cell? ⟨w.heap.size,n,none⟩=some (.int .i64 u):=fun p=>p.cell ((bw.cell (p:=⟨w.heap.size,n,none⟩) hH).trans cu)
   have f8:∀p:Beh (wr.alloc (.cells (Qi n s) 45)),p.w.cell? ⟨w.heap.size,8,none⟩=some (.slice (some ⟨g,off,none⟩) M.length cap):=fun p=>p.cell ((bw.cell (p:=⟨w.heap.size,8,none⟩) hH).trans c8)
   have HMY:=zA (fun W:World=>(may_any n s W).mono (R':=fun e w'=>e=.returned (.bool true)∧Below W.heap.size W w') (fun e w' ⟨he,hb⟩=>⟨by rw[he,show Pl.may n s=true from by simp[Pl.may];omega],hb⟩))
   have HBW:=zA (HI.out.trans (bw.mono HI.out.size))
   have g1:(n:Int)<8:=by omega
   have g2:decide ((s:Int) - u<2)=false:=decide_eq_false (by omega)
   have g3:IntKind.i64.wrap ((s:Int) - u)=(s:Int) - u:=by rw[IntKind.wrap_i64];omega
   have HBV:=zA bw
   have HBX:=zA (Below.refl (wr.alloc (.cells (Qi n s) 45)).heap.size (wr.alloc (.cells (Qi n s) 45)))
   have HN3:=zA n3
   have HN1:=zA n1
   clear bw hy cu c8 n1 n2 n3
   rcases Nat.eq_zero_or_pos k with hk0 | hk0
   ·have ek:decide (0<k)=false:=decide_eq_false (by omega)
    clear hk0 hprev
    go_wp2_with fail
    refine zU (by kernel_rfl) (by kernel_rfl) HBX.out ?_
    repeat (go_big_quiet_step (exact Calls.beh_of (HMY.out _)))
    refine wpQuiet_nil ?_
    intro _ hw'
    obtain⟨q,hw''⟩:=hw'
    subst hw''
    clear f0 f1 fu f8
    have HQ:=zA (HBW.out.trans (q.b.mono HBW.out.size))
    go_wp2_with fail
    exact⟨⟨k+1,by omega,rfl,HQ.out⟩,by simp[intOf];omega⟩
   ·have ek:decide (0<k)=true:=decide_eq_true (by omega)
    obtain⟨p1,p2,d0,d1,q1,q2,q3⟩:=hprev hk0
    have hgw:=hg
    have e0:∀p:Beh (wr.alloc (.cells (Qi n s) 45)),p.w.cell? ⟨g,off+(k - 1)*2,none⟩=some (.int .i64 p1):=fun p=>p.cell ((HBV.out.cell (p:=⟨g,off+(k - 1)*2,none⟩) hg).trans d0)
    have e1:∀p:Beh (wr.alloc (.cells (Qi n s) 45)),p.w.cell? ⟨g,off+(k - 1)*2+1,none⟩=some (.int .i64 p2):=fun p=>p.cell ((HBV.out.cell (p:=⟨g,off+(k - 1)*2+1,none⟩) hg).trans d1)
    have HCM:=zA (fun W:World=>compare_any p1 p2 n s W (by omega) (by omega) (by have:=HN1.out;omega) (by have:=HN3.out;omega))
    have g5:IntKind.i64.wrap ((k:Int) - 1)=((k - 1:Nat):Int):=by rw[IntKind.wrap_i64];omega
    have g6:((k - 1:Nat):Int)<M.length:=by omega
    have g7:decide (0≤Pl.cmp p1 p2 n s)=false:=decide_eq_false (by omega)
    have HK1:=zA hk0
    clear hk0 hprev q1 q2 q3 d0 d1
    generalize k - 1=k1 at *
    generalize Pl.cmp p1 p2 n s=cm at *
    go_wp2_with fail
    refine zU (by kernel_rfl) (by kernel_rfl) HBX.out ?_
    repeat (go_big_quiet_step (first | exact Calls.beh_of (HMY.out _) | exact Calls.beh_of (HCM.out _)))
    refine wpQuiet_nil ?_
    intro _ hw'
    obtain⟨q,hw''⟩:=hw'
    subst hw''
    clear f0 f1 fu f8
    have HQ:=zA (HBW.out.trans (q.b.mono HBW.out.size))
    go_wp2_with fail
    exact⟨⟨k+1,by omega,rfl,HQ.out⟩,by simp[intOf];omega⟩
  ·obtain rfl:k=M.length:=by omega
   clear hI hlt
   go_wp2_with fail
   go_ret
   exact⟨rfl,HB1.out.trans (HI.out.mono HB1.out.size)⟩
theorem OpAt.congr {w:World} {o:Nat} {O O':Nat→Nat→Bool} (h:OpAt w o O) (k:∀n s,n<8→s<98→O n s=O' n s):OpAt w o O':=
 World.rowIs.congr h (fun i hi=>by rw[k (i / 98) (i%98) (by omega) (by omega)])
theorem OpAt.no45 {w:World} {o:Nat} {O:Nat→Nat→Bool} (h:OpAt w o O) {g:Nat} {cs:Array Value} {fr:Nat×Nat} (hg:w.heap[g]?=some (Obj.cells cs 45 fr)):g≠o:=by
 intro e
 obtain⟨c,hc,_⟩:=h
 rw[e,hc]at hg;cases hg
theorem index54_at (cs:Array Value) (v:Value) (n:Nat) (hn:n<8) (hv:cs[n]?=some v) (W:World):Sem.run prog (Instr.index 54 (.agg cs) (.int .i64 n)) W=.ok v W:=by
 have hn':(n:Int)<8:=by omega
 unfold Instr.index
 go_simp
theorem index54 (U:Nat→Nat) (n:Nat) (hn:n<8) (W:World):Sem.run prog (Instr.index 54 (.agg #[.int .i64 (U 0),.int .i64 (U 1),.int .i64 (U 2),.int .i64 (U 3),.int .i64 (U 4),.int .i64 (U 5),.int .i64 (U 6),.int .i64 (U 7)]) (.int .i64 n)) W=.ok (.int .i64 (U n)) W:=
 index54_at _ _ n hn (by
  match n,hn with
  | 0,_=>rfl
  | 1,_=>rfl
  | 2,_=>rfl
  | 3,_=>rfl
  | 4,_=>rfl
  | 5,_=>rfl
  | 6,_=>rfl
  | 7,_=>rfl
  | i+8,hi=>omega) W
theorem lay_ok (o:Nat) (v:Value) (O:Nat→Nat→Bool) (U:Nat→Nat) (M:List (Nat×Nat)) (w:World) (h:SetV w v O U M) (ho:OpAt w o (fun _ _=>false)) :
  Calls prog 123 #[Qp o,v] w fun e w'=>e=.returned (.tuple #[])∧OpAt w' o O∧Off (· = o) w w':=by
 have hbelow:=fun x=>bn w (.cells x 60)
 have HR:=zA (fun x=>uE v O U M _ (h.below (hbelow x)))
 have HB:=zA hbelow
 have HV:=zA h
 have HO:=zA ho
 obtain⟨m,rfl,hd,hc⟩:=h
 obtain⟨ao,cap,rfl,_⟩:=hd.toC
 have HC:=zA hc
 have HV2:=zA hd
 have hx:=heap_alloc_new w (.cells (Qu U ao M.length cap) 60)
 have HX:=zA hx
 clear hbelow hd hc hx ho
 go_enter func123,ntmps123
 go_wp2_with fail
 refine(HR.out _).mono ?_
 rintro e w1 ⟨rfl,b1⟩
 have HB1:=zA ((HB.out _).trans (b1.mono (HB.out _).size))
 have x1:=(b1.block _ (gsi.1 HX.out).1).trans HX.out
 have c0:=cc 0 x1
 have c1:=cc 1 x1
 have c2:=cc 2 x1
 have c3:=cc 3 x1
 have c4:=cc 4 x1
 have c5:=cc 5 x1
 have c6:=cc 6 x1
 have c7:=cc 7 x1
 have HX1:=zA x1
 clear b1 HR HX x1
 go_wp2_with fail
 clear c0 c1 c2 c3 c4 c5 c6 c7
 have O1:=HO.out.below HB1.out
 have F1:Off (· = o) w1 w1:=.refl _ _
 go_loopw [12] (fun i wr=>∃(n:Nat),n≤8∧i=.int .i64 n∧OpAt wr o (fun a b=>decide (a<n∧1≤b∧b≤U a))∧Off (· = o) w1 wr) (fun i _=>8 - (intOf i).toNat)
 case atStart=>exact⟨0,by omega,rfl,O1.congr (fun n s _ _=>by simp),F1⟩
 case round=>
  obtain⟨n,hn,rfl,hO,hF⟩:=hrel
  clear O1 F1
  have HOn:=zA hO
  have HFn:=zA hF
  clear hO hF
  by_cases hlt:n<8
  ·have hidx:=index54 U n hlt
   have HU:=zA (HC.out.upto n hlt)
   generalize hu:U n=u at *
   have HUE:=zA hu
   have g8:(n:Int)<8:=by omega
   clear hu
   go_wp2_with fail
   clear hidx
   have HLT:=zA hlt
   go_loopw [17] (fun i wr=>∃(q:Nat),q≤u∧i=.int .i64 q∧OpAt wr o (fun a b=>decide ((a<n∧1≤b∧b≤U a)∨(a=n∧1≤b∧b≤q)))∧Off (· = o) w1 wr) (fun i _=>u - (intOf i).toNat)
   case atStart=>exact⟨0,by omega,rfl,HOn.out.congr (fun a b _ _=>decide_eq_decide.2 (by omega)),HFn.out⟩
   case round=>
    obtain⟨q,hq,rfl,hO,hF⟩:=hrel
    have HOq:=zA hO
    have HFq:=zA hF
    clear hO hF
    by_cases hql:q<u
    ·have qO:=zA (put_ok o n (q+1) _ _ HOq.out HLT.out (by have:=HU.out;omega))
     have a1:(q:Int)+1≤9223372036854775807:=by have:=HU.out;omega
     have a2:((q:Int)+1)=((q+1:Nat):Int):=by omega
     have HA2:=zA a2
     clear a2
     go_wp2_with fail
     rw[HA2.out]
     refine qO.out.mono ?_
     rintro e w5 ⟨rfl,O5,F5⟩
     have HO5:=zA O5
     have HF5:=zA (HFq.out.trans F5)
     clear O5 F5
     go_wp2_with fail
     refine⟨⟨q+1,by omega,by rw[HA2.out],HO5.out.congr (fun a b _ _=>?_),HF5.out⟩,by simp[intOf];omega⟩
     unfold Pl.put1
     by_cases e:a=n∧b=q+1
     ·rw[if_pos e];symm;exact decide_eq_true (by omega)
     ·rw[if_neg e];exact decide_eq_decide.2 (by omega)
    ·obtain rfl:q=u:=by omega
     go_wp2_with fail
     refine⟨⟨n+1,by omega,rfl,HOq.out.congr (fun a b _ _=>decide_eq_decide.2 ?_),HFq.out⟩,by simp[intOf];omega⟩
     have:=HUE.out
     constructor
     ·rintro(h | ⟨h,h'⟩)
      ·omega
      ·subst h;omega
     ·intro h
      by_cases e:a=n
      ·subst e;omega
      ·omega
  ·obtain rfl:n=8:=by omega
   clear hn hlt
   have hlt:w.heap.size≠o:=by have:=HO.out.lt;omega
   have x8:=(HFn.out.same w.heap.size (gsi.1 HX1.out).1 hlt).trans HX1.out
   have c8:=cc 8 x8
   clear hlt x8
   go_wp2_with fail
   refine(each_first (.slice ao M.length cap) (Qp o) 206 M (fun k W=>OpAt W o (fun a b=>decide ((a<8∧1≤b∧b≤U a)∨(a,b)∈M.take k))∧Off (· = o) w1 W) wr ⟨HOn.out.congr (fun a b _ _=>decide_eq_decide.2 (by simp)),HFn.out⟩ (by have:=HC.out.len;omega) ?_ ?_ (fun x W=>by kernel_rfl) ?_).mono ?_
   ·rintro k W ⟨hO,hF⟩
    exact(((HV2.out.below HB1.out).keep (fun g cs fr hg=>hF.same g (gsi.1 hg).1 ((HO.out.below HB1.out).no45 hg)))).toC
   ·rintro k W W' ⟨hO,hF⟩ hb
    exact⟨hO.below hb,hF.trans (.of_below hb)⟩
   ·rintro k hk W ⟨hO,hF⟩
    have hm:=HC.out.may _ (List.getElem_mem hk)
    refine(put_ok o (M[k]).1 (M[k]).2 _ W hO hm.1 (by omega)).mono ?_
    rintro e W' ⟨rfl,hO',hF'⟩
    refine⟨rfl,hO'.congr (fun a b _ _=>?_),hF.trans hF'⟩
    unfold Pl.put1
    rw[List.take_succ_eq_append_getElem hk]
    by_cases e:a=(M[k]).1∧b=(M[k]).2
    ·rw[if_pos e];symm;refine decide_eq_true (.inr (List.mem_append.2 (.inr ?_)))
     rw[List.mem_singleton];exact Prod.ext e.1 e.2
    ·rw[if_neg e]
     refine decide_eq_decide.2 ⟨fun h=>h.imp id (fun h=>List.mem_append.2 (.inl h)),fun h=>h.imp id (fun h=>?_)⟩
     rcases List.mem_append.1 h with h | h
     ·exact h
     ·rw[List.mem_singleton]at h
      exact absurd ⟨congrArg Prod.fst h,congrArg Prod.snd h⟩ e
   ·rintro e w' ⟨rfl,hO,hF⟩
    have HOO:=zA hO
    have HFF:=zA hF
    clear hO hF
    go_wp2_with fail
    refine yD results123 ⟨rfl,HOO.out.congr (fun a b ha _=>?_),HFF.out.after HB1.out (fun g _ h=>h)⟩
    rw[List.take_length]
    cases hO:O a b with
    | true=>
     obtain⟨_,h1,_,h2⟩:=HC.out.has a b hO
     exact decide_eq_true (h2.imp (fun h=>⟨ha,h1,h⟩) id)
    | false=>
     refine decide_eq_false ?_
     rintro(⟨_,h1,h2⟩ | h)
     ·rw[HC.out.all a b ha h1 h2]at hO;cases hO
     ·rw[(HC.out.may _ h).2.2.2]at hO;cases hO
theorem info226:(prog.info? 226).map (fun i=>(i.zero,i.size))=some (some (.agg (Array.replicate 784 (.bool false))),784):=by kernel_rfl
theorem open_new (w:World):OpAt (w.alloc (.cells (Array.replicate 784 (.bool false)) 226)) w.heap.size (fun _ _=>false):=
 ⟨Array.replicate 784 (.bool false),heap_alloc_new w _,by simp,fun i hi=>by simp[hi]⟩
theorem of_ok (H:Nat) (m:Value) (O:Nat→Nat→Bool) (U:Nat→Nat) (M:List (Nat×Nat)) (w:World) (hH:w.heap[H]?=some (.cells #[.int .i64 (U 0),.int .i64 (U 1),.int .i64 (U 2),.int .i64 (U 3),.int .i64 (U 4),.int .i64 (U 5),.int .i64 (U 6),.int .i64 (U 7),m] 60 (0,0))) (hV:SetV w (Pl.setv U m) O U M) :
  Calls prog 55 #[.slice (some ⟨H,0,none⟩) 1 1] w fun e w'=>∃o,e=.returned (Qp o)∧w.heap.size≤o∧OpAt w' o O∧Below w.heap.size w w':=by
 have zz:=(zero_of_info info226).1
 have b1:Below w.heap.size w (w.alloc (.cells (Array.replicate 784 (.bool false)) 226)):=bn _ _
 have HB:=zA b1
 have HO:=zA (open_new w)
 have HV:=zA hV
 have hm:∃ao cap,m=.slice ao M.length cap:=by
  obtain⟨m',e,hd,_⟩:=hV
  obtain⟨ao,cap,e',_⟩:=hd.toC
  unfold Pl.setv at e
  simp at e
  exact⟨ao,cap,e.trans e'⟩
 obtain⟨ao,cap,rfl⟩:=hm
 have HH:=zA hH
 clear b1 hV hH
 go_enter func55,ntmps55
 go_wp2_with fail
 generalize hW0:w.alloc (.cells (Array.replicate 784 (.bool false)) 226)=W0 at *
 clear hW0
 go_loopw [10] (fun i wr=>(i=.int .i64 0∧OpAt wr w.heap.size (fun _ _=>false)∧Below w.heap.size w wr)∨(i=.int .i64 1∧OpAt wr w.heap.size O∧Below w.heap.size w wr)) (fun i _=>1 - (intOf i).toNat)
 case atStart=>exact .inl ⟨rfl,HO.out,HB.out⟩
 case round=>
  rcases hrel with⟨rfl,hO,hB⟩ | ⟨rfl,hO,hB⟩
  ·have x1:=(hB.block H (gsi.1 HH.out).1).trans HH.out
   have c0:=cc 0 x1
   have c1:=cc 1 x1
   have c2:=cc 2 x1
   have c3:=cc 3 x1
   have c4:=cc 4 x1
   have c5:=cc 5 x1
   have c6:=cc 6 x1
   have c7:=cc 7 x1
   have c8:=cc 8 x1
   have b2:Below wr.heap.size wr (wr.alloc (.cells (Qu U ao M.length cap) 60)):=bn _ _
   have HL:=zA (lay_ok w.heap.size _ O U M _ ((HV.out.below hB).below b2) (hO.below b2))
   have HB2:=zA (hB.trans (b2.mono hB.size))
   clear hO hB b2 x1
   go_wp2_with fail
   refine HL.out.mono ?_
   rintro e w5 ⟨rfl,O5,F5⟩
   have HO5:=zA O5
   have HB5:=zA (F5.since HB2.out (fun g hg=>Nat.le_of_eq hg.symm))
   clear O5 F5 c0 c1 c2 c3 c4 c5 c6 c7 c8
   go_wp2_with fail
   exact⟨.inr ⟨rfl,HO5.out,HB5.out⟩,by simp[intOf]⟩
  ·have HOO:=zA hO
   have HBB:=zA hB
   clear hO hB
   go_wp2_with fail
   go_ret
   exact⟨_,rfl,Nat.le_refl _,HOO.out,HBB.out⟩
namespace Pl
def row (O:Nat→Nat→Bool) (n:Nat):List (Nat×Nat):=((List.range 98).filter (O n)).map (fun s=>(n,s))
def dots (O:Nat→Nat→Bool):List (Nat×Nat):=(List.range 8).flatMap (row O)
def ahead (O:Nat→Nat→Bool) (n s:Nat):List (Nat×Nat):=(List.range n).flatMap (row O)++((List.range s).filter (O n)).map (fun s=>(n,s))
theorem wZ (O:Nat→Nat→Bool):ahead O 0 0=[]:=rfl
theorem ahead_all (O:Nat→Nat→Bool) (n:Nat):ahead O n 98=ahead O (n+1) 0:=by
 unfold ahead
 rw[List.range_succ (n:=n),List.flatMap_append]
 simp[row]
theorem ahead_yes (O:Nat→Nat→Bool) (n s:Nat) (h:O n s=true):ahead O n (s+1)=ahead O n s++[(n,s)]:=by
 unfold ahead
 rw[List.range_succ,List.filter_append,List.map_append,List.append_assoc]
 simp[h]
theorem ahead_no (O:Nat→Nat→Bool) (n s:Nat) (h:O n s=false):ahead O n (s+1)=ahead O n s:=by
 unfold ahead
 rw[List.range_succ,List.filter_append,List.map_append]
 simp[h]
theorem ahead_end (O:Nat→Nat→Bool):ahead O 8 0=dots O:=by unfold ahead dots;simp
end Pl
theorem index129 (cs:Array Value) (v:Value) (n:Nat) (hn:n<98) (hv:cs[n]?=some v) (W:World):Sem.run prog (Instr.index 129 (.agg cs) (.int .i64 n)) W=.ok v W:=by
 have hn':(n:Int)<98:=by omega
 unfold Instr.index
 go_simp
def rowv (O:Nat→Nat→Bool) (n:Nat):List Value:=(List.range 98).map (fun s=>.bool (O n s))
theorem OpAt.range {w:World} {o n:Nat} {O:Nat→Nat→Bool} (h:OpAt w o O) (hn:n<8):w.rangeAt o (n*98) (rowv O n):=by
 intro j v hj
 unfold rowv at hj
 have hlt:j<98:=by
  rcases Nat.lt_or_ge j 98 with h' | h'
  ·exact h'
  ·rw[List.getElem?_eq_none (by simpa using h')]at hj;cases hj
 rw[List.getElem?_map,List.getElem?_range hlt]at hj
 cases hj
 exact h.cell hn hlt
theorem info129:(prog.info? 129).map (·.size)=some 98:=by kernel_rfl
theorem under129:prog.underlying 129=some (.array 98 4):=by kernel_rfl
theorem walk_any (o f:Nat) (cb:Array Value) (O:Nat→Nat→Bool) (I:List (Nat×Nat)→World→Prop) (w:World) (h0:I [] w) (hO:∀l W,I l W→OpAt W o O)
  (hcf:∀(x:Value) (W:World),Sem.run prog (callFunc f (#[x]++cb)) W=.ok (.enter f (#[x]++cb)) W)
  (hC:∀n s W,I (Pl.ahead O n s) W→n<8→s<98→O n s=true→Calls prog f (#[.agg (Qi n s)]++cb) W fun e w'=>e=.returned (.tuple #[])∧I (Pl.ahead O n s++[(n,s)]) w') :
  Calls prog 125 #[Qp o,.func (.func f) #[] cb] w fun e w'=>e=.returned (.tuple #[])∧I (Pl.dots O) w':=by
 have HI:=zA h0
 have HO:=zA hO
 have HC:=zA hC
 clear h0 hO hC
 go_enter func125,ntmps125
 go_wp2_with fail
 go_loopw [7] (fun i wr=>∃(n:Nat),n≤8∧i=.int .i64 n∧I (Pl.ahead O n 0) wr) (fun i _=>8 - (intOf i).toNat)
 case atStart=>exact⟨0,by omega,rfl,HI.out⟩
 case round=>
  obtain⟨n,hn,rfl,hI⟩:=hrel
  have HIn:=zA hI
  by_cases hlt:n<8
  ·have g8:(n:Int)<8:=by omega
   have hrg:=zA ((HO.out _ _ hI).range hlt)
   clear hI
   go_wp2_with (refine wpList_load_mid rfl 129 (.tmp 13) rfl o (n*98) rfl (rowv O n) _ hrg.out under129 rfl (by rw[info129];simp[rowv]) ?_)
   have hcs:∀q,q<98→(rowv O n).toArray[q]?=some (Value.bool (O n q)):=fun q hq=>by simp[rowv,hq]
   have HCS:=zA hcs
   clear hcs hrg
   generalize (rowv O n).toArray=cs at *
   have HLT:=zA hlt
   go_loopw [15] (fun i wr=>∃(q:Nat),q≤98∧i=.int .i64 q∧I (Pl.ahead O n q) wr) (fun i _=>98 - (intOf i).toNat)
   case atStart=>exact⟨0,by omega,rfl,HIn.out⟩
   case round=>
    obtain⟨q,hq,rfl,hI⟩:=hrel
    have HIq:=zA hI
    clear hI
    by_cases hql:q<98
    ·have q8:(q:Int)<98:=by omega
     have hix:=index129 cs _ q hql (HCS.out q hql)
     cases hb:O n q with
     | true=>
      rw[hb]at hix
      have pG:=zA (HC.out n q _ HIq.out HLT.out hql hb)
      have HBB:=zA hb
      clear hb
      go_wp2_with fail
      refine pG.out.mono ?_
      rintro e w5 ⟨rfl,I5⟩
      have HI5:=zA (show I (Pl.ahead O n (q+1)) w5 by rw[Pl.ahead_yes O n q HBB.out];exact I5)
      clear I5
      go_wp2_with fail
      exact⟨⟨q+1,by omega,rfl,HI5.out⟩,by simp[intOf];omega⟩
     | false=>
      rw[hb]at hix
      have HI5:=zA (show I (Pl.ahead O n (q+1)) wr by rw[Pl.ahead_no O n q hb];exact HIq.out)
      clear hb
      go_wp2_with fail
      exact⟨⟨q+1,by omega,rfl,HI5.out⟩,by simp[intOf];omega⟩
    ·obtain rfl:q=98:=by omega
     clear hq hql
     have HI5:=zA (show I (Pl.ahead O (n+1) 0) wr by rw[←Pl.ahead_all O n];exact HIq.out)
     go_wp2_with fail
     exact⟨⟨n+1,by omega,rfl,HI5.out⟩,by simp[intOf];omega⟩
  ·obtain rfl:n=8:=by omega
   have HI5:=zA (show I (Pl.dots O) wr by rw[←Pl.ahead_end O];exact HIn.out)
   clear hn hlt hI
   go_wp2_with fail
   exact yD results125 ⟨rfl,HI5.out⟩
end
end Go.Proofs.YtodlmbfbfaofcaaGreat
