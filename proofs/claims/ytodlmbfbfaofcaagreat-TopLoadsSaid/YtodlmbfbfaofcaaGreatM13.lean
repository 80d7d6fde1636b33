/- TopLoads, part 13. -/
import Derived.Test.YtodlmbfbfaofcaaGreatM01
import Derived.Test.YtodlmbfbfaofcaaGreatM03
import Derived.Test.YtodlmbfbfaofcaaGreatM07
import Derived.Test.YtodlmbfbfaofcaaGreatM12
open Go.Proofs.Tryz
namespace Go.Proofs.YtodlmbfbfaofcaaGreat
set_option linter.unusedVariables false
set_option linter.unusedSimpArgs false
set_option maxRecDepth 100000
set_option maxHeartbeats 2000000
section
open Go.RowKit Rw Rh
theorem vN (n s:Nat) (time work value:Int) (w:World) (hn:n<8) (hs:1≤s∧s≤96) :
  Calls prog 188 #[.agg (Qeh (n:Int) (s:Int) time 1 work value)] w fun r w'=>r=.returned (.bool (Pl.inside time 1 1099511627776&&(Pl.inside work 0 7&&Pl.inside value 0 1099511627776)))∧Below w.heap.size w w':=by
 have HN:=zA hn
 have HS:=zA hs
 have heq:∀w,(binOp .eql 38 (.agg Qgh) (.agg Qgh)).run prog w=.ok (.bool true) w:=fun _=>by kernel_rfl
 clear hn hs
 have b1:=bn w (.cells (Qeh (n:Int) (s:Int) time 1 work value) 175)
 have hx:=heap_alloc_new w (.cells (Qeh (n:Int) (s:Int) time 1 work value) 175)
 have HB:=zA b1
 have HX:=zA hx
 have c0:=cc 0 hx
 have c1:=cc 1 hx
 have c2:=cc 2 hx
 have c3:=cc 3 hx
 have c4:=cc 4 hx
 have c5:=cc 5 hx
 have c6:=cc 6 hx
 have c7:=cc 7 hx
 have c8:=cc 8 hx
 have c9:=cc 9 hx
 have c10:=cc 10 hx
 have c11:=cc 11 hx
 have c12:=cc 12 hx
 have c13:=cc 13 hx
 clear b1 hx
 go_enter func188,ntmps188
 go_wp2_with fail
 generalize w.alloc (.cells (Qeh (n:Int) (s:Int) time 1 work value) 175)=W at *
 clear c0 c1 c2 c3 c4 c5 c6 c7 c8 c9 c10 c11 c12 c13
 refine(add_ok _ n s _ _ _ W (tL W) HN.out HS.out rfl).mono ?_
 rintro r w2 ⟨v1,U1,M1,rfl,⟨m1,rfl,hd1,_⟩,b2⟩
 obtain⟨ao1,cap1,rfl,_⟩:=hd1.toC
 have hx2:=(b2.block _ (gsi.1 HX.out).1).trans HX.out
 have b3:=bn w2 (.cells (Qu U1 ao1 M1.length cap1) 60)
 have hbz:=HB.out.trans ((b2.trans (b3.mono b2.size)).mono HB.out.size)
 have hxz:=(b3.block _ (gsi.1 hx2).1).trans hx2
 have HBZ:=zA hbz
 have HXZ:=zA hxz
 have c0:=cc 0 hxz
 have c1:=cc 1 hxz
 have c2:=cc 2 hxz
 have c3:=cc 3 hxz
 have c4:=cc 4 hxz
 have c5:=cc 5 hxz
 have c6:=cc 6 hxz
 have c7:=cc 7 hxz
 have c8:=cc 8 hxz
 have c9:=cc 9 hxz
 have c10:=cc 10 hxz
 have c11:=cc 11 hxz
 have c12:=cc 12 hxz
 have c13:=cc 13 hxz
 clear hd1 b2 b3 hx2 hxz hbz
 go_wp2_with fail
 generalize w2.alloc (.cells (Qu U1 ao1 M1.length cap1) 60)=Z at *
 refine(zY _ _ _ Z).mono ?_
 rintro r w' ⟨rfl,rfl⟩
 rcases ht:Pl.inside time 1 1099511627776 with _ | _
 ·go_wp2_with fail
  go_ret
  exact⟨by simp only[ht];rfl,HBZ.out⟩
 ·go_wp2_with fail
  refine(zY _ _ _ Z).mono ?_
  rintro r w' ⟨rfl,rfl⟩
  rcases hw:Pl.inside work 0 7 with _ | _
  ·go_wp2_with fail
   go_ret
   exact⟨by simp only[ht,hw];rfl,HBZ.out⟩
  ·go_wp2_with fail
   refine(tR _ _ Z).mono ?_
   rintro r w3 ⟨rfl,b3⟩
   have hx3:=(b3.block _ (gsi.1 HXZ.out).1).trans HXZ.out
   have HB3:=zA (HBZ.out.trans (b3.mono HBZ.out.size))
   clear c0 c1 c2 c3 c4 c5 c6 c7 c8 c9 c10 c11 c12 c13
   have c0:=cc 0 hx3
   have c1:=cc 1 hx3
   have c2:=cc 2 hx3
   have c3:=cc 3 hx3
   have c4:=cc 4 hx3
   have c5:=cc 5 hx3
   have c6:=cc 6 hx3
   have c7:=cc 7 hx3
   have c8:=cc 8 hx3
   have c9:=cc 9 hx3
   have c10:=cc 10 hx3
   have c11:=cc 11 hx3
   have c12:=cc 12 hx3
   have c13:=cc 13 hx3
   clear b3 hx3
   go_wp2_with fail
   refine(zY _ _ _ w3).mono ?_
   rintro r w' ⟨rfl,rfl⟩
   rcases hv:Pl.inside value 0 1099511627776 with _ | _
   all_goals
    go_wp2_with fail
    go_ret
    exact⟨by simp only[ht,hw,hv];rfl,HB3.out⟩
theorem right_set0 (n s:Nat) (time work mn mx goal slack up down cool:Int) (w:World) (hn:n<8) (hs:1≤s∧s≤96) (hr:(Pl.Ev.mk n s time 2 work 0 mn mx goal slack up down cool).right=true) :
  Calls prog 188 #[.agg (Qe (n:Int) (s:Int) time 2 work 0 mn mx goal slack up down cool)] w fun r w'=>r=.returned (.bool true)∧Below w.heap.size w w':=by
 have HN:=zA hn
 have HS:=zA hs
 have hr2:Pl.inside time 1 1099511627776=true∧Pl.inside work 0 7=true∧(Pl.Ev.mk n s time 2 work 0 mn mx goal slack up down cool).polOk=true:=by
  unfold Pl.Ev.right at hr
  simp only[Bool.and_eq_true]at hr
  refine⟨hr.1,hr.2.1,?_⟩
  have:=hr.2.2
  simp at this
  exact this
 have HR:=zA hr2
 have heq:∀w,∃b,(binOp .eql 38 (.agg (Qg mn mx goal slack up down cool)) (.agg Qgh)).run prog w=.ok (.bool b) w:=fun w=>⟨_,eql38 _ _ _ _ _ _ _ w⟩
 have heq2:∃b,∀w,(binOp .eql 38 (.agg (Qg mn mx goal slack up down cool)) (.agg Qgh)).run prog w=.ok (.bool b) w:=⟨_,fun w=>eql38 _ _ _ _ _ _ _ w⟩
 obtain⟨b,heq3⟩:=heq2
 clear hn hs hr hr2 heq
 have b1:=bn w (.cells (Qe (n:Int) (s:Int) time 2 work 0 mn mx goal slack up down cool) 175)
 have hx:=heap_alloc_new w (.cells (Qe (n:Int) (s:Int) time 2 work 0 mn mx goal slack up down cool) 175)
 have HB:=zA b1
 have HX:=zA hx
 have c0:=cc 0 hx
 have c1:=cc 1 hx
 have c2:=cc 2 hx
 have c3:=cc 3 hx
 have c4:=cc 4 hx
 have c5:=cc 5 hx
 have c6:=cc 6 hx
 have c7:=cc 7 hx
 have c8:=cc 8 hx
 have c9:=cc 9 hx
 have c10:=cc 10 hx
 have c11:=cc 11 hx
 have c12:=cc 12 hx
 have c13:=cc 13 hx
 clear b1 hx
 go_enter func188,ntmps188
 go_wp2_with fail
 generalize w.alloc (.cells (Qe (n:Int) (s:Int) time 2 work 0 mn mx goal slack up down cool) 175)=W at *
 clear c0 c1 c2 c3 c4 c5 c6 c7 c8 c9 c10 c11 c12 c13
 refine(add_ok _ n s _ _ _ W (tL W) HN.out HS.out rfl).mono ?_
 rintro r w2 ⟨v1,U1,M1,rfl,⟨m1,rfl,hd1,_⟩,b2⟩
 obtain⟨ao1,cap1,rfl,_⟩:=hd1.toC
 have hx2:=(b2.block _ (gsi.1 HX.out).1).trans HX.out
 have b3:=bn w2 (.cells (Qu U1 ao1 M1.length cap1) 60)
 have hbz:=HB.out.trans ((b2.trans (b3.mono b2.size)).mono HB.out.size)
 have hxz:=(b3.block _ (gsi.1 hx2).1).trans hx2
 have HBZ:=zA hbz
 have HXZ:=zA hxz
 have c0:=cc 0 hxz
 have c1:=cc 1 hxz
 have c2:=cc 2 hxz
 have c3:=cc 3 hxz
 have c4:=cc 4 hxz
 have c5:=cc 5 hxz
 have c6:=cc 6 hxz
 have c7:=cc 7 hxz
 have c8:=cc 8 hxz
 have c9:=cc 9 hxz
 have c10:=cc 10 hxz
 have c11:=cc 11 hxz
 have c12:=cc 12 hxz
 have c13:=cc 13 hxz
 clear hd1 b2 b3 hx2 hxz hbz
 go_wp2_with fail
 generalize w2.alloc (.cells (Qu U1 ao1 M1.length cap1) 60)=Z at *
 refine(zY _ _ _ Z).mono ?_
 rintro r w' ⟨rfl,rfl⟩
 rw[HR.out.1]
 go_wp2_with fail
 refine(zY _ _ _ Z).mono ?_
 rintro r w' ⟨rfl,rfl⟩
 rw[HR.out.2.1]
 go_wp2_with fail
 refine(tR _ _ Z).mono ?_
 rintro r w3 ⟨rfl,b3⟩
 have hx3:=(b3.block _ (gsi.1 HXZ.out).1).trans HXZ.out
 have HB3:=zA (HBZ.out.trans (b3.mono HBZ.out.size))
 have HX3:=zA hx3
 clear c0 c1 c2 c3 c4 c5 c6 c7 c8 c9 c10 c11 c12 c13
 have c0:=cc 0 hx3
 have c1:=cc 1 hx3
 have c2:=cc 2 hx3
 have c3:=cc 3 hx3
 have c4:=cc 4 hx3
 have c5:=cc 5 hx3
 have c6:=cc 6 hx3
 have c7:=cc 7 hx3
 have c8:=cc 8 hx3
 have c9:=cc 9 hx3
 have c10:=cc 10 hx3
 have c11:=cc 11 hx3
 have c12:=cc 12 hx3
 have c13:=cc 13 hx3
 clear b3 hx3
 go_wp2_with fail
 refine(uH (Pl.Ev.mk n s time 2 work 0 mn mx goal slack up down cool) w3 HR.out.2.2).mono ?_
 rintro r w4 ⟨rfl,b4⟩
 have hx4:=(b4.block _ (gsi.1 HX3.out).1).trans HX3.out
 have HB4:=zA (HB3.out.trans (b4.mono HB3.out.size))
 clear c0 c1 c2 c3 c4 c5 c6 c7 c8 c9 c10 c11 c12 c13
 have c0:=cc 0 hx4
 have c1:=cc 1 hx4
 have c2:=cc 2 hx4
 have c3:=cc 3 hx4
 have c4:=cc 4 hx4
 have c5:=cc 5 hx4
 have c6:=cc 6 hx4
 have c7:=cc 7 hx4
 have c8:=cc 8 hx4
 have c9:=cc 9 hx4
 have c10:=cc 10 hx4
 have c11:=cc 11 hx4
 have c12:=cc 12 hx4
 have c13:=cc 13 hx4
 clear b4 hx4
 go_wp2_with fail
 go_ret
 exact⟨rfl,HB4.out⟩
theorem wN (e:Pl.Ev) (n s:Nat) (w:World) (hd:e.Dot n s) (h:e.kind=1∧e.still=true∨e.kind=2∧e.right=true):Calls prog 188 #[evv e] w fun r w'=>r=.returned (.bool e.right)∧Below w.heap.size w w':=by
 obtain⟨node,seq,time,kind,work,value,mn,mx,goal,slack,up,down,cool⟩:=e
 obtain⟨h1,h2,h3,h4,h5⟩:=hd
 simp only at h1 h2 h
 subst h1 h2
 rcases h with⟨h6,h7⟩ | ⟨h6,h7⟩
 ·subst h6
  unfold Pl.Ev.still at h7
  simp only[Bool.and_eq_true,beq_iff_eq]at h7
  obtain⟨h8,h9,h10,h11,h12,h13,h14⟩:=h7
  subst h8 h9 h10 h11 h12 h13 h14
  exact vN n s time work value w h3 ⟨h4,h5⟩
 ·subst h6
  have hv:value=0:=by
   unfold Pl.Ev.right at h7
   simp at h7
   exact h7.2.2.2
  subst hv
  rw[h7]
  exact right_set0 n s time work mn mx goal slack up down cool w h3 ⟨h4,h5⟩ h7
namespace Pl
def first (U:Nat→Nat) (k:Nat):Nat→Nat:=fun a=>if a<k then U a else 0
theorem nums_len (U:Nat→Nat) (M:List (Nat×Nat)):(nums U M).length=9+2*M.length:=by
 have hfl:(flat M).length=2*M.length:=by
  unfold flat
  induction M with
  | nil=>rfl
  | cons a l ih=>rw[List.flatMap_cons,List.length_append,ih,List.length_cons];simp;omega
 unfold nums
 rw[List.length_append,hfl];rfl
theorem vints_cons (n:Nat) (l:List Nat):vints (n::l)=vint n++vints l:=rfl
theorem nums_drop (U:Nat→Nat) (M:List (Nat×Nat)) (k:Nat) (hk:k<8):vints ((nums U M).drop k)=vint (U k)++vints ((nums U M).drop (k+1)):=by
 match k,hk with
 | 0,_=>rfl
 | 1,_=>rfl
 | 2,_=>rfl
 | 3,_=>rfl
 | 4,_=>rfl
 | 5,_=>rfl
 | 6,_=>rfl
 | 7,_=>rfl
 | k+8,hk=>exact absurd hk (by omega)
theorem nums_drop8 (U:Nat→Nat) (M:List (Nat×Nat)):vints ((nums U M).drop 8)=vint M.length++vints (flat M):=rfl
theorem flat_drop (M:List (Nat×Nat)) (k:Nat) (hk:k<M.length):vints (flat (M.drop k))=vint (M[k]).1++(vint (M[k]).2++vints (flat (M.drop (k+1)))):=by
 rw[List.drop_eq_getElem_cons hk]
 rfl
theorem nums_small {O:Nat→Nat→Bool} {U:Nat→Nat} {M:List (Nat×Nat)} (hc:Closed O U M):∀n∈nums U M,n≤768:=fun n hn=>by
 unfold nums nums0 at hn
 rcases List.mem_append.1 hn with hn | hn
 ·have:=hc.upto
  simp at hn
  rcases hn with rfl | rfl | rfl | rfl | rfl | rfl | rfl | rfl | rfl
  ·have:=this 0 (by omega);omega
  ·have:=this 1 (by omega);omega
  ·have:=this 2 (by omega);omega
  ·have:=this 3 (by omega);omega
  ·have:=this 4 (by omega);omega
  ·have:=this 5 (by omega);omega
  ·have:=this 6 (by omega);omega
  ·have:=this 7 (by omega);omega
  ·exact hc.len
 ·unfold flat at hn
  obtain⟨d,hd,hn⟩:=List.mem_flatMap.1 hn
  have:=hc.may d hd
  simp at hn
  rcases hn with rfl | rfl<;>omega
end Pl
theorem set8_at (U:Nat→Nat) (k:Nat) (m:Value) (hk:k<8) :
  (#[.int .i64 (Pl.first U k 0),.int .i64 (Pl.first U k 1),.int .i64 (Pl.first U k 2),.int .i64 (Pl.first U k 3),.int .i64 (Pl.first U k 4),.int .i64 (Pl.first U k 5),.int .i64 (Pl.first U k 6),.int .i64 (Pl.first U k 7),m]:Array Value).setIfInBounds k (.int .i64 (U k))=#[.int .i64 (Pl.first U (k+1) 0),.int .i64 (Pl.first U (k+1) 1),.int .i64 (Pl.first U (k+1) 2),.int .i64 (Pl.first U (k+1) 3),.int .i64 (Pl.first U (k+1) 4),.int .i64 (Pl.first U (k+1) 5),.int .i64 (Pl.first U (k+1) 6),.int .i64 (Pl.first U (k+1) 7),m]:=by
 match k,hk with
 | 0,_=>simp[Pl.first]
 | 1,_=>simp[Pl.first]
 | 2,_=>simp[Pl.first]
 | 3,_=>simp[Pl.first]
 | 4,_=>simp[Pl.first]
 | 5,_=>simp[Pl.first]
 | 6,_=>simp[Pl.first]
 | 7,_=>simp[Pl.first]
 | k+8,hk=>exact absurd hk (by omega)
theorem ClAt.off {base c r:Nat} {p:(Nat→Nat)×List (Nat×Nat)} {bs:List Int} {w w':World} (h:ClAt base c p w) (o:Off (· = r) w w') (hr:RdAt w r bs):ClAt base c p w':=by
 obtain⟨m,h1,h2⟩:=h
 have hn:∀g cs t fr,w.heap[g]?=some (Obj.cells cs t fr)→t≠293→w'.heap[g]?=w.heap[g]?:=fun g cs t fr hg ht=>o.same g (gsi.1 hg).1 (fun e=>by
  obtain⟨v,⟨cs',h3,_⟩,_⟩:=hr
  have e':g=r:=e
  rw[e']at hg;rw[hg]at h3;cases h3;exact ht rfl)
 exact⟨m,(hn c _ _ _ h1 (by decide)).trans h1,h2.keep (fun g hg=>by
  obtain⟨cs,hcs⟩:=zK h2 hg
  exact hn g _ _ _ hcs (by decide))⟩
theorem zI {cs cs':Array Value} {t t':TypeId} {fr fr':Nat×Nat} (ht:t≠t') (h:some (Obj.cells cs t fr)=some (Obj.cells cs' t' fr')):False:=by
 injection h with h
 injection h with h1 h2
 exact ht h2
theorem blk_off {g r t:Nat} {cs:Array Value} {fr:Nat×Nat} {bs:List Int} {w w':World} (hg:w.heap[g]?=some (.cells cs t fr)) (ht:t≠293) (o:Off (· = r) w w') (hr:RdAt w r bs):w'.heap[g]?=w.heap[g]?:=
 o.same g (gsi.1 hg).1 (fun e=>by
  obtain⟨v,⟨cs',h3,_⟩,_⟩:=hr
  have e':g=r:=e
  rw[e']at hg;rw[hg]at h3;cases h3;exact ht rfl)
theorem RdAt.grown {w w':World} {r:Nat} {bs:List Int} {row:Option Nat} (h:RdAt w r bs) (hg:w.grownBy w' row) (rZ:∀g,row=some g→∃cs,w.heap[g]?=some (.cells cs 45 (0,0))):RdAt w' r bs:=by
 have hk:∀g cs t fr,w.heap[g]?=some (Obj.cells cs t fr)→t≠45→w'.heap[g]?=w.heap[g]?:=fun g cs t fr h1 ht=>hg.block g (gsi.1 h1).1 (fun e=>by
  obtain⟨cs',h2⟩:=rZ g e.symm
  rw[h1]at h2;cases h2;exact ht rfl)
 obtain⟨v,h1,h2⟩:=h
 obtain⟨cs',h3,_⟩:=id h1
 exact⟨v,World.rowIs.of_block h1 (hk r _ _ _ h3 (by decide)),h2.keep (fun g cs fr hg=>hk g _ _ _ hg (by decide))⟩
theorem cl_first (base c:Nat) (U:Nat→Nat) (M:List (Nat×Nat)) (w:World) (h:ClAt base c (Pl.first U 8,M) w):ClAt base c (U,M) w:=by
 obtain⟨m,h1,h2⟩:=h
 exact⟨m,h1,h2⟩
theorem get_set_ok (v:Value) (O:Nat→Nat→Bool) (U:Nat→Nat) (M:List (Nat×Nat)) (w:World) (hc:Pl.Closed O U M) (h:BytesC w v (Pl.vints (Pl.nums U M))) :
  Calls prog 112 #[v] w fun e w'=>∃v',e=.returned (.tuple #[v',.int .i64 0])∧SetV w' v' O U M∧Below w.heap.size w w':=by
 have hl:(Pl.vints (Pl.nums U M)).length≤1000000:=by
  have h1:=Pl.vints_len (Pl.nums U M) (fun n hn=>by have:=Pl.nums_small hc n hn;omega)
  rw[Pl.nums_len]at h1
  have:=hc.len
  omega
 have qJ:=zA hc.len
 have HSM:=zA (Pl.nums_small hc)
 have HCL:=zA hc
 have b1:=bn w (.cells (Qv 0 0 0 0 0 0 0 0) 60)
 have qI:=zA (uS v _ _ (h.below b1) hl)
 have HB:=zA b1
 have HZ:=zA (heap_alloc_new w (.cells (Qv 0 0 0 0 0 0 0 0) 60))
 clear h hl hc b1
 go_enter func112,ntmps112
 go_wp2_with fail
 generalize w.alloc (.cells (Qv 0 0 0 0 0 0 0 0) 60)=W0 at *
 have H60:=zA (fun (W:World) (hW:Below W0.heap.size W0 W)=>(hW.block w.heap.size (gsi.1 HZ.out).1).trans HZ.out)
 refine qI.out.mono ?_
 rintro e w1 ⟨r,rfl,hr0,hrd,b1⟩
 have b2:=bn w1 (.cells (Qv 0 0 0 0 0 0 0 0) 60)
 have hbb:=b1.trans (b2.mono b1.size)
 have hcl:ClAt W0.heap.size w1.heap.size (Pl.first U 0,[]) (w1.alloc (.cells (Qv 0 0 0 0 0 0 0 0) 60)):=⟨.slice none 0 0,heap_alloc_new w1 _,yH _ _ _⟩
 have HRD:=zA (hrd.below b2)
 have HCA:=zA hcl
 have HBB:=zA hbb
 have HR0:=zA hr0
 have HC0:=zA b1.size
 clear hrd b1 b2 hbb hcl hr0 qI
 go_wp2_with fail
 generalize hc1:w1.heap.size=c at *
 generalize w1.alloc (.cells (Qv 0 0 0 0 0 0 0 0) 60)=W1 at *
 clear hc1
 go_loopw [12] (fun i wr=>∃(k:Nat),k≤8∧i=.int .i64 k∧RdAt wr r (Pl.vints ((Pl.nums U M).drop k))∧ClAt W0.heap.size c (Pl.first U k,[]) wr∧Below W0.heap.size W0 wr) (fun i _=>8 - (intOf i).toNat)
 case atStart=>exact⟨0,by omega,rfl,HRD.out,HCA.out,HBB.out⟩
 case round=>
  obtain⟨k,hk,rfl,hr,hcl,hb⟩:=hrel
  by_cases hlt:k<8
  ·have qX:(k:Int)<8:=by omega
   have hle:U k≤1099511627776:=by have:=HCL.out.upto k hlt;omega
   rw[Pl.nums_drop U M k hlt]at hr
   have HI:=zA (vQ r (U k) _ wr hr hle)
   have HO:=zA (fun w' (o:Off (· = r) wr w')=>hcl.off o hr)
   have HOB:=zA (fun w' (o:Off (· = r) wr w')=>o.since hb (fun g hg=>by rw[show g=r from hg];exact HR0.out))
   clear hr hcl hb hle
   go_wp2_with fail
   refine HI.out.mono ?_
   rintro e w2 ⟨rfl,hr2,o2⟩
   obtain⟨m,hx,hm⟩:=HO.out w2 o2
   have c0:=cell8 (U:=Pl.first U k) hx hlt
   have fz:=zB hx k
   have hx2:=zG (j:=k) hx (.int .i64 (U k))
   rw[set8_at U k m hlt]at hx2
   have hne:c≠r:=fun e=>by
    obtain⟨v,⟨cs',h3,_⟩,_⟩:=hr2
    rw[e]at hx;rw[hx]at h3;cases h3
   have pX:ClAt W0.heap.size c (Pl.first U (k+1),[]) (w2.setCell ⟨c,k,none⟩ (.int .i64 (U k))):=⟨m,hx2,hm.keep (fun g hg=>Below.heap_setCell _ _ _ _ (fun e=>by
    obtain⟨cs,hcs⟩:=zK hm hg
    rw[show g=c from e,hx]at hcs;cases hcs))⟩
   have hr3:=hr2.other (R:=c) hne (fun cs fr=>by rw[hx];intro e;cases e) k (.int .i64 (U k))
   have hb3:=zP (HOB.out w2 o2) HC0.out k (.int .i64 (U k))
   have HCL2:=zA pX
   have HR3:=zA hr3
   have HB3:=zA hb3
   clear hx hm hx2 hne pX hr3 hb3 hr2 o2 HI
   have a1:(k:Int)+1≤9223372036854775807:=by omega
   go_wp2_with fail
   exact⟨⟨k+1,by omega,rfl,HR3.out,HCL2.out,HB3.out⟩,by simp[intOf];omega⟩
  ·obtain rfl:k=8:=by omega
   have pX:=cl_first _ _ U [] _ hcl
   rw[Pl.nums_drop8]at hr
   have hI:=vQ r M.length _ wr hr (by have:=qJ.out;omega)
   have HI:=zA hI
   have HO:=zA (fun w' (o:Off (· = r) wr w')=>pX.off o hr)
   have HOB:=zA (fun w' (o:Off (· = r) wr w')=>o.since hb (fun g hg=>by rw[show g=r from hg];exact HR0.out))
   clear hr hcl hb pX hlt hk hI
   have gl:¬(768:Int)<M.length:=by have:=qJ.out;omega
   have a2:(M.length:Int)≤768:=by have:=qJ.out;omega
   go_wp2_with fail
   refine HI.out.mono ?_
   rintro e w2 ⟨rfl,hr2,o2⟩
   have HRD:=zA hr2
   have HCA:=zA (HO.out w2 o2)
   have HBB:=zA (HOB.out w2 o2)
   clear hr2 o2 HI HO HOB
   go_wp2_with fail
   go_loopw [8] (fun i wr=>∃(k:Nat),k≤M.length∧i=.int .i64 k∧RdAt wr r (Pl.vints (Pl.flat (M.drop k)))∧ClAt W0.heap.size c (U,M.take k) wr∧Below W0.heap.size W0 wr) (fun i _=>M.length - (intOf i).toNat)
   case atStart=>exact⟨0,by omega,rfl,HRD.out,HCA.out,HBB.out⟩
   case round=>
    obtain⟨k,hk,rfl,hr,hcl,hb⟩:=hrel
    by_cases hlt:k<M.length
    ·have hle1:(M[k]).1≤1099511627776:=by have:=(HCL.out.may _ (List.getElem_mem hlt)).1;omega
     have hle2:(M[k]).2≤1099511627776:=by have:=(HCL.out.may _ (List.getElem_mem hlt)).2.2.1;omega
     have hE:=uT r _ wr hr
     rw[Pl.flat_drop M k hlt]at hr
     have HI:=zA (vQ r (M[k]).1 _ wr hr hle1)
     have HE:=zA hE
     have HO:=zA (fun w' (o:Off (· = r) wr w')=>hcl.off o hr)
     have HOB:=zA (fun w' (o:Off (· = r) wr w')=>o.since hb (fun g hg=>by rw[show g=r from hg];exact HR0.out))
     have HLE2:=zA hle2
     clear hr hcl hb hle1 hle2 hE
     go_wp2_with fail
     refine HE.out.mono ?_
     rintro e w' ⟨rfl,rfl⟩
     go_wp2_with fail
     refine HI.out.mono ?_
     rintro e w2 ⟨rfl,hr2,o2⟩
     have pX:=HO.out w2 o2
     have hb2:=HOB.out w2 o2
     have b3:=bn w2 (.cells (Qi (M[k]).1 0) 45)
     have hd3:=heap_alloc_new w2 (.cells (Qi (M[k]).1 0) 45)
     have hr3:=hr2.below b3
     have hcl3:=pX.below b3
     have hb3:=hb2.trans (b3.mono hb2.size)
     have hdr:w2.heap.size≠r:=fun e=>by have:=hr2.lt;omega
     obtain⟨m,hx,hm⟩:=hcl3
     have hmd:∀g,m.ownBlock=some g→g≠w2.heap.size:=fun g hg e=>by
      obtain⟨m',hx',hm'⟩:=pX
      have hcc:=b3.block c (gsi.1 hx').1
      rw[hx,hx']at hcc
      have:m=m':=by cases hcc;rfl
      subst this
      have:=(hm'.lt g hg).2
      omega
     have HMD:=zA hmd
     have HI3:=zA (vQ r (M[k]).2 _ _ hr3 HLE2.out)
     have HX3:=zA (fun w' (o:Off (· = r) (w2.alloc (.cells (Qi (M[k]).1 0) 45)) w')=>(blk_off hx (by decide) o hr3).trans hx)
     have HM3:=zA (fun w' (o:Off (· = r) (w2.alloc (.cells (Qi (M[k]).1 0) 45)) w')=>OwnR.keep hm (w':=w') (fun g hg=>by
      obtain⟨cs,hcs⟩:=zK hm hg
      exact blk_off hcs (by decide) o hr3))
     have HOB3:=zA (fun w' (o:Off (· = r) (w2.alloc (.cells (Qi (M[k]).1 0) 45)) w')=>o.since hb3 (fun g hg=>by rw[show g=r from hg];exact HR0.out))
     have HD3:=zA hd3
     have HDR:=zA hdr
     have HDB:=zA hb2.size
     have HTK:=zA (show M.take (k+1)=M.take k++[((M[k]).1,(M[k]).2)]from List.take_succ_eq_append_getElem hlt)
     clear hr2 o2 pX hb2 b3 hd3 hr3 hb3 hdr HI HO HOB HE hmd hx hm
     go_wp2_with fail
     generalize w2.alloc (.cells (Qi (M[k]).1 0) 45)=W3 at *
     generalize hdd:w2.heap.size=d at *
     clear hdd
     generalize (M[k]).1=n at *
     generalize (M[k]).2=s at *
     refine HI3.out.mono ?_
     rintro e w4 ⟨rfl,hr4,o4⟩
     have hd4:=(o4.same d (gsi.1 HD3.out).1 HDR.out).trans HD3.out
     have hx:=HX3.out w4 o4
     have hm:=HM3.out w4 o4
     have hb4:=HOB3.out w4 o4
     obtain⟨ao,cap,rfl⟩:=hm.toT.form
     have hcd:c≠d:=fun e=>by rw[e,hd4]at hx;exact zI (by decide) hx
     have c1:=cc 1 hd4
     have f1:=zB hd4 1
     have hd5:=zG (j:=1) hd4 (.int .i64 s)
     have hx5:=(Below.heap_setCell w4 ⟨d,1,none⟩ (.int .i64 s) c hcd).trans hx
     have hm5:=hm.keep (w':=w4.setCell ⟨d,1,none⟩ (.int .i64 s)) (fun g hg=>Below.heap_setCell _ _ _ _ (fun e=>HMD.out g hg e))
     have hr5:=hr4.other (R:=d) HDR.out (fun cs fr=>by rw[hd4];intro e;cases e) 1 (.int .i64 s)
     have hb5:=zP hb4 HDB.out 1 (.int .i64 s)
     have d0:=cc 0 hd5
     have d1:=cc 1 hd5
     have c8:=cc 8 hx5
     have htl:(M.take k).length≤768:=by rw[List.length_take];have:=qJ.out;omega
     have hlen:(M.take k).length=k:=by rw[List.length_take];omega
     have HX5:=zA hx5
     have HM5:=zA hm5
     have HR5:=zA hr5
     have HB5:=zA hb5
     have HTL:=zA htl
     have HLK:=zA hlen
     clear hr4 o4 hd4 hx hm hb4 hcd hd5 hx5 hm5 hr5 hb5 htl HI3 hlen
     have b6:=(Below.refl (w4.setCell ⟨d,1,none⟩ (.int .i64 s)).heap.size (w4.setCell ⟨d,1,none⟩ (.int .i64 s))).alloc (Nat.le_refl _) (.cells (Qi n s) 45)
     have qG:=yJ kDot (w4.setCell ⟨d,1,none⟩ (.int .i64 s)) [(n,s)] (Qi n s) 1 rfl rfl
     rw[show(w4.setCell ⟨d,1,none⟩ (.int .i64 s)).heap.size=w4.heap.size from by simp]at qG
     have hm6:=HM5.out.below b6
     rw[HLK.out]at hm6
     have HM6:=zA hm6
     have qC:=zA qG
     have hb6:=HB5.out.trans (b6.mono HB5.out.size)
     have HB6:=zA hb6
     have HX6:=zA ((b6.block c (gsi.1 HX5.out).1).trans HX5.out)
     have HR6:=zA (HR5.out.below b6)
     clear b6 qG hm6 hb6
     go_wp2_with (
      at_builtin
      refine yT kDot rfl (.tmp 44) (.tmp 46) rfl rfl HM6.out rfl qC.out (by have:=HTL.out;simp;omega) HB6.out HB6.out.size ?_
      intro v1 w1 hown1 hb1 hg0
      have hg1:World.grownBy _ w1 (Value.slice ao k cap).ownBlock:=hg0
      have hcn:some c≠(Value.slice ao k cap).ownBlock:=fun e=>by
       obtain⟨cs,hcs⟩:=zK HM6.out e.symm
       rw[HX6.out]at hcs;exact zI (by decide) hcs
      have hx1:=(hg1.block c (gsi.1 HX6.out).1 hcn).trans HX6.out
      have hr1:=HR6.out.grown hg1 (fun g hg=>zK HM6.out hg)
      have c1:=cc 8 hx1
      have fz:=zB hx1 8
      have HX7:=zA hx1
      have HR7:=zA hr1
      have HO7:=zA hown1
      have HB7:=zA hb1
      have pC:∃ao cap,v1=.slice ao (k+1) cap:=by
       obtain⟨ao,cap,e⟩:=hown1.toT.form
       exact⟨ao,cap,by rw[e,List.length_append,HLK.out];rfl⟩
      obtain⟨ao1,cap1,rfl⟩:=pC
      clear hx1 hr1 hown1 hb1 hg0 hg1 hcn)
     have hx8:=zG (j:=8) HX7.out (.slice ao1 (k+1) cap1)
     have hm8:=HO7.out.keep (w':=w1.setCell ⟨c,8,none⟩ (.slice ao1 (k+1) cap1)) (fun g hg=>Below.heap_setCell _ _ _ _ (fun eg=>by
      obtain⟨cs,hcs⟩:=zK HO7.out hg
      rw[show g=c from eg,HX7.out]at hcs;exact zI (by decide) hcs))
     have hr8:=HR7.out.other (R:=c) (fun e=>by
      obtain⟨v,⟨cs',h3,_⟩,_⟩:=HR7.out
      rw[←e,HX7.out]at h3;exact zI (by decide) h3) (fun cs fr=>by rw[HX7.out];simp) 8 (.slice ao1 (k+1) cap1)
     have hb8:=zP HB7.out HC0.out 8 (.slice ao1 (k+1) cap1)
     exact⟨⟨k+1,by omega,rfl,hr8,⟨.slice ao1 (k+1) cap1,hx8.trans (by simp),by rw[HTK.out];exact hm8⟩,hb8⟩,by simp[intOf];omega⟩
    ·obtain rfl:k=M.length:=by omega
     rw[List.drop_length]at hr
     rw[List.take_length]at hcl
     obtain⟨m,hx,hm⟩:=hcl
     obtain⟨ao,cap,rfl⟩:=hm.toT.form
     have qM:SetV wr (Pl.setv U (.slice ao M.length cap)) O U M:=⟨_,rfl,sA.2 hm.toT,HCL.out⟩
     have HE:=zA (uT r _ wr hr)
     have HL:=zA (vI r _ wr hr)
     have qQ:=zA qM
     have HX:=zA hx
     have HBW:=zA hb
     have HR:=zA hr
     have c0:=cc 0 hx
     have c1:=cc 1 hx
     have c2:=cc 2 hx
     have c3:=cc 3 hx
     have c4:=cc 4 hx
     have c5:=cc 5 hx
     have c6:=cc 6 hx
     have c7:=cc 7 hx
     have c8:=cc 8 hx
     clear hr hx hm hb qM hlt hk HRD HCA HBB
     go_wp2_with fail
     refine HE.out.mono ?_
     rintro e w' ⟨rfl,rfl⟩
     go_wp2_with fail
     refine HL.out.mono ?_
     rintro e w' ⟨rfl,rfl⟩
     go_wp2_with fail
     refine(uE _ O U M _ qQ.out).mono ?_
     rintro e w3 ⟨rfl,b3⟩
     have hx3:=(b3.block c (gsi.1 HX.out).1).trans HX.out
     have hb3:=HBW.out.trans (b3.mono HBW.out.size)
     have HE3:=zA (uT r _ w3 (HR.out.below b3))
     have HS3:=zA (qQ.out.below b3)
     have hz:=H60.out _ hb3
     have HZ3:=zA hz
     have HB3:=zA hb3
     clear c0 c1 c2 c3 c4 c5 c6 c7 c8
     have c0:=cc 0 hx3
     have c1:=cc 1 hx3
     have c2:=cc 2 hx3
     have c3:=cc 3 hx3
     have c4:=cc 4 hx3
     have c5:=cc 5 hx3
     have c6:=cc 6 hx3
     have c7:=cc 7 hx3
     have c8:=cc 8 hx3
     have z0:=cc 0 hz
     have z1:=cc 1 hz
     have z2:=cc 2 hz
     have z3:=cc 3 hz
     have z4:=cc 4 hz
     have z5:=cc 5 hz
     have z6:=cc 6 hz
     have z7:=cc 7 hz
     have z8:=cc 8 hz
     have fz:=zB hz
     clear b3 hx3 hb3 hz HE HL
     go_wp2_with fail
     refine HE3.out.mono ?_
     rintro e w' ⟨rfl,rfl⟩
     go_wp2_with fail
     have hz9:=set9 w3 _ 60 _ _ _ _ _ _ _ _ _ (.int .i64 (U 0)) (.int .i64 (U 1)) (.int .i64 (U 2)) (.int .i64 (U 3)) (.int .i64 (U 4)) (.int .i64 (U 5)) (.int .i64 (U 6)) (.int .i64 (U 7)) (.slice ao M.length cap) HZ3.out
     have ho9:=other9 w3 w.heap.size (.int .i64 (U 0)) (.int .i64 (U 1)) (.int .i64 (U 2)) (.int .i64 (U 3)) (.int .i64 (U 4)) (.int .i64 (U 5)) (.int .i64 (U 6)) (.int .i64 (U 7)) (.slice ao M.length cap)
     have hb9:=below9 (.int .i64 (U 0)) (.int .i64 (U 1)) (.int .i64 (U 2)) (.int .i64 (U 3)) (.int .i64 (U 4)) (.int .i64 (U 5)) (.int .i64 (U 6)) (.int .i64 (U 7)) (.slice ao M.length cap) (HB.out.trans (HB3.out.mono HB.out.size)) (Nat.le_refl w.heap.size)
     generalize (Qhu0 w3 w.heap.size U (.slice ao M.length cap):World)=Z at *
     clear c0 c1 c2 c3 c4 c5 c6 c7 c8 z0 z1 z2 z3 z4 z5 z6 z7 z8
     have c0:=cc 0 hz9
     have c1:=cc 1 hz9
     have c2:=cc 2 hz9
     have c3:=cc 3 hz9
     have c4:=cc 4 hz9
     have c5:=cc 5 hz9
     have c6:=cc 6 hz9
     have c7:=cc 7 hz9
     have c8:=cc 8 hz9
     refine bodyPost_ret (v:=.tuple #[Pl.setv U (.slice ao M.length cap),.int .i64 0]) (by simp[results,results112,go_sem,c0,c1,c2,c3,c4,c5,c6,c7,c8,Pl.setv]) rfl ⟨_,rfl,HS3.out.keep (fun g cs fr hg=>ho9 g (fun e=>?_)),hb9⟩
     rw[e,HZ3.out]at hg;exact zI (by decide) hg
def WrAt (base:Nat) (w:World) (p:Nat) (bs:List Int):Prop:=base≤p∧∃v,w.heap[p]?=some (.cells #[v] 373 (0,0))∧OwnB base w v bs
theorem WrAt.below {base p:Nat} {w w':World} {bs:List Int} (h:WrAt base w p bs) (hb:Below w.heap.size w w'):WrAt base w' p bs:=by
 obtain⟨h0,v,h1,h2⟩:=h
 exact⟨h0,v,(hb.block p (gsi.1 h1).1).trans h1,h2.below hb⟩
theorem WrAt.lt {base p:Nat} {w:World} {bs:List Int} (h:WrAt base w p bs):p<w.heap.size:=by
 obtain⟨h0,v,h1,h2⟩:=h;exact(gsi.1 h1).1
theorem WrAt.other {base p R:Nat} {w:World} {bs:List Int} (h:WrAt base w p bs) {t:TypeId} {cs:Array Value} {fr:Nat×Nat} (hR:w.heap[R]?=some (.cells cs t fr)) (ht:t≠373∧t≠5) (j:Nat) (u:Value):WrAt base (w.setCell ⟨R,j,none⟩ u) p bs:=by
 obtain⟨h0,v,h1,h2⟩:=h
 refine⟨h0,v,(Below.heap_setCell _ _ _ _ (fun e=>?_)).trans h1,h2.keep (fun g cs fr hg=>Below.heap_setCell _ _ _ _ (fun e=>?_))⟩
 ·rw[show p=R from e,hR]at h1;cases h1;exact ht.1 rfl
 ·rw[show g=R from e,hR]at hg;cases hg;exact ht.2 rfl
theorem wnum_ok (base p g j:Nat) (n:Nat) (bs:List Int) (w:World) (h:WrAt base w p bs) (hb:base≤w.heap.size) (hl:bs.length≤900000) (hn:n≤1099511627776) (hg:w.cell? ⟨g,j,none⟩=some (.int .i64 n)) (hlt:g<w.heap.size) :
  Calls prog 252 #[Qp p,.pointer (some ⟨g,j,none⟩)] w fun e w'=>e=.returned (.tuple #[])∧WrAt base w' p (bs++Pl.vint n)∧Off (· = p) w w':=by
 obtain⟨h0,v,h1,h2⟩:=h
 have HX:=zA h1
 have HO:=zA h2
 have HPL:=zA h0
 have HBB:=zA hb
 have HC:=zA (fun (W:World) (hW:Below w.heap.size w W)=>(hW.cell (p:=⟨g,j,none⟩) hlt).trans hg)
 have HP:=zA (fun (W:World) (hW:Below w.heap.size w W)=>(hW.block p (gsi.1 HX.out).1).trans HX.out)
 have HV:=zA (fun (W:World) (hW:Below w.heap.size w W)=>wB v bs n W (h2.toT.toC.below hW) (by omega) hn)
 clear h1 h2 hg h0 hb
 go_enter func252,ntmps252
 go_wp2_with fail
 refine zD (fun W=>Below w.heap.size w W) 99 (by kernel_rfl) (Below.refl _ _).drew (fun rV=>?_)
 refine tkp 0 7 rfl ?_
 refine tkp 1 8 rfl ?_
 refine tkp 2 9 rfl ?_
 refine tk 3 10 rfl (by intro wS hSw;have y:=HP.out _ hSw;have d0:=cc 0 y;clear hSw;go_simp;(try with_reducible rfl)) ?_
 refine tkp 4 11 rfl ?_
 refine tkp 5 12 rfl ?_
 refine tk 6 13 rfl (by intro wS hSw;have d1:=HC.out _ hSw;clear hSw;go_simp;(try with_reducible rfl)) ?_
 refine t1 7 rfl (fun K hK=>?_)
 go_simp
 refine(HV.out _ rV).mono ?_
 rintro e w1 ⟨v1,rfl,o1,b1⟩
 have pC:∃ao1 m1 cap1,v1=.slice ao1 m1 cap1:=by obtain⟨a,b,c⟩:=o1.toT.toC.form;exact⟨_,_,_,c⟩
 obtain⟨ao1,m1,cap1,rfl⟩:=pC
 have HB1:=zA (rV.trans (b1.mono rV.size))
 have HO1:=zA (o1.mono rV.size)
 clear b1 o1 rV HV
 refine hK.out _ _ (fun _=>HB1.out) (fun _=>?_)
 clear hK K
 try simp only[zN]
 have rV:=HB1.out
 refine tkp 8 6 rfl ?_
 refine tkp 9 15 rfl ?_
 refine tkp 10 16 rfl ?_
 refine tkp 11 4 rfl ?_
 refine tkp 12 5 rfl ?_
 refine wd ?_
 have y:=HP.out _ HB1.out
 have c0:=cc 0 y
 have fz:=zB y 0
 have HY:=zA y
 clear y
 go_wp2_with fail
 have hx2:=zG (j:=0) HY.out (.slice ao1 m1 cap1)
 refine yD results252 ⟨rfl,⟨HPL.out,.slice ao1 m1 cap1,hx2.trans (by simp),?_⟩,Off.set (F:=(· = p)) (Off.of_below HB1.out) (a:=⟨p,0,none⟩) (.inl rfl) (.slice ao1 m1 cap1)⟩
 refine(OwnB.mono HO1.out HBB.out).keep (fun k cs fr hk=>Below.heap_setCell _ _ _ _ (fun e=>?_))
 rw[show k=p from e,HY.out]at hk;exact zI (by decide) hk
theorem rF (r g j t:Nat) (cs:Array Value) (u:Value) (n:Nat) (ys:List Int) (w:World) (h:RdAt w r (Pl.vint n++ys)) (hn:n≤1099511627776) (hg:w.heap[g]?=some (.cells cs t (0,0))) (ht:t≠293∧t≠5) (hj:cs[j]?=some u) :
  Calls prog 185 #[.agg #[Qp r],.pointer (some ⟨g,j,none⟩)] w fun e w'=>e=.returned (.tuple #[])∧RdAt w' r ys∧w'.heap[g]?=some (.cells (cs.setIfInBounds j (.int .i64 n)) t (0,0))∧Off (fun k=>k=r∨k=g) w w':=by
 have b1:=bn w (.cells #[Qp r] 299)
 have hx:=heap_alloc_new w (.cells #[Qp r] 299)
 have hne:g≠r:=fun e=>by
  obtain⟨v,⟨cs',h3,_⟩,_⟩:=h
  rw[e]at hg;rw[hg]at h3;cases h3;exact ht.1 rfl
 have hg1:=(b1.block g (gsi.1 hg).1).trans hg
 have hlt:=(gsi.1 hg).1
 have hrl:=h.lt
 have HG:=zA hg1
 have HI:=zA (vQ r n ys _ (h.below b1) hn)
 have HB:=zA b1
 have HX:=zA hx
 have HNE:=zA hne
 have HJ:=zA hj
 have HT:=zA ht
 have HL:=zA hlt
 have HRL:=zA hrl
 have c0:=cc 0 hx
 clear h hg hx b1 hg1 hne hj
 go_enter func185,ntmps185
 go_wp2_with fail
 generalize w.alloc (.cells #[Qp r] 299)=W at *
 refine HI.out.mono ?_
 rintro e w1 ⟨rfl,hr1,o1⟩
 have hg1:=(o1.same g (gsi.1 HG.out).1 HNE.out).trans HG.out
 have hx1:=(o1.same w.heap.size (gsi.1 HX.out).1 (fun e=>by have:w.heap.size=r:=e;omega)).trans HX.out
 have k0:=zF (j:=j) hg1 HJ.out
 have fz:=zB hg1 j
 have hg2:=zG (j:=j) hg1 (.int .i64 n)
 have hx2:=(Below.heap_setCell w1 ⟨g,j,none⟩ (.int .i64 n) w.heap.size (fun e=>by have:w.heap.size=g:=e;omega)).trans hx1
 have hr2:=hr1.other (R:=g) (fun e=>HNE.out e) (fun cs fr=>by rw[hg1];intro e;cases e;exact HT.out.2 rfl) j (.int .i64 n)
 have o2:=((o1.after HB.out (G:=fun k=>k=r∨k=g) (fun k _ hk=>.inl hk)).set (a:=⟨g,j,none⟩) (.inl (.inr rfl)) (.int .i64 n))
 have k2:=cc 0 hx2
 have HO2:=zA o2
 have HG2:=zA hg2
 have HR2:=zA hr2
 clear c0 o1 hg1 hx1 hg2 hx2 hr1 hr2 o2 HI
 go_wp2_with fail
 generalize w1.setCell ⟨g,j,none⟩ (.int .i64 n)=Z at *
 refine(uT r _ Z HR2.out).mono ?_
 rintro e w' ⟨rfl,rfl⟩
 go_wp2_with fail
 exact yD results185 ⟨rfl,HR2.out,HG2.out,HO2.out⟩
end
end Go.Proofs.YtodlmbfbfaofcaaGreat
