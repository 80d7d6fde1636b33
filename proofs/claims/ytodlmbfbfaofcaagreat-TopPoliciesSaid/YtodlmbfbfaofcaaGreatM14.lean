/- TopPolicies, part 14. -/
import Derived.Laws.MakeOwn
import Derived.Test.YtodlmbfbfaofcaaGreatM01
import Derived.Test.YtodlmbfbfaofcaaGreatM02
import Derived.Test.YtodlmbfbfaofcaaGreatM04
import Derived.Test.YtodlmbfbfaofcaaGreatM08
import Derived.Test.YtodlmbfbfaofcaaGreatM12
import Derived.Test.YtodlmbfbfaofcaaGreatM13
open Go.Proofs.Tryz
namespace Go.Proofs.YtodlmbfbfaofcaaGreat
set_option linter.unusedVariables false
set_option linter.unusedSimpArgs false
set_option maxRecDepth 100000
set_option maxHeartbeats 4000000
section
open Go.RowKit Rw Rh
namespace Pl
def first (U:Nat→Nat) (k:Nat):Nat→Nat:=fun a=>if a<k then U a else 0
theorem nums_len (U:Nat→Nat) (M:List (Nat×Nat)):(nums U M).length=9+2*M.length:=by
 have hfl:(flat M).length=2*M.length:=by
  unfold flat
  induction M with
  | nil=>rfl
  | cons a l ih=>rw[List.flatMap_cons,List.length_append,ih,List.length_cons];simp;omega
 unfold nums
 rw[List.length_append,hfl];rfl
theorem vints_cons (n:Nat) (l:List Nat):vints (n::l)=vint n++vints l:=rfl
theorem nums_drop (U:Nat→Nat) (M:List (Nat×Nat)) (k:Nat) (hk:k<8):vints ((nums U M).drop k)=vint (U k)++vints ((nums U M).drop (k+1)):=by
 match k,hk with
 | 0,_=>rfl
 | 1,_=>rfl
 | 2,_=>rfl
 | 3,_=>rfl
 | 4,_=>rfl
 | 5,_=>rfl
 | 6,_=>rfl
 | 7,_=>rfl
 | k+8,hk=>exact absurd hk lD
theorem nums_drop8 (U:Nat→Nat) (M:List (Nat×Nat)):vints ((nums U M).drop 8)=vint M.length++vints (flat M):=rfl
theorem flat_drop (M:List (Nat×Nat)) (k:Nat) (hk:k<M.length):vints (flat (M.drop k))=vint (M[k]).1++(vint (M[k]).2++vints (flat (M.drop (k+1)))):=by
 rw[List.drop_eq_getElem_cons hk]
 rfl
theorem nums_small {O:Nat→Nat→Bool} {U:Nat→Nat} {M:List (Nat×Nat)} (hc:Closed O U M):∀n∈nums U M,n≤768:=fun n hn=>by
 unfold nums nums0 at hn
 rcases List.mem_append.1 hn with hn | hn
 ·have:=hc.upto
  simp at hn
  rcases hn with rfl | rfl | rfl | rfl | rfl | rfl | rfl | rfl | rfl
  ·have:=this 0 lD;omega
  ·have:=this 1 lD;omega
  ·have:=this 2 lD;omega
  ·have:=this 3 lD;omega
  ·have:=this 4 lD;omega
  ·have:=this 5 lD;omega
  ·have:=this 6 lD;omega
  ·have:=this 7 lD;omega
  ·exact hc.len
 ·unfold flat at hn
  exact mY
end Pl
theorem set8_at (U:Nat→Nat) (k:Nat) (m:Value) (hk:k<8) :
  (#[.int .i64 (Pl.first U k 0),.int .i64 (Pl.first U k 1),.int .i64 (Pl.first U k 2),.int .i64 (Pl.first U k 3),.int .i64 (Pl.first U k 4),.int .i64 (Pl.first U k 5),.int .i64 (Pl.first U k 6),.int .i64 (Pl.first U k 7),m]:Array Value).setIfInBounds k (.int .i64 (U k))=#[.int .i64 (Pl.first U (k+1) 0),.int .i64 (Pl.first U (k+1) 1),.int .i64 (Pl.first U (k+1) 2),.int .i64 (Pl.first U (k+1) 3),.int .i64 (Pl.first U (k+1) 4),.int .i64 (Pl.first U (k+1) 5),.int .i64 (Pl.first U (k+1) 6),.int .i64 (Pl.first U (k+1) 7),m]:=by
 match k,hk with
 | 0,_=>simp[Pl.first]
 | 1,_=>simp[Pl.first]
 | 2,_=>simp[Pl.first]
 | 3,_=>simp[Pl.first]
 | 4,_=>simp[Pl.first]
 | 5,_=>simp[Pl.first]
 | 6,_=>simp[Pl.first]
 | 7,_=>simp[Pl.first]
 | k+8,hk=>exact absurd hk lD
theorem ClAt.off {base c r:Nat} {p:(Nat→Nat)×List (Nat×Nat)} {bs:List Int} {w w':World} (h:ClAt base c p w) (o:Off (· = r) w w') (hr:RdAt w r bs):ClAt base c p w':=by
 obtain⟨m,h1,h2⟩:=h
 have hn:∀g cs t fr,w.heap[g]?=some (Obj.cells cs t fr)→t≠293→w'.heap[g]?=w.heap[g]?:=fun g cs t fr hg ht=>o.same g (gsi.1 hg).1 (fun e=>by
  obtain⟨v,⟨cs',h3,_⟩,_⟩:=hr
  have e':g=r:=e
  rw[e']at hg;rw[hg]at h3;cases h3;exact ht rfl)
 exact⟨m,(hn c _ _ _ h1 lF).trans h1,h2.keep (fun g hg=>by
  obtain⟨cs,hcs⟩:=zK h2 hg
  exact hn g _ _ _ hcs lF)⟩
theorem zH {cs cs':Array Value} {t t':TypeId} {fr fr':Nat×Nat} (ht:t≠t') (h:some (Obj.cells cs t fr)=some (Obj.cells cs' t' fr')):False:=by
 injection h with h
 injection h with h1 h2
 exact ht h2
theorem blk_off {g r t:Nat} {cs:Array Value} {fr:Nat×Nat} {bs:List Int} {w w':World} (hg:w.heap[g]?=some (.cells cs t fr)) (ht:t≠293) (o:Off (· = r) w w') (hr:RdAt w r bs):w'.heap[g]?=w.heap[g]?:=
 o.same g (gsi.1 hg).1 (fun e=>by
  obtain⟨v,⟨cs',h3,_⟩,_⟩:=hr
  have e':g=r:=e
  rw[e']at hg;rw[hg]at h3;cases h3;exact ht rfl)
theorem RdAt.grown {w w':World} {r:Nat} {bs:List Int} {row:Option Nat} (h:RdAt w r bs) (hg:w.grownBy w' row) (qD:∀g,row=some g→∃cs,w.heap[g]?=some (.cells cs 45 (0,0))):RdAt w' r bs:=by
 have hk:∀g cs t fr,w.heap[g]?=some (Obj.cells cs t fr)→t≠45→w'.heap[g]?=w.heap[g]?:=fun g cs t fr h1 ht=>hg.block g (gsi.1 h1).1 (fun e=>by
  obtain⟨cs',h2⟩:=qD g e.symm
  rw[h1]at h2;cases h2;exact ht rfl)
 obtain⟨v,h1,h2⟩:=h
 obtain⟨cs',h3,_⟩:=id h1
 exact⟨v,World.rowIs.of_block h1 (hk r _ _ _ h3 lF),h2.keep (fun g cs fr hg=>hk g _ _ _ hg lF)⟩
theorem cl_first (base c:Nat) (U:Nat→Nat) (M:List (Nat×Nat)) (w:World) (h:ClAt base c (Pl.first U 8,M) w):ClAt base c (U,M) w:=by
 obtain⟨m,h1,h2⟩:=h
 exact⟨m,h1,h2⟩
theorem get_set_ok (v:Value) (O:Nat→Nat→Bool) (U:Nat→Nat) (M:List (Nat×Nat)) (w:World) (hc:Pl.Closed O U M) (h:BytesC w v (Pl.vints (Pl.nums U M))) :
  Calls prog 112 #[v] w fun e w'=>∃v',e=.returned (.tuple #[v',.int .i64 0])∧SetV w' v' O U M∧Below w.heap.size w w':=by
 have hl:(Pl.vints (Pl.nums U M)).length≤1000000:=by
  have h1:=Pl.vints_len (Pl.nums U M) (fun n hn=>by have:=Pl.nums_small hc n hn;omega)
  rw[Pl.nums_len]at h1
  have:=hc.len
  omega
 have qO:=zA hc.len
 have HSM:=zA (Pl.nums_small hc)
 have HCL:=zA hc
 have b1:=bn w (.cells (Qv 0 0 0 0 0 0 0 0) 60)
 have qP:=zA (uU v _ _ (h.below b1) hl)
 have HB:=zA b1
 have HZ:=zA (heap_alloc_new w (.cells (Qv 0 0 0 0 0 0 0 0) 60))
 clear h hl hc b1
 go_enter func112,ntmps112
 go_wp2_with fail
 generalize w.alloc (.cells (Qv 0 0 0 0 0 0 0 0) 60)=W0 at *
 have H60:=zA (fun (W:World) (hW:Below W0.heap.size W0 W)=>(hW.block w.heap.size (gsi.1 HZ.out).1).trans HZ.out)
 refine qP.out.mono ?_
 rintro e w1 ⟨r,rfl,hr0,hrd,b1⟩
 have b2:=bn w1 (.cells (Qv 0 0 0 0 0 0 0 0) 60)
 have hbb:=b1.trans (b2.mono b1.size)
 have hcl:ClAt W0.heap.size w1.heap.size (Pl.first U 0,[]) (w1.alloc (.cells (Qv 0 0 0 0 0 0 0 0) 60)):=⟨.slice none 0 0,heap_alloc_new w1 _,yJ _ _ _⟩
 have HRD:=zA (hrd.below b2)
 have HCA:=zA hcl
 have HBB:=zA hbb
 have HR0:=zA hr0
 have HC0:=zA b1.size
 clear hrd b1 b2 hbb hcl hr0 qP
 go_wp2_with fail
 generalize hc1:w1.heap.size=c at *
 generalize w1.alloc (.cells (Qv 0 0 0 0 0 0 0 0) 60)=W1 at *
 clear hc1
 go_loopw [12] (fun i wr=>∃(k:Nat),k≤8∧i=.int .i64 k∧RdAt wr r (Pl.vints ((Pl.nums U M).drop k))∧ClAt W0.heap.size c (Pl.first U k,[]) wr∧Below W0.heap.size W0 wr) (fun i _=>8 - (intOf i).toNat)
 case atStart=>exact⟨0,by omega,rfl,HRD.out,HCA.out,HBB.out⟩
 case round=>
  obtain⟨k,hk,rfl,hr,hcl,hb⟩:=hrel
  by_cases hlt:k<8
  ·have pF:(k:Int)<8:=by omega
   have hle:U k≤1099511627776:=by have:=HCL.out.upto k hlt;omega
   rw[Pl.nums_drop U M k hlt]at hr
   have HI:=zA (vO r (U k) _ wr hr hle)
   have HO:=zA (fun w' (o:Off (· = r) wr w')=>hcl.off o hr)
   have HOB:=zA (fun w' (o:Off (· = r) wr w')=>o.since hb (fun g hg=>by rw[show g=r from hg];exact HR0.out))
   clear hr hcl hb hle
   go_wp2_with fail
   refine HI.out.mono ?_
   rintro e w2 ⟨rfl,hr2,o2⟩
   obtain⟨m,hx,hm⟩:=HO.out w2 o2
   have c0:=cell8 (U:=Pl.first U k) hx hlt
   have fz:=zB hx k
   have hx2:=zF (j:=k) hx (.int .i64 (U k))
   rw[set8_at U k m hlt]at hx2
   have hne:c≠r:=fun e=>by
    obtain⟨v,⟨cs',h3,_⟩,_⟩:=hr2
    rw[e]at hx;rw[hx]at h3;cases h3
   have oF:ClAt W0.heap.size c (Pl.first U (k+1),[]) (w2.setCell ⟨c,k,none⟩ (.int .i64 (U k))):=⟨m,hx2,hm.keep (fun g hg=>Below.heap_setCell _ _ _ _ (fun e=>by
    obtain⟨cs,hcs⟩:=zK hm hg
    rw[show g=c from e,hx]at hcs;cases hcs))⟩
   have hr3:=hr2.other (R:=c) hne (fun cs fr=>by rw[hx];intro e;cases e) k (.int .i64 (U k))
   have hb3:=zM (HOB.out w2 o2) HC0.out k (.int .i64 (U k))
   have HCL2:=zA oF
   have HR3:=zA hr3
   have HB3:=zA hb3
   clear hx hm hx2 hne oF hr3 hb3 hr2 o2 HI
   have a1:(k:Int)+1≤9223372036854775807:=by omega
   go_wp2_with fail
   exact⟨⟨k+1,by omega,rfl,HR3.out,HCL2.out,HB3.out⟩,by simp[intOf];omega⟩
  ·obtain rfl:k=8:=by omega
   have oF:=cl_first _ _ U [] _ hcl
   rw[Pl.nums_drop8]at hr
   have hI:=vO r M.length _ wr hr (by have:=qO.out;omega)
   have HI:=zA hI
   have HO:=zA (fun w' (o:Off (· = r) wr w')=>oF.off o hr)
   have HOB:=zA (fun w' (o:Off (· = r) wr w')=>o.since hb (fun g hg=>by rw[show g=r from hg];exact HR0.out))
   clear hr hcl hb oF hlt hk hI
   have gl:¬(768:Int)<M.length:=by have:=qO.out;omega
   have a2:(M.length:Int)≤768:=by have:=qO.out;omega
   go_wp2_with fail
   refine HI.out.mono ?_
   rintro e w2 ⟨rfl,hr2,o2⟩
   have HRD:=zA hr2
   have HCA:=zA (HO.out w2 o2)
   have HBB:=zA (HOB.out w2 o2)
   clear hr2 o2 HI HO HOB
   go_wp2_with fail
   go_loopw [8] (fun i wr=>∃(k:Nat),k≤M.length∧i=.int .i64 k∧RdAt wr r (Pl.vints (Pl.flat (M.drop k)))∧ClAt W0.heap.size c (U,M.take k) wr∧Below W0.heap.size W0 wr) (fun i _=>M.length - (intOf i).toNat)
   case atStart=>exact⟨0,by omega,rfl,HRD.out,HCA.out,HBB.out⟩
   case round=>
    obtain⟨k,hk,rfl,hr,hcl,hb⟩:=hrel
    by_cases hlt:k<M.length
    ·have hle1:(M[k]).1≤1099511627776:=by have:=(HCL.out.may _ (List.getElem_mem hlt)).1;omega
     have hle2:(M[k]).2≤1099511627776:=by have:=(HCL.out.may _ (List.getElem_mem hlt)).2.2.1;omega
     have hE:=uW r _ wr hr
     rw[Pl.flat_drop M k hlt]at hr
     have HI:=zA (vO r (M[k]).1 _ wr hr hle1)
     have HE:=zA hE
     have HO:=zA (fun w' (o:Off (· = r) wr w')=>hcl.off o hr)
     have HOB:=zA (fun w' (o:Off (· = r) wr w')=>o.since hb (fun g hg=>by rw[show g=r from hg];exact HR0.out))
     have HLE2:=zA hle2
     clear hr hcl hb hle1 hle2 hE
     go_wp2_with fail
     refine HE.out.mono ?_
     rintro e w' ⟨rfl,rfl⟩
     go_wp2_with fail
     refine HI.out.mono ?_
     rintro e w2 ⟨rfl,hr2,o2⟩
     have oF:=HO.out w2 o2
     have hb2:=HOB.out w2 o2
     have b3:=bn w2 (.cells (Qi (M[k]).1 0) 45)
     have hd3:=heap_alloc_new w2 (.cells (Qi (M[k]).1 0) 45)
     have hr3:=hr2.below b3
     have hcl3:=oF.below b3
     have hb3:=hb2.trans (b3.mono hb2.size)
     have hdr:w2.heap.size≠r:=fun e=>by have:=hr2.lt;omega
     obtain⟨m,hx,hm⟩:=hcl3
     have hmd:∀g,m.ownBlock=some g→g≠w2.heap.size:=fun g hg e=>by
      obtain⟨m',hx',hm'⟩:=oF
      have hcc:=b3.block c (gsi.1 hx').1
      rw[hx,hx']at hcc
      have:m=m':=by cases hcc;rfl
      subst this
      have:=(hm'.lt g hg).2
      omega
     have HMD:=zA hmd
     have HI3:=zA (vO r (M[k]).2 _ _ hr3 HLE2.out)
     have HX3:=zA (fun w' (o:Off (· = r) (w2.alloc (.cells (Qi (M[k]).1 0) 45)) w')=>(blk_off hx lF o hr3).trans hx)
     have HM3:=zA (fun w' (o:Off (· = r) (w2.alloc (.cells (Qi (M[k]).1 0) 45)) w')=>OwnR.keep hm (w':=w') (fun g hg=>by
      obtain⟨cs,hcs⟩:=zK hm hg
      exact blk_off hcs lF o hr3))
     have HOB3:=zA (fun w' (o:Off (· = r) (w2.alloc (.cells (Qi (M[k]).1 0) 45)) w')=>o.since hb3 (fun g hg=>by rw[show g=r from hg];exact HR0.out))
     have HD3:=zA hd3
     have HDR:=zA hdr
     have HDB:=zA hb2.size
     have HTK:=zA (show M.take (k+1)=M.take k++[((M[k]).1,(M[k]).2)]from List.take_succ_eq_append_getElem hlt)
     clear hr2 o2 oF hb2 b3 hd3 hr3 hb3 hdr HI HO HOB HE hmd hx hm
     go_wp2_with fail
     generalize w2.alloc (.cells (Qi (M[k]).1 0) 45)=W3 at *
     generalize hdd:w2.heap.size=d at *
     clear hdd
     generalize (M[k]).1=n at *
     generalize (M[k]).2=s at *
     refine HI3.out.mono ?_
     rintro e w4 ⟨rfl,hr4,o4⟩
     have hd4:=(o4.same d (gsi.1 HD3.out).1 HDR.out).trans HD3.out
     have hx:=HX3.out w4 o4
     have hm:=HM3.out w4 o4
     have hb4:=HOB3.out w4 o4
     obtain⟨ao,cap,rfl⟩:=hm.toT.form
     have hcd:c≠d:=fun e=>by rw[e,hd4]at hx;exact zH lF hx
     have c1:=cc 1 hd4
     have f1:=zB hd4 1
     have hd5:=zF (j:=1) hd4 (.int .i64 s)
     have hx5:=(Below.heap_setCell w4 ⟨d,1,none⟩ (.int .i64 s) c hcd).trans hx
     have hm5:=hm.keep (w':=w4.setCell ⟨d,1,none⟩ (.int .i64 s)) (fun g hg=>Below.heap_setCell _ _ _ _ (fun e=>HMD.out g hg e))
     have hr5:=hr4.other (R:=d) HDR.out (fun cs fr=>by rw[hd4];intro e;cases e) 1 (.int .i64 s)
     have hb5:=zM hb4 HDB.out 1 (.int .i64 s)
     have d0:=cc 0 hd5
     have d1:=cc 1 hd5
     have c8:=cc 8 hx5
     have htl:(M.take k).length≤768:=by rw[List.length_take];have:=qO.out;omega
     have hlen:(M.take k).length=k:=by rw[List.length_take];omega
     have HX5:=zA hx5
     have HM5:=zA hm5
     have HR5:=zA hr5
     have HB5:=zA hb5
     have HTL:=zA htl
     have HLK:=zA hlen
     clear hr4 o4 hd4 hx hm hb4 hcd hd5 hx5 hm5 hr5 hb5 htl HI3 hlen
     have b6:=(Below.refl (w4.setCell ⟨d,1,none⟩ (.int .i64 s)).heap.size (w4.setCell ⟨d,1,none⟩ (.int .i64 s))).alloc (Nat.le_refl _) (.cells (Qi n s) 45)
     have qL:=yK kDot (w4.setCell ⟨d,1,none⟩ (.int .i64 s)) [(n,s)] (Qi n s) 1 rfl rfl
     rw[show(w4.setCell ⟨d,1,none⟩ (.int .i64 s)).heap.size=w4.heap.size from by simp]at qL
     have hm6:=HM5.out.below b6
     rw[HLK.out]at hm6
     have HM6:=zA hm6
     have qI:=zA qL
     have hb6:=HB5.out.trans (b6.mono HB5.out.size)
     have HB6:=zA hb6
     have HX6:=zA ((b6.block c (gsi.1 HX5.out).1).trans HX5.out)
     have HR6:=zA (HR5.out.below b6)
     clear b6 qL hm6 hb6
     go_wp2_with (
      at_builtin
      refine yU kDot rfl (.tmp 44) (.tmp 46) rfl rfl HM6.out rfl qI.out (by have:=HTL.out;simp;omega) HB6.out HB6.out.size ?_
      intro v1 w1 hown1 hb1 hg0
      have hg1:World.grownBy _ w1 (Value.slice ao k cap).ownBlock:=hg0
      have hcn:some c≠(Value.slice ao k cap).ownBlock:=fun e=>by
       obtain⟨cs,hcs⟩:=zK HM6.out e.symm
       rw[HX6.out]at hcs;exact zH lF hcs
      have hx1:=(hg1.block c (gsi.1 HX6.out).1 hcn).trans HX6.out
      have hr1:=HR6.out.grown hg1 (fun g hg=>zK HM6.out hg)
      have c1:=cc 8 hx1
      have fz:=zB hx1 8
      have HX7:=zA hx1
      have HR7:=zA hr1
      have HO7:=zA hown1
      have HB7:=zA hb1
      have pI:∃ao cap,v1=.slice ao (k+1) cap:=by
       obtain⟨ao,cap,e⟩:=hown1.toT.form
       exact⟨ao,cap,by rw[e,List.length_append,HLK.out];rfl⟩
      obtain⟨ao1,cap1,rfl⟩:=pI
      clear hx1 hr1 hown1 hb1 hg0 hg1 hcn)
     have hx8:=zF (j:=8) HX7.out (.slice ao1 (k+1) cap1)
     have hm8:=HO7.out.keep (w':=w1.setCell ⟨c,8,none⟩ (.slice ao1 (k+1) cap1)) (fun g hg=>Below.heap_setCell _ _ _ _ (fun eg=>by
      obtain⟨cs,hcs⟩:=zK HO7.out hg
      rw[show g=c from eg,HX7.out]at hcs;exact zH lF hcs))
     have hr8:=HR7.out.other (R:=c) (fun e=>by
      obtain⟨v,⟨cs',h3,_⟩,_⟩:=HR7.out
      rw[←e,HX7.out]at h3;exact zH lF h3) (fun cs fr=>by rw[HX7.out];simp) 8 (.slice ao1 (k+1) cap1)
     have hb8:=zM HB7.out HC0.out 8 (.slice ao1 (k+1) cap1)
     exact⟨⟨k+1,by omega,rfl,hr8,⟨.slice ao1 (k+1) cap1,hx8.trans (by simp),by rw[HTK.out];exact hm8⟩,hb8⟩,by simp[intOf];omega⟩
    ·obtain rfl:k=M.length:=by omega
     rw[List.drop_length]at hr
     rw[List.take_length]at hcl
     obtain⟨m,hx,hm⟩:=hcl
     obtain⟨ao,cap,rfl⟩:=hm.toT.form
     have qQ:SetV wr (Pl.setv U (.slice ao M.length cap)) O U M:=⟨_,rfl,wM.2 hm.toT,HCL.out⟩
     have HE:=zA (uW r _ wr hr)
     have HL:=zA (vH r _ wr hr)
     have qW:=zA qQ
     have HX:=zA hx
     have HBW:=zA hb
     have HR:=zA hr
     have c0:=cc 0 hx
     have c1:=cc 1 hx
     have c2:=cc 2 hx
     have c3:=cc 3 hx
     have c4:=cc 4 hx
     have c5:=cc 5 hx
     have c6:=cc 6 hx
     have c7:=cc 7 hx
     have c8:=cc 8 hx
     clear hr hx hm hb qQ hlt hk HRD HCA HBB
     go_wp2_with fail
     refine HE.out.mono ?_
     rintro e w' ⟨rfl,rfl⟩
     go_wp2_with fail
     refine HL.out.mono ?_
     rintro e w' ⟨rfl,rfl⟩
     go_wp2_with fail
     refine(uC _ O U M _ qW.out).mono ?_
     rintro e w3 ⟨rfl,b3⟩
     have hx3:=(b3.block c (gsi.1 HX.out).1).trans HX.out
     have hb3:=HBW.out.trans (b3.mono HBW.out.size)
     have HE3:=zA (uW r _ w3 (HR.out.below b3))
     have HS3:=zA (qW.out.below b3)
     have hz:=H60.out _ hb3
     have HZ3:=zA hz
     have HB3:=zA hb3
     clear c0 c1 c2 c3 c4 c5 c6 c7 c8
     have c0:=cc 0 hx3
     have c1:=cc 1 hx3
     have c2:=cc 2 hx3
     have c3:=cc 3 hx3
     have c4:=cc 4 hx3
     have c5:=cc 5 hx3
     have c6:=cc 6 hx3
     have c7:=cc 7 hx3
     have c8:=cc 8 hx3
     have z0:=cc 0 hz
     have z1:=cc 1 hz
     have z2:=cc 2 hz
     have z3:=cc 3 hz
     have z4:=cc 4 hz
     have z5:=cc 5 hz
     have z6:=cc 6 hz
     have z7:=cc 7 hz
     have z8:=cc 8 hz
     have fz:=zB hz
     clear b3 hx3 hb3 hz HE HL
     go_wp2_with fail
     refine HE3.out.mono ?_
     rintro e w' ⟨rfl,rfl⟩
     go_wp2_with fail
     have hz9:=set9 w3 _ 60 _ _ _ _ _ _ _ _ _ (.int .i64 (U 0)) (.int .i64 (U 1)) (.int .i64 (U 2)) (.int .i64 (U 3)) (.int .i64 (U 4)) (.int .i64 (U 5)) (.int .i64 (U 6)) (.int .i64 (U 7)) (.slice ao M.length cap) HZ3.out
     have ho9:=other9 w3 w.heap.size (.int .i64 (U 0)) (.int .i64 (U 1)) (.int .i64 (U 2)) (.int .i64 (U 3)) (.int .i64 (U 4)) (.int .i64 (U 5)) (.int .i64 (U 6)) (.int .i64 (U 7)) (.slice ao M.length cap)
     have hb9:=below9 (.int .i64 (U 0)) (.int .i64 (U 1)) (.int .i64 (U 2)) (.int .i64 (U 3)) (.int .i64 (U 4)) (.int .i64 (U 5)) (.int .i64 (U 6)) (.int .i64 (U 7)) (.slice ao M.length cap) (HB.out.trans (HB3.out.mono HB.out.size)) (Nat.le_refl w.heap.size)
     generalize (Qhu0 w3 w.heap.size U (.slice ao M.length cap):World)=Z at *
     clear c0 c1 c2 c3 c4 c5 c6 c7 c8 z0 z1 z2 z3 z4 z5 z6 z7 z8
     have c0:=cc 0 hz9
     have c1:=cc 1 hz9
     have c2:=cc 2 hz9
     have c3:=cc 3 hz9
     have c4:=cc 4 hz9
     have c5:=cc 5 hz9
     have c6:=cc 6 hz9
     have c7:=cc 7 hz9
     have c8:=cc 8 hz9
     refine bodyPost_ret (v:=.tuple #[Pl.setv U (.slice ao M.length cap),.int .i64 0]) (by simp[results,results112,go_sem,c0,c1,c2,c3,c4,c5,c6,c7,c8,Pl.setv]) rfl ⟨_,rfl,HS3.out.keep (fun g cs fr hg=>ho9 g (fun e=>?_)),hb9⟩
     rw[e,HZ3.out]at hg;exact zH lF hg
def WrAt (base:Nat) (w:World) (p:Nat) (bs:List Int):Prop:=base≤p∧∃v,w.heap[p]?=some (.cells #[v] 373 (0,0))∧OwnB base w v bs
theorem WrAt.below {base p:Nat} {w w':World} {bs:List Int} (h:WrAt base w p bs) (hb:Below w.heap.size w w'):WrAt base w' p bs:=by
 obtain⟨h0,v,h1,h2⟩:=h
 exact⟨h0,v,(hb.block p (gsi.1 h1).1).trans h1,h2.below hb⟩
theorem WrAt.other {base p R:Nat} {w:World} {bs:List Int} (h:WrAt base w p bs) {t:TypeId} {cs:Array Value} {fr:Nat×Nat} (hR:w.heap[R]?=some (.cells cs t fr)) (ht:t≠373∧t≠5) (j:Nat) (u:Value):WrAt base (w.setCell ⟨R,j,none⟩ u) p bs:=by
 obtain⟨h0,v,h1,h2⟩:=h
 refine⟨h0,v,(Below.heap_setCell _ _ _ _ (fun e=>?_)).trans h1,h2.keep (fun g cs fr hg=>Below.heap_setCell _ _ _ _ (fun e=>?_))⟩
 ·rw[show p=R from e,hR]at h1;cases h1;exact ht.1 rfl
 ·rw[show g=R from e,hR]at hg;cases hg;exact ht.2 rfl
theorem wnum_ok (base p g j:Nat) (n:Nat) (bs:List Int) (w:World) (h:WrAt base w p bs) (hb:base≤w.heap.size) (hl:bs.length≤900000) (hn:n≤1099511627776) (hg:w.cell? ⟨g,j,none⟩=some (.int .i64 n)) (hlt:g<w.heap.size) :
  Calls prog 252 #[Qp p,.pointer (some ⟨g,j,none⟩)] w fun e w'=>e=.returned (.tuple #[])∧WrAt base w' p (bs++Pl.vint n)∧Off (· = p) w w':=by
 obtain⟨h0,v,h1,h2⟩:=h
 have HX:=zA h1
 have HO:=zA h2
 have HPL:=zA h0
 have HBB:=zA hb
 have HC:=zA (fun (W:World) (hW:Below w.heap.size w W)=>(hW.cell (p:=⟨g,j,none⟩) hlt).trans hg)
 have HP:=zA (fun (W:World) (hW:Below w.heap.size w W)=>(hW.block p (gsi.1 HX.out).1).trans HX.out)
 have HV:=zA (fun (W:World) (hW:Below w.heap.size w W)=>xZ v bs n W (h2.toT.toC.below hW) lD hn)
 clear h1 h2 hg h0 hb
 go_enter func252,ntmps252
 go_wp2_with fail
 refine zD (fun W=>Below w.heap.size w W) 99 lE (Below.refl _ _).drew (fun qB=>?_)
 refine tkp 0 7 rfl ?_
 refine tkp 1 8 rfl ?_
 refine tkp 2 9 rfl ?_
 refine tk 3 10 rfl (by intro wS hSw;have y:=HP.out _ hSw;have d0:=cc 0 y;clear hSw;go_simp;(try with_reducible rfl)) ?_
 refine tkp 4 11 rfl ?_
 refine tkp 5 12 rfl ?_
 refine tk 6 13 rfl (by intro wS hSw;have d1:=HC.out _ hSw;clear hSw;go_simp;(try with_reducible rfl)) ?_
 refine t1 7 rfl (fun K hK=>?_)
 go_simp
 refine(HV.out _ qB).mono ?_
 rintro e w1 ⟨v1,rfl,o1,b1⟩
 have pI:∃ao1 m1 cap1,v1=.slice ao1 m1 cap1:=by obtain⟨a,b,c⟩:=o1.toT.toC.form;exact⟨_,_,_,c⟩
 obtain⟨ao1,m1,cap1,rfl⟩:=pI
 have HB1:=zA (qB.trans (b1.mono qB.size))
 have HO1:=zA (o1.mono qB.size)
 clear b1 o1 qB HV
 refine hK.out _ _ (fun _=>HB1.out) (fun _=>?_)
 clear hK K
 try simp only[zP]
 have qB:=HB1.out
 refine tkp 8 6 rfl ?_
 refine tkp 9 15 rfl ?_
 refine tkp 10 16 rfl ?_
 refine tkp 11 4 rfl ?_
 refine tkp 12 5 rfl ?_
 refine wd ?_
 have y:=HP.out _ HB1.out
 have c0:=cc 0 y
 have fz:=zB y 0
 have HY:=zA y
 clear y
 go_wp2_with fail
 have hx2:=zF (j:=0) HY.out (.slice ao1 m1 cap1)
 refine yG results252 ⟨rfl,⟨HPL.out,.slice ao1 m1 cap1,hx2.trans (by simp),?_⟩,Off.set (F:=(· = p)) (Off.of_below HB1.out) (a:=⟨p,0,none⟩) (.inl rfl) (.slice ao1 m1 cap1)⟩
 refine(OwnB.mono HO1.out HBB.out).keep (fun k cs fr hk=>Below.heap_setCell _ _ _ _ (fun e=>?_))
 rw[show k=p from e,HY.out]at hk;exact zH lF hk
theorem tI (r g j t:Nat) (cs:Array Value) (u:Value) (n:Nat) (ys:List Int) (w:World) (h:RdAt w r (Pl.vint n++ys)) (hn:n≤1099511627776) (hg:w.heap[g]?=some (.cells cs t (0,0))) (ht:t≠293∧t≠5) (hj:cs[j]?=some u) :
  Calls prog 185 #[.agg #[Qp r],.pointer (some ⟨g,j,none⟩)] w fun e w'=>e=.returned (.tuple #[])∧RdAt w' r ys∧w'.heap[g]?=some (.cells (cs.setIfInBounds j (.int .i64 n)) t (0,0))∧Off (fun k=>k=r∨k=g) w w':=by
 have b1:=bn w (.cells #[Qp r] 299)
 have hx:=heap_alloc_new w (.cells #[Qp r] 299)
 have hne:g≠r:=fun e=>by
  obtain⟨v,⟨cs',h3,_⟩,_⟩:=h
  rw[e]at hg;rw[hg]at h3;cases h3;exact ht.1 rfl
 have hg1:=(b1.block g (gsi.1 hg).1).trans hg
 have hlt:=(gsi.1 hg).1
 have hrl:=h.lt
 have HG:=zA hg1
 have HI:=zA (vO r n ys _ (h.below b1) hn)
 have HB:=zA b1
 have HX:=zA hx
 have HNE:=zA hne
 have HJ:=zA hj
 have HT:=zA ht
 have HL:=zA hlt
 have HRL:=zA hrl
 have c0:=cc 0 hx
 clear h hg hx b1 hg1 hne hj
 go_enter func185,ntmps185
 go_wp2_with fail
 generalize w.alloc (.cells #[Qp r] 299)=W at *
 refine HI.out.mono ?_
 rintro e w1 ⟨rfl,hr1,o1⟩
 have hg1:=(o1.same g (gsi.1 HG.out).1 HNE.out).trans HG.out
 have hx1:=(o1.same w.heap.size (gsi.1 HX.out).1 (fun e=>by have:w.heap.size=r:=e;omega)).trans HX.out
 have k0:=zE (j:=j) hg1 HJ.out
 have fz:=zB hg1 j
 have hg2:=zF (j:=j) hg1 (.int .i64 n)
 have hx2:=(Below.heap_setCell w1 ⟨g,j,none⟩ (.int .i64 n) w.heap.size (fun e=>by have:w.heap.size=g:=e;omega)).trans hx1
 have hr2:=hr1.other (R:=g) (fun e=>HNE.out e) (fun cs fr=>by rw[hg1];intro e;cases e;exact HT.out.2 rfl) j (.int .i64 n)
 have o2:=((o1.after HB.out (G:=fun k=>k=r∨k=g) (fun k _ hk=>.inl hk)).set (a:=⟨g,j,none⟩) (.inl (.inr rfl)) (.int .i64 n))
 have k2:=cc 0 hx2
 have HO2:=zA o2
 have HG2:=zA hg2
 have HR2:=zA hr2
 clear c0 o1 hg1 hx1 hg2 hx2 hr1 hr2 o2 HI
 go_wp2_with fail
 generalize w1.setCell ⟨g,j,none⟩ (.int .i64 n)=Z at *
 refine(uW r _ Z HR2.out).mono ?_
 rintro e w' ⟨rfl,rfl⟩
 go_wp2_with fail
 exact yG results185 ⟨rfl,HR2.out,HG2.out,HO2.out⟩
theorem yN (cs:Array Value) (v:Value) (n:Nat) (hn:n<4) (hv:cs[n]?=some v) (W:World):Sem.run prog (Instr.index 395 (.agg cs) (.int .i64 n)) W=.ok v W:=by
 have hn':(n:Int)<4:=by omega
 unfold Instr.index
 go_simp
theorem yV (cs:Array Value) (v:Value) (n:Nat) (hn:n<7) (hv:cs[n]?=some v) (W:World):Sem.run prog (Instr.index 439 (.agg cs) (.int .i64 n)) W=.ok v W:=by
 have hn':(n:Int)<7:=by omega
 unfold Instr.index
 go_simp
theorem through_w (p:Nat) (eb:Nat) (I:Nat→World→Prop) (w:World) (h0:I 0 w)
  (hA:∀k W W',I k W→Below W.heap.size W W'→I k W')
  (hC:∀k,k<6→∀W,I k W→Calls prog 252 #[Qp p,.pointer (some ⟨eb,k,none⟩)] W fun e w'=>e=.returned (.tuple #[])∧I (k+1) w')
  (hK:∀k W,4≤k→I k W→W.cell? ⟨eb,3,none⟩=some (.int .i64 1)) :
  Calls prog 187 #[Qp eb,.iface 371 (Qp p)] w fun e w'=>e=.returned (.tuple #[])∧I 6 w':=by
 have HI:=zA h0
 have HC:=zA hC
 have HA:=zA hA
 have HK:=zA hK
 clear h0 hC hA hK
 have hm:∀w,Sem.run prog (method 629 371 (Qp p) "murmur/event.number") w=.ok (252,Qp p) w:=fun _=>by kernel_rfl
 exact oJ
theorem through_r (r:Nat) (eb:Nat) (I:Nat→World→Prop) (w:World) (h0:I 0 w)
  (hA:∀k W W',I k W→Below W.heap.size W W'→I k W')
  (hC:∀k,k<6→∀W,I k W→Calls prog 185 #[.agg #[Qp r],.pointer (some ⟨eb,k,none⟩)] W fun e w'=>e=.returned (.tuple #[])∧I (k+1) w')
  (hK:∀k W,4≤k→I k W→W.cell? ⟨eb,3,none⟩=some (.int .i64 1)) :
  Calls prog 187 #[Qp eb,.iface 299 (.agg #[Qp r])] w fun e w'=>e=.returned (.tuple #[])∧I 6 w':=by
 have HI:=zA h0
 have HC:=zA hC
 have HA:=zA hA
 have HK:=zA hK
 clear h0 hC hA hK
 have hm:∀w,Sem.run prog (method 629 299 (.agg #[Qp r]) "murmur/event.number") w=.ok (185,.agg #[Qp r]) w:=fun _=>by kernel_rfl
 exact oJ
theorem policy_w (p:Nat) (eb:Nat) (I:Nat→World→Prop) (w:World) (h0:I 0 w)
  (hA:∀k W W',I k W→Below W.heap.size W W'→I k W')
  (hC:∀k,k<7→∀W,I k W→Calls prog 252 #[Qp p,.pointer (some ⟨eb,k+6,none⟩)] W fun e w'=>e=.returned (.tuple #[])∧I (k+1) w')
  :
  Calls prog 272 #[.pointer (some ⟨eb,6,none⟩),.func (.method "murmur/event.number") #[.iface 371 (Qp p)] #[]] w fun e w'=>e=.returned (.tuple #[])∧I 7 w':=by
 have HI:=zA h0
 have HC:=zA hC
 have HA:=zA hA
 clear h0 hC hA
 have hm:∀w,Sem.run prog (method 629 371 (Qp p) "murmur/event.number") w=.ok (252,Qp p) w:=fun _=>by kernel_rfl
 exact oH
theorem policy_r (r:Nat) (eb:Nat) (I:Nat→World→Prop) (w:World) (h0:I 0 w)
  (hA:∀k W W',I k W→Below W.heap.size W W'→I k W')
  (hC:∀k,k<7→∀W,I k W→Calls prog 185 #[.agg #[Qp r],.pointer (some ⟨eb,k+6,none⟩)] W fun e w'=>e=.returned (.tuple #[])∧I (k+1) w')
  :
  Calls prog 272 #[.pointer (some ⟨eb,6,none⟩),.func (.method "murmur/event.number") #[.iface 299 (.agg #[Qp r])] #[]] w fun e w'=>e=.returned (.tuple #[])∧I 7 w':=by
 have HI:=zA h0
 have HC:=zA hC
 have HA:=zA hA
 clear h0 hC hA
 have hm:∀w,Sem.run prog (method 629 299 (.agg #[Qp r]) "murmur/event.number") w=.ok (185,.agg #[Qp r]) w:=fun _=>by kernel_rfl
 exact oH
set_option maxRecDepth 100000
theorem make_dots (n:Nat) (hn:n≤96) (w:World):(Instr.makeSlice 58 (.int .i64 n) (.int .i64 n)).run prog w=.ok (.slice (some ⟨w.heap.size,0,none⟩) n n) (w.alloc (.cells (madeCells (Qi 0 0) (n*2)) 45)):=by
 obtain⟨i5,hi5,z0,z1,z2⟩:=info_parts (P:=prog) (e:=45) (z:=.agg (Qi 0 0)) (size:=2) (bytes:=16) lE
 have h:=run_make (P:=prog) w 58 45 i5 (.agg (Qi 0 0)) lE hi5 z0 .i64 .i64 (n:Int) (n:Int) lD (Int.le_refl _) (by rw[z2];omega) lD
 rw[z1]at h
 simpa[go_sem]using h
theorem sQ (p:Nat) (eb:Nat) (kind:Int) (c m:Nat) (ro:Option Addr) (cap:Nat) (I:Nat→World→Prop) (w:World) (hk:kind=2∧c=12∨kind=3∧c=5) (h0:I 0 w)
  (hA:∀k W W',I k W→Below W.heap.size W W'→I k W')
  (hC:∀k,k<c→∀W,I k W→Calls prog 252 #[Qp p,.pointer (some ⟨eb,(if k<5 then k else k+1),none⟩)] W fun e w'=>e=.returned (.tuple #[])∧I (k+1) w')
  (hK:∀k W,4≤k→I k W→W.cell? ⟨eb,3,none⟩=some (.int .i64 kind))
  (hR:∀k W,I k W→W.cell? ⟨eb,13,none⟩=some (.slice ro m cap))
  (hm:m≤96)
  (hN:∀W,I c W→Calls prog 252 #[Qp p,Qp W.heap.size] (W.alloc (.cells (Qo m) 3)) fun e w'=>e=.returned (.tuple #[])∧I (c+1) w'∧w'.heap[W.heap.size]?=some (.cells (Qo m) 3 (0,0)))
  (hD:∀i,i<m→∃g off,ro=some ⟨g,off,none⟩∧(∀W,I (c+1+2*i) W→Calls prog 252 #[Qp p,.pointer (some ⟨g,off+i*2,none⟩)] W fun e w'=>e=.returned (.tuple #[])∧I (c+2+2*i) w')∧(∀W,I (c+2+2*i) W→Calls prog 252 #[Qp p,.pointer (some ⟨g,off+i*2+1,none⟩)] W fun e w'=>e=.returned (.tuple #[])∧I (c+1+2*(i+1)) w')) :
  Calls prog 187 #[Qp eb,.iface 371 (Qp p)] w fun e w'=>e=.returned (.tuple #[])∧I (c+1+2*m) w':=by
 have HI:=zA h0
 have HC:=zA hC
 have HA:=zA hA
 have HK:=zA hK
 have HR:=zA hR
 have HN:=zA hN
 have HD:=zA hD
 have hc5:5≤c:=by omega
 have HD0:=zA (HC.out 0 lD)
 have HD1:=zA (HC.out 1 lD)
 have HD2:=zA (HC.out 2 lD)
 have HD3:=zA (HC.out 3 lD)
 have HD4:=zA (HC.out 4 lD)
 clear h0 hC hA hK hR hN hD hc5
 have hmm:∀w,Sem.run prog (method 629 371 (Qp p) "murmur/event.number") w=.ok (252,Qp p) w:=fun _=>by kernel_rfl
 have hk2:kind=2∨kind=3:=by omega
 have hwi:Pl.inside kind 1 3=true:=by rcases hk2 with rfl | rfl<;>rfl
 have k1:(kind == 1)=false:=by rcases hk2 with rfl | rfl<;>rfl
 have HKK:=zA hk
 clear hk hk2
 go_enter func187,ntmps187
 go_wp2_with fail
 have HBX:=zA (Below.refl w.heap.size w)
 refine zS lE lE HBX.out ?_
 repeat (go_big_quiet_step (fail))
 refine wpQuiet_nil ?_
 intro _ hw'
 obtain⟨q,hw''⟩:=hw'
 subst hw''
 have HI0:=zA (HA.out 0 w q.w HI.out q.b)
 generalize q.w=w0 at *
 have ix0:∀W,Sem.run prog (Instr.index 395 (.agg #[Qp eb,.pointer (some ⟨eb,1,none⟩),.pointer (some ⟨eb,2,none⟩),.pointer (some ⟨eb,3,none⟩)]) (.int .i64 0)) W=.ok (Qp eb) W:=fun W=>yN _ _ 0 lF rfl W
 have ix1:∀W,Sem.run prog (Instr.index 395 (.agg #[Qp eb,.pointer (some ⟨eb,1,none⟩),.pointer (some ⟨eb,2,none⟩),.pointer (some ⟨eb,3,none⟩)]) (.int .i64 1)) W=.ok (.pointer (some ⟨eb,1,none⟩)) W:=fun W=>yN _ _ 1 lF rfl W
 have ix2:∀W,Sem.run prog (Instr.index 395 (.agg #[Qp eb,.pointer (some ⟨eb,1,none⟩),.pointer (some ⟨eb,2,none⟩),.pointer (some ⟨eb,3,none⟩)]) (.int .i64 2)) W=.ok (.pointer (some ⟨eb,2,none⟩)) W:=fun W=>yN _ _ 2 lF rfl W
 have ix3:∀W,Sem.run prog (Instr.index 395 (.agg #[Qp eb,.pointer (some ⟨eb,1,none⟩),.pointer (some ⟨eb,2,none⟩),.pointer (some ⟨eb,3,none⟩)]) (.int .i64 3)) W=.ok (.pointer (some ⟨eb,3,none⟩)) W:=fun W=>yN _ _ 3 lF rfl W
 go_wp2_with fail
 refine wp_loop_rounds 5 ?_
 rw[rounds_succ]
 go_wp2_with fail
 refine(HD0.out w0 HI0.out).mono ?_
 rintro e w1 ⟨rfl,i1⟩
 have HI1:=zA i1
 clear i1
 go_wp2_with fail
 rw[rounds_succ]
 go_wp2_with fail
 refine(HD1.out w1 HI1.out).mono ?_
 rintro e w2 ⟨rfl,i2⟩
 have HI2:=zA i2
 clear i2
 go_wp2_with fail
 rw[rounds_succ]
 go_wp2_with fail
 refine(HD2.out w2 HI2.out).mono ?_
 rintro e w3 ⟨rfl,i3⟩
 have HI3:=zA i3
 clear i3
 go_wp2_with fail
 rw[rounds_succ]
 go_wp2_with fail
 refine(HD3.out w3 HI3.out).mono ?_
 rintro e w4 ⟨rfl,i4⟩
 have HI4:=zA i4
 clear i4
 go_wp2_with fail
 rw[rounds_succ]
 have c3:=HK.out 4 w4 lF HI4.out
 go_wp2_with fail
 refine(yC _ _ _ w4).mono ?_
 rintro e w' ⟨rfl,rfl⟩
 rw[hwi]
 go_wp2_with fail
 refine(HD4.out w4 HI4.out).mono ?_
 rintro e w5 ⟨rfl,i5⟩
 have HI5:=zA i5
 clear i5
 have c3':=HK.out 5 w5 lF HI5.out
 rcases HKK.out with⟨rfl,hc⟩ | ⟨rfl,hc⟩
 case' inl=>
  go_wp2_with fail
  refine(policy_w p eb (fun k W=>I (k+5) W) w5 HI5.out (fun k W W' h b=>HA.out (k+5) W W' h b) (fun k hk W h=>by
   have:=HC.out (k+5) lD W h
   rw[if_neg (by omega)]at this
   exact this)).mono ?_
  rintro e w6 ⟨rfl,i6⟩
  have HI6:=zA (show I c w6 from by rw[hc];exact i6)
  clear i6 hc
 case' inr=>
  have HI6:=zA (show I c w5 from by rw[hc];exact HI5.out)
  clear c3 HI5 hc
  generalize w5=w6 at *
 all_goals
  have c13:=HR.out _ _ HI6.out
  have HN7:=zA (HN.out _ HI6.out)
  go_wp2_with fail
  refine HN7.out.mono ?_
  rintro e w8 ⟨rfl,i8,x8⟩
  have HI8:=zA i8
  have d13:=HR.out _ _ i8
  have d0:=cc 0 x8
  have HX8:=zA x8
  have g96:decide (96<(m:Int))=false:=decide_eq_false lD
  clear i8 x8 HN7
  go_wp2_with fail
  have e13:∀q:Beh w8,q.w.cell? ⟨eb,13,none⟩=some (.slice ro m cap):=fun q=>q.cell d13
  have e0:∀q:Beh w8,q.w.cell? ⟨w6.heap.size,0,none⟩=some (.int .i64 m):=fun q=>q.cell d0
  have HBX2:=zA (Below.refl w8.heap.size w8)
  refine zS lE lE HBX2.out ?_
  repeat (go_big_quiet_step (fail))
  refine wpQuiet_nil ?_
  intro _ hw'
  obtain⟨q2,hw''⟩:=hw'
  subst hw''
  have f13:=e13 q2
  have f0:=e0 q2
  have HI9:=zA (HA.out _ _ _ HI8.out q2.b)
  clear e13 e0 d13 d0
  generalize q2.w=w9 at *
  go_wp2_with fail
  go_loopw [93] (fun x wr=>∃i:Nat,i≤m∧x=.int .i64 i∧I (c+1+2*i) wr) (fun x _=>m - (intOf x).toNat)
  case atStart=>exact⟨0,by omega,rfl,HI9.out⟩
  case round=>
   obtain⟨i,hi,rfl,hI⟩:=hrel
   have HIr:=zA hI
   have r13:=HR.out _ _ hI
   clear hI f13 f0
   by_cases hlt:i<m
   ·obtain⟨g,off,rfl,hd1,hd2⟩:=HD.out i hlt
    have HE1:=zA hd1
    have HE2:=zA hd2
    clear hd1 hd2
    go_wp2_with fail
    refine(HE1.out wr HIr.out).mono ?_
    rintro e wa ⟨rfl,ia⟩
    have HIa:=zA ia
    have ra:=HR.out _ _ ia
    exact nV
   ·obtain rfl:i=m:=by omega
    go_wp2_with fail
    exact yG results187 ⟨rfl,HIr.out⟩
theorem sR (r:Nat) (eb:Nat) (kind:Int) (c m:Nat) (I:Nat→World→Prop) (J:Nat→Nat→World→Prop) (w:World) (hk:kind=2∧c=12∨kind=3∧c=5) (h0:I 0 w)
  (hA:∀k W W',I k W→Below W.heap.size W W'→I k W')
  (hC:∀k,k<c→∀W,I k W→Calls prog 185 #[.agg #[Qp r],.pointer (some ⟨eb,(if k<5 then k else k+1),none⟩)] W fun e w'=>e=.returned (.tuple #[])∧I (k+1) w')
  (hK:∀k W,4≤k→I k W→W.cell? ⟨eb,3,none⟩=some (.int .i64 kind))
  (hF:∀k W,I k W→∃cs,W.heap[eb]?=some (.cells cs 175 (0,0))∧cs[13]?=some (.slice none 0 0))
  (hm:m≤96)
  (hN:∀W,I c W→Calls prog 185 #[.agg #[Qp r],Qp W.heap.size] (W.alloc (.cells (Qo 0) 3)) fun e w'=>e=.returned (.tuple #[])∧I (c+1) w'∧w'.heap[W.heap.size]?=some (.cells (Qo m) 3 (0,0)))
  (hM:∀W W2,I (c+1) W→0<m→Below W.heap.size W W2→J W2.heap.size 0 ((W2.alloc (.cells (madeCells (Qi 0 0) (m*2)) 45)).setCell ⟨eb,13,none⟩ (.slice (some ⟨W2.heap.size,0,none⟩) m m)))
  (hS:∀g i W,J g i W→W.cell? ⟨eb,13,none⟩=some (.slice (some ⟨g,0,none⟩) m m))
  (hD:∀g i,i<m→(∀W,J g (2*i) W→Calls prog 185 #[.agg #[Qp r],.pointer (some ⟨g,i*2,none⟩)] W fun e w'=>e=.returned (.tuple #[])∧J g (2*i+1) w')∧(∀W,J g (2*i+1) W→Calls prog 185 #[.agg #[Qp r],.pointer (some ⟨g,i*2+1,none⟩)] W fun e w'=>e=.returned (.tuple #[])∧J g (2*(i+1)) w')) :
  Calls prog 187 #[Qp eb,.iface 299 (.agg #[Qp r])] w fun e w'=>e=.returned (.tuple #[])∧((m=0∧I (c+1) w')∨(0<m∧∃g,J g (2*m) w')):=by
 have hR:∀k W,I k W→W.cell? ⟨eb,13,none⟩=some (.slice none 0 0):=fun k W h=>by obtain⟨cs,h1,h2⟩:=hF k W h;exact zE h1 h2
 have HI:=zA h0
 have HC:=zA hC
 have HA:=zA hA
 have HK:=zA hK
 have HR:=zA hR
 have HN:=zA hN
 have HD:=zA hD
 have HF:=zA hF
 have HM:=zA hM
 have HS:=zA hS
 have hc5:5≤c:=by omega
 have HD0:=zA (HC.out 0 lD)
 have HD1:=zA (HC.out 1 lD)
 have HD2:=zA (HC.out 2 lD)
 have HD3:=zA (HC.out 3 lD)
 have HD4:=zA (HC.out 4 lD)
 clear h0 hC hA hK hR hN hD hc5 hM hS hF
 have hmm:∀w,Sem.run prog (method 629 299 (.agg #[Qp r]) "murmur/event.number") w=.ok (185,.agg #[Qp r]) w:=fun _=>by kernel_rfl
 have hk2:kind=2∨kind=3:=by omega
 have hwi:Pl.inside kind 1 3=true:=by rcases hk2 with rfl | rfl<;>rfl
 have k1:(kind == 1)=false:=by rcases hk2 with rfl | rfl<;>rfl
 have HKK:=zA hk
 clear hk hk2
 go_enter func187,ntmps187
 go_wp2_with fail
 have HBX:=zA (Below.refl w.heap.size w)
 refine zS lE lE HBX.out ?_
 repeat (go_big_quiet_step (fail))
 refine wpQuiet_nil ?_
 intro _ hw'
 obtain⟨q,hw''⟩:=hw'
 subst hw''
 have HI0:=zA (HA.out 0 w q.w HI.out q.b)
 generalize q.w=w0 at *
 have ix0:∀W,Sem.run prog (Instr.index 395 (.agg #[Qp eb,.pointer (some ⟨eb,1,none⟩),.pointer (some ⟨eb,2,none⟩),.pointer (some ⟨eb,3,none⟩)]) (.int .i64 0)) W=.ok (Qp eb) W:=fun W=>yN _ _ 0 lF rfl W
 have ix1:∀W,Sem.run prog (Instr.index 395 (.agg #[Qp eb,.pointer (some ⟨eb,1,none⟩),.pointer (some ⟨eb,2,none⟩),.pointer (some ⟨eb,3,none⟩)]) (.int .i64 1)) W=.ok (.pointer (some ⟨eb,1,none⟩)) W:=fun W=>yN _ _ 1 lF rfl W
 have ix2:∀W,Sem.run prog (Instr.index 395 (.agg #[Qp eb,.pointer (some ⟨eb,1,none⟩),.pointer (some ⟨eb,2,none⟩),.pointer (some ⟨eb,3,none⟩)]) (.int .i64 2)) W=.ok (.pointer (some ⟨eb,2,none⟩)) W:=fun W=>yN _ _ 2 lF rfl W
 have ix3:∀W,Sem.run prog (Instr.index 395 (.agg #[Qp eb,.pointer (some ⟨eb,1,none⟩),.pointer (some ⟨eb,2,none⟩),.pointer (some ⟨eb,3,none⟩)]) (.int .i64 3)) W=.ok (.pointer (some ⟨eb,3,none⟩)) W:=fun W=>yN _ _ 3 lF rfl W
 go_wp2_with fail
 refine wp_loop_rounds 5 ?_
 rw[rounds_succ]
 go_wp2_with fail
 refine(HD0.out w0 HI0.out).mono ?_
 rintro e w1 ⟨rfl,i1⟩
 have HI1:=zA i1
 clear i1
 go_wp2_with fail
 rw[rounds_succ]
 go_wp2_with fail
 refine(HD1.out w1 HI1.out).mono ?_
 rintro e w2 ⟨rfl,i2⟩
 have HI2:=zA i2
 clear i2
 go_wp2_with fail
 rw[rounds_succ]
 go_wp2_with fail
 refine(HD2.out w2 HI2.out).mono ?_
 rintro e w3 ⟨rfl,i3⟩
 have HI3:=zA i3
 clear i3
 go_wp2_with fail
 rw[rounds_succ]
 go_wp2_with fail
 refine(HD3.out w3 HI3.out).mono ?_
 rintro e w4 ⟨rfl,i4⟩
 have HI4:=zA i4
 clear i4
 go_wp2_with fail
 rw[rounds_succ]
 have c3:=HK.out 4 w4 lF HI4.out
 go_wp2_with fail
 refine(yC _ _ _ w4).mono ?_
 rintro e w' ⟨rfl,rfl⟩
 rw[hwi]
 go_wp2_with fail
 refine(HD4.out w4 HI4.out).mono ?_
 rintro e w5 ⟨rfl,i5⟩
 have HI5:=zA i5
 clear i5
 have c3':=HK.out 5 w5 lF HI5.out
 rcases HKK.out with⟨rfl,hc⟩ | ⟨rfl,hc⟩
 case' inl=>
  go_wp2_with fail
  refine(policy_r r eb (fun k W=>I (k+5) W) w5 HI5.out (fun k W W' h b=>HA.out (k+5) W W' h b) (fun k hk W h=>by
   have:=HC.out (k+5) lD W h
   rw[if_neg (by omega)]at this
   exact this)).mono ?_
  rintro e w6 ⟨rfl,i6⟩
  have HI6:=zA (show I c w6 from by rw[hc];exact i6)
  clear i6 hc
 case' inr=>
  have HI6:=zA (show I c w5 from by rw[hc];exact HI5.out)
  clear c3 HI5 hc
  generalize w5=w6 at *
 all_goals
  have c13:=HR.out _ _ HI6.out
  have HN7:=zA (HN.out _ HI6.out)
  go_wp2_with fail
  refine HN7.out.mono ?_
  rintro e w8 ⟨rfl,i8,x8⟩
  have HI8:=zA i8
  have d13:=HR.out _ _ i8
  have d0:=cc 0 x8
  have HX8:=zA x8
  have g96:decide (96<(m:Int))=false:=decide_eq_false lD
  clear i8 x8 HN7
  go_wp2_with fail
  have e13:∀q:Beh w8,q.w.cell? ⟨eb,13,none⟩=some (.slice none 0 0):=fun q=>q.cell d13
  have e0:∀q:Beh w8,q.w.cell? ⟨w6.heap.size,0,none⟩=some (.int .i64 m):=fun q=>q.cell d0
  have HBX2:=zA (Below.refl w8.heap.size w8)
  refine zS lE lE HBX2.out ?_
  repeat (go_big_quiet_step (fail))
  refine wpQuiet_nil ?_
  intro _ hw'
  obtain⟨q2,hw''⟩:=hw'
  subst hw''
  have f13:=e13 q2
  have f0:=e0 q2
  have HI9:=zA (HA.out _ _ _ HI8.out q2.b)
  have HQB:=zA q2.b
  clear e13 e0 d13 d0
  generalize q2.w=w9 at *
  rcases Nat.eq_zero_or_pos m with hm0 | hm0
  ·have hne:((0:Int) != (m:Int))=false:=by simp[hm0]
   have HP:=zA hm0
   clear hm0
   go_wp2_with fail
   refine wp_loop_rounds 1 ?_
   rw[rounds_succ]
   go_wp2_with fail
   exact yG results187 ⟨rfl,Or.inl ⟨HP.out,HI9.out⟩⟩
  ·have hne:((0:Int) != (m:Int))=true:=by simp;omega
   have hmk:=make_dots m hm w9
   have HJ:=zA (HM.out _ _ HI9.out hm0 (Below.refl _ _))
   have HP:=zA hm0
   have g13:(w9.alloc (.cells (madeCells (Qi 0 0) (m*2)) 45)).cell? ⟨eb,13,none⟩=some (.slice none 0 0):=HR.out _ _ (HA.out _ _ _ HI9.out (bn _ _))
   have h13:=HS.out _ _ _ HJ.out
   have fz:(w9.alloc (.cells (madeCells (Qi 0 0) (m*2)) 45)).frozen? ⟨eb,13,none⟩=false:=by obtain⟨cs,h1,h2⟩:=HF.out _ _ (HA.out _ _ _ HI9.out (bn _ _));exact zB h1 13
   clear hm0
   go_wp2_with fail
   generalize ((w9.alloc (.cells (madeCells (Qi 0 0) (m*2)) 45)).setCell ⟨eb,13,none⟩ (.slice (some ⟨w9.heap.size,0,none⟩) m m))=wx at *
   rw[hne]
   go_loopw [93] (fun x wr=>∃i:Nat,i≤m∧x=.int .i64 i∧J w9.heap.size (2*i) wr) (fun x _=>m - (intOf x).toNat)
   case atStart=>exact⟨0,by omega,rfl,HJ.out⟩
   case round=>
    obtain⟨i,hi,rfl,hI⟩:=hrel
    have HIr:=zA hI
    have r13:=HS.out _ _ _ hI
    clear hI f13 f0 h13 g13 hmk fz
    by_cases hlt:i<m
    ·obtain⟨hd1,hd2⟩:=HD.out w9.heap.size i hlt
     have HE1:=zA hd1
     have HE2:=zA hd2
     clear hd1 hd2
     go_wp2_with fail
     refine(HE1.out wr HIr.out).mono ?_
     rintro e wa ⟨rfl,ia⟩
     have HIa:=zA ia
     have ra:=HS.out _ _ _ ia
     exact nV
    ·obtain rfl:i=m:=by omega
     go_wp2_with fail
     exact yG results187 ⟨rfl,Or.inr ⟨HP.out,_,HIr.out⟩⟩
end
end Go.Proofs.YtodlmbfbfaofcaaGreat
