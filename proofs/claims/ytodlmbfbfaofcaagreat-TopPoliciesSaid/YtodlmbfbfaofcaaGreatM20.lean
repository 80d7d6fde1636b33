/- TopPolicies, part 20. -/
import Derived.Test.YtodlmbfbfaofcaaGreatM01
import Derived.Test.YtodlmbfbfaofcaaGreatM02
import Derived.Test.YtodlmbfbfaofcaaGreatM04
import Derived.Test.YtodlmbfbfaofcaaGreatM08
import Derived.Test.YtodlmbfbfaofcaaGreatM19
open Go.Proofs.Tryz
namespace Go.Proofs.YtodlmbfbfaofcaaGreat
set_option linter.unusedVariables false
set_option linter.unusedSimpArgs false
set_option maxRecDepth 100000
set_option maxHeartbeats 2000000
section
open Go.RowKit Rw Rh
set_option maxRecDepth 100000
namespace Pl
def smps (es:List Ev) (work node:Int):List Ev:=es.filter (fun e=>e.kind == 1&&e.work == work&&e.node == node)
theorem smps_succ (es:List Ev) (work node:Int) (k:Nat) (h:k<es.length):smps (es.take (k+1)) work node=smps (es.take k) work node++smps [es[k]] work node:=by
 unfold smps
 rw[List.take_succ_eq_append_getElem h,List.filter_append]
theorem smps_len (es:List Ev) (work node:Int):(smps es work node).length≤es.length:=List.length_filter_le _ _
end Pl
theorem wof_ok (v:Value) (es:List Pl.Ev) (work node:Int) (size:Nat) (w:World) (h:RowC kEv w v es) (hn:es.length≤1000) (hok:∀e∈es,e.rm.length≤96) (hi:∀e∈es,Is w e) (hs:(Pl.smps es work node).length≤1) :
  Calls prog 170 #[v,.int .i64 work,.int .i64 node,.int .i64 size] w fun r w'=>∃v' l',r=.returned v'∧RowT kEv w' v' l'∧l'.map Pl.Ev.abs=((Pl.smps es work node).take size).map Pl.Ev.abs∧Below w.heap.size w w':=by
 obtain⟨ao,cap,rfl⟩:=h.form
 have HR:=zA h
 have HLE:=zA hn
 have HS:=zA hs
 have HIS:=zA hi
 have HOK:=zA hok
 clear h hn hs hi hok
 go_enter func170,ntmps170
 go_wp2_with fail
 go_loopw [9,15] (fun u i wr=>∃(k:Nat),k≤es.length∧i=.int .i64 k∧OwnE w.heap.size wr u (Pl.smps (es.take k) work node)∧Below w.heap.size w wr) (fun _ i _=>es.length - (intOf i).toNat)
 case atStart=>exact⟨0,by omega,rfl,OwnE.nil _ _,Below.refl _ _⟩
 case round=>
  obtain⟨k,hk,rfl,ho,hb⟩:=hrel
  by_cases hlt:k<es.length
  ·obtain⟨g,off,cap',e1,hg,c0,c1,c2,c3,c4,c5,c6,c7,c8,c9,c10,c11,c12,c13⟩:=xS (HR.out.below hb) hlt
   cases e1
   have a1:(k:Int)+1≤9223372036854775807:=by have:=HLE.out;omega
   have b2:=bn wr (.cells (es[k]) 175)
   have HNX:=zA (Pl.smps_succ es work node k hlt)
   have HLK:=zA (show(Pl.smps (es.take k) work node).length≤k from Nat.le_trans (Pl.smps_len _ _ _) (by rw[List.length_take];omega))
   have HBA:=zA (hb.trans (b2.mono hb.size))
   have HO:=zA (ho.below b2)
   have HI:=zA (((HIS.out _ (List.getElem_mem hlt)).below hb).below b2)
   have H96:=zA (HOK.out _ (List.getElem_mem hlt))
   have qK:=heap_alloc_new wr (.cells (es[k]) 175)
   have HBB:=zA b2
   have HBW:=zA hb
   have HO0:=zA ho
   clear b2 ho hb
   generalize es[k]=ev at *
   obtain⟨d0,d1,d2,d3,d4,d5,d6,d7,d8,d9,d10,d11,d12,d13⟩:=c14 qK
   have qP:=zA qK
   clear qK
   cases hk1:(ev.kind == 1)with
   | false=>
    have oG:=zA (show Pl.smps [ev] work node=[] by simp[Pl.smps,hk1])
    exact nT
   | true=>
    cases hk2:(ev.work == work)with
    | false=>
     have oG:=zA (show Pl.smps [ev] work node=[] by simp[Pl.smps,hk2])
     exact nT
    | true=>
     cases hk3:(ev.node == node)with
     | false=>
      have oG:=zA (show Pl.smps [ev] work node=[] by simp[Pl.smps,hk3])
      exact nT
     | true=>
      have Hone:=zA (show Pl.smps [ev] work node=[ev] by simp[Pl.smps,hk1,hk2,hk3])
      go_wp2_with fail
      generalize wr.alloc (.cells (eva ev) 175)=W2 at *
      refine(uX ev W2 H96.out HI.out).mono ?_
      rintro x w2 ⟨ro,rc,rfl,hi2,hb2⟩
      have hx2:=zZ hb2 qP.out
      have fz:=zB hx2 13
      have hx3:=zF (j:=13) hx2 (.slice ro ev.rm.length rc)
      rw[wL]at hx3
      have hb3:=zM (HBB.out.trans (hb2.mono HBB.out.size)) (Nat.le_refl _) 13 (.slice ro ev.rm.length rc)
      have hi3:Is (w2.setCell ⟨wr.heap.size,13,none⟩ (.slice ro ev.rm.length rc)) (ev.mv ro rc):=DotsT.keep hi2 (fun g cs fr hg=>Below.heap_setCell _ _ _ _ (fun y=>by
       rw[show g=wr.heap.size from y,hx2]at hg;exact zH lF hg))
      have ho3:=HO0.out.below hb3
      have hab:(ev.mv ro rc).abs=ev.abs:=rfl
      obtain⟨e0,e1,e2,e3,e4,e5,e6,e7,e8,e9,e10,e11,e12,e13⟩:=c14 hx3
      have x13:=cc 13 hx2
      have HAB:=zA hab
      have HI3:=zA hi3
      have HO3:=zA ho3
      have HB3:=zA (HBW.out.trans (hb3.mono HBW.out.size))
      clear hb2 hx2 hx3 hb3 hi3 ho3 hi2 hab HO HBA qP d0 d1 d2 d3 d4 d5 d6 d7 d8 d9 d10 d11 d12 d13
      generalize ev.mv ro rc=ex at *
      generalize hw3:w2.setCell ⟨wr.heap.size,13,none⟩ (.slice ro ev.rm.length rc)=w3 at *
      have b8:=bn w3 (.cells (eva ex) 175)
      obtain⟨l0,ho0,ha0,hi0⟩:=HO3.out
      have HL0:=zA (show l0.length≤es.length from by rw[xQ ha0];have:=HLK.out;omega)
      have HO8:=zA (ho0.below b8)
      have HB8:=zA (HB3.out.trans (b8.mono HB3.out.size))
      have HI8:=zA (show ∀x∈l0++[ex],Is (w3.alloc (.cells (eva ex) 175)) x from fun x hx=>by
       rcases List.mem_append.1 hx with h | h
       ·exact(hi0 x h).below b8
       ·rw[List.mem_singleton.1 h];exact HI3.out.below b8)
      have HA0:=zA (show(l0++[ex]).map Pl.Ev.abs=(Pl.smps (es.take k) work node++[ev]).map Pl.Ev.abs by simp[ha0,HAB.out])
      have qI:=zA (yK kEv w3 [ex] (eva ex) 1 rfl (by simp[Rk.encs,kEv]))
      clear b8 ho0 ha0 hi0
      go_wp2_with (
       at_builtin
       refine yU kEv rfl (.tmp 39) (.tmp 41) rfl rfl HO8.out rfl qI.out (by have:=HL0.out;have:=HLE.out;simp;omega) HB8.out HB8.out.size ?_
       intro v1 w1 hown1 hb1 hg0
       have HV1:=zA hown1
       have HBV:=zA hb1
       have qD:=fun g hg=>zK HO8.out (g:=g) hg
       have HIV:=zA (fun e he=>DotsT.keep (HI8.out e he) (fun g cs fr hg=>(yT hg0 qD hg lF).trans hg.symm))
       clear hown1 hb1 hg0 qD)
      exact⟨⟨k+1,by omega,rfl,by rw[HNX.out,Hone.out];exact⟨_,HV1.out,HA0.out,HIV.out⟩,HBV.out⟩,by simp[intOf];omega⟩
  ·obtain rfl:k=es.length:=by omega
   rw[List.take_length]at ho
   have HO:=zA ho
   have HB:=zA hb
   clear hlt hk ho hb
   obtain⟨l',ho',hab,hil⟩:=HO.out
   obtain⟨ao',cap',hu⟩:=ho'.toT.form
   have hl1:l'.length≤1:=by rw[xQ hab];exact HS.out
   subst hu
   have hcp:(l'.length:Int)≤cap':=by
    rcases ho'.2 with⟨h1,h2⟩ | ⟨g,cap2,cur,h1,_,_,h2,_⟩
    ·simp only[Value.slice.injEq]at h1;omega
    ·simp only[Value.slice.injEq]at h1;omega
   have HO':=zA ho'.toT
   have HAB:=zA hab
   clear ho' hab hil HO
   obtain⟨m,hm⟩:∃m,m=min size l'.length:=⟨_,rfl⟩
   have hw:Pl.within size 0 l'.length=(m:Int):=by unfold Pl.within;(repeat' split)<;>omega
   have hm2:(m:Int)≤cap':=by omega
   have HM:=zA hm
   clear hm
   go_wp2_with fail
   refine(rW _ _ _ hl1 wr).mono ?_
   rintro x w2 ⟨rfl,rfl⟩
   go_wp2_with fail
   refine(within_any _ _ _ _).mono ?_
   rintro x w3 ⟨rfl,rfl⟩
   rw[hw]
   clear hw
   go_wp2_with fail
   go_ret
   have hm:=HM.out
   have qD:=row_take HO'.out m lD
   have htk:l'.take m=l'.take size:=by
    rw[hm]
    rcases Nat.le_total size l'.length with h | h
    ·rw[Nat.min_eq_left h]
    ·rw[Nat.min_eq_right h,List.take_of_length_le (Nat.le_refl _),List.take_of_length_le h]
   rw[htk]at qD
   exact⟨_,_,rfl,qD,by rw[List.map_take,List.map_take,HAB.out],HB.out⟩
theorem tadd_ok (t:Nat) (sum:Int) (n:Nat) (x:Int) (w:World) (h:w.heap[t]?=some (.cells (Qi sum n) 177 (0,0))) (hn:n≤1000) :
  Calls prog 98 #[Qp t,.int .i64 x] w fun r w'=>r=.returned (.tuple #[])∧w'.heap[t]?=some (.cells (Qi (Pl.add sum x) ((n+1:Nat):Int)) 177 (0,0))∧Off (· = t) w w':=by
 have H:=zA h
 have c0:=cc 0 h
 have c1:=cc 1 h
 have hn1:(n:Int)≤1000:=by omega
 clear h hn
 go_enter func98,ntmps98
 go_wp2_with fail
 refine(add_any _ _ _).mono ?_
 rintro r w1 ⟨rfl,b1⟩
 have h1:=zZ b1 H.out
 have HO:=zA (Off.of_below (F:=(· = t)) b1)
 have H1:=zA h1
 clear c0 c1 b1
 have c0:=cc 0 h1
 have c1:=cc 1 h1
 have f0:=zB h1 0
 have f1:=zB h1 1
 clear h1
 go_wp2_with fail
 have hz:=xA [.int .i64 (Pl.add sum x),.int .i64 ((n:Int)+1)] H1.out rfl
 have ho:=Off.setCells HO.out t 0 [.int .i64 (Pl.add sum x),.int .i64 ((n:Int)+1)] rfl
 exact yG results98 ⟨rfl,hz,ho⟩
namespace Pl
def sumOf (l:List Ev):Int:=l.foldl (fun s e=>add s e.value) 0
theorem sumOf_succ (l:List Ev) (k:Nat) (h:k<l.length):sumOf (l.take (k+1))=add (sumOf (l.take k)) (l[k]).value:=by
 unfold sumOf
 rw[List.take_succ_eq_append_getElem h,List.foldl_append];rfl
def lastOf (es:List Ev) (work node:Int) (size:Nat):List Ev:=(smps es work node).take size
def meanOf (l:List Ev):Int:=ceilQ (sumOf l) l.length
theorem sumOf_abs {l l':List Ev} (h:l'.map Ev.abs=l.map Ev.abs):sumOf l'=sumOf l:=by
 have key:∀(a:List Ev) (z:Int),a.foldl (fun s e=>add s e.value) z=(a.map Ev.abs).foldl (fun s e=>add s e.value) z:=fun a=>by
  induction a with
  | nil=>intro z;rfl
  | cons x a ih=>intro z;rw[List.foldl_cons,List.map_cons,List.foldl_cons,ih];rfl
 unfold sumOf
 rw[key l',key l,h]
def hasOf (l:List Ev):Bool:=ceilE (l.length:Int) == 0
def loadStep (es:List Ev) (work:Int) (size:Nat) (a:Int×Nat) (node:Nat):Int×Nat:=if hasOf (lastOf es work node size)then(add a.1 (meanOf (lastOf es work node size)),a.2+1)else a
def loadOf (es:List Ev) (work:Int) (size k:Nat):Int×Nat:=(List.range k).foldl (loadStep es work size) (0,0)
theorem loadOf_succ (es:List Ev) (work:Int) (size k:Nat):loadOf es work size (k+1)=loadStep es work size (loadOf es work size k) k:=by
 unfold loadOf
 rw[List.range_succ,List.foldl_append];rfl
theorem loadOf_le (es:List Ev) (work:Int) (size:Nat):∀k,(loadOf es work size k).2≤k
 | 0=>Nat.le_refl _
 | k+1=>by
  rw[loadOf_succ]
  have:=loadOf_le es work size k
  unfold loadStep
  split<;>(try simp only[])<;>omega
end Pl
theorem mean_ok (v:Value) (es:List Pl.Ev) (work node:Int) (size:Nat) (w:World) (h:RowC kEv w v es) (hn:es.length≤1000) (hok:∀e∈es,e.rm.length≤96) (hi:∀e∈es,Is w e) (hs:(Pl.smps es work node).length≤1) :
  Calls prog 99 #[v,.int .i64 work,.int .i64 node,.int .i64 size] w fun r w'=>r=.returned (.tuple #[.int .i64 (Pl.meanOf (Pl.lastOf es work node size)),.bool (Pl.hasOf (Pl.lastOf es work node size))])∧Below w.heap.size w w':=by
 have b1:=bn w (.cells (Qi 0 0) 177)
 have HOF:=zA (wof_ok v es work node size _ (h.below b1) hn hok (fun e he=>(hi e he).below b1) hs)
 have HX:=zA (heap_alloc_new w (.cells (Qi 0 0) 177))
 have HB:=zA b1
 have HL:=zA (show(Pl.lastOf es work node size).length≤80 by unfold Pl.lastOf;rw[List.length_take];omega)
 obtain⟨ao,cap,rfl⟩:=h.form
 clear h hn hs hok hi b1
 go_enter func99,ntmps99
 go_wp2_with fail
 generalize w.alloc (.cells (Qi 0 0) 177)=W at *
 refine HOF.out.mono ?_
 rintro x w1 ⟨v1,l,rfl,hr,hab,b1⟩
 have HSM:=zA (Pl.sumOf_abs hab)
 have HLN:=zA (xQ hab)
 have HL:=zA (show l.length≤80 by rw[HLN.out];exact HL.out)
 clear hab
 obtain⟨ao1,cap1,rfl⟩:=hr.form
 have HR:=zA hr
 have HX1:=zA (zZ b1 HX.out)
 have HB1:=zA (HB.out.trans (b1.mono HB.out.size))
 have HW1:=zA (show w.heap.size<w1.heap.size from Nat.lt_of_lt_of_le (gsi.1 HX.out).1 b1.size)
 clear hr b1 HOF HX HB
 go_wp2_with fail
 go_loopw [21] (fun i wr=>∃(k:Nat),k≤l.length∧i=.int .i64 k∧wr.heap[w.heap.size]?=some (.cells (Qi (Pl.sumOf (l.take k)) k) 177 (0,0))∧Off (· = w.heap.size) w1 wr) (fun i _=>l.length - (intOf i).toNat)
 case atStart=>exact⟨0,by omega,rfl,HX1.out,Off.refl _ _⟩
 case round=>
  obtain⟨k,hk,rfl,hx,ho⟩:=hrel
  by_cases hlt:k<l.length
  ·obtain⟨g,off,cap',e1,hg,c0,c1,c2,c3,c4,c5,c6,c7,c8,c9,c10,c11,c12,c13⟩:=xS (RowT.keep (w':=wr) HR.out (fun g cs fr hg=>ho.same g (gsi.1 hg).1 (fun e=>by
    rw[show g=w.heap.size from e,HX1.out]at hg;exact zH lF hg))).toC hlt
   cases e1
   have a1:(k:Int)+1≤9223372036854775807:=by have:=HL.out;omega
   have b2:=bn wr (.cells (l[k]) 175)
   have qK:=heap_alloc_new wr (.cells (l[k]) 175)
   have hx2:=zZ b2 hx
   have HADD:=zA (tadd_ok w.heap.size _ k (l[k]).value _ hx2 (by have:=HL.out;omega))
   have HSU:=zA (Pl.sumOf_succ l k hlt)
   have HOA:=zA (ho.trans (Off.of_below b2))
   clear b2 hx hx2 ho
   generalize l[k]=ev at *
   obtain⟨d0,d1,d2,d3,d4,d5,d6,d7,d8,d9,d10,d11,d12,d13⟩:=c14 qK
   clear qK
   go_wp2_with fail
   generalize wr.alloc (.cells ev 175)=W2 at *
   refine HADD.out.mono ?_
   rintro x w3 ⟨rfl,hx3,o3⟩
   have HX3:=zA hx3
   have HO3:=zA (HOA.out.trans o3)
   clear hx3 o3 HADD
   go_wp2_with fail
   exact⟨⟨k+1,by omega,rfl,by rw[HSU.out];exact HX3.out,HO3.out⟩,by simp[intOf];omega⟩
  ·obtain rfl:k=l.length:=by omega
   rw[List.take_length]at hx
   have HBE:=zA (ho.since HB1.out (fun q hq=>Nat.le_of_eq hq.symm))
   have c0:=cc 0 hx
   have c1:=cc 1 hx
   clear hx ho hlt hk
   go_wp2_with fail
   refine(ceil_any _ _ _).mono ?_
   rintro x w3 ⟨rfl,rfl⟩
   go_wp2_with fail
   exact bodyPost_ret (v:=.tuple #[.int .i64 (Pl.ceilQ (Pl.sumOf l) l.length),.bool (Pl.ceilE l.length == 0)]) (by simp[results,results99,go_sem]) rfl ⟨by rw[HSM.out,HLN.out];rfl,HBE.out⟩
theorem load_ok (v:Value) (es:List Pl.Ev) (work:Int) (size:Nat) (w:World) (h:RowT kEv w v es) (hz:1≤size∧size≤16) (hn:es.length≤1000) (hok:∀e∈es,e.rm.length≤96) (hi:∀e∈es,Is w e) (hs:∀node:Nat,node<8→(Pl.smps es work node).length≤1) :
  Calls prog 42 #[v,.int .i64 work,.int .i64 size] w fun r w'=>r=.returned (.tuple (Qj (Pl.loadOf es work size 8).1 (Pl.loadOf es work size 8).2 0))∧Below w.heap.size w w':=by
 have hw:Pl.within size 1 16=size:=by unfold Pl.within;rw[if_neg (by omega),if_neg (by omega)]
 have hne:(((size:Int)) != size)=false:=by simp
 have HX:=zA (heap_alloc_new w (.cells (Qi 0 0) 177))
 have HB:=zA (bn w (.cells (Qi 0 0) 177))
 have HR:=zA (h.below (bn w (.cells (Qi 0 0) 177)))
 have HN:=zA hn
 have HS:=zA hs
 have HOK:=zA hok
 have HIS:=zA (fun e he=>(hi e he).below (bn w (.cells (Qi 0 0) 177)))
 obtain⟨ao,cap,rfl⟩:=h.form
 clear h hn hs hz hok hi
 go_enter func42,ntmps42
 go_wp2_with fail
 refine(within_any _ _ _ _).mono ?_
 rintro x w1 ⟨rfl,rfl⟩
 rw[hw]
 clear hw
 go_wp2_with fail
 generalize hW:w.alloc (.cells (Qi 0 0) 177)=W at *
 clear hW hne
 go_loopw [19] (fun i wr=>∃(k:Nat),k≤8∧i=.int .i64 k∧wr.heap[w.heap.size]?=some (.cells (Qi (Pl.loadOf es work size k).1 (Pl.loadOf es work size k).2) 177 (0,0))∧Off (· = w.heap.size) W wr) (fun i _=>8 - (intOf i).toNat)
 case atStart=>exact⟨0,by omega,rfl,HX.out,Off.refl _ _⟩
 case round=>
  obtain⟨k,hk,rfl,hx,ho⟩:=hrel
  by_cases hlt:k<8
  ·have a1:(k:Int)<8:=by omega
   have HBW:=zA (ho.since HB.out (fun q hq=>Nat.le_of_eq hq.symm))
   have pM:=zA (mean_ok (.slice ao es.length cap) es work k size wr (RowT.keep (w':=wr) HR.out (fun g cs fr hg=>ho.same g (gsi.1 hg).1 (fun e=>by
    rw[show g=w.heap.size from e,HX.out]at hg;exact zH lF hg))).toC HN.out HOK.out (fun e he=>DotsT.keep (HIS.out e he) (fun g cs fr hg=>ho.same g (gsi.1 hg).1 (fun e=>by
    rw[show g=w.heap.size from e,HX.out]at hg;exact zH lF hg))) (HS.out k hlt))
   have HSTEP:=zA (Pl.loadOf_succ es work size k)
   have HLE:=zA (Pl.loadOf_le es work size k)
   have HXX:=zA hx
   have HOO:=zA ho
   clear hx ho
   go_wp2_with fail
   refine pM.out.mono ?_
   rintro x w3 ⟨rfl,b3⟩
   have HX3:=zA (zZ b3 HXX.out)
   have HO3:=zA (HOO.out.trans (Off.of_below b3))
   clear b3 pM
   cases hhas:Pl.hasOf (Pl.lastOf es work k size)with
   | false=>
    go_wp2_with fail
    exact⟨⟨k+1,by omega,rfl,by rw[HSTEP.out];unfold Pl.loadStep;rw[hhas];exact HX3.out,HO3.out⟩,by simp[intOf];omega⟩
   | true=>
    go_wp2_with fail
    refine(tadd_ok w.heap.size _ _ _ w3 HX3.out (by have:=HLE.out;omega)).mono ?_
    rintro x w4 ⟨rfl,hx4,o4⟩
    have HX4:=zA hx4
    have HO4:=zA (HO3.out.trans o4)
    clear hx4 o4
    go_wp2_with fail
    exact⟨⟨k+1,by omega,rfl,by rw[HSTEP.out];unfold Pl.loadStep;rw[hhas];exact HX4.out,HO4.out⟩,by simp[intOf];omega⟩
  ·obtain rfl:k=8:=by omega
   have HBX:=zA (ho.since HB.out (fun q hq=>Nat.le_of_eq hq.symm))
   have c0:=cc 0 hx
   have c1:=cc 1 hx
   clear hx ho hlt hk
   go_wp2_with fail
   generalize hl1:(Pl.loadOf es work size 8).1=L1 at *
   generalize hl2:(Pl.loadOf es work size 8).2=L2 at *
   have HL1:=zA hl1
   have HL2:=zA hl2
   clear hl1 hl2
   refine zD (fun W'=>W'.cell? ⟨w.heap.size,0,none⟩=some (.int .i64 L1)∧W'.cell? ⟨w.heap.size,1,none⟩=some (.int .i64 L2)) 99 lE ⟨c0,c1⟩ (fun qB=>?_)
   refine tkp 0 35 rfl ?_
   refine tk 1 36 rfl kE ?_
   refine tkp 2 37 rfl ?_
   refine tk 3 38 rfl kE ?_
   refine tkp 4 6 rfl ?_
   refine tkp 5 7 rfl ?_
   refine tkp 6 8 rfl ?_
   refine wd ?_
   clear qB c0 c1
   go_wp2_with fail
   exact bodyPost_ret (v:=.tuple (Qj L1 (L2:Int) 0)) (by simp[results,results42,go_sem]) rfl ⟨by rw[HL1.out,HL2.out],HBX.out.trans ((Below.refl _ _).drew.mono HBX.out.size)⟩
set_option maxRecDepth 100000
def kLat:Rk Pl.Ev where
 T:=279
 S:=277
 k:=14
 bytes:=128
 z:=.agg Qen
 enc:=kEv.enc
 hlen:=fun _=>rfl
 hone:=kEv.hone
 hk:=by decide
 hu:=by kernel_rfl
 hi:=by kernel_rfl
 hz:=rfl
 hb:=by decide
theorem lat_cells {w:World} {v:Value} {es:List Pl.Ev} (h:RowC kLat w v es) {i:Nat} (hi:i<es.length):∃g off cap,v=.slice (some ⟨g,off,none⟩) es.length cap∧g<w.heap.size∧
  w.cell? ⟨g,off+i*14,none⟩=some (.int .i64 (es[i]).node)∧w.cell? ⟨g,off+i*14+1,none⟩=some (.int .i64 (es[i]).seq)∧w.cell? ⟨g,off+i*14+2,none⟩=some (.int .i64 (es[i]).time)∧w.cell? ⟨g,off+i*14+3,none⟩=some (.int .i64 (es[i]).kind)∧w.cell? ⟨g,off+i*14+4,none⟩=some (.int .i64 (es[i]).work)∧w.cell? ⟨g,off+i*14+5,none⟩=some (.int .i64 (es[i]).value)∧w.cell? ⟨g,off+i*14+6,none⟩=some (.int .i64 (es[i]).mn)∧w.cell? ⟨g,off+i*14+7,none⟩=some (.int .i64 (es[i]).mx)∧w.cell? ⟨g,off+i*14+8,none⟩=some (.int .i64 (es[i]).goal)∧w.cell? ⟨g,off+i*14+9,none⟩=some (.int .i64 (es[i]).slack)∧w.cell? ⟨g,off+i*14+10,none⟩=some (.int .i64 (es[i]).up)∧w.cell? ⟨g,off+i*14+11,none⟩=some (.int .i64 (es[i]).down)∧w.cell? ⟨g,off+i*14+12,none⟩=some (.int .i64 (es[i]).cool)∧w.cell? ⟨g,off+i*14+13,none⟩=some (.slice (es[i]).ro (es[i]).rn (es[i]).rc):=by
 exact nY
def LtFn (w:World) (g n:Nat) (f:Nat→Pl.Ev):Prop:=∃cs,w.heap[g]?=some (.cells cs 279 (0,0))∧n*14≤cs.size∧∀i,i<n→∀j,j<14→cs[i*14+j]?=(kLat.enc (f i))[j]?
theorem LtFn.below {w w':World} {g n:Nat} {f:Nat→Pl.Ev} (h:LtFn w g n f) (hb:Below w.heap.size w w'):LtFn w' g n f:=by
 obtain⟨cs,h1,h2⟩:=h
 exact⟨cs,(hb.block g (gsi.1 h1).1).trans h1,h2⟩
theorem LtFn.keep {w w':World} {g n:Nat} {f:Nat→Pl.Ev} (h:LtFn w g n f) (k:w'.heap[g]?=w.heap[g]?):LtFn w' g n f:=by
 obtain⟨cs,h1,h2⟩:=h
 exact⟨cs,k.trans h1,h2⟩
theorem LtFn.frozen {w:World} {g n:Nat} {f:Nat→Pl.Ev} (h:LtFn w g n f) (j:Nat):w.frozen? ⟨g,j,none⟩=false:=by
 obtain⟨cs,h1,h2⟩:=h
 exact zB h1 j
theorem LtFn.cell {w:World} {g n:Nat} {f:Nat→Pl.Ev} (h:LtFn w g n f) {i:Nat} (hi:i<n) {j:Nat} {u:Value} (hj:(kLat.enc (f i))[j]?=some u):w.cell? ⟨g,i*14+j,none⟩=some u:=by
 obtain⟨cs,h1,h2,h3⟩:=h
 have hl:j<14:=(List.getElem?_eq_some_iff.1 hj).1
 exact zE h1 ((h3 i hi j hl).trans hj)
def put (f:Nat→Pl.Ev) (i:Nat) (x:Pl.Ev):Nat→Pl.Ev:=fun k=>if k=i then x else f k
theorem LtFn.put {w:World} {g n:Nat} {f:Nat→Pl.Ev} (h:LtFn w g n f) {i:Nat} (hi:i<n) (x:Pl.Ev):LtFn (w.setCells g (i*14) (kLat.enc x)) g n (put f i x):=by
 obtain⟨cs,h1,h2,h3⟩:=h
 obtain⟨cs',k1,k2,k3,k4⟩:=uT g 279 (0,0) (kLat.enc x) (i*14) w cs h1
 refine⟨cs',k1,by omega,fun m hm j hj=>?_⟩
 unfold Go.Proofs.YtodlmbfbfaofcaaGreat.put
 have hl:(kLat.enc x).length=14:=kLat.hlen x
 by_cases e:m=i
 ·subst e
  rw[if_pos rfl]
  exact k3 j lD lD
 ·rw[if_neg e,←h3 m hm j hj]
  exact k4 _ lD
def swp (f:Nat→Pl.Ev) (i j:Nat):Nat→Pl.Ev:=fun k=>if k=i then f j else if k=j then f i else f k
theorem put_put_swp (f:Nat→Pl.Ev) (i j:Nat) (h:i≠j):put (put f i (f j)) j (f i)=swp f i j:=by
 funext k
 unfold put swp
 by_cases h1:k=j
 ·rw[if_pos h1]
  by_cases h2:k=i
  ·omega
  ·rw[if_neg h2,if_pos h1]
 ·rw[if_neg h1,if_neg h1]
theorem tA {w:World} {g n:Nat} {f:Nat→Pl.Ev} (h:LtFn w g n f) {i:Nat} (hi:i<n) :
  w.cell? ⟨g,i*14,none⟩=some (.int .i64 (f i).node)∧w.cell? ⟨g,i*14+1,none⟩=some (.int .i64 (f i).seq)∧w.cell? ⟨g,i*14+2,none⟩=some (.int .i64 (f i).time)∧w.cell? ⟨g,i*14+3,none⟩=some (.int .i64 (f i).kind)∧w.cell? ⟨g,i*14+4,none⟩=some (.int .i64 (f i).work)∧w.cell? ⟨g,i*14+5,none⟩=some (.int .i64 (f i).value)∧w.cell? ⟨g,i*14+6,none⟩=some (.int .i64 (f i).mn)∧w.cell? ⟨g,i*14+7,none⟩=some (.int .i64 (f i).mx)∧w.cell? ⟨g,i*14+8,none⟩=some (.int .i64 (f i).goal)∧w.cell? ⟨g,i*14+9,none⟩=some (.int .i64 (f i).slack)∧w.cell? ⟨g,i*14+10,none⟩=some (.int .i64 (f i).up)∧w.cell? ⟨g,i*14+11,none⟩=some (.int .i64 (f i).down)∧w.cell? ⟨g,i*14+12,none⟩=some (.int .i64 (f i).cool)∧w.cell? ⟨g,i*14+13,none⟩=some (.slice (f i).ro (f i).rn (f i).rc):=
 ⟨h.cell hi (j:=0) rfl,h.cell hi (j:=1) rfl,h.cell hi (j:=2) rfl,h.cell hi (j:=3) rfl,h.cell hi (j:=4) rfl,h.cell hi (j:=5) rfl,h.cell hi (j:=6) rfl,h.cell hi (j:=7) rfl,h.cell hi (j:=8) rfl,h.cell hi (j:=9) rfl,h.cell hi (j:=10) rfl,h.cell hi (j:=11) rfl,h.cell hi (j:=12) rfl,h.cell hi (j:=13) rfl⟩
def Pl.lat (x y:Pl.Ev):Bool:=if x.time=y.time then Pl.bef y.node y.seq x.node x.seq else decide (y.time<x.time)
def Pl.cmpL (x y:Pl.Ev):Int:=if Pl.lat x y then -1 else if Pl.lat y x then 1 else 0
theorem later_ok (x y:Pl.Ev) (w:World):Calls prog 258 #[evv x,evv y] w fun r w'=>r=.returned (.bool (Pl.lat x y))∧Below w.heap.size w w':=by
 have b1:=bn w (.cells (eva x) 175)
 have b2:=b1.alloc b1.size (.cells (eva y) 175)
 have hx:=zZ (bn _ (.cells (eva y) 175)) (heap_alloc_new w (.cells (eva x) 175))
 have hy:=heap_alloc_new (w.alloc (.cells (eva x) 175)) (.cells (eva y) 175)
 rw[zG]at hy
 have HB:=zA b2
 obtain⟨x0,x1,x2,x3,x4,x5,x6,x7,x8,x9,x10,x11,x12,x13⟩:=c14 hx
 obtain⟨y0,y1,y2,y3,y4,y5,y6,y7,y8,y9,y10,y11,y12,y13⟩:=c14 hy
 clear b1 b2 hx hy
 unfold Pl.lat
 by_cases h:x.time=y.time
 ·have hne:(x.time != y.time)=false:=by simp[h]
  rw[if_pos h]
  have HH:=zA h
  clear h
  go_enter func258,ntmps258
  go_wp2_with fail
  refine(sN _ _ _ _ _).mono ?_
  rintro r w2 ⟨rfl,b3⟩
  have HB3:=zA (HB.out.trans (b3.mono HB.out.size))
  clear b3
  go_wp2_with fail
  go_ret
  exact⟨rfl,HB3.out⟩
 ·have hne:(x.time != y.time)=true:=by simp[h]
  rw[if_neg h]
  clear h
  go_enter func258,ntmps258
  go_wp2_with fail
  go_ret
  exact⟨rfl,HB.out⟩
theorem pcmp_ok (x y:Pl.Ev) (w:World):Calls prog 168 #[evv x,evv y] w fun r w'=>r=.returned (.int .i64 (Pl.cmpL x y))∧Below w.heap.size w w':=by
 have b1:=bn w (.cells (eva x) 279)
 have b2:=b1.alloc b1.size (.cells (eva y) 279)
 have hx:=zZ (bn _ (.cells (eva y) 279)) (heap_alloc_new w (.cells (eva x) 279))
 have hy:=heap_alloc_new (w.alloc (.cells (eva x) 279)) (.cells (eva y) 279)
 rw[zG]at hy
 have HB:=zA b2
 have HX:=zA hx
 have HY:=zA hy
 obtain⟨x0,x1,x2,x3,x4,x5,x6,x7,x8,x9,x10,x11,x12,x13⟩:=c14 hx
 obtain⟨y0,y1,y2,y3,y4,y5,y6,y7,y8,y9,y10,y11,y12,y13⟩:=c14 hy
 clear b1 b2 hx hy
 go_enter func168,ntmps168
 go_wp2_with fail
 generalize (w.alloc (.cells (eva x) 279)).alloc (.cells (eva y) 279)=W at *
 refine(later_ok x y W).mono ?_
 rintro r w2 ⟨rfl,b3⟩
 have HB3:=zA (HB.out.trans (b3.mono HB.out.size))
 have hx3:=zZ b3 HX.out
 have hy3:=zZ b3 HY.out
 clear x0 x1 x2 x3 x4 x5 x6 x7 x8 x9 x10 x11 x12 x13 y0 y1 y2 y3 y4 y5 y6 y7 y8 y9 y10 y11 y12 y13 b3
 obtain⟨x0,x1,x2,x3,x4,x5,x6,x7,x8,x9,x10,x11,x12,x13⟩:=c14 hx3
 obtain⟨y0,y1,y2,y3,y4,y5,y6,y7,y8,y9,y10,y11,y12,y13⟩:=c14 hy3
 clear hx3 hy3
 rcases h1:Pl.lat x y with _ | _
 ·go_wp2_with fail
  refine(later_ok y x w2).mono ?_
  rintro r w3 ⟨rfl,b4⟩
  have HB4:=zA (HB3.out.trans (b4.mono HB3.out.size))
  clear b4
  rcases h2:Pl.lat y x with _ | _
  ·go_wp2_with fail
   go_ret
   exact⟨by unfold Pl.cmpL;simp[h1,h2],HB4.out⟩
  ·go_wp2_with fail
   go_ret
   exact⟨by unfold Pl.cmpL;simp[h1,h2],HB4.out⟩
 ·go_wp2_with fail
  go_ret
  exact⟨by unfold Pl.cmpL;simp[h1],HB3.out⟩
namespace Pl
def Ev.key (e:Ev):Int:=e.time*1000+e.node*100+e.seq
structure Ev.Bk (e:Ev):Prop where
 node:0≤e.node∧e.node≤7
 seq:0≤e.seq∧e.seq≤99
theorem lat_key {x y:Ev} (hx:x.Bk) (hy:y.Bk):lat x y=decide (y.key<x.key):=by
 have:=hx.node;have:=hx.seq;have:=hy.node;have:=hy.seq
 unfold lat bef Ev.key
 split
 ·rw[Bool.eq_iff_iff];simp;omega
 ·rw[Bool.eq_iff_iff];simp;omega
structure Mix (n:Nat) (f F:Nat→Ev):Prop where
 into:∀q,q<n→∃m,m<n∧F q=f m
 onto:∀m,m<n→∃q,q<n∧F q=f m
theorem Mix.swp {n:Nat} {f F:Nat→Ev} (h:Mix n f F) {i j:Nat} (hi:i<n) (hj:j<n):Mix n f (swp F i j):=by
 refine⟨fun q hq=>?_,fun m hm=>?_⟩
 ·unfold Go.Proofs.YtodlmbfbfaofcaaGreat.swp
  split
  ·exact h.into j hj
  ·split
   ·exact h.into i hi
   ·exact h.into q hq
 ·obtain⟨q,hq,e⟩:=h.onto m hm
  unfold Go.Proofs.YtodlmbfbfaofcaaGreat.swp
  by_cases h1:q=i
  ·refine⟨j,hj,?_⟩
   by_cases h2:j=i
   ·rw[if_pos h2,←e,h1,h2]
   ·rw[if_neg h2,if_pos rfl,←e,h1]
  ·by_cases h2:q=j
   ·exact⟨i,hi,by rw[if_pos rfl,←e,h2]⟩
   ·exact⟨q,hq,by rw[if_neg h1,if_neg h2,e]⟩
structure Srt (i k:Nat) (F:Nat→Ev):Prop where
 rest:∀a b,a<b→b≤i→a≠k→b≠k→(F b).key≤(F a).key
 back:∀b,k<b→b≤i→(F b).key≤(F k).key
theorem Srt.down {i p:Nat} {F:Nat→Ev} (h:Srt i (p+1) F) (hp:p+1≤i) (hk:(F p).key<(F (p+1)).key):Srt i p (swp F (p+1) p):=by
 have e1:swp F (p+1) p (p+1)=F p:=by unfold swp;rw[if_pos rfl]
 have e2:swp F (p+1) p p=F (p+1):=by unfold swp;rw[if_neg (by omega),if_pos rfl]
 have e3:∀q,q≠p→q≠p+1→swp F (p+1) p q=F q:=fun q h1 h2=>by unfold swp;rw[if_neg h2,if_neg h1]
 refine⟨fun a b hab hb ha hb'=>?_,fun b hb hbi=>?_⟩
 ·by_cases h1:b=p+1
  ·subst h1
   rw[e1,e3 a ha (by omega)]
   exact h.rest a p lD lD lD lD
  ·by_cases h2:a=p+1
   ·subst h2
    rw[e1,e3 b hb' h1]
    exact h.rest p b lD hb lD h1
   ·rw[e3 a ha h2,e3 b hb' h1]
    exact h.rest a b hab hb h2 h1
 ·rw[e2]
  by_cases h1:b=p+1
  ·subst h1;rw[e1];omega
  ·rw[e3 b (by omega) h1]
   exact h.back b lD hbi
theorem Srt.done {i k:Nat} {F:Nat→Ev} (h:Srt i k F) (hk:k≤i) (hs:k=0∨(F k).key≤(F (k - 1)).key):∀a b,a<b→b≤i→(F b).key≤(F a).key:=fun a b hab hb=>by
 by_cases h1:a=k
 ·subst h1;exact h.back b hab hb
 ·by_cases h2:b=k
  ·subst h2
   rcases hs with hs | hs
   ·omega
   ·by_cases h3:a=b - 1
    ·subst h3;exact hs
    ·have:=h.rest a (b - 1) lD lD h1 lD
     omega
  ·exact h.rest a b hab hb h1 h2
end Pl
theorem pins_ok (g cap n:Nat) (f:Nat→Pl.Ev) (w:World) (h:LtFn w g n f) (h1:1≤n) (hn:n≤1000) (hbk:∀q,q<n→(f q).Bk) :
  Calls prog 320 #[.slice (some ⟨g,0,none⟩) n cap,.int .i64 0,.int .i64 n,(Qm 168)] w fun r w'=>r=.returned (.tuple #[])∧(∃F,LtFn w' g n F∧Pl.Mix n f F∧∀a b,a<b→b<n→(F b).key≤(F a).key)∧Off (· = g) w w':=by
 have H:=zA h
 have HN:=zA hn
 have HBK:=zA hbk
 clear h hn hbk
 go_enter func320,ntmps320
 go_wp2_with fail
 go_loopw [8] (fun i wr=>∃(p:Nat) (F:Nat→Pl.Ev),1≤p∧p≤n∧i=.int .i64 p∧LtFn wr g n F∧Pl.Mix n f F∧(∀a b,a<b→b<p→(F b).key≤(F a).key)∧Off (· = g) w wr) (fun i _=>n - (intOf i).toNat)
 case atStart=>exact⟨1,f,Nat.le_refl _,h1,rfl,H.out,⟨fun q hq=>⟨q,hq,rfl⟩,fun m hm=>⟨m,hm,rfl⟩⟩,fun a b _ _=>by omega,Off.refl _ _⟩
 case round=>
  obtain⟨i,F0,hi,hin,rfl,hr,hmx,hsr,ho⟩:=hrel
  have HR:=zA hr
  have HO:=zA ho
  have HIA:=zA hi
  have HIN:=zA hin
  have HMX:=zA hmx
  have HSR:=zA hsr
  clear hr ho hin hmx hsr
  by_cases hlt:i<n
  ·have HIL:=zA hlt
   go_wp2_with fail
   clear hlt hi
   have HM:=zA (show n - (intOf (.int .i64 ((i:Int)+1))).toNat<n - (intOf (.int .i64 i)).toNat by have:=HIL.out;simp[intOf];omega)
   go_loopw [9] (fun j wr=>∃(k:Nat) (F:Nat→Pl.Ev),k≤i∧j=.int .i64 k∧LtFn wr g n F∧Pl.Mix n f F∧Pl.Srt i k F∧Off (· = g) w wr) (fun i _=>(intOf i).toNat)
   case atStart=>exact⟨i,F0,Nat.le_refl _,rfl,HR.out,HMX.out,⟨fun a b hab hb _ hb'=>HSR.out a b hab lD,fun b h1 h2=>by omega⟩,HO.out⟩
   case round=>
    clear HR HO HMX HSR
    obtain⟨k,F,hkp,rfl,hr,hmx,hsr,ho⟩:=hrel
    have HR:=zA hr
    have HO:=zA ho
    have HKP:=zA hkp
    have HMX:=zA hmx
    have HSR:=zA hsr
    clear hr ho hkp hmx hsr
    have b1:IntKind.i64.wrap ((i:Int)+1)=(i:Int)+1:=by rw[IntKind.wrap_i64];have:=HN.out;have:=HIL.out;omega
    by_cases hlt:0<k
    ·obtain⟨p,rfl⟩:∃p,k=p+1:=⟨k - 1,by omega⟩
     have HKL:=zA hlt
     have b3:IntKind.i64.wrap (p:Int)=(p:Int):=by rw[IntKind.wrap_i64];have:=HN.out;have:=HKP.out;have:=HIL.out;omega
     have b2:(0:Int)<(p:Int)+1:=by omega
     have a5:((p:Int)+1).toNat=p+1:=by omega
     have a6:(p:Int)<n:=by have:=HKP.out;have:=HIL.out;omega
     have a7:(p:Int)+1<n:=by have:=HKP.out;have:=HIL.out;omega
     have a9:(0:Int)≤(p:Int)+1:=by omega
     have HI:=zA (show p+1<n by omega)
     have HJ:=zA (show p<n by omega)
     have HNE:=zA (show p+1≠p by omega)
     have hky:Pl.lat (F (p+1)) (F p)=decide ((F p).key<(F (p+1)).key):=by
      obtain⟨m1,k1,e1⟩:=HMX.out.into (p+1) HI.out
      obtain⟨m2,k2,e2⟩:=HMX.out.into p HJ.out
      exact Pl.lat_key (by rw[e1];exact HBK.out m1 k1) (by rw[e2];exact HBK.out m2 k2)
     have HKY:=zA hky
     clear hky hlt
     rcases hl:Pl.lat (F (p+1)) (F p)with _ | _
     ·have oD:∃z:Int,Pl.cmpL (F (p+1)) (F p)=z∧¬z<0:=⟨_,rfl,by unfold Pl.cmpL;rw[hl];simp;split<;>omega⟩
      obtain⟨z,hz,hz0⟩:=oD
      have HZ:=zA hz
      have HLL:=zA hl
      clear hz hl
      go_wp2_with fail
      refine zD (fun W=>LtFn W g n F) 99 lE (HR.out.keep rfl) (fun qB=>?_)
      have HBR:=zA (show Below wr.heap.size wr wr.drew from(Below.refl _ _).drew)
      refine tkp 0 18 rfl ?_
      refine tkp 1 19 rfl ?_
      refine tkp 2 20 rfl ?_
      refine tkp 3 21 rfl ?_
      refine tkp 4 22 rfl ?_
      refine tkp 5 23 rfl ?_
      refine tkp 6 24 rfl ?_
      refine tkp 7 25 rfl ?_
      refine tk 8 26 rfl kF ?_
      refine tkp 9 27 rfl ?_
      refine tkp 10 28 rfl ?_
      refine tkp 11 29 rfl ?_
      refine tkp 12 30 rfl ?_
      refine tk 13 31 rfl lT ?_
      clear qB
      refine t1 14 rfl (fun K hK=>?_)
      go_simp
      refine(pcmp_ok (F (p+1)) (F (p)) wr.drew).mono ?_
      rintro x wc ⟨rfl,hbc⟩
      rw[HZ.out]
      have HRC:=zA ((HR.out.keep (w':=wr.drew) rfl).below hbc)
      have HBC:=zA (HBR.out.trans hbc)
      clear hbc
      refine hK.out _ _ (fun _=>HRC.out) (fun _=>?_)
      clear hK K
      try simp only[zP]
      refine t1 15 rfl (fun K hK=>?_)
      go_simp
      refine hK.out _ _ (fun _=>HRC.out) (fun _=>?_)
      clear hK K
      try simp only[zP]
      refine t1 16 rfl (fun K hK=>?_)
      go_simp
      refine hK.out _ _ (fun _=>HRC.out) (fun _=>?_)
      clear hK K
      try simp only[zP]
      refine wd ?_
      clear HBR
      have HO3:=zA (HO.out.trans (Off.of_below (F:=(· = g)) HBC.out))
      clear HR HO HBC
      have HR:=HRC
      have HO:=HO3
      clear HRC HO3
      go_wp2_with fail
      refine⟨⟨i+1,F,by omega,by have:=HIL.out;omega,rfl,HR.out,HMX.out,fun a b hab hb=>?_,HO.out⟩,HM.out⟩
      refine HSR.out.done HKP.out (.inr ?_) a b hab lD
      have h1:=HKY.out
      rw[HLL.out]at h1
      have h2:=of_decide_eq_false h1.symm
      rw[Nat.add_sub_cancel]
      omega
     ·have hz:Pl.cmpL (F (p+1)) (F p) = -1:=by unfold Pl.cmpL;rw[hl];rfl
      have HZ:=zA hz
      have HLL:=zA hl
      clear hz hl
      go_wp2_with fail
      refine zD (fun W=>LtFn W g n F) 99 lE (HR.out.keep rfl) (fun qB=>?_)
      have HBR:=zA (show Below wr.heap.size wr wr.drew from(Below.refl _ _).drew)
      refine tkp 0 18 rfl ?_
      refine tkp 1 19 rfl ?_
      refine tkp 2 20 rfl ?_
      refine tkp 3 21 rfl ?_
      refine tkp 4 22 rfl ?_
      refine tkp 5 23 rfl ?_
      refine tkp 6 24 rfl ?_
      refine tkp 7 25 rfl ?_
      refine tk 8 26 rfl kF ?_
      refine tkp 9 27 rfl ?_
      refine tkp 10 28 rfl ?_
      refine tkp 11 29 rfl ?_
      refine tkp 12 30 rfl ?_
      refine tk 13 31 rfl lT ?_
      clear qB
      refine t1 14 rfl (fun K hK=>?_)
      go_simp
      refine(pcmp_ok (F (p+1)) (F (p)) wr.drew).mono ?_
      rintro x wc ⟨rfl,hbc⟩
      rw[HZ.out]
      have HRC:=zA ((HR.out.keep (w':=wr.drew) rfl).below hbc)
      have HBC:=zA (HBR.out.trans hbc)
      clear hbc
      refine hK.out _ _ (fun _=>HRC.out) (fun _=>?_)
      clear hK K
      try simp only[zP]
      refine t1 15 rfl (fun K hK=>?_)
      go_simp
      refine hK.out _ _ (fun _=>HRC.out) (fun _=>?_)
      clear hK K
      try simp only[zP]
      refine t1 16 rfl (fun K hK=>?_)
      go_simp
      refine hK.out _ _ (fun _=>HRC.out) (fun _=>?_)
      clear hK K
      try simp only[zP]
      refine wd ?_
      clear HBR
      have HO3:=zA (HO.out.trans (Off.of_below (F:=(· = g)) HBC.out))
      clear HR HO HBC
      have HR:=HRC
      have HO:=HO3
      clear HRC HO3
      go_wp2_with fail
      refine wp_region_K (fun W=>LtFn W g n F) (fun i=> !(i == 15||i == 17)) lE (HR.out.keep rfl) (fun qB=>?_)
      have HOd:=zA (show Off (· = g) w wc.drew from⟨HO.out.size,HO.out.same,HO.out.rest⟩)
      clear HR HO
      generalize wc.drew=Wd at *
      refine tf 0 37 rfl ?_
      refine tf 1 38 rfl ?_
      refine tf 2 39 rfl ?_
      refine tf 3 40 rfl ?_
      refine tf 4 41 rfl ?_
      refine tf 5 42 rfl ?_
      refine tf 6 43 rfl ?_
      refine tf 7 44 rfl ?_
      refine tf 8 45 rfl ?_
      refine tkk 9 46 rfl lT ?_
      refine tf 10 47 rfl ?_
      refine tf 11 48 rfl ?_
      refine tf 12 49 rfl ?_
      refine tkk 13 50 rfl (by intro wS hSw;obtain⟨y0,y1,y2,y3,y4,y5,y6,y7,y8,y9,y10,y11,y12,y13⟩:=tA hSw (i:=(p+1)) HI.out;clear hSw;go_simp;(try with_reducible rfl)) ?_
      refine tf 14 51 rfl ?_
      obtain⟨y0,y1,y2,y3,y4,y5,y6,y7,y8,y9,y10,y11,y12,y13⟩:=tA qB (i:=(p+1)) HI.out
      have fz:=LtFn.frozen qB
      refine rJ (i:=15) lE rfl (fun K hK=>?_)
      go_simp
      refine hK.out _ _ (fun h=>absurd h lF) (fun _=>?_)
      clear hK K
      try simp only[zP]
      have hz1:=LtFn.put qB (i:=(p+1)) HI.out (F p)
      have hst:Wd.setCells g ((p+1)*14) (kLat.enc (F p))=(Qhe Wd g ((p+1)*14) (F p):World):=rfl
      have ho1:=Off.setCells HOd.out g ((p+1)*14) (kLat.enc (F p)) rfl
      rw[hst]at hz1 ho1
      clear hst qB y0 y1 y2 y3 y4 y5 y6 y7 y8 y9 y10 y11 y12 y13 fz
      generalize (Qhe Wd g ((p+1)*14) (F p):World)=Z1 at *
      have HZ1:=zA hz1
      have HO1:=zA ho1
      clear hz1 ho1
      refine rJ (i:=16) lE rfl (fun K hK=>?_)
      go_simp
      refine hK.out _ _ (fun _ h=>h) (fun _=>?_)
      clear hK K
      try simp only[zP]
      obtain⟨y0,y1,y2,y3,y4,y5,y6,y7,y8,y9,y10,y11,y12,y13⟩:=tA HZ1.out (i:=p) HJ.out
      have fz:=LtFn.frozen HZ1.out
      refine rJ (i:=17) lE rfl (fun K hK=>?_)
      go_simp
      refine hK.out _ _ (fun h=>absurd h lF) (fun _=>?_)
      clear hK K
      try simp only[zP]
      have hz2:=LtFn.put HZ1.out (i:=p) HJ.out (F (p+1))
      have hst:Z1.setCells g (p*14) (kLat.enc (F (p+1)))=(Qhe Z1 g (p*14) ((F (p+1))):World):=rfl
      have ho2:=Off.setCells HO1.out g (p*14) (kLat.enc (F (p+1))) rfl
      rw[hst]at hz2 ho2
      rw[put_put_swp _ _ _ HNE.out]at hz2
      clear hst y0 y1 y2 y3 y4 y5 y6 y7 y8 y9 y10 y11 y12 y13 fz
      generalize (Qhe Z1 g (p*14) ((F (p+1))):World)=Z2 at *
      have HZ2:=zA hz2
      have HO2:=zA ho2
      clear hz2 ho2
      refine wpK_done lE ?_ _
      go_wp2_with fail
      have h1:=HKY.out
      rw[HLL.out]at h1
      have h2:=of_decide_eq_true h1.symm
      exact⟨⟨p,swp F (p+1) p,by have:=HKP.out;omega,rfl,HZ2.out,HMX.out.swp HI.out HJ.out,HSR.out.down HKP.out h2,HO2.out⟩,by simp[intOf]⟩
    ·obtain rfl:k=0:=by omega
     clear hlt
     go_wp2_with fail
     refine zD (fun _=>True) 99 lE trivial (fun qB=>?_)
     refine tkp 0 18 rfl ?_
     refine tkp 1 19 rfl ?_
     refine tkp 2 20 rfl ?_
     refine tkp 3 21 rfl ?_
     refine yE (i:=4) 22 (v:=undef) rfl lE lE lE lE lE (fun _ _ _ h=>h) (Or.inr ⟨by rfl,rfl⟩) (by assumption) ?_
     simp only[zP]
     refine yE (i:=5) 23 (v:=undef) rfl lE lE lE lE lE (fun _ _ _ h=>h) (Or.inr ⟨by rfl,rfl⟩) (by assumption) ?_
     simp only[zP]
     refine yE (i:=6) 24 (v:=undef) rfl lE lE lE lE lE (fun _ _ _ h=>h) (Or.inr ⟨by rfl,rfl⟩) (by assumption) ?_
     simp only[zP]
     refine yE (i:=7) 25 (v:=undef) rfl lE lE lE lE lE (fun _ _ _ h=>h) (Or.inr ⟨by rfl,rfl⟩) (by assumption) ?_
     simp only[zP]
     refine yE (i:=8) 26 (v:=undef) rfl lE lE lE lE lE (fun _ _ _ h=>h) (Or.inr ⟨by rfl,rfl⟩) (by assumption) ?_
     simp only[zP]
     refine yE (i:=9) 27 (v:=undef) rfl lE lE lE lE lE (fun _ _ _ h=>h) (Or.inr ⟨by rfl,rfl⟩) (by assumption) ?_
     simp only[zP]
     refine yE (i:=10) 28 (v:=undef) rfl lE lE lE lE lE (fun _ _ _ h=>h) (Or.inr ⟨by rfl,rfl⟩) (by assumption) ?_
     simp only[zP]
     refine yE (i:=11) 29 (v:=undef) rfl lE lE lE lE lE (fun _ _ _ h=>h) (Or.inr ⟨by rfl,rfl⟩) (by assumption) ?_
     simp only[zP]
     refine yE (i:=12) 30 (v:=undef) rfl lE lE lE lE lE (fun _ _ _ h=>h) (Or.inr ⟨by rfl,rfl⟩) (by assumption) ?_
     simp only[zP]
     refine yE (i:=13) 31 (v:=undef) rfl lE lE lE lE lE (fun _ _ _ h=>h) (Or.inr ⟨by rfl,rfl⟩) (by assumption) ?_
     simp only[zP]
     refine yE (i:=14) 32 (v:=undef) rfl lE lE lE lE lE (fun _ _ _ h=>h) (Or.inr ⟨by rfl,rfl⟩) (by assumption) ?_
     simp only[zP]
     refine yE (i:=15) 33 (v:=undef) rfl lE lE lE lE lE (fun _ _ _ h=>h) (Or.inr ⟨by rfl,rfl⟩) (by assumption) ?_
     simp only[zP]
     refine tkp 16 34 rfl ?_
     refine wd ?_
     go_wp2_with fail
     exact⟨⟨i+1,F,by omega,by have:=HIL.out;omega,rfl,HR.out.keep rfl,HMX.out,fun a b hab hb=>HSR.out.done HKP.out (.inl rfl) a b hab lD,HO.out.trans (Off.of_below (Below.refl _ _).drew)⟩,HM.out⟩
  ·obtain rfl:i=n:=by have:=HIN.out;omega
   go_wp2_with fail
   exact yG results320 ⟨rfl,⟨F0,HR.out,HMX.out,HSR.out⟩,HO.out⟩
end
end Go.Proofs.YtodlmbfbfaofcaaGreat
