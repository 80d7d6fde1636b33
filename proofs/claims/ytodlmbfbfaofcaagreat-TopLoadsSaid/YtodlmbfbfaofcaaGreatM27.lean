/- TopLoads, part 27. -/
import Derived.Test.YtodlmbfbfaofcaaGreatM01
import Derived.Test.YtodlmbfbfaofcaaGreatM03
import Derived.Test.YtodlmbfbfaofcaaGreatM07
import Derived.Test.YtodlmbfbfaofcaaGreatM11
import Derived.Test.YtodlmbfbfaofcaaGreatM19
import Derived.Test.YtodlmbfbfaofcaaGreatM23
import Derived.Test.YtodlmbfbfaofcaaGreatM26
open Go.Proofs.Tryz
namespace Go.Proofs.YtodlmbfbfaofcaaGreat
set_option linter.unusedVariables false
set_option linter.unusedSimpArgs false
set_option maxRecDepth 100000
set_option maxHeartbeats 1000000
section
open Go.RowKit Rw Rh
theorem bnew2_ok (base c q k km:Nat) (e:Pl.Ev) (l:List Pl.Ev) (L:List (Nat×Nat)) (w:World) (h:EsAt base c l w) (hq:w.heap[q]?=some (.cells (Qo 768) 3 (0,0))) (hk:KnAt k km L w) (hc:base≤c) (hl:l.length<768) (he:∃n s,e.Dot n s) :
  Calls prog 281 #[evv e,Qp c,Qp q,Qp k] w fun r w'=>r=.returned (.bool true)∧EsAt base c (if e.at∈L then l else l++[e]) w'∧Below base w w'∧Kept c w w':=by
 obtain⟨n,s,hd⟩:=he
 obtain⟨m,hx,hm⟩:=h
 obtain⟨ao,cap,rfl⟩:=hm.toT.form
 have hcl:=(gsi.1 hx).1
 have b1:=bn w (.cells e 175)
 have hE:=heap_alloc_new w (.cells e 175)
 have hx1:=(b1.block c hcl).trans hx
 have hq1:=(b1.block q (gsi.1 hq).1).trans hq
 have hk1:=hk.below b1
 have hno:∀g,(Value.slice ao l.length cap).ownBlock=some g→g≠c∧g≠w.heap.size:=fun g hg=>⟨fun e=>by
  obtain⟨cs,hcs⟩:=zK hm hg
  rw[e,hx]at hcs;exact zI (by decide) hcs,by have:=(hm.lt g hg).2;omega⟩
 have HM:=zA (hm.below b1)
 have HB:=zA b1
 have HX:=zA hx1
 have HE:=zA hE
 have HNO:=zA hno
 have HC:=zA hc
 have HL:=zA (show l.length≤1000 by omega)
 have HM0:=zA hm
 have HX0:=zA hx
 have HK1:=zA hk1
 have HBZ:=zA (show Below base w (w.alloc (.cells e 175))from b1.mono (Nat.le_trans hc (Nat.le_of_lt hcl)))
 have c0:=cc 0 hx1
 have q0:=cc 0 hq1
 have k0:=cc 0 hk1.1
 have e0:=cc 0 hE
 have e1:=cc 1 hE
 have g1:¬(768:Int)≤l.length:=by omega
 have hz:∀w,(zeroValue 4).run prog w=.ok (.bool false) w:=fun _=>by kernel_rfl
 by_cases hin:e.at∈L
 ·have hlk:Sem.run prog (Instr.lookup 182 (.map (some km)) (.agg (Qi e.node e.seq)) false) (w.alloc (.cells e 175))=.ok (.bool true) (w.alloc (.cells e 175)):=by
   rw[show Value.agg (Qi e.node e.seq)=dkey (n,s)from by rw[hd.node,hd.seq];rfl]
   exact dm_look (T:=182) (E:=4) underlying182 hk1.2 (n,s) (.bool true) (List.mem_map.2 ⟨_,hin,by rw[hd.key]⟩) false
  have HIN:=zA hin
  have HEZ:=zA (show EsAt base c l (w.alloc (.cells e 175))from⟨_,hx1,hm.below b1⟩)
  clear hx hm hcl b1 hE hx1 hno hc hl hq hk hq1 hk1 hin hd
  go_enter func281,ntmps281
  go_wp2_with fail
  go_ret
  exact⟨rfl,HEZ.out,HBZ.out,Kept.of_below HB.out⟩
 ·have hlk:Sem.run prog (Instr.lookup 182 (.map (some km)) (.agg (Qi e.node e.seq)) false) (w.alloc (.cells e 175))=.ok (.bool false) (w.alloc (.cells e 175)):=by
   rw[show Value.agg (Qi e.node e.seq)=dkey (n,s)from by rw[hd.node,hd.seq];rfl]
   refine dm_miss (T:=182) (E:=4) underlying182 hk1.2 (n,s) (fun p hp e'=>?_) (.bool false) (hz _) false
   obtain⟨d,hd',rfl⟩:=List.mem_map.1 hp
   exact hin (by rw[hd.key,←e'];exact hd')
  have HIN:=zA hin
  clear hx hm hcl b1 hE hx1 hno hc hl hq hk hq1 hk1 hin hd
  go_enter func281,ntmps281
  go_wp2_with fail
  clear c0 q0 k0 e0 e1 g1 hlk hz
  generalize (w.alloc (.cells e 175))=W at *
  have HXW:=zA (fun (W':World) (hW:Off (fun g=>(Value.slice ao l.length cap).ownBlock=some g) W W')=>(hW.same _ (gsi.1 HX.out).1 (fun e=>(HNO.out _ e).1 rfl)).trans HX.out)
  have HEW:=zA (fun (W':World) (hW:Off (fun g=>(Value.slice ao l.length cap).ownBlock=some g) W W')=>(hW.same _ (gsi.1 HE.out).1 (fun e=>(HNO.out _ e).2 rfl)).trans HE.out)
  refine zD (fun W'=>Off (fun g=>(Value.slice ao l.length cap).ownBlock=some g) W W') 5 (by kernel_rfl) ⟨Nat.le_refl _,fun _ _ _=>rfl,rfl,rfl,rfl⟩ (fun rV=>?_)
  refine tk 0 15 rfl (by intro wS hSw;have y:=HXW.out _ hSw;have d0:=cc 0 y;clear hSw;go_simp;(try with_reducible rfl)) ?_
  refine tk 1 16 rfl (by intro wS hSw;have y:=HEW.out _ hSw;have y0:=cc 0 y;have y1:=cc 1 y;have y2:=cc 2 y;have y3:=cc 3 y;have y4:=cc 4 y;have y5:=cc 5 y;have y6:=cc 6 y;have y7:=cc 7 y;have y8:=cc 8 y;have y9:=cc 9 y;have y10:=cc 10 y;have y11:=cc 11 y;have y12:=cc 12 y;have y13:=cc 13 y;clear hSw;go_simp;(try with_reducible rfl)) ?_
  refine t1 2 rfl (fun K hK=>?_)
  go_simp
  refine(rT e _).mono ?_
  rintro x w6 ⟨rfl,b6⟩
  have h6:=rV.trans (Off.of_below b6)
  have HH6:=zA h6
  have HO6:=zA ((HM.out.keep (w':=W.drew) (fun g hg=>rfl)).below b6)
  clear b6 rV h6
  refine hK.out _ _ (fun _=>HH6.out) (fun _=>?_)
  clear hK K
  try simp only[zN]
  refine t1 3 rfl (fun K hK=>?_)
  go_simp
  have b7:=bn w6 (.cells (eva e) 175)
  have HH7:=zA (HH6.out.trans (Off.of_below b7))
  have HO7:=zA (HO6.out.below b7)
  have qC:=zA (show RowC kEv (w6.alloc (.cells (eva e) 175)) (.slice (some ⟨w6.heap.size,0,none⟩) 1 1) [e]from yJ kEv w6 [e] (eva e) 1 rfl (by simp[Rk.encs,kEv]))
  clear b7
  refine hK.out _ _ (fun _=>HH7.out) (fun _=>?_)
  clear hK K
  try simp only[zN]
  generalize w6.alloc (.cells (eva e) 175)=w7 at *
  refine t1 4 rfl (fun K hK=>?_)
  rw[if_pos (by rfl)]
  have hb7:Below base w w7:=Below.trans (HB.out.mono (by have:=HM0.out;have:=HC.out;exact Nat.le_trans HC.out (Nat.le_of_lt (gsi.1 HX0.out).1))) ⟨HH7.out.rest.1,HH7.out.rest.2.1,HH7.out.rest.2.2,HH7.out.size,fun g hg=>HH7.out.same g (by have:=HB.out.size;have:=(gsi.1 HX0.out).1;have:=HC.out;omega) (fun e=>by have:=(HM0.out.lt g e).1;omega)⟩
  have qE:base≤w7.heap.size:=by
   have:=(gsi.1 HX0.out).1
   have:=HC.out
   have:=HB.out.size
   have:=HH7.out.size
   omega
  refine vD kEv rfl (.tmp 15) (.tmp 18) rfl rfl HO7.out rfl qC.out (by have:=HL.out;simp;omega) hb7 qE ?_
  intro v8 w8 hown8 hb8 hg8
  obtain⟨ao8,cap8,hv8⟩:=hown8.toT.form
  rw[List.length_append,List.length_singleton]at hv8
  subst hv8
  have hg9:World.grownBy w7 w8 (Value.slice ao l.length cap).ownBlock:=hg8
  have HH8:=zA (HH7.out.trans ⟨hg9.size,fun g hg hn=>hg9.block g hg (fun e=>hn e.symm),hg9.os,hg9.tape,hg9.output⟩)
  have HO8:=zA hown8
  have HB8:=zA hb8
  clear hb8 hg8 hg9 hown8 hb7 qE
  refine hK.out _ _ (fun _=>HH8.out) (fun _=>?_)
  clear hK K
  try simp only[zN]
  refine t1 5 rfl (fun K hK=>?_)
  have y8:=HXW.out w8 HH8.out
  have d0:=cc 0 y8
  have fz:=zB y8 0
  have HY8:=zA y8
  clear y8
  go_simp
  refine hK.out _ _ (fun h=>absurd rfl h) (fun _=>?_)
  clear hK K
  try simp only[zN]
  refine wd ?_
  have hx9:=zG (j:=0) HY8.out (.slice ao8 (l.length+1) cap8)
  have qY:=HO8.out.keep (w':=w8.setCell ⟨c,0,none⟩ (.slice ao8 (l.length+1) cap8)) (fun g hg=>Below.heap_setCell _ _ _ _ (fun e=>by
   obtain⟨cs,hcs⟩:=zK HO8.out hg
   rw[show g=c from e,HY8.out]at hcs;exact zI (by decide) hcs))
  have hb9:=zP HB8.out HC.out 0 (.slice ao8 (l.length+1) cap8)
  have hk9:Kept c w (w8.setCell ⟨c,0,none⟩ (.slice ao8 (l.length+1) cap8)):=fun g x hg hne hx=>by
   have hlt:=(gsi.1 hg).1
   refine(Below.heap_setCell _ _ _ _ hne).trans ((HH8.out.same g (Nat.lt_of_lt_of_le hlt HB.out.size) (fun e=>?_)).trans (HB.out.block g hlt))
   obtain⟨cs,hcs⟩:=zK HM0.out e
   rw[hg]at hcs;injection hcs with hcs;exact hx _ _ hcs
  have HX9:=zA (show(w8.setCell ⟨c,0,none⟩ (.slice ao8 (l.length+1) cap8)).heap[c]?=some (.cells #[.slice ao8 (l.length+1) cap8] 97 (0,0))from hx9.trans (by simp))
  have HO9:=zA qY
  have HB9:=zA hb9
  have HK9:=zA hk9
  clear hx9 qY hb9 hk9 d0 fz
  go_wp2_with fail
  go_ret
  exact⟨rfl,⟨_,HX9.out,HO9.out⟩,HB9.out,HK9.out⟩
theorem sV (b ms mh:Nat) (l0:List ((Nat×Nat)×Value)) (es:List Pl.Ev) (clock:Int) (vs:Value) (O:Nat→Nat→Bool) (U:Nat→Nat) (M:List (Nat×Nat)) (w:World) (h:BkC w b ms mh l0 (heldL es) clock) (hs:SetV w vs O U M) (hes:es.length<768) (hok:∀e∈es,e.Ok) :
  Calls prog 203 #[Qp b,vs,.int .i64 768] w fun r w'=>∃v l,r=.returned v∧l.Perm (es.filter (fun e=> !O e.at.1 e.at.2))∧OwnR kEv w.heap.size w' v l∧Below w.heap.size w w':=by
 have HS:=zA hs
 obtain⟨m,rfl,hd,hcl⟩:=hs
 obtain⟨ao,cap,rfl,_⟩:=hd.toC
 have hlt:=h.lt
 have b1:=bn w (.cells (Qu U ao M.length cap) 60)
 have b2:=b1.alloc b1.size (.cells (Qo 768) 3)
 have b3:=b2.alloc b2.size (.cells #[.slice none 0 0] 97)
 have b4:=b3.alloc b3.size (.map #[] 0)
 have b5:=b4.alloc b4.size (.cells #[.map (some (w.heap.size+1+1+1))] 182)
 have x1:=heap_alloc_new w (.cells (Qu U ao M.length cap) 60)
 have x2:=heap_alloc_new (w.alloc (.cells (Qu U ao M.length cap) 60)) (.cells (Qo 768) 3)
 have x3:=heap_alloc_new ((w.alloc (.cells (Qu U ao M.length cap) 60)).alloc (.cells (Qo 768) 3)) (.cells #[.slice none 0 0] 97)
 have x4:=rQ (((w.alloc (.cells (Qu U ao M.length cap) 60)).alloc (.cells (Qo 768) 3)).alloc (.cells #[.slice none 0 0] 97))
 have x5:=heap_alloc_new ((((w.alloc (.cells (Qu U ao M.length cap) 60)).alloc (.cells (Qo 768) 3)).alloc (.cells #[.slice none 0 0] 97)).alloc (.map #[] 0)) (.cells #[.map (some (w.heap.size+1+1+1))] 182)
 simp only[zE]at x2 x3 x4 x5
 have n1:=fun (W:World) (o:Obj)=>bn W o
 have y1:=fun {g:Nat} {x:Obj} (W:World) (o:Obj) (hg:W.heap[g]?=some x)=>((n1 W o).block g (gsi.1 hg).1).trans hg
 have z1:=y1 _ (.cells #[.map (some (w.heap.size+1+1+1))] 182) (y1 _ (.map #[] 0) (y1 _ (.cells #[.slice none 0 0] 97) (y1 _ (.cells (Qo 768) 3) x1)))
 have z2:=y1 _ (.cells #[.map (some (w.heap.size+1+1+1))] 182) (y1 _ (.map #[] 0) (y1 _ (.cells #[.slice none 0 0] 97) x2))
 have z3:=y1 _ (.cells #[.map (some (w.heap.size+1+1+1))] 182) (y1 _ (.map #[] 0) x3)
 have z4:=x4.below (n1 _ (.cells #[.map (some (w.heap.size+1+1+1))] 182))
 have HB:=zA b5
 have HQ:=zA z2
 have HC:=zA z3
 have HKN:=zA (show KnAt (w.heap.size+1+1+1+1) (w.heap.size+1+1+1) [] (((((w.alloc (.cells (Qu U ao M.length cap) 60)).alloc (.cells (Qo 768) 3)).alloc (.cells #[.slice none 0 0] 97)).alloc (.map #[] 0)).alloc (.cells #[.map (some (w.heap.size+1+1+1))] 182))from⟨x5,z4⟩)
 have HBK:=zA (h.below b5)
 have HLT:=zA hlt
 have HOK:=zA hok
 have HES:=zA hes
 have HLIST:=zA (list_ok _ O U M (((((w.alloc (.cells (Qu U ao M.length cap) 60)).alloc (.cells (Qo 768) 3)).alloc (.cells #[.slice none 0 0] 97)).alloc (.map #[] 0)).alloc (.cells #[.map (some (w.heap.size+1+1+1))] 182)) (HS.out.below b5))
 have pS:=zA hcl.fit
 have mk:∀w,Sem.run prog (Instr.makeMap 182 none) w=.ok (.map (some w.heap.size)) (w.alloc (.map #[] 0)):=fun _=>by kernel_rfl
 have c0:=cc 0 z1
 have c1:=cc 1 z1
 have c2:=cc 2 z1
 have c3:=cc 3 z1
 have c4:=cc 4 z1
 have c5:=cc 5 z1
 have c6:=cc 6 z1
 have c7:=cc 7 z1
 have c8:=cc 8 z1
 clear hd hcl hlt b1 b2 b3 b4 b5 x1 x2 x3 x4 x5 n1 y1 z1 z2 z3 z4 h hok hes
 go_enter func203,ntmps203
 go_wp2_with fail
 generalize (((((w.alloc (.cells (Qu U ao M.length cap) 60)).alloc (.cells (Qo 768) 3)).alloc (.cells #[.slice none 0 0] 97)).alloc (.map #[] 0)).alloc (.cells #[.map (some (w.heap.size+1+1+1))] 182))=W at *
 refine HLIST.out.mono ?_
 rintro x w1 ⟨v1,rfl,hown1,b1⟩
 have hdl:(Pl.dots O).length≤1000:=by
  have:=Pl.ahead_len O pS.out 8 0
  rw[Pl.ahead_end]at this
  omega
 have hnd:(Pl.dots O).Nodup:=(Pl.dots_pw O).imp (fun {a b} hab e=>by subst e;unfold Pl.Before at hab;omega)
 have HND:=zA hnd
 have HDL:=zA hdl
 have HB1:=zA (HB.out.trans (b1.mono HB.out.size))
 have HQ1:=zA ((b1.block _ (gsi.1 HQ.out).1).trans HQ.out)
 have HC1:=zA ((b1.block _ (gsi.1 HC.out).1).trans HC.out)
 have HKN1:=zA (HKN.out.below b1)
 have HBK1:=zA (HBK.out.below b1)
 have qF:=zA (sA.2 hown1.toT)
 clear c0 c1 c2 c3 c4 c5 c6 c7 c8 b1 hown1 hnd hdl HLIST HQ HC HKN HBK
 go_wp2_with fail
 have hkm:=HKN1.out.2.lt
 refine(beach_cb v1 280 #[Qp (w.heap.size+1+1+1+1)] (Pl.dots O) (fun i W=>KnAt (w.heap.size+1+1+1+1) (w.heap.size+1+1+1) ((Pl.dots O).take i) W∧Off (· = w.heap.size+1+1+1) w1 W) w1 ⟨HKN1.out,Off.refl _ _⟩ (by have:=HDL.out;omega)
  (fun i W hI=>(qF.out.keep (fun g cs fr hg=>hI.2.same g (gsi.1 hg).1 (fun e=>HKN1.out.2.cells_ne hg e))).toC)
  (fun i W W' hI hb=>⟨hI.1.below hb,hI.2.trans (Off.of_below hb)⟩) (fun x W=>by kernel_rfl) (fun i hi W hI=>?_)).mono ?_
 ·have htk:(Pl.dots O).take (i+1)=(Pl.dots O).take i++[(Pl.dots O)[i]]:=List.take_succ_eq_append_getElem hi
  have pV:((Pl.dots O)[i].1,(Pl.dots O)[i].2)∉(Pl.dots O).take i:=fun hm=>by
   have h1:=HND.out.sublist (List.take_sublist (i+1) (Pl.dots O))
   rw[htk,List.nodup_append]at h1
   exact h1.2.2 _ hm _ (List.mem_singleton.2 rfl) rfl
  refine(known1_ok (w.heap.size+1+1+1+1) (w.heap.size+1+1+1) _ _ _ W hI.1 pV).mono ?_
  rintro r w' ⟨rfl,i1,i2⟩
  exact⟨rfl,by rw[htk];exact i1,hI.2.trans i2⟩
 ·rintro x w2 ⟨rfl,hkn,qZ⟩
  rw[List.take_length]at hkn
  have hb2:=qZ.since HB1.out (fun g hg=>by rw[show g=w.heap.size+1+1+1 from hg];omega)
  have hq2:=(qZ.same _ (gsi.1 HQ1.out).1 (fun e=>by have:w.heap.size+1=w.heap.size+1+1+1:=e;omega)).trans HQ1.out
  have hc2:=(qZ.same _ (gsi.1 HC1.out).1 (fun e=>by have:w.heap.size+1+1=w.heap.size+1+1+1:=e;omega)).trans HC1.out
  have hbk2:=HBK1.out.keep (w':=w2) (fun g hg=>qZ.same g (by have:=HBK1.out.lt;rcases hg with rfl | rfl | rfl<;>omega) (fun e=>by
   have e':g=w.heap.size+1+1+1:=e
   have:=HLT.out
   rcases hg with rfl | rfl | rfl<;>omega))
  have HKN2:=zA hkn
  have HB2:=zA hb2
  have HQ2:=zA hq2
  have HC2:=zA hc2
  have HBK2:=zA hbk2
  clear hkn qZ hb2 hq2 hc2 hbk2 hkm
  go_wp2_with fail
  refine(sC b ms mh 281 #[Qp (w.heap.size+1+1),Qp (w.heap.size+1),Qp (w.heap.size+1+1+1+1)] l0 es clock (fun l W=>EsAt w.heap.size (w.heap.size+1+1) (l.filter (fun e=> !O e.at.1 e.at.2)) W∧BkC W b ms mh l0 (heldL es) clock∧Below w.heap.size w W∧W.heap[w.heap.size+1]?=some (.cells (Qo 768) 3 (0,0))∧KnAt (w.heap.size+1+1+1+1) (w.heap.size+1+1+1) (Pl.dots O) W) w2 HBK2.out (by have:=HES.out;omega) HOK.out
   (fun W hW=>⟨⟨_,(hW.block _ (gsi.1 HC2.out).1).trans HC2.out,yH _ _ _⟩,HBK2.out.below hW,HB2.out.trans (hW.mono HB2.out.size),(hW.block _ (gsi.1 HQ2.out).1).trans HQ2.out,HKN2.out.below hW⟩)
   (fun l W W' hI hb=>⟨hI.1.below hb,hI.2.1.below hb,hI.2.2.1.trans (hb.mono hI.2.2.1.size),(hb.block _ (gsi.1 hI.2.2.2.1).1).trans hI.2.2.2.1,hI.2.2.2.2.below hb⟩)
   (fun l W hI=>hI.2.1) (fun x W=>by kernel_rfl)
   (fun l e W he hI hl=>?_)).mono ?_
  ·refine(bnew2_ok w.heap.size (w.heap.size+1+1) (w.heap.size+1) (w.heap.size+1+1+1+1) (w.heap.size+1+1+1) e _ (Pl.dots O) W hI.1 hI.2.2.2.1 hI.2.2.2.2 (by omega) (by
    have h1:=List.length_filter_le (fun e:Pl.Ev=> !O e.at.1 e.at.2) l
    have:=HES.out
    omega) (HOK.out e he).dot).mono ?_
   rintro r w' ⟨rfl,i1,i2,i3⟩
   have hkq:w.heap.size+1≠w.heap.size+1+1:=by omega
   have hkk:w.heap.size+1+1+1+1≠w.heap.size+1+1:=by omega
   have hmm:w.heap.size+1+1+1≠w.heap.size+1+1:=by omega
   refine⟨rfl,⟨?_,i3.bk hI.2.1 (fun g hg=>by have:=HLT.out;rcases hg with rfl | rfl | rfl<;>omega),hI.2.2.1.trans i2,(i3 _ _ hI.2.2.2.1 hkq (fun cs fr e=>by injection e with _ e2;exact absurd e2 (by decide))).trans hI.2.2.2.1,(i3 _ _ hI.2.2.2.2.1 hkk (fun cs fr e=>by injection e with _ e2;exact absurd e2 (by decide))).trans hI.2.2.2.2.1,?_⟩,i3.dots ?_⟩
   ·rw[List.filter_append]
    have pB:e.at∈Pl.dots O↔O e.at.1 e.at.2=true:=Pl.mem_dots pS.out e.at.1 e.at.2
    by_cases hin:e.at∈Pl.dots O
    ·rw[if_pos hin]at i1
     simpa[pB.1 hin]using i1
    ·rw[if_neg hin]at i1
     have:O e.at.1 e.at.2=false:=by
      cases hO:O e.at.1 e.at.2 with
      | false=>rfl
      | true=>exact absurd (pB.2 hO) hin
     simpa[this]using i1
   ·obtain⟨es',c',hm',_⟩:=id hI.2.2.2.2.2
    exact hI.2.2.2.2.2.keep (i3 _ _ hm' hmm (fun cs fr e=>by cases e))
   ·obtain⟨m,hm,_⟩:=hI.1
    exact⟨m,hm⟩
  ·rintro x w3 ⟨rfl,l,hp,hpw,⟨m,hm,rX⟩,_,hb,_⟩
   obtain⟨ao3,cap3,rfl⟩:=rX.toT.form
   have c0:=cc 0 hm
   have fz:=zB hm 0
   have HM:=zA hm
   have HO:=zA rX
   have HB3:=zA hb
   have HP:=zA (hp.filter (fun e:Pl.Ev=> !O e.at.1 e.at.2))
   clear hm rX hb hp hpw
   generalize l.filter (fun e=> !O e.at.1 e.at.2)=lf at *
   go_wp2_with fail
   rw[zL HM.out (j:=0) (v:=.slice ao3 lf.length cap3) rfl]
   exact bodyPost_ret (v:=.slice ao3 lf.length cap3) (by simp[results,results203,go_sem,c0]) rfl ⟨_,lf,rfl,HP.out,HO.out,HB3.out⟩
theorem blen64_1 (w:World):Calls prog 364 #[.int .u64 1] w fun r w'=>r=.returned (.int .i64 1)∧w=w':=by
 go_enter func364,ntmps364
 go_wp2_with fail
 go_ret
 exact⟨by kernel_rfl,rfl⟩
theorem blen1 (w:World):Calls prog 319 #[.int .u64 1] w fun r w'=>r=.returned (.int .i64 1)∧w=w':=by
 go_enter func319,ntmps319
 go_wp2_with fail
 refine(blen64_1 w).mono ?_
 rintro x w1 ⟨rfl,rfl⟩
 go_wp2_with fail
 go_ret
 exact⟨rfl,rfl⟩
theorem ins1 (sl:Value) (w:World):Calls prog 394 #[sl,.int .i64 0,.int .i64 1] w fun r w'=>r=.returned (.tuple #[])∧w=w':=by
 go_enter func394,ntmps394
 go_wp2_with fail
 refine wp_loop_rounds 1 ?_
 rw[rounds_succ]
 go_wp2_with fail
 exact yD results394 ⟨rfl,rfl⟩
theorem pdq1 (sl:Value) (n:Int) (w:World):Calls prog 374 #[sl,.int .i64 0,.int .i64 1,.int .i64 n] w fun r w'=>r=.returned (.tuple #[])∧w=w':=by
 go_enter func374,ntmps374
 go_wp2_with fail
 refine wp_loop_rounds 1 ?_
 rw[rounds_succ]
 go_wp2_with fail
 refine(ins1 _ _).mono ?_
 rintro x w1 ⟨rfl,rfl⟩
 go_wp2_with fail
 exact bodyPost_ret (v:=.tuple #[]) (results_none results374 _ _ _) rfl ⟨rfl,rfl⟩
theorem sort1 (ao:Option Addr) (cap:Nat) (w:World):Calls prog 340 #[.slice ao 1 cap] w fun r w'=>r=.returned (.tuple #[])∧w=w':=by
 go_enter func340,ntmps340
 go_wp2_with fail
 refine(blen1 w).mono ?_
 rintro x w1 ⟨rfl,rfl⟩
 go_wp2_with fail
 refine(pdq1 _ _ _).mono ?_
 rintro x w1 ⟨rfl,rfl⟩
 go_wp2_with fail
 exact yD results340 ⟨rfl,rfl⟩
theorem compact1 (ao:Option Addr) (cap:Nat) (w:World):Calls prog 341 #[.slice ao 1 cap] w fun r w'=>r=.returned (.slice ao 1 cap)∧w=w':=by
 go_enter func341,ntmps341
 go_wp2_with fail
 go_ret
 exact⟨rfl,rfl⟩
theorem own_one {w:World} {base:Nat} {v:Value} {x:Int} (h:OwnR kInt base w v [x]):∃g cp,v=.slice (some ⟨g,0,none⟩) 1 cp∧1≤cp∧cp≤maxLen:=by
 rcases h.2 with⟨_,h0⟩ | ⟨g,cap,cur,rfl,_,_,h1,h2,_,_⟩
 ·simp at h0
 ·exact⟨g,cap,rfl,h1,h2⟩
theorem shuf1 (v f:Value) (x:Int) (w:World) (h:RowC kInt w v [x]) :
  Calls prog 299 #[v,f] w fun r w'=>∃v',r=.returned v'∧OwnR kInt w.heap.size w' v' [x]∧Below w.heap.size w w':=by
 have HC:=zA (vR v [x] w h (by simp))
 clear h
 go_enter func299,ntmps299
 go_wp2_with fail
 refine HC.out.mono ?_
 rintro r w1 ⟨v1,rfl,ho,hb⟩
 obtain⟨g,cp,rfl,_,_⟩:=own_one ho
 have HO:=zA ho
 have HB:=zA hb
 clear ho hb HC
 go_wp2_with fail
 refine(sort1 _ _ w1).mono ?_
 rintro r w2 ⟨rfl,rfl⟩
 go_wp2_with fail
 refine(compact1 _ _ w1).mono ?_
 rintro r w2 ⟨rfl,rfl⟩
 go_wp2_with fail
 refine wp_loop_rounds 1 ?_
 rw[rounds_succ]
 go_wp2_with fail
 go_ret
 exact⟨_,rfl,HO.out,HB.out⟩
theorem some1 (o:Addr) (v:Value) (x:Int) (w:World) (h:RowC kInt w v [x]) :
  Calls prog 230 #[.pointer (some o),v,.int .i64 1] w fun r w'=>∃v',r=.returned v'∧RowC kInt w' v' [x]∧Below w.heap.size w w':=by
 have hw:Pl.within 1 0 1=1:=by decide
 have hmf:∀(fn:Fn) (first cap:Array Value) (w:World),(Instr.makeFunc fn first cap).run prog w=.ok (.func fn first cap) w:=fun _ _ _ _=>rfl
 have hne:∀w,(binOp BinOp.eql 205 (.pointer (some o)) (.pointer none)).run prog w=.ok (.bool false) w:=fun _=>rfl
 have HC:=zA (fun f=>shuf1 v f x w h)
 clear h
 go_enter func230,ntmps230
 go_wp2_with fail
 refine(HC.out _).mono ?_
 rintro r w1 ⟨v1,rfl,ho,hb⟩
 have HO:=zA ho
 have HB:=zA hb
 obtain⟨g,cp,rfl,h1,h2⟩:=own_one ho
 clear ho hb HC
 go_wp2_with fail
 refine(within_any _ _ _ _).mono ?_
 rintro r w2 ⟨rfl,rfl⟩
 rw[hw]
 go_wp2_with fail
 go_ret
 exact⟨_,rfl,HO.out.toT.toC,HB.out⟩
theorem sT (n:Int) (w:World):Calls prog 229 (Qo n) w fun r w'=>r=.returned (.bool (Pl.inside n 0 7))∧w=w':=by
 go_enter func229,ntmps229
 go_wp2_with fail
 refine(within_any _ _ _ _).mono ?_
 rintro r w2 ⟨rfl,rfl⟩
 go_wp2_with fail
 go_ret
 exact⟨by rw[←Pl.inside_eq];rfl,rfl⟩
theorem idx1 (v:Value) (f:Nat) (cb:Array Value) (x:Int) (w:World) (h:RowC kInt w v [x])
  (hcf:∀(x:Value) (W:World),Sem.run prog (callFunc f (#[x]++cb)) W=.ok (.enter f (#[x]++cb)) W)
  (hC:Calls prog f (#[.int .i64 x]++cb) w fun r w'=>r=.returned (.bool false)∧Below w.heap.size w w') :
  Calls prog 298 #[v,.func (.func f) #[] cb] w fun r w'=>r=.returned (.int .i64 (-1))∧Below w.heap.size w w':=by
 obtain⟨g,off,cap,rfl,hg,hc⟩:=h.cell (i:=0) (by simp)
 have c0:w.cell? ⟨g,off,none⟩=some (.int .i64 x):=by have:=hc 0 (.int .i64 x) rfl;simpa using this
 have HCC:=zA hC
 have HCF:=zA hcf
 clear h hc hC hcf
 go_enter func298,ntmps298
 go_wp2_with fail
 refine wp_loop_rounds 2 ?_
 rw[rounds_succ]
 have hcf:=HCF.out
 go_wp2_with fail
 refine HCC.out.mono ?_
 rintro r w1 ⟨rfl,hb⟩
 have HB:=zA hb
 clear hb HCC
 go_wp2_with fail
 rw[rounds_succ]
 go_wp2_with fail
 go_ret
 exact⟨rfl,HB.out⟩
theorem del1 (v:Value) (f:Nat) (cb:Array Value) (x:Int) (w:World) (h:RowC kInt w v [x])
  (hcf:∀(x:Value) (W:World),Sem.run prog (callFunc f (#[x]++cb)) W=.ok (.enter f (#[x]++cb)) W)
  (hC:Calls prog f (#[.int .i64 x]++cb) w fun r w'=>r=.returned (.bool false)∧Below w.heap.size w w') :
  Calls prog 226 #[v,.func (.func f) #[] cb] w fun r w'=>r=.returned v∧Below w.heap.size w w':=by
 have HC:=zA (idx1 v f cb x w h hcf hC)
 obtain⟨ao,cap,rfl⟩:=h.form
 clear h hcf hC
 go_enter func226,ntmps226
 go_wp2_with fail
 refine HC.out.mono ?_
 rintro r w1 ⟨rfl,hb⟩
 have HB:=zA hb
 clear hb HC
 go_wp2_with fail
 go_ret
 exact⟨rfl,HB.out⟩
structure GoAt (w:World) (g o b ms mh n mtu:Nat) (es:List Pl.Ev) (clock:Int):Prop where
 gs:w.heap[g]?=some (.cells #[.int .i64 n,.int .i64 mtu,Qp o,Qp b] 218 (0,0))
 bk:BkC w b ms mh (seenL es) (heldL es) clock
 ok:∀e∈es,e.Ok
 len:es.length<768
 n8:n<8
theorem GoAt.below {w w':World} {g o b ms mh n mtu:Nat} {es:List Pl.Ev} {clock:Int} (h:GoAt w g o b ms mh n mtu es clock) (hb:Below w.heap.size w w'):GoAt w' g o b ms mh n mtu es clock:=
 ⟨zC h.gs hb,h.bk.below hb,h.ok,h.len,h.n8⟩
theorem seenL_may {es:List Pl.Ev} (h:∀e∈es,e.Ok):∀p∈seenL es,p.1.1<8∧1≤p.1.2∧p.1.2≤96:=fun p hp=>by
 obtain⟨e,he,rfl⟩:=List.mem_map.1 hp
 obtain⟨n,s,hd⟩:=(h e he).dot
 dsimp only
 rw[hd.key]
 exact⟨hd.n8,hd.s1,hd.s96⟩
def Holds (O:Nat→Nat→Bool) (es:List Pl.Ev):Prop:=∀a s,O a s=true↔∃e∈es,e.at=(a,s)
theorem holds_seen {O:Nat→Nat→Bool} {es:List Pl.Ev} (h:∀n s,O n s=true↔∃p∈seenL es,p.1=(n,s)):Holds O es:=fun a s=>(h a s).trans
 ⟨fun ⟨p,hp,e⟩=>by obtain⟨x,hx,rfl⟩:=List.mem_map.1 hp;exact⟨x,hx,e⟩,fun ⟨x,hx,e⟩=>⟨_,List.mem_map.2 ⟨x,hx,rfl⟩,e⟩⟩
theorem tX (g o b ms mh n mtu:Nat) (es:List Pl.Ev) (clock:Int) (w:World) (h:GoAt w g o b ms mh n mtu es clock) :
  Calls prog 45 #[Qp b] w fun r w'=>∃O U M ao cap,r=.returned (.agg (Qu U ao M.length cap))∧SetV w' (.agg (Qu U ao M.length cap)) O U M∧Holds O es∧Below w.heap.size w w':=
 (bseen_ok b ms mh (seenL es) (heldL es) clock w h.bk (seenL_may h.ok)).mono (by
  rintro r w' ⟨v,O,U,M,rfl,hv,hO,hb⟩
  obtain⟨m,rfl,hm,hc⟩:=id hv
  obtain⟨ao,cap,rfl,_⟩:=id hm
  exact⟨O,U,M,ao,cap,rfl,hv,holds_seen hO,hb⟩)
theorem sU (g o b ms mh n mtu to q:Nat) (es:List Pl.Ev) (clock:Int) (w:World) (h:GoAt w g o b ms mh n mtu es clock) :
  Calls prog 204 #[Qp g,.int .i64 to,.int .i64 q] w fun r w'=>∃O U M ao cap,r=.returned (.agg (Qsu 4 (n:Int) (to:Int) (q:Int) U (.slice ao M.length cap)))∧SetV w' (.agg (Qu U ao M.length cap)) O U M∧Holds O es∧Below w.heap.size w w':=by
 have b1:=bn w (.cells Qnn 115)
 have h1:=h.below b1
 have HX:=zA (heap_alloc_new w (.cells Qnn 115))
 have HB:=zA b1
 have HS:=zA (tX g o b ms mh n mtu es clock _ h1)
 have HG:=zA h1.gs
 have hg:=h1.gs
 clear h h1 b1
 have d3:=cc 3 hg
 clear hg
 go_enter func204,ntmps204
 go_wp2_with fail
 generalize w.alloc (.cells Qnn 115)=W at *
 refine HS.out.mono ?_
 rintro r w1 ⟨O,U,M,ao,cap,rfl,hv,hO,hb⟩
 have HB1:=zA (HB.out.trans (hb.mono HB.out.size))
 have HBN:=zA (bn w1 (.cells (Qu U ao M.length cap) 60))
 have HX2:=zA (zC (zC HX.out hb) HBN.out)
 have HG2:=zA (zC (zC HG.out hb) HBN.out)
 have HS2:=zA (heap_alloc_new w1 (.cells (Qu U ao M.length cap) 60))
 have HV:=zA hv
 have HO:=zA hO
 clear hv hO hb d3 HX HG HS
 go_wp2_with (refine zJ rfl 60 (.tmp 7) (.tmp 12) (Qv 0 0 0 0 0 0 0 0) (Qu U ao M.length cap) rfl rfl _ rfl rfl rfl (by kernel_rfl) rfl (by kernel_rfl) rfl ?_)
 generalize w1.alloc (.cells (Qu U ao M.length cap) 60)=w2 at *
 refine zD (fun W'=>W'.heap[g]?=some (.cells #[.int .i64 n,.int .i64 mtu,Qp o,Qp b] 218 (0,0))∧W'.heap[w1.heap.size]?=some (.cells (Qu U ao M.length cap) 60 (0,0))) 11 (by kernel_rfl) ⟨HG2.out,HS2.out⟩ (fun rV=>?_)
 refine tkp 0 13 rfl ?_
 refine tkp 1 14 rfl ?_
 refine tkp 2 15 rfl ?_
 refine tk 3 16 rfl (by intro wS hSw;obtain⟨x,y⟩:=id hSw;have q0:=cc 0 x;have p0:=cc 0 y;have p1:=cc 1 y;have p2:=cc 2 y;have p3:=cc 3 y;have p4:=cc 4 y;have p5:=cc 5 y;have p6:=cc 6 y;have p7:=cc 7 y;have p8:=cc 8 y;clear hSw;go_simp;(try with_reducible rfl)) ?_
 refine tkp 4 17 rfl ?_
 refine tkp 5 18 rfl ?_
 refine tkp 6 19 rfl ?_
 refine tk 7 20 rfl (by intro wS hSw;obtain⟨x,y⟩:=id hSw;have q0:=cc 0 x;have p0:=cc 0 y;have p1:=cc 1 y;have p2:=cc 2 y;have p3:=cc 3 y;have p4:=cc 4 y;have p5:=cc 5 y;have p6:=cc 6 y;have p7:=cc 7 y;have p8:=cc 8 y;clear hSw;go_simp;(try with_reducible rfl)) ?_
 refine tkp 8 21 rfl ?_
 refine tk 9 22 rfl (by intro wS hSw;obtain⟨x,y⟩:=id hSw;have q0:=cc 0 x;have p0:=cc 0 y;have p1:=cc 1 y;have p2:=cc 2 y;have p3:=cc 3 y;have p4:=cc 4 y;have p5:=cc 5 y;have p6:=cc 6 y;have p7:=cc 7 y;have p8:=cc 8 y;clear hSw;go_simp;(try with_reducible rfl)) ?_
 refine tkp 10 23 rfl ?_
 refine t1 11 rfl (fun K hK=>?_)
 rw[if_pos (by rfl)]
 refine yG 115 (.tmp 6) (.tmp 23) w.heap.size rfl rfl rfl rfl (show w2.drew.heap[w.heap.size]?=_ from HX2.out) (by kernel_rfl) rfl (by kernel_rfl) ?_
 refine hK.out _ _ (fun h=>absurd rfl h) (fun _=>?_)
 clear hK K
 try simp only[pt,List.set]
 refine wd ?_
 have hb2:Below w.heap.size w (w2.drew.setRow w.heap.size (Qsu 4 (n:Int) (to:Int) (q:Int) U (.slice ao M.length cap))):=yE (HB1.out.trans ((HBN.out.trans (Below.refl _ _).drew).mono HB1.out.size)) (Nat.le_refl _) _
 have hx2:=yL (show w2.drew.heap[w.heap.size]?=_ from HX2.out) (Qsu 4 (n:Int) (to:Int) (q:Int) U (.slice ao M.length cap))
 have hv2:SetV (w2.drew.setRow w.heap.size (Qsu 4 (n:Int) (to:Int) (q:Int) U (.slice ao M.length cap))) (.agg (Qu U ao M.length cap)) O U M:=(HV.out.below HBN.out).keep (fun k cs fr hk=>(yK _ _ _ _ (fun e=>by rw[e,HX2.out]at hk;exact zI (by decide) hk)))
 have HB3:=zA hb2
 have HX3:=zA hx2
 have HV3:=zA hv2
 clear hb2 hx2 hv2 rV
 generalize w2.drew.setRow w.heap.size (Qsu 4 (n:Int) (to:Int) (q:Int) U (.slice ao M.length cap))=w3 at *
 have m0:=cc 0 HX3.out
 have m1:=cc 1 HX3.out
 have m2:=cc 2 HX3.out
 have m3:=cc 3 HX3.out
 have m4:=cc 4 HX3.out
 have m5:=cc 5 HX3.out
 have m6:=cc 6 HX3.out
 have m7:=cc 7 HX3.out
 have m8:=cc 8 HX3.out
 have m9:=cc 9 HX3.out
 have m10:=cc 10 HX3.out
 have m11:=cc 11 HX3.out
 have m12:=cc 12 HX3.out
 have m13:=cc 13 HX3.out
 have m14:=cc 14 HX3.out
 have m15:=cc 15 HX3.out
 go_wp2_with fail
 exact bodyPost_ret (v:=.agg (Qsu 4 (n:Int) (to:Int) (q:Int) U (.slice ao M.length cap))) (by simp[results,results204,go_sem,m0,m1,m2,m3,m4,m5,m6,m7,m8,m9,m10,m11,m12,m13,m14,m15]) rfl ⟨O,U,M,ao,cap,rfl,HV3.out,HO.out,HB3.out⟩
theorem tick1_ok (g o b n mtu x t:Nat) (w:World) (hg:w.heap[g]?=some (.cells #[.int .i64 n,.int .i64 mtu,Qp o,Qp b] 218 (0,0))) (ht:w.heap[t]?=some (.cells #[Qp g] 104 (0,0))) (hx:x<8) (hne:x≠n) :
  Calls prog 228 #[.int .i64 x,Qp t] w fun r w'=>r=.returned (.bool false)∧Below w.heap.size w w':=by
 have g0:=cc 0 hg
 have t0:=cc 0 ht
 have hi:Pl.inside (x:Int) 0 7=true:=zM (by omega) (by omega)
 have e0:((x:Int) == (n:Int))=false:=by simp;omega
 clear hg ht
 go_enter func228,ntmps228
 go_wp2_with fail
 refine(sT _ _).mono ?_
 rintro r w1 ⟨rfl,rfl⟩
 rw[hi]
 go_wp2_with fail
 go_ret
 exact⟨rfl,Below.refl _ _⟩
theorem tick_ok (g o b ms mh n mtu:Nat) (to:Nat) (v:Value) (es:List Pl.Ev) (clock:Int) (w:World) (h:GoAt w g o b ms mh n mtu es clock) (hr:RowC kInt w v [(to:Int)]) (ht:to<8) (hne:to≠n) :
  Calls prog 132 #[Qp g,v] w fun r w'=>∃v' O U M ao cap,r=.returned v'∧OwnR kMsg w.heap.size w' v' [dgq n to 0 U (ao,M.length,cap)]∧SetV w' (.agg (Qu U ao M.length cap)) O U M∧Holds O es∧Below w.heap.size w w':=by
 have b1:=bn w (.cells #[Qp g] 104)
 have hx:=heap_alloc_new w (.cells #[Qp g] 104)
 have HX:=zA hx
 have HB:=zA b1
 have HG:=zA (fun (W:World) (hW:Below w.heap.size w W)=>h.below hW)
 have HR:=zA (vR v _ _ (hr.below b1) (by simp))
 have HT:=zA (And.intro ht hne)
 have c0:=cc 0 hx
 have hmf:∀(fn:Fn) (first cap:Array Value) (w:World),(Instr.makeFunc fn first cap).run prog w=.ok (.func fn first cap) w:=fun _ _ _ _=>rfl
 clear b1 hx h hr ht hne
 go_enter func132,ntmps132
 go_wp2_with fail
 clear c0
 generalize w.alloc (.cells #[Qp g] 104)=W at *
 refine HR.out.mono ?_
 rintro r w1 ⟨v1,rfl,ho1,hb1⟩
 have HB1:=zA (HB.out.trans (hb1.mono HB.out.size))
 have HX1:=zA (zC HX.out hb1)
 have HR1:=zA ho1.toT.toC
 clear ho1 hb1 HX HB HR
 go_wp2_with fail
 refine(del1 v1 228 #[Qp w.heap.size] (to:Int) w1 HR1.out (fun _ _=>rfl) (tick1_ok g o b n mtu to w.heap.size w1 (HG.out w1 HB1.out).gs HX1.out HT.out.1 HT.out.2)).mono ?_
 rintro r w2 ⟨rfl,hb2⟩
 have HB2:=zA (HB1.out.trans (hb2.mono HB1.out.size))
 have hx2:=zC HX1.out hb2
 have HX2:=zA hx2
 have HR2:=zA (HR1.out.below hb2)
 have hg2:=(HG.out w2 HB2.out).gs
 have c0:=cc 0 hx2
 have g2:=cc 2 hg2
 clear hb2 hx2 hg2 HB1 HX1 HR1 hmf
 go_wp2_with fail
 refine(some1 ⟨o,0,none⟩ v1 (to:Int) w2 HR2.out).mono ?_
 rintro r w3 ⟨v3,rfl,hr3,hb3⟩
 have HB3:=zA (HB2.out.trans (hb3.mono HB2.out.size))
 have hx3:=zC HX2.out hb3
 obtain⟨ga,off,cap3,rfl,hga,hc⟩:=hr3.cell (i:=0) (by simp)
 have y0:w3.cell? ⟨ga,off,none⟩=some (.int .i64 to):=by have:=hc 0 _ rfl;simpa using this
 clear c0 g2 hb3 hr3 hc HB2 HX2 HR2
 have c0:=cc 0 hx3
 clear hx3
 have HD:=zA (sU g o b ms mh n mtu to 0 es clock w3 (HG.out w3 HB3.out))
 clear HG
 go_wp2_with fail
 refine wp_loop_rounds 2 ?_
 rw[rounds_succ]
 go_wp2_with fail
 clear y0 c0 hga
 refine HD.out.mono ?_
 rintro r w4 ⟨O,U,M,ao2,cap2,rfl,hv,hO,hb⟩
 have b5:=bn w4 (.cells (Qsu 4 (n:Int) (to:Int) 0 U (.slice ao2 M.length cap2)) 115)
 have HB5:=zA (HB3.out.trans ((hb.trans (b5.mono hb.size)).mono HB3.out.size))
 have HV5:=zA (hv.below b5)
 have HO:=zA hO
 have qC:=zA (show RowC kMsg (w4.alloc (.cells (Qsu 4 (n:Int) (to:Int) 0 U (.slice ao2 M.length cap2)) 115)) (.slice (some ⟨w4.heap.size,0,none⟩) 1 1) [dgq n to 0 U (ao2,M.length,cap2)]from yJ kMsg w4 [dgq n to 0 U (ao2,M.length,cap2)] (Qsu 4 (n:Int) (to:Int) 0 U (.slice ao2 M.length cap2)) 1 rfl (by simp[Rk.encs,kMsg,dgq]))
 clear hv hO hb b5 HD HB3
 go_wp2_with (
  at_builtin
  refine yT kMsg rfl (.tmp 25) (.tmp 29) rfl rfl (yH kMsg w.heap.size _) rfl qC.out (by simp) HB5.out HB5.out.size ?_
  intro v6 w6 hown6 hb6 hg6
  have HV6:=zA hown6
  have HB6:=zA hb6
  have HS6:=zA (HV5.out.keep (w':=w6) (fun k cs fr hk=>hg6.block k (gsi.1 hk).1 (fun e=>by cases e)))
  clear hown6 hb6 hg6)
 rw[rounds_succ]
 go_wp2_with fail
 exact bodyPost_ret (v:=v6) (by simp[results,results132,go_sem]) rfl ⟨_,O,U,M,ao2,cap2,rfl,HV6.out,HS6.out,HO.out,HB6.out⟩
end
end Go.Proofs.YtodlmbfbfaofcaaGreat
