/- TopLoads, part 24. -/
import Derived.Test.YtodlmbfbfaofcaaGreatM01
import Derived.Test.YtodlmbfbfaofcaaGreatM03
import Derived.Test.YtodlmbfbfaofcaaGreatM05
import Derived.Test.YtodlmbfbfaofcaaGreatM07
import Derived.Test.YtodlmbfbfaofcaaGreatM23
open Go.Proofs.Tryz
namespace Go.Proofs.YtodlmbfbfaofcaaGreat
set_option linter.unusedVariables false
set_option linter.unusedSimpArgs false
set_option maxRecDepth 100000
set_option maxHeartbeats 1000000
section
open Go.RowKit Rw Rh
theorem DkAt.keepT {F:Nat→Prop} {w w':World} {d:Nat} {size:Int} {bs:List Int} (h:DkAt F w d size bs) (k:∀(g:Nat) (cs:Array Value) (t:TypeId) (fr:Nat×Nat),w.heap[g]?=some (Obj.cells cs t fr)→t≠175→w'.heap[g]?=w.heap[g]?):DkAt F w' d size bs:=by
 obtain⟨h1,v,h2,h3,h4⟩:=h
 obtain⟨cs',h5,_⟩:=id h2
 exact⟨h1,v,World.rowIs.of_block h2 (k d _ _ _ h5 (by decide)),h3.keep (fun g cs fr hg=>k g _ _ _ hg (by decide)),h4⟩
theorem st_push {F:Nat→Prop} {w w':World} {s d:Nat} {size:Int} {bs:List Int} {used upto inc:Int} {v u:Value} {es es':List Pl.Ev} (hF:F s) (hr:w.rowIs s 410 5 (stc d used upto inc v)) (hd:DkAt F w d size bs) (ho:OwnR kEv 0 w v es) (hv:∀g,v.ownBlock=some g→F g)
  (o:Off (fun g=>v.ownBlock=some g) w w') (ho':OwnR kEv 0 w' u es') (hp:∀g,u.ownBlock=some g→v.ownBlock=some g∨w.heap.size≤g) :
  StAt (fun g=>F g∨w.heap.size≤g) (w'.setCell ⟨s,4,none⟩ u) s size bs used upto inc es':=by
 have hk:∀g cs t fr,w.heap[g]?=some (Obj.cells cs t fr)→t≠175→w'.heap[g]?=w.heap[g]?:=fun g cs t fr hg ht=>o.same g (gsi.1 hg).1 (fun e=>by
  obtain⟨cs',h2⟩:=zK ho e
  rw[hg]at h2;exact zI ht h2)
 obtain⟨c,hc,hcs⟩:=hr
 have hc':=(hk s _ _ _ hc (by decide)).trans hc
 have hr':w'.rowIs s 410 5 (stc d used upto inc v):=⟨c,hc',hcs⟩
 have h1:∀i,i<5→(if i=4 then u else stc d used upto inc v i)=stc d used upto inc u i:=fun i hi=>by
  rcases i with _ | _ | _ | _ | _ | i
  ·rfl
  ·rfl
  ·rfl
  ·rfl
  ·rfl
  ·omega
 have h2:s≠d:=fun e=>by
  obtain⟨_,v',⟨c1,hc1,_⟩,_⟩:=hd
  rw[←e,hc]at hc1;exact zI (by decide) hc1
 have h3:∀cs fr,w'.heap[s]?≠some (Obj.cells cs 5 fr):=fun cs fr=>by rw[hc'];exact fun e=>zI (by decide) e
 have h4:OwnR kEv 0 (w'.setCell ⟨s,4,none⟩ u) u es':=ho'.keep (fun g hg=>Below.heap_setCell _ _ _ _ (fun e=>by
  obtain⟨cs,hcs'⟩:=zK ho' hg
  rw[show g=s from e,hc']at hcs';exact zI (by decide) hcs'))
 exact⟨.inl hF,d,u,(hr'.set 4 u).congr h1,((hd.keepT hk).mono (fun g hg=>.inl hg)).set h2 h3 4 u,h4,fun g hg=>(hp g hg).imp (hv g) id⟩
theorem keep_full (F:Nat→Prop) (s:Nat) (size:Int) (bs:List Int) (used upto inc:Int) (es:List Pl.Ev) (e:Pl.Ev) (w:World) (h:StAt F w s size bs used upto inc es) (hin:∀g,F g→g<w.heap.size) (hl:bs.length≤900000) (hs:0≤size) (hs':size≤16384)
  (he:e.Ok) (hne:∀x∈es,(x.node == e.node&&x.seq == e.seq)=false) (hes:es.length≤1000) (hf:size<bs.length+(Pl.frame (3::Pl.vints e.nums)).length) :
  Calls prog 309 #[Qp s,evv e] w fun r w'=>r=.returned (.int .i64 7)∧Below w.heap.size w w':=by
 have b1:=bn w (.cells e 175)
 have b2:=b1.alloc b1.size (.cells (Qo 0) 41)
 have hx1:=heap_alloc_new w (.cells e 175)
 have hx2:=((bn _ (.cells (Qo 0) 41)).block _ (gsi.1 hx1).1).trans hx1
 have hy2:=heap_alloc_new (w.alloc (.cells e 175)) (.cells (Qo 0) 41)
 rw[zE]at hy2
 have hlr:(3::Pl.vints e.nums).length≤4096:=by
  have h1:=Pl.vints_len e.nums he.small
  have h2:=he.len
  simp;omega
 have HT:=zA (told3_ok e ((w.alloc (.cells e 175)).alloc (.cells (Qo 0) 41)) he)
 have HW:=zA (fun (W:World) (hW:Below ((w.alloc (.cells e 175)).alloc (.cells (Qo 0) 41)).heap.size ((w.alloc (.cells e 175)).alloc (.cells (Qo 0) 41)) W) (v':Value) (hv':BytesC W v' (3::Pl.vints e.nums))=>vB F s size bs (3::Pl.vints e.nums) used upto inc es v' W ((h.below b2).below hW) hl hs hs' hv' hlr hf)
 have HB:=zA b2
 have HX:=zA hx2
 have HY:=zA hy2
 have HST:=zA (fun (W:World) (hW:Below ((w.alloc (.cells e 175)).alloc (.cells (Qo 0) 41)).heap.size ((w.alloc (.cells e 175)).alloc (.cells (Qo 0) 41)) W)=>(h.below b2).below hW)
 have HNE:=zA hne
 have HES:=zA hes
 have HIN:=zA hin
 have hq:∀w,(binOp BinOp.eql 103 (Qp s) (.pointer none)).run prog w=.ok (.bool false) w:=fun _=>rfl
 have c0:=cc 0 hx2
 have c1:=cc 1 hx2
 have c2:=cc 2 hx2
 have c3:=cc 3 hx2
 have c4:=cc 4 hx2
 have c5:=cc 5 hx2
 have c6:=cc 6 hx2
 have c7:=cc 7 hx2
 have c8:=cc 8 hx2
 have c9:=cc 9 hx2
 have c10:=cc 10 hx2
 have c11:=cc 11 hx2
 have c12:=cc 12 hx2
 have c13:=cc 13 hx2
 clear b1 b2 hx1 hx2 hy2 h hne hes hin hf
 go_enter_defers func309,ntmps309
 go_wp2_with fail
 generalize ((w.alloc (.cells e 175)).alloc (.cells (Qo 0) 41))=W2 at *
 refine HT.out.mono ?_
 rintro x w3 ⟨v3,rfl,o3,b3⟩
 have HX3:=zA ((b3.block _ (gsi.1 HX.out).1).trans HX.out)
 have HY3:=zA ((b3.block _ (gsi.1 HY.out).1).trans HY.out)
 have HB3:=zA (HB.out.trans (b3.mono HB.out.size))
 have HS3:=zA (HST.out w3 b3)
 have HW3:=zA (fun (W:World) (hW:Below w3.heap.size w3 W)=>HW.out W (b3.trans (hW.mono b3.size)) v3 (o3.toT.toC.below hW))
 clear o3 b3 HT HW HST c0 c1 c2 c3 c4 c5 c6 c7 c8 c9 c10 c11 c12 c13
 obtain⟨d,v,q0,q1,q2,q3,q4,fz,hr,hd,ho,hv⟩:=HS3.out.cells
 have rZ:RowC kEv w3 v es:=(show OwnR kEv 0 w3 v es from ho).toT.toC
 have qF:=zA rZ
 have HQ:=zA (fun (W:World) (hW:Below w3.heap.size w3 W)=>(hW.block s (World.rowIs.lt hr)).trans rfl)
 have HC4:=zA (fun (W:World) (hW:Below w3.heap.size w3 W)=>(hW.cell (p:=⟨s,4,none⟩) (World.rowIs.lt hr)).trans q4)
 have HXW:=zA (fun (W:World) (hW:Below w3.heap.size w3 W)=>(hW.block _ (gsi.1 HX3.out).1).trans HX3.out)
 clear q0 q1 q2 q3 q4 fz hr hd ho hv rZ
 go_wp2_with fail
 refine zD (fun W=>Below w3.heap.size w3 W) 99 (by kernel_rfl) (Below.refl _ _).drew (fun rV=>?_)
 refine zV 0 10 rfl ?_
 refine zV 1 11 rfl ?_
 refine zV 2 12 rfl ?_
 refine tkq 3 13 rfl (by intro wS hSw;have d4:=HC4.out _ hSw;clear hSw;go_simp;(try with_reducible rfl)) ?_
 refine zV 4 14 rfl ?_
 refine tkq 5 15 rfl (by intro wS hSw;have y:=HXW.out _ hSw;have d0:=cc 0 y;have d1:=cc 1 y;clear hSw;go_simp;(try with_reducible rfl)) ?_
 refine t1 6 rfl (fun K hK=>?_)
 go_simp
 refine(sK v es e.node e.seq _ (by have:=HES.out;omega) (qF.out.below rV) HNE.out).mono ?_
 rintro x w4 ⟨rfl,b4⟩
 have HB4:=zA (rV.trans (b4.mono rV.size))
 clear b4 rV
 refine hK.out _ _ (fun _=>HB4.out) (fun _=>?_)
 clear hK K
 try simp only[zN]
 refine t1 7 rfl (fun K hK=>?_)
 go_simp
 refine hK.out _ _ (fun _=>HB4.out) (fun _=>?_)
 clear hK K
 try simp only[zN]
 refine t1 8 rfl (fun K hK=>?_)
 go_simp
 refine(xZ rfl).mono ?_
 rintro x w' ⟨rfl,rfl⟩
 refine hK.out _ _ (fun _=>HB4.out) (fun _=>?_)
 clear hK K
 try simp only[zN]
 refine wd ?_
 have HW4:=zA (HW3.out w4 HB4.out)
 have HX4:=zA (HXW.out w4 HB4.out)
 have HY4:=zA ((HB4.out.block _ (gsi.1 HY3.out).1).trans HY3.out)
 have HBB:=zA (HB3.out.trans (HB4.out.mono HB3.out.size))
 have HFS:=zA HS3.out.1
 clear HXW HC4 HQ qF HW3 HS3
 go_wp2_with fail
 refine HW4.out.mono ?_
 rintro x w5 ⟨rfl,b5⟩
 have y5:=(b5.block _ (gsi.1 HY4.out).1).trans HY4.out
 have HB5:=zA (HBB.out.trans (b5.mono HBB.out.size))
 have HY5:=zA y5
 clear b5 y5 HW4
 go_wp2_with fail
 refine leaves_cons (f:=283) (args:=#[Qp (w.heap.size+1)]) (by simp) (by simp[go_sem]) ?_
 have hlt:=(gsi.1 HY5.out).1
 refine(wT ⟨w.heap.size+1,0,none⟩ 7 0 [] _ (zF HY5.out rfl) (zB HY5.out 0)).mono ?_
 rintro e' u' w'' ⟨rfl,rfl,rfl⟩
 have hz:=zP (HB5.out.alloc HB5.out.size (.cells (Qo 7) 444)) (show w.heap.size≤w.heap.size+1 by omega) 0 (.int .i64 7)
 have cz:((w5.alloc (.cells (Qo 7) 444)).setCell ⟨w.heap.size+1,0,none⟩ (.int .i64 7)).cell? ⟨w.heap.size+1,0,none⟩=some (.int .i64 7):=World.cell?_setCell_same _ _ _ ((World.cell?_alloc_lt _ _ _ hlt).trans (zF HY5.out rfl))
 generalize (w5.alloc (.cells (Qo 7) 444)).setCell ⟨w.heap.size+1,0,none⟩ (.int .i64 7)=Z at *
 simp[Leaves,settle,results,results309,go_sem,cz]
 exact hz
theorem keep_ok (F:Nat→Prop) (s:Nat) (size:Int) (bs:List Int) (used upto inc:Int) (es:List Pl.Ev) (e:Pl.Ev) (w:World) (h:StAt F w s size bs used upto inc es) (hin:∀g,F g→g<w.heap.size) (hl:bs.length≤900000) (hs:0≤size) (hs':size≤16384)
  (he:e.Ok) (hne:∀x∈es,(x.node == e.node&&x.seq == e.seq)=false) (hes:es.length≤1000) (hf:(bs.length:Int)+(Pl.frame (3::Pl.vints e.nums)).length≤size) :
  Calls prog 309 #[Qp s,evv e] w fun r w'=>r=.returned (.int .i64 0)∧StAt (fun g=>F g∨w.heap.size≤g) w' s size (bs++(Pl.frame (3::Pl.vints e.nums))) used upto inc (es++[e])∧Off F w w':=by
 have b1:=bn w (.cells e 175)
 have b2:=b1.alloc b1.size (.cells (Qo 0) 41)
 have hx1:=heap_alloc_new w (.cells e 175)
 have hx2:=((bn _ (.cells (Qo 0) 41)).block _ (gsi.1 hx1).1).trans hx1
 have hy2:=heap_alloc_new (w.alloc (.cells e 175)) (.cells (Qo 0) 41)
 rw[zE]at hy2
 have hlr:(3::Pl.vints e.nums).length≤4096:=by
  have h1:=Pl.vints_len e.nums he.small
  have h2:=he.len
  simp;omega
 have HT:=zA (told3_ok e ((w.alloc (.cells e 175)).alloc (.cells (Qo 0) 41)) he)
 have HW:=zA (fun (W:World) (hW:Below ((w.alloc (.cells e 175)).alloc (.cells (Qo 0) 41)).heap.size ((w.alloc (.cells e 175)).alloc (.cells (Qo 0) 41)) W) (v':Value) (hv':BytesC W v' (3::Pl.vints e.nums))=>uQ F s size bs (3::Pl.vints e.nums) used upto inc es v' W ((h.below b2).below hW) hl hs hs' hv' hlr hf)
 have HB:=zA b2
 have HX:=zA hx2
 have HY:=zA hy2
 have HST:=zA (fun (W:World) (hW:Below ((w.alloc (.cells e 175)).alloc (.cells (Qo 0) 41)).heap.size ((w.alloc (.cells e 175)).alloc (.cells (Qo 0) 41)) W)=>(h.below b2).below hW)
 have HNE:=zA hne
 have HES:=zA hes
 have HIN:=zA hin
 have hq:∀w,(binOp BinOp.eql 103 (Qp s) (.pointer none)).run prog w=.ok (.bool false) w:=fun _=>rfl
 have c0:=cc 0 hx2
 have c1:=cc 1 hx2
 have c2:=cc 2 hx2
 have c3:=cc 3 hx2
 have c4:=cc 4 hx2
 have c5:=cc 5 hx2
 have c6:=cc 6 hx2
 have c7:=cc 7 hx2
 have c8:=cc 8 hx2
 have c9:=cc 9 hx2
 have c10:=cc 10 hx2
 have c11:=cc 11 hx2
 have c12:=cc 12 hx2
 have c13:=cc 13 hx2
 clear b1 b2 hx1 hx2 hy2 h hne hes hin hf
 go_enter_defers func309,ntmps309
 go_wp2_with fail
 generalize ((w.alloc (.cells e 175)).alloc (.cells (Qo 0) 41))=W2 at *
 refine HT.out.mono ?_
 rintro x w3 ⟨v3,rfl,o3,b3⟩
 have HX3:=zA ((b3.block _ (gsi.1 HX.out).1).trans HX.out)
 have HY3:=zA ((b3.block _ (gsi.1 HY.out).1).trans HY.out)
 have HB3:=zA (HB.out.trans (b3.mono HB.out.size))
 have HS3:=zA (HST.out w3 b3)
 have HW3:=zA (fun (W:World) (hW:Below w3.heap.size w3 W)=>HW.out W (b3.trans (hW.mono b3.size)) v3 (o3.toT.toC.below hW))
 clear o3 b3 HT HW HST c0 c1 c2 c3 c4 c5 c6 c7 c8 c9 c10 c11 c12 c13
 obtain⟨d,v,q0,q1,q2,q3,q4,fz,hr,hd,ho,hv⟩:=HS3.out.cells
 have rZ:RowC kEv w3 v es:=(show OwnR kEv 0 w3 v es from ho).toT.toC
 have qF:=zA rZ
 have HQ:=zA (fun (W:World) (hW:Below w3.heap.size w3 W)=>(hW.block s (World.rowIs.lt hr)).trans rfl)
 have HC4:=zA (fun (W:World) (hW:Below w3.heap.size w3 W)=>(hW.cell (p:=⟨s,4,none⟩) (World.rowIs.lt hr)).trans q4)
 have HXW:=zA (fun (W:World) (hW:Below w3.heap.size w3 W)=>(hW.block _ (gsi.1 HX3.out).1).trans HX3.out)
 clear q0 q1 q2 q3 q4 fz hr hd ho hv rZ
 go_wp2_with fail
 refine zD (fun W=>Below w3.heap.size w3 W) 99 (by kernel_rfl) (Below.refl _ _).drew (fun rV=>?_)
 refine zV 0 10 rfl ?_
 refine zV 1 11 rfl ?_
 refine zV 2 12 rfl ?_
 refine tkq 3 13 rfl (by intro wS hSw;have d4:=HC4.out _ hSw;clear hSw;go_simp;(try with_reducible rfl)) ?_
 refine zV 4 14 rfl ?_
 refine tkq 5 15 rfl (by intro wS hSw;have y:=HXW.out _ hSw;have d0:=cc 0 y;have d1:=cc 1 y;clear hSw;go_simp;(try with_reducible rfl)) ?_
 refine t1 6 rfl (fun K hK=>?_)
 go_simp
 refine(sK v es e.node e.seq _ (by have:=HES.out;omega) (qF.out.below rV) HNE.out).mono ?_
 rintro x w4 ⟨rfl,b4⟩
 have HB4:=zA (rV.trans (b4.mono rV.size))
 clear b4 rV
 refine hK.out _ _ (fun _=>HB4.out) (fun _=>?_)
 clear hK K
 try simp only[zN]
 refine t1 7 rfl (fun K hK=>?_)
 go_simp
 refine hK.out _ _ (fun _=>HB4.out) (fun _=>?_)
 clear hK K
 try simp only[zN]
 refine t1 8 rfl (fun K hK=>?_)
 go_simp
 refine(xZ rfl).mono ?_
 rintro x w' ⟨rfl,rfl⟩
 refine hK.out _ _ (fun _=>HB4.out) (fun _=>?_)
 clear hK K
 try simp only[zN]
 refine wd ?_
 have HW4:=zA (HW3.out w4 HB4.out)
 have HX4:=zA (HXW.out w4 HB4.out)
 have HY4:=zA ((HB4.out.block _ (gsi.1 HY3.out).1).trans HY3.out)
 have HBB:=zA (HB3.out.trans (HB4.out.mono HB3.out.size))
 have HFS:=zA HS3.out.1
 clear HXW HC4 HQ qF HW3 HS3
 go_wp2_with fail
 refine HW4.out.mono ?_
 rintro x w5 ⟨rfl,S5,o5⟩
 have hnF:∀g,w.heap.size≤g→¬F g:=fun g hg hf=>by have:=HIN.out g hf;omega
 have x5:=(o5.same _ (gsi.1 HX4.out).1 (hnF _ (Nat.le_refl _))).trans HX4.out
 have y5:=(o5.same _ (gsi.1 HY4.out).1 (hnF _ (by omega))).trans HY4.out
 have HS5:=zA S5
 have HX5:=zA x5
 have HY5:=zA y5
 have HO5:=zA (o5.after HBB.out (G:=F) (fun g _ hg=>hg))
 obtain⟨d5,v5,q0,q1,q2,q3,q4,fz,hr,hd,ho,hv⟩:=S5.cells
 have qR:=zA (show OwnR kEv 0 w5 v5 es from ho)
 clear S5 x5 y5 o5 HW4
 go_wp2_with fail
 have HNO:=zA (show ∀g,v5.ownBlock=some g→g≠w.heap.size∧g≠w.heap.size+1 from fun g hg=>by
  have h1:=hv g hg
  have h2:=(gsi.1 HX4.out).1
  have h3:=(gsi.1 HY4.out).1
  rcases h1 with h1 | h1
  ·have:=HIN.out g h1;omega
  ·omega)
 have HSW:=zA (fun (W:World) (hW:Off (fun g=>v5.ownBlock=some g) w5 W)=>(show W.heap[s]?=w5.heap[s]? from hW.same s hr.lt (fun e=>by
  obtain⟨cs,hcs⟩:=zK qR.out e
  obtain⟨c,hc,_⟩:=id hr
  rw[hc]at hcs;exact zI (by decide) hcs)))
 have HC4:=zA (fun (W:World) (hW:Off (fun g=>v5.ownBlock=some g) w5 W)=>(show W.cell? ⟨s,4,none⟩=some v5 from by
  unfold World.cell?
  simp only[HSW.out W hW]
  exact q4))
 have HXW:=zA (fun (W:World) (hW:Off (fun g=>v5.ownBlock=some g) w5 W)=>(hW.same _ (gsi.1 HX5.out).1 (fun e=>(HNO.out _ e).1 rfl)).trans HX5.out)
 have HYW:=zA (fun (W:World) (hW:Off (fun g=>v5.ownBlock=some g) w5 W)=>(hW.same _ (gsi.1 HY5.out).1 (fun e=>(HNO.out _ e).2 rfl)).trans HY5.out)
 have HR:=zA hr
 have HD:=zA hd
 have HV:=zA hv
 have HFZ:=zA (fz 4)
 have HQ4:=zA q4
 clear q0 q1 q2 q3 q4 fz hr hd ho hv
 refine zD (fun W=>Off (fun g=>v5.ownBlock=some g) w5 W) 11 (by kernel_rfl) ⟨Nat.le_refl _,fun _ _ _=>rfl,rfl,rfl,rfl⟩ (fun rV=>?_)
 refine zV 0 22 rfl ?_
 refine zV 1 23 rfl ?_
 refine zV 2 24 rfl ?_
 refine zV 3 25 rfl ?_
 refine tkq 4 26 rfl (by intro wS hSw;have d4:=HC4.out _ hSw;clear hSw;go_simp;(try with_reducible rfl)) ?_
 refine tkq 5 27 rfl (by intro wS hSw;have y:=HXW.out _ hSw;have y0:=cc 0 y;have y1:=cc 1 y;have y2:=cc 2 y;have y3:=cc 3 y;have y4:=cc 4 y;have y5:=cc 5 y;have y6:=cc 6 y;have y7:=cc 7 y;have y8:=cc 8 y;have y9:=cc 9 y;have y10:=cc 10 y;have y11:=cc 11 y;have y12:=cc 12 y;have y13:=cc 13 y;clear hSw;go_simp;(try with_reducible rfl)) ?_
 refine t1 6 rfl (fun K hK=>?_)
 go_simp
 refine(sown_ok e _).mono ?_
 rintro x w6 ⟨rfl,b6⟩
 have h6:=rV.trans (Off.of_below b6)
 have HH6:=zA h6
 have HO6:=zA ((qR.out.keep (w':=w5.drew) (fun g hg=>rfl)).below b6)
 clear b6 rV h6
 refine hK.out _ _ (fun _=>HH6.out) (fun _=>?_)
 clear hK K
 try simp only[zN]
 refine t1 7 rfl (fun K hK=>?_)
 go_simp
 have b7:=bn w6 (.cells (eva e) 175)
 have HH7:=zA (HH6.out.trans (Off.of_below b7))
 have HO7:=zA (HO6.out.below b7)
 have qC:=zA (show RowC kEv (w6.alloc (.cells (eva e) 175)) (.slice (some ⟨w6.heap.size,0,none⟩) 1 1) [e]from yJ kEv w6 [e] (eva e) 1 rfl (by simp[Rk.encs,kEv]))
 have HPOS:=zA HH6.out.size
 clear b7
 refine hK.out _ _ (fun _=>HH7.out) (fun _=>?_)
 clear hK K
 try simp only[zN]
 generalize w6.alloc (.cells (eva e) 175)=w7 at *
 refine t1 8 rfl (fun K hK=>?_)
 rw[if_pos (by rfl)]
 obtain⟨ao5,cap5,rfl⟩:=HO7.out.toT.form
 refine tP kEv (.tmp 26) (.tmp 29) rfl rfl HO7.out rfl qC.out (by simp) (by have:=HES.out;simp;omega) (Below.refl 0 w7) (Nat.zero_le _) ?_
 intro v8 w8 hown8 hb8 hg8 hp8
 obtain⟨ao8,cap8,hv8⟩:=hown8.toT.form
 rw[List.length_append,List.length_singleton]at hv8
 subst hv8
 have hg9:World.grownBy w7 w8 (Value.slice ao5 es.length cap5).ownBlock:=hg8
 have hp9:∀g,(Value.slice ao8 (es.length+1) cap8).ownBlock=some g→(Value.slice ao5 es.length cap5).ownBlock=some g∨g=w7.heap.size:=hp8
 have HH8:=zA (HH7.out.trans ⟨hg9.size,fun g hg hn=>hg9.block g hg (fun e=>hn e.symm),hg9.os,hg9.tape,hg9.output⟩)
 have HP9:=zA (fun g (hg:(Value.slice ao8 (es.length+1) cap8).ownBlock=some g)=>(hp9 g hg).imp id (fun (h:g=w7.heap.size)=>(show w5.heap.size≤g by rw[h];exact HH7.out.size)))
 have HO8:=zA hown8
 clear hb8 hg8 hp8 hg9 hp9 hown8
 refine hK.out _ _ (fun _=>HH8.out) (fun _=>?_)
 clear hK K
 try simp only[zN]
 refine t1 9 rfl (fun K hK=>?_)
 go_simp
 refine hK.out _ _ (fun _=>HH8.out) (fun _=>?_)
 clear hK K
 try simp only[zN]
 refine t1 10 rfl (fun K hK=>?_)
 go_simp
 refine hK.out _ _ (fun _=>HH8.out) (fun _=>?_)
 clear hK K
 try simp only[zN]
 refine t1 11 rfl (fun K hK=>?_)
 have c4:=HC4.out w8 HH8.out
 have f4:w8.frozen? ⟨s,4,none⟩=false:=by
  obtain⟨c,hc,_⟩:=HR.out
  exact zB ((HSW.out w8 HH8.out).trans hc) 4
 go_simp
 have hs4:w.heap.size≤w4.heap.size:=HBB.out.size
 have S8:=(st_push HS5.out.1 HR.out HD.out qR.out HV.out HH8.out HO8.out HP9.out).mono (G:=fun g=>F g∨w.heap.size≤g) (fun g hg=>by
  rcases hg with(hg | hg) | hg
  ·exact .inl hg
  ·exact .inr (Nat.le_trans hs4 hg)
  ·exact .inr (Nat.le_trans HO5.out.size hg))
 have o8:Off F w w8:=(Off.trans (HO5.out.mono (G:=fun g=>F g∨w.heap.size≤g) (fun g _ hg=>.inl hg)) (HH8.out.mono (fun g _ hg=>(HV.out g hg).imp id (fun h=>Nat.le_trans hs4 h)))).mono (fun g hg hh=>by
  rcases hh with hh | hh
  ·exact hh
  ·omega)
 have o9:=o8.set (a:=⟨s,4,none⟩) (.inl HFS.out) (.slice ao8 (es.length+1) cap8)
 have y8:=HYW.out w8 HH8.out
 have hsf:w.heap.size+1≠s:=fun e=>by
  obtain⟨c,hc,_⟩:=HR.out
  rw[←HSW.out w8 HH8.out,←e,y8]at hc;exact zI (by decide) hc
 have y9:=(Below.heap_setCell w8 ⟨s,4,none⟩ (.slice ao8 (es.length+1) cap8) (w.heap.size+1) hsf).trans y8
 have HS8:=zA S8
 have HO9:=zA o9
 have HY9:=zA y9
 clear S8 o8 o9 y8 y9 hsf hs4 HSW HC4 HXW HYW c4 f4
 refine hK.out _ _ (fun h=>absurd rfl h) (fun _=>?_)
 clear hK K
 try simp only[zN]
 refine wd ?_
 have cf:=cc 0 HY9.out
 have ff:=zB HY9.out 0
 generalize w8.setCell ⟨s,4,none⟩ (.slice ao8 (es.length+1) cap8)=w9 at *
 go_wp2_with fail
 refine leaves_cons (f:=283) (args:=#[Qp (w.heap.size+1)]) (by simp) (by simp[go_sem]) ?_
 refine(wC _ _).mono ?_
 rintro e' u' w'' ⟨rfl,rfl,rfl⟩
 have S10:=HS8.out.other HY9.out (by decide) 0 (.int .i64 0)
 have o10:=HO9.out.set (a:=⟨w.heap.size+1,0,none⟩) (.inr (by show w.heap.size≤w.heap.size+1;omega)) (.int .i64 0)
 have cz:=World.cell?_setCell_same w9 ⟨w.heap.size+1,0,none⟩ (.int .i64 0) cf
 generalize w9.setCell ⟨w.heap.size+1,0,none⟩ (.int .i64 0)=Z at *
 simp[Leaves,settle,results,results309,go_sem,cz]
 exact⟨S10,o10⟩
def Pl.Ev.at (e:Pl.Ev):Nat×Nat:=(e.node.toNat,e.seq.toNat)
theorem Pl.Ev.Dot.key {e:Pl.Ev} {n s:Nat} (h:e.Dot n s):e.at=(n,s):=by
 unfold Pl.Ev.at
 rw[h.node,h.seq]
 rfl
def seenL (es:List Pl.Ev):List ((Nat×Nat)×Value):=es.map (fun e=>(e.at,.bool true))
def heldL (es:List Pl.Ev):List ((Nat×Nat)×Value):=es.map (fun e=>(e.at,evv e))
structure BkC (w:World) (b ms mh:Nat) (l l':List ((Nat×Nat)×Value)) (clock:Int):Prop where
 cells:w.heap[b]?=some (.cells #[.map (some ms),.map (some mh),.int .i64 clock] 185 (0,0))
 seen:DmAt w ms l
 held:DmAt w mh l'
 ne:ms≠mh
theorem BkC.keep {w w':World} {b ms mh:Nat} {l l':List ((Nat×Nat)×Value)} {clock:Int} (h:BkC w b ms mh l l' clock) (k:∀g,g=b∨g=ms∨g=mh→w'.heap[g]?=w.heap[g]?):BkC w' b ms mh l l' clock:=
 ⟨(k b (.inl rfl)).trans h.cells,h.seen.keep (k ms (.inr (.inl rfl))),h.held.keep (k mh (.inr (.inr rfl))),h.ne⟩
theorem BkC.lt {w:World} {b ms mh:Nat} {l l':List ((Nat×Nat)×Value)} {clock:Int} (h:BkC w b ms mh l l' clock):b<w.heap.size∧ms<w.heap.size∧mh<w.heap.size:=
 ⟨(gsi.1 h.cells).1,h.seen.lt,h.held.lt⟩
theorem BkC.below {w w':World} {b ms mh:Nat} {l l':List ((Nat×Nat)×Value)} {clock:Int} (h:BkC w b ms mh l l' clock) (hb:Below w.heap.size w w'):BkC w' b ms mh l l' clock:=
 h.keep (fun g hg=>hb.block g (by have:=h.lt;rcases hg with rfl | rfl | rfl<;>omega))
theorem BkC.put {w:World} {b ms mh:Nat} {l l':List ((Nat×Nat)×Value)} {clock:Int} (h:BkC w b ms mh l l' clock) {o:Obj} {m:List ((Nat×Nat)×Value)} (hm:DmAt (setBlk w ms o) ms m):BkC (setBlk w ms o) b ms mh m l' clock:=
 ⟨(yC w ms o (h.seen.cells_ne h.cells)).trans h.cells,hm,h.held.keep (yC w ms o h.ne.symm),h.ne⟩
theorem BkC.hold {w:World} {b ms mh:Nat} {l l':List ((Nat×Nat)×Value)} {clock:Int} (h:BkC w b ms mh l l' clock) {o:Obj} {m:List ((Nat×Nat)×Value)} (hm:DmAt (setBlk w mh o) mh m):BkC (setBlk w mh o) b ms mh l m clock:=
 ⟨(yC w mh o (h.held.cells_ne h.cells)).trans h.cells,h.seen.keep (yC w mh o h.ne),hm,h.ne⟩
theorem bnew_ok (w:World):Calls prog 290 #[] w fun r w'=>∃b ms mh,r=.returned (Qp b)∧w.heap.size≤b∧w.heap.size≤ms∧w.heap.size≤mh∧BkC w' b ms mh [] [] 0∧Below w.heap.size w w':=by
 have b1:=bn w (.map #[] 0)
 have b2:=b1.alloc b1.size (.map #[] 0)
 have b3:=b2.alloc b2.size (.cells #[.map (some w.heap.size),.map (some (w.heap.size+1)),.int .i64 0] 185)
 have h1:=rQ w
 have h2:=rQ (w.alloc (.map #[] 0))
 have h1':=(h1.below (bn _ (.map #[] 0))).below (bn _ (.cells #[.map (some w.heap.size),.map (some (w.heap.size+1)),.int .i64 0] 185))
 have h2':=h2.below (bn _ (.cells #[.map (some w.heap.size),.map (some (w.heap.size+1)),.int .i64 0] 185))
 have h3:=heap_alloc_new ((w.alloc (.map #[] 0)).alloc (.map #[] 0)) (.cells #[.map (some w.heap.size),.map (some (w.heap.size+1)),.int .i64 0] 185)
 rw[zE]at h2'
 rw[zE,zE]at h3
 have HB:=zA b3
 have HK:=zA (show BkC _ (w.heap.size+1+1) w.heap.size (w.heap.size+1) [] [] 0 from⟨h3,h1',h2',by omega⟩)
 have m1:∀w,Sem.run prog (Instr.makeMap 182 none) w=.ok (.map (some w.heap.size)) (w.alloc (.map #[] 0)):=fun _=>by kernel_rfl
 have m2:∀w,Sem.run prog (Instr.makeMap 183 none) w=.ok (.map (some w.heap.size)) (w.alloc (.map #[] 0)):=fun _=>by kernel_rfl
 clear b1 b2 b3 h1 h2 h1' h2' h3
 go_enter func290,ntmps290
 go_wp2_with fail
 go_ret
 exact⟨_,_,_,rfl,by omega,by omega,by omega,HK.out,HB.out⟩
theorem see_ok (b ms mh n s:Nat) (l l':List ((Nat×Nat)×Value)) (clock:Int) (w:World) (h:BkC w b ms mh l l' clock) (hs:∀p∈l,p.1≠(n,s)) (hh:∀p∈l',p.1≠(n,s)) :
  Calls prog 282 #[Qp b,.agg (Qi n s)] w fun r w'=>r=.returned (.tuple #[])∧BkC w' b ms mh (l++[((n,s),.bool true)]) l' clock∧Off (· = ms) w w':=by
 have b1:=bn w (.cells (Qi n s) 45)
 have hx:=heap_alloc_new w (.cells (Qi n s) 45)
 have hk:=h.below b1
 have HB:=zA b1
 have HX:=zA hx
 have HK:=zA hk
 have HS:=zA hs
 have HH:=zA hh
 have hC0:=hk.cells
 clear b1 hx h hs hh hk
 go_enter func282,ntmps282
 go_wp2_with fail
 generalize w.alloc (.cells (Qi n s) 45)=W at *
 have c0:=cc 0 hC0
 have d0:=cc 0 HX.out
 have d1:=cc 1 HX.out
 clear hC0
 refine zD (fun W'=>W'.cell? ⟨b,0,none⟩=some (.map (some ms))∧W'.cell? ⟨w.heap.size,0,none⟩=some (.int .i64 n)∧W'.cell? ⟨w.heap.size,1,none⟩=some (.int .i64 s)) 5 (by kernel_rfl) ⟨c0,d0,d1⟩ (fun rV=>?_)
 refine tk 0 4 rfl (by intro wS hSw;obtain⟨q0,q1,q2⟩:=id hSw;clear hSw;go_simp;(try with_reducible rfl)) ?_
 refine tk 1 5 rfl (by intro wS hSw;obtain⟨q0,q1,q2⟩:=id hSw;clear hSw;go_simp;(try with_reducible rfl)) ?_
 refine tk 2 6 rfl (by intro wS hSw;obtain⟨q0,q1,q2⟩:=id hSw;clear hSw;go_simp;(try with_reducible rfl)) ?_
 refine tk 3 7 rfl (by intro wS hSw;obtain⟨q0,q1,q2⟩:=id hSw;clear hSw;go_simp;(try with_reducible rfl)) ?_
 refine tk 4 8 rfl (by intro wS hSw;obtain⟨q0,q1,q2⟩:=id hSw;clear hSw;go_simp;(try with_reducible rfl)) ?_
 clear rV
 obtain⟨o,qD,hdm⟩:=dm_put (T:=182) underlying182 (w:=W.drew) (HK.out.seen.keep rfl) (n,s) HS.out (.bool true)
 have pU:Sem.run prog (Instr.mapUpdate 182 (.map (some ms)) (.agg (Qi n s)) (.bool true)) W.drew=.ok () (setBlk W.drew ms o):=qD
 refine t1 5 rfl (fun K hK=>?_)
 go_simp
 refine hK.out _ _ (fun h=>absurd rfl h) (fun _=>?_)
 clear hK K
 try simp only[zN]
 refine wd ?_
 have hk2:=(HK.out.keep (w':=W.drew) (fun g hg=>rfl)).put hdm
 have ho2:=((Off.of_below (F:=(· = ms)) (HB.out.drew)).setBlk (b:=ms) (.inl rfl) o)
 have hx2:=(yC W.drew ms o (HK.out.seen.cells_ne HX.out)).trans HX.out
 have HK2:=zA hk2
 have HO2:=zA ho2
 have HX2:=zA hx2
 clear hk2 ho2 hx2 qD pU hdm c0 d0 d1
 generalize setBlk W.drew ms o=W2 at *
 have c1:=cc 1 HK2.out.cells
 have d0:=cc 0 HX2.out
 have d1:=cc 1 HX2.out
 go_wp2_with fail
 refine zD (fun W'=>W'.cell? ⟨b,1,none⟩=some (.map (some mh))∧W'.cell? ⟨w.heap.size,0,none⟩=some (.int .i64 n)∧W'.cell? ⟨w.heap.size,1,none⟩=some (.int .i64 s)) 99 (by kernel_rfl) ⟨c1,d0,d1⟩ (fun rV=>?_)
 refine tk 0 9 rfl (by intro wS hSw;obtain⟨q0,q1,q2⟩:=id hSw;clear hSw;go_simp;(try with_reducible rfl)) ?_
 refine tk 1 10 rfl (by intro wS hSw;obtain⟨q0,q1,q2⟩:=id hSw;clear hSw;go_simp;(try with_reducible rfl)) ?_
 refine tk 2 11 rfl (by intro wS hSw;obtain⟨q0,q1,q2⟩:=id hSw;clear hSw;go_simp;(try with_reducible rfl)) ?_
 refine tk 3 12 rfl (by intro wS hSw;obtain⟨q0,q1,q2⟩:=id hSw;clear hSw;go_simp;(try with_reducible rfl)) ?_
 refine tk 4 13 rfl (by intro wS hSw;obtain⟨q0,q1,q2⟩:=id hSw;clear hSw;go_simp;(try with_reducible rfl)) ?_
 clear rV
 have qD:∀ty,Sem.run prog (Builtin.delete_ #[183,45] ty #[.map (some mh),.agg (Qi n s)]) W2.drew=.ok (.tuple #[]) W2.drew:=fun ty=>dm_drop (T:=183) underlying183 (w:=W2.drew) (HK2.out.held.keep rfl) (n,s) HH.out ty
 refine t1 5 rfl (fun K hK=>?_)
 go_simp
 refine hK.out _ _ (fun _=>⟨c1,d0,d1⟩) (fun _=>?_)
 clear hK K
 try simp only[zN]
 refine wd ?_
 go_wp2_with fail
 exact yD results282 ⟨rfl,HK2.out.keep (fun g hg=>rfl),⟨HO2.out.size,HO2.out.same,HO2.out.rest⟩⟩
theorem max_run (x y:Int) (W:World):Sem.run prog (Builtin.max_ #[3,3] 3 (Qi x y)) W=.ok (.int .i64 (max x y)) W:=by
 unfold Builtin.max_
 simp[Builtin.max2]
 split<;>omega
theorem beach_nil (f:Value) (w:World):Calls prog 279 #[.slice none 0 0,f] w fun r w'=>r=.returned (.tuple #[])∧w=w':=by
 go_enter func279,ntmps279
 go_wp2_with fail
 refine wp_loop_rounds 1 ?_
 rw[rounds_succ]
 go_wp2_with fail
 exact yD results279 ⟨rfl,rfl⟩
theorem rD (es:List Pl.Ev) (e:Pl.Ev):seenL (es++[e])=seenL es++[(e.at,.bool true)]:=by unfold seenL;simp
theorem rK (es:List Pl.Ev) (e:Pl.Ev):heldL (es++[e])=heldL es++[(e.at,evv e)]:=by unfold heldL;simp
theorem BkC.clock {w:World} {b ms mh:Nat} {l l':List ((Nat×Nat)×Value)} {clock:Int} (h:BkC w b ms mh l l' clock) (c:Int):BkC (w.setCell ⟨b,2,none⟩ (.int .i64 c)) b ms mh l l' c:=
 ⟨by have:=zG (j:=2) h.cells (.int .i64 c);simpa using this,h.seen.keep (Below.heap_setCell _ _ _ _ (fun e=>h.seen.cells_ne h.cells e.symm)),h.held.keep (Below.heap_setCell _ _ _ _ (fun e=>h.held.cells_ne h.cells e.symm)),h.ne⟩
theorem badd_ok (b ms mh:Nat) (es:List Pl.Ev) (clock:Int) (e:Pl.Ev) (w:World) (h:BkC w b ms mh (seenL es) (heldL es) clock) (he:e.Ok) (hne:∀x∈es,x.at≠e.at) :
  Calls prog 205 #[Qp b,evv e] w fun r w'=>r=.returned (.int .i64 0)∧BkC w' b ms mh (seenL (es++[e])) (heldL (es++[e])) (max clock e.time)∧Off (fun g=>g=b∨g=ms∨g=mh) w w':=by
 obtain⟨n,s,hd⟩:=he.dot
 have hkey:=hd.key
 have hmiss:∀p∈seenL es,p.1≠(n,s):=fun p hp=>by
  unfold seenL at hp
  obtain⟨x,hx,rfl⟩:=List.mem_map.1 hp
  rw[←hkey];exact hne x hx
 have hmiss2:∀p∈heldL es,p.1≠(n,s):=fun p hp=>by
  unfold heldL at hp
  obtain⟨x,hx,rfl⟩:=List.mem_map.1 hp
  rw[←hkey];exact hne x hx
 have b1:=bn w (.cells e 175)
 have hx:=heap_alloc_new w (.cells e 175)
 have hlt:=h.lt
 have HRT:=zA (wN e n s (w.alloc (.cells e 175)) hd (by
  rcases he.kind with h | h
  ·exact .inl h
  ·exact .inr ⟨h,he.right⟩))
 have HK:=zA (h.below b1)
 have HB:=zA b1
 have HX:=zA hx
 have HD:=zA hd
 have HE:=zA he
 have HM:=zA hmiss
 have HM2:=zA hmiss2
 have HKEY:=zA hkey
 have HLT:=zA hlt
 have hq:∀w,(binOp BinOp.eql 111 (Qp b) (.pointer none)).run prog w=.ok (.bool false) w:=fun _=>rfl
 have c0:=cc 0 hx
 have c1:=cc 1 hx
 have c2:=cc 2 hx
 have c3:=cc 3 hx
 have c4:=cc 4 hx
 have c5:=cc 5 hx
 have c6:=cc 6 hx
 have c7:=cc 7 hx
 have c8:=cc 8 hx
 have c9:=cc 9 hx
 have c10:=cc 10 hx
 have c11:=cc 11 hx
 have c12:=cc 12 hx
 have c13:=cc 13 hx
 clear b1 hx h he hne hd hmiss hmiss2 hkey hlt
 go_enter func205,ntmps205
 go_wp2_with fail
 generalize (w.alloc (.cells e 175))=W at *
 refine HRT.out.mono ?_
 rintro x w1 ⟨rfl,b1⟩
 rw[HE.out.right]
 have HK1:=zA (HK.out.below b1)
 have HX1:=zA ((b1.block _ (gsi.1 HX.out).1).trans HX.out)
 have HB1:=zA (HB.out.trans (b1.mono HB.out.size))
 clear b1 HK HX HRT HB c0 c1 c2 c3 c4 c5 c6 c7 c8 c9 c10 c11 c12 c13
 go_wp2_with fail
 have c0:=cc 0 HK1.out.cells
 have d0:=cc 0 HX1.out
 have d1:=cc 1 HX1.out
 have hz:∀w,(zeroValue 4).run prog w=.ok (.bool false) w:=fun _=>by kernel_rfl
 have hlook:Sem.run prog (Instr.lookup 182 (.map (some ms)) (.agg (Qi e.node e.seq)) false) w1.drew=.ok (.bool false) w1.drew:=by
  rw[HD.out.node,HD.out.seq]
  exact dm_miss (T:=182) (E:=4) underlying182 (w:=w1.drew) (HK1.out.seen.keep rfl) (n,s) HM.out (.bool false) (hz _) false
 refine zD (fun W'=>W'.cell? ⟨b,0,none⟩=some (.map (some ms))∧W'.cell? ⟨w.heap.size,0,none⟩=some (.int .i64 e.node)∧W'.cell? ⟨w.heap.size,1,none⟩=some (.int .i64 e.seq)) 99 (by kernel_rfl) ⟨c0,d0,d1⟩ (fun rV=>?_)
 refine tk 0 13 rfl (by intro wS hSw;obtain⟨q0,q1,q2⟩:=id hSw;clear hSw;go_simp;(try with_reducible rfl)) ?_
 refine tk 1 14 rfl (by intro wS hSw;obtain⟨q0,q1,q2⟩:=id hSw;clear hSw;go_simp;(try with_reducible rfl)) ?_
 refine tk 2 15 rfl (by intro wS hSw;obtain⟨q0,q1,q2⟩:=id hSw;clear hSw;go_simp;(try with_reducible rfl)) ?_
 refine tk 3 16 rfl (by intro wS hSw;obtain⟨q0,q1,q2⟩:=id hSw;clear hSw;go_simp;(try with_reducible rfl)) ?_
 refine tk 4 17 rfl (by intro wS hSw;obtain⟨q0,q1,q2⟩:=id hSw;clear hSw;go_simp;(try with_reducible rfl)) ?_
 refine tk 5 18 rfl (by intro wS hSw;obtain⟨q0,q1,q2⟩:=id hSw;clear hSw;go_simp;(try with_reducible rfl)) ?_
 clear rV
 refine t1 6 rfl (fun K hK=>?_)
 go_simp
 refine hK.out _ _ (fun _=>⟨c0,d0,d1⟩) (fun _=>?_)
 clear hK K
 try simp only[zN]
 refine t1 7 rfl (fun K hK=>?_)
 go_simp
 refine hK.out _ _ (fun _=>⟨c0,d0,d1⟩) (fun _=>?_)
 clear hK K
 try simp only[zN]
 refine wd ?_
 clear c0 hlook hz
 have HSEE:Hid (Calls prog 282 #[Qp b,.agg (Qi e.node e.seq)] w1.drew fun r w'=>r=.returned (.tuple #[])∧BkC w' b ms mh (seenL es++[((n,s),.bool true)]) (heldL es) clock∧Off (· = ms) w1.drew w'):=zA (by
  rw[HD.out.node,HD.out.seq]
  exact see_ok b ms mh n s _ _ clock w1.drew (HK1.out.keep (fun g hg=>rfl)) HM.out HM2.out)
 have HB1':=zA HB1.out.drew
 have HX1':=zA (show w1.drew.heap[w.heap.size]?=_ from HX1.out)
 clear HB1 HX1 HK1 d0 d1
 generalize w1.drew=w2 at *
 have d0:=cc 0 HX1'.out
 have d1:=cc 1 HX1'.out
 go_wp2_with fail
 refine HSEE.out.mono ?_
 rintro x w3 ⟨rfl,hk3,o3⟩
 have hx3:=(o3.same _ (gsi.1 HX1'.out).1 (fun e'=>by
  have h1:w.heap.size=ms:=e'
  have:=HLT.out.2.1;omega)).trans HX1'.out
 have HK3:=zA hk3
 have HX3:=zA hx3
 have HO3:=zA (o3.after HB1'.out (G:=fun g=>g=b∨g=ms∨g=mh) (fun g _ hg=>.inr (.inl hg)))
 have e13:=cc 13 hx3
 clear hk3 hx3 o3 d0 d1 HSEE
 go_wp2_with fail
 refine(beach_nil _ w3).mono ?_
 rintro x w' ⟨rfl,rfl⟩
 clear e13
 go_wp2_with fail
 have HCW:=zA (fun (W:World) (hW:Below w3.heap.size w3 W)=>(hW.block b (gsi.1 HK3.out.cells).1).trans HK3.out.cells)
 have HXW:=zA (fun (W:World) (hW:Below w3.heap.size w3 W)=>(hW.block _ (gsi.1 HX3.out).1).trans HX3.out)
 refine zD (fun W=>Below w3.heap.size w3 W) 8 (by kernel_rfl) (Below.refl _ _).drew (fun rV=>?_)
 refine tkp 0 29 rfl ?_
 refine tkp 1 30 rfl ?_
 refine tkp 2 31 rfl ?_
 refine tk 3 32 rfl (by intro wS hSw;have y:=HCW.out _ hSw;have d0:=cc 1 y;clear hSw;go_simp;(try with_reducible rfl)) ?_
 refine tkp 4 33 rfl ?_
 refine tk 5 34 rfl (by intro wS hSw;have y:=HXW.out _ hSw;have d0:=cc 0 y;have d1:=cc 1 y;clear hSw;go_simp;(try with_reducible rfl)) ?_
 refine tk 6 35 rfl (by intro wS hSw;have y:=HXW.out _ hSw;have y0:=cc 0 y;have y1:=cc 1 y;have y2:=cc 2 y;have y3:=cc 3 y;have y4:=cc 4 y;have y5:=cc 5 y;have y6:=cc 6 y;have y7:=cc 7 y;have y8:=cc 8 y;have y9:=cc 9 y;have y10:=cc 10 y;have y11:=cc 11 y;have y12:=cc 12 y;have y13:=cc 13 y;clear hSw;go_simp;(try with_reducible rfl)) ?_
 refine t1 7 rfl (fun K hK=>?_)
 go_simp
 refine(rT e _).mono ?_
 rintro x w4 ⟨rfl,b4⟩
 have HB4:=zA (rV.trans (b4.mono rV.size))
 clear b4 rV
 refine hK.out _ _ (fun _=>HB4.out) (fun _=>?_)
 clear hK K
 try simp only[zN]
 obtain⟨o,qD,hdm⟩:=dm_put (T:=183) underlying183 (w:=w4) (HK3.out.below HB4.out).held (n,s) HM2.out (evv e)
 have pU:Sem.run prog (Instr.mapUpdate 183 (.map (some mh)) (.agg (Qi e.node e.seq)) (evv e)) w4=.ok () (setBlk w4 mh o):=by
  rw[HD.out.node,HD.out.seq];exact qD
 refine t1 8 rfl (fun K hK=>?_)
 go_simp
 refine hK.out _ _ (fun h=>absurd rfl h) (fun _=>?_)
 clear hK K
 try simp only[zN]
 refine wd ?_
 have hk5:=(HK3.out.below HB4.out).hold hdm
 rw[←HKEY.out,←rD,←rK]at hk5
 have hx5:=(yC w4 mh o ((HK3.out.below HB4.out).held.cells_ne (HXW.out w4 HB4.out))).trans (HXW.out w4 HB4.out)
 have ho5:=(HO3.out.trans (Off.of_below HB4.out)).setBlk (b:=mh) (.inl (.inr (.inr rfl))) o
 have HK5:=zA hk5
 have HX5:=zA hx5
 have HO5:=zA ho5
 clear hk5 hx5 ho5 qD pU hdm HCW HXW HK3 HX3 HO3
 generalize setBlk w4 mh o=w5 at *
 go_wp2_with fail
 have c2:=cc 2 HK5.out.cells
 have d2:=cc 2 HX5.out
 have fz:=zB HK5.out.cells 2
 have hmx:=max_run clock e.time
 refine zD (fun W'=>W'.cell? ⟨b,2,none⟩=some (.int .i64 clock)∧W'.cell? ⟨w.heap.size,2,none⟩=some (.int .i64 e.time)) 10 (by kernel_rfl) ⟨c2,d2⟩ (fun rV=>?_)
 refine tk 0 37 rfl (by intro wS hSw;obtain⟨q0,q1⟩:=id hSw;clear hSw;go_simp;(try with_reducible rfl)) ?_
 refine tk 1 38 rfl (by intro wS hSw;obtain⟨q0,q1⟩:=id hSw;clear hSw;go_simp;(try with_reducible rfl)) ?_
 refine tk 2 39 rfl (by intro wS hSw;obtain⟨q0,q1⟩:=id hSw;clear hSw;go_simp;(try with_reducible rfl)) ?_
 refine tk 3 40 rfl (by intro wS hSw;obtain⟨q0,q1⟩:=id hSw;clear hSw;go_simp;(try with_reducible rfl)) ?_
 refine tk 4 41 rfl (by intro wS hSw;obtain⟨q0,q1⟩:=id hSw;clear hSw;go_simp;(try with_reducible rfl)) ?_
 refine tk 5 42 rfl (by intro wS hSw;obtain⟨q0,q1⟩:=id hSw;clear hSw;go_simp;(try with_reducible rfl)) ?_
 refine tk 6 43 rfl (by intro wS hSw;obtain⟨q0,q1⟩:=id hSw;clear hSw;go_simp;(try with_reducible rfl)) ?_
 refine tk 7 44 rfl (by intro wS hSw;obtain⟨q0,q1⟩:=id hSw;clear hSw;go_simp;(try with_reducible rfl)) ?_
 clear rV
 refine t1 8 rfl (fun K hK=>?_)
 go_simp
 refine hK.out _ _ (fun _=>⟨c2,d2⟩) (fun _=>?_)
 clear hK K
 try simp only[zN]
 refine t1 9 rfl (fun K hK=>?_)
 go_simp
 refine hK.out _ _ (fun _=>⟨c2,d2⟩) (fun _=>?_)
 clear hK K
 try simp only[zN]
 refine t1 10 rfl (fun K hK=>?_)
 go_simp
 refine hK.out _ _ (fun h=>absurd rfl h) (fun _=>?_)
 clear hK K
 try simp only[zN]
 refine wd ?_
 have hk6:=(HK5.out.keep (w':=w5.drew) (fun g hg=>rfl)).clock (max clock e.time)
 have ho6:Off (fun g=>g=b∨g=ms∨g=mh) w (w5.drew.setCell ⟨b,2,none⟩ (.int .i64 (max clock e.time))):=Off.set (w':=w5.drew) ⟨HO5.out.size,HO5.out.same,HO5.out.rest⟩ (.inl (.inl rfl)) _
 have HK6:=zA hk6
 have HO6:=zA ho6
 clear hk6 ho6 c2 d2 fz
 go_wp2_with fail
 go_ret
 exact⟨rfl,HK6.out,HO6.out⟩
end
end Go.Proofs.YtodlmbfbfaofcaaGreat
