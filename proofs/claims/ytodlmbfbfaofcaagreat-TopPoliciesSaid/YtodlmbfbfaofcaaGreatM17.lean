/- TopPolicies, part 17. -/
import Derived.Test.YtodlmbfbfaofcaaGreatM01
import Derived.Test.YtodlmbfbfaofcaaGreatM02
import Derived.Test.YtodlmbfbfaofcaaGreatM04
import Derived.Test.YtodlmbfbfaofcaaGreatM07
import Derived.Test.YtodlmbfbfaofcaaGreatM08
import Derived.Test.YtodlmbfbfaofcaaGreatM13
import Derived.Test.YtodlmbfbfaofcaaGreatM16
open Go.Proofs.Tryz
namespace Go.Proofs.YtodlmbfbfaofcaaGreat
set_option linter.unusedVariables false
set_option linter.unusedSimpArgs false
set_option maxRecDepth 100000
set_option maxHeartbeats 1000000
section
open Go.RowKit Rw Rh
theorem DkAt.keepT {F:Nat→Prop} {w w':World} {d:Nat} {size:Int} {bs:List Int} (h:DkAt F w d size bs) (k:∀(g:Nat) (cs:Array Value) (t:TypeId) (fr:Nat×Nat),w.heap[g]?=some (Obj.cells cs t fr)→t≠175→w'.heap[g]?=w.heap[g]?):DkAt F w' d size bs:=by
 obtain⟨h1,v,h2,h3,h4⟩:=h
 obtain⟨cs',h5,_⟩:=id h2
 exact⟨h1,v,World.rowIs.of_block h2 (k d _ _ _ h5 lF),h3.keep (fun g cs fr hg=>k g _ _ _ hg lF),h4⟩
theorem st_push {F:Nat→Prop} {w w':World} {s d:Nat} {size:Int} {bs:List Int} {used upto inc:Int} {v u:Value} {es es':List Pl.Ev} (hF:F s) (hr:w.rowIs s 410 5 (stc d used upto inc v)) (hd:DkAt F w d size bs) (ho:OwnR kEv 0 w v es) (hv:∀g,v.ownBlock=some g→F g)
  (o:Off (fun g=>v.ownBlock=some g) w w') (ho':OwnR kEv 0 w' u es') (hp:∀g,u.ownBlock=some g→v.ownBlock=some g∨w.heap.size≤g) :
  StAt (fun g=>F g∨w.heap.size≤g) (w'.setCell ⟨s,4,none⟩ u) s size bs used upto inc es':=by
 have hk:∀g cs t fr,w.heap[g]?=some (Obj.cells cs t fr)→t≠175→w'.heap[g]?=w.heap[g]?:=fun g cs t fr hg ht=>o.same g (gsi.1 hg).1 (fun e=>by
  obtain⟨cs',h2⟩:=zK ho e
  rw[hg]at h2;exact zH ht h2)
 obtain⟨c,hc,hcs⟩:=hr
 have hc':=(hk s _ _ _ hc lF).trans hc
 have hr':w'.rowIs s 410 5 (stc d used upto inc v):=⟨c,hc',hcs⟩
 have h1:∀i,i<5→(if i=4 then u else stc d used upto inc v i)=stc d used upto inc u i:=fun i hi=>by
  rcases i with _ | _ | _ | _ | _ | i
  ·rfl
  ·rfl
  ·rfl
  ·rfl
  ·rfl
  ·omega
 have h2:s≠d:=fun e=>by
  obtain⟨_,v',⟨c1,hc1,_⟩,_⟩:=hd
  rw[←e,hc]at hc1;exact zH lF hc1
 have h3:∀cs fr,w'.heap[s]?≠some (Obj.cells cs 5 fr):=fun cs fr=>by rw[hc'];exact fun e=>zH lF e
 have h4:OwnR kEv 0 (w'.setCell ⟨s,4,none⟩ u) u es':=ho'.keep (fun g hg=>Below.heap_setCell _ _ _ _ (fun e=>by
  obtain⟨cs,hcs'⟩:=zK ho' hg
  rw[show g=s from e,hc']at hcs';exact zH lF hcs'))
 exact⟨.inl hF,d,u,(hr'.set 4 u).congr h1,((hd.keepT hk).mono (fun g hg=>.inl hg)).set h2 h3 4 u,h4,fun g hg=>(hp g hg).imp (hv g) id⟩
theorem keep_full (F:Nat→Prop) (s:Nat) (size:Int) (bs:List Int) (used upto inc:Int) (es:List Pl.Ev) (e:Pl.Ev) (w:World) (h:StAt F w s size bs used upto inc es) (hin:∀g,F g→g<w.heap.size) (hl:bs.length≤900000) (hs:0≤size) (hs':size≤16384)
  (he:e.Ok) (hi:Is w e) (hne:∀x∈es,(x.node == e.node&&x.seq == e.seq)=false) (hes:es.length≤1000) (hf:size<bs.length+(Pl.frame (3::Pl.vints e.nums)).length) :
  Calls prog 309 #[Qp s,evv e] w fun r w'=>r=.returned (.int .i64 7)∧Below w.heap.size w w':=by
 have b1:=bn w (.cells e 175)
 have b2:=b1.alloc b1.size (.cells (Qo 0) 41)
 have hx1:=heap_alloc_new w (.cells e 175)
 have hx2:=((bn _ (.cells (Qo 0) 41)).block _ (gsi.1 hx1).1).trans hx1
 have hy2:=heap_alloc_new (w.alloc (.cells e 175)) (.cells (Qo 0) 41)
 rw[zG]at hy2
 have hlr:(3::Pl.vints e.nums).length≤4096:=by
  have h1:=Pl.vints_len e.nums he.small
  have h2:=he.len
  simp;omega
 have HT:=zA (told3_ok e ((w.alloc (.cells e 175)).alloc (.cells (Qo 0) 41)) he (hi.below b2))
 have HW:=zA (fun (W:World) (hW:Below ((w.alloc (.cells e 175)).alloc (.cells (Qo 0) 41)).heap.size ((w.alloc (.cells e 175)).alloc (.cells (Qo 0) 41)) W) (v':Value) (hv':BytesC W v' (3::Pl.vints e.nums))=>wX F s size bs (3::Pl.vints e.nums) used upto inc es v' W ((h.below b2).below hW) hl hs hs' hv' hlr hf)
 have HB:=zA b2
 have HX:=zA hx2
 have HY:=zA hy2
 have HST:=zA (fun (W:World) (hW:Below ((w.alloc (.cells e 175)).alloc (.cells (Qo 0) 41)).heap.size ((w.alloc (.cells e 175)).alloc (.cells (Qo 0) 41)) W)=>(h.below b2).below hW)
 have HNE:=zA hne
 have HES:=zA hes
 have HIN:=zA hin
 have hq:∀w,(binOp BinOp.eql 103 (Qp s) (.pointer none)).run prog w=.ok (.bool false) w:=fun _=>rfl
 obtain⟨c0,c1,c2,c3,c4,c5,c6,c7,c8,c9,c10,c11,c12,c13⟩:=c14 hx2
 clear b1 b2 hx1 hx2 hy2 h hne hes hin hf
 go_enter_defers func309,ntmps309
 go_wp2_with fail
 generalize ((w.alloc (.cells e 175)).alloc (.cells (Qo 0) 41))=W2 at *
 refine HT.out.mono ?_
 rintro x w3 ⟨v3,rfl,o3,b3⟩
 have HX3:=zA (zZ b3 HX.out)
 have HY3:=zA (zZ b3 HY.out)
 have HB3:=zA (HB.out.trans (b3.mono HB.out.size))
 have HS3:=zA (HST.out w3 b3)
 have HW3:=zA (fun (W:World) (hW:Below w3.heap.size w3 W)=>HW.out W (b3.trans (hW.mono b3.size)) v3 (o3.toT.toC.below hW))
 clear o3 b3 HT HW HST c0 c1 c2 c3 c4 c5 c6 c7 c8 c9 c10 c11 c12 c13
 obtain⟨d,v,q0,q1,q2,q3,q4,fz,hr,hd,ho,hv⟩:=HS3.out.cells
 have qD:RowC kEv w3 v es:=(show OwnR kEv 0 w3 v es from ho).toT.toC
 have qM:=zA qD
 have HQ:=zA (fun (W:World) (hW:Below w3.heap.size w3 W)=>(hW.block s (World.rowIs.lt hr)).trans rfl)
 have HC4:=zA (fun (W:World) (hW:Below w3.heap.size w3 W)=>(hW.cell (p:=⟨s,4,none⟩) (World.rowIs.lt hr)).trans q4)
 have HXW:=zA (fun (W:World) (hW:Below w3.heap.size w3 W)=>zZ hW HX3.out)
 clear q0 q1 q2 q3 q4 fz hr hd ho hv qD
 go_wp2_with fail
 refine zD (fun W=>Below w3.heap.size w3 W) 99 lE (Below.refl _ _).drew (fun qB=>?_)
 refine zX 0 10 rfl ?_
 refine zX 1 11 rfl ?_
 refine zX 2 12 rfl ?_
 refine tkq 3 13 rfl lR ?_
 refine zX 4 14 rfl ?_
 refine tkq 5 15 rfl lS ?_
 refine t1 6 rfl (fun K hK=>?_)
 go_simp
 refine(sV v es e.node e.seq _ (by have:=HES.out;omega) (qM.out.below qB) HNE.out).mono ?_
 rintro x w4 ⟨rfl,b4⟩
 have HB4:=zA (qB.trans (b4.mono qB.size))
 clear b4 qB
 refine hK.out _ _ (fun _=>HB4.out) (fun _=>?_)
 clear hK K
 try simp only[zP]
 refine t1 7 rfl (fun K hK=>?_)
 go_simp
 refine hK.out _ _ (fun _=>HB4.out) (fun _=>?_)
 clear hK K
 try simp only[zP]
 refine t1 8 rfl (fun K hK=>?_)
 go_simp
 refine(xW rfl).mono ?_
 rintro x w' ⟨rfl,rfl⟩
 refine hK.out _ _ (fun _=>HB4.out) (fun _=>?_)
 clear hK K
 try simp only[zP]
 refine wd ?_
 have HW4:=zA (HW3.out w4 HB4.out)
 have HX4:=zA (HXW.out w4 HB4.out)
 have HY4:=zA ((HB4.out.block _ (gsi.1 HY3.out).1).trans HY3.out)
 have HBB:=zA (HB3.out.trans (HB4.out.mono HB3.out.size))
 have HFS:=zA HS3.out.1
 clear HXW HC4 HQ qM HW3 HS3
 go_wp2_with fail
 refine HW4.out.mono ?_
 rintro x w5 ⟨rfl,b5⟩
 have y5:=zZ b5 HY4.out
 have HB5:=zA (HBB.out.trans (b5.mono HBB.out.size))
 have HY5:=zA y5
 clear b5 y5 HW4
 go_wp2_with fail
 refine leaves_cons (f:=283) (args:=#[Qp (w.heap.size+1)]) (by simp) (by simp[go_sem]) ?_
 have hlt:=(gsi.1 HY5.out).1
 refine(wO ⟨w.heap.size+1,0,none⟩ 7 0 [] _ (zE HY5.out rfl) (zB HY5.out 0)).mono ?_
 rintro e' u' w'' ⟨rfl,rfl,rfl⟩
 have hz:=zM (HB5.out.alloc HB5.out.size (.cells (Qo 7) 444)) (show w.heap.size≤w.heap.size+1 by omega) 0 (.int .i64 7)
 have cz:((w5.alloc (.cells (Qo 7) 444)).setCell ⟨w.heap.size+1,0,none⟩ (.int .i64 7)).cell? ⟨w.heap.size+1,0,none⟩=some (.int .i64 7):=World.cell?_setCell_same _ _ _ ((World.cell?_alloc_lt _ _ _ hlt).trans (zE HY5.out rfl))
 generalize (w5.alloc (.cells (Qo 7) 444)).setCell ⟨w.heap.size+1,0,none⟩ (.int .i64 7)=Z at *
 simp[Leaves,settle,results,results309,go_sem,cz]
 exact hz
theorem keep_ok (F:Nat→Prop) (s:Nat) (size:Int) (bs:List Int) (used upto inc:Int) (es:List Pl.Ev) (e:Pl.Ev) (w:World) (h:StAt F w s size bs used upto inc es) (hin:∀g,F g→g<w.heap.size) (hl:bs.length≤900000) (hs:0≤size) (hs':size≤16384)
  (h45:∀(g:Nat) (cs:Array Value) (fr:Nat×Nat),w.heap[g]?=some (Obj.cells cs 45 fr)→¬F g) (he:e.Ok) (hi:Is w e) (hne:∀x∈es,(x.node == e.node&&x.seq == e.seq)=false) (hes:es.length≤1000) (hf:(bs.length:Int)+(Pl.frame (3::Pl.vints e.nums)).length≤size) :
  Calls prog 309 #[Qp s,evv e] w fun r w'=>r=.returned (.int .i64 0)∧(∃e':Pl.Ev,e'.abs=e.abs∧StAt (fun g=>F g∨w.heap.size≤g) w' s size (bs++(Pl.frame (3::Pl.vints e.nums))) used upto inc (es++[e']))∧Off F w w':=by
 have b1:=bn w (.cells e 175)
 have b2:=b1.alloc b1.size (.cells (Qo 0) 41)
 have hx1:=heap_alloc_new w (.cells e 175)
 have hx2:=((bn _ (.cells (Qo 0) 41)).block _ (gsi.1 hx1).1).trans hx1
 have hy2:=heap_alloc_new (w.alloc (.cells e 175)) (.cells (Qo 0) 41)
 rw[zG]at hy2
 have hlr:(3::Pl.vints e.nums).length≤4096:=by
  have h1:=Pl.vints_len e.nums he.small
  have h2:=he.len
  simp;omega
 have HT:=zA (told3_ok e ((w.alloc (.cells e 175)).alloc (.cells (Qo 0) 41)) he (hi.below b2))
 have HW:=zA (fun (W:World) (hW:Below ((w.alloc (.cells e 175)).alloc (.cells (Qo 0) 41)).heap.size ((w.alloc (.cells e 175)).alloc (.cells (Qo 0) 41)) W) (v':Value) (hv':BytesC W v' (3::Pl.vints e.nums))=>uS F s size bs (3::Pl.vints e.nums) used upto inc es v' W ((h.below b2).below hW) hl hs hs' hv' hlr hf)
 have HB:=zA b2
 have HX:=zA hx2
 have HY:=zA hy2
 have HST:=zA (fun (W:World) (hW:Below ((w.alloc (.cells e 175)).alloc (.cells (Qo 0) 41)).heap.size ((w.alloc (.cells e 175)).alloc (.cells (Qo 0) 41)) W)=>(h.below b2).below hW)
 have HNE:=zA hne
 have HES:=zA hes
 have HIS:=zA hi
 have H45:=zA h45
 have H96:=zA (show e.rm.length≤96 by obtain⟨n,s,_,hN⟩:=he.dot;exact hN.len)
 have HIN:=zA hin
 have hq:∀w,(binOp BinOp.eql 103 (Qp s) (.pointer none)).run prog w=.ok (.bool false) w:=fun _=>rfl
 obtain⟨c0,c1,c2,c3,c4,c5,c6,c7,c8,c9,c10,c11,c12,c13⟩:=c14 hx2
 clear b1 b2 hx1 hx2 hy2 h hne hes hin hf hi h45
 go_enter_defers func309,ntmps309
 go_wp2_with fail
 generalize ((w.alloc (.cells e 175)).alloc (.cells (Qo 0) 41))=W2 at *
 refine HT.out.mono ?_
 rintro x w3 ⟨v3,rfl,o3,b3⟩
 have HX3:=zA (zZ b3 HX.out)
 have HY3:=zA (zZ b3 HY.out)
 have HB3:=zA (HB.out.trans (b3.mono HB.out.size))
 have HS3:=zA (HST.out w3 b3)
 have HW3:=zA (fun (W:World) (hW:Below w3.heap.size w3 W)=>HW.out W (b3.trans (hW.mono b3.size)) v3 (o3.toT.toC.below hW))
 clear o3 b3 HT HW HST c0 c1 c2 c3 c4 c5 c6 c7 c8 c9 c10 c11 c12 c13
 obtain⟨d,v,q0,q1,q2,q3,q4,fz,hr,hd,ho,hv⟩:=HS3.out.cells
 have qD:RowC kEv w3 v es:=(show OwnR kEv 0 w3 v es from ho).toT.toC
 have qM:=zA qD
 have HQ:=zA (fun (W:World) (hW:Below w3.heap.size w3 W)=>(hW.block s (World.rowIs.lt hr)).trans rfl)
 have HC4:=zA (fun (W:World) (hW:Below w3.heap.size w3 W)=>(hW.cell (p:=⟨s,4,none⟩) (World.rowIs.lt hr)).trans q4)
 have HXW:=zA (fun (W:World) (hW:Below w3.heap.size w3 W)=>zZ hW HX3.out)
 clear q0 q1 q2 q3 q4 fz hr hd ho hv qD
 go_wp2_with fail
 refine zD (fun W=>Below w3.heap.size w3 W) 99 lE (Below.refl _ _).drew (fun qB=>?_)
 refine zX 0 10 rfl ?_
 refine zX 1 11 rfl ?_
 refine zX 2 12 rfl ?_
 refine tkq 3 13 rfl lR ?_
 refine zX 4 14 rfl ?_
 refine tkq 5 15 rfl lS ?_
 refine t1 6 rfl (fun K hK=>?_)
 go_simp
 refine(sV v es e.node e.seq _ (by have:=HES.out;omega) (qM.out.below qB) HNE.out).mono ?_
 rintro x w4 ⟨rfl,b4⟩
 have HB4:=zA (qB.trans (b4.mono qB.size))
 clear b4 qB
 refine hK.out _ _ (fun _=>HB4.out) (fun _=>?_)
 clear hK K
 try simp only[zP]
 refine t1 7 rfl (fun K hK=>?_)
 go_simp
 refine hK.out _ _ (fun _=>HB4.out) (fun _=>?_)
 clear hK K
 try simp only[zP]
 refine t1 8 rfl (fun K hK=>?_)
 go_simp
 refine(xW rfl).mono ?_
 rintro x w' ⟨rfl,rfl⟩
 refine hK.out _ _ (fun _=>HB4.out) (fun _=>?_)
 clear hK K
 try simp only[zP]
 refine wd ?_
 have HW4:=zA (HW3.out w4 HB4.out)
 have HX4:=zA (HXW.out w4 HB4.out)
 have HY4:=zA ((HB4.out.block _ (gsi.1 HY3.out).1).trans HY3.out)
 have HBB:=zA (HB3.out.trans (HB4.out.mono HB3.out.size))
 have HFS:=zA HS3.out.1
 clear HXW HC4 HQ qM HW3 HS3
 go_wp2_with fail
 refine HW4.out.mono ?_
 rintro x w5 ⟨rfl,S5,o5⟩
 have hnF:∀g,w.heap.size≤g→¬F g:=fun g hg hf=>by have:=HIN.out g hf;omega
 have x5:=(o5.same _ (gsi.1 HX4.out).1 (hnF _ (Nat.le_refl _))).trans HX4.out
 have y5:=(o5.same _ (gsi.1 HY4.out).1 (hnF _ lD)).trans HY4.out
 have HS5:=zA S5
 have HX5:=zA x5
 have HY5:=zA y5
 have HO5:=zA (o5.after HBB.out (G:=F) (fun g _ hg=>hg))
 obtain⟨d5,v5,q0,q1,q2,q3,q4,fz,hr,hd,ho,hv⟩:=S5.cells
 have qX:=zA (show OwnR kEv 0 w5 v5 es from ho)
 have HIS5:=zA (((HIS.out.below HBB.out).off o5 (fun g cs fr hg hF=>H45.out g cs fr ((HBB.out.block g (HIN.out g hF)).symm.trans hg) hF)))
 clear S5 x5 y5 o5 HW4
 go_wp2_with fail
 have HNO:=zA (show ∀g,v5.ownBlock=some g→g≠w.heap.size∧g≠w.heap.size+1 from fun g hg=>by
  have h1:=hv g hg
  have h2:=(gsi.1 HX4.out).1
  have h3:=(gsi.1 HY4.out).1
  rcases h1 with h1 | h1
  ·have:=HIN.out g h1;omega
  ·omega)
 have HSW:=zA (fun (W:World) (hW:Off (fun g=>v5.ownBlock=some g) w5 W)=>(show W.heap[s]?=w5.heap[s]? from hW.same s hr.lt (fun e=>by
  obtain⟨cs,hcs⟩:=zK qX.out e
  obtain⟨c,hc,_⟩:=id hr
  rw[hc]at hcs;exact zH lF hcs)))
 have HC4:=zA (fun (W:World) (hW:Off (fun g=>v5.ownBlock=some g) w5 W)=>(show W.cell? ⟨s,4,none⟩=some v5 from by
  unfold World.cell?
  simp only[HSW.out W hW]
  exact q4))
 have HXW:=zA (fun (W:World) (hW:Off (fun g=>v5.ownBlock=some g) w5 W)=>(hW.same _ (gsi.1 HX5.out).1 (fun e=>(HNO.out _ e).1 rfl)).trans HX5.out)
 have HYW:=zA (fun (W:World) (hW:Off (fun g=>v5.ownBlock=some g) w5 W)=>(hW.same _ (gsi.1 HY5.out).1 (fun e=>(HNO.out _ e).2 rfl)).trans HY5.out)
 have HR:=zA hr
 have HD:=zA hd
 have HV:=zA hv
 have HFZ:=zA (fz 4)
 have HQ4:=zA q4
 clear q0 q1 q2 q3 q4 fz hr hd ho hv
 refine zD (fun W=>Off (fun g=>v5.ownBlock=some g) w5 W) 11 lE ⟨Nat.le_refl _,fun _ _ _=>rfl,rfl,rfl,rfl⟩ (fun qB=>?_)
 refine zX 0 22 rfl ?_
 refine zX 1 23 rfl ?_
 refine zX 2 24 rfl ?_
 refine zX 3 25 rfl ?_
 refine tkq 4 26 rfl lR ?_
 refine tkq 5 27 rfl kB ?_
 refine t1 6 rfl (fun K hK=>?_)
 go_simp
 refine(sown_ok e _ H96.out (HIS5.out.off qB (fun g cs fr hg y=>by
  obtain⟨cs',hcs⟩:=zK qX.out y
  rw[hcs]at hg;exact zH lF hg))).mono ?_
 rintro x w6 ⟨ro,rc,rfl,i6,b6⟩
 have HAX:=zA (show(e.mv ro rc).abs=e.abs from rfl)
 clear i6
 generalize e.mv ro rc=ex at *
 have h6:=qB.trans (Off.of_below b6)
 have HH6:=zA h6
 have HO6:=zA ((qX.out.keep (w':=w5.drew) (fun g hg=>rfl)).below b6)
 clear b6 qB h6
 refine hK.out _ _ (fun _=>HH6.out) (fun _=>?_)
 clear hK K
 try simp only[zP]
 refine t1 7 rfl (fun K hK=>?_)
 go_simp
 have b7:=bn w6 (.cells (eva ex) 175)
 have HH7:=zA (HH6.out.trans (Off.of_below b7))
 have HO7:=zA (HO6.out.below b7)
 have qI:=zA (show RowC kEv (w6.alloc (.cells (eva ex) 175)) (.slice (some ⟨w6.heap.size,0,none⟩) 1 1) [ex]from yK kEv w6 [ex] (eva ex) 1 rfl (by simp[Rk.encs,kEv]))
 have HPOS:=zA HH6.out.size
 clear b7
 refine hK.out _ _ (fun _=>HH7.out) (fun _=>?_)
 clear hK K
 try simp only[zP]
 generalize w6.alloc (.cells (eva ex) 175)=w7 at *
 refine t1 8 rfl (fun K hK=>?_)
 rw[if_pos (by rfl)]
 obtain⟨ao5,cap5,rfl⟩:=HO7.out.toT.form
 refine owp_appP kEv (.tmp 26) (.tmp 29) rfl rfl HO7.out rfl qI.out (by simp) (by have:=HES.out;simp;omega) (Below.refl 0 w7) (Nat.zero_le _) ?_
 intro v8 w8 hown8 hb8 hg8 hp8
 obtain⟨ao8,cap8,hv8⟩:=hown8.toT.form
 rw[List.length_append,List.length_singleton]at hv8
 subst hv8
 have hg9:World.grownBy w7 w8 (Value.slice ao5 es.length cap5).ownBlock:=hg8
 have hp9:∀g,(Value.slice ao8 (es.length+1) cap8).ownBlock=some g→(Value.slice ao5 es.length cap5).ownBlock=some g∨g=w7.heap.size:=hp8
 have HH8:=zA (HH7.out.trans ⟨hg9.size,fun g hg hn=>hg9.block g hg (fun e=>hn e.symm),hg9.os,hg9.tape,hg9.output⟩)
 have HP9:=zA (fun g (hg:(Value.slice ao8 (es.length+1) cap8).ownBlock=some g)=>(hp9 g hg).imp id (fun (h:g=w7.heap.size)=>(show w5.heap.size≤g by rw[h];exact HH7.out.size)))
 have HO8:=zA hown8
 clear hb8 hg8 hp8 hg9 hp9 hown8
 refine hK.out _ _ (fun _=>HH8.out) (fun _=>?_)
 clear hK K
 try simp only[zP]
 refine t1 9 rfl (fun K hK=>?_)
 go_simp
 refine hK.out _ _ (fun _=>HH8.out) (fun _=>?_)
 clear hK K
 try simp only[zP]
 refine t1 10 rfl (fun K hK=>?_)
 go_simp
 refine hK.out _ _ (fun _=>HH8.out) (fun _=>?_)
 clear hK K
 try simp only[zP]
 refine t1 11 rfl (fun K hK=>?_)
 have c4:=HC4.out w8 HH8.out
 have f4:w8.frozen? ⟨s,4,none⟩=false:=by
  obtain⟨c,hc,_⟩:=HR.out
  exact zB ((HSW.out w8 HH8.out).trans hc) 4
 go_simp
 have hs4:w.heap.size≤w4.heap.size:=HBB.out.size
 have S8:=(st_push HS5.out.1 HR.out HD.out qX.out HV.out HH8.out HO8.out HP9.out).mono (G:=fun g=>F g∨w.heap.size≤g) (fun g hg=>by
  rcases hg with(hg | hg) | hg
  ·exact .inl hg
  ·exact .inr (Nat.le_trans hs4 hg)
  ·exact .inr (Nat.le_trans HO5.out.size hg))
 have o8:Off F w w8:=(Off.trans (HO5.out.mono (G:=fun g=>F g∨w.heap.size≤g) (fun g _ hg=>.inl hg)) (HH8.out.mono (fun g _ hg=>(HV.out g hg).imp id (fun h=>Nat.le_trans hs4 h)))).mono (fun g hg hh=>by
  rcases hh with hh | hh
  ·exact hh
  ·omega)
 have o9:=o8.set (a:=⟨s,4,none⟩) (.inl HFS.out) (.slice ao8 (es.length+1) cap8)
 have y8:=HYW.out w8 HH8.out
 have hsf:w.heap.size+1≠s:=fun e=>by
  obtain⟨c,hc,_⟩:=HR.out
  rw[←HSW.out w8 HH8.out,←e,y8]at hc;exact zH lF hc
 have y9:=(Below.heap_setCell w8 ⟨s,4,none⟩ (.slice ao8 (es.length+1) cap8) (w.heap.size+1) hsf).trans y8
 have HS8:=zA S8
 have HO9:=zA o9
 have HY9:=zA y9
 clear S8 o8 o9 y8 y9 hsf hs4 HSW HC4 HXW HYW c4 f4
 refine hK.out _ _ (fun h=>absurd rfl h) (fun _=>?_)
 clear hK K
 try simp only[zP]
 refine wd ?_
 have cf:=cc 0 HY9.out
 have ff:=zB HY9.out 0
 generalize w8.setCell ⟨s,4,none⟩ (.slice ao8 (es.length+1) cap8)=w9 at *
 go_wp2_with fail
 refine leaves_cons (f:=283) (args:=#[Qp (w.heap.size+1)]) (by simp) (by simp[go_sem]) ?_
 refine(wA _ _).mono ?_
 rintro e' u' w'' ⟨rfl,rfl,rfl⟩
 have S10:=HS8.out.other HY9.out lF 0 (.int .i64 0)
 have o10:=HO9.out.set (a:=⟨w.heap.size+1,0,none⟩) (.inr (by show w.heap.size≤w.heap.size+1;omega)) (.int .i64 0)
 have cz:=World.cell?_setCell_same w9 ⟨w.heap.size+1,0,none⟩ (.int .i64 0) cf
 generalize w9.setCell ⟨w.heap.size+1,0,none⟩ (.int .i64 0)=Z at *
 simp[Leaves,settle,results,results309,go_sem,cz]
 exact⟨⟨ex,HAX.out,S10⟩,o10⟩
theorem wK {α β:Type} (f:α→β):∀(l:List α) (k:Nat),(l.eraseIdx k).map f=(l.map f).eraseIdx k
 | [],k=>by simp
 | a::l,0=>by simp
 | a::l,k+1=>by simp[wK f l k]
theorem uP {α β:Type} [DecidableEq α]:∀(l:List (α×β)) (k:Nat) (d:α) (v:β),(l.map (·.1)).Nodup→l[k]?=some (d,v)→l.filter (fun p=>decide (p.1≠d))=l.eraseIdx k
 | [],k,d,v,_,h=>by simp at h
 | p::l,0,d,v,hn,h=>by
  simp at h
  subst h
  simp only[List.map_cons,List.nodup_cons]at hn
  simp only[List.eraseIdx_cons_zero]
  rw[List.filter_cons,if_neg (by simp)]
  apply List.filter_eq_self.2
  intro q hq
  have:q.1≠d:=fun e=>hn.1 (e ▸ List.mem_map.2 ⟨q,hq,rfl⟩)
  simpa using this
 | p::l,k+1,d,v,hn,h=>by
  simp only[List.map_cons,List.nodup_cons]at hn
  simp at h
  have hm:d∈l.map (·.1):=List.mem_map.2 ⟨(d,v),List.mem_of_getElem? h,rfl⟩
  have:p.1≠d:=fun e=>hn.1 (e ▸ hm)
  simp only[List.eraseIdx_cons_succ]
  rw[List.filter_cons,if_pos (by simpa using this),uP l k d v hn.2 h]
theorem stays45 (d:Nat×Nat):Instr.sameBits 10000 (dkey d) (dkey d)=true:=by
 unfold dkey
 simp[Instr.sameBits]
theorem dm_again {T E:TypeId} (hT:prog.underlying T=some (.map 45 E)) {w:World} {b:Nat} {l:List ((Nat×Nat)×Value)} (h:DmAt w b l) (d:Nat×Nat) (v:Value) (hv:(d,v)∈l) :
  ∃o,(Instr.mapUpdate T (.map (some b)) (dkey d) v).run prog w=.ok () (setBlk w b o)∧DmAt (setBlk w b o) b l:=by
 obtain⟨es,clock,hb,he⟩:=h
 obtain⟨r,hr,hc⟩:=sH d w es.toList l he.fits
 have hg:(getObj b).run prog w=.ok (.map es clock) w:=by simp[getObj,Sem.run,hb]
 have hs:∀o,(setObj b o).run prog w=.ok () (setBlk w b o):=fun o=>by simp[setObj,Sem.run,hb,setBlk]
 rcases hc with⟨rfl,h1⟩ | ⟨k,u,rfl,hk⟩
 ·exact absurd rfl (h1 _ hv)
 ·obtain rfl:=key_one he.keys hk hv
  have hek:∃e,es[k]?=some e∧e.key=dkey d∧e.val=u:=by
   have:=congrArg (fun x=>x[k]?) he.fits
   simp only[List.getElem?_map,hk,Option.map_some]at this
   rw[Array.getElem?_toList]at this
   rcases h:es[k]? with _ | e
   ·rw[h]at this;simp at this
   ·rw[h]at this
    simp at this
    exact⟨e,rfl,this.1,this.2⟩
  obtain⟨e,h1,h2,h3⟩:=hek
  have hm:es.modify k (fun e=>{e with key:=dkey d,val:=u})=es:=by
   apply Array.ext
   ·simp
   ·intro i hi1 hi2
    rw[Array.getElem_modify]
    split
    ·rename_i hki
     subst hki
     obtain⟨_,rfl⟩:=gsi.1 h1
     revert h2 h3
     generalize es[k]=x
     intro h2 h3
     cases x
     cases h2
     cases h3
     rfl
    ·rfl
  refine⟨.map es clock,?_,es,clock,yI hb _,he⟩
  unfold Instr.mapUpdate
  simp[run_underlying hT,hg,vK,hr,Instr.keyThatStays,h1,h2,stays45,hm,hs]
theorem dm_del {T E:TypeId} (hT:prog.underlying T=some (.map 45 E)) {w:World} {b:Nat} {l:List ((Nat×Nat)×Value)} (h:DmAt w b l) (d:Nat×Nat) :
  ∃o,(∀ty,(Builtin.delete_ #[T,45] ty #[.map (some b),dkey d]).run prog w=.ok (.tuple #[]) (setBlk w b o))∧DmAt (setBlk w b o) b (l.filter (fun p=>decide (p.1≠d))):=by
 obtain⟨es,clock,hb,he⟩:=h
 obtain⟨r,hr,hc⟩:=sH d w es.toList l he.fits
 have hg:(getObj b).run prog w=.ok (.map es clock) w:=by simp[getObj,Sem.run,hb]
 have hs:∀o,(setObj b o).run prog w=.ok () (setBlk w b o):=fun o=>by simp[setObj,Sem.run,hb,setBlk]
 rcases hc with⟨rfl,h1⟩ | ⟨k,u,rfl,hk⟩
 ·refine⟨.map es clock,fun ty=>?_,es,clock,yI hb _,?_⟩
  ·unfold Builtin.delete_
   simp[run_underlying hT,hg,vK,hr,hs]
  ·rw[List.filter_eq_self.2 (fun p hp=>by simpa using h1 p hp)]
   exact he
 ·have hlt:k<es.size:=by
   have h1:=congrArg List.length he.fits
   have h2:=(List.getElem?_eq_some_iff.1 hk).1
   simp at h1;omega
  have htl:(es.eraseIdxIfInBounds k).toList=es.toList.eraseIdx k:=by
   unfold Array.eraseIdxIfInBounds
   rw[dif_pos hlt,Array.toList_eraseIdx]
  refine⟨.map (es.eraseIdxIfInBounds k) clock,fun ty=>?_,_,clock,yI hb _,?_⟩
  ·unfold Builtin.delete_
   simp[run_underlying hT,hg,vK,hr,hs]
  ·rw[uP l k d u he.keys hk]
   refine⟨?_,fun e hm=>?_,?_,?_⟩
   ·rw[htl,wK,he.fits,←wK]
   ·rw[htl]at hm
    exact he.born e (List.mem_of_mem_eraseIdx hm)
   ·rw[htl,wK]
    exact(List.eraseIdx_sublist _ _).nodup he.nodup
   ·rw[wK]
    exact(List.eraseIdx_sublist _ _).nodup he.keys
def seenD (S:List (Nat×Nat)):List ((Nat×Nat)×Value):=S.map (fun d=>(d,.bool true))
def addD (S:List (Nat×Nat)) (d:Nat×Nat):List (Nat×Nat):=if d∈S then S else S++[d]
theorem mem_addD {S:List (Nat×Nat)} {d x:Nat×Nat}:x∈addD S d↔x∈S∨x=d:=by
 unfold addD
 split
 ·rename_i h
  exact⟨.inl,fun h'=>h'.elim id (fun e=>e ▸ h)⟩
 ·simp
theorem dm_see {T E:TypeId} (hT:prog.underlying T=some (.map 45 E)) {w:World} {b:Nat} {S:List (Nat×Nat)} (h:DmAt w b (seenD S)) (d:Nat×Nat) :
  ∃o,(Instr.mapUpdate T (.map (some b)) (dkey d) (.bool true)).run prog w=.ok () (setBlk w b o)∧DmAt (setBlk w b o) b (seenD (addD S d)):=by
 unfold addD
 split
 ·rename_i hm
  exact dm_again hT h d _ (List.mem_map.2 ⟨d,hm,rfl⟩)
 ·rename_i hm
  have:=dm_put hT h d (fun p hp=>by
   obtain⟨x,hx,rfl⟩:=List.mem_map.1 hp
   exact fun e=>hm (e ▸ hx)) (.bool true)
  unfold seenD at *
  simpa using this
def Pl.Ev.at (e:Pl.Ev):Nat×Nat:=(e.node.toNat,e.seq.toNat)
theorem Pl.Ev.Dot.key {e:Pl.Ev} {n s:Nat} (h:e.Dot n s):e.at=(n,s):=by
 unfold Pl.Ev.at
 rw[h.node,h.seq]
 rfl
def heldL (es:List Pl.Ev):List ((Nat×Nat)×Value):=es.map (fun e=>(e.at,evv e))
structure BkC (w:World) (b ms mh:Nat) (l l':List ((Nat×Nat)×Value)) (clock:Int):Prop where
 cells:w.heap[b]?=some (.cells #[.map (some ms),.map (some mh),.int .i64 clock] 185 (0,0))
 seen:DmAt w ms l
 held:DmAt w mh l'
 ne:ms≠mh
theorem BkC.keep {w w':World} {b ms mh:Nat} {l l':List ((Nat×Nat)×Value)} {clock:Int} (h:BkC w b ms mh l l' clock) (k:∀g,g=b∨g=ms∨g=mh→w'.heap[g]?=w.heap[g]?):BkC w' b ms mh l l' clock:=
 ⟨(k b (.inl rfl)).trans h.cells,h.seen.keep (k ms (.inr (.inl rfl))),h.held.keep (k mh (.inr (.inr rfl))),h.ne⟩
theorem BkC.lt {w:World} {b ms mh:Nat} {l l':List ((Nat×Nat)×Value)} {clock:Int} (h:BkC w b ms mh l l' clock):b<w.heap.size∧ms<w.heap.size∧mh<w.heap.size:=
 ⟨(gsi.1 h.cells).1,h.seen.lt,h.held.lt⟩
theorem BkC.below {w w':World} {b ms mh:Nat} {l l':List ((Nat×Nat)×Value)} {clock:Int} (h:BkC w b ms mh l l' clock) (hb:Below w.heap.size w w'):BkC w' b ms mh l l' clock:=
 h.keep (fun g hg=>hb.block g (by have:=h.lt;rcases hg with rfl | rfl | rfl<;>omega))
theorem BkC.put {w:World} {b ms mh:Nat} {l l':List ((Nat×Nat)×Value)} {clock:Int} (h:BkC w b ms mh l l' clock) {o:Obj} {m:List ((Nat×Nat)×Value)} (hm:DmAt (setBlk w ms o) ms m):BkC (setBlk w ms o) b ms mh m l' clock:=
 ⟨(zY w ms o (h.seen.cells_ne h.cells)).trans h.cells,hm,h.held.keep (zY w ms o h.ne.symm),h.ne⟩
theorem BkC.hold {w:World} {b ms mh:Nat} {l l':List ((Nat×Nat)×Value)} {clock:Int} (h:BkC w b ms mh l l' clock) {o:Obj} {m:List ((Nat×Nat)×Value)} (hm:DmAt (setBlk w mh o) mh m):BkC (setBlk w mh o) b ms mh l m clock:=
 ⟨(zY w mh o (h.held.cells_ne h.cells)).trans h.cells,h.seen.keep (zY w mh o h.ne),hm,h.ne⟩
theorem bnew_ok (w:World):Calls prog 290 #[] w fun r w'=>∃b ms mh,r=.returned (Qp b)∧w.heap.size≤b∧w.heap.size≤ms∧w.heap.size≤mh∧BkC w' b ms mh [] [] 0∧Below w.heap.size w w':=by
 have b1:=bn w (.map #[] 0)
 have b2:=b1.alloc b1.size (.map #[] 0)
 have b3:=b2.alloc b2.size (.cells #[.map (some w.heap.size),.map (some (w.heap.size+1)),.int .i64 0] 185)
 have h1:=rX w
 have h2:=rX (w.alloc (.map #[] 0))
 have h1':=(h1.below (bn _ (.map #[] 0))).below (bn _ (.cells #[.map (some w.heap.size),.map (some (w.heap.size+1)),.int .i64 0] 185))
 have h2':=h2.below (bn _ (.cells #[.map (some w.heap.size),.map (some (w.heap.size+1)),.int .i64 0] 185))
 have h3:=heap_alloc_new ((w.alloc (.map #[] 0)).alloc (.map #[] 0)) (.cells #[.map (some w.heap.size),.map (some (w.heap.size+1)),.int .i64 0] 185)
 rw[zG]at h2'
 rw[zG,zG]at h3
 have HB:=zA b3
 have HK:=zA (show BkC _ (w.heap.size+1+1) w.heap.size (w.heap.size+1) [] [] 0 from⟨h3,h1',h2',by omega⟩)
 have m1:∀w,Sem.run prog (Instr.makeMap 182 none) w=.ok (.map (some w.heap.size)) (w.alloc (.map #[] 0)):=fun _=>by kernel_rfl
 have m2:∀w,Sem.run prog (Instr.makeMap 183 none) w=.ok (.map (some w.heap.size)) (w.alloc (.map #[] 0)):=fun _=>by kernel_rfl
 clear b1 b2 b3 h1 h2 h1' h2' h3
 go_enter func290,ntmps290
 go_wp2_with fail
 go_ret
 exact⟨_,_,_,rfl,by omega,by omega,by omega,HK.out,HB.out⟩
theorem see_ok (b ms mh n s:Nat) (S:List (Nat×Nat)) (l':List ((Nat×Nat)×Value)) (clock:Int) (w:World) (h:BkC w b ms mh (seenD S) l' clock) :
  Calls prog 282 #[Qp b,.agg (Qi n s)] w fun r w'=>r=.returned (.tuple #[])∧BkC w' b ms mh (seenD (addD S (n,s))) (l'.filter (fun p=>decide (p.1≠(n,s)))) clock∧Off (fun g=>g=ms∨g=mh) w w':=by
 have b1:=bn w (.cells (Qi n s) 45)
 have hx:=heap_alloc_new w (.cells (Qi n s) 45)
 have hk:=h.below b1
 have HB:=zA b1
 have HX:=zA hx
 have HK:=zA hk
 have hC0:=hk.cells
 clear b1 hx h hk
 go_enter func282,ntmps282
 go_wp2_with fail
 generalize w.alloc (.cells (Qi n s) 45)=W at *
 have c0:=cc 0 hC0
 have d0:=cc 0 HX.out
 have d1:=cc 1 HX.out
 clear hC0
 refine zD (fun W'=>W'.cell? ⟨b,0,none⟩=some (.map (some ms))∧W'.cell? ⟨w.heap.size,0,none⟩=some (.int .i64 n)∧W'.cell? ⟨w.heap.size,1,none⟩=some (.int .i64 s)) 5 lE ⟨c0,d0,d1⟩ (fun qB=>?_)
 refine tk 0 4 rfl lG ?_
 refine tk 1 5 rfl lG ?_
 refine tk 2 6 rfl lG ?_
 refine tk 3 7 rfl lG ?_
 refine tk 4 8 rfl lG ?_
 clear qB
 obtain⟨o,qH,hdm⟩:=dm_see (T:=182) underlying182 (w:=W.drew) (HK.out.seen.keep rfl) (n,s)
 have qZ:Sem.run prog (Instr.mapUpdate 182 (.map (some ms)) (.agg (Qi n s)) (.bool true)) W.drew=.ok () (setBlk W.drew ms o):=qH
 refine t1 5 rfl (fun K hK=>?_)
 go_simp
 refine hK.out _ _ (fun h=>absurd rfl h) (fun _=>?_)
 clear hK K
 try simp only[zP]
 refine wd ?_
 have hk2:=(HK.out.keep (w':=W.drew) (fun g hg=>rfl)).put hdm
 have ho2:=((Off.of_below (F:=fun g=>g=ms∨g=mh) (HB.out.drew)).setBlk (b:=ms) (.inl (.inl rfl)) o)
 have hx2:=(zY W.drew ms o (HK.out.seen.cells_ne HX.out)).trans HX.out
 have HK2:=zA hk2
 have HO2:=zA ho2
 have HX2:=zA hx2
 clear hk2 ho2 hx2 qH qZ hdm c0 d0 d1
 generalize setBlk W.drew ms o=W2 at *
 have c1:=cc 1 HK2.out.cells
 have d0:=cc 0 HX2.out
 have d1:=cc 1 HX2.out
 go_wp2_with fail
 refine zD (fun W'=>W'.cell? ⟨b,1,none⟩=some (.map (some mh))∧W'.cell? ⟨w.heap.size,0,none⟩=some (.int .i64 n)∧W'.cell? ⟨w.heap.size,1,none⟩=some (.int .i64 s)) 99 lE ⟨c1,d0,d1⟩ (fun qB=>?_)
 refine tk 0 9 rfl lG ?_
 refine tk 1 10 rfl lG ?_
 refine tk 2 11 rfl lG ?_
 refine tk 3 12 rfl lG ?_
 refine tk 4 13 rfl lG ?_
 clear qB
 obtain⟨o2,qH,hdm2⟩:=dm_del (T:=183) underlying183 (w:=W2.drew) (HK2.out.held.keep rfl) (n,s)
 have qZ:∀ty,Sem.run prog (Builtin.delete_ #[183,45] ty #[.map (some mh),.agg (Qi n s)]) W2.drew=.ok (.tuple #[]) (setBlk W2.drew mh o2):=qH
 have HK3:=zA ((HK2.out.keep (w':=W2.drew) (fun g hg=>rfl)).hold hdm2)
 have HO3:=zA (Off.setBlk (w':=W2.drew) ⟨HO2.out.size,HO2.out.same,HO2.out.rest⟩ (b:=mh) (.inl (.inr rfl)) o2)
 have hx3:=(zY W2.drew mh o2 (HK2.out.held.cells_ne HX2.out)).trans HX2.out
 have e1:=cc 1 HK3.out.cells
 have e2:=cc 0 hx3
 have e3:=cc 1 hx3
 clear hx3
 refine t1 5 rfl (fun K hK=>?_)
 go_simp
 refine hK.out _ _ (fun _=>⟨e1,e2,e3⟩) (fun _=>?_)
 clear hK K
 try simp only[zP]
 refine wd ?_
 clear e1 e2 e3 qH qZ hdm2 c1 d0 d1
 go_wp2_with fail
 exact yG results282 ⟨rfl,HK3.out,HO3.out⟩
theorem max_run (x y:Int) (W:World):Sem.run prog (Builtin.max_ #[3,3] 3 (Qi x y)) W=.ok (.int .i64 (max x y)) W:=by
 unfold Builtin.max_
 simp[Builtin.max2]
 split<;>omega
theorem rS (es:List Pl.Ev) (e:Pl.Ev):heldL (es++[e])=heldL es++[(e.at,evv e)]:=by unfold heldL;simp
theorem beach_first (v a:Value) (f:Nat) (ds:List (Nat×Nat)) (I:Nat→World→Prop) (w:World) (h0:I 0 w) (hl:ds.length≤1000000000) (hD:∀k W,I k W→DotsC W v ds) (hA:∀k W W',I k W→Below W.heap.size W W'→I k W')
  (hcf:∀(x:Value) (W:World),Sem.run prog (callFunc f #[a,x]) W=.ok (.enter f #[a,x]) W)
  (hC:∀k (hk:k<ds.length) W,I k W→Calls prog f #[a,.agg (Qi (ds[k]).1 (ds[k]).2)] W fun e w'=>e=.returned (.tuple #[])∧I (k+1) w') :
  Calls prog 279 #[v,.func (.func f) #[a] #[]] w fun e w'=>e=.returned (.tuple #[])∧I ds.length w':=by
 exact oL
def outE (ds:List (Nat×Nat)) (es:List Pl.Ev):List Pl.Ev:=es.filter (fun x=>decide (x.at∉ds))
theorem sZ (ds:List (Nat×Nat)) (d:Nat×Nat) (es:List Pl.Ev):(heldL (outE ds es)).filter (fun p=>decide (p.1≠d))=heldL (outE (ds++[d]) es):=by
 unfold heldL outE
 rw[List.filter_map,List.filter_filter]
 congr 1
 apply List.filter_congr
 intro x _
 simp only[Function.comp_apply,List.mem_append,List.mem_singleton,ne_eq]
 by_cases h1:x.at=d<;>by_cases h2:x.at∈ds<;>simp[h1,h2]
theorem outE_nil (es:List Pl.Ev):outE [] es=es:=by unfold outE;simp
theorem outE_at {ds:List (Nat×Nat)} {es:List Pl.Ev} {d:Nat×Nat} (h:d∈ds):∀p∈heldL (outE ds es),p.1≠d:=fun p hp=>by
 unfold heldL outE at hp
 obtain⟨x,hx,rfl⟩:=List.mem_map.1 hp
 have:=(List.mem_filter.1 hx).2
 simp only[decide_eq_true_eq]at this
 exact fun e=>this (by rw[show x.at=d from e];exact h)
theorem BkC.clock {w:World} {b ms mh:Nat} {l l':List ((Nat×Nat)×Value)} {clock:Int} (h:BkC w b ms mh l l' clock) (c:Int):BkC (w.setCell ⟨b,2,none⟩ (.int .i64 c)) b ms mh l l' c:=
 ⟨by have:=zF (j:=2) h.cells (.int .i64 c);simpa using this,h.seen.keep (Below.heap_setCell _ _ _ _ (fun e=>h.seen.cells_ne h.cells e.symm)),h.held.keep (Below.heap_setCell _ _ _ _ (fun e=>h.held.cells_ne h.cells e.symm)),h.ne⟩
def addS (S:List (Nat×Nat)) (e:Pl.Ev):List (Nat×Nat):=e.rm.foldl addD (addD S e.at)
def addE (es:List Pl.Ev) (e e':Pl.Ev):List Pl.Ev:=outE (e.at::e.rm) es++[e']
theorem badd_ok (b ms mh:Nat) (S:List (Nat×Nat)) (es:List Pl.Ev) (clock:Int) (e:Pl.Ev) (w:World) (h:BkC w b ms mh (seenD S) (heldL es) clock) (he:e.Ok) (hi:Is w e) (hne:e.at∉S) :
  Calls prog 205 #[Qp b,evv e] w fun r w'=>r=.returned (.int .i64 0)∧(∃e':Pl.Ev,e'.abs=e.abs∧Is w' e'∧BkC w' b ms mh (seenD (addS S e)) (heldL (addE es e e')) (max clock e.time))∧Off (fun g=>g=b∨g=ms∨g=mh) w w':=by
 obtain⟨n,s,hd,hnm⟩:=he.dot
 have hkey:=hd.key
 have hmiss:∀p∈seenD S,p.1≠(n,s):=fun p hp=>by
  unfold seenD at hp
  obtain⟨x,hx,rfl⟩:=List.mem_map.1 hp
  rw[←hkey];exact fun y=>hne (y ▸ hx)
 have b1:=bn w (.cells e 175)
 have hx:=heap_alloc_new w (.cells e 175)
 have hlt:=h.lt
 have HRT:=zA (wZ e n s (w.alloc (.cells e 175)) hd (DotsT.toC (hi.below b1)) hnm)
 have HK:=zA (h.below b1)
 have HB:=zA b1
 have HX:=zA hx
 have HD:=zA hd
 have HE:=zA he
 have HM:=zA hmiss
 have HIS:=zA (hi.below b1)
 have HLR:=zA hnm.len
 have HKEY:=zA hkey
 have HLT:=zA hlt
 have hq:∀w,(binOp BinOp.eql 111 (Qp b) (.pointer none)).run prog w=.ok (.bool false) w:=fun _=>rfl
 obtain⟨c0,c1,c2,c3,c4,c5,c6,c7,c8,c9,c10,c11,c12,c13⟩:=c14 hx
 clear b1 hx h he hne hd hmiss hkey hlt hi hnm
 go_enter func205,ntmps205
 go_wp2_with fail
 generalize (w.alloc (.cells e 175))=W at *
 refine HRT.out.mono ?_
 rintro x w1 ⟨rfl,b1⟩
 rw[HE.out.right]
 have HK1:=zA (HK.out.below b1)
 have HX1:=zA (zZ b1 HX.out)
 have HB1:=zA (HB.out.trans (b1.mono HB.out.size))
 have HI1:=zA (HIS.out.below b1)
 clear b1 HK HX HRT HB c0 c1 c2 c3 c4 c5 c6 c7 c8 c9 c10 c11 c12 c13
 go_wp2_with fail
 have c0:=cc 0 HK1.out.cells
 have d0:=cc 0 HX1.out
 have d1:=cc 1 HX1.out
 have hz:∀w,(zeroValue 4).run prog w=.ok (.bool false) w:=fun _=>by kernel_rfl
 have hlook:Sem.run prog (Instr.lookup 182 (.map (some ms)) (.agg (Qi e.node e.seq)) false) w1.drew=.ok (.bool false) w1.drew:=by
  rw[HD.out.node,HD.out.seq]
  exact dm_miss (T:=182) (E:=4) underlying182 (w:=w1.drew) (HK1.out.seen.keep rfl) (n,s) HM.out (.bool false) (hz _) false
 refine zD (fun W'=>W'.cell? ⟨b,0,none⟩=some (.map (some ms))∧W'.cell? ⟨w.heap.size,0,none⟩=some (.int .i64 e.node)∧W'.cell? ⟨w.heap.size,1,none⟩=some (.int .i64 e.seq)) 99 lE ⟨c0,d0,d1⟩ (fun qB=>?_)
 refine tk 0 13 rfl lG ?_
 refine tk 1 14 rfl lG ?_
 refine tk 2 15 rfl lG ?_
 refine tk 3 16 rfl lG ?_
 refine tk 4 17 rfl lG ?_
 refine tk 5 18 rfl lG ?_
 clear qB
 refine t1 6 rfl (fun K hK=>?_)
 go_simp
 refine hK.out _ _ (fun _=>⟨c0,d0,d1⟩) (fun _=>?_)
 clear hK K
 try simp only[zP]
 refine t1 7 rfl (fun K hK=>?_)
 go_simp
 refine hK.out _ _ (fun _=>⟨c0,d0,d1⟩) (fun _=>?_)
 clear hK K
 try simp only[zP]
 refine wd ?_
 clear c0 hlook hz
 have HSEE:Hid (Calls prog 282 #[Qp b,.agg (Qi e.node e.seq)] w1.drew fun r w'=>r=.returned (.tuple #[])∧BkC w' b ms mh (seenD (addD S (n,s))) ((heldL es).filter (fun p=>decide (p.1≠(n,s)))) clock∧Off (fun g=>g=ms∨g=mh) w1.drew w'):=zA (by
  rw[HD.out.node,HD.out.seq]
  exact see_ok b ms mh n s S _ clock w1.drew (HK1.out.keep (fun g hg=>rfl)))
 have HB1':=zA HB1.out.drew
 have HX1':=zA (show w1.drew.heap[w.heap.size]?=_ from HX1.out)
 have HI1':=zA (show Is w1.drew e from DotsT.keep HI1.out (fun g cs fr hg=>rfl))
 have HMS:=zA (show ∀g cs fr,w1.drew.heap[g]?=some (Obj.cells cs 45 fr)→¬(g=ms∨g=mh)from fun g cs fr hg y=>by
  rcases y with y | y
  ·exact HK1.out.seen.cells_ne hg y
  ·exact HK1.out.held.cells_ne hg y)
 clear HB1 HX1 HK1 HI1 d0 d1
 generalize w1.drew=w2 at *
 have d0:=cc 0 HX1'.out
 have d1:=cc 1 HX1'.out
 go_wp2_with fail
 refine HSEE.out.mono ?_
 rintro x w3 ⟨rfl,hk3,o3⟩
 have hx3:=(o3.same _ (gsi.1 HX1'.out).1 (fun e'=>by
  have h1:=HLT.out.2
  rcases e' with e' | e'<;>omega)).trans HX1'.out
 have hi3:=HI1'.out.off o3 HMS.out
 have hk3':BkC w3 b ms mh (seenD (addD S (n,s))) (heldL (outE [(n,s)] es)) clock:=by
  have:=hk3
  rw[←outE_nil es,sZ]at this
  exact this
 have HO3:=zA (o3.after HB1'.out (G:=fun g=>g=b∨g=ms∨g=mh) (fun g _ hg=>.inr hg))
 have e13:=cc 13 hx3
 have HEACH:=zA (beach_first (.slice e.ro e.rn e.rc) (Qp b) 282 e.rm (fun k W=>BkC W b ms mh (seenD ((e.rm.take k).foldl addD (addD S (n,s)))) (heldL (outE ((n,s)::e.rm.take k) es)) clock∧W.heap[w.heap.size]?=some (.cells (eva e) 175 (0,0))∧Is W e∧Off (fun g=>g=b∨g=ms∨g=mh) w W) w3
  ⟨hk3',hx3,hi3,HO3.out⟩ (by have:=HLR.out;omega) (fun k W h=>DotsT.toC h.2.2.1) (fun k W W' h hb=>⟨h.1.below hb,zZ hb h.2.1,h.2.2.1.below hb,h.2.2.2.trans (Off.of_below hb)⟩) (fun x W=>rfl) (fun k hk W h=>by
   refine(see_ok b ms mh _ _ _ _ clock W h.1).mono ?_
   rintro r w' ⟨rfl,hk',o'⟩
   refine⟨rfl,?_,(o'.same _ (gsi.1 h.2.1).1 (fun y=>by
    have h1:=HLT.out.2
    rcases y with y | y<;>omega)).trans h.2.1,h.2.2.1.off o' (fun g cs fr hg y=>by
    rcases y with y | y
    ·exact h.1.seen.cells_ne hg y
    ·exact h.1.held.cells_ne hg y),h.2.2.2.comp o' (fun g _ hg=>.inr hg)⟩
   rw[sZ]at hk'
   rw[List.take_succ_eq_append_getElem hk,List.foldl_append]
   exact hk'))
 clear hk3 hk3' hx3 o3 d0 d1 HSEE hi3 HO3
 go_wp2_with fail
 refine HEACH.out.mono ?_
 rintro x w4 ⟨rfl,hk4,hx4,hi4,ho4⟩
 rw[List.take_length]at hk4
 have HK3:=zA hk4
 have HX3:=zA hx4
 have HO3:=zA ho4
 have HI3:=zA hi4
 clear hk4 hx4 hi4 ho4 HEACH e13
 clear HB1' HX1' HI1' HMS
 generalize hw:w4=w3 at *
 clear hw
 go_wp2_with fail
 have HCW:=zA (fun (W:World) (hW:Below w3.heap.size w3 W)=>(hW.block b (gsi.1 HK3.out.cells).1).trans HK3.out.cells)
 have HXW:=zA (fun (W:World) (hW:Below w3.heap.size w3 W)=>zZ hW HX3.out)
 refine zD (fun W=>Below w3.heap.size w3 W) 8 lE (Below.refl _ _).drew (fun qB=>?_)
 refine tkp 0 29 rfl ?_
 refine tkp 1 30 rfl ?_
 refine tkp 2 31 rfl ?_
 refine tk 3 32 rfl (by intro wS hSw;have y:=HCW.out _ hSw;have d0:=cc 1 y;clear hSw;go_simp;(try with_reducible rfl)) ?_
 refine tkp 4 33 rfl ?_
 refine tk 5 34 rfl lS ?_
 refine tk 6 35 rfl kB ?_
 refine t1 7 rfl (fun K hK=>?_)
 go_simp
 refine(rZ e _ HLR.out (HI3.out.below qB)).mono ?_
 rintro x w4 ⟨ro,rc,rfl,i4,b4⟩
 have HAX:=zA (show(e.mv ro rc).abs=e.abs from rfl)
 have HAT:=zA (show(e.mv ro rc).at=e.at from rfl)
 have HI4:=zA i4
 clear i4
 generalize e.mv ro rc=ex at *
 have HB4:=zA (qB.trans (b4.mono qB.size))
 clear b4 qB
 refine hK.out _ _ (fun _=>HB4.out) (fun _=>?_)
 clear hK K
 try simp only[zP]
 obtain⟨o,qH,hdm⟩:=dm_put (T:=183) underlying183 (w:=w4) (HK3.out.below HB4.out).held (n,s) (outE_at (by simp)) (evv ex)
 have qZ:Sem.run prog (Instr.mapUpdate 183 (.map (some mh)) (.agg (Qi e.node e.seq)) (evv ex)) w4=.ok () (setBlk w4 mh o):=by
  rw[HD.out.node,HD.out.seq];exact qH
 refine t1 8 rfl (fun K hK=>?_)
 go_simp
 refine hK.out _ _ (fun h=>absurd rfl h) (fun _=>?_)
 clear hK K
 try simp only[zP]
 refine wd ?_
 have hk5:=(HK3.out.below HB4.out).hold hdm
 rw[←HKEY.out,←HAT.out,←rS,HAT.out]at hk5
 have hx5:=(zY w4 mh o ((HK3.out.below HB4.out).held.cells_ne (HXW.out w4 HB4.out))).trans (HXW.out w4 HB4.out)
 have ho5:=(HO3.out.trans (Off.of_below HB4.out)).setBlk (b:=mh) (.inl (.inr (.inr rfl))) o
 have HK5:=zA hk5
 have HI5:=zA (show Is (setBlk w4 mh o) ex from DotsT.keep HI4.out (fun g cs fr hg=>zY w4 mh o ((HK3.out.below HB4.out).held.cells_ne hg)))
 have HX5:=zA hx5
 have HO5:=zA ho5
 clear hk5 hx5 ho5 qH qZ hdm HCW HXW HK3 HX3 HO3
 generalize setBlk w4 mh o=w5 at *
 go_wp2_with fail
 have c2:=cc 2 HK5.out.cells
 have d2:=cc 2 HX5.out
 have fz:=zB HK5.out.cells 2
 have hmx:=max_run clock e.time
 refine zD (fun W'=>W'.cell? ⟨b,2,none⟩=some (.int .i64 clock)∧W'.cell? ⟨w.heap.size,2,none⟩=some (.int .i64 e.time)) 10 lE ⟨c2,d2⟩ (fun qB=>?_)
 refine tk 0 37 rfl lK ?_
 refine tk 1 38 rfl lK ?_
 refine tk 2 39 rfl lK ?_
 refine tk 3 40 rfl lK ?_
 refine tk 4 41 rfl lK ?_
 refine tk 5 42 rfl lK ?_
 refine tk 6 43 rfl lK ?_
 refine tk 7 44 rfl lK ?_
 clear qB
 refine t1 8 rfl (fun K hK=>?_)
 go_simp
 refine hK.out _ _ (fun _=>⟨c2,d2⟩) (fun _=>?_)
 clear hK K
 try simp only[zP]
 refine t1 9 rfl (fun K hK=>?_)
 go_simp
 refine hK.out _ _ (fun _=>⟨c2,d2⟩) (fun _=>?_)
 clear hK K
 try simp only[zP]
 refine t1 10 rfl (fun K hK=>?_)
 go_simp
 refine hK.out _ _ (fun h=>absurd rfl h) (fun _=>?_)
 clear hK K
 try simp only[zP]
 refine wd ?_
 have hk6:=(HK5.out.keep (w':=w5.drew) (fun g hg=>rfl)).clock (max clock e.time)
 have ho6:Off (fun g=>g=b∨g=ms∨g=mh) w (w5.drew.setCell ⟨b,2,none⟩ (.int .i64 (max clock e.time))):=Off.set (w':=w5.drew) ⟨HO5.out.size,HO5.out.same,HO5.out.rest⟩ (.inl (.inl rfl)) _
 have HK6:=zA hk6
 have HI6:=zA (show Is (w5.drew.setCell ⟨b,2,none⟩ (.int .i64 (max clock e.time))) ex from DotsT.keep HI5.out (fun g cs fr hg=>Below.heap_setCell w5.drew _ _ _ (fun y=>by
  rw[show g=b from y,HK5.out.cells]at hg;exact zH lF hg)))
 have HO6:=zA ho6
 clear hk6 ho6 c2 d2 fz
 go_wp2_with fail
 go_ret
 exact⟨rfl,⟨ex,HAX.out,HI6.out,HK6.out⟩,HO6.out⟩
end
end Go.Proofs.YtodlmbfbfaofcaaGreat
