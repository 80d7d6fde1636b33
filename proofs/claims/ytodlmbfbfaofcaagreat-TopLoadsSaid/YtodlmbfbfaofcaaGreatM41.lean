/- TopLoads, part 41. -/
import Derived.Test.YtodlmbfbfaofcaaGreatM01
import Derived.Test.YtodlmbfbfaofcaaGreatM03
import Derived.Test.YtodlmbfbfaofcaaGreatM05
import Derived.Test.YtodlmbfbfaofcaaGreatM07
import Derived.Test.YtodlmbfbfaofcaaGreatM40
open Go.Proofs.Tryz
namespace Go.Proofs.YtodlmbfbfaofcaaGreat
set_option linter.unusedVariables false
set_option linter.unusedSimpArgs false
set_option maxRecDepth 100000
set_option maxHeartbeats 4000000
section
open Go.RowKit Rw Rh
theorem AgAt.talked {Fs:Nat→Prop} {w w':World} {p:AgP} {c:Cf} {size:Int} {bs:List Int} {used upto:Int} {own es:List Pl.Ev} {clock:Int} (h:AgAt Fs w p c size bs used upto own es clock) (hdt:DtAt w' p.D p.T p.O p.S c.n c.c0 c.c1 c.c2) (hof:Off (fun x=>x=p.T) w w'):AgAt Fs w' p c size bs used upto own es clock:=
 have hT:p.has p.T:=by simp[AgP.has]
 ⟨(hof.same _ (gsi.1 h.ag).1 (Ne.symm h.ne.1)).trans h.ag,h.st.keep (fun g hg=>hof.same g (h.lt g hg) (fun e=>h.sep g hg (by have e':g=p.T:=e;rw[e'];exact hT))),
  ⟨(hof.same _ (gsi.1 h.go.gs).1 (Ne.symm h.ne.2.1)).trans h.go.gs,h.go.bk.keep (fun g hg=>hof.same g (by obtain⟨h1,h2,h3⟩:=h.go.bk.lt;rcases hg with rfl | rfl | rfl<;>assumption) (fun e=>by
   rcases hg with rfl | rfl | rfl
   ·exact h.ne.2.2.1 e.symm
   ·exact h.ne.2.2.2.1 e.symm
   ·exact h.ne.2.2.2.2 e.symm)),h.go.ok,h.go.len,h.go.n8⟩,
  hdt,h.sep,fun g hg=>(h.ty g hg).keep (hof.same g (h.lt g hg) (fun e=>h.sep g hg (by have e':g=p.T:=e;rw[e'];exact hT))),h.ok,h.ne,h.sm⟩
theorem AgAt.gave {Fs:Nat→Prop} {w w':World} {p:AgP} {c:Cf} {size:Int} {bs:List Int} {used upto:Int} {own es:List Pl.Ev} {clock:Int} (h:AgAt Fs w p c size bs used upto own es clock) {es':List Pl.Ev} {cl:Int} (hgo:GoAt w' p.g p.o p.b p.ms p.mh c.n c.mtu es' cl) (hof:Off (fun x=>x=p.b∨x=p.ms∨x=p.mh) w w'):AgAt Fs w' p c size bs used upto own es' cl:=
 have hne:∀g,g=p.b∨g=p.ms∨g=p.mh→p.has g:=fun g hg=>by rcases hg with rfl | rfl | rfl<;>simp[AgP.has]
 ⟨(h.go.calm hof h.ag (by decide)).trans h.ag,h.st.keep (fun g hg=>hof.same g (h.lt g hg) (fun e'=>h.sep g hg (hne g e'))),hgo,
  h.dt.keep hof.size (fun g hg=>hof.same g (h.hlt g (by rcases hg with rfl | rfl | rfl<;>simp[AgP.has])) (fun e'=>by
   rcases hg with rfl | rfl | rfl
   ·rcases e' with e' | e' | e'
    ·have h1:=h.dt.ms;rw[e',h.go.bk.cells]at h1;exact zI (by decide) h1
    ·exact h.go.bk.seen.cells_ne h.dt.ms e'
    ·exact h.go.bk.held.cells_ne h.dt.ms e'
   ·rcases e' with e' | e' | e'
    ·exact h.ne.2.2.1 e'
    ·exact h.ne.2.2.2.1 e'
    ·exact h.ne.2.2.2.2 e'
   ·obtain⟨z,hz⟩:=h.dt.sm
    rcases e' with e' | e' | e'
    ·rw[e',h.go.bk.cells]at hz;cases hz
    ·exact h.sm.1 e'
    ·exact h.sm.2 e')),h.sep,fun g hg=>(h.ty g hg).keep (hof.same g (h.lt g hg) (fun e'=>h.sep g hg (hne g e'))),h.ok,h.ne,h.sm⟩
theorem aon_1 (Fs:Nat→Prop) (p:AgP) (c:Cf) (size:Int) (bs:List Int) (used upto:Int) (own es:List Pl.Ev) (clock:Int) (a nd:Nat) (v:Value) (w:World) (h:AgAt Fs w p c size bs used upto own es clock) (hv:Bs w v (Pl.frame (Pl.body1 a c.n nd 1 1 0))) (ha:a<8) (hne:a≠c.n) (hd:nd<8) (hdn:nd≠c.n) :
  Calls prog 12 #[Qp p.a,v] w fun r w'=>(∃v,r=.returned (.tuple #[v,.int .i64 0]))∧AgAt Fs w' p c size bs used upto own es clock∧Off (fun x=>x=p.T) w w':=by
 have b1:=bn w (.cells (Qo 0) 41)
 have HX:=zA (heap_alloc_new w (.cells (Qo 0) 41))
 have HB:=zA b1
 have HTH:=zA (xR Fs p c size bs 0 0 es clock own used upto _ (h.below b1))
 have HA:=zA (fun (W:World) (hW:Below w.heap.size w W)=>h.below hW)
 have pE:=zA (mget_1 v a c.n nd 1 1 0 _ (hv.keep (KeepB.of_below b1)) ha h.ok.n hne hd (by omega) (by omega) (by omega))
 have HH:=zA (And.intro ha (And.intro hne h.ok.n))
 have HMTU:=zA h.ok.mtu
 have HX1:=zA (And.intro hd hdn)
 have HNE:=zA h.ne
 clear hd hdn
 clear b1 h hv ha hne
 go_enter_defers func12,ntmps12
 go_wp2_with fail
 generalize w.alloc (.cells (Qo 0) 41)=W at *
 refine HTH.out.mono ?_
 rintro r w' ⟨rfl,rfl⟩
 go_wp2_with fail
 refine pE.out.mono ?_
 rintro r w1 ⟨ao,cap,rfl,rZ,hb⟩
 have HB1:=zA (HB.out.trans (hb.mono HB.out.size))
 have pM:=zA (zC HX.out hb)
 have qU:=zA rZ
 clear rZ hb pE HTH HX
 go_wp2_with fail
 refine(got48_1 a c ao cap w1).mono ?_
 rintro r w2 ⟨rfl,hb⟩
 have b3:=bn w2 (.cells (Qrk 1 (a:Int) (c.n:Int) (.slice ao 1 cap)) 115)
 have HB3:=zA (HB1.out.trans ((hb.trans (b3.mono hb.size)).mono HB1.out.size))
 have HX3:=zA (zC pM.out (hb.trans (b3.mono hb.size)))
 have qL:=zA (qU.out.below (hb.trans (b3.mono hb.size)))
 have HM3:=zA (heap_alloc_new w2 (.cells (Qrk 1 (a:Int) (c.n:Int) (.slice ao 1 cap)) 115))
 have HGE:=zA (Nat.le_trans HB1.out.size hb.size)
 clear hb b3 HB1 pM qU
 go_wp2_with (refine zJ rfl 115 (.tmp 6) (.tmp 17) Qnn (Qrk 1 (a:Int) (c.n:Int) (.slice ao 1 cap)) rfl rfl _ rfl rfl rfl (by kernel_rfl) rfl (by kernel_rfl) rfl ?_)
 generalize hw3:w2.alloc (.cells (Qrk 1 (a:Int) (c.n:Int) (.slice ao 1 cap)) 115)=w3 at *
 clear hw3
 have HRT:=zA (show ∀W,Below w3.heap.size w3 W→Calls prog 114 #[.agg (Qrk 1 (a:Int) (c.n:Int) (.slice ao 1 cap))] W fun r w'=>r=.returned (.bool true)∧Below W.heap.size W w' from by
  have qF:=qL.out
  have h1:=HH.out
  have h2:=HX1.out
  exact fun W hW=>uL W a c.n 0 ao 1 cap (by decide) (zM (by omega) (by omega)) (zM (by omega) (by omega)) (by omega) (fun W' hW'=>wH _ nd 1 1 W' ((qF.toT.toC.below hW).below hW') (zM (by omega) (by omega)) (by decide) (by decide)))
 refine zD (fun W'=>W'.heap[p.a]?=some (.cells #[.int .i64 c.n,.int .i64 c.mtu,.int .i64 c.win,.int .i64 c.kp,.int .u64 c.salt,.int .u64 c.seed,.int .i64 c.c0,.int .i64 c.c1,.int .i64 c.c2,Qp p.s,Qp p.g,Qp p.D,Qp p.A,.int .i64 0,.bool false] 108 (0,0))∧W'.heap[w2.heap.size]?=some (.cells (Qrk 1 (a:Int) (c.n:Int) (.slice ao 1 cap)) 115 (0,0))) 99 (by kernel_rfl) ⟨(HA.out w3 HB3.out).ag,HM3.out⟩ (fun rV=>?_)
 refine zV 0 18 rfl ?_
 refine zV 1 19 rfl ?_
 refine zV 2 20 rfl ?_
 refine tkq 3 21 rfl (by intro wS hSw;obtain⟨x,y⟩:=id hSw;have q11:=cc 11 x;clear hSw;go_simp;(try with_reducible rfl)) ?_
 refine tl 4 22 rfl 115 (.tmp 6) w2.heap.size rfl rfl (fun wS hSw=>hSw.2) underlying115 ?_ (hQ:=fun _ a _ h=>zS (by simp[results,results12,Act.put,yI]) _ _ _ h)
 refine t1 5 rfl (fun K hK=>?_)
 go_simp
 refine(don_1 p.D p.T p.O p.S c.n c.c0 c.c1 c.c2 a 0 ao cap w3.drew ((HA.out _ HB3.out.drew).dt) nd (qL.out.toT.toC.below (Below.refl _ _).drew) HX1.out.1 HX1.out.2 (fun W hW=>HRT.out W ((Below.refl _ _).drew.trans hW))).mono ?_
 rintro r w4 ⟨ad,rfl,hdt,hof⟩
 have hA3:=HA.out w3.drew HB3.out.drew
 have hA4:AgAt Fs w4 p c size bs used upto own es clock:=hA3.talked hdt hof
 have hm4:=(hof.same w2.heap.size (gsi.1 HM3.out).1 (fun e=>by have e':w2.heap.size=p.T:=e;have:=(HA.out w (Below.refl _ _)).dt.lt.2.1;have:=HGE.out;omega)).trans HM3.out
 have hx4:=(hof.same w.heap.size (gsi.1 HX3.out).1 (fun e=>by have e':w.heap.size=p.T:=e;have:=(HA.out w (Below.refl _ _)).dt.lt.2.1;omega)).trans HX3.out
 have HA4:=zA hA4
 have HM4:=zA hm4
 have HX4:=zA hx4
 have HRW4:=zA (((qL.out.below (Below.refl _ _).drew).keep (w':=w4) (fun g hg=>hof.same g (qL.out.lt g hg).2 (fun e=>by have e':g=p.T:=e;have:=(qL.out.lt g hg).1;have:=(HA.out w (Below.refl _ _)).dt.lt.2.1;have:=HB.out.size;omega))).toT)
 have HO4:=zA (show Off (fun x=>x=p.T) w w4 from(Off.of_below HB3.out.drew).trans hof)
 have qA:=And.intro hA4.ag hm4
 clear hdt hof hA3 hA4 hm4 hx4 rV
 refine hK.out _ _ (fun _=>qA) (fun _=>?_)
 clear hK K
 try simp only[pt,List.set]
 have rV:=qA
 clear qA
 refine zV 6 24 rfl ?_
 refine zV 7 25 rfl ?_
 refine t1 8 rfl (fun K hK=>?_)
 go_simp
 refine(uN _ w4).mono ?_
 rintro r w4' ⟨rfl,hw4⟩
 subst hw4
 refine hK.out _ _ (fun _=>rV) (fun _=>?_)
 clear hK K
 try simp only[pt,List.set]
 refine zV 9 7 rfl ?_
 refine wd ?_
 clear rV
 go_wp2_with fail
 refine zD (fun W'=>W'.heap[p.a]?=some (.cells #[.int .i64 c.n,.int .i64 c.mtu,.int .i64 c.win,.int .i64 c.kp,.int .u64 c.salt,.int .u64 c.seed,.int .i64 c.c0,.int .i64 c.c1,.int .i64 c.c2,Qp p.s,Qp p.g,Qp p.D,Qp p.A,.int .i64 0,.bool false] 108 (0,0))∧W'.heap[w2.heap.size]?=some (.cells (Qrk 1 (a:Int) (c.n:Int) (.slice ao 1 cap)) 115 (0,0))) 99 (by kernel_rfl) ⟨HA4.out.ag,HM4.out⟩ (fun rV=>?_)
 have HRT4:=zA (show ∀W,Below w4.drew.heap.size w4.drew W→Calls prog 114 #[.agg (Qrk 1 (a:Int) (c.n:Int) (.slice ao 1 cap))] W fun r w'=>r=.returned (.bool true)∧Below W.heap.size W w' from by
  have h1:=HH.out
  have h2:=HX1.out
  have hrow4:RowT kMem w4 (.slice ao 1 cap) [((nd:Int),1,1)]:=HRW4.out
  exact fun W hW=>uL W a c.n 0 ao 1 cap (by decide) (zM (by omega) (by omega)) (zM (by omega) (by omega)) (by omega) (fun W' hW'=>wH _ nd 1 1 W' (((hrow4.toC.below (Below.refl _ _).drew).below hW).below hW') (zM (by omega) (by omega)) (by decide) (by decide)))
 refine zV 0 28 rfl ?_
 refine zV 1 29 rfl ?_
 refine zV 2 30 rfl ?_
 refine tkq 3 31 rfl (by intro wS hSw;obtain⟨x,y⟩:=id hSw;have q10:=cc 10 x;clear hSw;go_simp;(try with_reducible rfl)) ?_
 refine tl 4 32 rfl 115 (.tmp 6) w2.heap.size rfl rfl (fun wS hSw=>hSw.2) underlying115 ?_ (hQ:=fun _ a _ h=>zS (by simp[results,results12,Act.put,yI]) _ _ _ h)
 refine t1 5 rfl (fun K hK=>?_)
 go_simp
 refine(gon_1 p.g p.o p.b p.ms p.mh c.n c.mtu a 0 ao 1 cap es clock w4.drew ((HA4.out.below (Below.refl _ _).drew).go) HRT4.out).mono ?_
 rintro r w5 ⟨rfl,hb⟩
 have hbw:=(Below.refl w4.heap.size w4).drew.trans hb
 have HA5:=zA (HA4.out.below hbw)
 have HM5:=zA (zC HM4.out hbw)
 have HX5:=zA (zC HX4.out hbw)
 have HO5:=zA (HO4.out.trans (Off.of_below hbw))
 have qA:=And.intro HA5.out.ag HM5.out
 clear hb hbw rV
 refine hK.out _ _ (fun _=>qA) (fun _=>?_)
 clear hK K
 try simp only[pt,List.set]
 have rV:=qA
 clear qA
 refine zV 6 27 rfl ?_
 refine zV 7 34 rfl ?_
 refine zV 8 35 rfl ?_
 refine zV 9 36 rfl ?_
 refine zV 10 8 rfl ?_
 refine zV 11 9 rfl ?_
 refine zV 12 10 rfl ?_
 refine wd ?_
 clear rV
 go_wp2_with fail
 refine(yO w5).mono ?_
 rintro r w5' ⟨rfl,hw5⟩
 subst hw5
 have hx5:=HX5.out
 have fx:=zB hx5 0
 have cx:=cc 0 hx5
 have happ:=fun ty=>app_nil1 ad ty w5
 have hid:w5.setCell ⟨w.heap.size,0,none⟩ (.int .i64 0)=w5:=zL hx5 (j:=0) (v:=.int .i64 0) rfl
 clear hx5
 go_wp2_with fail
 refine leaves_cons (f:=46) (args:=#[Qp w.heap.size]) (by simp) (by simp[go_sem]) ?_
 refine(xF _ _).mono ?_
 rintro r u' w'' ⟨rfl,rfl,rfl⟩
 exact yS (v:=.tuple #[.slice (some ad) 1 1,.int .i64 0]) (by simp[results,results12,go_sem,cx]) ⟨⟨_,rfl⟩,HA5.out,HO5.out⟩
theorem aon_40 (Fs:Nat→Prop) (p:AgP) (c:Cf) (size:Int) (bs:List Int) (used upto:Int) (own es:List Pl.Ev) (clock:Int) (a:Nat) (O:Nat→Nat→Bool) (U:Nat→Nat) (M:List (Nat×Nat)) (v:Value) (w:World) (h:AgAt Fs w p c size bs used upto own es clock) (hv:Bs w v (Pl.frame (Pl.body4 a c.n 0 U M))) (ha:a<8) (hne:a≠c.n) (hc:Pl.Closed O U M) (hlen:(Pl.body4 a c.n 0 U M).length≤4096) (hl:(Pl.codes es).length≤4000) :
  Calls prog 12 #[Qp p.a,v] w fun r w'=>∃v ms' parts,r=.returned (.tuple #[v,.int .i64 0])∧Deltas w' c.n a ms' parts∧parts.flatten.Perm (es.filter (fun e=> !O e.at.1 e.at.2))∧(∀p∈parts,p≠[]∧p.length≤768)∧Below w.heap.size w w'∧∃tail,OwnR kMsg w.heap.size w' v (ms'++tail)∧(tail=[]∧(∀a s,O a s=true→∃e∈es,e.at=(a,s))∨∃O' U' M' ao' cap',tail=[dgq c.n a 1 U' (ao',M'.length,cap')]∧SetV w' (Pl.setv U' (.slice ao' M'.length cap')) O' U' M'∧Holds O' es):=by
 have b1:=bn w (.cells (Qo 0) 41)
 have HX:=zA (heap_alloc_new w (.cells (Qo 0) 41))
 have HB:=zA b1
 have HTH:=zA (xR Fs p c size bs 0 0 es clock own used upto _ (h.below b1))
 have HA:=zA (fun (W:World) (hW:Below w.heap.size w W)=>h.below hW)
 have pE:=zA (mget_4 v a c.n 0 O U M _ (hv.keep (KeepB.of_below b1)) ha h.ok.n hne (by omega) hc hlen)
 have HH:=zA (And.intro ha (And.intro hne h.ok.n))
 have HMTU:=zA h.ok.mtu
 have HX1:=zA (And.intro hc hl)
 clear hc hl hlen
 clear b1 h hv ha hne
 go_enter_defers func12,ntmps12
 go_wp2_with fail
 generalize w.alloc (.cells (Qo 0) 41)=W at *
 refine HTH.out.mono ?_
 rintro r w' ⟨rfl,rfl⟩
 go_wp2_with fail
 refine pE.out.mono ?_
 rintro r w1 ⟨ao,cap,rfl,rZ,hb⟩
 have HB1:=zA (HB.out.trans (hb.mono HB.out.size))
 have pM:=zA (zC HX.out hb)
 have qU:=zA rZ
 clear rZ hb pE HTH HX
 go_wp2_with fail
 refine(got48_4 a 0 c U ao M.length cap w1).mono ?_
 rintro r w2 ⟨rfl,hb⟩
 have b3:=bn w2 (.cells (Qsu 4 (a:Int) (c.n:Int) 0 U (.slice ao M.length cap)) 115)
 have HB3:=zA (HB1.out.trans ((hb.trans (b3.mono hb.size)).mono HB1.out.size))
 have HX3:=zA (zC pM.out (hb.trans (b3.mono hb.size)))
 have qL:=zA (qU.out.below (hb.trans (b3.mono hb.size)))
 have HM3:=zA (heap_alloc_new w2 (.cells (Qsu 4 (a:Int) (c.n:Int) 0 U (.slice ao M.length cap)) 115))
 have HGE:=zA (Nat.le_trans HB1.out.size hb.size)
 clear hb b3 HB1 pM qU
 go_wp2_with (refine zJ rfl 115 (.tmp 6) (.tmp 17) Qnn (Qsu 4 (a:Int) (c.n:Int) 0 U (.slice ao M.length cap)) rfl rfl _ rfl rfl rfl (by kernel_rfl) rfl (by kernel_rfl) rfl ?_)
 generalize hw3:w2.alloc (.cells (Qsu 4 (a:Int) (c.n:Int) 0 U (.slice ao M.length cap)) 115)=w3 at *
 clear hw3
 have HRT:=zA (show ∀W,Below w3.heap.size w3 W→Calls prog 114 #[.agg (Qsu 4 (a:Int) (c.n:Int) 0 U (.slice ao M.length cap))] W fun r w'=>r=.returned (.bool true)∧Below W.heap.size W w' from by
  have qF:=qL.out
  have h1:=HH.out
  have h2:=HX1.out
  exact fun W hW=>uK W a c.n 0 U ao M.length cap O M (qF.below hW) (by decide) (zM (by omega) (by omega)) (zM (by omega) (by omega)) (by omega))
 refine zD (fun W'=>W'.heap[p.a]?=some (.cells #[.int .i64 c.n,.int .i64 c.mtu,.int .i64 c.win,.int .i64 c.kp,.int .u64 c.salt,.int .u64 c.seed,.int .i64 c.c0,.int .i64 c.c1,.int .i64 c.c2,Qp p.s,Qp p.g,Qp p.D,Qp p.A,.int .i64 0,.bool false] 108 (0,0))∧W'.heap[w2.heap.size]?=some (.cells (Qsu 4 (a:Int) (c.n:Int) 0 U (.slice ao M.length cap)) 115 (0,0))) 99 (by kernel_rfl) ⟨(HA.out w3 HB3.out).ag,HM3.out⟩ (fun rV=>?_)
 refine zV 0 18 rfl ?_
 refine zV 1 19 rfl ?_
 refine zV 2 20 rfl ?_
 refine tkq 3 21 rfl (by intro wS hSw;obtain⟨x,y⟩:=id hSw;have q11:=cc 11 x;clear hSw;go_simp;(try with_reducible rfl)) ?_
 refine tl 4 22 rfl 115 (.tmp 6) w2.heap.size rfl rfl (fun wS hSw=>hSw.2) underlying115 ?_ (hQ:=fun _ a _ h=>zS (by simp[results,results12,Act.put,yI]) _ _ _ h)
 refine t1 5 rfl (fun K hK=>?_)
 go_simp
 refine(don_4 p.D p.T p.O p.S c.n c.c0 c.c1 c.c2 a 0 U ao M.length cap w3.drew ((HA.out _ HB3.out.drew).dt) (fun W hW=>HRT.out W ((Below.refl _ _).drew.trans hW))).mono ?_
 rintro r w4 ⟨rfl,hb⟩
 have hbw:=(Below.refl w3.heap.size w3).drew.trans hb
 have HB4:=zA (HB3.out.trans (hbw.mono HB3.out.size))
 have HM4:=zA (zC HM3.out hbw)
 have HX4:=zA (zC HX3.out hbw)
 have HROW4:=zA (qL.out.below hbw)
 have HBB:=zA hbw
 have qA:=And.intro (HA.out w4 HB4.out).ag HM4.out
 clear hb hbw rV
 refine hK.out _ _ (fun _=>qA) (fun _=>?_)
 clear hK K
 try simp only[pt,List.set]
 have rV:=qA
 clear qA
 refine zV 6 24 rfl ?_
 refine zV 7 25 rfl ?_
 refine t1 8 rfl (fun K hK=>?_)
 go_simp
 refine(uN _ w4).mono ?_
 rintro r w4' ⟨rfl,hw4⟩
 subst hw4
 refine hK.out _ _ (fun _=>rV) (fun _=>?_)
 clear hK K
 try simp only[pt,List.set]
 refine zV 9 7 rfl ?_
 refine wd ?_
 clear rV
 go_wp2_with fail
 refine zD (fun W'=>W'.heap[p.a]?=some (.cells #[.int .i64 c.n,.int .i64 c.mtu,.int .i64 c.win,.int .i64 c.kp,.int .u64 c.salt,.int .u64 c.seed,.int .i64 c.c0,.int .i64 c.c1,.int .i64 c.c2,Qp p.s,Qp p.g,Qp p.D,Qp p.A,.int .i64 0,.bool false] 108 (0,0))∧W'.heap[w2.heap.size]?=some (.cells (Qsu 4 (a:Int) (c.n:Int) 0 U (.slice ao M.length cap)) 115 (0,0))) 99 (by kernel_rfl) ⟨(HA.out w4 HB4.out).ag,HM4.out⟩ (fun rV=>?_)
 refine zV 0 28 rfl ?_
 refine zV 1 29 rfl ?_
 refine zV 2 30 rfl ?_
 refine tkq 3 31 rfl (by intro wS hSw;obtain⟨x,y⟩:=id hSw;have q10:=cc 10 x;clear hSw;go_simp;(try with_reducible rfl)) ?_
 refine tl 4 32 rfl 115 (.tmp 6) w2.heap.size rfl rfl (fun wS hSw=>hSw.2) underlying115 ?_ (hQ:=fun _ a _ h=>zS (by simp[results,results12,Act.put,yI]) _ _ _ h)
 refine t1 5 rfl (fun K hK=>?_)
 go_simp
 refine(gon_40 p.g p.o p.b p.ms p.mh c.n c.mtu a O U M ao cap es clock w4.drew ((HA.out _ HB4.out.drew).go) (HROW4.out.below (Below.refl _ _).drew) HH.out.1 (Ne.symm HH.out.2.1) HX1.out.2 HMTU.out (fun W hW=>HRT.out W (HBB.out.trans (((Below.refl _ _).drew.trans hW).mono HBB.out.size)))).mono ?_
 rintro r w5 ⟨v5,mq,parts,rfl,qS,hfl,hpp,hb,htl⟩
 obtain⟨aov,nv,capv,rfl⟩:∃x y z,v5=.slice x y z:=by
  obtain⟨tail,ho,_⟩:=htl
  obtain⟨x,z,e⟩:=ho.toT.form
  exact⟨x,_,z,e⟩
 have hbw:=(Below.refl w4.heap.size w4).drew.trans hb
 have HB5:=zA (HB4.out.trans (hbw.mono HB4.out.size))
 have HM5:=zA (zC HM4.out hbw)
 have HX5:=zA (zC HX4.out hbw)
 have HZ:=zA (And.intro qS (And.intro hfl hpp))
 have HT:=zA htl
 have qA:=And.intro (HA.out _ HB5.out).ag HM5.out
 clear qS hfl hpp hb hbw htl rV
 refine hK.out _ _ (fun _=>qA) (fun _=>?_)
 clear hK K
 try simp only[pt,List.set]
 have rV:=qA
 clear qA
 refine zV 6 27 rfl ?_
 refine zV 7 34 rfl ?_
 refine zV 8 35 rfl ?_
 refine zV 9 36 rfl ?_
 refine zV 10 8 rfl ?_
 refine zV 11 9 rfl ?_
 refine zV 12 10 rfl ?_
 refine wd ?_
 clear rV
 go_wp2_with fail
 refine(yO w5).mono ?_
 rintro r w5' ⟨rfl,hw5⟩
 subst hw5
 have hx5:=HX5.out
 have fx:=zB hx5 0
 have cx:=cc 0 hx5
 obtain⟨tail,hot,htl⟩:=HT.out
 have hml:(mq++tail).length≤1000:=by
  have h1:=HZ.out.1.1;have h2:=Pl.parts_le parts (fun p hp=>(HZ.out.2.2 p hp).1);have h3:=HZ.out.2.1.length_eq;have h4:=List.length_filter_le (fun e=> !O e.at.1 e.at.2) es;have h5:=(HA.out _ HB5.out).go.len
  have h6:tail.length≤1:=by rcases htl with⟨h,_⟩ | ⟨_,_,_,_,_,h,_⟩<;>simp[h]
  rw[List.length_append];omega
 have HL:=zA hml
 have qC:=zA hot.toT.toC
 have HTL:=zA htl
 clear hot hml htl
 have hx6:∀w6,Below w5.heap.size w5 w6→w6.heap[w.heap.size]?=some (.cells (Qo 0) 41 (0,0)):=fun w6 h=>zC hx5 h
 have HX6:=zA hx6
 clear hx5 hx6 fx cx
 go_wp2_with (
  at_builtin
  refine yT kMsg rfl (.tmp 39) (.tmp 40) rfl rfl (yH kMsg w5.heap.size w5) rfl qC.out (by have:=HL.out;simpa using(by omega:(mq++tail).length≤1000000)) (Below.refl w5.heap.size w5) (Nat.le_refl _) ?_
  intro v6 w6 hown6 hb6 hg6
  have HV6:=zA hown6
  have HB6:=zA hb6
  have hx6:=HX6.out w6 hb6
  have fx:=zB hx6 0
  have cx:=cc 0 hx6
  have hid:w6.setCell ⟨w.heap.size,0,none⟩ (.int .i64 0)=w6:=zL hx6 (j:=0) (v:=.int .i64 0) rfl
  clear hown6 hb6 hg6 hx6)
 refine leaves_cons (f:=46) (args:=#[Qp w.heap.size]) (by simp) (by simp[go_sem]) ?_
 refine(xF _ _).mono ?_
 rintro r u' w'' ⟨rfl,rfl,rfl⟩
 have hv6:=HV6.out
 rw[List.nil_append]at hv6
 have hv7:=hv6.mono HB5.out.size
 exact yS (v:=.tuple #[v6,.int .i64 0]) (by simp[results,results12,go_sem,cx]) ⟨v6,mq,parts,rfl,HZ.out.1.below HB6.out,HZ.out.2.1,HZ.out.2.2,HB5.out.trans (HB6.out.mono HB5.out.size),tail,hv7,HTL.out.imp id (fun ⟨O1,U1,M1,a1,c1,e1,h1,h2⟩=>⟨O1,U1,M1,a1,c1,e1,h1.below HB6.out,h2⟩)⟩
theorem aon_41 (Fs:Nat→Prop) (p:AgP) (c:Cf) (size:Int) (bs:List Int) (used upto:Int) (own es:List Pl.Ev) (clock:Int) (a:Nat) (O:Nat→Nat→Bool) (U:Nat→Nat) (M:List (Nat×Nat)) (v:Value) (w:World) (h:AgAt Fs w p c size bs used upto own es clock) (hv:Bs w v (Pl.frame (Pl.body4 a c.n 1 U M))) (ha:a<8) (hne:a≠c.n) (hc:Pl.Closed O U M) (hlen:(Pl.body4 a c.n 1 U M).length≤4096) (hl:(Pl.codes es).length≤4000) :
  Calls prog 12 #[Qp p.a,v] w fun r w'=>∃v ms' parts,r=.returned (.tuple #[v,.int .i64 0])∧Deltas w' c.n a ms' parts∧parts.flatten.Perm (es.filter (fun e=> !O e.at.1 e.at.2))∧(∀p∈parts,p≠[]∧p.length≤768)∧Below w.heap.size w w'∧OwnR kMsg w.heap.size w' v ms':=by
 have b1:=bn w (.cells (Qo 0) 41)
 have HX:=zA (heap_alloc_new w (.cells (Qo 0) 41))
 have HB:=zA b1
 have HTH:=zA (xR Fs p c size bs 0 0 es clock own used upto _ (h.below b1))
 have HA:=zA (fun (W:World) (hW:Below w.heap.size w W)=>h.below hW)
 have pE:=zA (mget_4 v a c.n 1 O U M _ (hv.keep (KeepB.of_below b1)) ha h.ok.n hne (by omega) hc hlen)
 have HH:=zA (And.intro ha (And.intro hne h.ok.n))
 have HMTU:=zA h.ok.mtu
 have HX1:=zA (And.intro hc hl)
 clear hc hl hlen
 clear b1 h hv ha hne
 go_enter_defers func12,ntmps12
 go_wp2_with fail
 generalize w.alloc (.cells (Qo 0) 41)=W at *
 refine HTH.out.mono ?_
 rintro r w' ⟨rfl,rfl⟩
 go_wp2_with fail
 refine pE.out.mono ?_
 rintro r w1 ⟨ao,cap,rfl,rZ,hb⟩
 have HB1:=zA (HB.out.trans (hb.mono HB.out.size))
 have pM:=zA (zC HX.out hb)
 have qU:=zA rZ
 clear rZ hb pE HTH HX
 go_wp2_with fail
 refine(got48_4 a 1 c U ao M.length cap w1).mono ?_
 rintro r w2 ⟨rfl,hb⟩
 have b3:=bn w2 (.cells (Qsu 4 (a:Int) (c.n:Int) 1 U (.slice ao M.length cap)) 115)
 have HB3:=zA (HB1.out.trans ((hb.trans (b3.mono hb.size)).mono HB1.out.size))
 have HX3:=zA (zC pM.out (hb.trans (b3.mono hb.size)))
 have qL:=zA (qU.out.below (hb.trans (b3.mono hb.size)))
 have HM3:=zA (heap_alloc_new w2 (.cells (Qsu 4 (a:Int) (c.n:Int) 1 U (.slice ao M.length cap)) 115))
 have HGE:=zA (Nat.le_trans HB1.out.size hb.size)
 clear hb b3 HB1 pM qU
 go_wp2_with (refine zJ rfl 115 (.tmp 6) (.tmp 17) Qnn (Qsu 4 (a:Int) (c.n:Int) 1 U (.slice ao M.length cap)) rfl rfl _ rfl rfl rfl (by kernel_rfl) rfl (by kernel_rfl) rfl ?_)
 generalize hw3:w2.alloc (.cells (Qsu 4 (a:Int) (c.n:Int) 1 U (.slice ao M.length cap)) 115)=w3 at *
 clear hw3
 have HRT:=zA (show ∀W,Below w3.heap.size w3 W→Calls prog 114 #[.agg (Qsu 4 (a:Int) (c.n:Int) 1 U (.slice ao M.length cap))] W fun r w'=>r=.returned (.bool true)∧Below W.heap.size W w' from by
  have qF:=qL.out
  have h1:=HH.out
  have h2:=HX1.out
  exact fun W hW=>uK W a c.n 1 U ao M.length cap O M (qF.below hW) (by decide) (zM (by omega) (by omega)) (zM (by omega) (by omega)) (by omega))
 refine zD (fun W'=>W'.heap[p.a]?=some (.cells #[.int .i64 c.n,.int .i64 c.mtu,.int .i64 c.win,.int .i64 c.kp,.int .u64 c.salt,.int .u64 c.seed,.int .i64 c.c0,.int .i64 c.c1,.int .i64 c.c2,Qp p.s,Qp p.g,Qp p.D,Qp p.A,.int .i64 0,.bool false] 108 (0,0))∧W'.heap[w2.heap.size]?=some (.cells (Qsu 4 (a:Int) (c.n:Int) 1 U (.slice ao M.length cap)) 115 (0,0))) 99 (by kernel_rfl) ⟨(HA.out w3 HB3.out).ag,HM3.out⟩ (fun rV=>?_)
 refine zV 0 18 rfl ?_
 refine zV 1 19 rfl ?_
 refine zV 2 20 rfl ?_
 refine tkq 3 21 rfl (by intro wS hSw;obtain⟨x,y⟩:=id hSw;have q11:=cc 11 x;clear hSw;go_simp;(try with_reducible rfl)) ?_
 refine tl 4 22 rfl 115 (.tmp 6) w2.heap.size rfl rfl (fun wS hSw=>hSw.2) underlying115 ?_ (hQ:=fun _ a _ h=>zS (by simp[results,results12,Act.put,yI]) _ _ _ h)
 refine t1 5 rfl (fun K hK=>?_)
 go_simp
 refine(don_4 p.D p.T p.O p.S c.n c.c0 c.c1 c.c2 a 1 U ao M.length cap w3.drew ((HA.out _ HB3.out.drew).dt) (fun W hW=>HRT.out W ((Below.refl _ _).drew.trans hW))).mono ?_
 rintro r w4 ⟨rfl,hb⟩
 have hbw:=(Below.refl w3.heap.size w3).drew.trans hb
 have HB4:=zA (HB3.out.trans (hbw.mono HB3.out.size))
 have HM4:=zA (zC HM3.out hbw)
 have HX4:=zA (zC HX3.out hbw)
 have HROW4:=zA (qL.out.below hbw)
 have HBB:=zA hbw
 have qA:=And.intro (HA.out w4 HB4.out).ag HM4.out
 clear hb hbw rV
 refine hK.out _ _ (fun _=>qA) (fun _=>?_)
 clear hK K
 try simp only[pt,List.set]
 have rV:=qA
 clear qA
 refine zV 6 24 rfl ?_
 refine zV 7 25 rfl ?_
 refine t1 8 rfl (fun K hK=>?_)
 go_simp
 refine(uN _ w4).mono ?_
 rintro r w4' ⟨rfl,hw4⟩
 subst hw4
 refine hK.out _ _ (fun _=>rV) (fun _=>?_)
 clear hK K
 try simp only[pt,List.set]
 refine zV 9 7 rfl ?_
 refine wd ?_
 clear rV
 go_wp2_with fail
 refine zD (fun W'=>W'.heap[p.a]?=some (.cells #[.int .i64 c.n,.int .i64 c.mtu,.int .i64 c.win,.int .i64 c.kp,.int .u64 c.salt,.int .u64 c.seed,.int .i64 c.c0,.int .i64 c.c1,.int .i64 c.c2,Qp p.s,Qp p.g,Qp p.D,Qp p.A,.int .i64 0,.bool false] 108 (0,0))∧W'.heap[w2.heap.size]?=some (.cells (Qsu 4 (a:Int) (c.n:Int) 1 U (.slice ao M.length cap)) 115 (0,0))) 99 (by kernel_rfl) ⟨(HA.out w4 HB4.out).ag,HM4.out⟩ (fun rV=>?_)
 refine zV 0 28 rfl ?_
 refine zV 1 29 rfl ?_
 refine zV 2 30 rfl ?_
 refine tkq 3 31 rfl (by intro wS hSw;obtain⟨x,y⟩:=id hSw;have q10:=cc 10 x;clear hSw;go_simp;(try with_reducible rfl)) ?_
 refine tl 4 32 rfl 115 (.tmp 6) w2.heap.size rfl rfl (fun wS hSw=>hSw.2) underlying115 ?_ (hQ:=fun _ a _ h=>zS (by simp[results,results12,Act.put,yI]) _ _ _ h)
 refine t1 5 rfl (fun K hK=>?_)
 go_simp
 refine(gon_41 p.g p.o p.b p.ms p.mh c.n c.mtu a O U M ao cap es clock w4.drew ((HA.out _ HB4.out.drew).go) (HROW4.out.below (Below.refl _ _).drew) HH.out.1 (Ne.symm HH.out.2.1) HX1.out.2 HMTU.out (fun W hW=>HRT.out W (HBB.out.trans (((Below.refl _ _).drew.trans hW).mono HBB.out.size)))).mono ?_
 rintro r w5 ⟨v5,mq,parts,rfl,qS,hfl,hpp,hb,htl⟩
 obtain⟨aov,nv,capv,rfl⟩:∃x y z,v5=.slice x y z:=by
  obtain⟨x,z,e⟩:=htl.toT.form
  exact⟨x,_,z,e⟩
 have hbw:=(Below.refl w4.heap.size w4).drew.trans hb
 have HB5:=zA (HB4.out.trans (hbw.mono HB4.out.size))
 have HM5:=zA (zC HM4.out hbw)
 have HX5:=zA (zC HX4.out hbw)
 have HZ:=zA (And.intro qS (And.intro hfl hpp))
 have HT:=zA htl
 have qA:=And.intro (HA.out _ HB5.out).ag HM5.out
 clear qS hfl hpp hb hbw htl rV
 refine hK.out _ _ (fun _=>qA) (fun _=>?_)
 clear hK K
 try simp only[pt,List.set]
 have rV:=qA
 clear qA
 refine zV 6 27 rfl ?_
 refine zV 7 34 rfl ?_
 refine zV 8 35 rfl ?_
 refine zV 9 36 rfl ?_
 refine zV 10 8 rfl ?_
 refine zV 11 9 rfl ?_
 refine zV 12 10 rfl ?_
 refine wd ?_
 clear rV
 go_wp2_with fail
 refine(yO w5).mono ?_
 rintro r w5' ⟨rfl,hw5⟩
 subst hw5
 have hx5:=HX5.out
 have fx:=zB hx5 0
 have cx:=cc 0 hx5
 have hot:=HT.out
 have hml:mq.length≤1000:=by
  have h1:=HZ.out.1.1;have h2:=Pl.parts_le parts (fun p hp=>(HZ.out.2.2 p hp).1);have h3:=HZ.out.2.1.length_eq;have h4:=List.length_filter_le (fun e=> !O e.at.1 e.at.2) es;have h5:=(HA.out _ HB5.out).go.len
  omega
 have HL:=zA hml
 have qC:=zA hot.toT.toC
 clear hot hml
 have hx6:∀w6,Below w5.heap.size w5 w6→w6.heap[w.heap.size]?=some (.cells (Qo 0) 41 (0,0)):=fun w6 h=>zC hx5 h
 have HX6:=zA hx6
 clear hx5 hx6 fx cx
 go_wp2_with (
  at_builtin
  refine yT kMsg rfl (.tmp 39) (.tmp 40) rfl rfl (yH kMsg w5.heap.size w5) rfl qC.out (by have:=HL.out;simpa using(by omega:mq.length≤1000000)) (Below.refl w5.heap.size w5) (Nat.le_refl _) ?_
  intro v6 w6 hown6 hb6 hg6
  have HV6:=zA hown6
  have HB6:=zA hb6
  have hx6:=HX6.out w6 hb6
  have fx:=zB hx6 0
  have cx:=cc 0 hx6
  have hid:w6.setCell ⟨w.heap.size,0,none⟩ (.int .i64 0)=w6:=zL hx6 (j:=0) (v:=.int .i64 0) rfl
  clear hown6 hb6 hg6 hx6)
 refine leaves_cons (f:=46) (args:=#[Qp w.heap.size]) (by simp) (by simp[go_sem]) ?_
 refine(xF _ _).mono ?_
 rintro r u' w'' ⟨rfl,rfl,rfl⟩
 have hv6:=HV6.out
 rw[List.nil_append]at hv6
 have hv7:=hv6.mono HB5.out.size
 exact yS (v:=.tuple #[v6,.int .i64 0]) (by simp[results,results12,go_sem,cx]) ⟨v6,mq,parts,rfl,HZ.out.1.below HB6.out,HZ.out.2.1,HZ.out.2.2,HB5.out.trans (HB6.out.mono HB5.out.size),hv7⟩
theorem aon_5 (Fs:Nat→Prop) (p:AgP) (c:Cf) (size:Int) (bs:List Int) (used upto:Int) (own es:List Pl.Ev) (clock:Int) (a:Nat) (new:List Pl.Ev) (v:Value) (w:World) (h:AgAt Fs w p c size bs used upto own es clock) (hv:Bs w v (Pl.frame (Pl.body5 a c.n new))) (ha:a<8) (hne:a≠c.n) (hok:∀e∈new,e.Ok) (hlen:(Pl.body5 a c.n new).length≤4096) (hl:(es++new).length<768) (pQ:((es++new).map Pl.Ev.at).Nodup) :
  Calls prog 12 #[Qp p.a,v] w fun r w'=>r=.returned (.tuple #[.slice none 0 0,.int .i64 0])∧(∃cl,AgAt Fs w' p c size bs used upto own (es++new) cl)∧Off (fun x=>x=p.b∨x=p.ms∨x=p.mh) w w':=by
 have b1:=bn w (.cells (Qo 0) 41)
 have HX:=zA (heap_alloc_new w (.cells (Qo 0) 41))
 have HB:=zA b1
 have HTH:=zA (xR Fs p c size bs 0 0 es clock own used upto _ (h.below b1))
 have HA:=zA (fun (W:World) (hW:Below w.heap.size w W)=>h.below hW)
 have pE:=zA (mget_5 v a c.n new _ (hv.keep (KeepB.of_below b1)) ha h.ok.n hne (by have:=hl;rw[List.length_append]at this;omega) hok hlen)
 have HH:=zA (And.intro ha (And.intro hne h.ok.n))
 have HMTU:=zA h.ok.mtu
 have HX1:=zA (And.intro hok (And.intro hl pQ))
 clear hok hl hlen pQ
 clear b1 h hv ha hne
 go_enter_defers func12,ntmps12
 go_wp2_with fail
 generalize w.alloc (.cells (Qo 0) 41)=W at *
 refine HTH.out.mono ?_
 rintro r w' ⟨rfl,rfl⟩
 go_wp2_with fail
 refine pE.out.mono ?_
 rintro r w1 ⟨ao,cap,rfl,rZ,hb⟩
 have HB1:=zA (HB.out.trans (hb.mono HB.out.size))
 have pM:=zA (zC HX.out hb)
 have qU:=zA rZ
 clear rZ hb pE HTH HX
 go_wp2_with fail
 refine(got48_5 a c ao new.length cap w1).mono ?_
 rintro r w2 ⟨rfl,hb⟩
 have b3:=bn w2 (.cells (Qtk 5 (a:Int) (c.n:Int) (.slice ao new.length cap)) 115)
 have HB3:=zA (HB1.out.trans ((hb.trans (b3.mono hb.size)).mono HB1.out.size))
 have HX3:=zA (zC pM.out (hb.trans (b3.mono hb.size)))
 have qL:=zA (qU.out.below (hb.trans (b3.mono hb.size)))
 have HM3:=zA (heap_alloc_new w2 (.cells (Qtk 5 (a:Int) (c.n:Int) (.slice ao new.length cap)) 115))
 have HGE:=zA (Nat.le_trans HB1.out.size hb.size)
 clear hb b3 HB1 pM qU
 go_wp2_with (refine zJ rfl 115 (.tmp 6) (.tmp 17) Qnn (Qtk 5 (a:Int) (c.n:Int) (.slice ao new.length cap)) rfl rfl _ rfl rfl rfl (by kernel_rfl) rfl (by kernel_rfl) rfl ?_)
 generalize hw3:w2.alloc (.cells (Qtk 5 (a:Int) (c.n:Int) (.slice ao new.length cap)) 115)=w3 at *
 clear hw3
 have HRT:=zA (show ∀W,Below w3.heap.size w3 W→Calls prog 114 #[.agg (Qtk 5 (a:Int) (c.n:Int) (.slice ao new.length cap))] W fun r w'=>r=.returned (.bool true)∧Below W.heap.size W w' from by
  have qF:=qL.out
  have h1:=HH.out
  have HOK:=HX1.out.1;have HL:=HX1.out.2.1
  exact fun W hW=>uJ W a c.n ao new.length cap new (qF.toC.below hW) (by have:=HL;rw[List.length_append]at this;omega) HOK (zM (by omega) (by omega)) (zM (by omega) (by omega)) (by omega))
 refine zD (fun W'=>W'.heap[p.a]?=some (.cells #[.int .i64 c.n,.int .i64 c.mtu,.int .i64 c.win,.int .i64 c.kp,.int .u64 c.salt,.int .u64 c.seed,.int .i64 c.c0,.int .i64 c.c1,.int .i64 c.c2,Qp p.s,Qp p.g,Qp p.D,Qp p.A,.int .i64 0,.bool false] 108 (0,0))∧W'.heap[w2.heap.size]?=some (.cells (Qtk 5 (a:Int) (c.n:Int) (.slice ao new.length cap)) 115 (0,0))) 99 (by kernel_rfl) ⟨(HA.out w3 HB3.out).ag,HM3.out⟩ (fun rV=>?_)
 refine zV 0 18 rfl ?_
 refine zV 1 19 rfl ?_
 refine zV 2 20 rfl ?_
 refine tkq 3 21 rfl (by intro wS hSw;obtain⟨x,y⟩:=id hSw;have q11:=cc 11 x;clear hSw;go_simp;(try with_reducible rfl)) ?_
 refine tl 4 22 rfl 115 (.tmp 6) w2.heap.size rfl rfl (fun wS hSw=>hSw.2) underlying115 ?_ (hQ:=fun _ a _ h=>zS (by simp[results,results12,Act.put,yI]) _ _ _ h)
 refine t1 5 rfl (fun K hK=>?_)
 go_simp
 refine(don_5 p.D p.T p.O p.S c.n c.c0 c.c1 c.c2 a 0 ao new.length cap w3.drew ((HA.out _ HB3.out.drew).dt) (fun W hW=>HRT.out W ((Below.refl _ _).drew.trans hW))).mono ?_
 rintro r w4 ⟨rfl,hb⟩
 have hbw:=(Below.refl w3.heap.size w3).drew.trans hb
 have HB4:=zA (HB3.out.trans (hbw.mono HB3.out.size))
 have HM4:=zA (zC HM3.out hbw)
 have HX4:=zA (zC HX3.out hbw)
 have HROW4:=zA (qL.out.below hbw)
 have HBB:=zA hbw
 have qA:=And.intro (HA.out w4 HB4.out).ag HM4.out
 clear hb hbw rV
 refine hK.out _ _ (fun _=>qA) (fun _=>?_)
 clear hK K
 try simp only[pt,List.set]
 have rV:=qA
 clear qA
 refine zV 6 24 rfl ?_
 refine zV 7 25 rfl ?_
 refine t1 8 rfl (fun K hK=>?_)
 go_simp
 refine(uN _ w4).mono ?_
 rintro r w4' ⟨rfl,hw4⟩
 subst hw4
 refine hK.out _ _ (fun _=>rV) (fun _=>?_)
 clear hK K
 try simp only[pt,List.set]
 refine zV 9 7 rfl ?_
 refine wd ?_
 clear rV
 go_wp2_with fail
 refine zD (fun W'=>W'.heap[p.a]?=some (.cells #[.int .i64 c.n,.int .i64 c.mtu,.int .i64 c.win,.int .i64 c.kp,.int .u64 c.salt,.int .u64 c.seed,.int .i64 c.c0,.int .i64 c.c1,.int .i64 c.c2,Qp p.s,Qp p.g,Qp p.D,Qp p.A,.int .i64 0,.bool false] 108 (0,0))∧W'.heap[w2.heap.size]?=some (.cells (Qtk 5 (a:Int) (c.n:Int) (.slice ao new.length cap)) 115 (0,0))) 99 (by kernel_rfl) ⟨(HA.out w4 HB4.out).ag,HM4.out⟩ (fun rV=>?_)
 refine zV 0 28 rfl ?_
 refine zV 1 29 rfl ?_
 refine zV 2 30 rfl ?_
 refine tkq 3 31 rfl (by intro wS hSw;obtain⟨x,y⟩:=id hSw;have q10:=cc 10 x;clear hSw;go_simp;(try with_reducible rfl)) ?_
 refine tl 4 32 rfl 115 (.tmp 6) w2.heap.size rfl rfl (fun wS hSw=>hSw.2) underlying115 ?_ (hQ:=fun _ a _ h=>zS (by simp[results,results12,Act.put,yI]) _ _ _ h)
 refine t1 5 rfl (fun K hK=>?_)
 go_simp
 refine(gon_5 p.g p.o p.b p.ms p.mh c.n c.mtu a ao cap new es clock w4.drew ((HA.out _ HB4.out.drew).go) (HROW4.out.below (Below.refl _ _).drew) HX1.out.1 HX1.out.2.1 HX1.out.2.2 (fun W hW=>HRT.out W (HBB.out.trans (((Below.refl _ _).drew.trans hW).mono HBB.out.size)))).mono ?_
 rintro r w5 ⟨av,cl,rfl,hgo,hof⟩
 have hA4:=(HA.out _ HB4.out.drew)
 have HA5:=zA (show AgAt Fs w5 p c size bs used upto own (es++new) cl from hA4.gave hgo hof)
 have HM5:=zA (show w5.heap[w2.heap.size]?=_ from(hA4.go.calm hof (show w4.drew.heap[w2.heap.size]?=_ from HM4.out) (by decide)).trans HM4.out)
 have HX5:=zA (show w5.heap[w.heap.size]?=_ from(hA4.go.calm hof (show w4.drew.heap[w.heap.size]?=_ from HX4.out) (by decide)).trans HX4.out)
 have HO5:=zA (show Off (fun x=>x=p.b∨x=p.ms∨x=p.mh) w w5 from(Off.of_below HB4.out.drew).trans hof)
 have qA:=And.intro HA5.out.ag HM5.out
 clear hgo hof rV hA4
 refine hK.out _ _ (fun _=>qA) (fun _=>?_)
 clear hK K
 try simp only[pt,List.set]
 have rV:=qA
 clear qA
 refine zV 6 27 rfl ?_
 refine zV 7 34 rfl ?_
 refine zV 8 35 rfl ?_
 refine zV 9 36 rfl ?_
 refine zV 10 8 rfl ?_
 refine zV 11 9 rfl ?_
 refine zV 12 10 rfl ?_
 refine wd ?_
 clear rV
 go_wp2_with fail
 refine(yO w5).mono ?_
 rintro r w5' ⟨rfl,hw5⟩
 subst hw5
 have hx5:=HX5.out
 have fx:=zB hx5 0
 have cx:=cc 0 hx5
 have happ:=fun ty=>app_nil0 ty w5
 have hid:w5.setCell ⟨w.heap.size,0,none⟩ (.int .i64 0)=w5:=zL hx5 (j:=0) (v:=.int .i64 0) rfl
 clear hx5
 go_wp2_with fail
 refine leaves_cons (f:=46) (args:=#[Qp w.heap.size]) (by simp) (by simp[go_sem]) ?_
 refine(xF _ _).mono ?_
 rintro r u' w'' ⟨rfl,rfl,rfl⟩
 exact yS (v:=.tuple #[.slice none 0 0,.int .i64 0]) (by simp[results,results12,go_sem,cx]) ⟨rfl,⟨_,HA5.out⟩,HO5.out⟩
end
end Go.Proofs.YtodlmbfbfaofcaaGreat
