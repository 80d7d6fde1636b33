/- TopPolicies, part 37. -/
import Derived.Test.YtodlmbfbfaofcaaGreatM36
open Go.Proofs.Tryz
namespace Go.Proofs.YtodlmbfbfaofcaaGreat
set_option linter.unusedVariables false
set_option linter.unusedSimpArgs false
set_option maxRecDepth 100000
set_option maxHeartbeats 4000000
section
open Go.RowKit Rw Rh
theorem AgAt.talked {Fs:Nat→Prop} {w w':World} {p:AgP} {c:Cf} {size:Int} {bs:List Int} {used upto:Int} {own:List Pl.Ev} {sd:List (Nat×Nat)} {es:List Pl.Ev} {clock:Int} (h:AgAt Fs w p c size bs used upto own sd es clock) (hdt:DtAt w' p.D p.T p.O p.S c.n c.c0 c.c1 c.c2) (hof:Off (fun x=>x=p.T) w w'):AgAt Fs w' p c size bs used upto own sd es clock:=
 have hT:p.has p.T:=by simp[AgP.has]
 ⟨(hof.same _ (gsi.1 h.ag).1 (Ne.symm h.ne.1)).trans h.ag,h.st.keep (fun g hg=>hof.same g (h.lt g hg) (fun e=>h.sep g hg (by have e':g=p.T:=e;rw[e'];exact hT))),
  ⟨(hof.same _ (gsi.1 h.go.gs).1 (Ne.symm h.ne.2.1)).trans h.go.gs,h.go.bk.keep (fun g hg=>hof.same g (by obtain⟨h1,h2,h3⟩:=h.go.bk.lt;rcases hg with rfl | rfl | rfl<;>assumption) (fun e=>by
   rcases hg with rfl | rfl | rfl
   ·exact h.ne.2.2.1 e.symm
   ·exact h.ne.2.2.2.1 e.symm
   ·exact h.ne.2.2.2.2 e.symm)),h.go.ok,fun e he=>(h.go.is e he).keep (Kd.off hof (fun g cs fr hg e=>h.no45 hg (.inr (by have e':g=p.T:=e;rw[e'];exact hT)))),h.go.may,h.go.len,h.go.n8⟩,
  hdt,h.sep,fun g hg=>(h.ty g hg).keep (hof.same g (h.lt g hg) (fun e=>h.sep g hg (by have e':g=p.T:=e;rw[e'];exact hT))),h.ok,h.ne,h.sm⟩
theorem AgAt.gave {Fs:Nat→Prop} {w w':World} {p:AgP} {c:Cf} {size:Int} {bs:List Int} {used upto:Int} {own:List Pl.Ev} {sd:List (Nat×Nat)} {es:List Pl.Ev} {clock:Int} (h:AgAt Fs w p c size bs used upto own sd es clock) {sd':List (Nat×Nat)} {es':List Pl.Ev} {cl:Int} (hgo:GoAt w' p.g p.o p.b p.ms p.mh c.n c.mtu sd' es' cl) (hof:Off (fun x=>x=p.b∨x=p.ms∨x=p.mh) w w'):AgAt Fs w' p c size bs used upto own sd' es' cl:=
 have hne:∀g,g=p.b∨g=p.ms∨g=p.mh→p.has g:=fun g hg=>by rcases hg with rfl | rfl | rfl<;>simp[AgP.has]
 ⟨(h.go.calm hof h.ag lF).trans h.ag,h.st.keep (fun g hg=>hof.same g (h.lt g hg) (fun e'=>h.sep g hg (hne g e'))),hgo,
  h.dt.keep hof.size (fun g hg=>hof.same g (h.hlt g (by rcases hg with rfl | rfl | rfl<;>simp[AgP.has])) (fun e'=>by
   rcases hg with rfl | rfl | rfl
   ·rcases e' with e' | e' | e'
    ·have h1:=h.dt.ms;rw[e',h.go.bk.cells]at h1;exact zH lF h1
    ·exact h.go.bk.seen.cells_ne h.dt.ms e'
    ·exact h.go.bk.held.cells_ne h.dt.ms e'
   ·rcases e' with e' | e' | e'
    ·exact h.ne.2.2.1 e'
    ·exact h.ne.2.2.2.1 e'
    ·exact h.ne.2.2.2.2 e'
   ·obtain⟨z,hz⟩:=h.dt.sm
    rcases e' with e' | e' | e'
    ·rw[e',h.go.bk.cells]at hz;cases hz
    ·exact h.sm.1 e'
    ·exact h.sm.2 e')),h.sep,fun g hg=>(h.ty g hg).keep (hof.same g (h.lt g hg) (fun e'=>h.sep g hg (hne g e'))),h.ok,h.ne,h.sm⟩
theorem aon_1 (Fs:Nat→Prop) (p:AgP) (c:Cf) (size:Int) (bs:List Int) (used upto:Int) (own:List Pl.Ev) (sd:List (Nat×Nat)) (es:List Pl.Ev) (clock:Int) (a nd:Nat) (v:Value) (w:World) (h:AgAt Fs w p c size bs used upto own sd es clock) (hv:Bs w v (Pl.frame (Pl.body1 a c.n nd 1 1 0))) (ha:a<8) (hne:a≠c.n) (hd:nd<8) (hdn:nd≠c.n) :
  Calls prog 12 #[Qp p.a,v] w fun r w'=>(∃v,r=.returned (.tuple #[v,.int .i64 0]))∧AgAt Fs w' p c size bs used upto own sd es clock∧Off (fun x=>x=p.T) w w':=by
 have b1:=bn w (.cells (Qo 0) 41)
 have HX:=zA (heap_alloc_new w (.cells (Qo 0) 41))
 have HB:=zA b1
 have HTH:=zA (xK Fs p c size bs 0 0 sd es clock own used upto _ (h.below b1))
 have HA:=zA (fun (W:World) (hW:Below w.heap.size w W)=>h.below hW)
 have pK:=zA (mget_1 v a c.n nd 1 1 0 _ (hv.keep (KeepB.of_below b1)) ha h.ok.n hne hd lD lD lD)
 have HH:=zA (And.intro ha (And.intro hne h.ok.n))
 have HMTU:=zA h.ok.mtu
 have HX1:=zA (And.intro hd hdn)
 have HNE:=zA h.ne
 clear hd hdn
 clear b1 h hv ha hne
 go_enter_defers func12,ntmps12
 go_wp2_with fail
 generalize w.alloc (.cells (Qo 0) 41)=W at *
 refine HTH.out.mono ?_
 rintro r w' ⟨rfl,rfl⟩
 go_wp2_with fail
 refine pK.out.mono ?_
 rintro r w1 ⟨ao,cap,rfl,qD,hb⟩
 have HB1:=zA (HB.out.trans (hb.mono HB.out.size))
 have pY:=zA (zC HX.out hb)
 have pB:=zA qD
 clear qD hb pK HTH HX
 go_wp2_with fail
 refine(got48_1 a c ao cap w1).mono ?_
 rintro r w2 ⟨rfl,hb⟩
 have b3:=bn w2 (.cells (Qrk 1 (a:Int) (c.n:Int) (.slice ao 1 cap)) 115)
 have HB3:=zA (HB1.out.trans ((hb.trans (b3.mono hb.size)).mono HB1.out.size))
 have HX3:=zA (zC pY.out (hb.trans (b3.mono hb.size)))
 have qS:=zA (pB.out.below (hb.trans (b3.mono hb.size)))
 have HM3:=zA (heap_alloc_new w2 (.cells (Qrk 1 (a:Int) (c.n:Int) (.slice ao 1 cap)) 115))
 have HGE:=zA (Nat.le_trans HB1.out.size hb.size)
 clear hb b3 HB1 pY pB
 go_wp2_with (refine zJ rfl 115 (.tmp 6) (.tmp 17) Qnn (Qrk 1 (a:Int) (c.n:Int) (.slice ao 1 cap)) rfl rfl _ rfl rfl rfl lE rfl lE rfl ?_)
 generalize hw3:w2.alloc (.cells (Qrk 1 (a:Int) (c.n:Int) (.slice ao 1 cap)) 115)=w3 at *
 clear hw3
 have HRT:=zA (show ∀W,Below w3.heap.size w3 W→Calls prog 114 #[.agg (Qrk 1 (a:Int) (c.n:Int) (.slice ao 1 cap))] W fun r w'=>r=.returned (.bool true)∧Below W.heap.size W w' from by
  have qM:=qS.out
  have h1:=HH.out
  have h2:=HX1.out
  exact fun W hW=>uM W a c.n 0 ao 1 cap lF (zL lD lD) (zL lD lD) lD (fun W' hW'=>wC _ nd 1 1 W' ((qM.toT.toC.below hW).below hW') (zL lD lD) lF lF))
 refine zD (fun W'=>W'.heap[p.a]?=some (.cells #[.int .i64 c.n,.int .i64 c.mtu,.int .i64 c.win,.int .i64 c.kp,.int .u64 c.salt,.int .u64 c.seed,.int .i64 c.c0,.int .i64 c.c1,.int .i64 c.c2,Qp p.s,Qp p.g,Qp p.D,Qp p.A,.int .i64 0,.bool false] 108 (0,0))∧W'.heap[w2.heap.size]?=some (.cells (Qrk 1 (a:Int) (c.n:Int) (.slice ao 1 cap)) 115 (0,0))) 99 lE ⟨(HA.out w3 HB3.out).ag,HM3.out⟩ (fun qB=>?_)
 refine zX 0 18 rfl ?_
 refine zX 1 19 rfl ?_
 refine zX 2 20 rfl ?_
 refine tkq 3 21 rfl lP ?_
 refine tl 4 22 rfl 115 (.tmp 6) w2.heap.size rfl rfl (fun wS hSw=>hSw.2) underlying115 ?_ (hQ:=fun _ a _ h=>zV (by simp[results,results12,Act.put,getD_put]) _ _ _ h)
 refine t1 5 rfl (fun K hK=>?_)
 go_simp
 refine(don_1 p.D p.T p.O p.S c.n c.c0 c.c1 c.c2 a 0 ao cap w3.drew ((HA.out _ HB3.out.drew).dt) nd (qS.out.toT.toC.below (Below.refl _ _).drew) HX1.out.1 HX1.out.2 (fun W hW=>HRT.out W ((Below.refl _ _).drew.trans hW))).mono ?_
 rintro r w4 ⟨ad,rfl,hdt,hof⟩
 have hA3:=HA.out w3.drew HB3.out.drew
 have hA4:AgAt Fs w4 p c size bs used upto own sd es clock:=hA3.talked hdt hof
 have hm4:=(hof.same w2.heap.size (gsi.1 HM3.out).1 (fun e=>by have e':w2.heap.size=p.T:=e;have:=(HA.out w (Below.refl _ _)).dt.lt.2.1;have:=HGE.out;omega)).trans HM3.out
 have hx4:=(hof.same w.heap.size (gsi.1 HX3.out).1 (fun e=>by have e':w.heap.size=p.T:=e;have:=(HA.out w (Below.refl _ _)).dt.lt.2.1;omega)).trans HX3.out
 have HA4:=zA hA4
 have HM4:=zA hm4
 have HX4:=zA hx4
 have HRW4:=zA (((qS.out.below (Below.refl _ _).drew).keep (w':=w4) (fun g hg=>hof.same g (qS.out.lt g hg).2 (fun e=>by have e':g=p.T:=e;have:=(qS.out.lt g hg).1;have:=(HA.out w (Below.refl _ _)).dt.lt.2.1;have:=HB.out.size;omega))).toT)
 have HO4:=zA (show Off (fun x=>x=p.T) w w4 from(Off.of_below HB3.out.drew).trans hof)
 have qE:=And.intro hA4.ag hm4
 clear hdt hof hA3 hA4 hm4 hx4 qB
 refine hK.out _ _ (fun _=>qE) (fun _=>?_)
 clear hK K
 try simp only[pt,List.set]
 have qB:=qE
 clear qE
 refine zX 6 24 rfl ?_
 refine zX 7 25 rfl ?_
 refine t1 8 rfl (fun K hK=>?_)
 go_simp
 refine(uO _ w4).mono ?_
 rintro r w4' ⟨rfl,hw4⟩
 subst hw4
 refine hK.out _ _ (fun _=>qB) (fun _=>?_)
 clear hK K
 try simp only[pt,List.set]
 refine zX 9 7 rfl ?_
 refine wd ?_
 clear qB
 go_wp2_with fail
 refine zD (fun W'=>W'.heap[p.a]?=some (.cells #[.int .i64 c.n,.int .i64 c.mtu,.int .i64 c.win,.int .i64 c.kp,.int .u64 c.salt,.int .u64 c.seed,.int .i64 c.c0,.int .i64 c.c1,.int .i64 c.c2,Qp p.s,Qp p.g,Qp p.D,Qp p.A,.int .i64 0,.bool false] 108 (0,0))∧W'.heap[w2.heap.size]?=some (.cells (Qrk 1 (a:Int) (c.n:Int) (.slice ao 1 cap)) 115 (0,0))) 99 lE ⟨HA4.out.ag,HM4.out⟩ (fun qB=>?_)
 have HRT4:=zA (show ∀W,Below w4.drew.heap.size w4.drew W→Calls prog 114 #[.agg (Qrk 1 (a:Int) (c.n:Int) (.slice ao 1 cap))] W fun r w'=>r=.returned (.bool true)∧Below W.heap.size W w' from by
  have h1:=HH.out
  have h2:=HX1.out
  have hrow4:RowT kMem w4 (.slice ao 1 cap) [((nd:Int),1,1)]:=HRW4.out
  exact fun W hW=>uM W a c.n 0 ao 1 cap lF (zL lD lD) (zL lD lD) lD (fun W' hW'=>wC _ nd 1 1 W' (((hrow4.toC.below (Below.refl _ _).drew).below hW).below hW') (zL lD lD) lF lF))
 refine zX 0 28 rfl ?_
 refine zX 1 29 rfl ?_
 refine zX 2 30 rfl ?_
 refine tkq 3 31 rfl lQ ?_
 refine tl 4 32 rfl 115 (.tmp 6) w2.heap.size rfl rfl (fun wS hSw=>hSw.2) underlying115 ?_ (hQ:=fun _ a _ h=>zV (by simp[results,results12,Act.put,getD_put]) _ _ _ h)
 refine t1 5 rfl (fun K hK=>?_)
 go_simp
 refine(gon_1 p.g p.o p.b p.ms p.mh c.n c.mtu a 0 ao 1 cap sd es clock w4.drew ((HA4.out.below (Below.refl _ _).drew).go) HRT4.out).mono ?_
 rintro r w5 ⟨rfl,hb⟩
 have hbw:=(Below.refl w4.heap.size w4).drew.trans hb
 have HA5:=zA (HA4.out.below hbw)
 have HM5:=zA (zC HM4.out hbw)
 have HX5:=zA (zC HX4.out hbw)
 have HO5:=zA (HO4.out.trans (Off.of_below hbw))
 have qE:=And.intro HA5.out.ag HM5.out
 clear hb hbw qB
 refine hK.out _ _ (fun _=>qE) (fun _=>?_)
 clear hK K
 try simp only[pt,List.set]
 have qB:=qE
 clear qE
 refine zX 6 27 rfl ?_
 refine zX 7 34 rfl ?_
 refine zX 8 35 rfl ?_
 refine zX 9 36 rfl ?_
 refine zX 10 8 rfl ?_
 refine zX 11 9 rfl ?_
 refine zX 12 10 rfl ?_
 refine wd ?_
 clear qB
 go_wp2_with fail
 refine(yO w5).mono ?_
 rintro r w5' ⟨rfl,hw5⟩
 subst hw5
 have hx5:=HX5.out
 have fx:=zB hx5 0
 have cx:=cc 0 hx5
 have happ:=fun ty=>app_nil1 ad ty w5
 have hid:w5.setCell ⟨w.heap.size,0,none⟩ (.int .i64 0)=w5:=zN hx5 (j:=0) (v:=.int .i64 0) rfl
 clear hx5
 go_wp2_with fail
 refine leaves_cons (f:=46) (args:=#[Qp w.heap.size]) (by simp) (by simp[go_sem]) ?_
 refine(xE _ _).mono ?_
 rintro r u' w'' ⟨rfl,rfl,rfl⟩
 exact yY (v:=.tuple #[.slice (some ad) 1 1,.int .i64 0]) (by simp[results,results12,go_sem,cx]) ⟨⟨_,rfl⟩,HA5.out,HO5.out⟩
theorem aon_40 (Fs:Nat→Prop) (p:AgP) (c:Cf) (size:Int) (bs:List Int) (used upto:Int) (own:List Pl.Ev) (sd:List (Nat×Nat)) (es:List Pl.Ev) (clock:Int) (a:Nat) (O:Nat→Nat→Bool) (U:Nat→Nat) (M:List (Nat×Nat)) (v:Value) (w:World) (h:AgAt Fs w p c size bs used upto own sd es clock) (hv:Bs w v (Pl.frame (Pl.body4 a c.n 0 U M))) (ha:a<8) (hne:a≠c.n) (hc:Pl.Closed O U M) (hlen:(Pl.body4 a c.n 0 U M).length≤4096) (hl:(Pl.codes es).length≤4000) :
  Calls prog 12 #[Qp p.a,v] w fun r w'=>∃v ms' parts,r=.returned (.tuple #[v,.int .i64 0])∧Deltas w' c.n a ms' parts∧Hands parts (es.filter (fun e=> !O e.at.1 e.at.2))∧(∀p∈parts,p≠[]∧p.length≤768)∧Below w.heap.size w w'∧∃tail,OwnR kMsg w.heap.size w' v (ms'++tail)∧(tail=[]∧(∀a s,O a s=true→(a,s)∈sd)∨∃O' U' M' ao' cap',tail=[dgq c.n a 1 U' (ao',M'.length,cap')]∧SetV w' (Pl.setv U' (.slice ao' M'.length cap')) O' U' M'∧Holds O' sd):=by
 have b1:=bn w (.cells (Qo 0) 41)
 have HX:=zA (heap_alloc_new w (.cells (Qo 0) 41))
 have HB:=zA b1
 have HTH:=zA (xK Fs p c size bs 0 0 sd es clock own used upto _ (h.below b1))
 have HA:=zA (fun (W:World) (hW:Below w.heap.size w W)=>h.below hW)
 have pK:=zA (mget_4 v a c.n 0 O U M _ (hv.keep (KeepB.of_below b1)) ha h.ok.n hne lD hc hlen)
 have HH:=zA (And.intro ha (And.intro hne h.ok.n))
 have HMTU:=zA h.ok.mtu
 have HX1:=zA (And.intro hc hl)
 clear hc hl hlen
 clear b1 h hv ha hne
 go_enter_defers func12,ntmps12
 go_wp2_with fail
 generalize w.alloc (.cells (Qo 0) 41)=W at *
 refine HTH.out.mono ?_
 rintro r w' ⟨rfl,rfl⟩
 go_wp2_with fail
 refine pK.out.mono ?_
 rintro r w1 ⟨ao,cap,rfl,qD,hb⟩
 have HB1:=zA (HB.out.trans (hb.mono HB.out.size))
 have pY:=zA (zC HX.out hb)
 have pB:=zA qD
 clear qD hb pK HTH HX
 go_wp2_with fail
 refine(got48_4 a 0 c U ao M.length cap w1).mono ?_
 rintro r w2 ⟨rfl,hb⟩
 have b3:=bn w2 (.cells (Qsu 4 (a:Int) (c.n:Int) 0 U (.slice ao M.length cap)) 115)
 have HB3:=zA (HB1.out.trans ((hb.trans (b3.mono hb.size)).mono HB1.out.size))
 have HX3:=zA (zC pY.out (hb.trans (b3.mono hb.size)))
 have qS:=zA (pB.out.below (hb.trans (b3.mono hb.size)))
 have HM3:=zA (heap_alloc_new w2 (.cells (Qsu 4 (a:Int) (c.n:Int) 0 U (.slice ao M.length cap)) 115))
 have HGE:=zA (Nat.le_trans HB1.out.size hb.size)
 clear hb b3 HB1 pY pB
 go_wp2_with (refine zJ rfl 115 (.tmp 6) (.tmp 17) Qnn (Qsu 4 (a:Int) (c.n:Int) 0 U (.slice ao M.length cap)) rfl rfl _ rfl rfl rfl lE rfl lE rfl ?_)
 generalize hw3:w2.alloc (.cells (Qsu 4 (a:Int) (c.n:Int) 0 U (.slice ao M.length cap)) 115)=w3 at *
 clear hw3
 have HRT:=zA (show ∀W,Below w3.heap.size w3 W→Calls prog 114 #[.agg (Qsu 4 (a:Int) (c.n:Int) 0 U (.slice ao M.length cap))] W fun r w'=>r=.returned (.bool true)∧Below W.heap.size W w' from by
  have qM:=qS.out
  have h1:=HH.out
  have h2:=HX1.out
  exact fun W hW=>uL W a c.n 0 U ao M.length cap O M (qM.below hW) lF (zL lD lD) (zL lD lD) lD)
 refine zD (fun W'=>W'.heap[p.a]?=some (.cells #[.int .i64 c.n,.int .i64 c.mtu,.int .i64 c.win,.int .i64 c.kp,.int .u64 c.salt,.int .u64 c.seed,.int .i64 c.c0,.int .i64 c.c1,.int .i64 c.c2,Qp p.s,Qp p.g,Qp p.D,Qp p.A,.int .i64 0,.bool false] 108 (0,0))∧W'.heap[w2.heap.size]?=some (.cells (Qsu 4 (a:Int) (c.n:Int) 0 U (.slice ao M.length cap)) 115 (0,0))) 99 lE ⟨(HA.out w3 HB3.out).ag,HM3.out⟩ (fun qB=>?_)
 refine zX 0 18 rfl ?_
 refine zX 1 19 rfl ?_
 refine zX 2 20 rfl ?_
 refine tkq 3 21 rfl lP ?_
 refine tl 4 22 rfl 115 (.tmp 6) w2.heap.size rfl rfl (fun wS hSw=>hSw.2) underlying115 ?_ (hQ:=fun _ a _ h=>zV (by simp[results,results12,Act.put,getD_put]) _ _ _ h)
 refine t1 5 rfl (fun K hK=>?_)
 go_simp
 refine(don_4 p.D p.T p.O p.S c.n c.c0 c.c1 c.c2 a 0 U ao M.length cap w3.drew ((HA.out _ HB3.out.drew).dt) (fun W hW=>HRT.out W ((Below.refl _ _).drew.trans hW))).mono ?_
 rintro r w4 ⟨rfl,hb⟩
 have hbw:=(Below.refl w3.heap.size w3).drew.trans hb
 have HB4:=zA (HB3.out.trans (hbw.mono HB3.out.size))
 have HM4:=zA (zC HM3.out hbw)
 have HX4:=zA (zC HX3.out hbw)
 have HROW4:=zA (qS.out.below hbw)
 have HBB:=zA hbw
 have qE:=And.intro (HA.out w4 HB4.out).ag HM4.out
 clear hb hbw qB
 refine hK.out _ _ (fun _=>qE) (fun _=>?_)
 clear hK K
 try simp only[pt,List.set]
 have qB:=qE
 clear qE
 refine zX 6 24 rfl ?_
 refine zX 7 25 rfl ?_
 refine t1 8 rfl (fun K hK=>?_)
 go_simp
 refine(uO _ w4).mono ?_
 rintro r w4' ⟨rfl,hw4⟩
 subst hw4
 refine hK.out _ _ (fun _=>qB) (fun _=>?_)
 clear hK K
 try simp only[pt,List.set]
 refine zX 9 7 rfl ?_
 refine wd ?_
 clear qB
 go_wp2_with fail
 refine zD (fun W'=>W'.heap[p.a]?=some (.cells #[.int .i64 c.n,.int .i64 c.mtu,.int .i64 c.win,.int .i64 c.kp,.int .u64 c.salt,.int .u64 c.seed,.int .i64 c.c0,.int .i64 c.c1,.int .i64 c.c2,Qp p.s,Qp p.g,Qp p.D,Qp p.A,.int .i64 0,.bool false] 108 (0,0))∧W'.heap[w2.heap.size]?=some (.cells (Qsu 4 (a:Int) (c.n:Int) 0 U (.slice ao M.length cap)) 115 (0,0))) 99 lE ⟨(HA.out w4 HB4.out).ag,HM4.out⟩ (fun qB=>?_)
 refine zX 0 28 rfl ?_
 refine zX 1 29 rfl ?_
 refine zX 2 30 rfl ?_
 refine tkq 3 31 rfl lQ ?_
 refine tl 4 32 rfl 115 (.tmp 6) w2.heap.size rfl rfl (fun wS hSw=>hSw.2) underlying115 ?_ (hQ:=fun _ a _ h=>zV (by simp[results,results12,Act.put,getD_put]) _ _ _ h)
 refine t1 5 rfl (fun K hK=>?_)
 go_simp
 refine(gon_40 p.g p.o p.b p.ms p.mh c.n c.mtu a O U M ao cap sd es clock w4.drew ((HA.out _ HB4.out.drew).go) (HROW4.out.below (Below.refl _ _).drew) HH.out.1 (Ne.symm HH.out.2.1) HX1.out.2 HMTU.out (fun W hW=>HRT.out W (HBB.out.trans (((Below.refl _ _).drew.trans hW).mono HBB.out.size)))).mono ?_
 rintro r w5 ⟨v5,mq,parts,rfl,qY,hfl,hpp,hb,htl⟩
 obtain⟨aov,nv,capv,rfl⟩:∃x y z,v5=.slice x y z:=by
  obtain⟨tail,ho,_⟩:=htl
  obtain⟨x,z,e⟩:=ho.toT.form
  exact⟨x,_,z,e⟩
 have hbw:=(Below.refl w4.heap.size w4).drew.trans hb
 have HB5:=zA (HB4.out.trans (hbw.mono HB4.out.size))
 have HM5:=zA (zC HM4.out hbw)
 have HX5:=zA (zC HX4.out hbw)
 have HZ:=zA (And.intro qY (And.intro hfl hpp))
 have HT:=zA htl
 have qE:=And.intro (HA.out _ HB5.out).ag HM5.out
 clear qY hfl hpp hb hbw htl qB
 refine hK.out _ _ (fun _=>qE) (fun _=>?_)
 clear hK K
 try simp only[pt,List.set]
 have qB:=qE
 clear qE
 refine zX 6 27 rfl ?_
 refine zX 7 34 rfl ?_
 refine zX 8 35 rfl ?_
 refine zX 9 36 rfl ?_
 refine zX 10 8 rfl ?_
 refine zX 11 9 rfl ?_
 refine zX 12 10 rfl ?_
 refine wd ?_
 clear qB
 go_wp2_with fail
 refine(yO w5).mono ?_
 rintro r w5' ⟨rfl,hw5⟩
 subst hw5
 have hx5:=HX5.out
 have fx:=zB hx5 0
 have cx:=cc 0 hx5
 obtain⟨tail,hot,htl⟩:=HT.out
 have hml:(mq++tail).length≤1000:=by
  have h1:=HZ.out.1.1;have h2:=Pl.parts_le parts (fun p hp=>(HZ.out.2.2 p hp).1);have h3:=(show(parts.flatten.map Pl.Ev.abs).Perm ((es.filter (fun e=> !O e.at.1 e.at.2)).map Pl.Ev.abs)from HZ.out.2.1).length_eq;rw[List.length_map,List.length_map]at h3;have h4:=List.length_filter_le (fun e=> !O e.at.1 e.at.2) es;have h5:=(HA.out _ HB5.out).go.len
  have h6:tail.length≤1:=by rcases htl with⟨h,_⟩ | ⟨_,_,_,_,_,h,_⟩<;>simp[h]
  rw[List.length_append];omega
 have HL:=zA hml
 have qI:=zA hot.toT.toC
 have HTL:=zA htl
 clear hot hml htl
 have hx6:∀w6,Below w5.heap.size w5 w6→w6.heap[w.heap.size]?=some (.cells (Qo 0) 41 (0,0)):=fun w6 h=>zC hx5 h
 have HX6:=zA hx6
 clear hx5 hx6 fx cx
 go_wp2_with (
  at_builtin
  refine yU kMsg rfl (.tmp 39) (.tmp 40) rfl rfl (yJ kMsg w5.heap.size w5) rfl qI.out (by have:=HL.out;simpa using(by omega:(mq++tail).length≤1000000)) (Below.refl w5.heap.size w5) (Nat.le_refl _) ?_
  intro v6 w6 hown6 hb6 hg6
  have HV6:=zA hown6
  have HB6:=zA hb6
  have hx6:=HX6.out w6 hb6
  have fx:=zB hx6 0
  have cx:=cc 0 hx6
  have hid:w6.setCell ⟨w.heap.size,0,none⟩ (.int .i64 0)=w6:=zN hx6 (j:=0) (v:=.int .i64 0) rfl
  clear hown6 hb6 hg6 hx6)
 refine leaves_cons (f:=46) (args:=#[Qp w.heap.size]) (by simp) (by simp[go_sem]) ?_
 refine(xE _ _).mono ?_
 rintro r u' w'' ⟨rfl,rfl,rfl⟩
 have hv6:=HV6.out
 rw[List.nil_append]at hv6
 have hv7:=hv6.mono HB5.out.size
 exact yY (v:=.tuple #[v6,.int .i64 0]) (by simp[results,results12,go_sem,cx]) ⟨v6,mq,parts,rfl,HZ.out.1.below HB6.out,HZ.out.2.1,HZ.out.2.2,HB5.out.trans (HB6.out.mono HB5.out.size),tail,hv7,HTL.out.imp id (fun ⟨O1,U1,M1,a1,c1,e1,h1,h2⟩=>⟨O1,U1,M1,a1,c1,e1,h1.below HB6.out,h2⟩)⟩
theorem aon_41 (Fs:Nat→Prop) (p:AgP) (c:Cf) (size:Int) (bs:List Int) (used upto:Int) (own:List Pl.Ev) (sd:List (Nat×Nat)) (es:List Pl.Ev) (clock:Int) (a:Nat) (O:Nat→Nat→Bool) (U:Nat→Nat) (M:List (Nat×Nat)) (v:Value) (w:World) (h:AgAt Fs w p c size bs used upto own sd es clock) (hv:Bs w v (Pl.frame (Pl.body4 a c.n 1 U M))) (ha:a<8) (hne:a≠c.n) (hc:Pl.Closed O U M) (hlen:(Pl.body4 a c.n 1 U M).length≤4096) (hl:(Pl.codes es).length≤4000) :
  Calls prog 12 #[Qp p.a,v] w fun r w'=>∃v ms' parts,r=.returned (.tuple #[v,.int .i64 0])∧Deltas w' c.n a ms' parts∧Hands parts (es.filter (fun e=> !O e.at.1 e.at.2))∧(∀p∈parts,p≠[]∧p.length≤768)∧Below w.heap.size w w'∧OwnR kMsg w.heap.size w' v ms':=by
 have b1:=bn w (.cells (Qo 0) 41)
 have HX:=zA (heap_alloc_new w (.cells (Qo 0) 41))
 have HB:=zA b1
 have HTH:=zA (xK Fs p c size bs 0 0 sd es clock own used upto _ (h.below b1))
 have HA:=zA (fun (W:World) (hW:Below w.heap.size w W)=>h.below hW)
 have pK:=zA (mget_4 v a c.n 1 O U M _ (hv.keep (KeepB.of_below b1)) ha h.ok.n hne lD hc hlen)
 have HH:=zA (And.intro ha (And.intro hne h.ok.n))
 have HMTU:=zA h.ok.mtu
 have HX1:=zA (And.intro hc hl)
 clear hc hl hlen
 clear b1 h hv ha hne
 go_enter_defers func12,ntmps12
 go_wp2_with fail
 generalize w.alloc (.cells (Qo 0) 41)=W at *
 refine HTH.out.mono ?_
 rintro r w' ⟨rfl,rfl⟩
 go_wp2_with fail
 refine pK.out.mono ?_
 rintro r w1 ⟨ao,cap,rfl,qD,hb⟩
 have HB1:=zA (HB.out.trans (hb.mono HB.out.size))
 have pY:=zA (zC HX.out hb)
 have pB:=zA qD
 clear qD hb pK HTH HX
 go_wp2_with fail
 refine(got48_4 a 1 c U ao M.length cap w1).mono ?_
 rintro r w2 ⟨rfl,hb⟩
 have b3:=bn w2 (.cells (Qsu 4 (a:Int) (c.n:Int) 1 U (.slice ao M.length cap)) 115)
 have HB3:=zA (HB1.out.trans ((hb.trans (b3.mono hb.size)).mono HB1.out.size))
 have HX3:=zA (zC pY.out (hb.trans (b3.mono hb.size)))
 have qS:=zA (pB.out.below (hb.trans (b3.mono hb.size)))
 have HM3:=zA (heap_alloc_new w2 (.cells (Qsu 4 (a:Int) (c.n:Int) 1 U (.slice ao M.length cap)) 115))
 have HGE:=zA (Nat.le_trans HB1.out.size hb.size)
 clear hb b3 HB1 pY pB
 go_wp2_with (refine zJ rfl 115 (.tmp 6) (.tmp 17) Qnn (Qsu 4 (a:Int) (c.n:Int) 1 U (.slice ao M.length cap)) rfl rfl _ rfl rfl rfl lE rfl lE rfl ?_)
 generalize hw3:w2.alloc (.cells (Qsu 4 (a:Int) (c.n:Int) 1 U (.slice ao M.length cap)) 115)=w3 at *
 clear hw3
 have HRT:=zA (show ∀W,Below w3.heap.size w3 W→Calls prog 114 #[.agg (Qsu 4 (a:Int) (c.n:Int) 1 U (.slice ao M.length cap))] W fun r w'=>r=.returned (.bool true)∧Below W.heap.size W w' from by
  have qM:=qS.out
  have h1:=HH.out
  have h2:=HX1.out
  exact fun W hW=>uL W a c.n 1 U ao M.length cap O M (qM.below hW) lF (zL lD lD) (zL lD lD) lD)
 refine zD (fun W'=>W'.heap[p.a]?=some (.cells #[.int .i64 c.n,.int .i64 c.mtu,.int .i64 c.win,.int .i64 c.kp,.int .u64 c.salt,.int .u64 c.seed,.int .i64 c.c0,.int .i64 c.c1,.int .i64 c.c2,Qp p.s,Qp p.g,Qp p.D,Qp p.A,.int .i64 0,.bool false] 108 (0,0))∧W'.heap[w2.heap.size]?=some (.cells (Qsu 4 (a:Int) (c.n:Int) 1 U (.slice ao M.length cap)) 115 (0,0))) 99 lE ⟨(HA.out w3 HB3.out).ag,HM3.out⟩ (fun qB=>?_)
 refine zX 0 18 rfl ?_
 refine zX 1 19 rfl ?_
 refine zX 2 20 rfl ?_
 refine tkq 3 21 rfl lP ?_
 refine tl 4 22 rfl 115 (.tmp 6) w2.heap.size rfl rfl (fun wS hSw=>hSw.2) underlying115 ?_ (hQ:=fun _ a _ h=>zV (by simp[results,results12,Act.put,getD_put]) _ _ _ h)
 refine t1 5 rfl (fun K hK=>?_)
 go_simp
 refine(don_4 p.D p.T p.O p.S c.n c.c0 c.c1 c.c2 a 1 U ao M.length cap w3.drew ((HA.out _ HB3.out.drew).dt) (fun W hW=>HRT.out W ((Below.refl _ _).drew.trans hW))).mono ?_
 rintro r w4 ⟨rfl,hb⟩
 have hbw:=(Below.refl w3.heap.size w3).drew.trans hb
 have HB4:=zA (HB3.out.trans (hbw.mono HB3.out.size))
 have HM4:=zA (zC HM3.out hbw)
 have HX4:=zA (zC HX3.out hbw)
 have HROW4:=zA (qS.out.below hbw)
 have HBB:=zA hbw
 have qE:=And.intro (HA.out w4 HB4.out).ag HM4.out
 clear hb hbw qB
 refine hK.out _ _ (fun _=>qE) (fun _=>?_)
 clear hK K
 try simp only[pt,List.set]
 have qB:=qE
 clear qE
 refine zX 6 24 rfl ?_
 refine zX 7 25 rfl ?_
 refine t1 8 rfl (fun K hK=>?_)
 go_simp
 refine(uO _ w4).mono ?_
 rintro r w4' ⟨rfl,hw4⟩
 subst hw4
 refine hK.out _ _ (fun _=>qB) (fun _=>?_)
 clear hK K
 try simp only[pt,List.set]
 refine zX 9 7 rfl ?_
 refine wd ?_
 clear qB
 go_wp2_with fail
 refine zD (fun W'=>W'.heap[p.a]?=some (.cells #[.int .i64 c.n,.int .i64 c.mtu,.int .i64 c.win,.int .i64 c.kp,.int .u64 c.salt,.int .u64 c.seed,.int .i64 c.c0,.int .i64 c.c1,.int .i64 c.c2,Qp p.s,Qp p.g,Qp p.D,Qp p.A,.int .i64 0,.bool false] 108 (0,0))∧W'.heap[w2.heap.size]?=some (.cells (Qsu 4 (a:Int) (c.n:Int) 1 U (.slice ao M.length cap)) 115 (0,0))) 99 lE ⟨(HA.out w4 HB4.out).ag,HM4.out⟩ (fun qB=>?_)
 refine zX 0 28 rfl ?_
 refine zX 1 29 rfl ?_
 refine zX 2 30 rfl ?_
 refine tkq 3 31 rfl lQ ?_
 refine tl 4 32 rfl 115 (.tmp 6) w2.heap.size rfl rfl (fun wS hSw=>hSw.2) underlying115 ?_ (hQ:=fun _ a _ h=>zV (by simp[results,results12,Act.put,getD_put]) _ _ _ h)
 refine t1 5 rfl (fun K hK=>?_)
 go_simp
 refine(gon_41 p.g p.o p.b p.ms p.mh c.n c.mtu a O U M ao cap sd es clock w4.drew ((HA.out _ HB4.out.drew).go) (HROW4.out.below (Below.refl _ _).drew) HH.out.1 (Ne.symm HH.out.2.1) HX1.out.2 HMTU.out (fun W hW=>HRT.out W (HBB.out.trans (((Below.refl _ _).drew.trans hW).mono HBB.out.size)))).mono ?_
 rintro r w5 ⟨v5,mq,parts,rfl,qY,hfl,hpp,hb,htl⟩
 obtain⟨aov,nv,capv,rfl⟩:∃x y z,v5=.slice x y z:=by
  obtain⟨x,z,e⟩:=htl.toT.form
  exact⟨x,_,z,e⟩
 have hbw:=(Below.refl w4.heap.size w4).drew.trans hb
 have HB5:=zA (HB4.out.trans (hbw.mono HB4.out.size))
 have HM5:=zA (zC HM4.out hbw)
 have HX5:=zA (zC HX4.out hbw)
 have HZ:=zA (And.intro qY (And.intro hfl hpp))
 have HT:=zA htl
 have qE:=And.intro (HA.out _ HB5.out).ag HM5.out
 clear qY hfl hpp hb hbw htl qB
 refine hK.out _ _ (fun _=>qE) (fun _=>?_)
 clear hK K
 try simp only[pt,List.set]
 have qB:=qE
 clear qE
 refine zX 6 27 rfl ?_
 refine zX 7 34 rfl ?_
 refine zX 8 35 rfl ?_
 refine zX 9 36 rfl ?_
 refine zX 10 8 rfl ?_
 refine zX 11 9 rfl ?_
 refine zX 12 10 rfl ?_
 refine wd ?_
 clear qB
 go_wp2_with fail
 refine(yO w5).mono ?_
 rintro r w5' ⟨rfl,hw5⟩
 subst hw5
 have hx5:=HX5.out
 have fx:=zB hx5 0
 have cx:=cc 0 hx5
 have hot:=HT.out
 have hml:mq.length≤1000:=by
  have h1:=HZ.out.1.1;have h2:=Pl.parts_le parts (fun p hp=>(HZ.out.2.2 p hp).1);have h3:=(show(parts.flatten.map Pl.Ev.abs).Perm ((es.filter (fun e=> !O e.at.1 e.at.2)).map Pl.Ev.abs)from HZ.out.2.1).length_eq;rw[List.length_map,List.length_map]at h3;have h4:=List.length_filter_le (fun e=> !O e.at.1 e.at.2) es;have h5:=(HA.out _ HB5.out).go.len
  omega
 have HL:=zA hml
 have qI:=zA hot.toT.toC
 clear hot hml
 have hx6:∀w6,Below w5.heap.size w5 w6→w6.heap[w.heap.size]?=some (.cells (Qo 0) 41 (0,0)):=fun w6 h=>zC hx5 h
 have HX6:=zA hx6
 clear hx5 hx6 fx cx
 go_wp2_with (
  at_builtin
  refine yU kMsg rfl (.tmp 39) (.tmp 40) rfl rfl (yJ kMsg w5.heap.size w5) rfl qI.out (by have:=HL.out;simpa using(by omega:mq.length≤1000000)) (Below.refl w5.heap.size w5) (Nat.le_refl _) ?_
  intro v6 w6 hown6 hb6 hg6
  have HV6:=zA hown6
  have HB6:=zA hb6
  have hx6:=HX6.out w6 hb6
  have fx:=zB hx6 0
  have cx:=cc 0 hx6
  have hid:w6.setCell ⟨w.heap.size,0,none⟩ (.int .i64 0)=w6:=zN hx6 (j:=0) (v:=.int .i64 0) rfl
  clear hown6 hb6 hg6 hx6)
 refine leaves_cons (f:=46) (args:=#[Qp w.heap.size]) (by simp) (by simp[go_sem]) ?_
 refine(xE _ _).mono ?_
 rintro r u' w'' ⟨rfl,rfl,rfl⟩
 have hv6:=HV6.out
 rw[List.nil_append]at hv6
 have hv7:=hv6.mono HB5.out.size
 exact yY (v:=.tuple #[v6,.int .i64 0]) (by simp[results,results12,go_sem,cx]) ⟨v6,mq,parts,rfl,HZ.out.1.below HB6.out,HZ.out.2.1,HZ.out.2.2,HB5.out.trans (HB6.out.mono HB5.out.size),hv7⟩
theorem gotS_abs {l' l:List Pl.Ev} (h:l'.map Pl.Ev.abs=l.map Pl.Ev.abs) {S:List (Nat×Nat)}:gotS S l'=gotS S l:=by
 have hk:∀l:List Pl.Ev,gotS S l=(l.map Pl.Ev.abs).foldl addS S:=fun l=>by
  rw[List.foldl_map]
  rfl
 rw[hk,hk,h]
theorem gotE_abs:∀{l' l:List Pl.Ev} {a' a:List Pl.Ev},a'.map Pl.Ev.abs=a.map Pl.Ev.abs→l'.map Pl.Ev.abs=l.map Pl.Ev.abs→(gotE a' l').map Pl.Ev.abs=(gotE a l).map Pl.Ev.abs
 | [],[],_,_,ha,_=>ha
 | [],_::_,_,_,_,h=>by simp at h
 | _::_,[],_,_,_,h=>by simp at h
 | e'::l',e::l,a',a,ha,h=>by
  rw[List.map_cons,List.map_cons]at h
  injection h with h1 h2
  have hat:e'.at=e.at:=show e'.abs.at=e.abs.at by rw[h1]
  have hrm:e'.rm=e.rm:=show e'.abs.rm=e.abs.rm by rw[h1]
  refine gotE_abs (l':=l') (l:=l) ?_ h2
  dsimp only
  rw[hat,hrm,List.map_append,List.map_append,outE_abs ha]
  simp[h1]
theorem fresh_abs {S:List (Nat×Nat)} {l' l:List Pl.Ev} (h:l'.map Pl.Ev.abs=l.map Pl.Ev.abs) (hf:Fresh S l):Fresh S l':=by
 have hk:∀l:List Pl.Ev,Fresh S l↔Fresh S (l.map Pl.Ev.abs):=fun l=>by
  unfold Fresh
  rw[List.pairwise_map,List.forall_mem_map]
  exact Iff.rfl
 rw[hk,h,←hk]
 exact hf
theorem aon_5 (Fs:Nat→Prop) (p:AgP) (c:Cf) (size:Int) (bs:List Int) (used upto:Int) (own:List Pl.Ev) (sd:List (Nat×Nat)) (es:List Pl.Ev) (clock:Int) (a:Nat) (new:List Pl.Ev) (v:Value) (w:World) (h:AgAt Fs w p c size bs used upto own sd es clock) (hv:Bs w v (Pl.frame (Pl.body5 a c.n new))) (ha:a<8) (hne:a≠c.n) (hok:∀e∈new,e.Ok) (hlen:(Pl.body5 a c.n new).length≤4096) (hl:es.length+new.length<768) (pP:Fresh sd new) :
  Calls prog 12 #[Qp p.a,v] w fun r w'=>r=.returned (.tuple #[.slice none 0 0,.int .i64 0])∧(∃cl er,Same er (gotE es new)∧AgAt Fs w' p c size bs used upto own (gotS sd new) er cl)∧Off (fun x=>x=p.b∨x=p.ms∨x=p.mh) w w':=by
 have b1:=bn w (.cells (Qo 0) 41)
 have HX:=zA (heap_alloc_new w (.cells (Qo 0) 41))
 have HB:=zA b1
 have HTH:=zA (xK Fs p c size bs 0 0 sd es clock own used upto _ (h.below b1))
 have HA:=zA (fun (W:World) (hW:Below w.heap.size w W)=>h.below hW)
 have pK:=zA (mget_5 v a c.n new _ (hv.keep (KeepB.of_below b1)) ha h.ok.n hne lD hok hlen)
 have HH:=zA (And.intro ha (And.intro hne h.ok.n))
 have HMTU:=zA h.ok.mtu
 have HX1:=zA (And.intro hok (And.intro hl pP))
 clear hok hl hlen pP
 clear b1 h hv ha hne
 go_enter_defers func12,ntmps12
 go_wp2_with fail
 generalize w.alloc (.cells (Qo 0) 41)=W at *
 refine HTH.out.mono ?_
 rintro r w' ⟨rfl,rfl⟩
 go_wp2_with fail
 refine pK.out.mono ?_
 rintro r w1 ⟨ao,cap,nw,rfl,qD,hrp,hb⟩
 have HXN:=zA (show(∀e∈nw,e.Ok)∧es.length+nw.length<768∧Fresh sd nw from⟨hrp.ok HX1.out.1,by rw[hrp.len];exact HX1.out.2.1,fresh_abs hrp.1 HX1.out.2.2⟩)
 have HRP1:=zA hrp
 rw[←hrp.len]at qD ⊢
 have HB1:=zA (HB.out.trans (hb.mono HB.out.size))
 have pY:=zA (zC HX.out hb)
 have pB:=zA qD
 clear qD hrp hb pK HTH HX HX1
 go_wp2_with fail
 refine(got48_5 a c ao nw.length cap w1).mono ?_
 rintro r w2 ⟨rfl,hb⟩
 have b3:=bn w2 (.cells (Qtk 5 (a:Int) (c.n:Int) (.slice ao nw.length cap)) 115)
 have HB3:=zA (HB1.out.trans ((hb.trans (b3.mono hb.size)).mono HB1.out.size))
 have HX3:=zA (zC pY.out (hb.trans (b3.mono hb.size)))
 have qS:=zA (pB.out.below (hb.trans (b3.mono hb.size)))
 have HRP3:=zA (HRP1.out.below (hb.trans (b3.mono hb.size)))
 have HM3:=zA (heap_alloc_new w2 (.cells (Qtk 5 (a:Int) (c.n:Int) (.slice ao nw.length cap)) 115))
 have HGE:=zA (Nat.le_trans HB1.out.size hb.size)
 clear hb b3 HB1 pY pB HRP1
 go_wp2_with (refine zJ rfl 115 (.tmp 6) (.tmp 17) Qnn (Qtk 5 (a:Int) (c.n:Int) (.slice ao nw.length cap)) rfl rfl _ rfl rfl rfl lE rfl lE rfl ?_)
 generalize hw3:w2.alloc (.cells (Qtk 5 (a:Int) (c.n:Int) (.slice ao nw.length cap)) 115)=w3 at *
 clear hw3
 have HRT:=zA (show ∀W,Below w3.heap.size w3 W→Calls prog 114 #[.agg (Qtk 5 (a:Int) (c.n:Int) (.slice ao nw.length cap))] W fun r w'=>r=.returned (.bool true)∧Below W.heap.size W w' from by
  have qM:=qS.out
  have HRP:=HRP3.out
  have h1:=HH.out
  have HOK:=HXN.out.1;have HL:=HXN.out.2.1
  exact fun W hW=>uK W a c.n ao nw.length cap nw (qM.toC.below hW) lD HOK (fun e he=>(HRP.2 e he).below hW) (zL lD lD) (zL lD lD) lD)
 refine zD (fun W'=>W'.heap[p.a]?=some (.cells #[.int .i64 c.n,.int .i64 c.mtu,.int .i64 c.win,.int .i64 c.kp,.int .u64 c.salt,.int .u64 c.seed,.int .i64 c.c0,.int .i64 c.c1,.int .i64 c.c2,Qp p.s,Qp p.g,Qp p.D,Qp p.A,.int .i64 0,.bool false] 108 (0,0))∧W'.heap[w2.heap.size]?=some (.cells (Qtk 5 (a:Int) (c.n:Int) (.slice ao nw.length cap)) 115 (0,0))) 99 lE ⟨(HA.out w3 HB3.out).ag,HM3.out⟩ (fun qB=>?_)
 refine zX 0 18 rfl ?_
 refine zX 1 19 rfl ?_
 refine zX 2 20 rfl ?_
 refine tkq 3 21 rfl lP ?_
 refine tl 4 22 rfl 115 (.tmp 6) w2.heap.size rfl rfl (fun wS hSw=>hSw.2) underlying115 ?_ (hQ:=fun _ a _ h=>zV (by simp[results,results12,Act.put,getD_put]) _ _ _ h)
 refine t1 5 rfl (fun K hK=>?_)
 go_simp
 refine(don_5 p.D p.T p.O p.S c.n c.c0 c.c1 c.c2 a 0 ao nw.length cap w3.drew ((HA.out _ HB3.out.drew).dt) (fun W hW=>HRT.out W ((Below.refl _ _).drew.trans hW))).mono ?_
 rintro r w4 ⟨rfl,hb⟩
 have hbw:=(Below.refl w3.heap.size w3).drew.trans hb
 have HB4:=zA (HB3.out.trans (hbw.mono HB3.out.size))
 have HM4:=zA (zC HM3.out hbw)
 have HX4:=zA (zC HX3.out hbw)
 have HROW4:=zA (qS.out.below hbw)
 have HRP4:=zA (HRP3.out.below hbw)
 have HBB:=zA hbw
 have qE:=And.intro (HA.out w4 HB4.out).ag HM4.out
 clear hb hbw qB
 refine hK.out _ _ (fun _=>qE) (fun _=>?_)
 clear hK K
 try simp only[pt,List.set]
 have qB:=qE
 clear qE
 refine zX 6 24 rfl ?_
 refine zX 7 25 rfl ?_
 refine t1 8 rfl (fun K hK=>?_)
 go_simp
 refine(uO _ w4).mono ?_
 rintro r w4' ⟨rfl,hw4⟩
 subst hw4
 refine hK.out _ _ (fun _=>qB) (fun _=>?_)
 clear hK K
 try simp only[pt,List.set]
 refine zX 9 7 rfl ?_
 refine wd ?_
 clear qB
 go_wp2_with fail
 refine zD (fun W'=>W'.heap[p.a]?=some (.cells #[.int .i64 c.n,.int .i64 c.mtu,.int .i64 c.win,.int .i64 c.kp,.int .u64 c.salt,.int .u64 c.seed,.int .i64 c.c0,.int .i64 c.c1,.int .i64 c.c2,Qp p.s,Qp p.g,Qp p.D,Qp p.A,.int .i64 0,.bool false] 108 (0,0))∧W'.heap[w2.heap.size]?=some (.cells (Qtk 5 (a:Int) (c.n:Int) (.slice ao nw.length cap)) 115 (0,0))) 99 lE ⟨(HA.out w4 HB4.out).ag,HM4.out⟩ (fun qB=>?_)
 refine zX 0 28 rfl ?_
 refine zX 1 29 rfl ?_
 refine zX 2 30 rfl ?_
 refine tkq 3 31 rfl lQ ?_
 refine tl 4 32 rfl 115 (.tmp 6) w2.heap.size rfl rfl (fun wS hSw=>hSw.2) underlying115 ?_ (hQ:=fun _ a _ h=>zV (by simp[results,results12,Act.put,getD_put]) _ _ _ h)
 refine t1 5 rfl (fun K hK=>?_)
 go_simp
 refine(gon_5 p.g p.o p.b p.ms p.mh c.n c.mtu a ao cap nw sd es clock w4.drew ((HA.out _ HB4.out.drew).go) (HROW4.out.below (Below.refl _ _).drew) (HRP4.out.below (Below.refl _ _).drew).2 HXN.out.1 HXN.out.2.1 HXN.out.2.2 (fun W hW=>HRT.out W (HBB.out.trans (((Below.refl _ _).drew.trans hW).mono HBB.out.size)))).mono ?_
 rintro r w5 ⟨av,cl,er,rfl,hsa,hgo,hof⟩
 have HSA:=zA (show Same er (gotE es new)from hsa.trans (gotE_abs rfl HRP4.out.1))
 rw[gotS_abs HRP4.out.1]at hgo
 clear hsa
 have hA4:=(HA.out _ HB4.out.drew)
 have HA5:=zA (show AgAt Fs w5 p c size bs used upto own (gotS sd new) er cl from hA4.gave hgo hof)
 have HM5:=zA (show w5.heap[w2.heap.size]?=_ from(hA4.go.calm hof (show w4.drew.heap[w2.heap.size]?=_ from HM4.out) lF).trans HM4.out)
 have HX5:=zA (show w5.heap[w.heap.size]?=_ from(hA4.go.calm hof (show w4.drew.heap[w.heap.size]?=_ from HX4.out) lF).trans HX4.out)
 have HO5:=zA (show Off (fun x=>x=p.b∨x=p.ms∨x=p.mh) w w5 from(Off.of_below HB4.out.drew).trans hof)
 have qE:=And.intro HA5.out.ag HM5.out
 clear hgo hof qB hA4
 refine hK.out _ _ (fun _=>qE) (fun _=>?_)
 clear hK K
 try simp only[pt,List.set]
 have qB:=qE
 clear qE
 refine zX 6 27 rfl ?_
 refine zX 7 34 rfl ?_
 refine zX 8 35 rfl ?_
 refine zX 9 36 rfl ?_
 refine zX 10 8 rfl ?_
 refine zX 11 9 rfl ?_
 refine zX 12 10 rfl ?_
 refine wd ?_
 clear qB
 go_wp2_with fail
 refine(yO w5).mono ?_
 rintro r w5' ⟨rfl,hw5⟩
 subst hw5
 have hx5:=HX5.out
 have fx:=zB hx5 0
 have cx:=cc 0 hx5
 have happ:=fun ty=>app_nil0 ty w5
 have hid:w5.setCell ⟨w.heap.size,0,none⟩ (.int .i64 0)=w5:=zN hx5 (j:=0) (v:=.int .i64 0) rfl
 clear hx5
 go_wp2_with fail
 refine leaves_cons (f:=46) (args:=#[Qp w.heap.size]) (by simp) (by simp[go_sem]) ?_
 refine(xE _ _).mono ?_
 rintro r u' w'' ⟨rfl,rfl,rfl⟩
 exact yY (v:=.tuple #[.slice none 0 0,.int .i64 0]) (by simp[results,results12,go_sem,cx]) ⟨rfl,⟨_,er,HSA.out,HA5.out⟩,HO5.out⟩
theorem dinc_ok {D T O S n:Nat} {c0 c1 c2:Int} (w:World) (h:DtAt w D T O S n c0 c1 c2):Calls prog 294 #[Qp D] w fun r w'=>r=.returned (.int .i64 1)∧w=w':=by
 have x1:=cc 1 h.ms
 clear h
 go_enter func294,ntmps294
 go_wp2_with fail
 go_ret
 exact⟨rfl,rfl⟩
theorem ainc_ok (Fs:Nat→Prop) (p:AgP) (c:Cf) (size:Int) (bs:List Int) (used upto:Int) (own:List Pl.Ev) (sd:List (Nat×Nat)) (es:List Pl.Ev) (clock:Int) (w:World) (h:AgAt Fs w p c size bs used upto own sd es clock):Calls prog 220 #[Qp p.a] w fun r w'=>r=.returned (.int .i64 1)∧w=w':=by
 have x11:=cc 11 h.ag
 have HD:=zA (dinc_ok w h.dt)
 clear h
 go_enter func220,ntmps220
 go_wp2_with fail
 refine HD.out.mono ?_
 rintro r w' ⟨rfl,rfl⟩
 go_wp2_with fail
 go_ret
 exact⟨rfl,rfl⟩
theorem sW (w:World):Calls prog 61 #[] w fun r w'=>∃a,r=.returned (.pointer (some a))∧Below w.heap.size w w':=by
 have hmm:=@run_makeMap prog
 have HB:=zA (fun (o o':Obj)=>(bn w o).alloc (bn w o).size o')
 go_enter func61,ntmps61
 go_wp2_with fail
 go_ret
 exact⟨_,rfl,HB.out _ _⟩
theorem vD (w:World):Calls prog 62 #[] w fun r w'=>∃a,r=.returned (.pointer (some a))∧Below w.heap.size w w':=by
 have HB:=zA (fun (o:Obj)=>bn w o)
 go_enter func62,ntmps62
 go_wp2_with fail
 go_ret
 exact⟨_,rfl,HB.out _⟩
theorem disknew_ok (size:Int) (w:World) (h:1≤size∧size≤16384):Calls prog 63 (Qo size) w fun r w'=>r=.returned (.tuple #[Qp w.heap.size,.int .i64 0])∧DkAt (fun g=>g=w.heap.size) w' w.heap.size size []∧Below w.heap.size w w':=by
 have b1:=bn w (.cells #[.int .i64 size,.slice none 0 0,.slice none 0 0] 244)
 have HD:=zA (show DkAt (fun g=>g=w.heap.size) (w.alloc (.cells #[.int .i64 size,.slice none 0 0,.slice none 0 0] 244)) w.heap.size size []from⟨rfl,.slice none 0 0,⟨_,heap_alloc_new w _,rfl,fun i hi=>by
  match i,hi with
  | 0,_=>rfl
  | 1,_=>rfl
  | 2,_=>rfl⟩,bytes_nil _,fun g hb=>absurd rfl hb⟩)
 have HB:=zA b1
 have a0:¬size<1:=by omega
 have a1:¬size>16384:=by omega
 clear b1 h
 go_enter func63,ntmps63
 go_wp2_with fail
 exact bodyPost_ret (v:=.tuple #[Qp w.heap.size,.int .i64 0]) (by simp[results,results63,go_sem]) rfl ⟨rfl,HD.out,HB.out⟩
theorem rY (nodes disk nd0 mtu win kp salt seed c0 c1 c2:Int) (n:Nat) (w:World) :
  Calls prog 60 #[.agg (Qc nodes disk nd0 mtu win kp salt seed c0 c1 c2),.int .i64 n] w fun r w'=>∃sd,r=.returned (.agg (Qd n mtu win kp salt sd c0 c1 c2))∧Below w.heap.size w w':=by
 obtain⟨hx,hy,b1⟩:=zU w (.cells (Qc nodes disk nd0 mtu win kp salt seed c0 c1 c2) 76) (.cells (Qdd 0 0 0 0 0 0) 74)
 have HB:=zA (fun (o o':Obj)=>(((bn w (.cells (Qc nodes disk nd0 mtu win kp salt seed c0 c1 c2) 76)).alloc (bn w (.cells (Qc nodes disk nd0 mtu win kp salt seed c0 c1 c2) 76)).size o).alloc ((bn w (.cells (Qc nodes disk nd0 mtu win kp salt seed c0 c1 c2) 76)).alloc (bn w (.cells (Qc nodes disk nd0 mtu win kp salt seed c0 c1 c2) 76)).size o).size o'))
 have HY:=zA (fun (cs cs':Array Value)=>(show(((w.alloc (.cells (Qc nodes disk nd0 mtu win kp salt seed c0 c1 c2) 76)).alloc (.cells cs 74)).alloc (.cells cs' 74)).heap[w.heap.size+1]?=some (.cells cs 74 (0,0))from by
  have h1:=zC (heap_alloc_new (w.alloc (.cells (Qc nodes disk nd0 mtu win kp salt seed c0 c1 c2) 76)) (.cells cs 74)) (bn _ (.cells cs' 74))
  rw[zG]at h1
  exact h1))
 have x2:=cc 2 hx
 have x3:=cc 3 hx
 have x4:=cc 4 hx
 have x5:=cc 5 hx
 have x6:=cc 6 hx
 have x7:=cc 7 hx
 have x8:=cc 8 hx
 have x9:=cc 9 hx
 have x10:=cc 10 hx
 clear hx hy b1
 go_enter func60,ntmps60
 go_wp2_with fail
 generalize IntKind.u64.wrap (seed+IntKind.u64.wrap ↑n)=sd
 have hy:=HY.out (Qd n mtu win kp salt sd c0 c1 c2) (Qd n mtu win kp salt sd c0 c1 c2)
 have y0:=cc 0 hy
 have y1:=cc 1 hy
 have y2:=cc 2 hy
 have y3:=cc 3 hy
 have y4:=cc 4 hy
 have y5:=cc 5 hy
 have y6:=cc 6 hy
 have y7:=cc 7 hy
 have y8:=cc 8 hy
 refine bodyPost_ret (v:=.agg (Qd n mtu win kp salt sd c0 c1 c2)) (by simp[results,results60,go_sem,y0,y1,y2,y3,y4,y5,y6,y7,y8]) rfl ⟨sd,rfl,HB.out _ _⟩
theorem greet_ok (Fs Fs':Nat→Prop) (p p':AgP) (c c':Cf) (size size':Int) (bs bs':List Int) (used upto used' upto':Int) (own es own' es':List Pl.Ev) (sd sd':List (Nat×Nat)) (clock clock':Int) (w:World) (h:AgAt Fs w p c size bs used upto own sd es clock) (h':AgAt Fs' w p' c' size' bs' used' upto' own' sd' es' clock') (hne:c.n≠c'.n) :
  Calls prog 129 #[Qp p.a,.int .i64 c.n,Qp p'.a,.int .i64 c'.n] w fun r w'=>r=.returned (.tuple #[])∧AgAt Fs' w' p' c' size' bs' used' upto' own' sd' es' clock'∧Off (fun g=>g=p'.T) w w':=by
 have HI:=zA (ainc_ok Fs p c size bs used upto own sd es clock w h)
 have b1:=bn w (.cells (Qj (c.n:Int) 1 1) 212)
 have hx:=heap_alloc_new w (.cells (Qj (c.n:Int) 1 1) 212)
 have x0:=cc 0 hx
 have x1:=cc 1 hx
 have x2:=cc 2 hx
 have hrw:=rN kMem (w.alloc (.cells (Qj (c.n:Int) 1 1) 212)) ((c.n:Int),(1:Int),(1:Int)) (Qj (c.n:Int) 1 1) rfl
 rw[zG]at hrw
 have HP:=zA (mput_1 c.n c'.n c.n 1 1 0 _ 1 _ hrw.toC h.ok.n h'.ok.n hne h.ok.n lD lD lD)
 clear hrw
 have HB:=zA (b1.alloc b1.size (.cells (Qj (c.n:Int) 1 1) 212))
 have HH:=zA (show c.n<8∧c'.n<8∧c.n≠c'.n from⟨h.ok.n,h'.ok.n,hne⟩)
 have HA:=zA (fun (V:World) (hV:Below w.heap.size w V)=>h'.below hV)
 have HLT:=zA (h'.hlt p'.T (by simp[AgP.has]))
 clear h h' hne b1 hx
 go_enter func129,ntmps129
 go_wp2_with fail
 refine HI.out.mono ?_
 rintro r w' ⟨rfl,rfl⟩
 clear HI
 go_wp2_with fail
 refine HP.out.mono ?_
 rintro r w2 ⟨v,rfl,hv,hb⟩
 have HB2:=zA (HB.out.trans (hb.mono HB.out.size))
 have HV:=zA hv.bs
 clear hv hb HP HB x0 x1 x2
 go_wp2_with fail
 have ha2:=HA.out w2 HB2.out
 refine(aon_1 Fs' p' c' size' bs' used' upto' own' sd' es' clock' c.n c.n v w2 ha2 HV.out HH.out.1 HH.out.2.2 HH.out.1 HH.out.2.2).mono ?_
 rintro r w3 ⟨⟨v3,rfl⟩,h3,ho⟩
 have HR:=zA (And.intro h3 (show Off (fun g=>g=p'.T) w w3 from(Off.of_below HB2.out).trans ho))
 clear h3 ho ha2
 go_wp2_with fail
 exact yG results129 ⟨rfl,HR.out⟩
end
end Go.Proofs.YtodlmbfbfaofcaaGreat
