/- TopPolicies, part 34. -/
import Derived.Test.YtodlmbfbfaofcaaGreatM01
import Derived.Test.YtodlmbfbfaofcaaGreatM02
import Derived.Test.YtodlmbfbfaofcaaGreatM04
import Derived.Test.YtodlmbfbfaofcaaGreatM08
import Derived.Test.YtodlmbfbfaofcaaGreatM21
import Derived.Test.YtodlmbfbfaofcaaGreatM33
open Go.Proofs.Tryz
namespace Go.Proofs.YtodlmbfbfaofcaaGreat
set_option linter.unusedVariables false
set_option linter.unusedSimpArgs false
set_option maxRecDepth 100000
set_option maxHeartbeats 8000000
section
open Go.RowKit Rw Rh
theorem uA (work:Int) {w:World} {l' l es:List Pl.Ev} (h:Rep w l' l) (hp:l.Perm es):(Pl.sets l' work).length=(Pl.sets es work).length:=by
 have hk:∀l:List Pl.Ev,(Pl.sets l work).length=(Pl.sets (l.map Pl.Ev.abs) work).length:=fun l=>by
  unfold Pl.sets
  rw[List.filter_map,List.length_map]
  rfl
 rw[hk l',h.1,←hk l]
 exact(hp.filter _).length_eq
theorem stands_gone (Fs:Nat→Prop) (p:AgP) (c:Cf) (size:Int) (bs:List Int) (used upto:Int) (own:List Pl.Ev) (sd:List (Nat×Nat)) (es:List Pl.Ev) (clock:Int) (E:Nat) (work mn mx goal slack up down cool:Int) (w:World) (h:AgAt Fs w p c size bs used upto own sd es clock) (hdl:∀l:List Pl.Ev,l.Perm es→(l.foldl (stD work) []).length≤96) (hss:(Pl.sets es work).length<20) (hse:Pl.sets es work=[])
  (hE:w.heap[E]?=some (.cells (Qe ((c.n:Int)) 1 1 3 work 0 mn mx goal slack up down cool) 175 (0,0))) :
  Calls prog 239 #[Qp p.a,Qp E] w fun r w'=>r=.panicked [{v:=.iface 187 (.agg (Qo 8)),recovered:=false}]∧Below w.heap.size w w':=by
 have HA:=zA h
 have HE:=zA hE
 have HDL:=zA hdl
 have HSS:=zA hss
 have HSE:=zA hse
 have x3:=cc 3 hE
 have x4:=cc 4 hE
 clear h hE hdl hss hse
 go_enter func239,ntmps239
 go_wp2_with fail
 clear x3 x4
 refine zD (fun W'=>W'.heap[E]?=some (.cells (Qe ((c.n:Int)) 1 1 3 work 0 mn mx goal slack up down cool) 175 (0,0))) 99 lE HE.out (fun qB=>?_)
 refine tkp 0 9 rfl ?_
 refine tkp 1 10 rfl ?_
 refine tkp 2 11 rfl ?_
 refine tk 3 12 rfl lN ?_
 refine tkp 4 13 rfl ?_
 refine tkp 5 14 rfl ?_
 refine tkp 6 15 rfl ?_
 refine tkp 9 18 rfl ?_
 refine tkp 10 19 rfl ?_
 refine tkp 11 20 rfl ?_
 refine tk 12 21 rfl lN ?_
 refine t1 7 rfl (fun K hK=>?_)
 go_simp
 refine(xT Fs p c size bs 0 0 sd es clock own used upto _ (HA.out.below (Below.refl _ _).drew)).mono ?_
 rintro r w1 ⟨rfl,hw⟩
 subst hw
 refine hK.out _ _ (fun _=>qB) (fun _=>?_)
 clear hK K
 try simp only[pt,List.set]
 have hg:=(HA.out.below (Below.refl _ _).drew).go
 refine t1 8 rfl (fun K hK=>?_)
 go_simp
 refine(vU p.b p.ms p.mh _ es clock _ hg.bk (by have:=hg.len;omega) hg.ok hg.is).mono ?_
 rintro r w2 ⟨v,l,rfl,hp,_,⟨l',hov,hrp⟩,hb⟩
 have hrp:Rep w2 l' l:=hrp
 have hlen:l'.length=es.length:=hrp.len.trans hp.length_eq
 have hsl:=uA work hrp hp
 have HPS:=zA (uG v l' work w2 hov.toT.toC (by have:=hg.len;omega) (hrp.ok (fun e he=>hg.ok e (hp.mem_iff.1 he))) hrp.2 (by rw[hsl];exact HSS.out))
 have HSL:=zA hsl
 have hb2:=(Below.refl w.heap.size w).drew.trans hb
 have hH2:=zC HE.out hb2
 have HB:=zA hb2
 clear hb hb2 hov hrp hlen hp hg hsl
 refine hK.out _ _ (fun _=>hH2) (fun _=>?_)
 clear hK K
 try simp only[pt,List.set]
 clear qB
 have qB:=hH2
 refine t1 13 rfl (fun K hK=>?_)
 go_simp
 refine HPS.out.mono ?_
 rintro r w3 ⟨v',l2,rfl,hov,hla,hb⟩
 obtain⟨ao,cap,rfl⟩:=hov.toT.form
 have hll:l2.length=(Pl.sets es work).length:=hla.len.trans HSL.out
 have hH3:=zC hH2 hb
 have HB3:=zA (HB.out.trans (hb.mono HB.out.size))
 refine hK.out _ _ (fun _=>hH3) (fun _=>?_)
 clear hK K hov hla hb qB HPS HSL HB
 try simp only[pt,List.set]
 have qB:=hH3
 rw[hll]
 rw[HSE.out]
 refine tkp 14 23 rfl ?_
 refine tkp 15 24 rfl ?_
 refine tkp 16 25 rfl ?_
 refine wd ?_
 clear qB
 go_wp2_with fail
 exact zT rfl ⟨rfl,HB3.out⟩
theorem stands_del (Fs:Nat→Prop) (p:AgP) (c:Cf) (size:Int) (bs:List Int) (used upto:Int) (own:List Pl.Ev) (sd:List (Nat×Nat)) (es:List Pl.Ev) (clock:Int) (E:Nat) (work mn mx goal slack up down cool:Int) (w:World) (h:AgAt Fs w p c size bs used upto own sd es clock) (hdl:∀l:List Pl.Ev,l.Perm es→(l.foldl (stD work) []).length≤96) (hss:(Pl.sets es work).length<20) (hse:Pl.sets es work≠[])
  (hE:w.heap[E]?=some (.cells (Qe ((c.n:Int)) 1 1 3 work 0 mn mx goal slack up down cool) 175 (0,0))) :
  Calls prog 239 #[Qp p.a,Qp E] w fun r w'=>r=.returned (.tuple #[])∧∃ro rc,w'.heap[E]?=some (.cells (Qy ((c.n:Int)) 1 1 3 work 0 mn mx goal slack up down cool (.slice ro (stRm work es).length rc)) 175 (0,0))∧DotsT w' (.slice ro (stRm work es).length rc) (stRm work es)∧Off (fun x=>x=E) w w':=by
 have HA:=zA h
 have HE:=zA hE
 have HDL:=zA hdl
 have HSS:=zA hss
 have HSE:=zA hse
 have x3:=cc 3 hE
 have x4:=cc 4 hE
 clear h hE hdl hss hse
 go_enter func239,ntmps239
 go_wp2_with fail
 clear x3 x4
 refine zD (fun W'=>W'.heap[E]?=some (.cells (Qe ((c.n:Int)) 1 1 3 work 0 mn mx goal slack up down cool) 175 (0,0))) 99 lE HE.out (fun qB=>?_)
 refine tkp 0 9 rfl ?_
 refine tkp 1 10 rfl ?_
 refine tkp 2 11 rfl ?_
 refine tk 3 12 rfl lN ?_
 refine tkp 4 13 rfl ?_
 refine tkp 5 14 rfl ?_
 refine tkp 6 15 rfl ?_
 refine tkp 9 18 rfl ?_
 refine tkp 10 19 rfl ?_
 refine tkp 11 20 rfl ?_
 refine tk 12 21 rfl lN ?_
 refine t1 7 rfl (fun K hK=>?_)
 go_simp
 refine(xT Fs p c size bs 0 0 sd es clock own used upto _ (HA.out.below (Below.refl _ _).drew)).mono ?_
 rintro r w1 ⟨rfl,hw⟩
 subst hw
 refine hK.out _ _ (fun _=>qB) (fun _=>?_)
 clear hK K
 try simp only[pt,List.set]
 have hg:=(HA.out.below (Below.refl _ _).drew).go
 refine t1 8 rfl (fun K hK=>?_)
 go_simp
 refine(vU p.b p.ms p.mh _ es clock _ hg.bk (by have:=hg.len;omega) hg.ok hg.is).mono ?_
 rintro r w2 ⟨v,l,rfl,hp,_,⟨l',hov,hrp⟩,hb⟩
 have hrp:Rep w2 l' l:=hrp
 have hlen:l'.length=es.length:=hrp.len.trans hp.length_eq
 have hsl:=uA work hrp hp
 have HPS:=zA (uG v l' work w2 hov.toT.toC (by have:=hg.len;omega) (hrp.ok (fun e he=>hg.ok e (hp.mem_iff.1 he))) hrp.2 (by rw[hsl];exact HSS.out))
 have HSL:=zA hsl
 have hb2:=(Below.refl w.heap.size w).drew.trans hb
 have hH2:=zC HE.out hb2
 have HB:=zA hb2
 clear hb hb2 hov hrp hlen hp hg hsl
 refine hK.out _ _ (fun _=>hH2) (fun _=>?_)
 clear hK K
 try simp only[pt,List.set]
 clear qB
 have qB:=hH2
 refine t1 13 rfl (fun K hK=>?_)
 go_simp
 refine HPS.out.mono ?_
 rintro r w3 ⟨v',l2,rfl,hov,hla,hb⟩
 obtain⟨ao,cap,rfl⟩:=hov.toT.form
 have hll:l2.length=(Pl.sets es work).length:=hla.len.trans HSL.out
 have hH3:=zC hH2 hb
 have HB3:=zA (HB.out.trans (hb.mono HB.out.size))
 refine hK.out _ _ (fun _=>hH3) (fun _=>?_)
 clear hK K hov hla hb qB HPS HSL HB
 try simp only[pt,List.set]
 have qB:=hH3
 rw[hll]
 have hn:(Pl.sets es work).length≠0:=fun h0=>HSE.out (List.length_eq_zero_iff.1 h0)
 generalize (Pl.sets es work).length=N at *
 have e0:((N:Int) == 0)=false:=by simp;omega
 refine tkp 14 23 rfl ?_
 refine tkp 15 24 rfl ?_
 refine tkp 16 25 rfl ?_
 refine wd ?_
 clear qB
 go_wp2_with fail
 refine zD (fun W'=>∃v,W'.heap[E]?=some (.cells #[.int .i64 ((c.n:Int)),.int .i64 1,.int .i64 1,.int .i64 3,.int .i64 work,.int .i64 0,.int .i64 mn,.int .i64 mx,.int .i64 goal,.int .i64 slack,.int .i64 up,.int .i64 down,.int .i64 cool,v] 175 (0,0))) 99 lE ⟨_,hH3⟩ (fun qB=>?_)
 refine tkp 0 28 rfl ?_
 refine tkp 1 29 rfl ?_
 refine tkp 3 31 rfl ?_
 refine tkp 4 32 rfl ?_
 refine tkp 5 33 rfl ?_
 refine tk 6 34 rfl kM ?_
 refine t1 2 rfl (fun K hK=>?_)
 go_simp
 refine(xT Fs p c size bs 0 0 sd es clock own used upto _ (HA.out.below (HB3.out.trans ((Below.refl _ _).drew.mono HB3.out.size)))).mono ?_
 rintro r w4 ⟨rfl,hw⟩
 subst hw
 refine hK.out _ _ (fun _=>qB) (fun _=>?_)
 clear hK K
 try simp only[pt,List.set]
 refine t1 7 rfl (fun K hK=>?_)
 go_simp
 have hg:=(HA.out.below (HB3.out.trans ((Below.refl _ _).drew.mono HB3.out.size))).go
 refine(sM p.b p.ms p.mh work _ es clock _ hg.bk (by have:=hg.len;omega) hg.ok hg.is HDL.out).mono ?_
 rintro r w5 ⟨v,rfl,hov,hb⟩
 obtain⟨ro,rc,rfl,hdt⟩:=stRm_len hov
 have hb2:=HB3.out.trans (((Below.refl w3.heap.size w3).drew.trans hb).mono HB3.out.size)
 have hH2:=zC HE.out hb2
 have HB:=zA hb2
 have HD:=zA hdt
 clear hb hb2 hov hdt hg
 refine hK.out _ _ (fun _=>⟨_,hH2⟩) (fun _=>?_)
 clear hK K
 try simp only[pt,List.set]
 clear qB
 have qB:∃v,w5.heap[E]?=some (.cells #[.int .i64 ((c.n:Int)),.int .i64 1,.int .i64 1,.int .i64 3,.int .i64 work,.int .i64 0,.int .i64 mn,.int .i64 mx,.int .i64 goal,.int .i64 slack,.int .i64 up,.int .i64 down,.int .i64 cool,v] 175 (0,0)):=⟨_,hH2⟩
 refine tkp 8 36 rfl ?_
 refine tkp 9 37 rfl ?_
 refine t1 10 rfl (fun K hK=>?_)
 go_simp
 refine(rB _ _).mono ?_
 rintro r w6 ⟨rfl,hw⟩
 subst hw
 refine hK.out _ _ (fun _=>qB) (fun _=>?_)
 clear hK K
 try simp only[pt,List.set]
 refine tkp 11 39 rfl ?_
 refine tkp 12 40 rfl ?_
 have f13:=zB hH2 13
 have x13:=cc 13 hH2
 have hs:=zF (j:=13) hH2 (.slice ro (stRm work es).length rc)
 simp only[List.setIfInBounds_toArray,List.set_cons_zero,List.set_cons_succ]at hs
 have ho:=(Off.of_below (F:=fun x=>x=E) HB.out).set (a:=⟨E,13,none⟩) (.inl rfl) (.slice ro (stRm work es).length rc)
 have hdz:=HD.out.keep (w':=w5.setCell ⟨E,13,none⟩ (.slice ro (stRm work es).length rc)) (fun g cs fr hg=>Below.heap_setCell _ _ _ _ (fun e=>by rw[show g=E from e,hH2]at hg;exact zH lF hg))
 exact nO
theorem issue_gone (Fs:Nat→Prop) (p:AgP) (c:Cf) (size:Int) (bs:List Int) (u m:Nat) (own:List Pl.Ev) (sd:List (Nat×Nat)) (es:List Pl.Ev) (clock:Int) (e:Pl.Ev) (w:World) (h:AgAt Fs w p c size bs u m own sd es clock)
  (hR:∀W,Calls prog 188 #[.agg (Qe ((c.n:Int)) 1 1 e.kind e.work e.value e.mn e.mx e.goal e.slack e.up e.down e.cool)] W fun r w'=>r=.returned (.bool true)∧Below W.heap.size W w')
  (hst:∀W E,AgAt Fs W p c size bs u m own sd es clock→W.heap[E]?=some (.cells (Qe ((c.n:Int)) 1 1 e.kind e.work e.value e.mn e.mx e.goal e.slack e.up e.down e.cool) 175 (0,0))→Calls prog 239 #[Qp p.a,Qp E] W fun r w'=>r=.panicked [{v:=.iface 187 (.agg (Qo 8)),recovered:=false}]∧Below W.heap.size W w') :
  Calls prog 148 #[Qp p.a,.agg (Qe 0 0 0 e.kind e.work e.value e.mn e.mx e.goal e.slack e.up e.down e.cool)] w fun r w'=>r=.returned (.tuple #[.agg (Qi 0 0),.int .i64 8])∧Off (fun g=>Fs g∨p.has g) w w'∧AgAt Fs w' p c size bs u m own sd es clock:=by
 have b0:=bn w (.cells (Qe 0 0 0 e.kind e.work e.value e.mn e.mx e.goal e.slack e.up e.down e.cool) 175)
 have b1:=b0.alloc b0.size (.cells (Qi 0 0) 45)
 have b2:=b1.alloc b1.size (.cells (Qo 0) 41)
 have s1:(w.alloc (.cells (Qe 0 0 0 e.kind e.work e.value e.mn e.mx e.goal e.slack e.up e.down e.cool) 175)).heap.size=w.heap.size+1:=zG _ _
 have s2:((w.alloc (.cells (Qe 0 0 0 e.kind e.work e.value e.mn e.mx e.goal e.slack e.up e.down e.cool) 175)).alloc (.cells (Qi 0 0) 45)).heap.size=w.heap.size+1+1:=by rw[zG,zG]
 have hE:=zC (zC (heap_alloc_new w (.cells (Qe 0 0 0 e.kind e.work e.value e.mn e.mx e.goal e.slack e.up e.down e.cool) 175)) (bn _ (.cells (Qi 0 0) 45))) (bn _ (.cells (Qo 0) 41))
 have hD:=zC (heap_alloc_new (w.alloc (.cells (Qe 0 0 0 e.kind e.work e.value e.mn e.mx e.goal e.slack e.up e.down e.cool) 175)) (.cells (Qi 0 0) 45)) (bn _ (.cells (Qo 0) 41))
 have hX:=heap_alloc_new ((w.alloc (.cells (Qe 0 0 0 e.kind e.work e.value e.mn e.mx e.goal e.slack e.up e.down e.cool) 175)).alloc (.cells (Qi 0 0) 45)) (.cells (Qo 0) 41)
 rw[s1]at hD
 rw[s2]at hX
 have HE:=zA hE
 have HD:=zA hD
 have HX:=zA hX
 have HB:=zA b2
 have HA0:=zA h
 have HA:=zA (h.below b2)
 have HF:Hid (∀k,w.heap.size≤k→¬Fs k∧¬p.has k):=zA (fun k hk=>⟨fun hF=>by have:=h.lt k hF;omega,fun hp=>by have:=h.hlt k hp;omega⟩)
 have HTH:=zA (xK Fs p c size bs u m sd es clock own u m _ (h.below b2))
 have x0:=zE (j:=0) (h.below b2).ag rfl
 have HR:=zA hR
 have HST:=zA hst
 have hi0:∀W,Sem.run prog (Instr.index 358 (.agg #[.func (.func 239) #[Qp p.a] #[],.func (.func 240) #[Qp p.a] #[],.func (.func 241) #[Qp p.a] #[],.func (.func 242) #[Qp p.a] #[]]) (.int .i64 0)) W=.ok (.func (.func 239) #[Qp p.a] #[]) W:=fun _=>by kernel_rfl
 have hi1:∀W,Sem.run prog (Instr.index 358 (.agg #[.func (.func 239) #[Qp p.a] #[],.func (.func 240) #[Qp p.a] #[],.func (.func 241) #[Qp p.a] #[],.func (.func 242) #[Qp p.a] #[]]) (.int .i64 1)) W=.ok (.func (.func 240) #[Qp p.a] #[]) W:=fun _=>by kernel_rfl
 have hi2:∀W,Sem.run prog (Instr.index 358 (.agg #[.func (.func 239) #[Qp p.a] #[],.func (.func 240) #[Qp p.a] #[],.func (.func 241) #[Qp p.a] #[],.func (.func 242) #[Qp p.a] #[]]) (.int .i64 2)) W=.ok (.func (.func 241) #[Qp p.a] #[]) W:=fun _=>by kernel_rfl
 have hi3:∀W,Sem.run prog (Instr.index 358 (.agg #[.func (.func 239) #[Qp p.a] #[],.func (.func 240) #[Qp p.a] #[],.func (.func 241) #[Qp p.a] #[],.func (.func 242) #[Qp p.a] #[]]) (.int .i64 3)) W=.ok (.func (.func 242) #[Qp p.a] #[]) W:=fun _=>by kernel_rfl
 have hmf:∀(fn:Fn) (first cap:Array Value) (w:World),(Instr.makeFunc fn first cap).run prog w=.ok (.func fn first cap) w:=fun _ _ _ _=>rfl
 clear b0 b1 b2 s1 s2 hE hD hX h hR hst
 go_enter_defers func148,ntmps148
 go_wp2_with fail
 generalize ((w.alloc (.cells (Qe 0 0 0 e.kind e.work e.value e.mn e.mx e.goal e.slack e.up e.down e.cool) 175)).alloc (.cells (Qi 0 0) 45)).alloc (.cells (Qo 0) 41)=W at *
 refine HTH.out.mono ?_
 rintro r w' ⟨rfl,rfl⟩
 have f0:=zB HE.out 0
 have f1:=zB HE.out 1
 have f2:=zB HE.out 2
 have y0:=cc 0 HE.out
 have y1:=cc 1 HE.out
 have y2:=cc 2 HE.out
 have hA:=zF (j:=0) HE.out (.int .i64 c.n)
 have hB:=zF (j:=1) hA (.int .i64 1)
 have hC:=zF (j:=2) hB (.int .i64 1)
 simp only[List.setIfInBounds_toArray,List.set_cons_zero,List.set_cons_succ]at hC
 have ho:Off (fun x=>x=w.heap.size) W (((W.setCell ⟨w.heap.size,0,none⟩ (.int .i64 c.n)).setCell ⟨w.heap.size,1,none⟩ (.int .i64 1)).setCell ⟨w.heap.size,2,none⟩ (.int .i64 1)):=(((Off.refl (fun x=>x=w.heap.size) W).set (a:=⟨w.heap.size,0,none⟩) (.inl rfl) _).set (a:=⟨w.heap.size,1,none⟩) (.inl rfl) _).set (a:=⟨w.heap.size,2,none⟩) (.inl rfl) _
 have HE1:=zA hC
 have HA1:=zA (HA.out.off1 (HF.out _ (Nat.le_refl _)).1 (HF.out _ (Nat.le_refl _)).2 ho (fun x hx=>(HA.out.go.is x hx).keep (Kd.one ho HE.out lF)))
 have HD1:=zA ((ho.same _ (gsi.1 HD.out).1 (fun e=>by have e':w.heap.size+1=w.heap.size:=e;omega)).trans HD.out)
 have HX1:=zA ((ho.same _ (gsi.1 HX.out).1 (fun e=>by have e':w.heap.size+1+1=w.heap.size:=e;omega)).trans HX.out)
 have HO1:=zA (show Off (fun g=>Fs g∨p.has g) w _ from(((Off.of_below HB.out).set (a:=⟨w.heap.size,0,none⟩) (.inr (Nat.le_refl _)) (.int .i64 c.n)).set (a:=⟨w.heap.size,1,none⟩) (.inr (Nat.le_refl _)) (.int .i64 1)).set (a:=⟨w.heap.size,2,none⟩) (.inr (Nat.le_refl _)) (.int .i64 1))
 clear hA hB hC ho
 go_wp2_with (refine zI rfl 175 (.tmp 3) w.heap.size (Qe ((c.n:Int)) 1 1 e.kind e.work e.value e.mn e.mx e.goal e.slack e.up e.down e.cool) 175 (0,0) _ rfl rfl HE1.out underlying175 rfl lE ?_)
 clear x0 f0 f1 f2 y0 y1 y2 HE HA HD HX HB HTH
 generalize ((W.setCell ⟨w.heap.size,0,none⟩ (.int .i64 c.n)).setCell ⟨w.heap.size,1,none⟩ (.int .i64 1)).setCell ⟨w.heap.size,2,none⟩ (.int .i64 1)=w1 at *
 refine(HR.out w1).mono ?_
 rintro r w2 ⟨rfl,hb⟩
 have HE2:=zA (zC HE1.out hb)
 have HA2:=zA (HA1.out.below hb)
 have HD2:=zA (zC HD1.out hb)
 have HX2:=zA (zC HX1.out hb)
 have HO2:=zA (HO1.out.trans (Off.of_below hb))
 clear hb HE1 HA1 HD1 HX1 HO1 HR
 go_wp2_with fail
 refine wp_loop_rounds 5 ?_
 rw[rounds_succ]
 go_wp2_with fail
 refine(HST.out w2 w.heap.size HA2.out HE2.out).mono ?_
 rintro r w3 ⟨rfl,hb⟩
 have HA4:=HA2.out.below hb
 have HX4:=zC HX2.out hb
 have HDX:=zC HD2.out hb
 have HO4:=HO2.out.trans (Off.of_below (F:=fun g=>Fs g∨p.has g) hb)
 clear hb
 go_wp2_with fail
 refine leaves_cons (f:=46) (args:=#[Qp (w.heap.size+1+1)]) (by simp) (by simp[go_sem]) ?_
 have hlt:=(gsi.1 HX4).1
 refine(xX ⟨w.heap.size+1+1,0,none⟩ 8 0 [] _ (zE HX4 rfl) (zB HX4 0)).mono ?_
 rintro r u' w'' ⟨rfl,rfl,rfl⟩
 have bz:=bn w3 (.cells (Qo 8) 187)
 have hoz:=(Off.refl (fun x=>x=w.heap.size+1+1) (w3.alloc (.cells (Qo 8) 187))).set (a:=⟨w.heap.size+1+1,0,none⟩) (.inl rfl) (.int .i64 8)
 have HAZ:=zA ((HA4.below bz).off1 (HF.out _ lD).1 (HF.out _ lD).2 hoz (fun x hx=>((HA4.below bz).go.is x hx).keep (Kd.one hoz (zC HX4 bz) lF)))
 have HOZ:=zA ((HO4.trans (Off.of_below bz)).set (a:=⟨w.heap.size+1+1,0,none⟩) (.inr (show w.heap.size≤w.heap.size+1+1 by omega)) (.int .i64 8))
 have cz:((w3.alloc (.cells (Qo 8) 187)).setCell ⟨w.heap.size+1+1,0,none⟩ (.int .i64 8)).cell? ⟨w.heap.size+1+1,0,none⟩=some (.int .i64 8):=World.cell?_setCell_same _ _ _ ((World.cell?_alloc_lt _ _ _ hlt).trans (zE HX4 rfl))
 have hd:=(hoz.same _ (gsi.1 (zC HDX bz)).1 (fun e=>by have e':w.heap.size+1=w.heap.size+1+1:=e;omega)).trans (zC HDX bz)
 have d0:=cc 0 hd
 have d1:=cc 1 hd
 clear hoz bz
 generalize (w3.alloc (.cells (Qo 8) 187)).setCell ⟨w.heap.size+1+1,0,none⟩ (.int .i64 8)=Z at *
 exact yX (v:=.tuple #[.agg (Qi 0 0),.int .i64 8]) (by simp[results,results148,go_sem,cz,d0,d1]) ⟨rfl,HOZ.out,HAZ.out⟩
theorem nodup_le:∀(n:Nat) (l:List Nat),l.Nodup→(∀x∈l,x<n)→l.length≤n:=by
 intro n
 induction n with
 | zero=>intro l _ h;cases l with
  | nil=>simp
  | cons a l=>exact absurd (h a (by simp)) lD
 | succ n ih=>
  intro l hn h
  have h1:=ih (l.erase n) (hn.erase n) (fun x hx=>by
   have h2:=(hn.mem_erase_iff).1 hx
   have:=h x h2.2
   have:=h2.1
   omega)
  rcases Classical.em (n∈l)with hm | hm
  ·have:=List.length_erase_of_mem hm
   have:=List.length_pos_of_mem hm
   omega
  ·rw[List.erase_of_not_mem hm]at h1;omega
theorem nodup_inj {α:Type} {l:List α} {f:α→Nat} (hn:l.Nodup) (hf:∀a∈l,∀b∈l,f a=f b→a=b):(l.map f).Nodup:=by
 induction l with
 | nil=>simp
 | cons a l ih=>
  rw[List.map_cons,List.nodup_cons]
  rw[List.nodup_cons]at hn
  refine⟨fun hm=>?_,ih hn.2 (fun x hx y hy=>hf x (by simp[hx]) y (by simp[hy]))⟩
  obtain⟨b,hb,e⟩:=List.mem_map.1 hm
  have:=hf b (by simp[hb]) a (by simp) e
  exact hn.1 (this ▸ hb)
theorem stO_fit (work:Int) {es:List Pl.Ev} (hok:∀e∈es,e.Ok) {n s:Nat} (h:stO work es n s=true):n<8∧1≤s∧s≤96:=by
 unfold stO at h
 obtain⟨x,hx,_,h2⟩:=of_decide_eq_true h
 obtain⟨a,b,hdt,hnm⟩:=(hok x hx).dot
 rcases h2 with h2 | h2
 ·rw[hdt.key]at h2
  cases h2
  exact⟨hdt.n8,hdt.s1,hdt.s96⟩
 ·exact⟨(hnm.may _ h2).1,(hnm.may _ h2).2.1,(hnm.may _ h2).2.2.1⟩
theorem mem_stRm (work:Int) {es:List Pl.Ev} (hok:∀e∈es,e.Ok) (d:Nat×Nat):d∈stRm work es↔∃x∈es,(x.kind≠1∧x.work=work)∧(d=x.at∨d∈x.rm):=by
 obtain⟨n,s⟩:=d
 unfold stRm
 rw[Pl.mem_dots (fun n s h=>stO_fit work hok h)]
 unfold stO
 rw[decide_eq_true_eq]
theorem stD_nodup (work:Int):∀(l:List Pl.Ev) (S:List (Nat×Nat)),S.Nodup→(l.foldl (stD work) S).Nodup:=by
 have h1:∀(S:List (Nat×Nat)) d,S.Nodup→(addD S d).Nodup:=fun S d h=>by
  unfold addD
  split
  ·exact h
  ·rename_i hm
   rw[List.nodup_append]
   exact⟨h,by simp,fun a ha b hb e=>by rw[List.mem_singleton.1 hb]at e;exact hm (e ▸ ha)⟩
 have h2:∀(ds S:List (Nat×Nat)),S.Nodup→(ds.foldl addD S).Nodup:=fun ds=>by
  induction ds with
  | nil=>exact fun S h=>h
  | cons d ds ih=>exact fun S h=>ih _ (h1 S d h)
 intro l
 induction l with
 | nil=>exact fun S h=>h
 | cons e l ih=>
  intro S h
  rw[List.foldl_cons]
  refine ih _ ?_
  unfold stD
  split
  ·unfold addS;exact h2 _ _ (h1 _ _ h)
  ·exact h
theorem AgS.stands {Fs:Nat→Prop} {w:World} {p:AgP} {c:Cf} {size:Int} {k:Nat} {L es:List Pl.Ev} (h:AgS Fs w p c size k L es) (work:Int) :
  (∀e∈es,e.Ok)∧(∀d∈stRm work es,∃x∈L,x.at=d)∧(∀l:List Pl.Ev,l.Perm es→(l.foldl (stD work) []).length≤96)∧∀s:Nat,(∀x∈L,x.seq<s)→Pl.Nam c.n s (stRm work es):=by
 obtain⟨bs,u,m,own,sd,hA,_⟩:=h.st
 have hok:=hA.go.ok
 have hat:∀x∈L,∃q:Nat,x.at=(c.n,q)∧x.seq=q∧1≤q∧q≤96∧c.n<8:=fun x hx=>by
  obtain⟨n,q,hdt,_⟩:=(h.ok x hx).dot
  have hn:=h.own x hx
  have:n=c.n:=by have:=hdt.node;omega
  subst this
  exact⟨q,hdt.key,hdt.seq,hdt.s1,hdt.s96,hdt.n8⟩
 have hd:∀x∈es,∀d,(d=x.at∨d∈x.rm)→∃y∈L,y.at=d:=fun x hx d hd=>by
  obtain⟨y,hy,e⟩:=h.inn x hx
  rcases hd with hd | hd
  ·exact⟨y,hy,by rw[hd];exact(show y.abs.at=x.abs.at from by rw[e])⟩
  ·exact h.rms y hy d (by rw[show y.rm=x.rm from show y.abs.rm=x.abs.rm from by rw[e]];exact hd)
 have qR:∀d∈stRm work es,∃x∈L,x.at=d:=fun d hm=>by
  obtain⟨x,hx,_,h2⟩:=(mem_stRm work hok d).1 hm
  exact hd x hx d h2
 have hlen:∀T:List (Nat×Nat),T.Nodup→(∀d∈T,∃x∈L,x.at=d)→T.length≤96:=fun T hT hs=>by
  have h1:∀d∈T,d.1=c.n∧1≤d.2∧d.2≤96:=fun d hm=>by
   obtain⟨x,hx,e⟩:=hs d hm
   obtain⟨q,e2,_,q1,q96,_⟩:=hat x hx
   rw[←e,e2]
   exact⟨rfl,q1,q96⟩
  have h2:=nodup_le 96 (T.map (fun d=>d.2 - 1)) (nodup_inj hT (fun a ha b hb e=>by
   have:=h1 a ha
   have:=h1 b hb
   exact Prod.ext lD lD)) (fun x hx=>by
   obtain⟨d,hm,rfl⟩:=List.mem_map.1 hx
   have:=h1 d hm
   omega)
  rwa [List.length_map]at h2
 refine⟨hok,qR,fun l hp=>hlen _ (stD_nodup work l [] (by simp)) (fun d hm=>?_),fun s hs=>⟨fun d hm=>?_,Pl.dots_pw _,?_⟩⟩
 ·rcases uN.1 hm with h1 | ⟨x,hx,_,h2⟩
  ·cases h1
  ·exact hd x (hp.mem_iff.1 hx) d h2
 ·obtain⟨x,hx,e⟩:=qR d hm
  obtain⟨q,e2,e3,q1,q96,hn⟩:=hat x hx
  have:=hs x hx
  rw[←e,e2]
  exact⟨hn,q1,q96,fun e4=>by cases e4;omega⟩
 ·refine hlen _ ?_ qR
  refine(Pl.dots_pw (stO work es)).imp (fun {a b} hab e=>?_)
  rw[e]at hab
  unfold Pl.Before at hab
  omega
theorem Issued.base {Fs:Nat→Prop} {w w1:World} {p:AgP} {c:Cf} {size:Int} {k:Nat} {L es:List Pl.Ev} {P:Pl.Ev→Prop} {x:Int} {w':World} (hb:Below w.heap.size w w1) (h:Issued Fs w1 p c size k L es P x w'):Issued Fs w p c size k L es P x w':=by
 obtain⟨hof,Fs',hsub,hcase⟩:=h
 exact⟨(Off.of_below hb).trans hof,Fs',fun g hg=>(hsub g hg).imp id (fun h=>Nat.le_trans hb.size h),hcase⟩
def SetP (c:Cf) (L es:List Pl.Ev) (work mn mx goal slack up down cool:Int) (e:Pl.Ev):Prop:=
 (Pl.inside work 0 7=true∧Pl.Ev.polOk (setE work mn mx goal slack up down cool [])=true)∧∃s:Nat,e={setE work mn mx goal slack up down cool (stRm work es)with node:=c.n,seq:=s,time:=((L.length+1:Nat):Int)}
def DelP (c:Cf) (L es:List Pl.Ev) (work:Int) (e:Pl.Ev):Prop:=
 (Pl.inside work 0 7=true∧Pl.sets es work≠[])∧∃s:Nat,e={delE work (stRm work es)with node:=c.n,seq:=s,time:=((L.length+1:Nat):Int)}
theorem del_issue (Fs:Nat→Prop) (p:AgP) (c:Cf) (size:Int) (k:Nat) (L es:List Pl.Ev) (work:Int) (w:World) (h:AgS Fs w p c size k L es) (hk:k≤90) (hes:es.length<20) :
  Calls prog 148 #[Qp p.a,.agg (Qei 0 0 0 3 work)] w fun r w'=>∃d1 d2 x,r=.returned (.tuple #[.agg (Qi d1 d2),.int .i64 x])∧Issued Fs w p c size k L es (DelP c L es work) x w':=by
 obtain⟨hok,qR,hdl,hnam⟩:=h.stands work
 have hcn:=(h.alloc (.cells #[] 3)).2.2
 have hss:(Pl.sets es work).length<20:=Nat.lt_of_le_of_lt (List.length_filter_le _ _) hes
 have hrs:=fun W=>vA c.n 3 work 0 0 0 0 0 0 0 0 W hcn
 have hre:Pl.Ev.right {node:=c.n,seq:=1,time:=1,kind:=3,work:=work,value:=0,mn:=0,mx:=0,goal:=0,slack:=0,up:=0,down:=0,cool:=0}=Pl.inside work 0 7:=by
  unfold Pl.Ev.right Pl.Ev.still
  simp[Pl.inside]
 cases hb:Pl.inside work 0 7 with
 | true=>
  rcases Classical.em (Pl.sets es work=[])with hs | hs
  ·obtain⟨bs,u,m,own,sd,hA,hst⟩:=h.st
   refine(issue_gone Fs p c size bs u m own sd es (L.length:Int) (delE work []) w hA (fun W=>(hrs W).mono (by
    rintro r w' ⟨rfl,hb'⟩
    exact⟨by rw[hre,hb],hb'⟩)) (fun W E hA hE=>stands_gone Fs p c size bs u m own sd es _ E work 0 0 0 0 0 0 0 W hA hdl hss hs hE)).mono ?_
   rintro r w' ⟨rfl,hof,hA'⟩
   exact⟨0,0,8,rfl,hof,Fs,fun g hg=>.inl hg,.inl ⟨⟨by decide,fun ⟨e,he⟩=>absurd hs he.1.2⟩,AgS.more ⟨⟨bs,u,m,own,sd,hA',hst⟩,h.sz,h.len,h.own,h.ok,h.ord,h.hel,h.inn,h.rms⟩ (Nat.le_succ _)⟩⟩
  ·refine(uV Fs p c size k L es (delE work (stRm work es)) w h hk (fun s t hs' h1 h2 h3 h4=>⟨⟨c.n,s,⟨rfl,rfl,hcn,h1,h2⟩,hnam s hs'⟩,?_,rfl⟩) qR (fun W=>(hrs W).mono (by
    rintro r w' ⟨rfl,hb'⟩
    exact⟨by rw[hre,hb],hb'⟩)) (fun bs u m own sd W E hA hE=>stands_del Fs p c size bs u m own sd es _ E work 0 0 0 0 0 0 0 W hA hdl hss hs hE)).mono ?_
   ·unfold Pl.Ev.right Pl.Ev.still
    dsimp only
    rw[zL (by omega) (by omega),hb]
    rfl
   ·rintro r w' ⟨d1,d2,x,rfl,hi⟩
    exact⟨d1,d2,x,rfl,hi.imp (fun e ⟨s,he⟩=>⟨⟨hb,hs⟩,s,he⟩) (fun _=>⟨_,1,rfl⟩)⟩
 | false=>
  refine vN Fs p c size k L es (delE work []) _ w h (fun ⟨e,he⟩=>?_) (fun W=>(hrs W).mono (by
   rintro r w' ⟨rfl,hb'⟩
   exact⟨by rw[hre,hb],hb'⟩))
  have:=he.1.1
  rw[hb]at this
  exact absurd this lF
theorem set_issue (Fs:Nat→Prop) (p:AgP) (c:Cf) (size:Int) (k:Nat) (L es:List Pl.Ev) (work mn mx goal slack up down cool:Int) (w:World) (h:AgS Fs w p c size k L es) (hk:k≤90) :
  Calls prog 148 #[Qp p.a,.agg (Qe 0 0 0 2 work 0 mn mx goal slack up down cool)] w fun r w'=>∃d1 d2 x,r=.returned (.tuple #[.agg (Qi d1 d2),.int .i64 x])∧Issued Fs w p c size k L es (SetP c L es work mn mx goal slack up down cool) x w':=by
 obtain⟨hok,qR,hdl,hnam⟩:=h.stands work
 have hcn:=(h.alloc (.cells #[] 3)).2.2
 have hrs:=fun W=>vA c.n 2 work 0 mn mx goal slack up down cool W hcn
 have hre:Pl.Ev.right {node:=c.n,seq:=1,time:=1,kind:=2,work:=work,value:=0,mn:=mn,mx:=mx,goal:=goal,slack:=slack,up:=up,down:=down,cool:=cool}=(Pl.inside work 0 7&&Pl.Ev.polOk (setE work mn mx goal slack up down cool [])):=by
  unfold Pl.Ev.right Pl.Ev.polOk
  simp[Pl.inside]
 cases hb:(Pl.inside work 0 7&&Pl.Ev.polOk (setE work mn mx goal slack up down cool []))with
 | true=>
  have hbb:=hb
  simp only[Bool.and_eq_true]at hbb
  refine(uV Fs p c size k L es (setE work mn mx goal slack up down cool (stRm work es)) w h hk (fun s t hs' h1 h2 h3 h4=>⟨⟨c.n,s,⟨rfl,rfl,hcn,h1,h2⟩,hnam s hs'⟩,?_,rfl⟩) qR (fun W=>(hrs W).mono (by
   rintro r w' ⟨rfl,hb'⟩
   exact⟨by rw[hre,hb],hb'⟩)) (fun bs u m own sd W E hA hE=>stands_set Fs p c size bs u m own sd es _ E work mn mx goal slack up down cool W hA hdl hE)).mono ?_
  ·have h5:=hbb.2
   unfold Pl.Ev.polOk at h5
   unfold Pl.Ev.right Pl.Ev.polOk
   dsimp only at h5 ⊢
   rw[zL (by omega) (by omega),hbb.1,h5]
   rfl
  ·rintro r w' ⟨d1,d2,x,rfl,hi⟩
   exact⟨d1,d2,x,rfl,hi.imp (fun e ⟨s,he⟩=>⟨hbb,s,he⟩) (fun _=>⟨_,1,rfl⟩)⟩
 | false=>
  refine vN Fs p c size k L es (setE work mn mx goal slack up down cool []) _ w h (fun ⟨e,he⟩=>?_) (fun W=>(hrs W).mono (by
   rintro r w' ⟨rfl,hb'⟩
   exact⟨by rw[hre,hb],hb'⟩))
  rw[he.1.1,he.1.2]at hb
  exact absurd hb lF
theorem adel_ok (Fs:Nat→Prop) (p:AgP) (c:Cf) (size:Int) (k:Nat) (L es:List Pl.Ev) (work:Int) (w:World) (h:AgS Fs w p c size k L es) (hk:k≤90) (hes:es.length<20) :
  Calls prog 84 #[Qp p.a,.int .i64 work] w fun r w'=>∃d1 d2 x,r=.returned (.tuple #[.agg (Qi d1 d2),.int .i64 x])∧Issued Fs w p c size k L es (DelP c L es work) x w':=by
 obtain⟨h1,hlt,hcn⟩:=h.alloc (.cells (Qi 0 0) 45)
 have HLT:=zA hlt
 have HI:=zA (del_issue Fs p c size k L es work _ h1 hk hes)
 clear h h1 hlt hcn hk hes
 go_enter func84,ntmps84
 go_wp2_with fail
 refine HI.out.mono ?_
 rintro r w2 ⟨d1,d2,x,rfl,hi⟩
 obtain⟨hx2,hz⟩:=hi.dotted HLT.out d1 d2
 have f0:=zB hx2 0
 have f1:=zB hx2 1
 have y0:=cc 0 hx2
 have y1:=cc 1 hx2
 have hd:=zF (j:=1) (zF (j:=0) hx2 (.int .i64 d1)) (.int .i64 d2)
 simp only[List.setIfInBounds_toArray,List.set_cons_zero,List.set_cons_succ]at hd
 have HR:=zA hz
 have HD:=zA hd
 clear hx2 hi hz hd HI
 go_wp2_with fail
 have z0:=cc 0 HD.out
 have z1:=cc 1 HD.out
 exact bodyPost_ret (v:=.tuple #[.agg (Qi d1 d2),.int .i64 x]) (by simp[results,results84,go_sem,z0,z1]) rfl ⟨d1,d2,x,rfl,HR.out⟩
theorem aset_ok (Fs:Nat→Prop) (p:AgP) (c:Cf) (size:Int) (k:Nat) (L es:List Pl.Ev) (work mn mx goal slack up down cool:Int) (w:World) (h:AgS Fs w p c size k L es) (hk:k≤90) :
  Calls prog 83 #[Qp p.a,.int .i64 work,.agg (Qg mn mx goal slack up down cool)] w fun r w'=>∃d1 d2 x,r=.returned (.tuple #[.agg (Qi d1 d2),.int .i64 x])∧Issued Fs w p c size k L es (SetP c L es work mn mx goal slack up down cool) x w':=by
 have b0:=bn w (.cells (Qg mn mx goal slack up down cool) 38)
 have hp:=heap_alloc_new w (.cells (Qg mn mx goal slack up down cool) 38)
 have s1:(w.alloc (.cells (Qg mn mx goal slack up down cool) 38)).heap.size=w.heap.size+1:=zG _ _
 obtain⟨h0,_,_⟩:=h.alloc (.cells (Qg mn mx goal slack up down cool) 38)
 obtain⟨h1,hlt,hcn⟩:=h0.alloc (.cells (Qi 0 0) 45)
 have hp2:=zC hp (bn _ (.cells (Qi 0 0) 45))
 obtain⟨q0,q1,q2,q3,q4,q5,q6⟩:=c7 hp2
 have HLT:=zA hlt
 have HB:=zA b0
 have HI:=zA (set_issue Fs p c size k L es work mn mx goal slack up down cool _ h1 hk)
 clear h h0 h1 hlt hcn hk hp hp2 b0
 go_enter func83,ntmps83
 go_wp2_with fail
 refine HI.out.mono ?_
 rintro r w2 ⟨d1,d2,x,rfl,hi⟩
 obtain⟨hx2,hz⟩:=hi.dotted HLT.out d1 d2
 have hz:=hz.base HB.out
 rw[s1]at hx2 hz
 have f0:=zB hx2 0
 have f1:=zB hx2 1
 have y0:=cc 0 hx2
 have y1:=cc 1 hx2
 have hd:=zF (j:=1) (zF (j:=0) hx2 (.int .i64 d1)) (.int .i64 d2)
 simp only[List.setIfInBounds_toArray,List.set_cons_zero,List.set_cons_succ]at hd
 have HR:=zA hz
 have HD:=zA hd
 clear hx2 hi hz hd HI q0 q1 q2 q3 q4 q5 q6
 go_wp2_with fail
 have z0:=cc 0 HD.out
 have z1:=cc 1 HD.out
 exact bodyPost_ret (v:=.tuple #[.agg (Qi d1 d2),.int .i64 x]) (by simp[results,results83,go_sem,z0,z1]) rfl ⟨d1,d2,x,rfl,HR.out⟩
end
end Go.Proofs.YtodlmbfbfaofcaaGreat
