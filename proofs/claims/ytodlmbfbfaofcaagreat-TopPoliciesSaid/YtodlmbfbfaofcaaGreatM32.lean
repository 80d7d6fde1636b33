/- TopPolicies, part 32. -/
import Derived.Test.YtodlmbfbfaofcaaGreatM01
import Derived.Test.YtodlmbfbfaofcaaGreatM02
import Derived.Test.YtodlmbfbfaofcaaGreatM04
import Derived.Test.YtodlmbfbfaofcaaGreatM07
import Derived.Test.YtodlmbfbfaofcaaGreatM08
import Derived.Test.YtodlmbfbfaofcaaGreatM23
import Derived.Test.YtodlmbfbfaofcaaGreatM31
open Go.Proofs.Tryz
namespace Go.Proofs.YtodlmbfbfaofcaaGreat
set_option linter.unusedVariables false
set_option linter.unusedSimpArgs false
set_option maxRecDepth 100000
set_option maxHeartbeats 8000000
section
open Go.RowKit Rw Rh
theorem stands_smp (a:Value) (E:Nat) (cs:Array Value) (w:World) (hE:w.heap[E]?=some (.cells cs 175 (0,0))) (hk:cs[3]?=some (.int .i64 1)):Calls prog 239 #[a,Qp E] w fun r w'=>r=.returned (.tuple #[])∧Below w.heap.size w w':=by
 have x3:=zE (j:=3) hE hk
 clear hE hk
 go_enter func239,ntmps239
 go_wp2_with fail
 exact bodyPost_ret (v:=.tuple #[]) (results_none results239 _ _ _) rfl ⟨rfl,Below.refl _ _⟩
theorem yX {P:Program} {fn:Func} {tmps:Array Value} {R:Ending→World→Prop} {w:World} {x v:Value} (h:(results fn tmps).run P w=.ok v w) (hr:R (.returned v) w):Leaves P fn tmps R [] (settle (.panicking [{v:=x,recovered:=true}])) w:=⟨v,h,hr⟩
theorem yY {P:Program} {fn:Func} {tmps:Array Value} {R:Ending→World→Prop} {w:World} {v:Value} (h:(results fn tmps).run P w=.ok v w) (hr:R (.returned v) w):Leaves P fn tmps R [] (settle .returning) w:=⟨v,h,hr⟩
theorem AgAt.off1 {Fs:Nat→Prop} {w w':World} {p:AgP} {c:Cf} {size:Int} {bs:List Int} {used upto:Int} {own:List Pl.Ev} {sd:List (Nat×Nat)} {es:List Pl.Ev} {clock:Int} (h:AgAt Fs w p c size bs used upto own sd es clock) {Y:Nat} (hF:¬Fs Y) (hP:¬p.has Y) (ho:Off (fun x=>x=Y) w w') (hi:∀e∈es,Is w' e):AgAt Fs w' p c size bs used upto own sd es clock:=
 h.keep ho.size (fun g hg=>ho.same g (hg.elim (h.lt g) (h.hlt g)) (fun e'=>by have e'':g=Y:=e';rw[e'']at hg;exact hg.elim hF hP)) hi
def Iss1 (Fs:Nat→Prop) (p:AgP) (c:Cf) (size:Int) (bs:List Int) (u m:Nat) (own:List Pl.Ev) (sd:List (Nat×Nat)) (es:List Pl.Ev) (clock:Int) (e:Pl.Ev) (w:World):Prop:=
 ∃eo eh:Pl.Ev,eo.abs=e.abs∧eh.abs=e.abs∧AgAt Fs w p c size bs u m (own++[eo]) (addS sd e) (addE es e eh) (clock+1)
theorem issue_ok (Fs:Nat→Prop) (p:AgP) (c:Cf) (size:Int) (bs:List Int) (u m:Nat) (own:List Pl.Ev) (sd:List (Nat×Nat)) (es:List Pl.Ev) (clock:Int) (e:Pl.Ev) (w:World) (h:AgAt Fs w p c size bs u m own sd es clock) (hu:u≤m∧m≤96∧u<96) (hl:(bs.length:Int)≤size) (hs':size≤16384) (hk:0≤clock∧clock≤1000) (hlen:es.length≤700) (hol:own.length≤700) (hen:e.node=c.n) (hes:e.seq=((u+1:Nat):Int)) (het:e.time=clock+1) (he:e.Ok)
  (hR:∀W,Calls prog 188 #[.agg (Qe ((c.n:Int)) 1 1 e.kind e.work e.value e.mn e.mx e.goal e.slack e.up e.down e.cool)] W fun r w'=>r=.returned (.bool true)∧Below W.heap.size W w')
  (hst:∀W E,AgAt Fs W p c size bs u m own sd es clock→W.heap[E]?=some (.cells (Qe ((c.n:Int)) 1 1 e.kind e.work e.value e.mn e.mx e.goal e.slack e.up e.down e.cool) 175 (0,0))→Calls prog 239 #[Qp p.a,Qp E] W fun r w'=>r=.returned (.tuple #[])∧∃ro rc,w'.heap[E]?=some (.cells (Qy ((c.n:Int)) 1 1 e.kind e.work e.value e.mn e.mx e.goal e.slack e.up e.down e.cool (.slice ro e.rm.length rc)) 175 (0,0))∧DotsT w' (.slice ro e.rm.length rc) e.rm∧Off (fun x=>x=E) W w')
  (hne:(c.n,u+1)∉sd) (how:∀x∈own,x.at≠(c.n,u+1)) :
  Calls prog 148 #[Qp p.a,.agg (Qe 0 0 0 e.kind e.work e.value e.mn e.mx e.goal e.slack e.up e.down e.cool)] w fun r w'=>∃d1 d2 x,r=.returned (.tuple #[.agg (Qi d1 d2),.int .i64 x])∧Off (fun g=>Fs g∨p.has g) w w'∧∃Fs',(∀g,Fs' g→Fs g∨w.heap.size≤g)∧∃(bs':List Int) (u' m':Nat),((bs'.length:Int)≤size∧bs'.length≤bs.length+500)∧(u'≤m'∧m'≤96∧u≤u'∧u'≤u+1)∧(((x≠0∧size<bs.length+500)∧AgAt Fs' w' p c size bs' u' m' own sd es clock)∨(x=0∧u'=u+1∧Iss1 Fs' p c size bs' u' m' own sd es clock e w')):=by
 have hn3:Hid (e.node=c.n∧e.seq=((u+1:Nat):Int)∧e.time=clock+1):=zA ⟨hen,hes,het⟩
 have b0:=bn w (.cells (Qe 0 0 0 e.kind e.work e.value e.mn e.mx e.goal e.slack e.up e.down e.cool) 175)
 have b1:=b0.alloc b0.size (.cells (Qi 0 0) 45)
 have b2:=b1.alloc b1.size (.cells (Qo 0) 41)
 have s1:(w.alloc (.cells (Qe 0 0 0 e.kind e.work e.value e.mn e.mx e.goal e.slack e.up e.down e.cool) 175)).heap.size=w.heap.size+1:=zG _ _
 have s2:((w.alloc (.cells (Qe 0 0 0 e.kind e.work e.value e.mn e.mx e.goal e.slack e.up e.down e.cool) 175)).alloc (.cells (Qi 0 0) 45)).heap.size=w.heap.size+1+1:=by rw[zG,zG]
 have hE:=zC (zC (heap_alloc_new w (.cells (Qe 0 0 0 e.kind e.work e.value e.mn e.mx e.goal e.slack e.up e.down e.cool) 175)) (bn _ (.cells (Qi 0 0) 45))) (bn _ (.cells (Qo 0) 41))
 have hD:=zC (heap_alloc_new (w.alloc (.cells (Qe 0 0 0 e.kind e.work e.value e.mn e.mx e.goal e.slack e.up e.down e.cool) 175)) (.cells (Qi 0 0) 45)) (bn _ (.cells (Qo 0) 41))
 have hX:=heap_alloc_new ((w.alloc (.cells (Qe 0 0 0 e.kind e.work e.value e.mn e.mx e.goal e.slack e.up e.down e.cool) 175)).alloc (.cells (Qi 0 0) 45)) (.cells (Qo 0) 41)
 rw[s1]at hD
 rw[s2]at hX
 have HE:=zA hE
 have HD:=zA hD
 have HX:=zA hX
 have HB:=zA b2
 have HA0:=zA h
 have HA:=zA (h.below b2)
 have HF:Hid (∀k,w.heap.size≤k→¬Fs k∧¬p.has k):=zA (fun k hk=>⟨fun hF=>by have:=h.lt k hF;omega,fun hp=>by have:=h.hlt k hp;omega⟩)
 have HTH:=zA (xK Fs p c size bs u m sd es clock own u m _ (h.below b2))
 have x0:=zE (j:=0) (h.below b2).ag rfl
 have HH:=zA (And.intro hu (And.intro hl (And.intro hs' (And.intro hk (And.intro hlen (And.intro he hne))))))
 have HR:=zA hR
 have HST:=zA hst
 have hi0:∀W,Sem.run prog (Instr.index 358 (.agg #[.func (.func 239) #[Qp p.a] #[],.func (.func 240) #[Qp p.a] #[],.func (.func 241) #[Qp p.a] #[],.func (.func 242) #[Qp p.a] #[]]) (.int .i64 0)) W=.ok (.func (.func 239) #[Qp p.a] #[]) W:=fun _=>by kernel_rfl
 have hi1:∀W,Sem.run prog (Instr.index 358 (.agg #[.func (.func 239) #[Qp p.a] #[],.func (.func 240) #[Qp p.a] #[],.func (.func 241) #[Qp p.a] #[],.func (.func 242) #[Qp p.a] #[]]) (.int .i64 1)) W=.ok (.func (.func 240) #[Qp p.a] #[]) W:=fun _=>by kernel_rfl
 have hi2:∀W,Sem.run prog (Instr.index 358 (.agg #[.func (.func 239) #[Qp p.a] #[],.func (.func 240) #[Qp p.a] #[],.func (.func 241) #[Qp p.a] #[],.func (.func 242) #[Qp p.a] #[]]) (.int .i64 2)) W=.ok (.func (.func 241) #[Qp p.a] #[]) W:=fun _=>by kernel_rfl
 have hi3:∀W,Sem.run prog (Instr.index 358 (.agg #[.func (.func 239) #[Qp p.a] #[],.func (.func 240) #[Qp p.a] #[],.func (.func 241) #[Qp p.a] #[],.func (.func 242) #[Qp p.a] #[]]) (.int .i64 3)) W=.ok (.func (.func 242) #[Qp p.a] #[]) W:=fun _=>by kernel_rfl
 have hmf:∀(fn:Fn) (first cap:Array Value) (w:World),(Instr.makeFunc fn first cap).run prog w=.ok (.func fn first cap) w:=fun _ _ _ _=>rfl
 have HOW:=zA (And.intro hol how)
 clear b0 b1 b2 s1 s2 hE hD hX h hu hl hs' hk hlen hol hen hes het he hR hst hne how
 go_enter_defers func148,ntmps148
 go_wp2_with fail
 generalize ((w.alloc (.cells (Qe 0 0 0 e.kind e.work e.value e.mn e.mx e.goal e.slack e.up e.down e.cool) 175)).alloc (.cells (Qi 0 0) 45)).alloc (.cells (Qo 0) 41)=W at *
 refine HTH.out.mono ?_
 rintro r w' ⟨rfl,rfl⟩
 have f0:=zB HE.out 0
 have f1:=zB HE.out 1
 have f2:=zB HE.out 2
 have y0:=cc 0 HE.out
 have y1:=cc 1 HE.out
 have y2:=cc 2 HE.out
 have hA:=zF (j:=0) HE.out (.int .i64 c.n)
 have hB:=zF (j:=1) hA (.int .i64 1)
 have hC:=zF (j:=2) hB (.int .i64 1)
 simp only[List.setIfInBounds_toArray,List.set_cons_zero,List.set_cons_succ]at hC
 have ho:Off (fun x=>x=w.heap.size) W (((W.setCell ⟨w.heap.size,0,none⟩ (.int .i64 c.n)).setCell ⟨w.heap.size,1,none⟩ (.int .i64 1)).setCell ⟨w.heap.size,2,none⟩ (.int .i64 1)):=(((Off.refl (fun x=>x=w.heap.size) W).set (a:=⟨w.heap.size,0,none⟩) (.inl rfl) _).set (a:=⟨w.heap.size,1,none⟩) (.inl rfl) _).set (a:=⟨w.heap.size,2,none⟩) (.inl rfl) _
 have HE1:=zA hC
 have HA1:=zA (HA.out.off1 (HF.out _ (Nat.le_refl _)).1 (HF.out _ (Nat.le_refl _)).2 ho (fun x hx=>(HA.out.go.is x hx).keep (Kd.one ho HE.out lF)))
 have HD1:=zA ((ho.same _ (gsi.1 HD.out).1 (fun e=>by have e':w.heap.size+1=w.heap.size:=e;omega)).trans HD.out)
 have HX1:=zA ((ho.same _ (gsi.1 HX.out).1 (fun e=>by have e':w.heap.size+1+1=w.heap.size:=e;omega)).trans HX.out)
 have HO1:=zA (show Off (fun g=>Fs g∨p.has g) w _ from(((Off.of_below HB.out).set (a:=⟨w.heap.size,0,none⟩) (.inr (Nat.le_refl _)) (.int .i64 c.n)).set (a:=⟨w.heap.size,1,none⟩) (.inr (Nat.le_refl _)) (.int .i64 1)).set (a:=⟨w.heap.size,2,none⟩) (.inr (Nat.le_refl _)) (.int .i64 1))
 clear hA hB hC ho
 go_wp2_with (refine zI rfl 175 (.tmp 3) w.heap.size (Qe ((c.n:Int)) 1 1 e.kind e.work e.value e.mn e.mx e.goal e.slack e.up e.down e.cool) 175 (0,0) _ rfl rfl HE1.out underlying175 rfl lE ?_)
 clear x0 f0 f1 f2 y0 y1 y2 HE HA HD HX HB HTH
 generalize ((W.setCell ⟨w.heap.size,0,none⟩ (.int .i64 c.n)).setCell ⟨w.heap.size,1,none⟩ (.int .i64 1)).setCell ⟨w.heap.size,2,none⟩ (.int .i64 1)=w1 at *
 refine(HR.out w1).mono ?_
 rintro r w2 ⟨rfl,hb⟩
 have HE2:=zA (zC HE1.out hb)
 have HA2:=zA (HA1.out.below hb)
 have HD2:=zA (zC HD1.out hb)
 have HX2:=zA (zC HX1.out hb)
 have HO2:=zA (HO1.out.trans (Off.of_below hb))
 clear hb HE1 HA1 HD1 HX1 HO1 HR
 go_wp2_with fail
 refine wp_loop_rounds 5 ?_
 rw[rounds_succ]
 go_wp2_with fail
 refine(HST.out w2 w.heap.size HA2.out HE2.out).mono ?_
 rintro r w3 ⟨rfl,ro,rc,hE3,hD3,ho3⟩
 have HE3:=zA (show w3.heap[w.heap.size]?=some (.cells (Qy (e.mv ro rc).node 1 1 (e.mv ro rc).kind (e.mv ro rc).work (e.mv ro rc).value (e.mv ro rc).mn (e.mv ro rc).mx (e.mv ro rc).goal (e.mv ro rc).slack (e.mv ro rc).up (e.mv ro rc).down (e.mv ro rc).cool (.slice (e.mv ro rc).ro (e.mv ro rc).rn (e.mv ro rc).rc)) 175 (0,0)) by rw[←hn3.out.1]at hE3;exact hE3)
 have HI3:=zA (show Is w3 (e.mv ro rc)from hD3)
 have hn4:Hid ((e.mv ro rc).node=c.n∧(e.mv ro rc).seq=((u+1:Nat):Int)∧(e.mv ro rc).time=clock+1):=hn3
 have HEO:=zA (HH.out.2.2.2.2.2.1.mv ro rc)
 have HEA:=zA (show(e.mv ro rc).abs=e.abs∧(e.mv ro rc).at=e.at∧(e.mv ro rc).rm=e.rm from⟨rfl,rfl,rfl⟩)
 have HA3:=zA (HA2.out.off1 (HF.out _ (Nat.le_refl _)).1 (HF.out _ (Nat.le_refl _)).2 ho3 (fun x hx=>(HA2.out.go.is x hx).keep (Kd.one ho3 HE2.out lF)))
 have HD3:=zA ((ho3.same (w.heap.size+1) (gsi.1 HD2.out).1 (fun e=>by have e':w.heap.size+1=w.heap.size:=e;omega)).trans HD2.out)
 have HX3:=zA ((ho3.same (w.heap.size+1+1) (gsi.1 HX2.out).1 (fun e=>by have e':w.heap.size+1+1=w.heap.size:=e;omega)).trans HX2.out)
 have HO3:=zA (show Off (fun g=>Fs g∨p.has g) w w3 from⟨Nat.le_trans HO2.out.size ho3.size,fun g hg hn=>(ho3.same g (Nat.lt_of_lt_of_le hg HO2.out.size) (fun h=>by have e':g=w.heap.size:=h;omega)).trans (HO2.out.same g hg hn),⟨ho3.rest.1.trans HO2.out.rest.1,ho3.rest.2.1.trans HO2.out.rest.2.1,ho3.rest.2.2.trans HO2.out.rest.2.2⟩⟩)
 clear hE3 hD3 ho3 HE2 HA2 HD2 HX2 HO2 HST hn3
 generalize e.mv ro rc=ex at *
 go_wp2_with fail
 rw[rounds_succ]
 go_wp2_with fail
 refine(anumber_ok Fs p c size bs u m own sd es clock w.heap.size (({ex with seq:=1,time:=1}:Pl.Ev)) w3 HA3.out HH.out.1 HH.out.2.1 HH.out.2.2.1 (by exact HE3.out) (HF.out _ (Nat.le_refl _)).1 (HF.out _ (Nat.le_refl _)).2 hn4.out.1 HH.out.2.2.2.2.2.2).mono ?_
 rintro r w4 (⟨rfl,hb,hfu⟩ | ⟨Fs1,bs1,m1,rfl,ha,ho,hmm,hbl,hfs,hE4⟩)
 ·have HA4:=HA3.out.below hb
  have HX4:=zC HX3.out hb
  have HDX:=zC HD3.out hb
  have HO4:=HO3.out.trans (Off.of_below (F:=fun g=>Fs g∨p.has g) hb)
  have HFU:=zA hfu
  clear hb hfu
  go_wp2_with fail
  refine leaves_cons (f:=46) (args:=#[Qp (w.heap.size+1+1)]) (by simp) (by simp[go_sem]) ?_
  have hlt:=(gsi.1 HX4).1
  refine(xX ⟨w.heap.size+1+1,0,none⟩ 7 0 [] _ (zE HX4 rfl) (zB HX4 0)).mono ?_
  rintro r u' w'' ⟨rfl,rfl,rfl⟩
  have bz:=bn w4 (.cells (Qo 7) 187)
  have hoz:=(Off.refl (fun x=>x=w.heap.size+1+1) (w4.alloc (.cells (Qo 7) 187))).set (a:=⟨w.heap.size+1+1,0,none⟩) (.inl rfl) (.int .i64 7)
  have HAZ:=zA ((HA4.below bz).off1 (HF.out _ lD).1 (HF.out _ lD).2 hoz (fun x hx=>((HA4.below bz).go.is x hx).keep (Kd.one hoz (zC HX4 bz) lF)))
  have HOZ:=zA ((HO4.trans (Off.of_below bz)).set (a:=⟨w.heap.size+1+1,0,none⟩) (.inr (show w.heap.size≤w.heap.size+1+1 by omega)) (.int .i64 7))
  have cz:((w4.alloc (.cells (Qo 7) 187)).setCell ⟨w.heap.size+1+1,0,none⟩ (.int .i64 7)).cell? ⟨w.heap.size+1+1,0,none⟩=some (.int .i64 7):=World.cell?_setCell_same _ _ _ ((World.cell?_alloc_lt _ _ _ hlt).trans (zE HX4 rfl))
  have hd:=(hoz.same _ (gsi.1 (zC HDX bz)).1 (fun e=>by have e':w.heap.size+1=w.heap.size+1+1:=e;omega)).trans (zC HDX bz)
  have d0:=cc 0 hd
  have d1:=cc 1 hd
  clear hoz bz
  generalize (w4.alloc (.cells (Qo 7) 187)).setCell ⟨w.heap.size+1+1,0,none⟩ (.int .i64 7)=Z at *
  exact yX (v:=.tuple #[.agg (Qi 0 0),.int .i64 7]) (by simp[results,results148,go_sem,cz,d0,d1]) ⟨0,0,7,rfl,HOZ.out,Fs,fun g hg=>.inl hg,bs,u,m,⟨HH.out.2.1,by omega⟩,by have:=HH.out.1;omega,.inl ⟨⟨by decide,by have:=HFU.out;omega⟩,HAZ.out⟩⟩
 ·have HA4:=zA ha
  have HX4:=zA ((ho.same (w.heap.size+1+1) (gsi.1 HX3.out).1 (fun h=>h.elim (HF.out _ lD).1 lD)).trans HX3.out)
  have HD4:=zA ((ho.same (w.heap.size+1) (gsi.1 HD3.out).1 (fun h=>h.elim (HF.out _ lD).1 lD)).trans HD3.out)
  have HE4:=zA (show w4.heap[w.heap.size]?=some (.cells (Qy ex.node ex.seq 1 ex.kind ex.work ex.value ex.mn ex.mx ex.goal ex.slack ex.up ex.down ex.cool (.slice ex.ro ex.rn ex.rc)) 175 (0,0)) by rw[hn4.out.2.1];exact hE4)
  have HO4:=zA (show Off (fun g=>Fs g∨p.has g) w w4 from⟨Nat.le_trans HO3.out.size ho.size,fun g hg hn=>(ho.same g (Nat.lt_of_lt_of_le hg HO3.out.size) (fun h=>h.elim (fun h'=>hn (.inl h')) lD)).trans (HO3.out.same g hg hn),⟨ho.rest.1.trans HO3.out.rest.1,ho.rest.2.1.trans HO3.out.rest.2.1,ho.rest.2.2.trans HO3.out.rest.2.2⟩⟩)
  have HS34:=zA ho.size
  have HI4:=zA (HI3.out.keep (Kd.off ho (fun g cs fr hg h=>h.elim (fun h'=>HA3.out.no45 hg (.inl h')) (fun h'=>by rw[show g=w.heap.size from h',HE3.out]at hg;exact zH lF hg))))
  have HM:=zA (And.intro hmm hbl)
  have HFS:=zA (show ∀g,Fs1 g→Fs g∨w3.heap.size≤g from hfs)
  have HZ3:=zA (show w.heap.size+1+1<w3.heap.size from(gsi.1 HX3.out).1)
  have hF1:∀k,w.heap.size≤k→k<w3.heap.size→¬Fs1 k:=fun k hk hk3 h=>(hfs k h).elim (HF.out k hk).1 (fun h'=>by omega)
  have HF1:=zA hF1
  clear ha ho hmm hbl hfs hE4 hF1 HE3 HA3 HD3 HX3 HO3 HI3
  go_wp2_with fail
  rw[rounds_succ]
  go_wp2_with fail
  refine(aclock_ok Fs1 p c size bs1 (u+1) m1 own sd es clock w.heap.size (({ex with time:=1}:Pl.Ev)) w4 HA4.out HH.out.2.2.2.1 HE4.out (HF1.out _ (Nat.le_refl _) (by have:=HZ3.out;omega)) (HF.out _ (Nat.le_refl _)).2).mono ?_
  rintro r w5 ⟨rfl,ha,ho,hE5⟩
  have HA5:=zA ha
  have HX5:=zA ((ho.same (w.heap.size+1+1) (gsi.1 HX4.out).1 (fun h=>by have e':w.heap.size+1+1=w.heap.size:=h;omega)).trans HX4.out)
  have HD5:=zA ((ho.same (w.heap.size+1) (gsi.1 HD4.out).1 (fun h=>by have e':w.heap.size+1=w.heap.size:=h;omega)).trans HD4.out)
  have HE5:=zA (show w5.heap[w.heap.size]?=some (.cells ex 175 (0,0)) by rw[hn4.out.2.2];exact hE5)
  have HO5:=zA (show Off (fun g=>Fs g∨p.has g) w w5 from⟨Nat.le_trans HO4.out.size ho.size,fun g hg hn=>(ho.same g (Nat.lt_of_lt_of_le hg HO4.out.size) (fun h=>by have e':g=w.heap.size:=h;omega)).trans (HO4.out.same g hg hn),⟨ho.rest.1.trans HO4.out.rest.1,ho.rest.2.1.trans HO4.out.rest.2.1,ho.rest.2.2.trans HO4.out.rest.2.2⟩⟩)
  have HS35:=zA (Nat.le_trans HS34.out ho.size)
  have HI5:=zA (HI4.out.keep (Kd.one ho HE4.out lF))
  clear ha ho hE5 HE4 HA4 HD4 HX4 HO4 HI4
  go_wp2_with fail
  rw[rounds_succ]
  go_wp2_with fail
  refine(akeep_ok Fs1 p c size bs1 (u+1) m1 own sd es clock w.heap.size ex w5 HA5.out HOW.out.1 HI5.out HM.out.2.1 HH.out.2.2.1 HE5.out (HF1.out _ (Nat.le_refl _) (by have:=HZ3.out;omega)) HEO.out (fun x hx=>by
   cases hb:(x.node == ex.node&&x.seq == ex.seq)with
   | false=>rfl
   | true=>
    simp only[Bool.and_eq_true,beq_iff_eq]at hb
    refine absurd ?_ (HOW.out.2 x hx)
    unfold Pl.Ev.at
    rw[hb.1,hb.2,hn4.out.1,hn4.out.2.1]
    rfl)).mono ?_
  rintro r w6 (⟨rfl,hb,hfu⟩ | ⟨Fs2,bs2,eo,rfl,hab,ha,ho,hbl,hfs⟩)
  ·have HA6:=HA5.out.below hb
   have HX6:=zC HX5.out hb
   have HDX:=zC HD5.out hb
   have HO6:=HO5.out.trans (Off.of_below (F:=fun g=>Fs g∨p.has g) hb)
   have HFU:=zA hfu
   clear hb hfu
   go_wp2_with fail
   refine leaves_cons (f:=46) (args:=#[Qp (w.heap.size+1+1)]) (by simp) (by simp[go_sem]) ?_
   have hlt:=(gsi.1 HX6).1
   refine(xX ⟨w.heap.size+1+1,0,none⟩ 7 0 [] _ (zE HX6 rfl) (zB HX6 0)).mono ?_
   rintro r u' w'' ⟨rfl,rfl,rfl⟩
   have bz:=bn w6 (.cells (Qo 7) 187)
   have hoz:=(Off.refl (fun x=>x=w.heap.size+1+1) (w6.alloc (.cells (Qo 7) 187))).set (a:=⟨w.heap.size+1+1,0,none⟩) (.inl rfl) (.int .i64 7)
   have HAZ:=zA ((HA6.below bz).off1 (HF1.out _ lD HZ3.out) (HF.out _ lD).2 hoz (fun x hx=>((HA6.below bz).go.is x hx).keep (Kd.one hoz (zC HX6 bz) lF)))
   have HOZ:=zA ((HO6.trans (Off.of_below bz)).set (a:=⟨w.heap.size+1+1,0,none⟩) (.inr (show w.heap.size≤w.heap.size+1+1 by omega)) (.int .i64 7))
   have cz:((w6.alloc (.cells (Qo 7) 187)).setCell ⟨w.heap.size+1+1,0,none⟩ (.int .i64 7)).cell? ⟨w.heap.size+1+1,0,none⟩=some (.int .i64 7):=World.cell?_setCell_same _ _ _ ((World.cell?_alloc_lt _ _ _ hlt).trans (zE HX6 rfl))
   have hd:=(hoz.same _ (gsi.1 (zC HDX bz)).1 (fun e=>by have e':w.heap.size+1=w.heap.size+1+1:=e;omega)).trans (zC HDX bz)
   have d0:=cc 0 hd
   have d1:=cc 1 hd
   clear hoz bz
   generalize (w6.alloc (.cells (Qo 7) 187)).setCell ⟨w.heap.size+1+1,0,none⟩ (.int .i64 7)=Z at *
   exact yX (v:=.tuple #[.agg (Qi 0 0),.int .i64 7]) (by simp[results,results148,go_sem,cz,d0,d1]) ⟨0,0,7,rfl,HOZ.out,Fs1,fun g hg=>(HFS.out g hg).imp id (fun h=>by have:=HZ3.out;omega),bs1,u+1,m1,⟨HM.out.2.1,by have:=HM.out.2.2;omega⟩,by have:=HM.out.1;omega,.inl ⟨⟨by decide,by have:=HFU.out;have:=HM.out.2.2;omega⟩,HAZ.out⟩⟩
  ·have HA6:=zA ha
   have hF2:∀k,w.heap.size≤k→k<w3.heap.size→¬Fs1 k:=HF1.out
   have HX6:=zA ((ho.same (w.heap.size+1+1) (gsi.1 HX5.out).1 (hF2 _ lD HZ3.out)).trans HX5.out)
   have HD6:=zA ((ho.same (w.heap.size+1) (gsi.1 HD5.out).1 (hF2 _ lD (by have:=HZ3.out;omega))).trans HD5.out)
   have HE6:=zA ((ho.same w.heap.size (gsi.1 HE5.out).1 (hF2 _ lD (by have:=HZ3.out;omega))).trans HE5.out)
   have HO6:=zA (show Off (fun g=>Fs g∨p.has g) w w6 from⟨Nat.le_trans HO5.out.size ho.size,fun g hg hn=>(ho.same g (Nat.lt_of_lt_of_le hg HO5.out.size) (fun h=>(HFS.out g h).elim (fun h'=>hn (.inl h')) (fun h'=>by have:=HZ3.out;omega))).trans (HO5.out.same g hg hn),⟨ho.rest.1.trans HO5.out.rest.1,ho.rest.2.1.trans HO5.out.rest.2.1,ho.rest.2.2.trans HO5.out.rest.2.2⟩⟩)
   have HFS2:=zA (show ∀g,Fs2 g→Fs g∨w.heap.size≤g from fun g hg=>(hfs g hg).elim (fun h=>(HFS.out g h).imp id (fun h'=>by have:=HZ3.out;omega)) (fun h'=>.inr (Nat.le_trans HO5.out.size h')))
   have HF2:=zA (show ∀k,w.heap.size≤k→k<w3.heap.size→¬Fs2 k from fun k hk hk3 h=>(hfs k h).elim (hF2 k hk hk3) (fun h'=>by have:=HS35.out;omega))
   have HBL:=zA hbl
   have HI6:=zA (HI5.out.keep (Kd.off ho (fun g cs fr hg h=>HA5.out.no45 hg (.inl h))))
   have HAO:=zA (hab.trans HEA.out.1)
   clear ha ho hbl hfs hF2 hab HE5 HA5 HD5 HX5 HO5 HI5
   go_wp2_with fail
   rw[rounds_succ]
   go_wp2_with fail
   clear hi0 hi1 hi2 hi3 hmf
   have HAT:=zA (show ex.at=(c.n,u+1) by unfold Pl.Ev.at;rw[hn4.out.1,hn4.out.2.1];rfl)
   have HOK:=zA (And.intro HEO.out (And.intro HH.out.2.2.2.2.1 (show ex.at∉sd from by rw[HAT.out];exact HH.out.2.2.2.2.2.2)))
   have HMX:=zA (show max clock ex.time=clock+1 by rw[hn4.out.2.2];omega)
   refine zD (fun W'=>W'.heap[w.heap.size]?=some (.cells ex 175 (0,0))) 99 lE HE6.out (fun qB=>?_)
   refine zX 0 37 rfl ?_
   refine tl 2 39 rfl 175 (.tmp 3) w.heap.size rfl rfl (fun wS hSw=>hSw) underlying175 ?_ (hQ:=fun _ a _ h=>zV (by simp[results,results148,Act.put,getD_put]) _ _ _ h)
   refine t1 1 rfl (fun K hK=>?_)
   go_simp
   refine(xT Fs2 p c size bs2 0 0 sd es clock (own++[eo]) ((u+1:Nat):Int) m1 w6.drew (HA6.out.below (Below.refl _ _).drew)).mono ?_
   rintro r w6d ⟨rfl,hw6⟩
   subst hw6
   refine hK.out _ _ (fun _=>qB) (fun _=>?_)
   clear hK K
   try simp only[pt,List.set]
   refine t1 3 rfl (fun K hK=>?_)
   go_simp
   refine(badd_ok p.b p.ms p.mh sd es clock ex w6.drew (HA6.out.below (Below.refl _ _).drew).go.bk HOK.out.1 (HI6.out.below (Below.refl _ _).drew) HOK.out.2.2).mono ?_
   rintro r w7 ⟨rfl,⟨eh,hhab,hhi,hbk⟩,hof⟩
   have hA6:=HA6.out.below (Below.refl w6.heap.size w6).drew
   have HA7:=zA (show AgAt Fs2 w7 p c size bs2 ((u+1:Nat):Int) m1 (own++[eo]) (addS sd ex) (addE es ex eh) (clock+1)from by rw[←HMX.out];exact hA6.booked hof hbk HOK.out.1 hhab hhi (by have:=HOK.out.2.1;omega))
   have HHA:=zA (hhab.trans HEA.out.1)
   have HE7:=zA (show w7.heap[w.heap.size]?=some (.cells ex 175 (0,0))from(hA6.go.calm hof HE6.out lF).trans HE6.out)
   have HX7:=zA (show w7.heap[w.heap.size+1+1]?=some (.cells (Qo 0) 41 (0,0))from(hA6.go.calm hof HX6.out lF).trans HX6.out)
   have HD7:=zA (show w7.heap[w.heap.size+1]?=some (.cells (Qi 0 0) 45 (0,0))from(hA6.go.calm hof HD6.out lF).trans HD6.out)
   have HO7:=zA (show Off (fun g=>Fs g∨p.has g) w w7 from(HO6.out.trans (Off.of_below (Below.refl w6.heap.size w6).drew)).trans (hof.mono (fun g _ h=>.inr (by rcases h with rfl | rfl | rfl<;>simp[AgP.has]))))
   clear hbk hof hA6 hhab hhi HI6 HA6 HE6 HX6 HD6 HO6 qB
   refine hK.out _ _ (fun _=>HE7.out) (fun _=>?_)
   clear hK K
   try simp only[pt,List.set]
   have qB:=HE7.out
   refine t1 4 rfl (fun K hK=>?_)
   go_simp
   refine(yO w7).mono ?_
   rintro r w7d ⟨rfl,hw7⟩
   subst hw7
   refine hK.out _ _ (fun _=>qB) (fun _=>?_)
   clear hK K
   try simp only[pt,List.set]
   refine wd ?_
   clear qB
   have e0:=cc 0 HE7.out
   have e1:=cc 1 HE7.out
   have f0:=zB HD7.out 0
   have f1:=zB HD7.out 1
   have g0:=cc 0 HD7.out
   have g1:=cc 1 HD7.out
   have fx:=zB HX7.out 0
   have gx:=cc 0 HX7.out
   go_wp2_with fail
   refine leaves_cons (f:=46) (args:=#[Qp (w.heap.size+1+1)]) (by simp) (by simp[go_sem]) ?_
   refine(xE _ _).mono ?_
   rintro r u' w'' ⟨rfl,rfl,rfl⟩
   have o1:=((Off.refl (fun x=>x=w.heap.size+1) w7).set (a:=⟨w.heap.size+1,0,none⟩) (.inl rfl) (.int .i64 ex.node)).set (a:=⟨w.heap.size+1,1,none⟩) (.inl rfl) (.int .i64 ex.seq)
   have hd1:=zF (j:=1) (zF (j:=0) HD7.out (.int .i64 ex.node)) (.int .i64 ex.seq)
   simp only[List.setIfInBounds_toArray,List.set_cons_zero,List.set_cons_succ]at hd1
   have hx1:=(o1.same (w.heap.size+1+1) (gsi.1 HX7.out).1 (fun e=>by have e':w.heap.size+1+1=w.heap.size+1:=e;omega)).trans HX7.out
   have hA1:=HA7.out.off1 (HF2.out (w.heap.size+1) lD (by have:=HZ3.out;omega)) (HF.out _ lD).2 o1 (fun x hx=>(HA7.out.go.is x hx).zero (HA7.out.go.ok x hx) HD7.out o1)
   generalize (w7.setCell ⟨w.heap.size+1,0,none⟩ (.int .i64 ex.node)).setCell ⟨w.heap.size+1,1,none⟩ (.int .i64 ex.seq)=w8 at *
   have o2:=(Off.refl (fun x=>x=w.heap.size+1+1) w8).set (a:=⟨w.heap.size+1+1,0,none⟩) (.inl rfl) (.int .i64 0)
   have hA2:=hA1.off1 (HF2.out (w.heap.size+1+1) lD HZ3.out) (HF.out _ lD).2 o2 (fun x hx=>(hA1.go.is x hx).keep (Kd.one o2 hx1 lF))
   have cz:=World.cell?_setCell_same w8 ⟨w.heap.size+1+1,0,none⟩ (.int .i64 0) (zE hx1 rfl)
   have hd2:=(o2.same (w.heap.size+1) (gsi.1 hd1).1 (fun e=>by have e':w.heap.size+1=w.heap.size+1+1:=e;omega)).trans hd1
   have d0:=cc 0 hd2
   have d1:=cc 1 hd2
   have HOZ:=zA (show Off (fun g=>Fs g∨p.has g) w (w8.setCell ⟨w.heap.size+1+1,0,none⟩ (.int .i64 0))from⟨Nat.le_trans HO7.out.size (Nat.le_trans o1.size o2.size),fun g hg hn=>(o2.same g (by have:=HO7.out.size;have:=o1.size;omega) (fun e=>by have e':g=w.heap.size+1+1:=e;omega)).trans ((o1.same g (by have:=HO7.out.size;omega) (fun e=>by have e':g=w.heap.size+1:=e;omega)).trans (HO7.out.same g hg hn)),⟨o2.rest.1.trans (o1.rest.1.trans HO7.out.rest.1),o2.rest.2.1.trans (o1.rest.2.1.trans HO7.out.rest.2.1),o2.rest.2.2.trans (o1.rest.2.2.trans HO7.out.rest.2.2)⟩⟩)
   have HAZ:=zA hA2
   clear o1 o2 hd1 hx1 hA1 hA2 hd2
   generalize w8.setCell ⟨w.heap.size+1+1,0,none⟩ (.int .i64 0)=Z at *
   exact yY (v:=.tuple #[.agg (Qi ex.node ex.seq),.int .i64 0]) (by simp[results,results148,go_sem,cz,d0,d1]) ⟨ex.node,ex.seq,0,rfl,HOZ.out,Fs2,HFS2.out,bs2,u+1,m1,⟨HBL.out.1,by have:=HBL.out.2;have:=HM.out.2.2;omega⟩,by have:=HM.out.1;omega,.inr ⟨rfl,rfl,eo,eh,HAO.out,HHA.out,by have h:=HAZ.out;rwa [show addS sd ex=addS sd e by unfold addS;rw[HEA.out.2.1,HEA.out.2.2],show addE es ex eh=addE es e eh by unfold addE;rw[HEA.out.2.1,HEA.out.2.2]]at h⟩⟩
def Kf (k:Int) (f:Nat):Prop:=(k=9∧f=28)∨(k=10∧f=29)∨(k=11∧f=30)∨(k=15∧f=34)
theorem do_k (k:Int) (f:Nat) (hkf:Kf k f) (W:Nat) (A B C q0 q1 q2 q3 q4 q5 q6:Int) (R:World→Prop) (E:World→Prop) (w:World)
  (h:∀W',Below w.heap.size w W'→W'.heap.size=w.heap.size+3→Calls prog f #[Qp W,.agg (Qk k A B C q0 q1 q2 q3 q4 q5 q6)] W' fun x w1=>(W'.heap.size≤w1.heap.size∧∀g,w.heap.size≤g→g<w.heap.size+3→w1.heap[g]?=W'.heap[g]?)∧((x=.returned (.tuple #[])∧R w1)∨∃e:Int,(e != 0)=true∧x=.panicked [{v:=.iface 140 (.agg (Qo e)),recovered:=false}]∧E w1)) :
  Calls prog 8 #[Qp W,.agg (Qk k A B C q0 q1 q2 q3 q4 q5 q6)] w fun x w'=>∃w1,Off (fun g=>g=w.heap.size+1) w1 w'∧Kd w1 w'∧((x=.returned (.int .i64 0)∧R w1)∨∃e:Int,e≠0∧x=.returned (.int .i64 e)∧E w1):=by
 have b0:=bn w (.cells (Qk k A B C q0 q1 q2 q3 q4 q5 q6) 43)
 have b1:=b0.alloc b0.size (.cells (Qo 0) 41)
 have b2:=b1.alloc b1.size (.cells #[.nilFunc,Qm 20,Qm 21,Qm 22,Qm 23,Qm 24,Qm 25,Qm 26,Qm 27,Qm 28,Qm 29,Qm 30,Qm 31,Qm 32,Qm 33,Qm 34,Qm 35] 84)
 have s1:(w.alloc (.cells (Qk k A B C q0 q1 q2 q3 q4 q5 q6) 43)).heap.size=w.heap.size+1:=zG _ _
 have s2:((w.alloc (.cells (Qk k A B C q0 q1 q2 q3 q4 q5 q6) 43)).alloc (.cells (Qo 0) 41)).heap.size=w.heap.size+2:=by rw[zG,zG]
 have s3:(((w.alloc (.cells (Qk k A B C q0 q1 q2 q3 q4 q5 q6) 43)).alloc (.cells (Qo 0) 41)).alloc (.cells #[.nilFunc,Qm 20,Qm 21,Qm 22,Qm 23,Qm 24,Qm 25,Qm 26,Qm 27,Qm 28,Qm 29,Qm 30,Qm 31,Qm 32,Qm 33,Qm 34,Qm 35] 84)).heap.size=w.heap.size+3:=by rw[zG,zG,zG]
 have hO:=zC (zC (heap_alloc_new w (.cells (Qk k A B C q0 q1 q2 q3 q4 q5 q6) 43)) (bn _ (.cells (Qo 0) 41))) (bn _ (.cells #[.nilFunc,Qm 20,Qm 21,Qm 22,Qm 23,Qm 24,Qm 25,Qm 26,Qm 27,Qm 28,Qm 29,Qm 30,Qm 31,Qm 32,Qm 33,Qm 34,Qm 35] 84))
 have hE:=zC (heap_alloc_new (w.alloc (.cells (Qk k A B C q0 q1 q2 q3 q4 q5 q6) 43)) (.cells (Qo 0) 41)) (bn _ (.cells #[.nilFunc,Qm 20,Qm 21,Qm 22,Qm 23,Qm 24,Qm 25,Qm 26,Qm 27,Qm 28,Qm 29,Qm 30,Qm 31,Qm 32,Qm 33,Qm 34,Qm 35] 84))
 have hA:=heap_alloc_new ((w.alloc (.cells (Qk k A B C q0 q1 q2 q3 q4 q5 q6) 43)).alloc (.cells (Qo 0) 41)) (.cells #[.nilFunc,Qm 20,Qm 21,Qm 22,Qm 23,Qm 24,Qm 25,Qm 26,Qm 27,Qm 28,Qm 29,Qm 30,Qm 31,Qm 32,Qm 33,Qm 34,Qm 35] 84)
 rw[s1]at hE
 rw[s2]at hA
 have hcf:∀(x y:Value) (W:World),Sem.run prog (callFunc f #[x,y]) W=.ok (.enter f #[x,y]) W:=fun x y W=>by rcases hkf with⟨_,rfl⟩ | ⟨_,rfl⟩ | ⟨_,rfl⟩ | ⟨_,rfl⟩<;>rfl
 have HO:=zA hO
 have HE:=zA hE
 have HA:=zA hA
 have HS:=zA s3
 have HB:=zA b2
 have HC:=zA (h _ b2.drew s3)
 clear b0 b1 b2 s1 s2 s3 hO hE hA h
 go_enter_defers func8,ntmps8
 go_wp2_with (refine zJ rfl 84 (.tmp 5) (.tmp 8) #[.nilFunc,.nilFunc,.nilFunc,.nilFunc,.nilFunc,.nilFunc,.nilFunc,.nilFunc,.nilFunc,.nilFunc,.nilFunc,.nilFunc,.nilFunc,.nilFunc,.nilFunc,.nilFunc,.nilFunc] #[.nilFunc,Qm 20,Qm 21,Qm 22,Qm 23,Qm 24,Qm 25,Qm 26,Qm 27,Qm 28,Qm 29,Qm 30,Qm 31,Qm 32,Qm 33,Qm 34,Qm 35] rfl rfl (w.heap.size+1+1) (by rw[zG,zG]) rfl rfl lE rfl lE rfl ?_)
 generalize (((w.alloc (.cells (Qk k A B C q0 q1 q2 q3 q4 q5 q6) 43)).alloc (.cells (Qo 0) 41)).alloc (.cells #[.nilFunc,Qm 20,Qm 21,Qm 22,Qm 23,Qm 24,Qm 25,Qm 26,Qm 27,Qm 28,Qm 29,Qm 30,Qm 31,Qm 32,Qm 33,Qm 34,Qm 35] 84))=V at *
 have z0:=cc 0 HO.out
 go_wp2_with fail
 refine(xU k 1 16 _).mono ?_
 rintro x w' ⟨rfl,rfl⟩
 rw[show Pl.inside k 1 16=true by rcases hkf with⟨rfl,_⟩ | ⟨rfl,_⟩ | ⟨rfl,_⟩ | ⟨rfl,_⟩<;>rfl]
 go_wp2_with fail
 refine(tO 2 _).mono ?_
 rintro x w' ⟨rfl,rfl⟩
 clear z0
 go_wp2_with fail
 refine zD (fun W'=>W'.heap[w.heap.size]?=some (.cells (Qk k A B C q0 q1 q2 q3 q4 q5 q6) 43 (0,0))∧W'.heap[w.heap.size+2]?=some (.cells #[.nilFunc,Qm 20,Qm 21,Qm 22,Qm 23,Qm 24,Qm 25,Qm 26,Qm 27,Qm 28,Qm 29,Qm 30,Qm 31,Qm 32,Qm 33,Qm 34,Qm 35] 84 (0,0))) 99 lE ⟨HO.out,HA.out⟩ (fun qB=>?_)
 refine zX 0 13 rfl ?_
 refine tkq 1 14 rfl (by intro wS hSw;obtain⟨hx,hy⟩:=id hSw;have x0:=cc 0 hx;clear hSw;go_simp;(try with_reducible rfl)) ?_
 refine tkq 2 15 rfl (v:=.pointer (some ⟨w.heap.size+2,k.toNat,none⟩)) (by intro wS _;rcases hkf with⟨rfl,rfl⟩ | ⟨rfl,rfl⟩ | ⟨rfl,rfl⟩ | ⟨rfl,rfl⟩<;>(go_simp;(try rfl))) ?_
 refine tkq 3 16 rfl (v:=.func (.func f) #[] #[]) (by intro wS hSw;obtain⟨_,hy⟩:=id hSw;clear hSw;rcases hkf with⟨rfl,rfl⟩ | ⟨rfl,rfl⟩ | ⟨rfl,rfl⟩ | ⟨rfl,rfl⟩;(have x1:=cc 9 hy;go_simp);(have x1:=cc 10 hy;go_simp);(have x1:=cc 11 hy;go_simp);(have x1:=cc 15 hy;go_simp)) ?_
 refine zX 4 17 rfl ?_
 refine tl 5 18 rfl 43 (.tmp 3) w.heap.size rfl rfl (fun wS hSw=>hSw.1) underlying43 ?_ (hQ:=fun _ a _ h=>zV (by simp[results,results8,Act.put,getD_put]) _ _ _ h)
 refine t1 6 rfl (fun K hK=>?_)
 go_simp
 refine HC.out.mono ?_
 rintro x w1 ⟨⟨hsz,hk⟩,oD⟩
 have HE1:=zA ((hk _ lD lD).trans HE.out)
 have hS1:=And.intro ((hk w.heap.size lD lD).trans HO.out) ((hk (w.heap.size+2) lD lD).trans HA.out)
 rcases oD with⟨rfl,hR⟩ | ⟨e,he,rfl,hR⟩
 ·go_simp
  refine hK.out _ _ (fun _=>hS1) (fun _=>?_)
  clear hK K hS1
  refine wd ?_
  have f4:=zB HE1.out 0
  have e4:=cc 0 HE1.out
  go_wp2_with fail
  have ho:=(Off.refl (fun g=>g=w.heap.size+1) w1).set (a:=⟨w.heap.size+1,0,none⟩) (.inl rfl) (.int .i64 0)
  have c4:=zE (j:=0) (zF (j:=0) HE1.out (.int .i64 0)) rfl
  simp only[List.setIfInBounds_toArray,List.set_cons_zero]at c4
  refine leaves_cons (f:=19) (args:=#[Qp (w.heap.size+1)]) (by simp) (by simp[go_sem]) ?_
  refine(tN _ _).mono ?_
  rintro e u' w' ⟨rfl,rfl,rfl⟩
  exact yY (v:=.int .i64 0) (by simp[results,results8,go_sem,c4]) ⟨w1,ho,Kd.one ho HE1.out lF,.inl ⟨rfl,hR⟩⟩
 ·go_simp
  refine leaves_cons (f:=19) (args:=#[Qp (w.heap.size+1)]) (by simp) (by simp[go_sem]) ?_
  refine(xM ⟨w.heap.size+1,0,none⟩ e 0 [] _ (zE HE1.out rfl) (zB HE1.out 0)).mono ?_
  rintro e' u' w' ⟨rfl,rfl,rfl⟩
  have hbl:=bn w1 (.cells (Qo e) 140)
  have ho:=(Off.of_below (F:=fun g=>g=w.heap.size+1) hbl).set (a:=⟨w.heap.size+1,0,none⟩) (.inl rfl) (.int .i64 e)
  have c4:=zE (j:=0) (zF (j:=0) (zC HE1.out hbl) (.int .i64 e)) rfl
  simp only[List.setIfInBounds_toArray,List.set_cons_zero]at c4
  exact yX (v:=.int .i64 e) (by simp[results,results8,go_sem,c4]) ⟨w1,ho,Kd.one ho HE1.out lF,.inr ⟨e,by simpa using he,rfl,hR⟩⟩
end
end Go.Proofs.YtodlmbfbfaofcaaGreat
