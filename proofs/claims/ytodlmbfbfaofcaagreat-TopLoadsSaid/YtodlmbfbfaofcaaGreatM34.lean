/- TopLoads, part 34. -/
import Derived.Test.YtodlmbfbfaofcaaGreatM01
import Derived.Test.YtodlmbfbfaofcaaGreatM03
import Derived.Test.YtodlmbfbfaofcaaGreatM07
import Derived.Test.YtodlmbfbfaofcaaGreatM33
open Go.Proofs.Tryz
namespace Go.Proofs.YtodlmbfbfaofcaaGreat
set_option linter.unusedVariables false
set_option linter.unusedSimpArgs false
set_option maxRecDepth 100000
set_option maxHeartbeats 4000000
section
open Go.RowKit Rw Rh
theorem issue_bad (Fs:Nat→Prop) (p:AgP) (c:Cf) (size:Int) (bs:List Int) (u m:Nat) (es:List Pl.Ev) (clock:Int) (e:Pl.Ev) (w:World) (h:AgAt Fs w p c size bs u m es es clock) (hR:∀W,Calls prog 188 #[.agg (Qe ((c.n:Int)) 1 1 e.kind e.work e.value e.mn e.mx e.goal e.slack e.up e.down e.cool)] W fun r w'=>r=.returned (.bool false)∧Below W.heap.size W w') :
  Calls prog 148 #[Qp p.a,.agg (Qe 0 0 0 e.kind e.work e.value e.mn e.mx e.goal e.slack e.up e.down e.cool)] w fun r w'=>r=.returned (.tuple #[.agg (Qi 0 0),.int .i64 2])∧Off (fun g=>Fs g∨p.has g) w w'∧AgAt Fs w' p c size bs u m es es clock:=by
 have b0:=bn w (.cells (Qe 0 0 0 e.kind e.work e.value e.mn e.mx e.goal e.slack e.up e.down e.cool) 175)
 have b1:=b0.alloc b0.size (.cells (Qi 0 0) 45)
 have b2:=b1.alloc b1.size (.cells (Qo 0) 41)
 have s1:(w.alloc (.cells (Qe 0 0 0 e.kind e.work e.value e.mn e.mx e.goal e.slack e.up e.down e.cool) 175)).heap.size=w.heap.size+1:=zE _ _
 have s2:((w.alloc (.cells (Qe 0 0 0 e.kind e.work e.value e.mn e.mx e.goal e.slack e.up e.down e.cool) 175)).alloc (.cells (Qi 0 0) 45)).heap.size=w.heap.size+1+1:=by rw[zE,zE]
 have hE:=zC (zC (heap_alloc_new w (.cells (Qe 0 0 0 e.kind e.work e.value e.mn e.mx e.goal e.slack e.up e.down e.cool) 175)) (bn _ (.cells (Qi 0 0) 45))) (bn _ (.cells (Qo 0) 41))
 have hD:=zC (heap_alloc_new (w.alloc (.cells (Qe 0 0 0 e.kind e.work e.value e.mn e.mx e.goal e.slack e.up e.down e.cool) 175)) (.cells (Qi 0 0) 45)) (bn _ (.cells (Qo 0) 41))
 have hX:=heap_alloc_new ((w.alloc (.cells (Qe 0 0 0 e.kind e.work e.value e.mn e.mx e.goal e.slack e.up e.down e.cool) 175)).alloc (.cells (Qi 0 0) 45)) (.cells (Qo 0) 41)
 rw[s1]at hD
 rw[s2]at hX
 have HE:=zA hE
 have HD:=zA hD
 have HX:=zA hX
 have HB:=zA b2
 have HA0:=zA h
 have HA:=zA (h.below b2)
 have HF:Hid (∀k,w.heap.size≤k→¬Fs k∧¬p.has k):=zA (fun k hk=>⟨fun hF=>by have:=h.lt k hF;omega,fun hp=>by have:=h.hlt k hp;omega⟩)
 have HTH:=zA (xR Fs p c size bs u m es clock es u m _ (h.below b2))
 have x0:=zF (j:=0) (h.below b2).ag rfl
 have HR:=zA hR
 clear b0 b1 b2 s1 s2 hE hD hX h hR
 go_enter_defers func148,ntmps148
 go_wp2_with fail
 generalize ((w.alloc (.cells (Qe 0 0 0 e.kind e.work e.value e.mn e.mx e.goal e.slack e.up e.down e.cool) 175)).alloc (.cells (Qi 0 0) 45)).alloc (.cells (Qo 0) 41)=W at *
 refine HTH.out.mono ?_
 rintro r w' ⟨rfl,rfl⟩
 have f0:=zB HE.out 0
 have f1:=zB HE.out 1
 have f2:=zB HE.out 2
 have y0:=cc 0 HE.out
 have y1:=cc 1 HE.out
 have y2:=cc 2 HE.out
 have hA:=zG (j:=0) HE.out (.int .i64 c.n)
 have hB:=zG (j:=1) hA (.int .i64 1)
 have hC:=zG (j:=2) hB (.int .i64 1)
 simp only[List.setIfInBounds_toArray,List.set_cons_zero,List.set_cons_succ]at hC
 have ho:Off (fun x=>x=w.heap.size) W (((W.setCell ⟨w.heap.size,0,none⟩ (.int .i64 c.n)).setCell ⟨w.heap.size,1,none⟩ (.int .i64 1)).setCell ⟨w.heap.size,2,none⟩ (.int .i64 1)):=(((Off.refl (fun x=>x=w.heap.size) W).set (a:=⟨w.heap.size,0,none⟩) (.inl rfl) _).set (a:=⟨w.heap.size,1,none⟩) (.inl rfl) _).set (a:=⟨w.heap.size,2,none⟩) (.inl rfl) _
 have HE1:=zA hC
 have HA1:=zA (HA.out.off1 (HF.out _ (Nat.le_refl _)).1 (HF.out _ (Nat.le_refl _)).2 ho)
 have HD1:=zA ((ho.same _ (gsi.1 HD.out).1 (fun e=>by have e':w.heap.size+1=w.heap.size:=e;omega)).trans HD.out)
 have HX1:=zA ((ho.same _ (gsi.1 HX.out).1 (fun e=>by have e':w.heap.size+1+1=w.heap.size:=e;omega)).trans HX.out)
 have HO1:=zA (show Off (fun g=>Fs g∨p.has g) w _ from(((Off.of_below HB.out).set (a:=⟨w.heap.size,0,none⟩) (.inr (Nat.le_refl _)) (.int .i64 c.n)).set (a:=⟨w.heap.size,1,none⟩) (.inr (Nat.le_refl _)) (.int .i64 1)).set (a:=⟨w.heap.size,2,none⟩) (.inr (Nat.le_refl _)) (.int .i64 1))
 clear hA hB hC ho
 go_wp2_with (refine zH rfl 175 (.tmp 3) w.heap.size (Qe ((c.n:Int)) 1 1 e.kind e.work e.value e.mn e.mx e.goal e.slack e.up e.down e.cool) 175 (0,0) _ rfl rfl HE1.out underlying175 rfl (by kernel_rfl) ?_)
 clear x0 f0 f1 f2 y0 y1 y2 HE HA HD HX HB HTH
 generalize ((W.setCell ⟨w.heap.size,0,none⟩ (.int .i64 c.n)).setCell ⟨w.heap.size,1,none⟩ (.int .i64 1)).setCell ⟨w.heap.size,2,none⟩ (.int .i64 1)=w1 at *
 refine(HR.out w1).mono ?_
 rintro r w2 ⟨rfl,hb⟩
 have HA2:=zA (HA1.out.below hb)
 have HD2:=zA (zC HD1.out hb)
 have HX2:=zA (zC HX1.out hb)
 have HO2:=zA (HO1.out.trans (Off.of_below hb))
 clear hb HE1 HA1 HD1 HX1 HO1 HR
 have d0:=cc 0 HD2.out
 have d1:=cc 1 HD2.out
 have f0:=zB HD2.out 0
 have f1:=zB HD2.out 1
 have fx:=zB HX2.out 0
 have gx:=cc 0 HX2.out
 have i0:w2.setCell ⟨w.heap.size+1,0,none⟩ (.int .i64 0)=w2:=zL HD2.out (j:=0) (v:=.int .i64 0) rfl
 have i1:w2.setCell ⟨w.heap.size+1,1,none⟩ (.int .i64 0)=w2:=zL HD2.out (j:=1) (v:=.int .i64 0) rfl
 go_wp2_with fail
 refine leaves_cons (f:=46) (args:=#[Qp (w.heap.size+1+1)]) (by simp) (by simp[go_sem]) ?_
 refine(xF _ _).mono ?_
 rintro r u' w'' ⟨rfl,rfl,rfl⟩
 have o2:=(Off.refl (fun x=>x=w.heap.size+1+1) w2).set (a:=⟨w.heap.size+1+1,0,none⟩) (.inl rfl) (.int .i64 2)
 have hA2:=HA2.out.off1 (HF.out _ (by omega)).1 (HF.out _ (by omega)).2 o2
 have cz:=World.cell?_setCell_same w2 ⟨w.heap.size+1+1,0,none⟩ (.int .i64 2) gx
 have hd2:=(o2.same (w.heap.size+1) (gsi.1 HD2.out).1 (fun e=>by have e':w.heap.size+1=w.heap.size+1+1:=e;omega)).trans HD2.out
 have c0:=cc 0 hd2
 have c1:=cc 1 hd2
 have HOZ:=zA (HO2.out.set (a:=⟨w.heap.size+1+1,0,none⟩) (.inr (show w.heap.size≤w.heap.size+1+1 by omega)) (.int .i64 2))
 have HAZ:=zA hA2
 clear o2 hA2 hd2 d0 d1 f0 f1 i0 i1
 generalize w2.setCell ⟨w.heap.size+1+1,0,none⟩ (.int .i64 2)=Z at *
 exact yS (v:=.tuple #[.agg (Qi 0 0),.int .i64 2]) (by simp[results,results148,go_sem,cz,c0,c1]) ⟨rfl,HOZ.out,HAZ.out⟩
structure AgS (Fs:Nat→Prop) (w:World) (p:AgP) (c:Cf) (size:Int) (k:Nat) (es:List Pl.Ev):Prop where
 st:∃(bs:List Int) (u m:Nat) (clock:Int),AgAt Fs w p c size bs u m es es clock∧(u≤m∧m≤96∧u≤k)∧((bs.length:Int)≤size∧bs.length≤100+400*k)∧(0≤clock∧clock≤k)∧∀x∈es,x.seq≤u
 sz:size≤16384
 len:es.length≤k
 own:∀x∈es,x.node=c.n
 ord:es.Pairwise (fun a b=>a.seq<b.seq)
theorem AgS.keep {Fs:Nat→Prop} {w w':World} {p:AgP} {c:Cf} {size:Int} {k:Nat} {es:List Pl.Ev} (h:AgS Fs w p c size k es) (hs:w.heap.size≤w'.heap.size) (hk:∀g,Fs g∨p.has g→w'.heap[g]?=w.heap[g]?):AgS Fs w' p c size k es:=by
 obtain⟨bs,u,m,clock,h1,h2⟩:=h.st
 exact⟨⟨bs,u,m,clock,h1.keep hs hk,h2⟩,h.sz,h.len,h.own,h.ord⟩
theorem AgS.more {Fs:Nat→Prop} {w:World} {p:AgP} {c:Cf} {size:Int} {k k':Nat} {es:List Pl.Ev} (h:AgS Fs w p c size k es) (hk:k≤k'):AgS Fs w p c size k' es:=by
 obtain⟨bs,u,m,clock,h1,h2,h3,h4,h5⟩:=h.st
 exact⟨⟨bs,u,m,clock,h1,by omega,by omega,by omega,h5⟩,h.sz,Nat.le_trans h.len hk,h.own,h.ord⟩
def Full (size:Int) (k:Nat) (P:Pl.Ev→Prop) (x:Int):Prop:=x≠0∧((∃e,P e)→size<500+400*k)
def Issued (Fs:Nat→Prop) (w:World) (p:AgP) (c:Cf) (size:Int) (k:Nat) (es:List Pl.Ev) (P:Pl.Ev→Prop) (x:Int) (w':World):Prop:=
 Off (fun g=>Fs g∨p.has g) w w'∧∃Fs',(∀g,Fs' g→Fs g∨w.heap.size≤g)∧((Full size k P x∧AgS Fs' w' p c size (k+1) es)∨(x=0∧∃e,P e∧e.node=c.n∧AgS Fs' w' p c size (k+1) (es++[e])))
theorem sQ (Fs:Nat→Prop) (p:AgP) (c:Cf) (size:Int) (k:Nat) (es:List Pl.Ev) (e0:Pl.Ev) (w:World) (h:AgS Fs w p c size k es) (hk:k≤90)
  (he:∀s t:Nat,1≤s→s≤96→1≤t→t≤1000→({e0 with node:=c.n,seq:=s,time:=t}:Pl.Ev).Ok)
  (hR:∀W,Calls prog 188 #[.agg (Qe ((c.n:Int)) 1 1 e0.kind e0.work e0.value e0.mn e0.mx e0.goal e0.slack e0.up e0.down e0.cool)] W fun r w'=>r=.returned (.bool true)∧Below W.heap.size W w')
  (hst:∀(bs:List Int) (u m:Nat) (clock:Int) W E,AgAt Fs W p c size bs u m es es clock→W.heap[E]?=some (.cells (Qe ((c.n:Int)) 1 1 e0.kind e0.work e0.value e0.mn e0.mx e0.goal e0.slack e0.up e0.down e0.cool) 175 (0,0))→Calls prog 239 #[Qp p.a,Qp E] W fun r w'=>r=.returned (.tuple #[])∧Below W.heap.size W w') :
  Calls prog 148 #[Qp p.a,.agg (Qe 0 0 0 e0.kind e0.work e0.value e0.mn e0.mx e0.goal e0.slack e0.up e0.down e0.cool)] w fun r w'=>∃d1 d2 x,r=.returned (.tuple #[.agg (Qi d1 d2),.int .i64 x])∧Issued Fs w p c size k es (fun e=>e.kind=e0.kind∧e.work=e0.work∧e.value=e0.value∧∃s t:Nat,e={e0 with node:=c.n,seq:=s,time:=t}) x w':=by
 obtain⟨bs,u,m,clock,hA,hu,hl,hc,hsq⟩:=h.st
 have hlen:=h.len
 obtain⟨t,ht⟩:∃t:Nat,clock+1=t:=⟨(clock+1).toNat,by omega⟩
 refine(issue_ok Fs p c size bs u m es clock ({e0 with node:=c.n,seq:=((u+1:Nat):Int),time:=clock+1}:Pl.Ev) w hA (by omega) hl.1 h.sz (by omega) (by omega) rfl rfl rfl (by rw[ht];exact he (u+1) t (by omega) (by omega) (by omega) (by omega)) hR (hst bs u m clock) (fun x hx e=>?_)).mono ?_
 ·have h1:=hsq x hx
  obtain⟨n,q,hd⟩:=(hA.go.ok x hx).dot
  rw[hd.key]at e
  cases e
  have:=hd.seq
  omega
 ·rintro r w' ⟨d1,d2,x,rfl,hof,Fs',hsub,bs',u',m',hb',hu',hcase⟩
  refine⟨d1,d2,x,rfl,hof,Fs',hsub,?_⟩
  rcases hcase with⟨hx,hA'⟩ | ⟨hx,e',hA'⟩
  ·exact .inl ⟨⟨hx.1,fun _=>by omega⟩,⟨⟨bs',u',m',clock,hA',by omega,by omega,by omega,fun y hy=>by have:=hsq y hy;omega⟩,h.sz,by omega,h.own,h.ord⟩⟩
  ·refine .inr ⟨hx,({e0 with node:=c.n,seq:=((u+1:Nat):Int),time:=clock+1}:Pl.Ev),⟨rfl,rfl,rfl,u+1,t,by rw[ht]⟩,rfl,⟨⟨bs',u',m',clock+1,hA',by omega,by omega,by omega,fun y hy=>?_⟩,h.sz,by rw[List.length_append,List.length_singleton];omega,fun y hy=>?_,?_⟩⟩
   ·rcases List.mem_append.1 hy with h1 | h1
    ·have:=hsq y h1;omega
    ·cases List.mem_singleton.1 h1;dsimp only;omega
   ·rcases List.mem_append.1 hy with h1 | h1
    ·exact h.own y h1
    ·cases List.mem_singleton.1 h1;rfl
   ·rw[List.pairwise_append]
    refine⟨h.ord,List.pairwise_singleton _ _,fun a ha b hb=>?_⟩
    cases List.mem_singleton.1 hb
    have:=hsq a ha
    dsimp only
    omega
theorem smp_ok (n s t:Nat) (work value:Int) (hn:n<8) (hs:1≤s∧s≤96) (ht:1≤t∧t≤1000) (hw:Pl.inside work 0 7=true) (hv:Pl.inside value 0 1099511627776=true):(Pl.Ev.mk n s t 1 work value 0 0 0 0 0 0 0).Ok:=
 ⟨⟨n,s,rfl,rfl,hn,hs.1,hs.2⟩,by unfold Pl.Ev.right;rw[zM (by dsimp only;omega) (by dsimp only;omega),hw,if_pos rfl,hv];rfl,.inl ⟨rfl,rfl⟩⟩
theorem uV {n lo hi:Int} (h:Pl.inside n lo hi=true):lo≤n∧n≤hi:=by unfold Pl.inside at h;simpa using h
theorem asample_ok (Fs:Nat→Prop) (p:AgP) (c:Cf) (size:Int) (k:Nat) (es:List Pl.Ev) (work value:Int) (w:World) (h:AgS Fs w p c size k es) (hk:k≤90) :
  Calls prog 82 #[Qp p.a,.int .i64 work,.int .i64 value] w fun r w'=>∃d1 d2 x,r=.returned (.tuple #[.agg (Qi d1 d2),.int .i64 x])∧Issued Fs w p c size k es (fun e=>e.kind=1∧e.work=work∧e.value=value∧(0≤work∧work≤7)∧0≤value∧value≤1099511627776) x w':=by
 have b1:=bn w (.cells (Qi 0 0) 45)
 have HX:=zA (heap_alloc_new w (.cells (Qi 0 0) 45))
 have HB:=zA b1
 obtain⟨bs,u,m,clock,hA,hu,hl,hc,hsq⟩:=h.st
 have hlt:∀g,Fs g∨p.has g→g<w.heap.size:=fun g hg=>hg.elim (hA.lt g) (hA.hlt g)
 have HLT:=zA hlt
 have h1:AgS Fs (w.alloc (.cells (Qi 0 0) 45)) p c size k es:=h.keep b1.size (fun g hg=>b1.block g (hlt g hg))
 have hcn:=hA.ok.n
 have HI:Hid (Calls prog 148 #[Qp p.a,.agg (Qeh 0 0 0 1 work value)] (w.alloc (.cells (Qi 0 0) 45)) fun r w'=>∃d1 d2 x,r=.returned (.tuple #[.agg (Qi d1 d2),.int .i64 x])∧Issued Fs (w.alloc (.cells (Qi 0 0) 45)) p c size k es (fun e=>e.kind=1∧e.work=work∧e.value=value∧(0≤work∧work≤7)∧0≤value∧value≤1099511627776) x w'):=zA (by
  have hrs:=fun W=>vN c.n 1 1 work value W hcn (by omega)
  cases hb:(Pl.inside work 0 7&&Pl.inside value 0 1099511627776)with
  | true=>
   simp only[Bool.and_eq_true]at hb
   refine(sQ Fs p c size k es (Pl.Ev.mk 0 0 0 1 work value 0 0 0 0 0 0 0) _ h1 hk (fun s t h1 h2 h3 h4=>smp_ok c.n s t work value hcn ⟨h1,h2⟩ ⟨h3,h4⟩ hb.1 hb.2) (fun W=>(hrs W).mono (by
    rintro r w' ⟨rfl,hb'⟩
    exact⟨by rw[hb.1,hb.2];rfl,hb'⟩)) (fun bs u m clock W E _ hE=>stands_smp _ E _ W hE rfl)).mono ?_
   rintro r w' ⟨d1,d2,x,rfl,hof,Fs',hsub,hcase⟩
   refine⟨d1,d2,x,rfl,hof,Fs',hsub,?_⟩
   rcases hcase with⟨⟨hx,hz⟩,h⟩ | ⟨hx,e,⟨e1,e2,e3,_⟩,hn,hS⟩
   ·exact .inl ⟨⟨hx,fun _=>hz ⟨({ (Pl.Ev.mk 0 0 0 1 work value 0 0 0 0 0 0 0)with node:=c.n,seq:=((1:Nat):Int),time:=((1:Nat):Int)}:Pl.Ev),rfl,rfl,rfl,1,1,rfl⟩⟩,h⟩
   ·exact .inr ⟨hx,e,⟨e1,e2,e3,uV hb.1,uV hb.2⟩,hn,hS⟩
  | false=>
   refine(issue_bad Fs p c size bs u m es clock (Pl.Ev.mk 0 0 0 1 work value 0 0 0 0 0 0 0) _ (hA.below b1) (fun W=>(hrs W).mono (by
    rintro r w' ⟨rfl,hb'⟩
    exact⟨by rw[hb];rfl,hb'⟩))).mono ?_
   rintro r w' ⟨rfl,hof,hA'⟩
   exact⟨0,0,2,rfl,hof,Fs,fun g hg=>.inl hg,.inl ⟨⟨by decide,fun ⟨e,he⟩=>by simp only[Bool.and_eq_false_iff]at hb;unfold Pl.inside at hb;simp at hb;omega⟩,AgS.more ⟨⟨bs,u,m,clock,hA',hu,hl,hc,hsq⟩,h.sz,h.len,h.own,h.ord⟩ (Nat.le_succ _)⟩⟩)
 clear b1 h h1 hA hu hl hc hsq hlt hcn hk
 go_enter func82,ntmps82
 go_wp2_with fail
 refine HI.out.mono ?_
 rintro r w2 ⟨d1,d2,x,rfl,hof,Fs',hsub,hcase⟩
 have hx2:=(hof.same w.heap.size (gsi.1 HX.out).1 (fun h=>by have:=HLT.out _ h;omega)).trans HX.out
 have f0:=zB hx2 0
 have f1:=zB hx2 1
 have y0:=cc 0 hx2
 have y1:=cc 1 hx2
 have hd:=zG (j:=1) (zG (j:=0) hx2 (.int .i64 d1)) (.int .i64 d2)
 simp only[List.setIfInBounds_toArray,List.set_cons_zero,List.set_cons_succ]at hd
 have ho:Off (fun g=>g=w.heap.size) w2 ((w2.setCell ⟨w.heap.size,0,none⟩ (.int .i64 d1)).setCell ⟨w.heap.size,1,none⟩ (.int .i64 d2)):=((Off.refl (fun g=>g=w.heap.size) w2).set (a:=⟨w.heap.size,0,none⟩) (.inl rfl) _).set (a:=⟨w.heap.size,1,none⟩) (.inl rfl) _
 have hsz:(w.alloc (.cells (Qi 0 0) 45)).heap.size=w.heap.size+1:=zE _ _
 have hkp:∀{k'} {es'},AgS Fs' w2 p c size k' es'→AgS Fs' _ p c size k' es':=fun hS=>hS.keep ho.size (fun g hg=>ho.same g (by
  obtain⟨bs,u,m,clock,hA,_⟩:=hS.st
  exact hg.elim (hA.lt g) (hA.hlt g)) (fun e=>by
  have e':g=w.heap.size:=e
  rcases hg with hg | hg
  ·rcases hsub g hg with h | h
   ·have:=HLT.out g (.inl h);omega
   ·omega
  ·have:=HLT.out g (.inr hg);omega))
 have HR:=zA (show Issued Fs w p c size k es (fun e=>e.kind=1∧e.work=work∧e.value=value∧(0≤work∧work≤7)∧0≤value∧value≤1099511627776) x _ from⟨((Off.of_below HB.out).trans hof |> fun h=>(h.set (a:=⟨w.heap.size,0,none⟩) (.inr (Nat.le_refl _)) (.int .i64 d1)).set (a:=⟨w.heap.size,1,none⟩) (.inr (Nat.le_refl _)) (.int .i64 d2)),Fs',fun g hg=>(hsub g hg).imp id (fun h=>by omega),hcase.imp (fun h=>⟨h.1,hkp h.2⟩) (fun h=>⟨h.1,by
  obtain⟨e,e1,e2,e3⟩:=h.2
  exact⟨e,e1,e2,hkp e3⟩⟩)⟩)
 have HD:=zA hd
 clear hx2 hof hsub hcase hd ho hsz hkp HI
 go_wp2_with fail
 have z0:=cc 0 HD.out
 have z1:=cc 1 HD.out
 exact bodyPost_ret (v:=.tuple #[.agg (Qi d1 d2),.int .i64 x]) (by simp[results,results82,go_sem,z0,z1]) rfl ⟨d1,d2,x,rfl,HR.out⟩
theorem sD (Fs:Nat→Prop) (p:AgP) (c:Cf) (size:Int) (bs:List Int) (used upto:Int) (own es:List Pl.Ev) (clock:Int) (w:World) (h:AgAt Fs w p c size bs used upto own es clock) :
  Calls prog 40 #[Qp p.a] w fun r w'=>∃v l,r=.returned v∧l.Perm es∧l.Pairwise Pl.EvBefore∧OwnR kEv w.heap.size w' v l∧Below w.heap.size w w':=by
 have HBK:=zA (vG Fs p c size bs 0 0 es clock own used upto w h)
 have HE:=zA (bevents_ok p.b p.ms p.mh _ es clock w h.go.bk (by have:=h.go.len;omega) h.go.ok)
 clear h
 go_enter func40,ntmps40
 go_wp2_with fail
 refine HBK.out.mono ?_
 rintro r w' ⟨rfl,rfl⟩
 go_wp2_with fail
 refine HE.out.mono ?_
 rintro r w1 ⟨v,l,rfl,h1,h2,h3,h4⟩
 have HZ:=zA (And.intro h1 (And.intro h2 (And.intro h3 h4)))
 clear h1 h2 h3 h4
 go_wp2_with fail
 exact bodyPost_ret (v:=v) (by simp[results,results40,go_sem]) rfl ⟨v,l,rfl,HZ.out⟩
def IssY (Y:Nat) (Fs:Nat→Prop) (w:World) (p:AgP) (c:Cf) (size:Int) (k:Nat) (es:List Pl.Ev) (P:Pl.Ev→Prop) (x:Int) (w':World):Prop:=
 Off (fun g=>Fs g∨p.has g) w w'∧∃Fs',(∀g,Fs' g→(Fs g∨w.heap.size≤g)∧g≠Y)∧((Full size k P x∧AgS Fs' w' p c size (k+1) es)∨(x=0∧∃e,P e∧e.node=c.n∧AgS Fs' w' p c size (k+1) (es++[e])))
theorem AgS.lt {Fs:Nat→Prop} {w:World} {p:AgP} {c:Cf} {size:Int} {k:Nat} {es:List Pl.Ev} (h:AgS Fs w p c size k es):∀g,Fs g∨p.has g→g<w.heap.size:=fun g hg=>by
 obtain⟨bs,u,m,clock,hA,_⟩:=h.st
 exact hg.elim (hA.lt g) (hA.hlt g)
theorem IssY.before {Fs:Nat→Prop} {w:World} {p:AgP} {c:Cf} {size:Int} {k:Nat} {es:List Pl.Ev} {P:Pl.Ev→Prop} {x:Int} {w0 w1:World} {Y:Nat} (hb:Below w.heap.size w w0) (h:Issued Fs w0 p c size k es P x w1) (hlt:∀g,Fs g∨p.has g→g<w.heap.size) (hY:w.heap.size≤Y) (hY0:Y<w0.heap.size):IssY Y Fs w p c size k es P x w1:=by
 obtain⟨ho,Fs',hs,h⟩:=h
 refine⟨(Off.of_below hb).trans ho,Fs',fun g hg=>?_,h⟩
 have:=hb.size
 rcases hs g hg with h | h
 ·have:=hlt g (.inl h)
  exact⟨.inl h,by omega⟩
 ·exact⟨.inr (by omega),by omega⟩
theorem IssY.after {Fs:Nat→Prop} {w:World} {p:AgP} {c:Cf} {size:Int} {k:Nat} {es:List Pl.Ev} {P:Pl.Ev→Prop} {x:Int} {w0 w1:World} (o:Obj) (hb:Below w.heap.size w w0) (h:Issued Fs w0 p c size k es P x w1):IssY w1.heap.size Fs w p c size k es P x (w1.alloc o):=by
 obtain⟨ho,Fs',hs,h⟩:=h
 have hbl:=bn w1 o
 have hlt:∀g,Fs' g→g<w1.heap.size:=fun g hg=>by
  rcases h with⟨_,h⟩ | ⟨_,e,_,_,h⟩
  ·exact h.lt g (.inl hg)
  ·exact h.lt g (.inl hg)
 refine⟨((Off.of_below hb).trans ho).trans (Off.of_below hbl),Fs',fun g hg=>⟨(hs g hg).imp id (fun h=>Nat.le_trans hb.size h),Nat.ne_of_lt (hlt g hg)⟩,?_⟩
 rcases h with⟨h1,h⟩ | ⟨h1,e,h2,h3,h⟩
 ·exact .inl ⟨h1,h.keep hbl.size (fun g hg=>hbl.block g (h.lt g hg))⟩
 ·exact .inr ⟨h1,e,h2,h3,h.keep hbl.size (fun g hg=>hbl.block g (h.lt g hg))⟩
theorem IssY.done {Fs:Nat→Prop} {w:World} {p:AgP} {c:Cf} {size:Int} {k:Nat} {es:List Pl.Ev} {P:Pl.Ev→Prop} {x:Int} {w1 w2:World} {Y:Nat} (h:IssY Y Fs w p c size k es P x w1) (ho:Off (fun g=>g=Y) w1 w2) (hlt:∀g,Fs g∨p.has g→g<w.heap.size) (hY:w.heap.size≤Y):Issued Fs w p c size k es P x w2:=by
 obtain⟨ho1,Fs',hs,h⟩:=h
 have hk:∀{k'} {es'},AgS Fs' w1 p c size k' es'→AgS Fs' w2 p c size k' es':=fun hS=>hS.keep ho.size (fun g hg=>ho.same g (hS.lt g hg) (fun e=>by
  have e':g=Y:=e
  rcases hg with hg | hg
  ·exact(hs g hg).2 e'
  ·have:=hlt g (.inr hg);omega))
 refine⟨⟨Nat.le_trans ho1.size ho.size,fun g hg hn=>(ho.same g (Nat.lt_of_lt_of_le hg ho1.size) (fun e=>by have e':g=Y:=e;omega)).trans (ho1.same g hg hn),⟨ho.rest.1.trans ho1.rest.1,ho.rest.2.1.trans ho1.rest.2.1,ho.rest.2.2.trans ho1.rest.2.2⟩⟩,Fs',fun g hg=>(hs g hg).1,?_⟩
 rcases h with⟨h1,h⟩ | ⟨h1,e,h2,h3,h⟩
 ·exact .inl ⟨h1,hk h⟩
 ·exact .inr ⟨h1,e,h2,h3,hk h⟩
theorem wsample_ok (W P:Nat) (K:Wc) (d r:Nat→Value) (a:Nat) (B C q0 q1 q2 q3 q4 q5 q6:Int) (Fs:Nat→Prop) (p:AgP) (c:Cf) (size:Int) (k:Nat) (es:List Pl.Ev) (w:World) (h:WdAt w W P K d r) (ha:a<K.n) (hr:r a=.pointer (some ⟨p.a,0,none⟩)) (hS:AgS Fs w p c size k es) (hk:k≤90) (hsep:∀g,Fs g∨p.has g→g≠P) :
  Calls prog 28 #[Qp W,.agg (Qk 9 (a:Int) B C q0 q1 q2 q3 q4 q5 q6)] w fun x w'=>∃e,(x=.returned (.tuple #[])∧e=0∨(e != 0)=true∧x=.panicked [{v:=.iface 140 (.agg (Qo e)),recovered:=false}])∧Issued Fs w p c size k es (fun e=>e.kind=1∧e.work=B∧e.value=C∧(0≤B∧B≤7)∧0≤C∧C≤1099511627776) e w':=by
 have b0:=bn w (.cells (Qk 9 (a:Int) B C q0 q1 q2 q3 q4 q5 q6) 43)
 have HO:=zA (heap_alloc_new w (.cells (Qk 9 (a:Int) B C q0 q1 q2 q3 q4 q5 q6) 43))
 have HLT:=zA hS.lt
 have HSEP:=zA hsep
 have HPL:=zA h.lt.2
 have HS:=zA (show ∀V,Below w.heap.size w V→AgS Fs V p c size k es from fun V hV=>hS.keep hV.size (fun g hg=>hV.block g (hS.lt g hg)))
 have HSM:=zA (fun V hV=>asample_ok Fs p c size k es B C V (HS.out V hV) hk)
 have HRU:=zA (fun V (hV:Below w.heap.size w V)=>vW W P K d r a _ V (h.below hV) ha hr)
 have HC:=zA (show ∀V,Below w.heap.size w V→V.cell? ⟨P,a*3+1,none⟩=some (.pointer (some ⟨p.a,0,none⟩))from fun V hV=>by rw[(h.below hV).runs ha,hr])
 have HB:=zA b0.drew
 have HBV:=zA b0
 have HE:=zA (show ∀V V':World,V'.heap[P]?=V.heap[P]?→V.cell? ⟨P,a*3+1,none⟩=some (.pointer (some ⟨p.a,0,none⟩))→V'.cell? ⟨P,a*3+1,none⟩=some (.pointer (some ⟨p.a,0,none⟩))from fun V V' e h=>(World.cell?_of_block (a:=⟨P,a*3+1,none⟩) e).trans h)
 clear b0 h hS hsep
 go_enter func28,ntmps28
 go_wp2_with fail
 generalize hV0:w.alloc (.cells (Qk 9 (a:Int) B C q0 q1 q2 q3 q4 q5 q6) 43)=V at *
 clear hV0
 refine zD (fun W'=>W'.heap[w.heap.size]?=some (.cells (Qk 9 (a:Int) B C q0 q1 q2 q3 q4 q5 q6) 43 (0,0))∧W'.cell? ⟨P,a*3+1,none⟩=some (.pointer (some ⟨p.a,0,none⟩))) 99 (by kernel_rfl) ⟨HO.out,HC.out V.drew HB.out⟩ (fun rV=>?_)
 refine tkp 0 7 rfl ?_
 refine tkp 1 8 rfl ?_
 refine tk 2 9 rfl (by intro wS hSw;obtain⟨hx,hy⟩:=id hSw;have x1:=cc 1 hx;have x2:=cc 2 hx;have x3:=cc 3 hx;clear hSw;go_simp;(try with_reducible rfl)) ?_
 refine tkp 7 14 rfl ?_
 refine tk 8 15 rfl (by intro wS hSw;obtain⟨hx,hy⟩:=id hSw;have x1:=cc 1 hx;have x2:=cc 2 hx;have x3:=cc 3 hx;clear hSw;go_simp;(try with_reducible rfl)) ?_
 refine tkp 9 16 rfl ?_
 refine tk 10 17 rfl (by intro wS hSw;obtain⟨hx,hy⟩:=id hSw;have x1:=cc 1 hx;have x2:=cc 2 hx;have x3:=cc 3 hx;clear hSw;go_simp;(try with_reducible rfl)) ?_
 refine t2 3 15 rfl rfl (fun K hK=>?_) (fun K hK=>?_)
 ·go_simp
  refine(HRU.out _ HB.out).mono ?_
  rintro x w' ⟨rfl,hw'⟩
  subst hw'
  refine hK.out _ _ (fun _=>rV) (fun _=>?_)
  clear hK K
  try simp only[pt,List.set]
  refine tkp 4 11 rfl ?_
  refine tkp 5 12 rfl ?_
  refine tk 6 13 rfl (by intro wS hSw;obtain⟨hx,hy⟩:=id hSw;have x1:=cc 1 hx;have x2:=cc 2 hx;have x3:=cc 3 hx;clear hSw;go_simp;(try with_reducible rfl)) ?_
  refine t2 11 15 rfl rfl (fun K hK=>?_) (fun K hK=>?_)
  ·go_simp
   refine(HSM.out _ HB.out).mono ?_
   rintro x w1 ⟨d1,d2,e,rfl,hI⟩
   have hH1:=And.intro ((hI.1.same w.heap.size (gsi.1 rV.1).1 (fun h=>by have:=HLT.out _ h;omega)).trans rV.1) (HE.out _ w1 (hI.1.same P (Nat.lt_of_lt_of_le HPL.out HB.out.size) (fun h=>HSEP.out _ h rfl)) rV.2)
   refine hK.out _ _ (fun _=>hH1) (fun _=>?_)
   clear hK K
   try simp only[pt,List.set]
   clear rV
   have rV:=hH1
   clear hH1
   refine tkp 12 6 rfl ?_
   refine tkp 13 19 rfl ?_
   refine tkp 14 20 rfl ?_
   refine t1 15 rfl (fun K hK=>?_)
   go_simp
   have hbl:=bn w1 (.cells (Qi 0 0) 45)
   have HI:=zA (IssY.after (.cells (Qi 0 0) 45) HB.out hI)
   have HGE:=zA (show w.heap.size≤w1.heap.size from Nat.le_trans HB.out.size hI.1.size)
   have HY:=zA (heap_alloc_new w1 (.cells (Qi 0 0) 45))
   have hH2:=And.intro (zC rV.1 hbl) (HE.out _ _ (hbl.block P (Nat.lt_of_lt_of_le HPL.out HGE.out)) rV.2)
   clear hbl
   refine hK.out _ _ (fun _=>hH2) (fun _=>?_)
   clear hK K
   try simp only[pt,List.set]
   clear rV
   have rV:=hH2
   clear hH2 hI
   generalize hU0:World.alloc w1 (.cells (Qi 0 0) 45)=U at *
   generalize hY0:w1.heap.size=Y at *
   clear hU0 hY0
   refine t1 16 rfl (fun K hK=>?_)
   rw[if_pos (by rfl)]
   refine yG 45 (.tmp 4) (.tmp 19) Y rfl rfl rfl rfl HY.out (by kernel_rfl) rfl (by kernel_rfl) ?_
   have ho:Off (fun g=>g=Y) U (World.setRow U Y (Qi d1 d2)):=(Off.refl (fun g=>g=Y) _).setRow (F:=fun g=>g=Y) Y (.inl rfl) _
   have HR:=zA (HI.out.done ho HLT.out HGE.out)
   have qK:w.heap.size≠Y:=fun e=>by
    have h1:=HY.out
    rw[←e,rV.1]at h1
    cases h1
   have hH3:=And.intro ((ho.same w.heap.size (gsi.1 rV.1).1 qK).trans rV.1) (HE.out _ _ (ho.same P (Nat.lt_of_lt_of_le HPL.out HI.out.1.size) (fun e=>by have e':P=Y:=e;have:=HGE.out;have:=HPL.out;omega)) rV.2)
   clear ho qK
   refine hK.out _ _ (fun _=>hH3) (fun _=>?_)
   clear hK K
   try simp only[pt,List.set]
   clear rV
   have rV:=hH3
   clear hH3
   refine tkp 17 5 rfl ?_
   clear rV
   refine wd ?_
   go_wp2_with fail
   by_cases he:e=0
   ·subst he
    refine(xH _).mono ?_
    rintro x w' ⟨rfl,rfl⟩
    go_wp2_with fail
    exact yD results28 ⟨0,.inl ⟨rfl,rfl⟩,HR.out⟩
   ·have he':(e != 0)=true:=by simpa using he
    refine(xP e he' _).mono ?_
    rintro x w' ⟨rfl,rfl⟩
    go_wp2_with fail
    exact zW rfl ⟨e,.inr ⟨he',rfl⟩,HR.out⟩
  ·go_simp
   have HBL:=zA ((bn (V) (.cells (Qi 0 0) 45)).drew)
   have HY:=zA (show(V.alloc (.cells (Qi 0 0) 45)).drew.heap[(V).heap.size]?=some (.cells (Qi 0 0) 45)from heap_alloc_new (V) (.cells (Qi 0 0) 45))
   have HYY:=zA (show(V).heap.size<(V.alloc (.cells (Qi 0 0) 45)).drew.heap.size from by rw[show(V.alloc (.cells (Qi 0 0) 45)).drew.heap.size=(V.alloc (.cells (Qi 0 0) 45)).heap.size from rfl,zE];exact Nat.lt_succ_self _)
   have HGE:=zA (show w.heap.size≤(V).heap.size from HBV.out.size)
   have HB2:=zA ((HBV.out.alloc HBV.out.size (.cells (Qi 0 0) 45)).drew)
   have hH2:=And.intro (show(V.alloc (.cells (Qi 0 0) 45)).drew.heap[w.heap.size]?=_ from zC (show(V).heap[w.heap.size]?=_ from rV.1) HBL.out) (HE.out V (V.alloc (.cells (Qi 0 0) 45)).drew (HBL.out.block P (Nat.lt_of_lt_of_le HPL.out HBV.out.size)) (show(V).cell? _=_ from by simpa using rV.2))
   refine hK.out _ _ (fun _=>hH2) (fun _=>?_)
   clear hK K
   try simp only[pt,List.set]
   clear rV
   have rV:=hH2
   clear hH2
   generalize hU0:(World.alloc V (.cells (Qi 0 0) 45)).drew=U at *
   generalize hY0:(show World from V).heap.size=Y at *
   clear hU0 hY0
   refine t1 11 rfl (fun K hK=>?_)
   go_simp
   refine(HSM.out _ HB2.out).mono ?_
   rintro x w1 ⟨d1,d2,e,rfl,hI⟩
   have hH1:=And.intro ((hI.1.same w.heap.size (gsi.1 rV.1).1 (fun h=>by have:=HLT.out _ h;omega)).trans rV.1) (HE.out _ w1 (hI.1.same P (Nat.lt_of_lt_of_le HPL.out HB2.out.size) (fun h=>HSEP.out _ h rfl)) rV.2)
   refine hK.out _ _ (fun _=>hH1) (fun _=>?_)
   clear hK K
   try simp only[pt,List.set]
   clear rV
   have rV:=hH1
   clear hH1
   refine tkp 12 6 rfl ?_
   refine tkp 13 19 rfl ?_
   refine tkp 14 20 rfl ?_
   have HY1:=zA ((hI.1.same Y (gsi.1 HY.out).1 (fun h=>by have:=HLT.out _ h;have:=HGE.out;omega)).trans HY.out)
   have HI:=zA (IssY.before HB2.out hI HLT.out HGE.out HYY.out)
   clear hI HY
   have HY:=HY1
   clear HY1
   generalize hU1:w1=U1 at *
   clear hU1
   refine t1 16 rfl (fun K hK=>?_)
   rw[if_pos (by rfl)]
   refine yG 45 (.tmp 4) (.tmp 19) Y rfl rfl rfl rfl HY.out (by kernel_rfl) rfl (by kernel_rfl) ?_
   have ho:Off (fun g=>g=Y) U1 (World.setRow U1 Y (Qi d1 d2)):=(Off.refl (fun g=>g=Y) _).setRow (F:=fun g=>g=Y) Y (.inl rfl) _
   have HR:=zA (HI.out.done ho HLT.out HGE.out)
   have qK:w.heap.size≠Y:=fun e=>by
    have h1:=HY.out
    rw[←e,rV.1]at h1
    cases h1
   have hH3:=And.intro ((ho.same w.heap.size (gsi.1 rV.1).1 qK).trans rV.1) (HE.out _ _ (ho.same P (Nat.lt_of_lt_of_le HPL.out HI.out.1.size) (fun e=>by have e':P=Y:=e;have:=HGE.out;have:=HPL.out;omega)) rV.2)
   clear ho qK
   refine hK.out _ _ (fun _=>hH3) (fun _=>?_)
   clear hK K
   try simp only[pt,List.set]
   clear rV
   have rV:=hH3
   clear hH3
   refine tkp 17 5 rfl ?_
   clear rV
   refine wd ?_
   go_wp2_with fail
   by_cases he:e=0
   ·subst he
    refine(xH _).mono ?_
    rintro x w' ⟨rfl,rfl⟩
    go_wp2_with fail
    exact yD results28 ⟨0,.inl ⟨rfl,rfl⟩,HR.out⟩
   ·have he':(e != 0)=true:=by simpa using he
    refine(xP e he' _).mono ?_
    rintro x w' ⟨rfl,rfl⟩
    go_wp2_with fail
    exact zW rfl ⟨e,.inr ⟨he',rfl⟩,HR.out⟩
 ·go_simp
  have HBL:=zA ((bn (V) (.cells (Qi 0 0) 45)).drew)
  have HY:=zA (show(V.alloc (.cells (Qi 0 0) 45)).drew.heap[(V).heap.size]?=some (.cells (Qi 0 0) 45)from heap_alloc_new (V) (.cells (Qi 0 0) 45))
  have HYY:=zA (show(V).heap.size<(V.alloc (.cells (Qi 0 0) 45)).drew.heap.size from by rw[show(V.alloc (.cells (Qi 0 0) 45)).drew.heap.size=(V.alloc (.cells (Qi 0 0) 45)).heap.size from rfl,zE];exact Nat.lt_succ_self _)
  have HGE:=zA (show w.heap.size≤(V).heap.size from HBV.out.size)
  have HB2:=zA ((HBV.out.alloc HBV.out.size (.cells (Qi 0 0) 45)).drew)
  have hH2:=And.intro (show(V.alloc (.cells (Qi 0 0) 45)).drew.heap[w.heap.size]?=_ from zC (show(V).heap[w.heap.size]?=_ from rV.1) HBL.out) (HE.out V (V.alloc (.cells (Qi 0 0) 45)).drew (HBL.out.block P (Nat.lt_of_lt_of_le HPL.out HBV.out.size)) (show(V).cell? _=_ from by simpa using rV.2))
  refine hK.out _ _ (fun _=>hH2) (fun _=>?_)
  clear hK K
  try simp only[pt,List.set]
  clear rV
  have rV:=hH2
  clear hH2
  generalize hU0:(World.alloc V (.cells (Qi 0 0) 45)).drew=U at *
  generalize hY0:(show World from V).heap.size=Y at *
  clear hU0 hY0
  refine t1 3 rfl (fun K hK=>?_)
  go_simp
  refine(HRU.out _ HB2.out).mono ?_
  rintro x w' ⟨rfl,hw'⟩
  subst hw'
  refine hK.out _ _ (fun _=>rV) (fun _=>?_)
  clear hK K
  try simp only[pt,List.set]
  refine tkp 4 11 rfl ?_
  refine tkp 5 12 rfl ?_
  refine tk 6 13 rfl (by intro wS hSw;obtain⟨hx,hy⟩:=id hSw;have x1:=cc 1 hx;have x2:=cc 2 hx;have x3:=cc 3 hx;clear hSw;go_simp;(try with_reducible rfl)) ?_
  refine t1 11 rfl (fun K hK=>?_)
  go_simp
  refine(HSM.out _ HB2.out).mono ?_
  rintro x w1 ⟨d1,d2,e,rfl,hI⟩
  have hH1:=And.intro ((hI.1.same w.heap.size (gsi.1 rV.1).1 (fun h=>by have:=HLT.out _ h;omega)).trans rV.1) (HE.out _ w1 (hI.1.same P (Nat.lt_of_lt_of_le HPL.out HB2.out.size) (fun h=>HSEP.out _ h rfl)) rV.2)
  refine hK.out _ _ (fun _=>hH1) (fun _=>?_)
  clear hK K
  try simp only[pt,List.set]
  clear rV
  have rV:=hH1
  clear hH1
  refine tkp 12 6 rfl ?_
  refine tkp 13 19 rfl ?_
  refine tkp 14 20 rfl ?_
  have HY1:=zA ((hI.1.same Y (gsi.1 HY.out).1 (fun h=>by have:=HLT.out _ h;have:=HGE.out;omega)).trans HY.out)
  have HI:=zA (IssY.before HB2.out hI HLT.out HGE.out HYY.out)
  clear hI HY
  have HY:=HY1
  clear HY1
  generalize hU1:w1=U1 at *
  clear hU1
  refine t1 16 rfl (fun K hK=>?_)
  rw[if_pos (by rfl)]
  refine yG 45 (.tmp 4) (.tmp 19) Y rfl rfl rfl rfl HY.out (by kernel_rfl) rfl (by kernel_rfl) ?_
  have ho:Off (fun g=>g=Y) U1 (World.setRow U1 Y (Qi d1 d2)):=(Off.refl (fun g=>g=Y) _).setRow (F:=fun g=>g=Y) Y (.inl rfl) _
  have HR:=zA (HI.out.done ho HLT.out HGE.out)
  have qK:w.heap.size≠Y:=fun e=>by
   have h1:=HY.out
   rw[←e,rV.1]at h1
   cases h1
  have hH3:=And.intro ((ho.same w.heap.size (gsi.1 rV.1).1 qK).trans rV.1) (HE.out _ _ (ho.same P (Nat.lt_of_lt_of_le HPL.out HI.out.1.size) (fun e=>by have e':P=Y:=e;have:=HGE.out;have:=HPL.out;omega)) rV.2)
  clear ho qK
  refine hK.out _ _ (fun _=>hH3) (fun _=>?_)
  clear hK K
  try simp only[pt,List.set]
  clear rV
  have rV:=hH3
  clear hH3
  refine tkp 17 5 rfl ?_
  clear rV
  refine wd ?_
  go_wp2_with fail
  by_cases he:e=0
  ·subst he
   refine(xH _).mono ?_
   rintro x w' ⟨rfl,rfl⟩
   go_wp2_with fail
   exact yD results28 ⟨0,.inl ⟨rfl,rfl⟩,HR.out⟩
  ·have he':(e != 0)=true:=by simpa using he
   refine(xP e he' _).mono ?_
   rintro x w' ⟨rfl,rfl⟩
   go_wp2_with fail
   exact zW rfl ⟨e,.inr ⟨he',rfl⟩,HR.out⟩
end
end Go.Proofs.YtodlmbfbfaofcaaGreat
