/- TopPolicies, part 33. -/
import Derived.Test.YtodlmbfbfaofcaaGreatM01
import Derived.Test.YtodlmbfbfaofcaaGreatM02
import Derived.Test.YtodlmbfbfaofcaaGreatM04
import Derived.Test.YtodlmbfbfaofcaaGreatM08
import Derived.Test.YtodlmbfbfaofcaaGreatM18
import Derived.Test.YtodlmbfbfaofcaaGreatM19
import Derived.Test.YtodlmbfbfaofcaaGreatM32
open Go.Proofs.Tryz
namespace Go.Proofs.YtodlmbfbfaofcaaGreat
set_option linter.unusedVariables false
set_option linter.unusedSimpArgs false
set_option maxRecDepth 100000
set_option maxHeartbeats 4000000
section
open Go.RowKit Rw Rh
theorem issue_bad (Fs:Nat→Prop) (p:AgP) (c:Cf) (size:Int) (bs:List Int) (u m:Nat) (own:List Pl.Ev) (sd:List (Nat×Nat)) (es:List Pl.Ev) (clock:Int) (e:Pl.Ev) (w:World) (h:AgAt Fs w p c size bs u m own sd es clock) (hR:∀W,Calls prog 188 #[.agg (Qe ((c.n:Int)) 1 1 e.kind e.work e.value e.mn e.mx e.goal e.slack e.up e.down e.cool)] W fun r w'=>r=.returned (.bool false)∧Below W.heap.size W w') :
  Calls prog 148 #[Qp p.a,.agg (Qe 0 0 0 e.kind e.work e.value e.mn e.mx e.goal e.slack e.up e.down e.cool)] w fun r w'=>r=.returned (.tuple #[.agg (Qi 0 0),.int .i64 2])∧Off (fun g=>Fs g∨p.has g) w w'∧AgAt Fs w' p c size bs u m own sd es clock:=by
 have b0:=bn w (.cells (Qe 0 0 0 e.kind e.work e.value e.mn e.mx e.goal e.slack e.up e.down e.cool) 175)
 have b1:=b0.alloc b0.size (.cells (Qi 0 0) 45)
 have b2:=b1.alloc b1.size (.cells (Qo 0) 41)
 have s1:(w.alloc (.cells (Qe 0 0 0 e.kind e.work e.value e.mn e.mx e.goal e.slack e.up e.down e.cool) 175)).heap.size=w.heap.size+1:=zG _ _
 have s2:((w.alloc (.cells (Qe 0 0 0 e.kind e.work e.value e.mn e.mx e.goal e.slack e.up e.down e.cool) 175)).alloc (.cells (Qi 0 0) 45)).heap.size=w.heap.size+1+1:=by rw[zG,zG]
 have hE:=zC (zC (heap_alloc_new w (.cells (Qe 0 0 0 e.kind e.work e.value e.mn e.mx e.goal e.slack e.up e.down e.cool) 175)) (bn _ (.cells (Qi 0 0) 45))) (bn _ (.cells (Qo 0) 41))
 have hD:=zC (heap_alloc_new (w.alloc (.cells (Qe 0 0 0 e.kind e.work e.value e.mn e.mx e.goal e.slack e.up e.down e.cool) 175)) (.cells (Qi 0 0) 45)) (bn _ (.cells (Qo 0) 41))
 have hX:=heap_alloc_new ((w.alloc (.cells (Qe 0 0 0 e.kind e.work e.value e.mn e.mx e.goal e.slack e.up e.down e.cool) 175)).alloc (.cells (Qi 0 0) 45)) (.cells (Qo 0) 41)
 rw[s1]at hD
 rw[s2]at hX
 have HE:=zA hE
 have HD:=zA hD
 have HX:=zA hX
 have HB:=zA b2
 have HA0:=zA h
 have HA:=zA (h.below b2)
 have HF:Hid (∀k,w.heap.size≤k→¬Fs k∧¬p.has k):=zA (fun k hk=>⟨fun hF=>by have:=h.lt k hF;omega,fun hp=>by have:=h.hlt k hp;omega⟩)
 have HTH:=zA (xK Fs p c size bs u m sd es clock own u m _ (h.below b2))
 have x0:=zE (j:=0) (h.below b2).ag rfl
 have HR:=zA hR
 clear b0 b1 b2 s1 s2 hE hD hX h hR
 go_enter_defers func148,ntmps148
 go_wp2_with fail
 generalize ((w.alloc (.cells (Qe 0 0 0 e.kind e.work e.value e.mn e.mx e.goal e.slack e.up e.down e.cool) 175)).alloc (.cells (Qi 0 0) 45)).alloc (.cells (Qo 0) 41)=W at *
 refine HTH.out.mono ?_
 rintro r w' ⟨rfl,rfl⟩
 have f0:=zB HE.out 0
 have f1:=zB HE.out 1
 have f2:=zB HE.out 2
 have y0:=cc 0 HE.out
 have y1:=cc 1 HE.out
 have y2:=cc 2 HE.out
 have hA:=zF (j:=0) HE.out (.int .i64 c.n)
 have hB:=zF (j:=1) hA (.int .i64 1)
 have hC:=zF (j:=2) hB (.int .i64 1)
 simp only[List.setIfInBounds_toArray,List.set_cons_zero,List.set_cons_succ]at hC
 have ho:Off (fun x=>x=w.heap.size) W (((W.setCell ⟨w.heap.size,0,none⟩ (.int .i64 c.n)).setCell ⟨w.heap.size,1,none⟩ (.int .i64 1)).setCell ⟨w.heap.size,2,none⟩ (.int .i64 1)):=(((Off.refl (fun x=>x=w.heap.size) W).set (a:=⟨w.heap.size,0,none⟩) (.inl rfl) _).set (a:=⟨w.heap.size,1,none⟩) (.inl rfl) _).set (a:=⟨w.heap.size,2,none⟩) (.inl rfl) _
 have HE1:=zA hC
 have HA1:=zA (HA.out.off1 (HF.out _ (Nat.le_refl _)).1 (HF.out _ (Nat.le_refl _)).2 ho (fun x hx=>(HA.out.go.is x hx).keep (Kd.one ho HE.out lF)))
 have HD1:=zA ((ho.same _ (gsi.1 HD.out).1 (fun e=>by have e':w.heap.size+1=w.heap.size:=e;omega)).trans HD.out)
 have HX1:=zA ((ho.same _ (gsi.1 HX.out).1 (fun e=>by have e':w.heap.size+1+1=w.heap.size:=e;omega)).trans HX.out)
 have HO1:=zA (show Off (fun g=>Fs g∨p.has g) w _ from(((Off.of_below HB.out).set (a:=⟨w.heap.size,0,none⟩) (.inr (Nat.le_refl _)) (.int .i64 c.n)).set (a:=⟨w.heap.size,1,none⟩) (.inr (Nat.le_refl _)) (.int .i64 1)).set (a:=⟨w.heap.size,2,none⟩) (.inr (Nat.le_refl _)) (.int .i64 1))
 clear hA hB hC ho
 go_wp2_with (refine zI rfl 175 (.tmp 3) w.heap.size (Qe ((c.n:Int)) 1 1 e.kind e.work e.value e.mn e.mx e.goal e.slack e.up e.down e.cool) 175 (0,0) _ rfl rfl HE1.out underlying175 rfl lE ?_)
 clear x0 f0 f1 f2 y0 y1 y2 HE HA HD HX HB HTH
 generalize ((W.setCell ⟨w.heap.size,0,none⟩ (.int .i64 c.n)).setCell ⟨w.heap.size,1,none⟩ (.int .i64 1)).setCell ⟨w.heap.size,2,none⟩ (.int .i64 1)=w1 at *
 refine(HR.out w1).mono ?_
 rintro r w2 ⟨rfl,hb⟩
 have HA2:=zA (HA1.out.below hb)
 have HD2:=zA (zC HD1.out hb)
 have HX2:=zA (zC HX1.out hb)
 have HO2:=zA (HO1.out.trans (Off.of_below hb))
 clear hb HE1 HA1 HD1 HX1 HO1 HR
 have d0:=cc 0 HD2.out
 have d1:=cc 1 HD2.out
 have f0:=zB HD2.out 0
 have f1:=zB HD2.out 1
 have fx:=zB HX2.out 0
 have gx:=cc 0 HX2.out
 have i0:w2.setCell ⟨w.heap.size+1,0,none⟩ (.int .i64 0)=w2:=zN HD2.out (j:=0) (v:=.int .i64 0) rfl
 have i1:w2.setCell ⟨w.heap.size+1,1,none⟩ (.int .i64 0)=w2:=zN HD2.out (j:=1) (v:=.int .i64 0) rfl
 go_wp2_with fail
 refine leaves_cons (f:=46) (args:=#[Qp (w.heap.size+1+1)]) (by simp) (by simp[go_sem]) ?_
 refine(xE _ _).mono ?_
 rintro r u' w'' ⟨rfl,rfl,rfl⟩
 have o2:=(Off.refl (fun x=>x=w.heap.size+1+1) w2).set (a:=⟨w.heap.size+1+1,0,none⟩) (.inl rfl) (.int .i64 2)
 have hA2:=HA2.out.off1 (HF.out _ lD).1 (HF.out _ lD).2 o2 (fun x hx=>(HA2.out.go.is x hx).keep (Kd.one o2 HX2.out lF))
 have cz:=World.cell?_setCell_same w2 ⟨w.heap.size+1+1,0,none⟩ (.int .i64 2) gx
 have hd2:=(o2.same (w.heap.size+1) (gsi.1 HD2.out).1 (fun e=>by have e':w.heap.size+1=w.heap.size+1+1:=e;omega)).trans HD2.out
 have c0:=cc 0 hd2
 have c1:=cc 1 hd2
 have HOZ:=zA (HO2.out.set (a:=⟨w.heap.size+1+1,0,none⟩) (.inr (show w.heap.size≤w.heap.size+1+1 by omega)) (.int .i64 2))
 have HAZ:=zA hA2
 clear o2 hA2 hd2 d0 d1 f0 f1 i0 i1
 generalize w2.setCell ⟨w.heap.size+1+1,0,none⟩ (.int .i64 2)=Z at *
 exact yY (v:=.tuple #[.agg (Qi 0 0),.int .i64 2]) (by simp[results,results148,go_sem,cz,c0,c1]) ⟨rfl,HOZ.out,HAZ.out⟩
structure AgS (Fs:Nat→Prop) (w:World) (p:AgP) (c:Cf) (size:Int) (k:Nat) (L es:List Pl.Ev):Prop where
 st:∃(bs:List Int) (u m:Nat) (own:List Pl.Ev) (sd:List (Nat×Nat)),AgAt Fs w p c size bs u m own sd es (L.length:Int)∧Same own L∧(u≤m∧m≤96∧u≤k)∧((bs.length:Int)≤size∧bs.length≤100+500*k)∧(∀x∈L,x.seq≤u)∧∀d,d∈sd↔∃x∈L,x.at=d
 sz:size≤16384
 len:L.length≤k
 own:∀x∈L,x.node=c.n
 ok:∀x∈L,x.Ok
 ord:L.Pairwise (fun a b=>a.seq<b.seq)
 hel:es.length≤L.length
 inn:∀x∈es,∃y∈L,x.abs=y.abs
 rms:∀x∈L,∀d∈x.rm,∃y∈L,y.at=d
theorem AgS.keep {Fs:Nat→Prop} {w w':World} {p:AgP} {c:Cf} {size:Int} {k:Nat} {L es:List Pl.Ev} (h:AgS Fs w p c size k L es) (hs:w.heap.size≤w'.heap.size) (hk:∀g,Fs g∨p.has g→w'.heap[g]?=w.heap[g]?) (hi:∀e∈es,Is w' e):AgS Fs w' p c size k L es:=by
 obtain⟨bs,u,m,own,sd,h1,h2⟩:=h.st
 exact⟨⟨bs,u,m,own,sd,h1.keep hs hk hi,h2⟩,h.sz,h.len,h.own,h.ok,h.ord,h.hel,h.inn,h.rms⟩
theorem AgS.more {Fs:Nat→Prop} {w:World} {p:AgP} {c:Cf} {size:Int} {k k':Nat} {L es:List Pl.Ev} (h:AgS Fs w p c size k L es) (hk:k≤k'):AgS Fs w p c size k' L es:=by
 obtain⟨bs,u,m,own,sd,h1,h2,h3,h4,h5⟩:=h.st
 exact⟨⟨bs,u,m,own,sd,h1,h2,by omega,by omega,h5⟩,h.sz,Nat.le_trans h.len hk,h.own,h.ok,h.ord,h.hel,h.inn,h.rms⟩
def Full (size:Int) (k:Nat) (P:Pl.Ev→Prop) (x:Int):Prop:=x≠0∧((∃e,P e)→size<600+500*k)
def Issued (Fs:Nat→Prop) (w:World) (p:AgP) (c:Cf) (size:Int) (k:Nat) (L es:List Pl.Ev) (P:Pl.Ev→Prop) (x:Int) (w':World):Prop:=
 Off (fun g=>Fs g∨p.has g) w w'∧∃Fs',(∀g,Fs' g→Fs g∨w.heap.size≤g)∧((Full size k P x∧AgS Fs' w' p c size (k+1) L es)∨(x=0∧∃e eh,P e∧e.node=c.n∧eh.abs=e.abs∧AgS Fs' w' p c size (k+1) (L++[e]) (addE es e eh)))
theorem same_at {a b:List Pl.Ev} (h:Same a b) {x:Pl.Ev} (hx:x∈a):∃y∈b,y.at=x.at:=by
 have h1:x.abs∈a.map Pl.Ev.abs:=List.mem_map.2 ⟨x,hx,rfl⟩
 rw[show a.map Pl.Ev.abs=b.map Pl.Ev.abs from h]at h1
 obtain⟨y,h2,h3⟩:=List.mem_map.1 h1
 exact⟨y,h2,show y.abs.at=x.abs.at from congrArg Pl.Ev.at h3⟩
theorem Same.len {a b:List Pl.Ev} (h:Same a b):a.length=b.length:=by
 have:=congrArg List.length (show a.map Pl.Ev.abs=b.map Pl.Ev.abs from h)
 rwa [List.length_map,List.length_map]at this
theorem Same.snoc {a b:List Pl.Ev} {x y:Pl.Ev} (h:Same a b) (hx:x.abs=y.abs):Same (a++[x]) (b++[y]):=by
 unfold Same at h ⊢
 rw[List.map_append,List.map_append,h]
 simp[hx]
theorem uV (Fs:Nat→Prop) (p:AgP) (c:Cf) (size:Int) (k:Nat) (L es:List Pl.Ev) (e0:Pl.Ev) (w:World) (h:AgS Fs w p c size k L es) (hk:k≤90)
  (he:∀s t:Nat,(∀x∈L,x.seq<s)→1≤s→s≤96→1≤t→t≤1000→({e0 with node:=c.n,seq:=s,time:=t}:Pl.Ev).Ok) (hrm:∀d∈e0.rm,∃x∈L,x.at=d)
  (hR:∀W,Calls prog 188 #[.agg (Qe ((c.n:Int)) 1 1 e0.kind e0.work e0.value e0.mn e0.mx e0.goal e0.slack e0.up e0.down e0.cool)] W fun r w'=>r=.returned (.bool true)∧Below W.heap.size W w')
  (hst:∀(bs:List Int) (u m:Nat) (own:List Pl.Ev) (sd:List (Nat×Nat)) W E,AgAt Fs W p c size bs u m own sd es (L.length:Int)→W.heap[E]?=some (.cells (Qe ((c.n:Int)) 1 1 e0.kind e0.work e0.value e0.mn e0.mx e0.goal e0.slack e0.up e0.down e0.cool) 175 (0,0))→Calls prog 239 #[Qp p.a,Qp E] W fun r w'=>r=.returned (.tuple #[])∧∃ro rc,w'.heap[E]?=some (.cells (Qy ((c.n:Int)) 1 1 e0.kind e0.work e0.value e0.mn e0.mx e0.goal e0.slack e0.up e0.down e0.cool (.slice ro e0.rm.length rc)) 175 (0,0))∧DotsT w' (.slice ro e0.rm.length rc) e0.rm∧Off (fun x=>x=E) W w') :
  Calls prog 148 #[Qp p.a,.agg (Qe 0 0 0 e0.kind e0.work e0.value e0.mn e0.mx e0.goal e0.slack e0.up e0.down e0.cool)] w fun r w'=>∃d1 d2 x,r=.returned (.tuple #[.agg (Qi d1 d2),.int .i64 x])∧Issued Fs w p c size k L es (fun e=>∃s:Nat,e={e0 with node:=c.n,seq:=s,time:=((L.length+1:Nat):Int)}) x w':=by
 obtain⟨bs,u,m,own,sd,hA,hso,hu,hl,hsq,hsd⟩:=h.st
 have hlen:=h.len
 have hel:=h.hel
 have hol:=hso.len
 have hno:∀x∈L,x.at≠(c.n,u+1):=fun x hx e=>by
  have h1:=hsq x hx
  obtain⟨n,q,hd⟩:=(h.ok x hx).dot
  rw[hd.1.key]at e
  cases e
  have:=hd.1.seq
  omega
 have hok:=he (u+1) (L.length+1) (fun x hx=>by have:=hsq x hx;omega) lD lD lD lD
 refine(issue_ok Fs p c size bs u m own sd es (L.length:Int) ({e0 with node:=c.n,seq:=((u+1:Nat):Int),time:=((L.length+1:Nat):Int)}:Pl.Ev) w hA lD hl.1 h.sz lD lD lD rfl rfl (by simp) hok hR (hst bs u m own sd) (fun hm=>?_) (fun x hx e=>?_)).mono ?_
 ·obtain⟨x,hx,e⟩:=(hsd _).1 hm
  exact hno x hx e
 ·obtain⟨y,hy,e'⟩:=same_at hso hx
  exact hno y hy (e'.trans e)
 ·rintro r w' ⟨d1,d2,x,rfl,hof,Fs',hsub,bs',u',m',hb',hu',hcase⟩
  refine⟨d1,d2,x,rfl,hof,Fs',hsub,?_⟩
  rcases hcase with⟨hx,hA'⟩ | ⟨hx,e',eo,eh,heo,heh,hA'⟩
  ·exact .inl ⟨⟨hx.1,fun _=>by omega⟩,⟨⟨bs',u',m',own,sd,hA',hso,by omega,by omega,fun y hy=>by have:=hsq y hy;omega,hsd⟩,h.sz,by omega,h.own,h.ok,h.ord,hel,h.inn,h.rms⟩⟩
  ·refine .inr ⟨hx,({e0 with node:=c.n,seq:=((u+1:Nat):Int),time:=((L.length+1:Nat):Int)}:Pl.Ev),eh,⟨u+1,rfl⟩,rfl,heh,⟨⟨bs',u',m',own++[eo],_,(by rw[List.length_append,List.length_singleton];exact hA'),hso.snoc heo,by omega,by omega,fun y hy=>?_,fun d=>?_⟩,h.sz,by rw[List.length_append,List.length_singleton];omega,fun y hy=>?_,fun y hy=>?_,?_,?_,fun x hx=>?_,fun x hx d hd=>?_⟩⟩
   ·rcases List.mem_append.1 hy with h1 | h1
    ·have:=hsq y h1;omega
    ·cases List.mem_singleton.1 h1;dsimp only;omega
   ·rw[vC,hsd]
    constructor
    ·rintro(⟨x,hx,e⟩ | e | e)
     ·exact⟨x,List.mem_append_left _ hx,e⟩
     ·exact⟨_,List.mem_append_right _ (List.mem_singleton.2 rfl),e.symm⟩
     ·obtain⟨x,hx,e2⟩:=hrm d e
      exact⟨x,List.mem_append_left _ hx,e2⟩
    ·rintro⟨x,hx,e⟩
     rcases List.mem_append.1 hx with h1 | h1
     ·exact .inl ⟨x,h1,e⟩
     ·cases List.mem_singleton.1 h1;exact .inr (.inl e.symm)
   ·rcases List.mem_append.1 hy with h1 | h1
    ·exact h.own y h1
    ·cases List.mem_singleton.1 h1;rfl
   ·rcases List.mem_append.1 hy with h1 | h1
    ·exact h.ok y h1
    ·cases List.mem_singleton.1 h1;exact hok
   ·rw[List.pairwise_append]
    refine⟨h.ord,List.pairwise_singleton _ _,fun a ha b hb=>?_⟩
    cases List.mem_singleton.1 hb
    have:=hsq a ha
    dsimp only
    omega
   ·unfold addE
    rw[List.length_append,List.length_append,List.length_singleton,List.length_singleton]
    exact Nat.succ_le_succ (Nat.le_trans (uI _ es) hel)
   ·rcases List.mem_append.1 hx with h1 | h1
    ·obtain⟨y,h2,h3⟩:=h.inn x (List.mem_filter.1 h1).1
     exact⟨y,List.mem_append_left _ h2,h3⟩
    ·cases List.mem_singleton.1 h1
     exact⟨_,List.mem_append_right _ (List.mem_singleton.2 rfl),heh⟩
   ·rcases List.mem_append.1 hx with h1 | h1
    ·obtain⟨y,h2,h3⟩:=h.rms x h1 d hd
     exact⟨y,List.mem_append_left _ h2,h3⟩
    ·cases List.mem_singleton.1 h1
     obtain⟨y,h2,h3⟩:=hrm d hd
     exact⟨y,List.mem_append_left _ h2,h3⟩
theorem nam_nil (n s:Nat):Pl.Nam n s []:=by constructor<;>simp
abbrev smpE (work value:Int):Pl.Ev:={node:=0,seq:=0,time:=0,kind:=1,work:=work,value:=value,mn:=0,mx:=0,goal:=0,slack:=0,up:=0,down:=0,cool:=0}
abbrev setE (work mn mx goal slack up down cool:Int) (rm:List (Nat×Nat)):Pl.Ev:={node:=0,seq:=0,time:=0,kind:=2,work:=work,value:=0,mn:=mn,mx:=mx,goal:=goal,slack:=slack,up:=up,down:=down,cool:=cool,rn:=rm.length,rm:=rm}
abbrev delE (work:Int) (rm:List (Nat×Nat)):Pl.Ev:={node:=0,seq:=0,time:=0,kind:=3,work:=work,value:=0,mn:=0,mx:=0,goal:=0,slack:=0,up:=0,down:=0,cool:=0,rn:=rm.length,rm:=rm}
theorem smp_ok (n s t:Nat) (work value:Int) (hn:n<8) (hs:1≤s∧s≤96) (ht:1≤t∧t≤1000) (hw:Pl.inside work 0 7=true) (hv:Pl.inside value 0 1099511627776=true):({smpE work value with node:=n,seq:=s,time:=t}:Pl.Ev).Ok:=
 ⟨⟨n,s,⟨rfl,rfl,hn,hs.1,hs.2⟩,nam_nil n s⟩,by unfold Pl.Ev.right;dsimp only;rw[zL (by omega) (by omega),hw,if_pos rfl,hv];rfl,rfl⟩
theorem tB {n lo hi:Int} (h:Pl.inside n lo hi=true):lo≤n∧n≤hi:=by unfold Pl.inside at h;simpa using h
theorem vA (n:Nat) (kind work value mn mx goal slack up down cool:Int) (w:World) (hn:n<8) :
  Calls prog 188 #[.agg (Qe n 1 1 kind work value mn mx goal slack up down cool)] w fun r w'=>r=.returned (.bool (Pl.Ev.right {node:=n,seq:=1,time:=1,kind:=kind,work:=work,value:=value,mn:=mn,mx:=mx,goal:=goal,slack:=slack,up:=up,down:=down,cool:=cool}))∧Below w.heap.size w w':=by
 have h:=wZ {node:=n,seq:=1,time:=1,kind:=kind,work:=work,value:=value,mn:=mn,mx:=mx,goal:=goal,slack:=slack,up:=up,down:=down,cool:=cool} n 1 w ⟨rfl,rfl,hn,by omega,by omega⟩ (vE w).toC (nam_nil n 1)
 exact h
theorem Issued.imp {Fs:Nat→Prop} {w:World} {p:AgP} {c:Cf} {size:Int} {k:Nat} {L es:List Pl.Ev} {P Q:Pl.Ev→Prop} {x:Int} {w':World} (h:Issued Fs w p c size k L es P x w') (hPQ:∀e,P e→Q e) (hQP:(∃e,Q e)→∃e,P e):Issued Fs w p c size k L es Q x w':=by
 obtain⟨hof,Fs',hsub,hcase⟩:=h
 refine⟨hof,Fs',hsub,?_⟩
 rcases hcase with⟨⟨hx,hz⟩,h⟩ | ⟨hx,e,eh,he,h⟩
 ·exact .inl ⟨⟨hx,fun hq=>hz (hQP hq)⟩,h⟩
 ·exact .inr ⟨hx,e,eh,hPQ e he,h⟩
theorem Issued.dotted {Fs:Nat→Prop} {w w2:World} {p:AgP} {c:Cf} {size:Int} {k:Nat} {L es:List Pl.Ev} {P:Pl.Ev→Prop} {x:Int} (hlt:∀g,Fs g∨p.has g→g<w.heap.size) (h:Issued Fs (w.alloc (.cells (Qi 0 0) 45)) p c size k L es P x w2) (d1 d2:Int) :
  w2.heap[w.heap.size]?=some (.cells (Qi 0 0) 45 (0,0))∧Issued Fs w p c size k L es P x ((w2.setCell ⟨w.heap.size,0,none⟩ (.int .i64 d1)).setCell ⟨w.heap.size,1,none⟩ (.int .i64 d2)):=by
 obtain⟨hof,Fs',hsub,hcase⟩:=h
 have b1:=bn w (.cells (Qi 0 0) 45)
 have hx:=heap_alloc_new w (.cells (Qi 0 0) 45)
 have hx2:=(hof.same w.heap.size (gsi.1 hx).1 (fun h=>by have:=hlt _ h;omega)).trans hx
 have hsz:(w.alloc (.cells (Qi 0 0) 45)).heap.size=w.heap.size+1:=zG _ _
 have ho:Off (fun g=>g=w.heap.size) w2 ((w2.setCell ⟨w.heap.size,0,none⟩ (.int .i64 d1)).setCell ⟨w.heap.size,1,none⟩ (.int .i64 d2)):=((Off.refl (fun g=>g=w.heap.size) w2).set (a:=⟨w.heap.size,0,none⟩) (.inl rfl) _).set (a:=⟨w.heap.size,1,none⟩) (.inl rfl) _
 have hkp:∀{k'} {L' es'},AgS Fs' w2 p c size k' L' es'→AgS Fs' ((w2.setCell ⟨w.heap.size,0,none⟩ (.int .i64 d1)).setCell ⟨w.heap.size,1,none⟩ (.int .i64 d2)) p c size k' L' es':=fun hS=>by
  obtain⟨bs,u,m,own,sd,hA,_⟩:=hS.st
  exact hS.keep ho.size (fun g hg=>ho.same g (hg.elim (hA.lt g) (hA.hlt g)) (fun e=>by
   have e':g=w.heap.size:=e
   rcases hg with hg | hg
   ·rcases hsub g hg with h | h
    ·have:=hlt g (.inl h);omega
    ·omega
   ·have:=hlt g (.inr hg);omega)) (fun e he=>(hA.go.is e he).zero (hA.go.ok e he) hx2 ho)
 refine⟨hx2,((Off.of_below b1).trans hof |> fun h=>(h.set (a:=⟨w.heap.size,0,none⟩) (.inr (Nat.le_refl _)) (.int .i64 d1)).set (a:=⟨w.heap.size,1,none⟩) (.inr (Nat.le_refl _)) (.int .i64 d2)),Fs',fun g hg=>(hsub g hg).imp id (fun h=>by omega),?_⟩
 rcases hcase with⟨hx,h⟩ | ⟨hx,e,eh,h1,h2,h3,h4⟩
 ·exact .inl ⟨hx,hkp h⟩
 ·exact .inr ⟨hx,e,eh,h1,h2,h3,hkp h4⟩
theorem AgS.alloc {Fs:Nat→Prop} {w:World} {p:AgP} {c:Cf} {size:Int} {k:Nat} {L es:List Pl.Ev} (h:AgS Fs w p c size k L es) (o:Obj):AgS Fs (w.alloc o) p c size k L es∧(∀g,Fs g∨p.has g→g<w.heap.size)∧c.n<8:=by
 obtain⟨bs,u,m,own,sd,hA,_⟩:=h.st
 have b1:=bn w o
 have hlt:∀g,Fs g∨p.has g→g<w.heap.size:=fun g hg=>hg.elim (hA.lt g) (hA.hlt g)
 exact⟨h.keep b1.size (fun g hg=>b1.block g (hlt g hg)) (fun e he=>(hA.go.is e he).below b1),hlt,hA.ok.n⟩
theorem vN (Fs:Nat→Prop) (p:AgP) (c:Cf) (size:Int) (k:Nat) (L es:List Pl.Ev) (e:Pl.Ev) (P:Pl.Ev→Prop) (w:World) (h:AgS Fs w p c size k L es) (hP:¬ ∃e,P e)
  (hR:∀W,Calls prog 188 #[.agg (Qe ((c.n:Int)) 1 1 e.kind e.work e.value e.mn e.mx e.goal e.slack e.up e.down e.cool)] W fun r w'=>r=.returned (.bool false)∧Below W.heap.size W w') :
  Calls prog 148 #[Qp p.a,.agg (Qe 0 0 0 e.kind e.work e.value e.mn e.mx e.goal e.slack e.up e.down e.cool)] w fun r w'=>∃d1 d2 x,r=.returned (.tuple #[.agg (Qi d1 d2),.int .i64 x])∧Issued Fs w p c size k L es P x w':=by
 obtain⟨bs,u,m,own,sd,hA,hso,hu,hl,hsq⟩:=h.st
 refine(issue_bad Fs p c size bs u m own sd es (L.length:Int) e w hA hR).mono ?_
 rintro r w' ⟨rfl,hof,hA'⟩
 exact⟨0,0,2,rfl,hof,Fs,fun g hg=>.inl hg,.inl ⟨⟨by decide,fun h=>absurd h hP⟩,AgS.more ⟨⟨bs,u,m,own,sd,hA',hso,hu,hl,hsq⟩,h.sz,h.len,h.own,h.ok,h.ord,h.hel,h.inn,h.rms⟩ (Nat.le_succ _)⟩⟩
def SmpP (work value:Int) (e:Pl.Ev):Prop:=e.kind=1∧e.work=work∧e.value=value∧e.rm=[]∧(0≤work∧work≤7)∧0≤value∧value≤1099511627776
theorem asample_ok (Fs:Nat→Prop) (p:AgP) (c:Cf) (size:Int) (k:Nat) (L es:List Pl.Ev) (work value:Int) (w:World) (h:AgS Fs w p c size k L es) (hk:k≤90) :
  Calls prog 82 #[Qp p.a,.int .i64 work,.int .i64 value] w fun r w'=>∃d1 d2 x,r=.returned (.tuple #[.agg (Qi d1 d2),.int .i64 x])∧Issued Fs w p c size k L es (SmpP work value) x w':=by
 obtain⟨h1,hlt,hcn⟩:=h.alloc (.cells (Qi 0 0) 45)
 have HLT:=zA hlt
 have HI:Hid (Calls prog 148 #[Qp p.a,.agg (Qeh 0 0 0 1 work value)] (w.alloc (.cells (Qi 0 0) 45)) fun r w'=>∃d1 d2 x,r=.returned (.tuple #[.agg (Qi d1 d2),.int .i64 x])∧Issued Fs (w.alloc (.cells (Qi 0 0) 45)) p c size k L es (SmpP work value) x w'):=zA (by
  have hrs:=fun W=>vA c.n 1 work value 0 0 0 0 0 0 0 W hcn
  have hre:Pl.Ev.right {node:=c.n,seq:=1,time:=1,kind:=1,work:=work,value:=value,mn:=0,mx:=0,goal:=0,slack:=0,up:=0,down:=0,cool:=0}=(Pl.inside work 0 7&&Pl.inside value 0 1099511627776):=by
   unfold Pl.Ev.right Pl.Ev.still
   simp[Pl.inside]
  cases hb:(Pl.inside work 0 7&&Pl.inside value 0 1099511627776)with
  | true=>
   simp only[Bool.and_eq_true]at hb
   refine(uV Fs p c size k L es (smpE work value) _ h1 hk (fun s t _ h1 h2 h3 h4=>smp_ok c.n s t work value hcn ⟨h1,h2⟩ ⟨h3,h4⟩ hb.1 hb.2) (fun d hd=>absurd hd (by simp)) (fun W=>(hrs W).mono (by
    rintro r w' ⟨rfl,hb'⟩
    exact⟨by rw[hre,hb.1,hb.2];rfl,hb'⟩)) (fun bs u m own sd W E hA hE=>(stands_smp _ E _ W hE rfl).mono (by
    rintro r w' ⟨rfl,hb'⟩
    exact⟨rfl,none,0,zC hE hb',vE _,Off.of_below hb'⟩))).mono ?_
   rintro r w' ⟨d1,d2,x,rfl,hi⟩
   exact⟨d1,d2,x,rfl,hi.imp (fun e ⟨s,he⟩=>by subst he;exact⟨rfl,rfl,rfl,rfl,tB hb.1,tB hb.2⟩) (fun _=>⟨_,1,rfl⟩)⟩
  | false=>
   refine vN Fs p c size k L es (smpE work value) _ _ h1 (fun ⟨e,he⟩=>?_) (fun W=>(hrs W).mono (by
    rintro r w' ⟨rfl,hb'⟩
    exact⟨by rw[hre,hb],hb'⟩))
   obtain⟨_,_,_,_,h2,h3⟩:=he
   rw[zL h2.1 h2.2,zL h3.1 h3.2]at hb
   exact absurd hb lF)
 clear h h1 hlt hcn hk
 go_enter func82,ntmps82
 go_wp2_with fail
 refine HI.out.mono ?_
 rintro r w2 ⟨d1,d2,x,rfl,hi⟩
 obtain⟨hx2,hz⟩:=hi.dotted HLT.out d1 d2
 have f0:=zB hx2 0
 have f1:=zB hx2 1
 have y0:=cc 0 hx2
 have y1:=cc 1 hx2
 have hd:=zF (j:=1) (zF (j:=0) hx2 (.int .i64 d1)) (.int .i64 d2)
 simp only[List.setIfInBounds_toArray,List.set_cons_zero,List.set_cons_succ]at hd
 have HR:=zA hz
 have HD:=zA hd
 clear hx2 hi hz hd HI
 go_wp2_with fail
 have z0:=cc 0 HD.out
 have z1:=cc 1 HD.out
 exact bodyPost_ret (v:=.tuple #[.agg (Qi d1 d2),.int .i64 x]) (by simp[results,results82,go_sem,z0,z1]) rfl ⟨d1,d2,x,rfl,HR.out⟩
theorem sP (Fs:Nat→Prop) (p:AgP) (c:Cf) (size:Int) (bs:List Int) (used upto:Int) (own:List Pl.Ev) (sd:List (Nat×Nat)) (es:List Pl.Ev) (clock:Int) (w:World) (h:AgAt Fs w p c size bs used upto own sd es clock) :
  Calls prog 40 #[Qp p.a] w fun r w'=>∃v l,r=.returned v∧l.Perm es∧l.Pairwise Pl.EvBefore∧OwnE w.heap.size w' v l∧Below w.heap.size w w':=by
 have HBK:=zA (xT Fs p c size bs 0 0 sd es clock own used upto w h)
 have HE:=zA (vU p.b p.ms p.mh _ es clock w h.go.bk (by have:=h.go.len;omega) h.go.ok h.go.is)
 clear h
 go_enter func40,ntmps40
 go_wp2_with fail
 refine HBK.out.mono ?_
 rintro r w' ⟨rfl,rfl⟩
 go_wp2_with fail
 refine HE.out.mono ?_
 rintro r w1 ⟨v,l,rfl,h1,h2,h3,h4⟩
 have HZ:=zA (And.intro h1 (And.intro h2 (And.intro h3 h4)))
 clear h1 h2 h3 h4
 go_wp2_with fail
 exact bodyPost_ret (v:=v) (by simp[results,results40,go_sem]) rfl ⟨v,l,rfl,HZ.out⟩
theorem beach_last (v a:Value) (f:Nat) (ds:List (Nat×Nat)) (I:Nat→World→Prop) (w:World) (h0:I 0 w) (hl:ds.length≤1000000000) (hD:∀k W,I k W→DotsC W v ds) (hA:∀k W W',I k W→Below W.heap.size W W'→I k W')
  (hcf:∀(x:Value) (W:World),Sem.run prog (callFunc f #[x,a]) W=.ok (.enter f #[x,a]) W)
  (hC:∀k (hk:k<ds.length) W,I k W→Calls prog f #[.agg (Qi (ds[k]).1 (ds[k]).2),a] W fun e w'=>e=.returned (.tuple #[])∧I (k+1) w') :
  Calls prog 279 #[v,.func (.func f) #[] #[a]] w fun e w'=>e=.returned (.tuple #[])∧I ds.length w':=by
 exact oL
theorem stin_ok (P m n s:Nat) (S:List (Nat×Nat)) (w:World) (hP:w.heap[P]?=some (.cells #[.map (some m)] 182 (0,0))) (h:DmAt w m (seenD S)) :
  Calls prog 347 #[.agg (Qi n s),Qp P] w fun r w'=>r=.returned (.tuple #[])∧DmAt w' m (seenD (addD S (n,s)))∧Off (fun g=>g=m) w w':=by
 have b1:=bn w (.cells (Qi n s) 45)
 have hx:=heap_alloc_new w (.cells (Qi n s) 45)
 have c0:=cc 0 (zC hP b1)
 have d0:=cc 0 hx
 have d1:=cc 1 hx
 obtain⟨o,qH,hdm⟩:=dm_see (T:=182) underlying182 (h.below b1) (n,s)
 have qZ:Sem.run prog (Instr.mapUpdate 182 (.map (some m)) (.agg (Qi n s)) (.bool true)) (w.alloc (.cells (Qi n s) 45))=.ok () (setBlk (w.alloc (.cells (Qi n s) 45)) m o):=qH
 have HZ:=zA (And.intro hdm ((Off.of_below (F:=fun g=>g=m) b1).setBlk (b:=m) (.inl rfl) o))
 clear b1 hx qH hdm h hP
 go_enter func347,ntmps347
 go_wp2_with fail
 exact yG results347 ⟨rfl,HZ.out.1,HZ.out.2⟩
def stD (work:Int) (S:List (Nat×Nat)) (e:Pl.Ev):List (Nat×Nat):=if e.kind≠1∧e.work=work then addS S e else S
theorem stwalk_ok (Wk P m:Nat) (work:Int) (S:List (Nat×Nat)) (e:Pl.Ev) (w:World) (hW:w.heap[Wk]?=some (.cells (Qo work) 3 (0,0))) (hP:w.heap[P]?=some (.cells #[.map (some m)] 182 (0,0))) (h:DmAt w m (seenD S)) (he:e.Ok) (hi:Is w e) :
  Calls prog 346 #[evv e,Qp Wk,Qp P] w fun r w'=>r=.returned (.bool true)∧DmAt w' m (seenD (stD work S e))∧Off (fun g=>g=m) w w':=by
 have b1:=bn w (.cells (eva e) 175)
 have hx:=heap_alloc_new w (.cells (eva e) 175)
 have hp:=zC hP b1
 have c0:=cc 0 hp
 have k0:=cc 0 (zC hW b1)
 obtain⟨d0,d1,d2,d3,d4,d5,d6,d7,d8,d9,d10,d11,d12,d13⟩:=c14 hx
 have hm:=h.below b1
 have hmf:∀(fn:Fn) (first cap:Array Value) (w:World),(Instr.makeFunc fn first cap).run prog w=.ok (.func fn first cap) w:=fun _ _ _ _=>rfl
 obtain⟨n,s,hdt,hnm⟩:=he.dot
 have hat:=hdt.key
 have HO:=zA (Off.of_below (F:=fun g=>g=m) b1)
 have HI:=zA (hi.below b1)
 have HP:=zA hp
 have HN:=zA hnm.len
 rcases Classical.em (e.kind=1)with hk | hk
 ·have HZ:=zA (show DmAt _ m (seenD (stD work S e)) by unfold stD;rw[if_neg (fun h=>h.1 hk)];exact hm)
  have hb1:(e.kind != 1)=false:=by simp[hk]
  clear hk
  exact mG
 ·rcases Classical.em (e.work=work)with hw | hw
  ·have HST:=zA (show stD work S e=e.rm.foldl addD (addD S (n,s)) by unfold stD;rw[if_pos ⟨hk,hw⟩];unfold addS;rw[hat])
   obtain⟨o,qH,hdm⟩:=dm_see (T:=182) underlying182 hm (n,s)
   have qZ:Sem.run prog (Instr.mapUpdate 182 (.map (some m)) (.agg (Qi e.node e.seq)) (.bool true)) (w.alloc (.cells (eva e) 175))=.ok () (setBlk (w.alloc (.cells (eva e) 175)) m o):=by rw[hdt.node,hdt.seq];exact qH
   have ho2:=(Off.refl (fun g=>g=m) (w.alloc (.cells (eva e) 175))).setBlk (b:=m) (.inl rfl) o
   have e13:(setBlk (w.alloc (.cells (eva e) 175)) m o).cell? ⟨w.heap.size,13,none⟩=some (.slice e.ro e.rn e.rc):=zE (j:=13) ((zY _ m o (hm.cells_ne hx)).trans hx) rfl
   have hp2:=(zY (w.alloc (.cells (eva e) 175)) m o (hm.cells_ne hp)).trans hp
   have hne:∀(g:Nat) (cs:Array Value) (fr:Nat×Nat),(setBlk (w.alloc (.cells (eva e) 175)) m o).heap[g]?=some (Obj.cells cs 45 fr)→g≠m:=fun g cs fr hg=>hdm.cells_ne hg
   have HI2:=zA (HI.out.keep (w':=setBlk (w.alloc (.cells (eva e) 175)) m o) (fun g cs fr hg=>zY _ m o (hm.cells_ne hg)))
   have HD2:=zA hdm
   have HO2:=zA (HO.out.setBlk (b:=m) (.inl rfl) o)
   have HP2:=zA hp2
   have HKW:=zA (And.intro hk hw)
   have hb1:(e.kind != 1)=true:=by simpa using hk
   have hb2:(e.work == work)=true:=by simpa using hw
   clear hk hw HKW
   clear b1 hx hp hm h hW hP he hi hdt hnm hat qH hdm ho2 hp2 hne HO HI HP
   go_enter func346,ntmps346
   go_wp2_with fail
   clear c0 k0 d0 d1 d2 d3 d4 d5 d6 d7 d8 d9 d10 d11 d12 d13 qZ e13
   generalize setBlk (w.alloc (.cells (eva e) 175)) m o=W at *
   refine(beach_last (.slice e.ro e.rn e.rc) (Qp P) 347 e.rm (fun k W'=>Off (fun g=>g=m) W W'∧DmAt W' m (seenD ((e.rm.take k).foldl addD (addD S (n,s))))) W ⟨Off.refl _ _,HD2.out⟩ (by have:=HN.out;omega)
    (fun k W' hI=>(HI2.out.off hI.1 (fun g cs fr hg hgm=>by rw[show g=m from hgm]at hg;exact HD2.out.cells_ne hg rfl)).toC)
    (fun k W1 W2 hI hb=>⟨hI.1.trans (Off.of_below hb),hI.2.below hb⟩) (fun x W=>by kernel_rfl)
    (fun k hk W' hI=>(stin_ok P m (e.rm[k]).1 (e.rm[k]).2 _ W' ((hI.1.same P (gsi.1 HP2.out).1 (HD2.out.cells_ne HP2.out)).trans HP2.out) hI.2).mono (by
     rintro r w' ⟨rfl,h1,h2⟩
     exact⟨rfl,hI.1.trans h2,by rw[List.take_succ_eq_append_getElem hk,List.foldl_append];exact h1⟩))).mono ?_
   rintro r w2 ⟨rfl,h1,h2⟩
   rw[List.take_length]at h2
   have HZ:=zA (And.intro h2 (HO2.out.trans h1))
   clear h1 h2
   go_wp2_with fail
   exact bodyPost_ret (v:=.bool true) (by simp[results,results346,go_sem]) rfl ⟨rfl,by rw[HST.out];exact HZ.out.1,HZ.out.2⟩
  ·have HZ:=zA (show DmAt _ m (seenD (stD work S e)) by unfold stD;rw[if_neg (fun h=>hw h.2)];exact hm)
   have hb1:(e.kind != 1)=true:=by simpa using hk
   have hb2:(e.work == work)=false:=by simpa using hw
   clear hk hw
   exact mG
theorem mem_stD {work:Int} {S:List (Nat×Nat)} {e:Pl.Ev} {d:Nat×Nat}:d∈stD work S e↔d∈S∨((e.kind≠1∧e.work=work)∧(d=e.at∨d∈e.rm)):=by
 unfold stD
 split
 ·rename_i h;rw[vC];simp[h]
 ·rename_i h;simp only[h,false_and,or_false]
theorem uN {work:Int} {l:List Pl.Ev}:∀{S:List (Nat×Nat)} {d:Nat×Nat},d∈l.foldl (stD work) S↔d∈S∨∃x∈l,(x.kind≠1∧x.work=work)∧(d=x.at∨d∈x.rm):=by
 induction l with
 | nil=>intro S d;simp
 | cons e l ih=>
  intro S d
  rw[List.foldl_cons,ih,mem_stD]
  simp only[List.mem_cons,exists_eq_or_imp,or_assoc]
def stO (work:Int) (es:List Pl.Ev) (n s:Nat):Bool:=decide (∃x∈es,(x.kind≠1∧x.work=work)∧((n,s)=x.at∨(n,s)∈x.rm))
def stRm (work:Int) (es:List Pl.Ev):List (Nat×Nat):=Pl.dots (stO work es)
theorem dm_len {w:World} {m:Nat} {S:List (Nat×Nat)} (h:DmAt w m (seenD S)):Sem.run prog (Builtin.len_ #[182] 3 #[.map (some m)]) w=.ok (.int .i64 S.length) w:=by
 obtain⟨es,k,h1,h2⟩:=h
 have hg:(getObj m).run prog w=.ok (.map es k) w:=by simp[getObj,Sem.run,h1]
 have hs:es.size=S.length:=by
  have:=congrArg List.length h2.fits
  unfold seenD at this
  simpa using this
 simp[Builtin.len_,Builtin.lenOf,hg,hs]
 rfl
theorem Kd45 {w w':World} {m:Nat} {S:List (Nat×Nat)} (h:DmAt w m (seenD S)) (ho:Off (fun g=>g=m) w w'):∀(g:Nat) (cs:Array Value) (fr:Nat×Nat),w.heap[g]?=some (Obj.cells cs 45 fr)→w'.heap[g]?=w.heap[g]?:=fun g cs fr hg=>ho.same g (gsi.1 hg).1 (h.cells_ne hg)
theorem sM (b ms mh:Nat) (work:Int) (l0:List ((Nat×Nat)×Value)) (es:List Pl.Ev) (clock:Int) (w:World) (h:BkC w b ms mh l0 (heldL es) clock) (hes:es.length≤1000) (hok:∀e∈es,e.Ok) (his:∀e∈es,Is w e) (hdl:∀l:List Pl.Ev,l.Perm es→(l.foldl (stD work) []).length≤96) :
  Calls prog 305 #[Qp b,.int .i64 work] w fun r w'=>∃v,r=.returned (.tuple #[v,.int .i64 0])∧OwnR kDot w.heap.size w' v (stRm work es)∧Below w.heap.size w w':=by
 have b1:=bn w (.cells (Qo work) 3)
 have b2:=b1.alloc b1.size (.map #[] 0)
 have b3:=b2.alloc b2.size (.cells #[.map (some (w.heap.size+1))] 182)
 have s1:(w.alloc (.cells (Qo work) 3)).heap.size=w.heap.size+1:=zG _ _
 have hm:=rX (w.alloc (.cells (Qo work) 3))
 rw[s1]at hm
 have s2:((w.alloc (.cells (Qo work) 3)).alloc (.map #[] 0)).heap.size=w.heap.size+2:=by rw[zG,s1]
 have hm3:=hm.below (bn _ (.cells #[.map (some (w.heap.size+1))] 182))
 have hc:=heap_alloc_new ((w.alloc (.cells (Qo work) 3)).alloc (.map #[] 0)) (.cells #[.map (some (w.heap.size+1))] 182)
 rw[s2]at hc
 have hw:=zC (zC (heap_alloc_new w (.cells (Qo work) 3)) (bn _ (.map #[] 0))) (bn _ (.cells #[.map (some (w.heap.size+1))] 182))
 have HM:=zA (show DmAt _ (w.heap.size+1) (seenD [])from hm3)
 have HC:=zA hc
 have HW:=zA hw
 have HB:=zA b3
 have HK:=zA (h.below b3)
 have HI:=zA (fun e he=>(his e he).below b3)
 have HL:=zA h.lt
 have HH:=zA (And.intro hes (And.intro hok hdl))
 have hq:∀w,(binOp BinOp.eql 111 (Qp b) (.pointer none)).run prog w=.ok (.bool false) w:=fun _=>rfl
 have m1:∀w,Sem.run prog (Instr.makeMap 182 none) w=.ok (.map (some w.heap.size)) (w.alloc (.map #[] 0)):=fun _=>by kernel_rfl
 clear b1 b2 b3 hm hm3 hc hw h hes hok his hdl
 go_enter func305,ntmps305
 go_wp2_with fail
 try simp only[s1,s2]
 generalize ((w.alloc (.cells (Qo work) 3)).alloc (.map #[] 0)).alloc (.cells #[.map (some (w.heap.size+1))] 182)=W at *
 refine(sL b ms mh 346 #[Qp w.heap.size,Qp (w.heap.size+2)] l0 es clock (fun l W'=>Off (fun g=>g=w.heap.size+1) W W'∧DmAt W' (w.heap.size+1) (seenD (l.foldl (stD work) []))) W HK.out HH.out.1 HH.out.2.1
  (fun W' h=>⟨Off.of_below h,HM.out.below h⟩) (fun l W1 W2 h1 h2=>⟨h1.1.trans (Off.of_below h2),h1.2.below h2⟩)
  (fun l W1 h1=>HK.out.keep (fun g hg=>h1.1.same g (by obtain⟨x1,x2,x3⟩:=HK.out.lt;rcases hg with rfl | rfl | rfl<;>assumption) (fun e=>by have e':g=w.heap.size+1:=e;have:=HL.out;rcases hg with rfl | rfl | rfl<;>omega)))
  (fun x W=>by kernel_rfl)
  (fun l e W1 he h1 _=>(stwalk_ok w.heap.size (w.heap.size+2) (w.heap.size+1) work _ e W1 ((h1.1.same _ (gsi.1 HW.out).1 (HM.out.cells_ne HW.out)).trans HW.out) ((h1.1.same _ (gsi.1 HC.out).1 (HM.out.cells_ne HC.out)).trans HC.out) h1.2 (HH.out.2.1 e he) ((HI.out e he).keep (Kd45 HM.out h1.1))).mono (by
   rintro r w' ⟨rfl,h2,h3⟩
   exact⟨rfl,⟨h1.1.trans h3,by rw[List.foldl_append];exact h2⟩,Kd45 h1.2 h3⟩))).mono ?_
 rintro r w1 ⟨rfl,l,hp,_,ho,hdm⟩
 have hl96:=HH.out.2.2 l hp
 have hc1:=(ho.same _ (gsi.1 HC.out).1 (HM.out.cells_ne HC.out)).trans HC.out
 have c0:=cc 0 hc1
 have hlen:=dm_len hdm
 have hN:¬(96:Int)<((l.foldl (stD work) []).length:Int):=by omega
 have HB1:=zA (ho.since HB.out (fun g hg=>by have e':g=w.heap.size+1:=hg;omega))
 have HS:=zA (bset_ok (w.heap.size+1) _ w1 hdm (fun p hp'=>by
  obtain⟨d,hd,rfl⟩:=List.mem_map.1 hp'
  rcases uN.1 hd with h | ⟨x,hx,_,h⟩
  ·cases h
  ·obtain⟨n,s,hdt,hnm⟩:=(HH.out.2.1 x (hp.mem_iff.1 hx)).dot
   rcases h with h | h
   ·dsimp only;rw[h,hdt.key];exact⟨hdt.n8,hdt.s1,hdt.s96⟩
   ·exact⟨(hnm.may d h).1,(hnm.may d h).2.1,(hnm.may d h).2.2.1⟩))
 have HE:=zA (fun (O:Nat→Nat→Bool) (hO:∀n s,O n s=true↔∃p∈seenD (l.foldl (stD work) []),p.1=(n,s))=>show O=stO work es from by
  funext n s
  rw[Bool.eq_iff_iff,hO,stO,decide_eq_true_eq]
  constructor
  ·rintro⟨p,hp',e⟩
   obtain⟨d,hd,rfl⟩:=List.mem_map.1 hp'
   have e:d=(n,s):=e
   subst e
   rcases uN.1 hd with h | ⟨x,hx,h1,h2⟩
   ·cases h
   ·exact⟨x,hp.mem_iff.1 hx,h1,h2⟩
  ·rintro⟨x,hx,h1,h2⟩
   exact⟨_,List.mem_map.2 ⟨(n,s),uN.2 (.inr ⟨x,hp.mem_iff.2 hx,h1,h2⟩),rfl⟩,rfl⟩)
 clear hp ho hdm hl96 hc1 HM HC HW HB HK HI HH HL
 generalize (l.foldl (stD work) []).length=N at *
 go_wp2_with fail
 refine HS.out.mono ?_
 rintro r w2 ⟨v,O,U,M,rfl,hs,hO,hb⟩
 obtain rfl:=HE.out O hO
 have HB2:=zA (HB1.out.trans (hb.mono HB1.out.size))
 have HL:=zA (sY v _ U M w2 hs)
 clear hs hO hb HS HE HB1 c0 hlen hN
 go_wp2_with fail
 refine HL.out.mono ?_
 rintro r w3 ⟨v',rfl,⟨ho3,hb⟩,_⟩
 have HB3:=zA (HB2.out.trans (hb.mono HB2.out.size))
 have HO3:=zA (show OwnR kDot w.heap.size w3 v' (stRm work es)from ho3.mono HB2.out.size)
 clear ho3 hb HL
 go_wp2_with fail
 exact bodyPost_ret (v:=.tuple #[v',.int .i64 0]) (by simp[results,results305,go_sem]) rfl ⟨v',rfl,HO3.out,HB3.out⟩
theorem stRm_len {work:Int} {es:List Pl.Ev} {base:Nat} {w:World} {v:Value} (h:OwnR kDot base w v (stRm work es)):∃ro rc,v=.slice ro (stRm work es).length rc∧DotsT w (.slice ro (stRm work es).length rc) (stRm work es):=by
 obtain⟨ro,rc,rfl⟩:=h.toT.form
 exact⟨ro,rc,rfl,wM.2 h.toT⟩
theorem stands_set (Fs:Nat→Prop) (p:AgP) (c:Cf) (size:Int) (bs:List Int) (used upto:Int) (own:List Pl.Ev) (sd:List (Nat×Nat)) (es:List Pl.Ev) (clock:Int) (E:Nat) (work mn mx goal slack up down cool:Int) (w:World) (h:AgAt Fs w p c size bs used upto own sd es clock) (hdl:∀l:List Pl.Ev,l.Perm es→(l.foldl (stD work) []).length≤96)
  (hE:w.heap[E]?=some (.cells (Qe ((c.n:Int)) 1 1 2 work 0 mn mx goal slack up down cool) 175 (0,0))) :
  Calls prog 239 #[Qp p.a,Qp E] w fun r w'=>r=.returned (.tuple #[])∧∃ro rc,w'.heap[E]?=some (.cells (Qy ((c.n:Int)) 1 1 2 work 0 mn mx goal slack up down cool (.slice ro (stRm work es).length rc)) 175 (0,0))∧DotsT w' (.slice ro (stRm work es).length rc) (stRm work es)∧Off (fun x=>x=E) w w':=by
 have HA:=zA h
 have HE:=zA hE
 have HDL:=zA hdl
 have x3:=cc 3 hE
 have x4:=cc 4 hE
 clear h hE hdl
 go_enter func239,ntmps239
 go_wp2_with fail
 clear x3 x4
 refine zD (fun W'=>W'.heap[E]?=some (.cells (Qe ((c.n:Int)) 1 1 2 work 0 mn mx goal slack up down cool) 175 (0,0))) 99 lE HE.out (fun qB=>?_)
 refine tkp 0 9 rfl ?_
 refine tkp 1 10 rfl ?_
 refine tkp 2 11 rfl ?_
 refine tk 3 12 rfl lN ?_
 refine tkp 4 13 rfl ?_
 refine tkp 5 14 rfl ?_
 refine tu 6 15 rfl ?_
 refine tu 7 16 rfl ?_
 refine tu 8 17 rfl ?_
 refine tu 9 18 rfl ?_
 refine tu 10 19 rfl ?_
 refine tu 11 20 rfl ?_
 refine tu 12 21 rfl ?_
 refine tu 13 22 rfl ?_
 refine tu 14 23 rfl ?_
 refine tu 15 24 rfl ?_
 refine tkp 16 25 rfl ?_
 refine wd ?_
 clear qB
 go_wp2_with fail
 refine zD (fun W'=>∃v,W'.heap[E]?=some (.cells #[.int .i64 ((c.n:Int)),.int .i64 1,.int .i64 1,.int .i64 2,.int .i64 work,.int .i64 0,.int .i64 mn,.int .i64 mx,.int .i64 goal,.int .i64 slack,.int .i64 up,.int .i64 down,.int .i64 cool,v] 175 (0,0))) 99 lE ⟨_,HE.out⟩ (fun qB=>?_)
 refine tkp 0 28 rfl ?_
 refine tkp 1 29 rfl ?_
 refine tkp 3 31 rfl ?_
 refine tkp 4 32 rfl ?_
 refine tkp 5 33 rfl ?_
 refine tk 6 34 rfl kM ?_
 refine t1 2 rfl (fun K hK=>?_)
 go_simp
 refine(xT Fs p c size bs 0 0 sd es clock own used upto _ (HA.out.below (Below.refl _ _).drew.drew)).mono ?_
 rintro r w1 ⟨rfl,hw⟩
 subst hw
 refine hK.out _ _ (fun _=>qB) (fun _=>?_)
 clear hK K
 try simp only[pt,List.set]
 refine t1 7 rfl (fun K hK=>?_)
 go_simp
 have hg:=(HA.out.below (Below.refl _ _).drew.drew).go
 refine(sM p.b p.ms p.mh work _ es clock _ hg.bk (by have:=hg.len;omega) hg.ok hg.is HDL.out).mono ?_
 rintro r w2 ⟨v,rfl,hov,hb⟩
 obtain⟨ro,rc,rfl,hdt⟩:=stRm_len hov
 have hb2:=(Below.refl w.heap.size w).drew.drew.trans hb
 have hH2:=zC HE.out hb2
 have HB:=zA hb2
 have HD:=zA hdt
 clear hb hb2 hov hdt hg
 refine hK.out _ _ (fun _=>⟨_,hH2⟩) (fun _=>?_)
 clear hK K
 try simp only[pt,List.set]
 clear qB
 have qB:∃v,w2.heap[E]?=some (.cells #[.int .i64 ((c.n:Int)),.int .i64 1,.int .i64 1,.int .i64 2,.int .i64 work,.int .i64 0,.int .i64 mn,.int .i64 mx,.int .i64 goal,.int .i64 slack,.int .i64 up,.int .i64 down,.int .i64 cool,v] 175 (0,0)):=⟨_,hH2⟩
 refine tkp 8 36 rfl ?_
 refine tkp 9 37 rfl ?_
 refine t1 10 rfl (fun K hK=>?_)
 go_simp
 refine(rB _ _).mono ?_
 rintro r w3 ⟨rfl,hw⟩
 subst hw
 refine hK.out _ _ (fun _=>qB) (fun _=>?_)
 clear hK K
 try simp only[pt,List.set]
 refine tkp 11 39 rfl ?_
 refine tkp 12 40 rfl ?_
 have f13:=zB hH2 13
 have x13:=cc 13 hH2
 have hs:=zF (j:=13) hH2 (.slice ro (stRm work es).length rc)
 simp only[List.setIfInBounds_toArray,List.set_cons_zero,List.set_cons_succ]at hs
 have ho:=(Off.of_below (F:=fun x=>x=E) HB.out).set (a:=⟨E,13,none⟩) (.inl rfl) (.slice ro (stRm work es).length rc)
 have hdz:=HD.out.keep (w':=w2.setCell ⟨E,13,none⟩ (.slice ro (stRm work es).length rc)) (fun g cs fr hg=>Below.heap_setCell _ _ _ _ (fun e=>by rw[show g=E from e,hH2]at hg;exact zH lF hg))
 exact nO
end
end Go.Proofs.YtodlmbfbfaofcaaGreat
