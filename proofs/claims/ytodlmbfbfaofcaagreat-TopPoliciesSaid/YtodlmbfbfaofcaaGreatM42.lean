/- TopPolicies, part 42. -/
import Derived.Test.YtodlmbfbfaofcaaGreatM41
open Go.Proofs.Tryz
namespace Go.Proofs.YtodlmbfbfaofcaaGreat
set_option linter.unusedVariables false
set_option linter.unusedSimpArgs false
set_option maxRecDepth 100000
section
open Go.RowKit Rw Rh
structure RingM (w:World) (W P n wn:Nat) (all:Pl.Al) (x:Nat→AgD) (E:Nat→List Pl.Ev):Prop where
 ag:∀i,i<n→∃cl,(x i).At all w (E i) cl
 cn:∀i,i<n→(x i).c.n=i∧(x i).c.win=wn
 sep:∀i j,i<n→j<n→i≠j→∀g,(x i).all g→¬(x j).all g
 wp:∀i,i<n→∀g,(x i).all g→g≠W∧g≠P
theorem RingM.keep {w w':World} {W P n wn:Nat} {all:Pl.Al} {x:Nat→AgD} {E:Nat→List Pl.Ev} (h:RingM w W P n wn all x E) (hs:w.heap.size≤w'.heap.size) (hk:∀i,i<n→∀g,(x i).all g→w'.heap[g]?=w.heap[g]?) (hd:Kd w w'):RingM w' W P n wn all x E:=
 ⟨fun i hi=>by obtain⟨cl,h1⟩:=h.ag i hi;exact⟨cl,h1.keep hs (hk i hi) hd⟩,h.cn,h.sep,h.wp⟩
theorem RingM.lt {w:World} {W P n wn:Nat} {all:Pl.Al} {x:Nat→AgD} {E:Nat→List Pl.Ev} (h:RingM w W P n wn all x E) {i:Nat} (hi:i<n) {g:Nat} (hg:(x i).all g):g<w.heap.size:=by
 obtain⟨cl,h1⟩:=h.ag i hi;exact h1.lt hg
theorem RingM.below {w w':World} {W P n wn:Nat} {all:Pl.Al} {x:Nat→AgD} {E:Nat→List Pl.Ev} (h:RingM w W P n wn all x E) (hb:Below w.heap.size w w'):RingM w' W P n wn all x E:=h.keep hb.size (fun i hi g hg=>hb.block g (h.lt hi hg)) (Kd.of_below hb)
def absE (E:Nat→List Pl.Ev):Nat→List Pl.Ev:=fun i=>(E i).map Pl.Ev.abs
def ringAl (L E:Nat→List Pl.Ev) (n:Nat):Pl.Al:=⟨Pl.flatE (absE E) n,(Pl.flatE L n).map Pl.Ev.at⟩
theorem Pl.Ev.Ok.abs {e:Pl.Ev} (h:e.Ok):e.abs.Ok:=h.mv none 0
theorem in_ds {n:Nat} {L E:Nat→List Pl.Ev} {i:Nat} (hi:i<n) {e:Pl.Ev} (he:e∈L i):e.at∈(ringAl L E n).ds:=List.mem_map.2 ⟨e,Pl.mem_flatE.2 ⟨i,hi,he⟩,rfl⟩
section
variable {w:World} {W P n:Nat} {size:Int} {k wn:Nat} {F:Nat→Nat→Prop} {p:Nat→AgP} {c:Nat→Cf} {L E:Nat→List Pl.Ev} (h:Ring w W P n size k wn F p c L E)
include h
theorem Ring.held {i:Nat} (hi:i<n) {e:Pl.Ev} (he:e∈absE E i):∃y∈L i,e=y.abs:=by
 obtain⟨x,hx,rfl⟩:=List.mem_map.1 he
 obtain⟨y,hy,e⟩:=(h.ag i hi).inn x hx
 exact⟨y,hy,e⟩
theorem Ring.facts:∀i,i<n→(L i).Pairwise (fun a b=>a.seq<b.seq)∧∀e∈L i,e.node=(i:Int)∧0≤e.seq:=fun i hi=>
 ⟨(h.ag i hi).ord,fun e he=>⟨by rw[(h.ag i hi).own e he,(h.cn i hi).1],by
  obtain⟨n,s,hd,_⟩:=((h.ag i hi).ok e he).dot
  rw[hd.seq];omega⟩⟩
theorem Ring.node {i:Nat} (hi:i<n) {e:Pl.Ev} (he:e∈L i):e.at.1=i:=by
 have h1:=((h.facts i hi).2 e he).1
 unfold Pl.Ev.at
 rw[h1];simp
theorem Ring.mine {i j:Nat} (hi:i<n) (hj:j<n) {e f:Pl.Ev} (he:e∈L i) (hf:f∈L j) (hef:e.at=f.at):i=j:=by
 have h1:=h.node hi he
 have h2:=h.node hj hf
 rw[hef]at h1
 omega
theorem Ring.toM:∃x,(∀i,i<n→(x i).p=p i∧∀g,(x i).all g→F i g∨(p i).has g)∧RingM w W P n wn (ringAl L E n) x (absE E):=by
 have h1:∀i,∃y:AgD,i<n→(y.p=p i∧y.c=c i∧y.F=F i)∧∃cl,y.At (ringAl L E n) w (absE E i) cl:=fun i=>by
  by_cases hi:i<n
  ·obtain⟨bs,u,m,own,sd,h2,_,_,_,_,hsd⟩:=(h.ag i hi).st
   refine⟨⟨p i,c i,F i,size,bs,u,m,own⟩,fun _=>⟨⟨rfl,rfl,rfl⟩,_,E i,sd,rfl,⟨fun e he=>?_,fun d hd=>?_⟩,h2⟩⟩
   ·obtain⟨j,hj,he'⟩:=Pl.mem_flatE.1 he
    obtain⟨y,hy,rfl⟩:=h.held hj he'
    constructor
    ·intro hs
     obtain⟨z,hz,e2⟩:=(hsd _).1 hs
     cases h.mine hi hj hz hy e2
     exact he'
    ·intro hE
     obtain⟨z,hz,e2⟩:=h.held hi hE
     rw[e2]
     exact(hsd _).2 ⟨z,hz,rfl⟩
   ·obtain⟨z,hz,rfl⟩:=(hsd _).1 hd
    exact in_ds hi hz
  ·exact⟨⟨p i,c i,F i,size,[],0,0,[]⟩,fun hi'=>absurd hi' hi⟩
 obtain⟨x,hx⟩:=Classical.skolem.1 h1
 have he:∀i,i<n→∀g,(x i).all g↔(F i g∨(p i).has g):=fun i hi g=>by
  obtain⟨e1,_,e3⟩:=(hx i hi).1
  unfold AgD.all
  rw[e1,e3]
 refine⟨x,fun i hi=>⟨(hx i hi).1.1,fun g hg=>(he i hi g).1 hg⟩,fun i hi=>(hx i hi).2,fun i hi=>by rw[(hx i hi).1.2.1];exact h.cn i hi,fun i j hi hj hij g hg hg'=>h.sep i j hi hj hij g ((he i hi g).1 hg) ((he j hj g).1 hg'),fun i hi g hg=>h.wp i hi g ((he i hi g).1 hg)⟩
theorem Ring.lot (h1:∀i,i<n→(E i).length≤1) (hn:n≤8) (hl:(Pl.flatE L n).length≤80):Pl.Lot (ringAl L E n)∧∀i,i<n→Pl.Subs (ringAl L E n) (absE E i):=by
 have hone:∀i,i<n→(absE E i).Pairwise (fun a b=>a.seq<b.seq)∧∀e∈absE E i,e.node=(i:Int)∧0≤e.seq:=fun i hi=>by
  refine⟨?_,fun e he=>?_⟩
  ·have h2:(absE E i).length≤1:=by unfold absE;rw[List.length_map];exact h1 i hi
   exact Pl.one_pw h2
  ·obtain⟨y,hy,rfl⟩:=h.held hi he
   exact(h.facts i hi).2 y hy
 have hok:∀e∈Pl.flatE (absE E) n,e.Ok:=fun e he=>by
  obtain⟨i,hi,he'⟩:=Pl.mem_flatE.1 he
  obtain⟨y,hy,rfl⟩:=h.held hi he'
  exact((h.ag i hi).ok y hy).abs
 have hlen:∀m,m≤n→(Pl.flatE (absE E) m).length≤m:=fun m=>by
  induction m with
  | zero=>intro _;exact Nat.le_refl _
  | succ m ih=>
   intro hm
   have h2:=ih lD
   have h3:(absE E m).length≤1:=by unfold absE;rw[List.length_map];exact h1 m lD
   rw[Pl.flatE_succ,List.length_append]
   omega
 have hlen:=hlen n (Nat.le_refl _)
 refine⟨⟨Pl.flatE_nodup n hone,by show(Pl.flatE (absE E) n).length≤80;omega,?_,hok,Pl.flatE_nodup n h.facts,by show((Pl.flatE L n).map Pl.Ev.at).length≤80;rw[List.length_map];exact hl,fun e he=>?_,fun e he d hd=>?_⟩,fun i hi=>⟨?_,fun e he=>Pl.mem_flatE.2 ⟨i,hi,he⟩⟩⟩
 ·have h2:=Pl.codes_len _ hok
  show(Pl.codes (Pl.flatE (absE E) n)).length≤3000
  omega
 ·obtain⟨i,hi,he'⟩:=Pl.mem_flatE.1 he
  obtain⟨y,hy,rfl⟩:=h.held hi he'
  exact in_ds (e:=y) hi hy
 ·obtain⟨i,hi,he'⟩:=Pl.mem_flatE.1 he
  obtain⟨y,hy,rfl⟩:=h.held hi he'
  obtain⟨z,hz,rfl⟩:=(h.ag i hi).rms y hy d hd
  refine⟨in_ds hi hz,fun f hf e2=>?_⟩
  obtain⟨j,hj,hf'⟩:=Pl.mem_flatE.1 hf
  obtain⟨v,hv,rfl⟩:=h.held hj hf'
  cases h.mine hj hi hv hz e2
  have h2:(absE E i).length≤1:=by unfold absE;rw[List.length_map];exact h1 i hi
  have h3:v.abs=y.abs:=Pl.one_eq h2 hf' he'
  have h4:y.at=z.at:=(congrArg Pl.Ev.at h3).symm.trans e2
  obtain⟨n',s',hd',hN⟩:=((h.ag i hi).ok y hy).dot
  exact(hN.may _ hd).2.2.2 (h4.symm.trans hd'.key)
 ·refine List.pairwise_map.2 ((List.Pairwise.and_mem.1 (hone i hi).1).imp (fun {a b} hab e=>?_))
  obtain⟨ha,hb,hlt⟩:=hab
  have h3:=((hone i hi).2 a ha).2
  have h4:a.seq.toNat=b.seq.toNat:=congrArg Prod.snd e
  omega
end
theorem meet_self {w:World} {W P:Nat} {wc:Wc} {d r:Nat→Value} (h:WdAt w W P wc d r) (a pa:Nat) (ha:a<wc.n) (hr:r a=.pointer (some ⟨pa,0,none⟩)) (C q0 q1 q2 q3 q4 q5 q6:Int) :
  Calls prog 8 #[Qp W,.agg (Qk 15 (a:Int) (a:Int) C q0 q1 q2 q3 q4 q5 q6)] w fun x w'=>(∃e:Int,x=.returned (.int .i64 e))∧Below w.heap.size w w':=by
 refine(do_k 15 34 (.inr (.inr (.inr ⟨rfl,rfl⟩))) W a a C q0 q1 q2 q3 q4 q5 q6 (fun _=>False) (fun w1=>Below w.heap.size w w1) w (fun W' hb hs=>(wmeet_same W P wc d r a C q0 q1 q2 q3 q4 q5 q6 pa W' (h.below hb) ha hr).mono ?_)).mono ?_
 ·rintro x w1 ⟨rfl,hb2⟩
  exact lB
 ·rintro x w' ⟨w1,ho,_,⟨_,hf⟩ | ⟨e,he,rfl,hb⟩⟩
  ·exact hf.elim
  ·exact⟨⟨e,rfl⟩,ho.two hb (fun g e=>by have e':g=w.heap.size+1:=e;omega)⟩
theorem RingM.meet {w:World} {W P:Nat} {wc:Wc} {d r:Nat→Value} {wn:Nat} {all:Pl.Al} {x:Nat→AgD} {E:Nat→List Pl.Ev} (h:WdAt w W P wc d r) (hr:∀i,i<wc.n→r i=.pointer (some ⟨(x i).p.a,0,none⟩)) (hR:RingM w W P wc.n wn all x E) (hl:Pl.Lot all) (hp:∀i,i<wc.n→Pl.Subs all (E i)) {a b:Nat} (ha:a<wc.n) (hb:b<wc.n) (hab:a≠b) (C q0 q1 q2 q3 q4 q5 q6:Int) :
  Calls prog 8 #[Qp W,.agg (Qk 15 (a:Int) (b:Int) C q0 q1 q2 q3 q4 q5 q6)] w fun e w'=>e=.returned (.int .i64 0)∧Off (fun g=>∃i,i<wc.n∧(x i).all g) w w'∧WdAt w' W P wc d r∧∃E',RingM w' W P wc.n wn all x E'∧Pl.Both E E' wc.n a b all:=by
 have hca:=(hR.cn a ha).1
 have hcb:=(hR.cn b hb).1
 have hbk:∀g,((x a).bk g∨(x b).bk g)→∃i,i<wc.n∧(x i).all g:=fun g hg=>hg.elim (fun h=>⟨a,ha,AgD.bk_all h⟩) (fun h=>⟨b,hb,AgD.bk_all h⟩)
 refine(do_k 15 34 (.inr (.inr (.inr ⟨rfl,rfl⟩))) W a b C q0 q1 q2 q3 q4 q5 q6 (fun w1=>Off (fun g=>(x a).bk g∨(x b).bk g) w w1∧∃Ea Eb ca cb,(x a).At all w1 Ea ca∧(x b).At all w1 Eb cb∧(Pl.Subs all Ea∧∀e,e∈Ea↔e∈E a∨e∈E b)∧Pl.Subs all Eb∧∀e,e∈Eb↔e∈E a∨e∈E b) (fun _=>False) w (fun W' hw hs=>?_)).mono ?_
 ·have hR':=hR.below hw
  have hm:=wmeet_ok W P wc d r C q0 q1 q2 q3 q4 q5 q6 all (x a) (x b) (E a) (E b) W' (h.below hw) (by rw[hca];exact ha) (by rw[hcb];exact hb) (by rw[hca];exact hr a ha) (by rw[hcb];exact hr b hb) ⟨⟨fun g hg=>hR'.lt ha hg,fun g hg=>hR'.lt hb hg⟩,hR.sep a b ha hb hab,by rw[hca,hcb];exact hab,hl,hp a ha,hp b hb⟩ (hR'.ag a ha) (hR'.ag b hb) (fun g hg=>hg.elim (hR.wp a ha g) (hR.wp b hb g))
  rw[hca,hcb]at hm
  refine hm.mono ?_
  rintro e w1 ⟨rfl,ho,hx⟩
  refine⟨⟨ho.size,fun g h1 h2=>ho.same g lD (fun hf=>?_)⟩,.inl ⟨rfl,ho.after hw (fun g _ h=>h),hx⟩⟩
  obtain⟨i,hi,hg⟩:=hbk g hf
  have:=hR.lt hi hg
  omega
 ·rintro e w' ⟨w1,ho,hkd,⟨rfl,ho1,Ea,Eb,ca,cb,hxa,hxb,hpa,hpb⟩ | ⟨_,_,_,hf⟩⟩
  ·have hk1:Kd w w1:=Kd.off ho1 (fun g cs fr hg hd=>by
    rcases hd with hd | hd
    ·obtain⟨cl,er,sd,_,_,h4⟩:=hR.ag a ha;exact h4.no45 hg (AgD.bk_all hd)
    ·obtain⟨cl,er,sd,_,_,h4⟩:=hR.ag b hb;exact h4.no45 hg (AgD.bk_all hd))
   have hlt:∀i,i<wc.n→∀g,(x i).all g→w'.heap[g]?=w1.heap[g]?:=fun i hi g hg=>ho.same g (Nat.lt_of_lt_of_le (hR.lt hi hg) ho1.size) (fun e=>by have e':g=w.heap.size+1:=e;have:=hR.lt hi hg;omega)
   have ho2:Off (fun g=>∃i,i<wc.n∧(x i).all g) w w':=(ho1.mono (fun g _=>hbk g)).comp ho (fun g hg e=>by have e':g=w.heap.size+1:=e;omega)
   refine⟨rfl,ho2,h.off ho2 (fun g ⟨i,hi,hg⟩=>hR.wp i hi g hg),put1 (put1 E a Ea) b Eb,⟨fun i hi=>?_,hR.cn,hR.sep,hR.wp⟩,fun i h1 h2=>by rw[zO _ _ h2,zO _ _ h1],?_,?_⟩
   ·by_cases hib:i=b
    ·subst hib;rw[zQ];exact⟨cb,hxb.keep ho.size (hlt i hi) hkd⟩
    rw[zO _ _ hib]
    by_cases hia:i=a
    ·subst hia;rw[zQ];exact⟨ca,hxa.keep ho.size (hlt i hi) hkd⟩
    rw[zO _ _ hia]
    obtain⟨cl,h1⟩:=hR.ag i hi
    refine⟨cl,h1.keep ho2.size (fun g hg=>(hlt i hi g hg).trans (ho1.same g (hR.lt hi hg) (fun hf=>?_))) (hk1.trans hkd)⟩
    rcases hf with hf | hf
    ·exact hR.sep i a hi ha hia g hg (AgD.bk_all hf)
    ·exact hR.sep i b hi hb hib g hg (AgD.bk_all hf)
   ·rw[zO _ _ hab,zQ];exact hpa
   ·rw[zQ];exact hpb
  ·exact hf.elim
end
section
open Go.RowKit Rw Rh
theorem wW {x y:Pl.Ev} (h:x.abs=y.abs):x.node=y.node∧x.seq=y.seq∧x.time=y.time∧x.kind=y.kind∧x.work=y.work∧x.mn=y.mn∧x.mx=y.mx∧x.goal=y.goal∧x.slack=y.slack∧x.up=y.up∧x.down=y.down∧x.cool=y.cool:=by
 simp only[Pl.Ev.abs,Pl.Ev.mv,Pl.Ev.mk.injEq]at h
 obtain⟨h1,h2,h3,h4,h5,_,h6,h7,h8,h9,h10,h11,h12,_⟩:=h
 exact⟨h1,h2,h3,h4,h5,h6,h7,h8,h9,h10,h11,h12⟩
namespace Pl
def lastL (l:List Ev):List Ev:=l.getLast?.toList
theorem lastL_snoc (l:List Ev) (e:Ev):lastL (l++[e])=[e]:=by unfold lastL;simp
theorem lastL_len (l:List Ev):(lastL l).length≤1:=by unfold lastL;cases l.getLast?<;>simp
theorem mem_lastL {l:List Ev} {e:Ev} (h:e∈lastL l):e∈l:=by
 unfold lastL at h
 rw[Option.mem_toList]at h
 exact List.mem_of_getLast? h
theorem pair_perm {α:Type} {a b u v:α} (h:[u,v].Perm [a,b]):(u=a∧v=b)∨(u=b∧v=a):=by
 have hu:=h.mem_iff.1 (List.mem_cons_self)
 rcases List.mem_cons.1 hu with rfl | hu
 ·have h2:=(List.perm_cons u).1 h
  exact .inl ⟨rfl,List.mem_singleton.1 (h2.mem_iff.1 (List.mem_singleton.2 rfl))⟩
 ·have e:=List.mem_singleton.1 hu
  subst e
  have h2:=(List.perm_cons u).1 (h.trans (List.Perm.swap _ _ _))
  exact .inr ⟨rfl,List.mem_singleton.1 (h2.mem_iff.1 (List.mem_singleton.2 rfl))⟩
theorem two_of {α:Type} {l:List α} (h:l.length=2):∃u v,l=[u,v]:=by
 match l,h with
 | [u,v],_=>exact⟨u,v,rfl⟩
theorem pair_abs {l:List Ev} {a b:Ev} (hp:(l.map Ev.abs).Perm [a,b]):∃u v,l=[u,v]∧((u.abs=a∧v.abs=b)∨(u.abs=b∧v.abs=a)):=by
 have hl:=hp.length_eq
 rw[List.length_map]at hl
 obtain⟨u,v,rfl⟩:=two_of hl
 exact⟨u,v,rfl,pair_perm hp⟩
theorem load_one {l:List Ev} {b:Ev} (hl:∀node:Int,smps l 2 node=if node=1 then[b]else[]) (hb:b.value=42):loadOf l 2 2 8=(42,1):=by
 have h1:hasOf [b]=true:=by rfl
 have h0:hasOf ([]:List Ev)=false:=by rfl
 have h42:add 0 42=42:=by decide
 have hm:meanOf [b]=42:=by
  unfold meanOf sumOf
  rw[List.foldl_cons,List.foldl_nil,hb,h42]
  show ceilQ 42 ((1:Nat):Int)=42
  decide
 have hs:∀(a:Int×Nat) (node:Nat),loadStep l 2 2 a node=if node=1 then(add a.1 42,a.2+1)else a:=fun a node=>by
  unfold loadStep lastOf
  rw[hl]
  by_cases hn:node=1
  ·subst hn
   rw[if_pos (show((1:Nat):Int)=1 from rfl),if_pos rfl,show[b].take 2=[b]from rfl,hm,h1]
   rfl
  ·rw[if_neg (show ¬(node:Int)=1 by omega),if_neg hn,show([]:List Ev).take 2=[]from rfl,h0]
   rfl
 unfold loadOf
 rw[show List.range 8=[0,1,2,3,4,5,6,7]from rfl]
 simp only[List.foldl_cons,List.foldl_nil,hs]
 show(add 0 42,0+1)=_
 rw[h42]
theorem load_two {l:List Ev} {a b:Ev} (hp:(l.map Ev.abs).Perm [a,b]) (ha:a.kind=2) (hb:b.kind=1∧b.work=2∧b.value=42∧b.node=1):loadOf l 2 2 8=(42,1):=by
 have key:∀(u v:Ev),u.abs=a→v.abs=b→u.kind=2∧v.kind=1∧v.work=2∧v.value=42∧v.node=1:=fun u v hu hv=>by
  subst hu;subst hv;exact⟨ha,hb⟩
 obtain⟨u,v,rfl,⟨h1,h2⟩ | ⟨h1,h2⟩⟩:=pair_abs hp
 ·obtain⟨k1,k2,k3,k4,k5⟩:=key u v h1 h2
  refine load_one (b:=v) (fun node=>?_) k4
  exact mS
 ·obtain⟨k1,k2,k3,k4,k5⟩:=key v u h2 h1
  refine load_one (b:=u) (fun node=>?_) k4
  exact mS
end Pl
def Words (l es:List Pl.Ev):Prop:=Same es (Pl.lastL l)∧(∀e∈l,e.kind≠1∧e.work=0)∧∀e∈Pl.lastL l,e.time=(l.length:Int)
theorem Words.nil:Words [] []:=⟨rfl,fun e he=>(by cases he),fun e he=>(by cases he)⟩
theorem Words.len {l es:List Pl.Ev} (h:Words l es):es.length≤1:=by rw[h.1.len];exact Pl.lastL_len l
theorem Words.step {l es:List Pl.Ev} {ev eh:Pl.Ev} (h:Words l es) (hok:∀e∈es,e.Ok) (hk:ev.kind≠1∧ev.work=0) (ht:ev.time=((l.length+1:Nat):Int)) (hrm:ev.rm=stRm 0 es) (hab:eh.abs=ev.abs):Words (l++[ev]) (addE es ev eh):=by
 have h0:addE es ev eh=[eh]:=by
  unfold addE
  rw[show outE (ev.at::ev.rm) es=[]from List.filter_eq_nil_iff.2 fun x hx hc=>?_]
  ·rfl
  obtain⟨y,hy,e⟩:∃y∈l,x.abs=y.abs:=by
   have h1:x.abs∈es.map Pl.Ev.abs:=List.mem_map.2 ⟨x,hx,rfl⟩
   rw[show es.map Pl.Ev.abs=_ from h.1]at h1
   obtain⟨y,hy,e⟩:=List.mem_map.1 h1
   exact⟨y,Pl.mem_lastL hy,e.symm⟩
  have hy:=h.2.1 y hy
  obtain⟨_,_,_,e1,e2,_⟩:=wW e
  have h3:x.at∈stRm 0 es:=(mem_stRm 0 hok _).2 ⟨x,hx,⟨by rw[e1];exact hy.1,by rw[e2];exact hy.2⟩,.inl rfl⟩
  rw[←hrm]at h3
  simp[h3]at hc
 rw[h0]
 refine⟨?_,fun e he=>?_,fun e he=>?_⟩
 ·unfold Same
  rw[Pl.lastL_snoc]
  exact congrArg (fun z=>[z]) hab
 ·rcases List.mem_append.1 he with h1 | h1
  ·exact h.2.1 e h1
  ·cases List.mem_singleton.1 h1;exact hk
 ·rw[Pl.lastL_snoc]at he
  cases List.mem_singleton.1 he
  rw[ht,List.length_append]
  rfl
def Word (l:List Pl.Ev) (o:Nat→Int):Prop:=(o 0=10→∃e∈Pl.lastL l,e.kind=2∧e.mn=o 4∧e.mx=o 5∧e.goal=o 6∧e.slack=o 7∧e.up=o 8∧e.down=o 9∧e.cool=o 10)∧(o 0≠10→∀e∈Pl.lastL l,e.kind≠2)
def Best (n:Nat) (L:Nat→List Pl.Ev) (O:Nat→Nat→Int) (b:Nat):Prop:=b<n∧O b 0=10∧∀i,i<n→O i 0=10→(L i).length<(L b).length∨((L i).length=(L b).length∧i≤b)
theorem Best.one {n:Nat} {L:Nat→List Pl.Ev} {O:Nat→Nat→Int} {a b:Nat} (ha:Best n L O a) (hb:Best n L O b):a=b:=by
 have h1:=ha.2.2 b hb.1 hb.2.1
 have h2:=hb.2.2 a ha.1 ha.2.1
 omega
theorem best_of {n:Nat} {L E:Nat→List Pl.Ev} {O:Nat→Nat→Int} (hn:n≤8) (hW:∀i,i<n→Words (L i) (E i)) (hO:∀i,i<n→Word (L i) (O i)) (qC:∀i,i<n→∀e∈L i,e.node=(i:Int)∧1≤e.seq∧e.seq≤96) {l:List Pl.Ev} (hp:(l.map Pl.Ev.abs).Perm (Pl.flatE (fun i=>(E i).map Pl.Ev.abs) n)) :
  (Pl.sets l 0=[]→∀i,i<n→O i 0≠10)∧((∀i,i<n→O i 0≠10)→Pl.sets l 0=[])∧∀e∈Pl.sets l 0,(∀y∈Pl.sets l 0,y.key≤e.key)→∃b,Best n L O b∧e.node=(b:Int)∧e.mn=O b 4∧e.mx=O b 5∧e.goal=O b 6∧e.slack=O b 7∧e.up=O b 8∧e.down=O b 9∧e.cool=O b 10:=by
 have hfl:∀z:Pl.Ev,(∃e∈l,e.abs=z)↔∃i,i<n∧∃y∈Pl.lastL (L i),y.abs=z:=fun z=>by
  rw[show(∃e∈l,e.abs=z)↔z∈l.map Pl.Ev.abs from List.mem_map.symm,hp.mem_iff,Pl.mem_flatE]
  constructor
  ·rintro⟨i,hi,hz⟩
   rw[show(E i).map Pl.Ev.abs=_ from(hW i hi).1]at hz
   exact⟨i,hi,List.mem_map.1 hz⟩
  ·rintro⟨i,hi,hz⟩
   refine⟨i,hi,?_⟩
   rw[show(E i).map Pl.Ev.abs=_ from(hW i hi).1]
   exact List.mem_map.2 hz
 have qQ:∀e,e∈Pl.sets l 0↔e∈l∧e.kind=2∧e.work=0:=fun e=>by
  unfold Pl.sets
  rw[List.mem_filter]
  simp
 have hin:∀e∈Pl.sets l 0,∃i,i<n∧O i 0=10∧∃y∈Pl.lastL (L i),y.abs=e.abs:=fun e he=>by
  obtain⟨h1,h2,h3⟩:=(qQ e).1 he
  obtain⟨i,hi,y,hy,e2⟩:=(hfl e.abs).1 ⟨e,h1,rfl⟩
  refine⟨i,hi,?_,y,hy,e2⟩
  rcases Int.decEq (O i 0) 10 with hd | hd
  ·exact absurd ((wW e2).2.2.2.1.trans h2) ((hO i hi).2 hd y hy)
  ·exact hd
 have hout:∀i,i<n→O i 0=10→∃e∈Pl.sets l 0,∃y∈Pl.lastL (L i),e.abs=y.abs:=fun i hi h10=>by
  obtain⟨y,hy,hk,_⟩:=(hO i hi).1 h10
  obtain⟨e,he,e2⟩:=(hfl y.abs).2 ⟨i,hi,y,hy,rfl⟩
  refine⟨e,(qQ e).2 ⟨he,(wW e2).2.2.2.1.trans hk,(wW e2).2.2.2.2.1.trans ((hW i hi).2.1 y (Pl.mem_lastL hy)).2⟩,y,hy,e2⟩
 refine⟨fun h i hi h10=>?_,fun h=>?_,fun e he hmax=>?_⟩
 ·obtain⟨e,he,_⟩:=hout i hi h10
  rw[h]at he
  cases he
 ·refine List.eq_nil_iff_forall_not_mem.2 fun e he=>?_
  obtain⟨i,hi,h10,_⟩:=hin e he
  exact h i hi h10
 ·obtain⟨b,hb,h10,y,hy,e2⟩:=hin e he
  have hky:∀{x z:Pl.Ev},x.abs=z.abs→x.key=z.key:=fun {x z} h=>by
   obtain⟨h1,h2,h3,_⟩:=wW h
   unfold Pl.Ev.key
   rw[h1,h2,h3]
  have hkk:∀i,i<n→∀x∈Pl.lastL (L i),x.key=((L i).length:Int)*1000+(i:Int)*100+x.seq∧1≤x.seq∧x.seq≤96:=fun i hi x hx=>by
   have h1:=qC i hi x (Pl.mem_lastL hx)
   have h2:=(hW i hi).2.2 x hx
   unfold Pl.Ev.key
   rw[h2,h1.1]
   exact⟨rfl,h1.2⟩
  obtain⟨z,hz,_,z1,z2,z3,z4,z5,z6,z7⟩:=(hO b hb).1 h10
  have hyz:y=z:=Pl.one_eq (Pl.lastL_len (L b)) hy hz
  subst hyz
  obtain⟨g1,_,_,_,_,g2,g3,g4,g5,g6,g7,g8⟩:=wW e2
  refine⟨b,⟨hb,h10,fun i hi hi10=>?_⟩,g1.symm.trans (qC b hb y (Pl.mem_lastL hy)).1,g2.symm.trans z1,g3.symm.trans z2,g4.symm.trans z3,g5.symm.trans z4,g6.symm.trans z5,g7.symm.trans z6,g8.symm.trans z7⟩
  obtain⟨f,hf,x,hx,e3⟩:=hout i hi hi10
  have h1:=hmax f hf
  have h2:=hkk i hi x hx
  have h3:=hkk b hb y hy
  have h4:=hky e3
  have h5:=hky e2
  omega
end
section
open Go.RowKit Rw Rh
def ObAt (w:World) (X:Nat) (O:Nat→Nat→Int):Prop:=∃cs,w.heap[X]?=some (.cells cs 53 (0,0))∧∀i,i<8→∀j,j<11→cs[i*11+j]?=some (.int .i64 (O i j))
def TbAt (w:World) (Y:Nat) (T:Nat→Int):Prop:=∃cs,w.heap[Y]?=some (.cells cs 54 (0,0))∧∀i,i<8→cs[i]?=some (.int .i64 (T i))
theorem ObAt.keep {w w':World} {X:Nat} {O:Nat→Nat→Int} (h:ObAt w X O) (k:w'.heap[X]?=w.heap[X]?):ObAt w' X O:=by
 obtain⟨cs,h1,h2⟩:=h
 exact⟨cs,k.trans h1,h2⟩
theorem TbAt.keep {w w':World} {Y:Nat} {T:Nat→Int} (h:TbAt w Y T) (k:w'.heap[Y]?=w.heap[Y]?):TbAt w' Y T:=by
 obtain⟨cs,h1,h2⟩:=h
 exact⟨cs,k.trans h1,h2⟩
theorem ObAt.there {w:World} {X:Nat} {O:Nat→Nat→Int} (h:ObAt w X O) {a:Nat} (ha:a<8):w.there X (a*11) 11:=fun j hj=>by
 obtain⟨cs,h1,h2⟩:=h
 exact⟨by rw[zE h1 (h2 a ha j hj)];rfl,zB h1 _⟩
theorem ObAt.put {w:World} {X:Nat} {O:Nat→Nat→Int} (h:ObAt w X O) {a:Nat} (ha:a<8) (o:Nat→Int):ObAt (w.setCells X (a*11) [.int .i64 (o 0),.int .i64 (o 1),.int .i64 (o 2),.int .i64 (o 3),.int .i64 (o 4),.int .i64 (o 5),.int .i64 (o 6),.int .i64 (o 7),.int .i64 (o 8),.int .i64 (o 9),.int .i64 (o 10)]) X (put1 O a o):=by
 have ht:=h.there ha
 obtain⟨cs,h1,h2⟩:=h
 obtain⟨cs',k1,k2,k3⟩:=wG [.int .i64 (o 0),.int .i64 (o 1),.int .i64 (o 2),.int .i64 (o 3),.int .i64 (o 4),.int .i64 (o 5),.int .i64 (o 6),.int .i64 (o 7),.int .i64 (o 8),.int .i64 (o 9),.int .i64 (o 10)] (a*11) w cs h1
 refine⟨cs',k1,fun i hi j hj=>?_⟩
 rw[←k3]
 by_cases hia:i=a
 ·subst hia
  rw[zQ]
  refine World.rangeAt_setCells_same w X (i*11) [.int .i64 (o 0),.int .i64 (o 1),.int .i64 (o 2),.int .i64 (o 3),.int .i64 (o 4),.int .i64 (o 5),.int .i64 (o 6),.int .i64 (o 7),.int .i64 (o 8),.int .i64 (o 9),.int .i64 (o 10)] ht j _ ?_
  match j,hj with
  | 0,_=>rfl
  | 1,_=>rfl
  | 2,_=>rfl
  | 3,_=>rfl
  | 4,_=>rfl
  | 5,_=>rfl
  | 6,_=>rfl
  | 7,_=>rfl
  | 8,_=>rfl
  | 9,_=>rfl
  | 10,_=>rfl
 ·rw[zO _ _ hia,World.cell?_setCells_out X _ _ w ⟨X,i*11+j,none⟩ (fun _ _=>by
   show i*11+j<a*11∨a*11+11≤i*11+j
   omega)]
  exact zE h1 (h2 i hi j hj)
theorem TbAt.put {w:World} {Y:Nat} {T:Nat→Int} (h:TbAt w Y T) (a:Nat) (ha:a<8) (t:Int):TbAt (w.setCell ⟨Y,a,none⟩ (.int .i64 t)) Y (put1 T a t):=by
 obtain⟨cs,h1,h2⟩:=h
 refine⟨_,zF (j:=a) h1 (.int .i64 t),fun i hi=>?_⟩
 have hsz:a<cs.size:=(gsi.1 (h2 a ha)).1
 by_cases hia:i=a
 ·subst hia
  rw[zQ,Array.getElem?_setIfInBounds_self,if_pos hsz]
 ·rw[zO _ _ hia,Array.getElem?_setIfInBounds_ne (by omega)]
  exact h2 i hi
structure Lasts (w:World) (X:Nat) (M:Nat→List Pl.Ev) (O:Nat→Nat→Int):Prop where
 ob:ObAt w X O
 tb:TbAt w (X+1) (fun i=>((M i).length:Int))
theorem Lasts.lt {w:World} {X:Nat} {M:Nat→List Pl.Ev} {O:Nat→Nat→Int} (h:Lasts w X M O):X<w.heap.size∧X+1<w.heap.size:=by
 obtain⟨cs,h1,_⟩:=h.ob
 obtain⟨ds,h2,_⟩:=h.tb
 exact⟨(gsi.1 h1).1,(gsi.1 h2).1⟩
theorem Lasts.keep {w w':World} {X:Nat} {M:Nat→List Pl.Ev} {O:Nat→Nat→Int} (h:Lasts w X M O) (k:∀g,g=X∨g=X+1→w'.heap[g]?=w.heap[g]?):Lasts w' X M O:=⟨h.ob.keep (k _ (.inl rfl)),h.tb.keep (k _ (.inr rfl))⟩
theorem Lasts.below {w w':World} {X:Nat} {M:Nat→List Pl.Ev} {O:Nat→Nat→Int} (h:Lasts w X M O) (hb:Below w.heap.size w w'):Lasts w' X M O:=h.keep (fun g hg=>hb.block g (hg.elim (fun e=>e ▸ h.lt.1) (fun e=>e ▸ h.lt.2)))
theorem Lasts.cell {w:World} {X:Nat} {M:Nat→List Pl.Ev} {O:Nat→Nat→Int} (h:Lasts w X M O) {i j:Nat} (hi:i<8) (hj:j<11):w.cell? ⟨X,i*11+j,none⟩=some (.int .i64 (O i j)):=by
 obtain⟨cs,h1,h2⟩:=h.ob
 exact zE h1 (h2 i hi j hj)
theorem TbAt.cell {w:World} {Y:Nat} {T:Nat→Int} (h:TbAt w Y T) {i:Nat} (hi:i<8):w.cell? ⟨Y,i,none⟩=some (.int .i64 (T i))∧w.frozen? ⟨Y,i,none⟩=false:=by
 obtain⟨cs,h1,h2⟩:=h
 exact⟨zE h1 (h2 i hi),zB h1 i⟩
theorem Lasts.time {w:World} {X:Nat} {M:Nat→List Pl.Ev} {O:Nat→Nat→Int} (h:Lasts w X M O) {i:Nat} (hi:i<8):w.cell? ⟨X+1,i,none⟩=some (.int .i64 ((M i).length:Int)):=(h.tb.cell hi).1
theorem Lasts.of {w:World} {X:Nat} {M:Nat→List Pl.Ev} {O:Nat→Nat→Int} {a:Nat} (h1:ObAt w X O) (h2:TbAt w (X+1) (put1 (fun i=>((M i).length:Int)) a ((M a).length+1))) (e:Pl.Ev):Lasts w X (put1 M a (M a++[e])) O:=by
 refine⟨h1,?_⟩
 rw[show(fun i=>((put1 M a (M a++[e]) i).length:Int))=put1 (fun i=>((M i).length:Int)) a ((M a).length+1)from ?_]
 ·exact h2
 funext i
 by_cases hia:i=a
 ·subst hia;rw[zQ,zQ,List.length_append];rfl
 ·rw[zO _ _ hia,zO _ _ hia]
structure Smp (w2 wr:World) (W P X:Nat) (wc:Wc) (d r:Nat→Value) (size:Int) (k wn:Nat) (F:Nat→Nat→Prop) (p:Nat→AgP) (c:Nat→Cf) (L E M:Nat→List Pl.Ev) (O:Nat→Nat→Int):Prop where
 wd:WdAt wr W P wc d r
 ring:Ring wr W P wc.n size k wn F p c L E
 last:Lasts wr X M O
 words:∀i,i<wc.n→Words (L i) (E i)
 tot:(Pl.flatE L wc.n).length≤k
 apart:∀g,g=X∨g=X+1→(∀i,i<wc.n→¬(F i g∨(p i).has g))∧g≠W∧g≠P
 new:∀i,i<wc.n→∀g,F i g∨(p i).has g→w2.heap.size≤g
 lm:w2.heap.size≤X
 below:Below w2.heap.size w2 wr
section
variable {w2 wr w':World} {W P X:Nat} {wc:Wc} {d r:Nat→Value} {size:Int} {k wn:Nat} {F:Nat→Nat→Prop} {p:Nat→AgP} {c:Nat→Cf} {L E M:Nat→List Pl.Ev} {O:Nat→Nat→Int}
theorem Smp.pass (h:Smp w2 wr W P X wc d r size k wn F p c L E M O) (hb:Below wr.heap.size wr w') {k':Nat} (hk:k≤k'):Smp w2 w' W P X wc d r size k' wn F p c L E M O:=
 ⟨h.wd.below hb,Ring.more (w':=wr) (h.ring.below hb) hk,h.last.below hb,h.words,Nat.le_trans h.tot hk,h.apart,h.new,h.lm,h.below.trans (hb.mono h.below.size)⟩
theorem Smp.did (h:Smp w2 wr W P X wc d r size k wn F p c L E M O) {F':Nat→Nat→Prop} {L' E':Nat→List Pl.Ev} {k':Nat} (ho:Off (fun g=>∃i,i<wc.n∧(F i g∨(p i).has g)) wr w') (hF:∀i g,F' i g→F i g∨wr.heap.size≤g) (hw:WdAt w' W P wc d r) (hR:Ring w' W P wc.n size k' wn F' p c L' E')
  (h1:∀i,i<wc.n→Words (L' i) (E' i)) (ht:(Pl.flatE L' wc.n).length≤k'):Smp w2 w' W P X wc d r size k' wn F' p c L' E' M O:=by
 have hlt:=h.last.lt
 refine⟨hw,hR,h.last.keep (fun g hg=>ho.same g lD (fun ⟨i,hi,hf⟩=>(h.apart g hg).1 i hi hf)),h1,ht,fun g hg=>⟨fun i hi hf=>?_,(h.apart g hg).2⟩,fun i hi g hg=>?_,h.lm,ho.since h.below (fun g ⟨i,hi,hg⟩=>h.new i hi g hg)⟩
 ·rcases hf with hf | hf
  ·rcases hF i g hf with h2 | h2
   ·exact(h.apart g hg).1 i hi (.inl h2)
   ·omega
  ·exact(h.apart g hg).1 i hi (.inr hf)
 ·rcases hg with hg | hg
  ·rcases hF i g hg with h2 | h2
   ·exact h.new i hi g (.inl h2)
   ·exact Nat.le_trans h.below.size h2
  ·exact h.new i hi g (.inr hg)
theorem Smp.wrote (h:Smp w2 wr W P X wc d r size k wn F p c L E M O) {M':Nat→List Pl.Ev} {O':Nat→Nat→Int} (ho:Off (fun g=>g=X∨g=X+1) wr w') (hl:Lasts w' X M' O'):Smp w2 w' W P X wc d r size k wn F p c L E M' O':=by
 obtain⟨cs,h1,_⟩:=h.last.ob
 obtain⟨ds,h2,_⟩:=h.last.tb
 have hkd:Kd wr w':=Kd.off ho (fun g cs' fr hg hx=>by
  rcases hx with rfl | rfl
  ·rw[h1]at hg;exact zH lF hg
  ·rw[h2]at hg;exact zH lF hg)
 have hlm:=h.lm
 exact⟨h.wd.keep (fun g hg=>ho.same g (hg.elim (fun e=>e ▸ h.wd.lt.1) (fun e=>e ▸ h.wd.lt.2)) (fun hd=>by have h2:=(h.apart g hd).2;exact hg.elim h2.1 h2.2)),
  h.ring.keep ho.size (fun i hi g hg=>ho.same g (h.ring.lt hi g hg) (fun hd=>(h.apart g hd).1 i hi hg)) (fun i hi e he=>((h.ring.ag i hi).is e he).keep hkd),hl,h.words,h.tot,h.apart,h.new,h.lm,ho.since h.below (fun g hg=>by omega)⟩
theorem Smp.start (hw:WdAt wr W P wc d r) (hR:Ring wr W P wc.n size 0 wn F p c (fun _=>[]) (fun _=>[])) (hb:Below w2.heap.size w2 wr) (hf:∀i,i<wc.n→∀g,F i g∨(p i).has g→w2.heap.size≤g) (b1:Below wr.heap.size wr w') (hl:Lasts w' wr.heap.size (fun _=>[]) (fun _ _=>0)) :
  Smp w2 w' W P wr.heap.size wc d r size 0 wn F p c (fun _=>[]) (fun _=>[]) (fun _=>[]) (fun _ _=>0):=by
 have h3:=hw.lt
 refine⟨hw.below b1,hR.below b1,hl,fun i hi=>Words.nil,by rw[Pl.flatE_none];exact Nat.le_refl _,fun g hg=>⟨fun i hi hi'=>by have:=hR.lt hi g hi';omega,by omega,by omega⟩,hf,hb.size,hb.trans (b1.mono hb.size)⟩
end
structure Met (w2 wr:World) (W P X:Nat) (wc:Wc) (d r:Nat→Value) (wn:Nat) (all:Pl.Al) (x:Nat→AgD) (E M:Nat→List Pl.Ev) (O:Nat→Nat→Int):Prop where
 wd:WdAt wr W P wc d r
 ring:RingM wr W P wc.n wn all x E
 last:Lasts wr X M O
 apart:∀g,g=X∨g=X+1→∀i,i<wc.n→¬(x i).all g
 new:∀i,i<wc.n→∀g,(x i).all g→w2.heap.size≤g
 below:Below w2.heap.size w2 wr
section
variable {w2 wr w':World} {W P X:Nat} {wc:Wc} {d r:Nat→Value} {wn:Nat} {all:Pl.Al} {x:Nat→AgD} {L E M:Nat→List Pl.Ev} {O:Nat→Nat→Int}
theorem Met.pass (h:Met w2 wr W P X wc d r wn all x E M O) (hb:Below wr.heap.size wr w'):Met w2 w' W P X wc d r wn all x E M O:=
 ⟨h.wd.below hb,h.ring.below hb,h.last.below hb,h.apart,h.new,h.below.trans (hb.mono h.below.size)⟩
theorem Met.did (h:Met w2 wr W P X wc d r wn all x E M O) {E':Nat→List Pl.Ev} (ho:Off (fun g=>∃i,i<wc.n∧(x i).all g) wr w') (hw:WdAt w' W P wc d r) (hR:RingM w' W P wc.n wn all x E'):Met w2 w' W P X wc d r wn all x E' M O:=by
 have hlt:=h.last.lt
 exact⟨hw,hR,h.last.keep (fun g hg=>ho.same g lD (fun ⟨i,hi,hf⟩=>h.apart g hg i hi hf)),h.apart,h.new,ho.since h.below (fun g ⟨i,hi,hg⟩=>h.new i hi g hg)⟩
theorem Smp.met {size:Int} {k:Nat} {F:Nat→Nat→Prop} {p:Nat→AgP} {c:Nat→Cf} (h:Smp w2 wr W P X wc d r size k wn F p c L E M O):∃x,(∀i,i<wc.n→(x i).p=p i)∧Met w2 wr W P X wc d r wn (ringAl L E wc.n) x (absE E) M O:=by
 obtain⟨x,hx,hm⟩:=h.ring.toM
 exact⟨x,fun i hi=>(hx i hi).1,h.wd,hm,h.last,fun g hg i hi hx'=>(h.apart g hg).1 i hi ((hx i hi).2 g hx'),fun i hi g hg=>h.new i hi g ((hx i hi).2 g hg),h.below⟩
theorem Smp.lot {size:Int} {k:Nat} {F:Nat→Nat→Prop} {p:Nat→AgP} {c:Nat→Cf} (h:Smp w2 wr W P X wc d r size k wn F p c L E M O) (hk:k≤60):Pl.Lot (ringAl L E wc.n)∧∀i,i<wc.n→Pl.Subs (ringAl L E wc.n) (absE E i):=by
 have ht:=h.tot
 exact h.ring.lot (fun i hi=>(h.words i hi).len) h.wd.n1.2 lD
theorem Smp.owns {size:Int} {k:Nat} {F:Nat→Nat→Prop} {p:Nat→AgP} {c:Nat→Cf} (h:Smp w2 wr W P X wc d r size k wn F p c L E M O):∀i,i<wc.n→∀e∈L i,e.node=(i:Int)∧1≤e.seq∧e.seq≤96:=fun i hi e he=>by
 obtain⟨n',s',hd,_⟩:=((h.ring.ag i hi).ok e he).dot
 have h1:=hd.s1
 have h2:=hd.s96
 have h3:=hd.seq
 exact⟨((h.ring.facts i hi).2 e he).1,by omega,by omega⟩
end
theorem Met.query {w2 wr:World} {W P X:Nat} {wc:Wc} {d r:Nat→Value} {wn:Nat} {x:Nat→AgD} {E E1 M L:Nat→List Pl.Ev} {O:Nat→Nat→Int} (h:Met w2 wr W P X wc d r wn (ringAl L E wc.n) x E1 M O) (hl:Pl.Lot (ringAl L E wc.n)) (hc:Pl.Col (ringAl L E wc.n) wc.n (absE E) 2 0 E1)
  (hW:∀i,i<wc.n→Words (L i) (E i)) (hO:∀i,i<wc.n→Word (L i) (O i)) (qC:∀i,i<wc.n→∀e∈L i,e.node=(i:Int)∧1≤e.seq∧e.seq≤96) (i:Nat) (hi:i<wc.n) :
  Calls prog 10 #[Qp ((x i).p.a),.int .i64 0] wr fun e w'=>Below wr.heap.size wr w'∧∃ld nd ak:Int,((∀j,j<wc.n→O j 0≠10)∧e=.returned (.tuple #[.agg (Qb false 0 0 0 0 0 0 0 0 0 ld nd ak),.int .i64 0]))∨(∃(b:Nat) (sq:Int),Best wc.n L O b∧e=.returned (.tuple #[.agg (Qb true b sq (O b 4) (O b 5) (O b 6) (O b 7) (O b 8) (O b 9) (O b 10) ld nd ak),.int .i64 0])):=by
 have hp:=hc.done hl hi
 obtain⟨cl,er,sd,he,_,ha⟩:=h.ring.ag i hi
 have hn:=h.wd.n1
 have hlen:er.length≤80:=by
  have h1:=hp.length_eq
  rw[←he,List.length_map]at h1
  rw[h1];exact hl.len
 have hpr:∀{l m:List Pl.Ev},m.Perm er→Same l m→(l.map Pl.Ev.abs).Perm (Pl.flatE (absE E) wc.n):=fun {l m} h1 h2=>by
  rw[show l.map Pl.Ev.abs=_ from h2]
  refine(h1.map _).trans ?_
  rw[he]
  exact hp
 have hB:=fun {l m:List Pl.Ev} (h1:m.Perm er) (h2:Same l m)=>best_of hn.2 hW hO qC (hpr h1 h2)
 have hk:∀e∈er,e.kind≠1:=fun e h1=>by
  have h2:e.abs∈E1 i:=by rw[←he];exact List.mem_map.2 ⟨e,h1,rfl⟩
  obtain⟨j,hj,h3⟩:=Pl.mem_flatE.1 (hp.mem_iff.1 h2)
  unfold absE at h3
  rw[show(E j).map Pl.Ev.abs=_ from(hW j hj).1]at h3
  obtain⟨y,hy,e2⟩:=List.mem_map.1 h3
  rw[show e.kind=y.kind from(congrArg Pl.Ev.kind e2).symm]
  exact((hW j hj).2.1 y (Pl.mem_lastL hy)).1
 have hsm:∀node:Nat,node<8→(Pl.smps er 0 node).length≤1:=fun node _=>by
  rw[show Pl.smps er 0 node=[]from List.filter_eq_nil_iff.2 fun e h1 hq=>hk e h1 (by simp at hq;exact hq.1.1)]
  exact Nat.zero_le _
 have hin0:Pl.inside 0 0 7=true:=by rfl
 by_cases hz:Pl.sets er 0=[]
 ·refine(aquery_none (x i).F (x i).p (x i).c (x i).size (x i).bs (x i).used (x i).upto (x i).own sd er cl 0 wr ha hin0 hlen hz hsm).mono ?_
  rintro e w' ⟨l,⟨m,hm,hs⟩,rfl,hb⟩
  exact⟨hb,_,_,_,.inl ⟨(hB (List.Perm.refl er) rfl).1 hz,rfl⟩⟩
 ·refine(sO (x i).F (x i).p (x i).c (x i).size (x i).bs (x i).used (x i).upto (x i).own sd er cl 0 wr ha hin0 hlen hz ?_ hsm).mono ?_
  ·refine Nat.lt_of_le_of_lt (List.length_filter_le _ _) ?_
   have h1:=hp.length_eq
   rw[←he,List.length_map]at h1
   have h2:∀m,m≤wc.n→(Pl.flatE (absE E) m).length≤m:=fun m=>by
    induction m with
    | zero=>intro _;exact Nat.le_refl _
    | succ m ih=>
     intro hm
     have h2:=ih lD
     have h3:(absE E m).length≤1:=by unfold absE;rw[List.length_map];exact(hW m lD).len
     rw[Pl.flatE_succ,List.length_append]
     omega
   have h3:=h2 wc.n (Nat.le_refl _)
   have h4:(ringAl L E wc.n).ev.length≤wc.n:=h3
   omega
  ·rintro e w' ⟨l,ev,⟨m,hm,hs⟩,h1,h2,rfl,hb⟩
   obtain⟨b,hbst,e0,e1,e2,e3,e4,e5,e6,e7⟩:=(hB hm hs).2.2 ev h1 h2
   rw[e0,e1,e2,e3,e4,e5,e6,e7]
   exact⟨hb,_,_,_,.inr ⟨b,_,hbst,rfl⟩⟩
end
end Go.Proofs.YtodlmbfbfaofcaaGreat
