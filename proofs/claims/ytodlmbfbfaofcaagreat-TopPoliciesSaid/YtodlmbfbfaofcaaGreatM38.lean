/- TopPolicies, part 38. -/
import Derived.Test.YtodlmbfbfaofcaaGreatM37
open Go.Proofs.Tryz
namespace Go.Proofs.YtodlmbfbfaofcaaGreat
set_option linter.unusedVariables false
set_option linter.unusedSimpArgs false
set_option maxRecDepth 100000
set_option maxHeartbeats 8000000
section
open Go.RowKit Rw Rh
def put1 {α:Type} (f:Nat→α) (i:Nat) (x:α):Nat→α:=fun j=>if j=i then x else f j
theorem zQ {α:Type} (f:Nat→α) (i:Nat) (x:α):put1 f i x i=x:=if_pos rfl
theorem zO {α:Type} (f:Nat→α) {i j:Nat} (x:α) (h:j≠i):put1 f i x j=f j:=if_neg h
theorem AgS.kd {F:Nat→Prop} {w w':World} {p:AgP} {c:Cf} {size:Int} {k:Nat} {L es:List Pl.Ev} (h:AgS F w p c size k L es) (ho:Off (fun g=>F g∨p.has g) w w'):Kd w w':=by
 obtain⟨bs,u,m,own,sd,hA,_⟩:=h.st
 exact Kd.off ho (fun g cs fr hg=>hA.no45 hg)
structure Ring (w:World) (W P n:Nat) (size:Int) (k wn:Nat) (F:Nat→Nat→Prop) (p:Nat→AgP) (c:Nat→Cf) (L E:Nat→List Pl.Ev):Prop where
 ag:∀i,i<n→AgS (F i) w (p i) (c i) size k (L i) (E i)
 cn:∀i,i<n→(c i).n=i∧(c i).win=wn
 sep:∀i j,i<n→j<n→i≠j→∀g,F i g∨(p i).has g→¬(F j g∨(p j).has g)
 wp:∀i,i<n→∀g,F i g∨(p i).has g→g≠W∧g≠P
theorem Ring.lt {w:World} {W P n:Nat} {size:Int} {k wn:Nat} {F:Nat→Nat→Prop} {p:Nat→AgP} {c:Nat→Cf} {L E:Nat→List Pl.Ev} (h:Ring w W P n size k wn F p c L E) {i:Nat} (hi:i<n):∀g,F i g∨(p i).has g→g<w.heap.size:=(h.ag i hi).lt
theorem Ring.keep {w w':World} {W P n:Nat} {size:Int} {k wn:Nat} {F:Nat→Nat→Prop} {p:Nat→AgP} {c:Nat→Cf} {L E:Nat→List Pl.Ev} (h:Ring w W P n size k wn F p c L E) (hs:w.heap.size≤w'.heap.size) (hk:∀i,i<n→∀g,F i g∨(p i).has g→w'.heap[g]?=w.heap[g]?) (hq:∀i,i<n→∀e∈E i,Is w' e):Ring w' W P n size k wn F p c L E:=
 ⟨fun i hi=>(h.ag i hi).keep hs (hk i hi) (hq i hi),h.cn,h.sep,h.wp⟩
theorem Ring.below {w w':World} {W P n:Nat} {size:Int} {k wn:Nat} {F:Nat→Nat→Prop} {p:Nat→AgP} {c:Nat→Cf} {L E:Nat→List Pl.Ev} (h:Ring w W P n size k wn F p c L E) (hb:Below w.heap.size w w'):Ring w' W P n size k wn F p c L E:=h.keep hb.size (fun i hi g hg=>hb.block g (h.lt hi g hg)) (fun i hi e he=>((h.ag i hi).is e he).below hb)
theorem Ring.more {w w':World} {W P n:Nat} {size:Int} {k wn:Nat} {F:Nat→Nat→Prop} {p:Nat→AgP} {c:Nat→Cf} {L E:Nat→List Pl.Ev} {k':Nat} (h:Ring w W P n size k wn F p c L E) (hk:k≤k'):Ring w W P n size k' wn F p c L E:=⟨fun i hi=>(h.ag i hi).more hk,h.cn,h.sep,h.wp⟩
theorem Ring.turn {w w':World} {W P n:Nat} {size:Int} {k wn:Nat} {F:Nat→Nat→Prop} {p:Nat→AgP} {c:Nat→Cf} {L E:Nat→List Pl.Ev} {k' i:Nat} {F':Nat→Prop} {L1 es:List Pl.Ev} (h:Ring w W P n size k wn F p c L E) (hi:i<n) (ho:Off (fun g=>F i g∨(p i).has g) w w') (hF:∀g,F' g→F i g∨w.heap.size≤g) (ha:AgS F' w' (p i) (c i) size k' L1 es) (hk:k≤k') (hW:W<w.heap.size∧P<w.heap.size):Ring w' W P n size k' wn (put1 F i F') p c (put1 L i L1) (put1 E i es):=by
 have hf:∀{j} {g},j<n→(put1 F i F' j g∨(p j).has g)→(F j g∨(p j).has g)∨(j=i∧w.heap.size≤g):=fun {j} {g} hj hg=>by
  by_cases hji:j=i
  ·subst hji
   rw[zQ]at hg
   rcases hg with hg | hg
   ·exact(hF g hg).imp .inl (fun h=>⟨rfl,h⟩)
   ·exact .inl (.inr hg)
  ·rw[zO _ _ hji]at hg
   exact .inl hg
 refine⟨fun j hj=>?_,h.cn,fun a b ha' hb hab g hga hgb=>?_,fun j hj g hg=>?_⟩
 ·by_cases hji:j=i
  ·subst hji
   rw[zQ,zQ,zQ]
   exact ha
  ·rw[zO _ _ hji,zO _ _ hji,zO _ _ hji]
   exact((h.ag j hj).keep ho.size (fun g hg=>ho.same g (h.lt hj g hg) (fun hn=>h.sep j i hj hi hji g hg hn)) (fun e he=>((h.ag j hj).is e he).keep ((h.ag i hi).kd ho))).more hk
 ·rcases hf ha' hga with h1 | ⟨e1,h1⟩<;>rcases hf hb hgb with h2 | ⟨e2,h2⟩
  ·exact h.sep a b ha' hb hab g h1 h2
  ·have:=h.lt ha' g h1;omega
  ·have:=h.lt hb g h2;omega
  ·omega
 ·rcases hf hj hg with h1 | ⟨_,h1⟩
  ·exact h.wp j hj g h1
  ·omega
theorem Ring.grow {w w':World} {W P n:Nat} {size:Int} {k wn:Nat} {F:Nat→Nat→Prop} {p:Nat→AgP} {c:Nat→Cf} {L E:Nat→List Pl.Ev} {D F':Nat→Prop} {p':AgP} {c':Cf} {L1 es:List Pl.Ev} (h:Ring w W P n size k wn F p c L E) (ho:Off D w w') (hD:∀i,i<n→∀g,F i g∨(p i).has g→¬D g) (hDW:∀g,D g→g≠W∧g≠P) (hF:∀g,F' g∨p'.has g→D g∨w.heap.size≤g) (ha:AgS F' w' p' c' size k L1 es) (hc:c'.n=n∧c'.win=wn) (hq:∀i,i<n→∀e∈E i,Is w' e) (hW:W<w.heap.size∧P<w.heap.size):Ring w' W P (n+1) size k wn (put1 F n F') (put1 p n p') (put1 c n c') (put1 L n L1) (put1 E n es):=by
 have hf:∀{j} {g},j<n+1→(put1 F n F' j g∨(put1 p n p' j).has g)→(j<n∧(F j g∨(p j).has g))∨(j=n∧(D g∨w.heap.size≤g)):=fun {j} {g} hj hg=>by
  by_cases hji:j=n
  ·subst hji
   rw[zQ,zQ]at hg
   exact .inr ⟨rfl,hF g hg⟩
  ·rw[zO _ _ hji,zO _ _ hji]at hg
   exact .inl ⟨by omega,hg⟩
 refine⟨fun j hj=>?_,fun j hj=>?_,fun a b ha' hb hab g hga hgb=>?_,fun j hj g hg=>?_⟩
 ·by_cases hji:j=n
  ·subst hji
   simp only[zQ]
   exact ha
  ·simp only[zO _ _ hji]
   exact(h.ag j lD).keep ho.size (fun g hg=>ho.same g (h.lt lD g hg) (hD j lD g hg)) (hq j lD)
 ·by_cases hji:j=n
  ·subst hji
   simp only[zQ]
   exact hc
  ·simp only[zO _ _ hji]
   exact h.cn j lD
 ·rcases hf ha' hga with⟨i1,h1⟩ | ⟨e1,h1⟩<;>rcases hf hb hgb with⟨i2,h2⟩ | ⟨e2,h2⟩
  ·exact h.sep a b i1 i2 hab g h1 h2
  ·have:=h.lt i1 g h1
   exact h2.elim (hD a i1 g h1) lD
  ·have:=h.lt i2 g h2
   exact h1.elim (hD b i2 g h2) lD
  ·omega
 ·rcases hf hj hg with⟨i1,h1⟩ | ⟨_,h1⟩
  ·exact h.wp j i1 g h1
  ·rcases h1 with h1 | h1
   ·exact hDW g h1
   ·omega
theorem WdAt.put {w:World} {W P:Nat} {K:Wc} {d r:Nat→Value} (h:WdAt w W P K d r) {i:Nat} (hi:i<K.n) (v:Value):WdAt (w.setCell ⟨P,i*3+1,none⟩ v) W P K d (put1 r i v):=by
 obtain⟨cs,h1,h2,h3⟩:=h.pl
 have hne:=h.ne
 have hs:=zF (j:=i*3+1) h1 v
 have ho:Off (fun g=>g=P) w (w.setCell ⟨P,i*3+1,none⟩ v):=(Off.refl (fun g=>g=P) w).set (F:=fun g=>g=P) (a:=⟨P,i*3+1,none⟩) (.inl rfl) v
 refine⟨(ho.same W h.lt.1 hne).trans h.wd,⟨_,hs,by simpa using h2,fun j hj=>?_⟩,h.n1⟩
 obtain⟨a1,a2,a3⟩:=h3 j hj
 refine⟨by rw[Array.getElem?_setIfInBounds_ne (by omega)];exact a1,?_,by rw[Array.getElem?_setIfInBounds_ne (by omega)];exact a3⟩
 by_cases hji:j=i
 ·subst hji
  rw[zQ,Array.getElem?_setIfInBounds_self]
  rw[if_pos (by omega)]
 ·rw[zO _ _ hji,Array.getElem?_setIfInBounds_ne (by omega)]
  exact a2
theorem WdAt.putd {w:World} {W P:Nat} {K:Wc} {d r:Nat→Value} (h:WdAt w W P K d r) {i:Nat} (hi:i<K.n) (v:Value):WdAt (w.setCell ⟨P,i*3,none⟩ v) W P K (put1 d i v) r:=by
 obtain⟨cs,h1,h2,h3⟩:=h.pl
 have hne:=h.ne
 have hs:=zF (j:=i*3) h1 v
 have ho:Off (fun g=>g=P) w (w.setCell ⟨P,i*3,none⟩ v):=(Off.refl (fun g=>g=P) w).set (F:=fun g=>g=P) (a:=⟨P,i*3,none⟩) (.inl rfl) v
 refine⟨(ho.same W h.lt.1 hne).trans h.wd,⟨_,hs,by simpa using h2,fun j hj=>?_⟩,h.n1⟩
 obtain⟨a1,a2,a3⟩:=h3 j hj
 refine⟨?_,by rw[Array.getElem?_setIfInBounds_ne (by omega)];exact a2,by rw[Array.getElem?_setIfInBounds_ne (by omega)];exact a3⟩
 by_cases hji:j=i
 ·subst hji
  rw[zQ,Array.getElem?_setIfInBounds_self]
  rw[if_pos (by omega)]
 ·rw[zO _ _ hji,Array.getElem?_setIfInBounds_ne (by omega)]
  exact a1
theorem WdAt.frozen {w:World} {W P:Nat} {K:Wc} {d r:Nat→Value} (h:WdAt w W P K d r) (j:Nat):w.frozen? ⟨P,j,none⟩=false:=by
 obtain⟨cs,h1,_⟩:=h.pl
 exact zB h1 j
theorem AgS.fresh {F:Nat→Prop} {w:World} {p:AgP} {c:Cf} {size:Int} {bs:List Int} (h:AgAt F w p c size bs 0 0 [] [] [] 0) (hl:(bs.length:Int)≤size) (hs:size≤16384) (hk:bs.length≤100):AgS F w p c size 0 [] []:=
 ⟨⟨bs,0,0,[],[],h,rfl,by omega,⟨hl,by omega⟩,fun x hx=>(by cases hx),fun d=>⟨fun h=>(by cases h),fun ⟨x,hx,_⟩=>(by cases hx)⟩⟩,hs,Nat.le_refl _,fun x hx=>(by cases hx),fun x hx=>(by cases hx),List.Pairwise.nil,Nat.le_refl _,fun x hx=>(by cases hx),fun x hx=>(by cases hx)⟩
theorem AgS.word {F F':Nat→Prop} {w:World} {p p':AgP} {c c':Cf} {size size':Int} {k k':Nat} {L es L' es':List Pl.Ev} (h:AgS F w p c size k L es) (h':AgS F' w p' c' size' k' L' es') (hne:c.n≠c'.n) :
  Calls prog 129 #[Qp p.a,.int .i64 c.n,Qp p'.a,.int .i64 c'.n] w fun r w'=>r=.returned (.tuple #[])∧AgS F' w' p' c' size' k' L' es'∧Off (fun g=>g=p'.T) w w':=by
 obtain⟨bs,u,m,own,sd,h1,_⟩:=h.st
 obtain⟨bs',u',m',own',sd',h1',h2⟩:=h'.st
 refine(greet_ok F F' p p' c c' size size' bs bs' u m u' m' own es own' es' sd sd' L.length L'.length w h1 h1' hne).mono ?_
 rintro r w' ⟨rfl,h3,h4⟩
 exact⟨rfl,⟨⟨bs',u',m',own',sd',h3,h2⟩,h'.sz,h'.len,h'.own,h'.ok,h'.ord,h'.hel,h'.inn,h'.rms⟩,h4⟩
theorem uF {α:Type} (f:Nat→α) (i:Nat):put1 f i (f i)=f:=by
 funext j
 unfold put1
 split
 ·rename_i h;rw[h]
 ·rfl
theorem WdAt.range {w:World} {W P:Nat} {K:Wc} {d r:Nat→Value} (h:WdAt w W P K d r) {i:Nat} (hi:i<K.n):w.rangeAt P (i*3) [d i,r i,.pointer none]:=fun j v hv=>by
 obtain⟨cs,h1,_,h2⟩:=h.pl
 obtain⟨a1,a2,a3⟩:=h2 i hi
 match j,hv with
 | 0,hv=>cases hv;simp[World.cell?,h1,a1]
 | 1,hv=>cases hv;simp[World.cell?,h1,a2]
 | 2,hv=>cases hv;simp[World.cell?,h1,a3]
theorem WdAt.head {w:World} {W P:Nat} {K:Wc} {d r:Nat→Value} (h:WdAt w W P K d r):w.rangeAt W 0 [.int .i64 K.n,.int .i64 K.disk,.int .i64 K.nd,.int .i64 K.mtu,.int .i64 K.win,.int .i64 K.kp,.int .u64 K.salt,.int .u64 K.seed,.int .i64 K.c0,.int .i64 K.c1,.int .i64 K.c2]:=fun j v hv=>by
 have h1:=h.wd
 match j,hv with
 | 0,hv=>cases hv;simp[World.cell?,h1]
 | 1,hv=>cases hv;simp[World.cell?,h1]
 | 2,hv=>cases hv;simp[World.cell?,h1]
 | 3,hv=>cases hv;simp[World.cell?,h1]
 | 4,hv=>cases hv;simp[World.cell?,h1]
 | 5,hv=>cases hv;simp[World.cell?,h1]
 | 6,hv=>cases hv;simp[World.cell?,h1]
 | 7,hv=>cases hv;simp[World.cell?,h1]
 | 8,hv=>cases hv;simp[World.cell?,h1]
 | 9,hv=>cases hv;simp[World.cell?,h1]
 | 10,hv=>cases hv;simp[World.cell?,h1]
theorem Ring.word {w:World} {W P n:Nat} {size:Int} {wn:Nat} {F:Nat→Nat→Prop} {p:Nat→AgP} {c:Nat→Cf} (h:Ring w W P n size 0 wn F p c (fun _=>[]) (fun _=>[])) {i j:Nat} (hi:i<n) (hj:j<n) (hij:i≠j) (hW:W<w.heap.size∧P<w.heap.size) :
  Calls prog 129 #[Qp ((p i).a),.int .i64 i,Qp ((p j).a),.int .i64 j] w fun x w'=>x=.returned (.tuple #[])∧Ring w' W P n size 0 wn F p c (fun _=>[]) (fun _=>[])∧Off (fun g=>g=(p j).T) w w':=by
 have hci:=(h.cn i hi).1
 have hcj:=(h.cn j hj).1
 have hw:=AgS.word (h.ag i hi) (h.ag j hj) (by rw[hci,hcj];exact hij)
 rw[hci,hcj]at hw
 refine hw.mono ?_
 rintro x w' ⟨rfl,ha,ho⟩
 refine⟨rfl,?_,ho⟩
 have hr:=h.turn (k':=0) hj (ho.mono (fun g _ e=>.inr (by have e':g=(p j).T:=e;rw[e'];simp[AgP.has]))) (F':=F j) (fun g hg=>.inl hg) ha (Nat.le_refl _) hW
 rw[uF,uF (fun _=>[]) j]at hr
 exact hr
def Begun (W P:Nat) (wc:Wc) (d:Nat→Value) (k wn:Nat) (size:Int) (D:Nat→Prop) (w w':World):Prop:=∃r' F' p' c',WdAt w' W P wc d r'∧(∀i,i<k+1→r' i=.pointer (some ⟨(p' i).a,0,none⟩))∧(∀i,k+1≤i→i<wc.n→r' i=.pointer none)∧Ring w' W P (k+1) size 0 wn F' p' c' (fun _=>[]) (fun _=>[])∧(∀i,i<k+1→∀g,F' i g∨(p' i).has g→D g∨w.heap.size≤g)∧Off D w w'
theorem wstart_ok (W P:Nat) (wc:Wc) (d r:Nat→Value) (k D mt wn kp:Nat) (FD:Nat→Prop) (size:Int) (F:Nat→Nat→Prop) (p:Nat→AgP) (c:Nat→Cf) (w:World) (h:WdAt w W P wc d r) (hk:k<wc.n)
  (hr:∀i,i<k→r i=.pointer (some ⟨(p i).a,0,none⟩)) (hr0:∀i,k≤i→i<wc.n→r i=.pointer none) (hd:d k=.pointer (some ⟨D,0,none⟩)) (hdp:∀i,i<wc.n→∃a,d i=.pointer a) (hD:DkAt FD w D size []) (hin:∀g,FD g→g<w.heap.size)
  (hDs:∀i,i<k→∀g,F i g∨(p i).has g→¬FD g) (hDW:∀g,FD g→g≠W∧g≠P) (hs:(rec1.length:Int)≤size∧size≤16384) (hR:Ring w W P k size 0 wn F p c (fun _=>[]) (fun _=>[]))
  (hc:∀sd:Int,(Cf.mk k mt wn kp wc.salt sd wc.c0 wc.c1 wc.c2).Ok) (hm:wc.mtu=(mt:Int)∧wc.win=(wn:Int)∧wc.kp=(kp:Int)) :
  Calls prog 65 #[Qp W,.int .i64 k] w fun x w'=>x=.returned (.tuple #[])∧Begun W P wc d k wn size (fun g=>g=P∨FD g∨∃i,i<k∧(F i g∨(p i).has g)) w w':=by
 have HW:=zA h
 have HR:=zA hR
 have x11:=cc 11 h.wd
 have h1:(k:Int)<wc.n:=by omega
 have h0:¬(k:Int)<0:=by omega
 have HD:=zA (And.intro hD (And.intro hin (And.intro hDs hDW)))
 have HC:=zA hc
 have HK:=zA (And.intro hk (And.intro hr (And.intro hr0 (And.intro hd hdp))))
 have HS:=zA hs
 have HCF:=zA (fun V=>rY (wc.n:Int) wc.disk wc.nd wc.mtu wc.win wc.kp wc.salt wc.seed wc.c0 wc.c1 wc.c2 k V)
 simp only[hm.1,hm.2.1,hm.2.2]at HCF
 have HM:=zA hm
 clear h hR hD hin hDs hDW hc hk hr hr0 hd hdp hs hm
 go_enter func65,ntmps65
 go_wp2_with fail
 refine zD (fun W'=>WdAt W' W P wc d r) 99 lE (HW.out.below (Below.refl _ _).drew) (fun qB=>?_)
 refine tkp 0 16 rfl ?_
 refine tkp 1 17 rfl ?_
 refine tkp 2 18 rfl ?_
 refine tk 3 19 rfl (fun wS hSw=>uB 76 (.tmp 18) W 0 rfl rfl _ _ hSw.head underlying76 rfl lE) ?_
 refine tkp 4 20 rfl ?_
 refine tkp 6 22 rfl ?_
 refine tkp 7 23 rfl ?_
 refine tkp 8 24 rfl ?_
 refine tk 9 25 rfl kN ?_
 refine t1 5 rfl (fun K hK=>?_)
 go_simp
 simp only[HM.out.1,HM.out.2.1,HM.out.2.2]
 refine(HCF.out _).mono ?_
 rintro x w2 ⟨sd,rfl,hb⟩
 have HB2:=zA ((Below.refl w.heap.size w).drew.trans hb)
 have hH2:=qB.below hb
 clear hb HCF
 refine hK.out _ _ (fun _=>hH2) (fun _=>?_)
 clear hK K
 try simp only[pt,List.set]
 clear qB
 have qB:=hH2
 clear hH2
 refine t1 10 rfl (fun K hK=>?_)
 go_simp
 rw[HK.out.2.2.2.1]
 have hin2:∀g,FD g→g<w2.heap.size:=fun g hg=>Nat.lt_of_lt_of_le (HD.out.2.1 g hg) HB2.out.size
 refine(start_ok (Cf.mk k mt wn kp wc.salt sd wc.c0 wc.c1 wc.c2) (HC.out sd) FD D size w2 (HD.out.1.below HB2.out) hin2 (Int.le_trans (Int.natCast_nonneg _) HS.out.1) HS.out.2 HS.out.1).mono ?_
 rintro x w3 ⟨p',Fs,rfl,ha,hsub,ho⟩
 have hH3:=qB.keep (w':=w3) (fun g hg=>ho.same g (hg.elim (fun e=>e ▸ qB.lt.1) (fun e=>e ▸ qB.lt.2)) (fun hf=>by
  have h2:=HD.out.2.2.2 g hf
  exact hg.elim h2.1 h2.2))
 have HA:=zA (AgS.fresh ha HS.out.1 HS.out.2 (of_decide_eq_true lE))
 have HSUB:=zA hsub
 have HO:=zA ho
 have HW2:=zA qB
 clear ha hsub ho qB hin2
 refine hK.out _ _ (fun _=>hH3) (fun _=>?_)
 clear hK K
 try simp only[pt,List.set]
 have qB:=hH3
 clear hH3
 refine tkp 11 15 rfl ?_
 refine tkp 12 27 rfl ?_
 refine tkp 13 28 rfl ?_
 refine tkp 14 5 rfl ?_
 refine tkp 15 6 rfl ?_
 refine wd ?_
 have HW3:=zA qB
 clear qB
 go_wp2_with fail
 refine(xY _).mono ?_
 rintro x w' ⟨rfl,rfl⟩
 have e3:=HW3.out.runs HK.out.1
 rw[HK.out.2.2.1 k (Nat.le_refl _) HK.out.1]at e3
 have f3:=HW3.out.frozen (k*3+1)
 have c3:=zE (j:=11) (HW3.out.put HK.out.1 (Qp p'.a)).wd rfl
 have hop:Off (fun g=>g=P) w3 (w3.setCell ⟨P,k*3+1,none⟩ (Qp p'.a)):=(Off.refl (fun g=>g=P) w3).set (F:=fun g=>g=P) (a:=⟨P,k*3+1,none⟩) (.inl rfl) _
 have hP2:=HW2.out.lt
 have hg3:=(HR.out.below HB2.out).grow HO.out HD.out.2.2.1 HD.out.2.2.2 HSUB.out HA.out ⟨rfl,rfl⟩ (fun i hi e he=>by cases he) hP2
 have hE:put1 (fun _=>([]:List Pl.Ev)) k []=fun _=>[]:=uF (fun _=>[]) k
 rw[hE]at hg3
 have hg4:=hg3.keep hop.size (fun i hi g hg=>hop.same g (hg3.lt hi g hg) (hg3.wp i hi g hg).2) (fun i hi e he=>by cases he)
 have hPw:P<w.heap.size:=HW.out.lt.2
 obtain⟨R4,F4,p4,c4,hW4,hR4,hr4,hr40,hT4,hpk⟩:∃R4 F4 p4 c4,WdAt (w3.setCell ⟨P,k*3+1,none⟩ (.pointer (some ⟨p'.a,0,none⟩))) W P wc d R4∧Ring (w3.setCell ⟨P,k*3+1,none⟩ (.pointer (some ⟨p'.a,0,none⟩))) W P (k+1) size 0 wn F4 p4 c4 (fun _=>[]) (fun _=>[])∧(∀i,i<k+1→R4 i=.pointer (some ⟨(p4 i).a,0,none⟩))∧(∀i,k+1≤i→i<wc.n→R4 i=.pointer none)∧(∀i,i<k+1→∀g,F4 i g∨(p4 i).has g→(fun g=>g=P∨FD g∨∃i,i<k∧(F i g∨(p i).has g)) g∨w.heap.size≤g)∧(p4 k).a=p'.a:=by
  refine⟨_,_,_,_,HW3.out.put HK.out.1 _,hg4,fun i hi=>?_,fun i hi hn=>?_,fun i hi g hg=>?_,by rw[zQ]⟩
  ·by_cases hik:i=k
   ·subst hik;rw[zQ,zQ]
   ·rw[zO _ _ hik,zO _ _ hik];exact HK.out.2.1 i lD
  ·rw[zO _ _ (by omega)];exact HK.out.2.2.1 i lD hn
  ·by_cases hik:i=k
   ·subst hik
    rw[zQ,zQ]at hg
    exact(HSUB.out g hg).imp (fun h=>.inr (.inl h)) (fun h=>Nat.le_trans HB2.out.size h)
   ·rw[zO _ _ hik,zO _ _ hik]at hg
    exact .inl (.inr (.inr ⟨i,by omega,hg⟩))
 have HO4:=zA (((Off.of_below (F:=(fun g=>g=P∨FD g∨∃i,i<k∧(F i g∨(p i).has g))) HB2.out).comp HO.out (fun g _ h=>.inr (.inl h))).comp hop (fun g _ h=>.inl h))
 have HW4:=zA hW4
 have HR4:=zA hR4
 have HT4:=zA hT4
 have HP4:=zA (And.intro hr4 (And.intro hr40 hpk))
 have HPW:=zA (show W<w.heap.size∧P<w.heap.size from HW.out.lt)
 clear hop hP2 hg3 hE hg4 hPw hW4 hR4 hr4 hr40 hT4 hpk
 go_wp2_with fail
 clear e3 f3 c3
 generalize w3.setCell ⟨P,k*3+1,none⟩ (Qp p'.a)=w4 at *
 clear HW HR HD HA HSUB HO HW2 HW3 HB2 x11
 go_loopw [40] (fun i wr=>∃j:Nat,j≤wc.n∧i=.int .i64 j∧WdAt wr W P wc d R4∧Ring wr W P (k+1) size 0 wn F4 p4 c4 (fun _=>[]) (fun _=>[])∧Off (fun g=>g=P∨FD g∨∃i,i<k∧(F i g∨(p i).has g)) w wr) (fun i _=>wc.n - (intOf i).toNat)
 case atStart=>exact⟨0,Nat.zero_le _,rfl,HW4.out,HR4.out,HO4.out⟩
 case round=>
  obtain⟨j,hj,rfl,hw,hr,ho⟩:=hrel
  by_cases hlt:j<wc.n
  ·have a1:(j:Int)+1≤9223372036854775807:=by have:=hw.n1.2;omega
   have hji:(j:Int)<wc.n:=by omega
   have hrg:=hw.range hlt
   obtain⟨da,hda⟩:=HK.out.2.2.2.2 j hlt
   rw[hda]at hrg
   have HWR:=zA hw
   have HRR:=zA hr
   have HOR:=zA ho
   have HLT:=zA hlt
   clear hw hr ho hj
   rcases Nat.lt_trichotomy j k with hjk | hjk | hjk
   ·rw[HP4.out.1 j (by omega)]at hrg
    have hne:((j:Int) == (k:Int))=false:=by simp;omega
    have HJK:=zA hjk
    clear hjk
    have b5:=bn wr (.cells #[.pointer da,Qp ((p4 j).a),.pointer none] 91)
    have hy:=heap_alloc_new wr (.cells #[.pointer da,Qp ((p4 j).a),.pointer none] 91)
    have y1:=cc 1 hy
    have HY:=zA hy
    have HW5:=zA (HWR.out.below b5)
    have HR5:=zA (HRR.out.below b5)
    have HO5:=zA (HOR.out.trans (Off.of_below b5))
    clear b5 hy
    have e0:wr.cell? ⟨P,j*3,none⟩=some (.pointer da):=hrg 0 _ rfl
    have e1:wr.cell? ⟨P,j*3+1,none⟩=some (.pointer (some ⟨(p4 j).a,0,none⟩)):=hrg 1 _ rfl
    have e2:wr.cell? ⟨P,j*3+2,none⟩=some (.pointer none):=hrg 2 _ rfl
    clear hrg
    go_wp2_with fail
    have HN0:=zA (And.intro HW5.out (And.intro HR5.out (And.intro HO5.out HY.out)))
    clear HW5 HR5 HO5 HY y1 e0 e1 e2
    generalize wr.alloc (.cells #[.pointer da,Qp ((p4 j).a),.pointer none] 91)=w5 at *
    have hw6:=Ring.word HN0.out.2.1 (i:=j) (j:=k) (by have:=HJK.out;omega) (by have:=HJK.out;omega) (by have:=HJK.out;omega) HN0.out.1.lt
    rw[HP4.out.2.2]at hw6
    refine hw6.mono ?_
    rintro x w6 ⟨rfl,hr6,ho6⟩
    have hlt6:=HN0.out.2.1.lt (i:=k) (by have:=HJK.out;omega) (p4 k).T (.inr (by simp[AgP.has]))
    have HN1:=zA (show WdAt w6 W P wc d R4∧Ring w6 W P (k+1) size 0 wn F4 p4 c4 (fun _=>[]) (fun _=>[])∧Off (fun g=>g=P∨FD g∨∃i,i<k∧(F i g∨(p i).has g)) w w6∧w6.heap[wr.heap.size]?=_ from⟨HN0.out.1.keep (fun g hg=>ho6.same g (hg.elim (fun e=>e ▸ HN0.out.1.lt.1) (fun e=>e ▸ HN0.out.1.lt.2)) (fun e=>by
     have e':g=(p4 k).T:=e
     have h8:=HN0.out.2.1.wp k (by have:=HJK.out;omega) (p4 k).T (.inr (by simp[AgP.has]))
     rw[←e']at h8
     exact hg.elim h8.1 h8.2)),hr6,HN0.out.2.2.1.comp ho6 (fun g hgl e=>by
     have e':g=(p4 k).T:=e
     have h8:=HT4.out k (by have:=HJK.out;omega) (p4 k).T (.inr (by simp[AgP.has]))
     rw[←e']at h8
     exact h8.elim id (fun h=>by omega)),(ho6.same wr.heap.size (gsi.1 HN0.out.2.2.2).1 (fun e=>by
     have e':wr.heap.size=(p4 k).T:=e
     have h8:=HRR.out.lt (i:=k) (by have:=HJK.out;omega) (p4 k).T (.inr (by simp[AgP.has]))
     omega)).trans HN0.out.2.2.2⟩)
    clear hw6 hr6 ho6 hlt6
    have y1:=cc 1 HN1.out.2.2.2
    clear HN0
    go_wp2_with fail
    clear y1
    have hw6:=Ring.word HN1.out.2.1 (i:=k) (j:=j) (by have:=HJK.out;omega) (by have:=HJK.out;omega) (by have:=HJK.out;omega) HN1.out.1.lt
    rw[HP4.out.2.2]at hw6
    refine hw6.mono ?_
    rintro x w7 ⟨rfl,hr6,ho6⟩
    have hlt6:=HN1.out.2.1.lt (i:=j) (by have:=HJK.out;omega) (p4 j).T (.inr (by simp[AgP.has]))
    have HN2:=zA (show WdAt w7 W P wc d R4∧Ring w7 W P (k+1) size 0 wn F4 p4 c4 (fun _=>[]) (fun _=>[])∧Off (fun g=>g=P∨FD g∨∃i,i<k∧(F i g∨(p i).has g)) w w7∧w7.heap[wr.heap.size]?=_ from⟨HN1.out.1.keep (fun g hg=>ho6.same g (hg.elim (fun e=>e ▸ HN1.out.1.lt.1) (fun e=>e ▸ HN1.out.1.lt.2)) (fun e=>by
     have e':g=(p4 j).T:=e
     have h8:=HN1.out.2.1.wp j (by have:=HJK.out;omega) (p4 j).T (.inr (by simp[AgP.has]))
     rw[←e']at h8
     exact hg.elim h8.1 h8.2)),hr6,HN1.out.2.2.1.comp ho6 (fun g hgl e=>by
     have e':g=(p4 j).T:=e
     have h8:=HT4.out j (by have:=HJK.out;omega) (p4 j).T (.inr (by simp[AgP.has]))
     rw[←e']at h8
     exact h8.elim id (fun h=>by omega)),(ho6.same wr.heap.size (gsi.1 HN1.out.2.2.2).1 (fun e=>by
     have e':wr.heap.size=(p4 j).T:=e
     have h8:=HRR.out.lt (i:=j) (by have:=HJK.out;omega) (p4 j).T (.inr (by simp[AgP.has]))
     omega)).trans HN1.out.2.2.2⟩)
    clear hw6 hr6 ho6 hlt6
    clear HN1
    go_wp2_with fail
    exact⟨⟨j+1,HLT.out,rfl,HN2.out.1,HN2.out.2.1,HN2.out.2.2.1⟩,by simp[intOf];have:=HLT.out;omega⟩
   ·subst hjk
    rw[HP4.out.1 j (by omega)]at hrg
    have b5:=bn wr (.cells #[.pointer da,Qp ((p4 j).a),.pointer none] 91)
    have hy:=heap_alloc_new wr (.cells #[.pointer da,Qp ((p4 j).a),.pointer none] 91)
    have y1:=cc 1 hy
    have HY:=zA hy
    have HW5:=zA (HWR.out.below b5)
    have HR5:=zA (HRR.out.below b5)
    have HO5:=zA (HOR.out.trans (Off.of_below b5))
    clear b5 hy
    have e0:wr.cell? ⟨P,j*3,none⟩=some (.pointer da):=hrg 0 _ rfl
    have e1:wr.cell? ⟨P,j*3+1,none⟩=some (.pointer (some ⟨(p4 j).a,0,none⟩)):=hrg 1 _ rfl
    exact mC
   ·rw[HP4.out.2.1 j (by omega) HLT.out]at hrg
    have b5:=bn wr (.cells #[.pointer da,.pointer none,.pointer none] 91)
    have hy:=heap_alloc_new wr (.cells #[.pointer da,.pointer none,.pointer none] 91)
    have y1:=cc 1 hy
    have HY:=zA hy
    have HW5:=zA (HWR.out.below b5)
    have HR5:=zA (HRR.out.below b5)
    have HO5:=zA (HOR.out.trans (Off.of_below b5))
    clear b5 hy
    have e0:wr.cell? ⟨P,j*3,none⟩=some (.pointer da):=hrg 0 _ rfl
    have e1:wr.cell? ⟨P,j*3+1,none⟩=some (.pointer none):=hrg 1 _ rfl
    exact mC
  ·obtain rfl:j=wc.n:=by omega
   have HZ:=zA (And.intro hw (And.intro hr ho))
   clear hw hr ho hlt hj
   go_wp2_with fail
   exact yG results65 ⟨rfl,R4,F4,p4,c4,HZ.out.1,HP4.out.1,HP4.out.2.1,HZ.out.2.1,HT4.out,HZ.out.2.2⟩
theorem aright_spec {mtu win kp c0 c1 c2:Int} (h:Pl.aright 0 mtu win kp c0 c1 c2=true):∃mt wn k:Nat,mtu=mt∧win=wn∧kp=k∧∀(n:Nat) (salt sd:Int),n<8→(Cf.mk n mt wn k salt sd c0 c1 c2).Ok:=by
 unfold Pl.aright at h
 simp only[Bool.and_eq_true]at h
 obtain⟨_,h1,h2,h3,h4⟩:=h
 obtain⟨mt,rfl,a1,a2⟩:=Pl.inside_nat h1 lF
 obtain⟨wn,rfl,b1,b2⟩:=Pl.inside_nat h2 lF
 obtain⟨k,rfl,e1,e2⟩:=Pl.inside_nat h3 lF
 exact⟨mt,wn,k,rfl,rfl,rfl,fun n salt sd hn=>⟨hn,by dsimp only;omega,by dsimp only;omega,by dsimp only;omega,h4⟩⟩
theorem wstart_bad (W P:Nat) (wc:Wc) (d r:Nat→Value) (k D mt wn kp:Nat) (FD:Nat→Prop) (size:Int) (w:World) (h:WdAt w W P wc d r) (hk:k<wc.n)
  (hd:d k=.pointer (some ⟨D,0,none⟩)) (hD:DkAt FD w D size []) (hin:∀g,FD g→g<w.heap.size) (hs:0≤size∧size≤16384∧size<rec1.length)
  (hc:∀sd:Int,(Cf.mk k mt wn kp wc.salt sd wc.c0 wc.c1 wc.c2).Ok) (hm:wc.mtu=(mt:Int)∧wc.win=(wn:Int)∧wc.kp=(kp:Int)) :
  Calls prog 65 #[Qp W,.int .i64 k] w fun x w'=>x=.panicked [{v:=.iface 140 (.agg (Qo 7)),recovered:=false}]∧Below w.heap.size w w':=by
 have HW:=zA h
 have x11:=cc 11 h.wd
 have h1:(k:Int)<wc.n:=by omega
 have h0:¬(k:Int)<0:=by omega
 have HD:=zA (And.intro hD hin)
 have HC:=zA hc
 have HK:=zA (And.intro hk hd)
 have HS:=zA hs
 have HCF:=zA (fun V=>rY (wc.n:Int) wc.disk wc.nd wc.mtu wc.win wc.kp wc.salt wc.seed wc.c0 wc.c1 wc.c2 k V)
 simp only[hm.1,hm.2.1,hm.2.2]at HCF
 have HM:=zA hm
 clear h hD hin hc hk hd hs hm
 go_enter func65,ntmps65
 go_wp2_with fail
 refine zD (fun W'=>WdAt W' W P wc d r) 99 lE (HW.out.below (Below.refl _ _).drew) (fun qB=>?_)
 refine tkp 0 16 rfl ?_
 refine tkp 1 17 rfl ?_
 refine tkp 2 18 rfl ?_
 refine tk 3 19 rfl (fun wS hSw=>uB 76 (.tmp 18) W 0 rfl rfl _ _ hSw.head underlying76 rfl lE) ?_
 refine tkp 4 20 rfl ?_
 refine tkp 6 22 rfl ?_
 refine tkp 7 23 rfl ?_
 refine tkp 8 24 rfl ?_
 refine tk 9 25 rfl kN ?_
 refine t1 5 rfl (fun K hK=>?_)
 go_simp
 simp only[HM.out.1,HM.out.2.1,HM.out.2.2]
 refine(HCF.out _).mono ?_
 rintro x w2 ⟨sd,rfl,hb⟩
 have HB2:=zA ((Below.refl w.heap.size w).drew.trans hb)
 have hH2:=qB.below hb
 clear hb HCF
 refine hK.out _ _ (fun _=>hH2) (fun _=>?_)
 clear hK K
 try simp only[pt,List.set]
 clear qB
 have qB:=hH2
 clear hH2
 refine t1 10 rfl (fun K hK=>?_)
 go_simp
 rw[HK.out.2]
 refine(start_full (Cf.mk k mt wn kp wc.salt sd wc.c0 wc.c1 wc.c2) (HC.out sd) FD D size w2 (HD.out.1.below HB2.out) (fun g hg=>Nat.lt_of_lt_of_le (HD.out.2 g hg) HB2.out.size) HS.out.1 HS.out.2.1 HS.out.2.2).mono ?_
 rintro x w3 ⟨rfl,hb⟩
 have HB3:=zA (HB2.out.trans (hb.mono HB2.out.size))
 have hH3:=qB.below hb
 clear hb qB
 refine hK.out _ _ (fun _=>hH3) (fun _=>?_)
 clear hK K
 try simp only[pt,List.set]
 have qB:=hH3
 clear hH3
 refine tkp 11 15 rfl ?_
 refine tkp 12 27 rfl ?_
 refine tkp 13 28 rfl ?_
 refine tkp 14 5 rfl ?_
 refine tkp 15 6 rfl ?_
 refine wd ?_
 clear qB
 go_wp2_with fail
 refine(vG 7 lF _).mono ?_
 rintro x w' ⟨rfl,rfl⟩
 go_wp2_with fail
 exact zT rfl ⟨rfl,HB3.out⟩
end
end Go.Proofs.YtodlmbfbfaofcaaGreat
