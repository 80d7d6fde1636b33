/- TopPolicies, part 35. -/
import Derived.Deep.MidRow
import Derived.Test.YtodlmbfbfaofcaaGreatM01
import Derived.Test.YtodlmbfbfaofcaaGreatM02
import Derived.Test.YtodlmbfbfaofcaaGreatM04
import Derived.Test.YtodlmbfbfaofcaaGreatM08
import Derived.Test.YtodlmbfbfaofcaaGreatM20
import Derived.Test.YtodlmbfbfaofcaaGreatM21
import Derived.Test.YtodlmbfbfaofcaaGreatM32
import Derived.Test.YtodlmbfbfaofcaaGreatM34
open Go.Proofs.Tryz
namespace Go.Proofs.YtodlmbfbfaofcaaGreat
set_option linter.unusedVariables false
set_option linter.unusedSimpArgs false
set_option maxRecDepth 100000
set_option maxHeartbeats 4000000
section
open Go.RowKit Rw Rh
def IssY (Y:Nat) (Fs:Nat→Prop) (w:World) (p:AgP) (c:Cf) (size:Int) (k:Nat) (L es:List Pl.Ev) (P:Pl.Ev→Prop) (x:Int) (w':World):Prop:=
 Off (fun g=>Fs g∨p.has g) w w'∧∃Fs',(∀g,Fs' g→(Fs g∨w.heap.size≤g)∧g≠Y)∧((Full size k P x∧AgS Fs' w' p c size (k+1) L es)∨(x=0∧∃e eh,P e∧e.node=c.n∧eh.abs=e.abs∧AgS Fs' w' p c size (k+1) (L++[e]) (addE es e eh)))
theorem AgS.lt {Fs:Nat→Prop} {w:World} {p:AgP} {c:Cf} {size:Int} {k:Nat} {L es:List Pl.Ev} (h:AgS Fs w p c size k L es):∀g,Fs g∨p.has g→g<w.heap.size:=fun g hg=>by
 obtain⟨bs,u,m,own,sd,hA,_⟩:=h.st
 exact hg.elim (hA.lt g) (hA.hlt g)
theorem AgS.is {Fs:Nat→Prop} {w:World} {p:AgP} {c:Cf} {size:Int} {k:Nat} {L es:List Pl.Ev} (h:AgS Fs w p c size k L es):∀e∈es,Is w e:=by
 obtain⟨bs,u,m,own,sd,hA,_⟩:=h.st
 exact hA.go.is
theorem AgS.eok {Fs:Nat→Prop} {w:World} {p:AgP} {c:Cf} {size:Int} {k:Nat} {L es:List Pl.Ev} (h:AgS Fs w p c size k L es):∀e∈es,e.Ok:=by
 obtain⟨bs,u,m,own,sd,hA,_⟩:=h.st
 exact hA.go.ok
theorem IssY.before {Fs:Nat→Prop} {w:World} {p:AgP} {c:Cf} {size:Int} {k:Nat} {L es:List Pl.Ev} {P:Pl.Ev→Prop} {x:Int} {w0 w1:World} {Y:Nat} (hb:Below w.heap.size w w0) (h:Issued Fs w0 p c size k L es P x w1) (hlt:∀g,Fs g∨p.has g→g<w.heap.size) (hY:w.heap.size≤Y) (hY0:Y<w0.heap.size):IssY Y Fs w p c size k L es P x w1:=by
 obtain⟨ho,Fs',hs,h⟩:=h
 refine⟨(Off.of_below hb).trans ho,Fs',fun g hg=>?_,h⟩
 have:=hb.size
 rcases hs g hg with h | h
 ·have:=hlt g (.inl h)
  exact⟨.inl h,by omega⟩
 ·exact⟨.inr lD,by omega⟩
theorem IssY.after {Fs:Nat→Prop} {w:World} {p:AgP} {c:Cf} {size:Int} {k:Nat} {L es:List Pl.Ev} {P:Pl.Ev→Prop} {x:Int} {w0 w1:World} (o:Obj) (hb:Below w.heap.size w w0) (h:Issued Fs w0 p c size k L es P x w1):IssY w1.heap.size Fs w p c size k L es P x (w1.alloc o):=by
 obtain⟨ho,Fs',hs,h⟩:=h
 have hbl:=bn w1 o
 have hlt:∀g,Fs' g→g<w1.heap.size:=fun g hg=>by
  rcases h with⟨_,h⟩ | ⟨_,e,_,_,_,_,h⟩
  ·exact h.lt g (.inl hg)
  ·exact h.lt g (.inl hg)
 refine⟨((Off.of_below hb).trans ho).trans (Off.of_below hbl),Fs',fun g hg=>⟨(hs g hg).imp id (fun h=>Nat.le_trans hb.size h),Nat.ne_of_lt (hlt g hg)⟩,?_⟩
 have hk:∀{k' L' es'},AgS Fs' w1 p c size k' L' es'→AgS Fs' (w1.alloc o) p c size k' L' es':=fun h=>h.keep hbl.size (fun g hg=>hbl.block g (h.lt g hg)) (fun e he=>(h.is e he).below hbl)
 exact mZ
theorem IssY.done {Fs:Nat→Prop} {w:World} {p:AgP} {c:Cf} {size:Int} {k:Nat} {L es:List Pl.Ev} {P:Pl.Ev→Prop} {x:Int} {w1 w2:World} {Y:Nat} (h:IssY Y Fs w p c size k L es P x w1) (ho:Off (fun g=>g=Y) w1 w2) {fr0:Nat×Nat} (hy:w1.heap[Y]?=some (Obj.cells (Qi 0 0) 45 fr0)) (hlt:∀g,Fs g∨p.has g→g<w.heap.size) (hY:w.heap.size≤Y):Issued Fs w p c size k L es P x w2:=by
 obtain⟨ho1,Fs',hs,h⟩:=h
 have hk:∀{k' L' es'},AgS Fs' w1 p c size k' L' es'→AgS Fs' w2 p c size k' L' es':=fun hS=>hS.keep ho.size (fun g hg=>ho.same g (hS.lt g hg) (fun e=>by
  have e':g=Y:=e
  rcases hg with hg | hg
  ·exact(hs g hg).2 e'
  ·have:=hlt g (.inr hg);omega)) (fun e he=>(hS.is e he).zero (hS.eok e he) hy ho)
 refine⟨⟨Nat.le_trans ho1.size ho.size,fun g hg hn=>(ho.same g (Nat.lt_of_lt_of_le hg ho1.size) (fun e=>by have e':g=Y:=e;omega)).trans (ho1.same g hg hn),⟨ho.rest.1.trans ho1.rest.1,ho.rest.2.1.trans ho1.rest.2.1,ho.rest.2.2.trans ho1.rest.2.2⟩⟩,Fs',fun g hg=>(hs g hg).1,?_⟩
 exact mZ
theorem uB {P:Program} {a:Act} {w:World} {o:Oper} (t:TypeId) (pl:Operand) (b off:Nat) (ho:o.op=.load t pl) (hp:a.eval pl=.pointer (some ⟨b,off,none⟩)) (cs:List Value) (d:TypeDesc) (hc:w.rangeAt b off cs) (hu:P.underlying t=some d)
  (hd:d.isRow=true) (hs:(P.info? t).map (·.size)=some cs.length):(execOp a.eval o).run P w=.ok (.value (.agg cs.toArray)) w:=by
 have qH:(Instr.loadAt t (.pointer (some ⟨b,off,none⟩))).run P w=.ok (.agg cs.toArray) w:=by
  simp only[Instr.loadAt,Instr.sureAddr,Sem.run_bind,Sem.run_pure,Result.andThen]
  exact run_loadVar_mid w b off t cs d hc hu hd hs
 simp[execOp,ho,hp,qH,Result.andThen]
theorem op_range {w:World} {O:Nat} {k A B C q0 q1 q2 q3 q4 q5 q6:Int} {fr:Nat×Nat} (h:w.heap[O]?=some (.cells (Qk k A B C q0 q1 q2 q3 q4 q5 q6) 43 fr)):w.rangeAt O 4 [.int .i64 q0,.int .i64 q1,.int .i64 q2,.int .i64 q3,.int .i64 q4,.int .i64 q5,.int .i64 q6]:=fun j v hv=>by
 match j,hv with
 | 0,hv=>cases hv;simp[World.cell?,h]
 | 1,hv=>cases hv;simp[World.cell?,h]
 | 2,hv=>cases hv;simp[World.cell?,h]
 | 3,hv=>cases hv;simp[World.cell?,h]
 | 4,hv=>cases hv;simp[World.cell?,h]
 | 5,hv=>cases hv;simp[World.cell?,h]
 | 6,hv=>cases hv;simp[World.cell?,h]
theorem wsample_ok (W P:Nat) (K:Wc) (d r:Nat→Value) (a:Nat) (B C q0 q1 q2 q3 q4 q5 q6:Int) (Fs:Nat→Prop) (p:AgP) (c:Cf) (size:Int) (k:Nat) (L es:List Pl.Ev) (w:World) (h:WdAt w W P K d r) (ha:a<K.n) (hr:r a=.pointer (some ⟨p.a,0,none⟩)) (hS:AgS Fs w p c size k L es) (hk:k≤90) (hsep:∀g,Fs g∨p.has g→g≠P) :
  Calls prog 28 #[Qp W,.agg (Qk 9 (a:Int) B C q0 q1 q2 q3 q4 q5 q6)] w fun x w'=>∃e,(x=.returned (.tuple #[])∧e=0∨(e != 0)=true∧x=.panicked [{v:=.iface 140 (.agg (Qo e)),recovered:=false}])∧Issued Fs w p c size k L es (SmpP B C) e w':=by
 have b0:=bn w (.cells (Qk 9 (a:Int) B C q0 q1 q2 q3 q4 q5 q6) 43)
 have HO:=zA (heap_alloc_new w (.cells (Qk 9 (a:Int) B C q0 q1 q2 q3 q4 q5 q6) 43))
 have HLT:=zA hS.lt
 have HSEP:=zA hsep
 have HPL:=zA h.lt.2
 have HS:=zA (show ∀V,Below w.heap.size w V→AgS Fs V p c size k L es from fun V hV=>hS.keep hV.size (fun g hg=>hV.block g (hS.lt g hg)) (fun e he=>(hS.is e he).below hV))
 have HSM:=zA (fun V hV=>asample_ok Fs p c size k L es B C V (HS.out V hV) hk)
 have HRU:=zA (fun V (hV:Below w.heap.size w V)=>vF W P K d r a _ V (h.below hV) ha hr)
 have HC:=zA (show ∀V,Below w.heap.size w V→V.cell? ⟨P,a*3+1,none⟩=some (.pointer (some ⟨p.a,0,none⟩))from fun V hV=>by rw[(h.below hV).runs ha,hr])
 have HB:=zA b0.drew
 have HE:=zA (show ∀V V':World,V'.heap[P]?=V.heap[P]?→V.cell? ⟨P,a*3+1,none⟩=some (.pointer (some ⟨p.a,0,none⟩))→V'.cell? ⟨P,a*3+1,none⟩=some (.pointer (some ⟨p.a,0,none⟩))from fun V V' e h=>(World.cell?_of_block (a:=⟨P,a*3+1,none⟩) e).trans h)
 clear b0 h hS hsep
 go_enter func28,ntmps28
 go_wp2_with fail
 refine zD (fun W'=>W'.heap[w.heap.size]?=some (.cells (Qk 9 (a:Int) B C q0 q1 q2 q3 q4 q5 q6) 43 (0,0))∧W'.cell? ⟨P,a*3+1,none⟩=some (.pointer (some ⟨p.a,0,none⟩))) 99 lE ⟨show(w.alloc _).drew.heap[w.heap.size]?=_ from HO.out,HC.out _ HB.out⟩ (fun qB=>?_)
 generalize hV0:(w.alloc (.cells (Qk 9 (a:Int) B C q0 q1 q2 q3 q4 q5 q6) 43)).drew=V at *
 clear hV0 HO
 refine tkp 0 7 rfl ?_
 refine tkp 1 8 rfl ?_
 refine tk 2 9 rfl lW ?_
 refine tkp 7 14 rfl ?_
 refine tk 8 15 rfl lX ?_
 refine tkp 9 16 rfl ?_
 refine tk 10 17 rfl (by intro wS hSw;have x3:=cc 3 hSw.1;clear hSw;go_simp;(try with_reducible rfl)) ?_
 refine t2 3 15 rfl rfl (fun K hK=>?a3) (fun K hK=>?b3)
 case' a3=>
  go_simp
  refine(HRU.out _ HB.out).mono ?_
  rintro x w' ⟨rfl,hw'⟩
  subst hw'
  refine hK.out _ _ (fun _=>qB) (fun _=>?_)
  clear hK K
  try simp only[pt,List.set]
  refine tkp 4 11 rfl ?_
  refine tkp 5 12 rfl ?_
  refine tk 6 13 rfl lY ?_
  refine t2 11 15 rfl rfl (fun K hK=>?a4) (fun K hK=>?b4)
 case' a4=>
  go_simp
  refine(HSM.out _ HB.out).mono ?_
  rintro x w1 ⟨d1,d2,e,rfl,hI⟩
  have hH1:=And.intro ((hI.1.same w.heap.size (gsi.1 qB.1).1 (fun h=>by have:=HLT.out _ h;omega)).trans qB.1) (HE.out _ w1 (hI.1.same P (Nat.lt_of_lt_of_le HPL.out HB.out.size) (fun h=>HSEP.out _ h rfl)) qB.2)
  refine hK.out _ _ (fun _=>hH1) (fun _=>?_)
  clear hK K
  try simp only[pt,List.set]
  refine tkp 12 6 rfl ?_
  refine tkp 13 19 rfl ?_
  refine tkp 14 20 rfl ?_
  refine t1 15 rfl (fun K hK=>?_)
  go_simp
  have hbl:=bn w1 (.cells (Qi 0 0) 45)
  have HI:=zA (IssY.after (.cells (Qi 0 0) 45) HB.out hI)
  have HGE:=zA (show w.heap.size≤w1.heap.size from Nat.le_trans HB.out.size hI.1.size)
  have HY:=zA (heap_alloc_new w1 (.cells (Qi 0 0) 45))
  have hH2:=And.intro (zC hH1.1 hbl) (HE.out _ _ (hbl.block P (Nat.lt_of_lt_of_le HPL.out HGE.out)) hH1.2)
  refine hK.out _ _ (fun _=>hH2) (fun _=>?_)
  clear hK K
  try simp only[pt,List.set]
  clear qB hbl hH1 hI
  generalize hU0:World.alloc w1 (.cells (Qi 0 0) 45)=U at *
  generalize hY0:w1.heap.size=Y at *
  clear hU0 hY0
 case' b4 | b3=>
  go_simp
  have HBL:=zA (bn V (.cells (Qi 0 0) 45))
  have HY:=zA (heap_alloc_new V (.cells (Qi 0 0) 45))
  have HGE:=zA (show w.heap.size≤V.heap.size from HB.out.size)
  have HB2:=zA ((HB.out.alloc HB.out.size (.cells (Qi 0 0) 45)))
  have hH3:=And.intro (zC qB.1 HBL.out) (HE.out V (V.alloc (.cells (Qi 0 0) 45)) (HBL.out.block P (Nat.lt_of_lt_of_le HPL.out HB.out.size)) qB.2)
  refine hK.out _ _ (fun _=>hH3) (fun _=>?_)
  clear hK K
  try simp only[pt,List.set]
  clear qB
  generalize hU0:V.alloc (.cells (Qi 0 0) 45)=U0 at *
  generalize hY0:V.heap.size=Y at *
  clear hU0 hY0
 case' b3=>
  refine t1 3 rfl (fun K hK=>?_)
  go_simp
  refine(HRU.out _ HB2.out).mono ?_
  rintro x w' ⟨rfl,hw'⟩
  subst hw'
  refine hK.out _ _ (fun _=>hH3) (fun _=>?_)
  clear hK K
  try simp only[pt,List.set]
  refine tkp 4 11 rfl ?_
  refine tkp 5 12 rfl ?_
  refine tk 6 13 rfl lY ?_
 case' b4 | b3=>
  refine t1 11 rfl (fun K hK=>?_)
  go_simp
  refine(HSM.out _ HB2.out).mono ?_
  rintro x w1 ⟨d1,d2,e,rfl,hI⟩
  have hH2:=And.intro ((hI.1.same w.heap.size (gsi.1 hH3.1).1 (fun h=>by have:=HLT.out _ h;omega)).trans hH3.1) (HE.out _ w1 (hI.1.same P (Nat.lt_of_lt_of_le HPL.out HB2.out.size) (fun h=>HSEP.out _ h rfl)) hH3.2)
  refine hK.out _ _ (fun _=>hH2) (fun _=>?_)
  clear hK K
  try simp only[pt,List.set]
  refine tkp 12 6 rfl ?_
  refine tkp 13 19 rfl ?_
  refine tkp 14 20 rfl ?_
  have HY1:=zA ((hI.1.same Y (gsi.1 HY.out).1 (fun h=>by have:=HLT.out _ h;have:=HGE.out;omega)).trans HY.out)
  have HI:=zA (IssY.before HB2.out hI HLT.out HGE.out (gsi.1 HY.out).1)
  clear hI HY hH3
  have HY:=HY1
  clear HY1
  generalize hU1:w1=U at *
  clear hU1
 all_goals
  have qB:=hH2
  clear hH2
  refine t1 16 rfl (fun K hK=>?_)
  rw[if_pos (by rfl)]
  refine yS 45 (.tmp 4) (.tmp 19) Y rfl rfl rfl rfl HY.out lE rfl lE ?_
  have ho:Off (fun g=>g=Y) U (World.setRow U Y (Qi d1 d2)):=(Off.refl (fun g=>g=Y) _).setRow (F:=fun g=>g=Y) Y (.inl rfl) _
  have HR:=zA (HI.out.done ho HY.out HLT.out HGE.out)
  have pE:w.heap.size≠Y:=fun e=>by
   have h1:=HY.out
   rw[←e,qB.1]at h1
   cases h1
  have hH3:=And.intro ((ho.same w.heap.size (gsi.1 qB.1).1 pE).trans qB.1) (HE.out _ _ (ho.same P (Nat.lt_of_lt_of_le HPL.out HI.out.1.size) (fun e=>by have e':P=Y:=e;have:=HGE.out;have:=HPL.out;omega)) qB.2)
  clear ho pE
  refine hK.out _ _ (fun _=>hH3) (fun _=>?_)
  clear hK K
  try simp only[pt,List.set]
  clear qB
  have qB:=hH3
  clear hH3
  refine tkp 17 5 rfl ?_
  clear qB
  refine wd ?_
  go_wp2_with fail
  by_cases he:e=0
  ·subst he
   refine(xY _).mono ?_
   rintro x w' ⟨rfl,rfl⟩
   go_wp2_with fail
   exact yG results28 ⟨0,.inl ⟨rfl,rfl⟩,HR.out⟩
  ·have he':(e != 0)=true:=by simpa using he
   exact nW
theorem wset_ok (W P:Nat) (K:Wc) (d r:Nat→Value) (a:Nat) (B C q0 q1 q2 q3 q4 q5 q6:Int) (Fs:Nat→Prop) (p:AgP) (c:Cf) (size:Int) (k:Nat) (L es:List Pl.Ev) (w:World) (h:WdAt w W P K d r) (ha:a<K.n) (hr:r a=.pointer (some ⟨p.a,0,none⟩)) (hS:AgS Fs w p c size k L es) (hk:k≤90) (hsep:∀g,Fs g∨p.has g→g≠P) :
  Calls prog 29 #[Qp W,.agg (Qk 10 (a:Int) B C q0 q1 q2 q3 q4 q5 q6)] w fun x w'=>∃e,(x=.returned (.tuple #[])∧e=0∨(e != 0)=true∧x=.panicked [{v:=.iface 140 (.agg (Qo e)),recovered:=false}])∧Issued Fs w p c size k L es (SetP c L es B q0 q1 q2 q3 q4 q5 q6) e w':=by
 have b0:=bn w (.cells (Qk 10 (a:Int) B C q0 q1 q2 q3 q4 q5 q6) 43)
 have HO:=zA (heap_alloc_new w (.cells (Qk 10 (a:Int) B C q0 q1 q2 q3 q4 q5 q6) 43))
 have HLT:=zA hS.lt
 have HSEP:=zA hsep
 have HPL:=zA h.lt.2
 have HS:=zA (show ∀V,Below w.heap.size w V→AgS Fs V p c size k L es from fun V hV=>hS.keep hV.size (fun g hg=>hV.block g (hS.lt g hg)) (fun e he=>(hS.is e he).below hV))
 have HSM:=zA (fun V hV=>aset_ok Fs p c size k L es B q0 q1 q2 q3 q4 q5 q6 V (HS.out V hV) hk)
 have HRU:=zA (fun V (hV:Below w.heap.size w V)=>vF W P K d r a _ V (h.below hV) ha hr)
 have HC:=zA (show ∀V,Below w.heap.size w V→V.cell? ⟨P,a*3+1,none⟩=some (.pointer (some ⟨p.a,0,none⟩))from fun V hV=>by rw[(h.below hV).runs ha,hr])
 have HB:=zA b0.drew
 have HE:=zA (show ∀V V':World,V'.heap[P]?=V.heap[P]?→V.cell? ⟨P,a*3+1,none⟩=some (.pointer (some ⟨p.a,0,none⟩))→V'.cell? ⟨P,a*3+1,none⟩=some (.pointer (some ⟨p.a,0,none⟩))from fun V V' e h=>(World.cell?_of_block (a:=⟨P,a*3+1,none⟩) e).trans h)
 clear b0 h hS hsep
 go_enter func29,ntmps29
 go_wp2_with fail
 refine zD (fun W'=>W'.heap[w.heap.size]?=some (.cells (Qk 10 (a:Int) B C q0 q1 q2 q3 q4 q5 q6) 43 (0,0))∧W'.cell? ⟨P,a*3+1,none⟩=some (.pointer (some ⟨p.a,0,none⟩))) 99 lE ⟨show(w.alloc _).drew.heap[w.heap.size]?=_ from HO.out,HC.out _ HB.out⟩ (fun qB=>?_)
 generalize hV0:(w.alloc (.cells (Qk 10 (a:Int) B C q0 q1 q2 q3 q4 q5 q6) 43)).drew=V at *
 clear hV0 HO
 refine tkp 0 7 rfl ?_
 refine tkp 1 8 rfl ?_
 refine tk 2 9 rfl lW ?_
 refine tkp 7 14 rfl ?_
 refine tk 8 15 rfl lX ?_
 refine tkp 9 16 rfl ?_
 refine tk 10 17 rfl (fun wS hSw=>uB 38 (.tmp 16) w.heap.size 4 rfl rfl _ _ (op_range hSw.1) underlying38 rfl lE) ?_
 refine t2 3 15 rfl rfl (fun K hK=>?a3) (fun K hK=>?b3)
 case' a3=>
  go_simp
  refine(HRU.out _ HB.out).mono ?_
  rintro x w' ⟨rfl,hw'⟩
  subst hw'
  refine hK.out _ _ (fun _=>qB) (fun _=>?_)
  clear hK K
  try simp only[pt,List.set]
  refine tkp 4 11 rfl ?_
  refine tkp 5 12 rfl ?_
  refine tk 6 13 rfl lY ?_
  refine t2 11 15 rfl rfl (fun K hK=>?a4) (fun K hK=>?b4)
 case' a4=>
  go_simp
  refine(HSM.out _ HB.out).mono ?_
  rintro x w1 ⟨d1,d2,e,rfl,hI⟩
  have hH1:=And.intro ((hI.1.same w.heap.size (gsi.1 qB.1).1 (fun h=>by have:=HLT.out _ h;omega)).trans qB.1) (HE.out _ w1 (hI.1.same P (Nat.lt_of_lt_of_le HPL.out HB.out.size) (fun h=>HSEP.out _ h rfl)) qB.2)
  refine hK.out _ _ (fun _=>hH1) (fun _=>?_)
  clear hK K
  try simp only[pt,List.set]
  refine tkp 12 6 rfl ?_
  refine tkp 13 19 rfl ?_
  refine tkp 14 20 rfl ?_
  refine t1 15 rfl (fun K hK=>?_)
  go_simp
  have hbl:=bn w1 (.cells (Qi 0 0) 45)
  have HI:=zA (IssY.after (.cells (Qi 0 0) 45) HB.out hI)
  have HGE:=zA (show w.heap.size≤w1.heap.size from Nat.le_trans HB.out.size hI.1.size)
  have HY:=zA (heap_alloc_new w1 (.cells (Qi 0 0) 45))
  have hH2:=And.intro (zC hH1.1 hbl) (HE.out _ _ (hbl.block P (Nat.lt_of_lt_of_le HPL.out HGE.out)) hH1.2)
  refine hK.out _ _ (fun _=>hH2) (fun _=>?_)
  clear hK K
  try simp only[pt,List.set]
  clear qB hbl hH1 hI
  generalize hU0:World.alloc w1 (.cells (Qi 0 0) 45)=U at *
  generalize hY0:w1.heap.size=Y at *
  clear hU0 hY0
 case' b4 | b3=>
  go_simp
  have HBL:=zA (bn V (.cells (Qi 0 0) 45))
  have HY:=zA (heap_alloc_new V (.cells (Qi 0 0) 45))
  have HGE:=zA (show w.heap.size≤V.heap.size from HB.out.size)
  have HB2:=zA ((HB.out.alloc HB.out.size (.cells (Qi 0 0) 45)))
  have hH3:=And.intro (zC qB.1 HBL.out) (HE.out V (V.alloc (.cells (Qi 0 0) 45)) (HBL.out.block P (Nat.lt_of_lt_of_le HPL.out HB.out.size)) qB.2)
  refine hK.out _ _ (fun _=>hH3) (fun _=>?_)
  clear hK K
  try simp only[pt,List.set]
  clear qB
  generalize hU0:V.alloc (.cells (Qi 0 0) 45)=U0 at *
  generalize hY0:V.heap.size=Y at *
  clear hU0 hY0
 case' b3=>
  refine t1 3 rfl (fun K hK=>?_)
  go_simp
  refine(HRU.out _ HB2.out).mono ?_
  rintro x w' ⟨rfl,hw'⟩
  subst hw'
  refine hK.out _ _ (fun _=>hH3) (fun _=>?_)
  clear hK K
  try simp only[pt,List.set]
  refine tkp 4 11 rfl ?_
  refine tkp 5 12 rfl ?_
  refine tk 6 13 rfl lY ?_
 case' b4 | b3=>
  refine t1 11 rfl (fun K hK=>?_)
  go_simp
  refine(HSM.out _ HB2.out).mono ?_
  rintro x w1 ⟨d1,d2,e,rfl,hI⟩
  have hH2:=And.intro ((hI.1.same w.heap.size (gsi.1 hH3.1).1 (fun h=>by have:=HLT.out _ h;omega)).trans hH3.1) (HE.out _ w1 (hI.1.same P (Nat.lt_of_lt_of_le HPL.out HB2.out.size) (fun h=>HSEP.out _ h rfl)) hH3.2)
  refine hK.out _ _ (fun _=>hH2) (fun _=>?_)
  clear hK K
  try simp only[pt,List.set]
  refine tkp 12 6 rfl ?_
  refine tkp 13 19 rfl ?_
  refine tkp 14 20 rfl ?_
  have HY1:=zA ((hI.1.same Y (gsi.1 HY.out).1 (fun h=>by have:=HLT.out _ h;have:=HGE.out;omega)).trans HY.out)
  have HI:=zA (IssY.before HB2.out hI HLT.out HGE.out (gsi.1 HY.out).1)
  clear hI HY hH3
  have HY:=HY1
  clear HY1
  generalize hU1:w1=U at *
  clear hU1
 all_goals
  have qB:=hH2
  clear hH2
  refine t1 16 rfl (fun K hK=>?_)
  rw[if_pos (by rfl)]
  refine yS 45 (.tmp 4) (.tmp 19) Y rfl rfl rfl rfl HY.out lE rfl lE ?_
  have ho:Off (fun g=>g=Y) U (World.setRow U Y (Qi d1 d2)):=(Off.refl (fun g=>g=Y) _).setRow (F:=fun g=>g=Y) Y (.inl rfl) _
  have HR:=zA (HI.out.done ho HY.out HLT.out HGE.out)
  have pE:w.heap.size≠Y:=fun e=>by
   have h1:=HY.out
   rw[←e,qB.1]at h1
   cases h1
  have hH3:=And.intro ((ho.same w.heap.size (gsi.1 qB.1).1 pE).trans qB.1) (HE.out _ _ (ho.same P (Nat.lt_of_lt_of_le HPL.out HI.out.1.size) (fun e=>by have e':P=Y:=e;have:=HGE.out;have:=HPL.out;omega)) qB.2)
  clear ho pE
  refine hK.out _ _ (fun _=>hH3) (fun _=>?_)
  clear hK K
  try simp only[pt,List.set]
  clear qB
  have qB:=hH3
  clear hH3
  refine tkp 17 5 rfl ?_
  clear qB
  refine wd ?_
  go_wp2_with fail
  by_cases he:e=0
  ·subst he
   refine(xY _).mono ?_
   rintro x w' ⟨rfl,rfl⟩
   go_wp2_with fail
   exact yG results29 ⟨0,.inl ⟨rfl,rfl⟩,HR.out⟩
  ·have he':(e != 0)=true:=by simpa using he
   exact nW
theorem wdel_ok (W P:Nat) (K:Wc) (d r:Nat→Value) (a:Nat) (B C q0 q1 q2 q3 q4 q5 q6:Int) (Fs:Nat→Prop) (p:AgP) (c:Cf) (size:Int) (k:Nat) (L es:List Pl.Ev) (w:World) (h:WdAt w W P K d r) (ha:a<K.n) (hr:r a=.pointer (some ⟨p.a,0,none⟩)) (hS:AgS Fs w p c size k L es) (hk:k≤90) (hes:es.length<20) (hsep:∀g,Fs g∨p.has g→g≠P) :
  Calls prog 30 #[Qp W,.agg (Qk 11 (a:Int) B C q0 q1 q2 q3 q4 q5 q6)] w fun x w'=>∃e,(x=.returned (.tuple #[])∧e=0∨(e != 0)=true∧x=.panicked [{v:=.iface 140 (.agg (Qo e)),recovered:=false}])∧Issued Fs w p c size k L es (DelP c L es B) e w':=by
 have b0:=bn w (.cells (Qk 11 (a:Int) B C q0 q1 q2 q3 q4 q5 q6) 43)
 have HO:=zA (heap_alloc_new w (.cells (Qk 11 (a:Int) B C q0 q1 q2 q3 q4 q5 q6) 43))
 have HLT:=zA hS.lt
 have HSEP:=zA hsep
 have HPL:=zA h.lt.2
 have HS:=zA (show ∀V,Below w.heap.size w V→AgS Fs V p c size k L es from fun V hV=>hS.keep hV.size (fun g hg=>hV.block g (hS.lt g hg)) (fun e he=>(hS.is e he).below hV))
 have HSM:=zA (fun V hV=>adel_ok Fs p c size k L es B V (HS.out V hV) hk hes)
 have HRU:=zA (fun V (hV:Below w.heap.size w V)=>vF W P K d r a _ V (h.below hV) ha hr)
 have HC:=zA (show ∀V,Below w.heap.size w V→V.cell? ⟨P,a*3+1,none⟩=some (.pointer (some ⟨p.a,0,none⟩))from fun V hV=>by rw[(h.below hV).runs ha,hr])
 have HB:=zA b0.drew
 have HE:=zA (show ∀V V':World,V'.heap[P]?=V.heap[P]?→V.cell? ⟨P,a*3+1,none⟩=some (.pointer (some ⟨p.a,0,none⟩))→V'.cell? ⟨P,a*3+1,none⟩=some (.pointer (some ⟨p.a,0,none⟩))from fun V V' e h=>(World.cell?_of_block (a:=⟨P,a*3+1,none⟩) e).trans h)
 clear b0 h hS hsep
 go_enter func30,ntmps30
 go_wp2_with fail
 refine zD (fun W'=>W'.heap[w.heap.size]?=some (.cells (Qk 11 (a:Int) B C q0 q1 q2 q3 q4 q5 q6) 43 (0,0))∧W'.cell? ⟨P,a*3+1,none⟩=some (.pointer (some ⟨p.a,0,none⟩))) 99 lE ⟨show(w.alloc _).drew.heap[w.heap.size]?=_ from HO.out,HC.out _ HB.out⟩ (fun qB=>?_)
 generalize hV0:(w.alloc (.cells (Qk 11 (a:Int) B C q0 q1 q2 q3 q4 q5 q6) 43)).drew=V at *
 clear hV0 HO
 refine tkp 0 7 rfl ?_
 refine tkp 1 8 rfl ?_
 refine tk 2 9 rfl lW ?_
 refine tkp 7 14 rfl ?_
 refine tk 8 15 rfl lX ?_
 refine t2 3 13 rfl rfl (fun K hK=>?a3) (fun K hK=>?b3)
 case' a3=>
  go_simp
  refine(HRU.out _ HB.out).mono ?_
  rintro x w' ⟨rfl,hw'⟩
  subst hw'
  refine hK.out _ _ (fun _=>qB) (fun _=>?_)
  clear hK K
  try simp only[pt,List.set]
  refine tkp 4 11 rfl ?_
  refine tkp 5 12 rfl ?_
  refine tk 6 13 rfl lY ?_
  refine t2 9 13 rfl rfl (fun K hK=>?a4) (fun K hK=>?b4)
 case' a4=>
  go_simp
  refine(HSM.out _ HB.out).mono ?_
  rintro x w1 ⟨d1,d2,e,rfl,hI⟩
  have hH1:=And.intro ((hI.1.same w.heap.size (gsi.1 qB.1).1 (fun h=>by have:=HLT.out _ h;omega)).trans qB.1) (HE.out _ w1 (hI.1.same P (Nat.lt_of_lt_of_le HPL.out HB.out.size) (fun h=>HSEP.out _ h rfl)) qB.2)
  refine hK.out _ _ (fun _=>hH1) (fun _=>?_)
  clear hK K
  try simp only[pt,List.set]
  refine tkp 10 6 rfl ?_
  refine tkp 11 17 rfl ?_
  refine tkp 12 18 rfl ?_
  refine t1 13 rfl (fun K hK=>?_)
  go_simp
  have hbl:=bn w1 (.cells (Qi 0 0) 45)
  have HI:=zA (IssY.after (.cells (Qi 0 0) 45) HB.out hI)
  have HGE:=zA (show w.heap.size≤w1.heap.size from Nat.le_trans HB.out.size hI.1.size)
  have HY:=zA (heap_alloc_new w1 (.cells (Qi 0 0) 45))
  have hH2:=And.intro (zC hH1.1 hbl) (HE.out _ _ (hbl.block P (Nat.lt_of_lt_of_le HPL.out HGE.out)) hH1.2)
  refine hK.out _ _ (fun _=>hH2) (fun _=>?_)
  clear hK K
  try simp only[pt,List.set]
  clear qB hbl hH1 hI
  generalize hU0:World.alloc w1 (.cells (Qi 0 0) 45)=U at *
  generalize hY0:w1.heap.size=Y at *
  clear hU0 hY0
 case' b4 | b3=>
  go_simp
  have HBL:=zA (bn V (.cells (Qi 0 0) 45))
  have HY:=zA (heap_alloc_new V (.cells (Qi 0 0) 45))
  have HGE:=zA (show w.heap.size≤V.heap.size from HB.out.size)
  have HB2:=zA ((HB.out.alloc HB.out.size (.cells (Qi 0 0) 45)))
  have hH3:=And.intro (zC qB.1 HBL.out) (HE.out V (V.alloc (.cells (Qi 0 0) 45)) (HBL.out.block P (Nat.lt_of_lt_of_le HPL.out HB.out.size)) qB.2)
  refine hK.out _ _ (fun _=>hH3) (fun _=>?_)
  clear hK K
  try simp only[pt,List.set]
  clear qB
  generalize hU0:V.alloc (.cells (Qi 0 0) 45)=U0 at *
  generalize hY0:V.heap.size=Y at *
  clear hU0 hY0
 case' b3=>
  refine t1 3 rfl (fun K hK=>?_)
  go_simp
  refine(HRU.out _ HB2.out).mono ?_
  rintro x w' ⟨rfl,hw'⟩
  subst hw'
  refine hK.out _ _ (fun _=>hH3) (fun _=>?_)
  clear hK K
  try simp only[pt,List.set]
  refine tkp 4 11 rfl ?_
  refine tkp 5 12 rfl ?_
  refine tk 6 13 rfl lY ?_
 case' b4 | b3=>
  refine t1 9 rfl (fun K hK=>?_)
  go_simp
  refine(HSM.out _ HB2.out).mono ?_
  rintro x w1 ⟨d1,d2,e,rfl,hI⟩
  have hH2:=And.intro ((hI.1.same w.heap.size (gsi.1 hH3.1).1 (fun h=>by have:=HLT.out _ h;omega)).trans hH3.1) (HE.out _ w1 (hI.1.same P (Nat.lt_of_lt_of_le HPL.out HB2.out.size) (fun h=>HSEP.out _ h rfl)) hH3.2)
  refine hK.out _ _ (fun _=>hH2) (fun _=>?_)
  clear hK K
  try simp only[pt,List.set]
  refine tkp 10 6 rfl ?_
  refine tkp 11 17 rfl ?_
  refine tkp 12 18 rfl ?_
  have HY1:=zA ((hI.1.same Y (gsi.1 HY.out).1 (fun h=>by have:=HLT.out _ h;have:=HGE.out;omega)).trans HY.out)
  have HI:=zA (IssY.before HB2.out hI HLT.out HGE.out (gsi.1 HY.out).1)
  clear hI HY hH3
  have HY:=HY1
  clear HY1
  generalize hU1:w1=U at *
  clear hU1
 all_goals
  have qB:=hH2
  clear hH2
  refine t1 14 rfl (fun K hK=>?_)
  rw[if_pos (by rfl)]
  refine yS 45 (.tmp 4) (.tmp 17) Y rfl rfl rfl rfl HY.out lE rfl lE ?_
  have ho:Off (fun g=>g=Y) U (World.setRow U Y (Qi d1 d2)):=(Off.refl (fun g=>g=Y) _).setRow (F:=fun g=>g=Y) Y (.inl rfl) _
  have HR:=zA (HI.out.done ho HY.out HLT.out HGE.out)
  have pE:w.heap.size≠Y:=fun e=>by
   have h1:=HY.out
   rw[←e,qB.1]at h1
   cases h1
  have hH3:=And.intro ((ho.same w.heap.size (gsi.1 qB.1).1 pE).trans qB.1) (HE.out _ _ (ho.same P (Nat.lt_of_lt_of_le HPL.out HI.out.1.size) (fun e=>by have e':P=Y:=e;have:=HGE.out;have:=HPL.out;omega)) qB.2)
  clear ho pE
  refine hK.out _ _ (fun _=>hH3) (fun _=>?_)
  clear hK K
  try simp only[pt,List.set]
  clear qB
  have qB:=hH3
  clear hH3
  refine tkp 15 5 rfl ?_
  clear qB
  refine wd ?_
  go_wp2_with fail
  by_cases he:e=0
  ·subst he
   refine(xY _).mono ?_
   rintro x w' ⟨rfl,rfl⟩
   go_wp2_with fail
   exact yG results30 ⟨0,.inl ⟨rfl,rfl⟩,HR.out⟩
  ·have he':(e != 0)=true:=by simpa using he
   exact nW
theorem smps_rep (work:Int) (node:Nat) {w:World} {l' l es:List Pl.Ev} (h:Rep w l' l) (hp:l.Perm es):(Pl.smps l' work node).length=(Pl.smps es work node).length:=by
 have hk:∀l:List Pl.Ev,(Pl.smps l work node).length=(Pl.smps (l.map Pl.Ev.abs) work node).length:=fun l=>by
  unfold Pl.smps
  rw[List.filter_map,List.length_map]
  rfl
 rw[hk l',h.1,←hk l]
 exact(hp.filter _).length_eq
theorem pol_of {e:Pl.Ev} (h:e.Ok) (hk:e.kind=2):e.polOk=true:=by
 have h1:=h.right
 unfold Pl.Ev.right at h1
 rw[hk]at h1
 simp only[Bool.and_eq_true]at h1
 have h2:=h1.2.2
 rw[if_neg (by decide),if_pos trivial]at h2
 simp only[Bool.and_eq_true]at h2
 exact h2.1
theorem aquery_none (Fs:Nat→Prop) (p:AgP) (c:Cf) (size:Int) (bs:List Int) (used upto:Int) (own:List Pl.Ev) (sd:List (Nat×Nat)) (es:List Pl.Ev) (clock:Int) (work:Int) (w:World) (h:AgAt Fs w p c size bs used upto own sd es clock) (hw:Pl.inside work 0 7=true) (hes:es.length≤80) (qQ:Pl.sets es work=[]) (hsm:∀node:Nat,node<8→(Pl.smps es work node).length≤1) :
  Calls prog 10 #[Qp p.a,.int .i64 work] w fun r w'=>∃l:List Pl.Ev,(∃m:List Pl.Ev,m.Perm es∧Same l m)∧r=.returned (.tuple #[.agg (Qb false 0 0 0 0 0 0 0 0 0 (Pl.loadOf l work c.win 8).1 (Pl.loadOf l work c.win 8).2 0),.int .i64 0])∧Below w.heap.size w w':=by
 have b1:=bn w (.cells (Qbm false) 47)
 have HX:=zA (heap_alloc_new w (.cells (Qbm false) 47))
 have HB:=zA b1
 have HA:=zA (fun (W:World) (hW:Below w.heap.size w W)=>h.below hW)
 have HW:=zA hw
 have HSM:=zA hsm
 have HOK:=zA (And.intro h.go.ok (And.intro hes (And.intro h.ok.win qQ)))
 clear b1 h hw hes qQ hsm
 go_enter func10,ntmps10
 go_wp2_with fail
 generalize w.alloc (.cells (Qbm false) 47)=W at *
 refine(yZ _ _ _ _).mono ?_
 rintro r w' ⟨rfl,rfl⟩
 rw[HW.out]
 go_wp2_with fail
 refine(sP Fs p c size bs used upto own sd es clock W (HA.out W HB.out)).mono ?_
 rintro r w1 ⟨v,m,rfl,hp,hord,⟨l,qC,hrp⟩,hb⟩
 have hrp:Rep w1 l m:=hrp
 obtain⟨aol,capl,rfl⟩:=qC.toT.form
 have b2:=bn w1 (.cells (Qbm false) 47)
 have HT2:=zA (heap_alloc_new w1 (.cells (Qbm false) 47))
 have HB2:=zA (HB.out.trans ((hb.trans (b2.mono hb.size)).mono HB.out.size))
 have HX2:=zA (zC (zC HX.out hb) b2)
 have HR2:=zA (qC.toT.below b2)
 have HP:=zA (show ∃m:List Pl.Ev,m.Perm es∧Same l m from⟨m,hp,hrp.1⟩)
 have hll:l.length=es.length:=hrp.len.trans hp.length_eq
 have hlo:∀x∈l,x.Ok:=hrp.ok (fun x hx=>HOK.out.1 x (hp.mem_iff.1 hx))
 have HI2:=zA (fun x hx=>(hrp.2 x hx).below b2)
 have HSN:=zA (fun (node:Nat) (hn:node<8)=>show(Pl.smps l work node).length≤1 by rw[smps_rep work node hrp hp];exact HSM.out node hn)
 have HL:=zA (And.intro hll hlo)
 have qW:=zA (show Pl.sets l work=[]from List.length_eq_zero_iff.1 (by rw[uA work hrp hp,HOK.out.2.2.2];rfl))
 have HTG:=zA (show w.heap.size<w1.heap.size from Nat.lt_of_lt_of_le (gsi.1 HX.out).1 hb.size)
 clear hp hord qC hrp hb b2 hll hlo HX HB
 go_wp2_with fail
 obtain⟨T7,hT7⟩:∃T7,T7=w1.heap.size:=⟨_,rfl⟩
 rw[←hT7]at HT2 HTG ⊢
 clear hT7
 generalize w1.alloc (.cells (Qbm false) 47)=w2 at *
 refine(winner_none _ l work w2 HR2.out.toC (by have:=HL.out.1;have:=HOK.out.2.1;omega) HL.out.2 HI2.out qW.out).mono ?_
 rintro r w3 ⟨rfl,hb⟩
 have ht3:=zC HT2.out hb
 have HB3:=zA (HB2.out.trans (hb.mono HB2.out.size))
 have HX3:=zA (zC HX2.out hb)
 have HR3:=zA (HR2.out.below hb)
 have f0:=zB ht3 0
 have f1:=zB ht3 1
 have f2:=zB ht3 2
 have f3:=zB ht3 3
 have f4:=zB ht3 4
 have f5:=zB ht3 5
 have f6:=zB ht3 6
 have f7:=zB ht3 7
 have f8:=zB ht3 8
 have f9:=zB ht3 9
 have y0:=cc 0 ht3
 have y1:=cc 1 ht3
 have y2:=cc 2 ht3
 have y3:=cc 3 ht3
 have y4:=cc 4 ht3
 have y5:=cc 5 ht3
 have y6:=cc 6 ht3
 have y7:=cc 7 ht3
 have y8:=cc 8 ht3
 have y9:=cc 9 ht3
 have hs:=zF (j:=0) (zF (j:=2) (zF (j:=1) (zF (j:=9) (zF (j:=8) (zF (j:=7) (zF (j:=6) (zF (j:=5) (zF (j:=4) (zF (j:=3) (ht3) (.int .i64 0)) (.int .i64 0)) (.int .i64 0)) (.int .i64 0)) (.int .i64 0)) (.int .i64 0)) (.int .i64 0)) (.int .i64 0)) (.int .i64 0)) (.bool false)
 simp only[List.setIfInBounds_toArray,List.set_cons_zero,List.set_cons_succ]at hs
 have ho:Off (fun g=>g=T7) w3 (World.setCell (World.setCell (World.setCell (World.setCell (World.setCell (World.setCell (World.setCell (World.setCell (World.setCell (World.setCell w3 ⟨T7,3,none⟩ (.int .i64 0)) ⟨T7,4,none⟩ (.int .i64 0)) ⟨T7,5,none⟩ (.int .i64 0)) ⟨T7,6,none⟩ (.int .i64 0)) ⟨T7,7,none⟩ (.int .i64 0)) ⟨T7,8,none⟩ (.int .i64 0)) ⟨T7,9,none⟩ (.int .i64 0)) ⟨T7,1,none⟩ (.int .i64 0)) ⟨T7,2,none⟩ (.int .i64 0)) ⟨T7,0,none⟩ (.bool false)):=((((((((((Off.refl (fun g=>g=T7) w3).set (a:=⟨T7,3,none⟩) (.inl rfl) (.int .i64 0)).set (a:=⟨T7,4,none⟩) (.inl rfl) (.int .i64 0)).set (a:=⟨T7,5,none⟩) (.inl rfl) (.int .i64 0)).set (a:=⟨T7,6,none⟩) (.inl rfl) (.int .i64 0)).set (a:=⟨T7,7,none⟩) (.inl rfl) (.int .i64 0)).set (a:=⟨T7,8,none⟩) (.inl rfl) (.int .i64 0)).set (a:=⟨T7,9,none⟩) (.inl rfl) (.int .i64 0)).set (a:=⟨T7,1,none⟩) (.inl rfl) (.int .i64 0)).set (a:=⟨T7,2,none⟩) (.inl rfl) (.int .i64 0)).set (a:=⟨T7,0,none⟩) (.inl rfl) (.bool false)
 have HT4:=zA hs
 have HB4:=zA (show Below w.heap.size w (World.setCell (World.setCell (World.setCell (World.setCell (World.setCell (World.setCell (World.setCell (World.setCell (World.setCell (World.setCell w3 ⟨T7,3,none⟩ (.int .i64 0)) ⟨T7,4,none⟩ (.int .i64 0)) ⟨T7,5,none⟩ (.int .i64 0)) ⟨T7,6,none⟩ (.int .i64 0)) ⟨T7,7,none⟩ (.int .i64 0)) ⟨T7,8,none⟩ (.int .i64 0)) ⟨T7,9,none⟩ (.int .i64 0)) ⟨T7,1,none⟩ (.int .i64 0)) ⟨T7,2,none⟩ (.int .i64 0)) ⟨T7,0,none⟩ (.bool false))from ho.since HB3.out (fun g hg=>by have e:g=T7:=hg;rw[e];exact Nat.le_of_lt HTG.out))
 have hne:w.heap.size≠T7:=Nat.ne_of_lt HTG.out
 have HX4:=zA ((ho.same _ (gsi.1 HX3.out).1 hne).trans HX3.out)
 have HR4:=zA (HR3.out.keepG (w':=(World.setCell (World.setCell (World.setCell (World.setCell (World.setCell (World.setCell (World.setCell (World.setCell (World.setCell (World.setCell w3 ⟨T7,3,none⟩ (.int .i64 0)) ⟨T7,4,none⟩ (.int .i64 0)) ⟨T7,5,none⟩ (.int .i64 0)) ⟨T7,6,none⟩ (.int .i64 0)) ⟨T7,7,none⟩ (.int .i64 0)) ⟨T7,8,none⟩ (.int .i64 0)) ⟨T7,9,none⟩ (.int .i64 0)) ⟨T7,1,none⟩ (.int .i64 0)) ⟨T7,2,none⟩ (.int .i64 0)) ⟨T7,0,none⟩ (.bool false))) (fun g hne hg=>ho.same g (by
  obtain⟨g',off,cp,e1,e2,_⟩:=HR3.out.cell (i:=0) (List.length_pos_iff.2 hne)
  rw[e1]at hg;cases hg;exact e2) (fun e=>by
  obtain⟨g',off,cs,fr,e1,e2,_⟩:∃g' off cs fr,aol=some ⟨g',off,none⟩∧w3.heap[g']?=some (Obj.cells cs 175 fr)∧True:=by
   exact mN
  rw[e1]at hg;cases hg
  rw[show g'=T7 from e,ht3]at e2;exact zH lF e2)))
 have HI4:=zA (fun x hx=>((HI2.out x hx).below hb).keep (w':=(World.setCell (World.setCell (World.setCell (World.setCell (World.setCell (World.setCell (World.setCell (World.setCell (World.setCell (World.setCell w3 ⟨T7,3,none⟩ (.int .i64 0)) ⟨T7,4,none⟩ (.int .i64 0)) ⟨T7,5,none⟩ (.int .i64 0)) ⟨T7,6,none⟩ (.int .i64 0)) ⟨T7,7,none⟩ (.int .i64 0)) ⟨T7,8,none⟩ (.int .i64 0)) ⟨T7,9,none⟩ (.int .i64 0)) ⟨T7,1,none⟩ (.int .i64 0)) ⟨T7,2,none⟩ (.int .i64 0)) ⟨T7,0,none⟩ (.bool false))) (Kd.one ho ht3 lF))
 clear ho hs hb HT2 HX2 HR2 HB2 HI2
 have hag:=(HA.out _ HB4.out).ag
 have x2:=cc 2 hag
 clear hag
 go_wp2_with fail
 clear f0 f1 f2 f3 f4 f5 f6 f7 f8 f9 y0 y1 y2 y3 y4 y5 y6 y7 y8 y9 x2
 clear ht3
 generalize (World.setCell (World.setCell (World.setCell (World.setCell (World.setCell (World.setCell (World.setCell (World.setCell (World.setCell (World.setCell w3 ⟨T7,3,none⟩ (.int .i64 0)) ⟨T7,4,none⟩ (.int .i64 0)) ⟨T7,5,none⟩ (.int .i64 0)) ⟨T7,6,none⟩ (.int .i64 0)) ⟨T7,7,none⟩ (.int .i64 0)) ⟨T7,8,none⟩ (.int .i64 0)) ⟨T7,9,none⟩ (.int .i64 0)) ⟨T7,1,none⟩ (.int .i64 0)) ⟨T7,2,none⟩ (.int .i64 0)) ⟨T7,0,none⟩ (.bool false))=w4 at *
 refine(load_ok _ l work c.win w4 HR4.out HOK.out.2.2.1 (by have:=HL.out.1;have:=HOK.out.2.1;omega) (fun x hx=>by obtain⟨n,s,_,hN⟩:=(HL.out.2 x hx).dot;exact hN.len) HI4.out (fun node hn=>HSN.out node hn)).mono ?_
 rintro r w5 ⟨rfl,hb⟩
 have HB5:=zA (HB4.out.trans (hb.mono HB4.out.size))
 have HX5:=zA (zC HX4.out hb)
 have ht5:=zC HT4.out hb
 have HPP:=zA (show Pl.loadOf l work c.win 8=Pl.loadOf l work c.win 8 from rfl)
 clear hb HB4 HX4 HT4 HR4 HR3 HX3 HB3 qW HA HPP
 generalize hL1:(Pl.loadOf l work c.win 8).1=L1 at *
 generalize hL2:(Pl.loadOf l work c.win 8).2=L2 at *
 have HLL:=zA (And.intro hL1 hL2)
 clear hL1 hL2
 have f10:=zB ht5 10
 have f11:=zB ht5 11
 have y10:=cc 10 ht5
 have y11:=cc 11 ht5
 have hs:=zF (j:=11) (zF (j:=10) (ht5) (.int .i64 L1)) (.int .i64 L2)
 simp only[List.setIfInBounds_toArray,List.set_cons_zero,List.set_cons_succ]at hs
 have ho:Off (fun g=>g=T7) w5 (World.setCell (World.setCell w5 ⟨T7,10,none⟩ (.int .i64 L1)) ⟨T7,11,none⟩ (.int .i64 L2)):=((Off.refl (fun g=>g=T7) w5).set (a:=⟨T7,10,none⟩) (.inl rfl) (.int .i64 L1)).set (a:=⟨T7,11,none⟩) (.inl rfl) (.int .i64 L2)
 have HT6:=zA hs
 have HB6:=zA (show Below w.heap.size w (World.setCell (World.setCell w5 ⟨T7,10,none⟩ (.int .i64 L1)) ⟨T7,11,none⟩ (.int .i64 L2))from ho.since HB5.out (fun g hg=>by have e:g=T7:=hg;rw[e];exact Nat.le_of_lt HTG.out))
 have HX6:=zA ((ho.same _ (gsi.1 HX5.out).1 (Nat.ne_of_lt HTG.out)).trans HX5.out)
 have z0:((World.setCell (World.setCell w5 ⟨T7,10,none⟩ (.int .i64 L1)) ⟨T7,11,none⟩ (.int .i64 L2))).cell? ⟨T7,0,none⟩=some (.bool false):=cc 0 HT6.out
 clear ho hs ht5 HX5 HB5
 have HB7:=zA (yF HB6.out (Nat.le_refl _) (Qb false 0 0 0 0 0 0 0 0 0 L1 L2 0))
 have HX7:=zA (yL HX6.out (Qb false 0 0 0 0 0 0 0 0 0 L1 L2 0))
 go_wp2_with (first
  | refine zI rfl 47 (.tmp 7) T7 (Qb false 0 0 0 0 0 0 0 0 0 L1 L2 0) 47 (0,0) _ rfl rfl HT6.out underlying47 rfl lE ?_
  | refine zR rfl 47 (.tmp 4) (.tmp 54) w.heap.size (Qbm false) (Qb false 0 0 0 0 0 0 0 0 0 L1 L2 0) 47 rfl rfl rfl rfl HX6.out lE rfl lE ?_)
 clear f10 f11 y10 y11 z0
 generalize World.setRow (World.setCell (World.setCell w5 ⟨T7,10,none⟩ (.int .i64 L1)) ⟨T7,11,none⟩ (.int .i64 L2)) w.heap.size (Qb false 0 0 0 0 0 0 0 0 0 L1 L2 0)=w7 at *
 have m0:=cc 0 HX7.out
 have m1:=cc 1 HX7.out
 have m2:=cc 2 HX7.out
 have m3:=cc 3 HX7.out
 have m4:=cc 4 HX7.out
 have m5:=cc 5 HX7.out
 have m6:=cc 6 HX7.out
 have m7:=cc 7 HX7.out
 have m8:=cc 8 HX7.out
 have m9:=cc 9 HX7.out
 have m10:=cc 10 HX7.out
 have m11:=cc 11 HX7.out
 have m12:=cc 12 HX7.out
 exact bodyPost_ret (v:=.tuple #[.agg (Qb false 0 0 0 0 0 0 0 0 0 L1 L2 0),.int .i64 0]) (by simp[results,results10,go_sem,m0,m1,m2,m3,m4,m5,m6,m7,m8,m9,m10,m11,m12]) rfl ⟨l,HP.out,by rw[HLL.out.1,HLL.out.2],HB7.out⟩
theorem sO (Fs:Nat→Prop) (p:AgP) (c:Cf) (size:Int) (bs:List Int) (used upto:Int) (own:List Pl.Ev) (sd:List (Nat×Nat)) (es:List Pl.Ev) (clock:Int) (work:Int) (w:World) (h:AgAt Fs w p c size bs used upto own sd es clock) (hw:Pl.inside work 0 7=true) (hes:es.length≤80) (qQ:Pl.sets es work≠[]) (hss:(Pl.sets es work).length<20) (hsm:∀node:Nat,node<8→(Pl.smps es work node).length≤1) :
  Calls prog 10 #[Qp p.a,.int .i64 work] w fun r w'=>∃(l:List Pl.Ev) (e:Pl.Ev),(∃m:List Pl.Ev,m.Perm es∧Same l m)∧e∈Pl.sets l work∧(∀y∈Pl.sets l work,y.key≤e.key)∧r=.returned (.tuple #[.agg (Qb true e.node e.seq e.mn e.mx e.goal e.slack e.up e.down e.cool (Pl.loadOf l work c.win 8).1 (Pl.loadOf l work c.win 8).2 (Pl.askedQ e (Pl.loadOf l work c.win 8).1)),.int .i64 0])∧Below w.heap.size w w':=by
 have b1:=bn w (.cells (Qbm false) 47)
 have HX:=zA (heap_alloc_new w (.cells (Qbm false) 47))
 have HB:=zA b1
 have HA:=zA (fun (W:World) (hW:Below w.heap.size w W)=>h.below hW)
 have HW:=zA hw
 have HSM:=zA hsm
 have HOK:=zA (And.intro h.go.ok (And.intro hes (And.intro h.ok.win qQ)))
 have HSS:=zA hss
 clear b1 h hw hes qQ hss hsm
 go_enter func10,ntmps10
 go_wp2_with fail
 generalize w.alloc (.cells (Qbm false) 47)=W at *
 refine(yZ _ _ _ _).mono ?_
 rintro r w' ⟨rfl,rfl⟩
 rw[HW.out]
 go_wp2_with fail
 refine(sP Fs p c size bs used upto own sd es clock W (HA.out W HB.out)).mono ?_
 rintro r w1 ⟨v,m,rfl,hp,hord,⟨l,qC,hrp⟩,hb⟩
 have hrp:Rep w1 l m:=hrp
 obtain⟨aol,capl,rfl⟩:=qC.toT.form
 have b2:=bn w1 (.cells (Qbm false) 47)
 have HT2:=zA (heap_alloc_new w1 (.cells (Qbm false) 47))
 have HB2:=zA (HB.out.trans ((hb.trans (b2.mono hb.size)).mono HB.out.size))
 have HX2:=zA (zC (zC HX.out hb) b2)
 have HR2:=zA (qC.toT.below b2)
 have HP:=zA (show ∃m:List Pl.Ev,m.Perm es∧Same l m from⟨m,hp,hrp.1⟩)
 have hll:l.length=es.length:=hrp.len.trans hp.length_eq
 have hlo:∀x∈l,x.Ok:=hrp.ok (fun x hx=>HOK.out.1 x (hp.mem_iff.1 hx))
 have HI2:=zA (fun x hx=>(hrp.2 x hx).below b2)
 have HSN:=zA (fun (node:Nat) (hn:node<8)=>show(Pl.smps l work node).length≤1 by rw[smps_rep work node hrp hp];exact HSM.out node hn)
 have HL:=zA (And.intro hll hlo)
 have hsl:=uA work hrp hp
 have qW:=zA (show(Pl.sets l work).length<20∧Pl.sets l work≠[]from⟨by rw[hsl];exact HSS.out,fun h0=>HOK.out.2.2.2 (List.length_eq_zero_iff.1 (by rw[←hsl,h0];rfl))⟩)
 clear hsl
 have HTG:=zA (show w.heap.size<w1.heap.size from Nat.lt_of_lt_of_le (gsi.1 HX.out).1 hb.size)
 clear hp hord qC hrp hb b2 hll hlo HX HB
 go_wp2_with fail
 obtain⟨T7,hT7⟩:∃T7,T7=w1.heap.size:=⟨_,rfl⟩
 rw[←hT7]at HT2 HTG ⊢
 clear hT7
 generalize w1.alloc (.cells (Qbm false) 47)=w2 at *
 refine(winner_one _ l work w2 HR2.out.toC (by have:=HL.out.1;have:=HOK.out.2.1;omega) HL.out.2 HI2.out qW.out.1 qW.out.2).mono ?_
 rintro r w3 ⟨e,hem,hmx,rfl,hb⟩
 have HEM:=zA (And.intro hem hmx)
 have HPOL:=zA (pol_of (HL.out.2 e (List.mem_filter.1 hem).1) (by have:=(List.mem_filter.1 hem).2;simp only[Bool.and_eq_true,beq_iff_eq]at this;exact this.1))
 clear hem hmx
 have ht3:=zC HT2.out hb
 have HB3:=zA (HB2.out.trans (hb.mono HB2.out.size))
 have HX3:=zA (zC HX2.out hb)
 have HR3:=zA (HR2.out.below hb)
 have f0:=zB ht3 0
 have f1:=zB ht3 1
 have f2:=zB ht3 2
 have f3:=zB ht3 3
 have f4:=zB ht3 4
 have f5:=zB ht3 5
 have f6:=zB ht3 6
 have f7:=zB ht3 7
 have f8:=zB ht3 8
 have f9:=zB ht3 9
 have y0:=cc 0 ht3
 have y1:=cc 1 ht3
 have y2:=cc 2 ht3
 have y3:=cc 3 ht3
 have y4:=cc 4 ht3
 have y5:=cc 5 ht3
 have y6:=cc 6 ht3
 have y7:=cc 7 ht3
 have y8:=cc 8 ht3
 have y9:=cc 9 ht3
 have hs:=zF (j:=0) (zF (j:=2) (zF (j:=1) (zF (j:=9) (zF (j:=8) (zF (j:=7) (zF (j:=6) (zF (j:=5) (zF (j:=4) (zF (j:=3) (ht3) (.int .i64 e.mn)) (.int .i64 e.mx)) (.int .i64 e.goal)) (.int .i64 e.slack)) (.int .i64 e.up)) (.int .i64 e.down)) (.int .i64 e.cool)) (.int .i64 e.node)) (.int .i64 e.seq)) (.bool true)
 simp only[List.setIfInBounds_toArray,List.set_cons_zero,List.set_cons_succ]at hs
 have ho:Off (fun g=>g=T7) w3 (World.setCell (World.setCell (World.setCell (World.setCell (World.setCell (World.setCell (World.setCell (World.setCell (World.setCell (World.setCell w3 ⟨T7,3,none⟩ (.int .i64 e.mn)) ⟨T7,4,none⟩ (.int .i64 e.mx)) ⟨T7,5,none⟩ (.int .i64 e.goal)) ⟨T7,6,none⟩ (.int .i64 e.slack)) ⟨T7,7,none⟩ (.int .i64 e.up)) ⟨T7,8,none⟩ (.int .i64 e.down)) ⟨T7,9,none⟩ (.int .i64 e.cool)) ⟨T7,1,none⟩ (.int .i64 e.node)) ⟨T7,2,none⟩ (.int .i64 e.seq)) ⟨T7,0,none⟩ (.bool true)):=((((((((((Off.refl (fun g=>g=T7) w3).set (a:=⟨T7,3,none⟩) (.inl rfl) (.int .i64 e.mn)).set (a:=⟨T7,4,none⟩) (.inl rfl) (.int .i64 e.mx)).set (a:=⟨T7,5,none⟩) (.inl rfl) (.int .i64 e.goal)).set (a:=⟨T7,6,none⟩) (.inl rfl) (.int .i64 e.slack)).set (a:=⟨T7,7,none⟩) (.inl rfl) (.int .i64 e.up)).set (a:=⟨T7,8,none⟩) (.inl rfl) (.int .i64 e.down)).set (a:=⟨T7,9,none⟩) (.inl rfl) (.int .i64 e.cool)).set (a:=⟨T7,1,none⟩) (.inl rfl) (.int .i64 e.node)).set (a:=⟨T7,2,none⟩) (.inl rfl) (.int .i64 e.seq)).set (a:=⟨T7,0,none⟩) (.inl rfl) (.bool true)
 have HT4:=zA hs
 have HB4:=zA (show Below w.heap.size w (World.setCell (World.setCell (World.setCell (World.setCell (World.setCell (World.setCell (World.setCell (World.setCell (World.setCell (World.setCell w3 ⟨T7,3,none⟩ (.int .i64 e.mn)) ⟨T7,4,none⟩ (.int .i64 e.mx)) ⟨T7,5,none⟩ (.int .i64 e.goal)) ⟨T7,6,none⟩ (.int .i64 e.slack)) ⟨T7,7,none⟩ (.int .i64 e.up)) ⟨T7,8,none⟩ (.int .i64 e.down)) ⟨T7,9,none⟩ (.int .i64 e.cool)) ⟨T7,1,none⟩ (.int .i64 e.node)) ⟨T7,2,none⟩ (.int .i64 e.seq)) ⟨T7,0,none⟩ (.bool true))from ho.since HB3.out (fun g hg=>by have e:g=T7:=hg;rw[e];exact Nat.le_of_lt HTG.out))
 have hne:w.heap.size≠T7:=Nat.ne_of_lt HTG.out
 have HX4:=zA ((ho.same _ (gsi.1 HX3.out).1 hne).trans HX3.out)
 have HR4:=zA (HR3.out.keepG (w':=(World.setCell (World.setCell (World.setCell (World.setCell (World.setCell (World.setCell (World.setCell (World.setCell (World.setCell (World.setCell w3 ⟨T7,3,none⟩ (.int .i64 e.mn)) ⟨T7,4,none⟩ (.int .i64 e.mx)) ⟨T7,5,none⟩ (.int .i64 e.goal)) ⟨T7,6,none⟩ (.int .i64 e.slack)) ⟨T7,7,none⟩ (.int .i64 e.up)) ⟨T7,8,none⟩ (.int .i64 e.down)) ⟨T7,9,none⟩ (.int .i64 e.cool)) ⟨T7,1,none⟩ (.int .i64 e.node)) ⟨T7,2,none⟩ (.int .i64 e.seq)) ⟨T7,0,none⟩ (.bool true))) (fun g hne hg=>ho.same g (by
  obtain⟨g',off,cp,e1,e2,_⟩:=HR3.out.cell (i:=0) (List.length_pos_iff.2 hne)
  rw[e1]at hg;cases hg;exact e2) (fun e=>by
  obtain⟨g',off,cs,fr,e1,e2,_⟩:∃g' off cs fr,aol=some ⟨g',off,none⟩∧w3.heap[g']?=some (Obj.cells cs 175 fr)∧True:=by
   exact mN
  rw[e1]at hg;cases hg
  rw[show g'=T7 from e,ht3]at e2;exact zH lF e2)))
 have HI4:=zA (fun x hx=>((HI2.out x hx).below hb).keep (w':=(World.setCell (World.setCell (World.setCell (World.setCell (World.setCell (World.setCell (World.setCell (World.setCell (World.setCell (World.setCell w3 ⟨T7,3,none⟩ (.int .i64 e.mn)) ⟨T7,4,none⟩ (.int .i64 e.mx)) ⟨T7,5,none⟩ (.int .i64 e.goal)) ⟨T7,6,none⟩ (.int .i64 e.slack)) ⟨T7,7,none⟩ (.int .i64 e.up)) ⟨T7,8,none⟩ (.int .i64 e.down)) ⟨T7,9,none⟩ (.int .i64 e.cool)) ⟨T7,1,none⟩ (.int .i64 e.node)) ⟨T7,2,none⟩ (.int .i64 e.seq)) ⟨T7,0,none⟩ (.bool true))) (Kd.one ho ht3 lF))
 clear ho hs hb HT2 HX2 HR2 HB2 HI2
 have hag:=(HA.out _ HB4.out).ag
 have x2:=cc 2 hag
 clear hag
 go_wp2_with fail
 clear f0 f1 f2 f3 f4 f5 f6 f7 f8 f9 y0 y1 y2 y3 y4 y5 y6 y7 y8 y9 x2
 clear ht3
 generalize (World.setCell (World.setCell (World.setCell (World.setCell (World.setCell (World.setCell (World.setCell (World.setCell (World.setCell (World.setCell w3 ⟨T7,3,none⟩ (.int .i64 e.mn)) ⟨T7,4,none⟩ (.int .i64 e.mx)) ⟨T7,5,none⟩ (.int .i64 e.goal)) ⟨T7,6,none⟩ (.int .i64 e.slack)) ⟨T7,7,none⟩ (.int .i64 e.up)) ⟨T7,8,none⟩ (.int .i64 e.down)) ⟨T7,9,none⟩ (.int .i64 e.cool)) ⟨T7,1,none⟩ (.int .i64 e.node)) ⟨T7,2,none⟩ (.int .i64 e.seq)) ⟨T7,0,none⟩ (.bool true))=w4 at *
 refine(load_ok _ l work c.win w4 HR4.out HOK.out.2.2.1 (by have:=HL.out.1;have:=HOK.out.2.1;omega) (fun x hx=>by obtain⟨n,s,_,hN⟩:=(HL.out.2 x hx).dot;exact hN.len) HI4.out (fun node hn=>HSN.out node hn)).mono ?_
 rintro r w5 ⟨rfl,hb⟩
 have HB5:=zA (HB4.out.trans (hb.mono HB4.out.size))
 have HX5:=zA (zC HX4.out hb)
 have ht5:=zC HT4.out hb
 have HPP:=zA (show Pl.loadOf l work c.win 8=Pl.loadOf l work c.win 8 from rfl)
 clear hb HB4 HX4 HT4 HR4 HR3 HX3 HB3 qW HA HPP
 generalize hL1:(Pl.loadOf l work c.win 8).1=L1 at *
 generalize hL2:(Pl.loadOf l work c.win 8).2=L2 at *
 have HLL:=zA (And.intro hL1 hL2)
 clear hL1 hL2
 have f10:=zB ht5 10
 have f11:=zB ht5 11
 have y10:=cc 10 ht5
 have y11:=cc 11 ht5
 have hs:=zF (j:=11) (zF (j:=10) (ht5) (.int .i64 L1)) (.int .i64 L2)
 simp only[List.setIfInBounds_toArray,List.set_cons_zero,List.set_cons_succ]at hs
 have ho:Off (fun g=>g=T7) w5 (World.setCell (World.setCell w5 ⟨T7,10,none⟩ (.int .i64 L1)) ⟨T7,11,none⟩ (.int .i64 L2)):=((Off.refl (fun g=>g=T7) w5).set (a:=⟨T7,10,none⟩) (.inl rfl) (.int .i64 L1)).set (a:=⟨T7,11,none⟩) (.inl rfl) (.int .i64 L2)
 have HT6:=zA hs
 have HB6:=zA (show Below w.heap.size w (World.setCell (World.setCell w5 ⟨T7,10,none⟩ (.int .i64 L1)) ⟨T7,11,none⟩ (.int .i64 L2))from ho.since HB5.out (fun g hg=>by have e:g=T7:=hg;rw[e];exact Nat.le_of_lt HTG.out))
 have HX6:=zA ((ho.same _ (gsi.1 HX5.out).1 (Nat.ne_of_lt HTG.out)).trans HX5.out)
 have z0:((World.setCell (World.setCell w5 ⟨T7,10,none⟩ (.int .i64 L1)) ⟨T7,11,none⟩ (.int .i64 L2))).cell? ⟨T7,0,none⟩=some (.bool true):=cc 0 HT6.out
 clear ho hs ht5 HX5 HB5
 have u3:=cc 3 HT6.out
 have u4:=cc 4 HT6.out
 have u5:=cc 5 HT6.out
 have u6:=cc 6 HT6.out
 have u7:=cc 7 HT6.out
 have u8:=cc 8 HT6.out
 have u9:=cc 9 HT6.out
 have u10:=cc 10 HT6.out
 go_wp2_with fail
 clear f10 f11 y10 y11 z0 u3 u4 u5 u6 u7 u8 u9 u10
 generalize (World.setCell (World.setCell w5 ⟨T7,10,none⟩ (.int .i64 L1)) ⟨T7,11,none⟩ (.int .i64 L2))=w6 at *
 refine(asked_ok e L1 w6 HPOL.out).mono ?_
 rintro r w7 ⟨rfl,hb⟩
 have ht7:=zC HT6.out hb
 have HB7:=zA (HB6.out.trans (hb.mono HB6.out.size))
 have HX7:=zA (zC HX6.out hb)
 have f12:=zB ht7 12
 have y12:=cc 12 ht7
 have hs:=zF (j:=12) ht7 (.int .i64 (Pl.askedQ e L1))
 simp only[List.setIfInBounds_toArray,List.set_cons_zero,List.set_cons_succ]at hs
 have ho:Off (fun g=>g=T7) w7 (w7.setCell ⟨T7,12,none⟩ (.int .i64 (Pl.askedQ e L1))):=(Off.refl (fun g=>g=T7) w7).set (a:=⟨T7,12,none⟩) (.inl rfl) _
 have HT8:=zA hs
 have HB8:=zA (show Below w.heap.size w (w7.setCell ⟨T7,12,none⟩ (.int .i64 (Pl.askedQ e L1)))from ho.since HB7.out (fun g hg=>by have e:g=T7:=hg;rw[e];exact Nat.le_of_lt HTG.out))
 have HX8:=zA ((ho.same _ (gsi.1 HX7.out).1 (Nat.ne_of_lt HTG.out)).trans HX7.out)
 clear ho hs ht7 hb HX6 HB6 HT6 HX7 HB7
 have HB9:=zA (yF HB8.out (Nat.le_refl _) (Qb true e.node e.seq e.mn e.mx e.goal e.slack e.up e.down e.cool L1 L2 (Pl.askedQ e L1)))
 have HX9:=zA (yL HX8.out (Qb true e.node e.seq e.mn e.mx e.goal e.slack e.up e.down e.cool L1 L2 (Pl.askedQ e L1)))
 go_wp2_with (first
  | refine zI rfl 47 (.tmp 7) T7 (Qb true e.node e.seq e.mn e.mx e.goal e.slack e.up e.down e.cool L1 L2 (Pl.askedQ e L1)) 47 (0,0) _ rfl rfl HT8.out underlying47 rfl lE ?_
  | refine zR rfl 47 (.tmp 4) (.tmp 54) w.heap.size (Qbm false) (Qb true e.node e.seq e.mn e.mx e.goal e.slack e.up e.down e.cool L1 L2 (Pl.askedQ e L1)) 47 rfl rfl rfl rfl HX8.out lE rfl lE ?_)
 clear f12 y12
 generalize World.setRow (w7.setCell ⟨T7,12,none⟩ (.int .i64 (Pl.askedQ e L1))) w.heap.size (Qb true e.node e.seq e.mn e.mx e.goal e.slack e.up e.down e.cool L1 L2 (Pl.askedQ e L1))=w9 at *
 have m0:=cc 0 HX9.out
 have m1:=cc 1 HX9.out
 have m2:=cc 2 HX9.out
 have m3:=cc 3 HX9.out
 have m4:=cc 4 HX9.out
 have m5:=cc 5 HX9.out
 have m6:=cc 6 HX9.out
 have m7:=cc 7 HX9.out
 have m8:=cc 8 HX9.out
 have m9:=cc 9 HX9.out
 have m10:=cc 10 HX9.out
 have m11:=cc 11 HX9.out
 have m12:=cc 12 HX9.out
 exact bodyPost_ret (v:=.tuple #[.agg (Qb true e.node e.seq e.mn e.mx e.goal e.slack e.up e.down e.cool L1 L2 (Pl.askedQ e L1)),.int .i64 0]) (by simp[results,results10,go_sem,m0,m1,m2,m3,m4,m5,m6,m7,m8,m9,m10,m11,m12]) rfl ⟨l,e,HP.out,HEM.out.1,HEM.out.2,by rw[HLL.out.1,HLL.out.2],HB9.out⟩
end
end Go.Proofs.YtodlmbfbfaofcaaGreat
