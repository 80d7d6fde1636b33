/- TopLoads, part 47. -/
import Derived.Test.YtodlmbfbfaofcaaGreatM01
import Derived.Test.YtodlmbfbfaofcaaGreatM03
import Derived.Test.YtodlmbfbfaofcaaGreatM05
import Derived.Test.YtodlmbfbfaofcaaGreatM07
import Derived.Test.YtodlmbfbfaofcaaGreatM44
import Derived.Test.YtodlmbfbfaofcaaGreatM46
open Go.Proofs.Tryz
namespace Go.Proofs.YtodlmbfbfaofcaaGreat
set_option linter.unusedVariables false
set_option linter.unusedSimpArgs false
set_option maxRecDepth 100000
set_option maxHeartbeats 4000000
section
open Go.RowKit Rw Rh
theorem first_ok (n s t:Nat) (hn:n<8) (hs:1≤s∧s≤96) (ht:1≤t∧t≤1000):(Pl.Ev.mk n s t 2 2 0 0 9 10 0 2 1 0).Ok:=
 ⟨⟨n,s,rfl,rfl,hn,hs.1,hs.2⟩,by unfold Pl.Ev.right;rw[zM (by dsimp only;omega) (by dsimp only;omega)];rfl,.inr rfl⟩
theorem aset_ok (Fs:Nat→Prop) (p:AgP) (c:Cf) (size:Int) (k:Nat) (w:World) (h:AgS Fs w p c size k []) (hk:k≤90) :
  Calls prog 83 #[Qp p.a,.int .i64 2,.agg (Qg 0 9 10 0 2 1 0)] w fun r w'=>∃d1 d2 x,r=.returned (.tuple #[.agg (Qi d1 d2),.int .i64 x])∧Issued Fs w p c size k [] (fun e=>∃s t:Nat,e=Pl.Ev.mk c.n s t 2 2 0 0 9 10 0 2 1 0) x w':=by
 have b0:=bn w (.cells (Qg 0 9 10 0 2 1 0) 38)
 have b1:=b0.alloc b0.size (.cells (Qi 0 0) 45)
 have hs1:(w.alloc (.cells (Qg 0 9 10 0 2 1 0) 38)).heap.size=w.heap.size+1:=zE _ _
 have hX:=heap_alloc_new (w.alloc (.cells (Qg 0 9 10 0 2 1 0) 38)) (.cells (Qi 0 0) 45)
 rw[hs1]at hX
 have HX:=zA hX
 have hY:=zC (heap_alloc_new w (.cells (Qg 0 9 10 0 2 1 0) 38)) (bn _ (.cells (Qi 0 0) 45))
 have HYY:=zA hY
 have HB:=zA b1
 have hlt:∀g,Fs g∨p.has g→g<w.heap.size:=fun g hg=>h.lt g hg
 have HLT:=zA hlt
 have h1:AgS Fs ((w.alloc (.cells (Qg 0 9 10 0 2 1 0) 38)).alloc (.cells (Qi 0 0) 45)) p c size k []:=h.keep b1.size (fun g hg=>b1.block g (hlt g hg))
 have hcn:c.n<8:=by
  obtain⟨bs,u,m,clock,hA,_⟩:=h.st
  exact hA.ok.n
 have HI:Hid (Calls prog 148 #[Qp p.a,.agg (Qe 0 0 0 2 2 0 0 9 10 0 2 1 0)] ((w.alloc (.cells (Qg 0 9 10 0 2 1 0) 38)).alloc (.cells (Qi 0 0) 45)) fun r w'=>∃d1 d2 x,r=.returned (.tuple #[.agg (Qi d1 d2),.int .i64 x])∧Issued Fs ((w.alloc (.cells (Qg 0 9 10 0 2 1 0) 38)).alloc (.cells (Qi 0 0) 45)) p c size k [] (fun e=>∃s t:Nat,e=Pl.Ev.mk c.n s t 2 2 0 0 9 10 0 2 1 0) x w'):=zA (by
  refine(sQ Fs p c size k [] (Pl.Ev.mk 0 0 0 2 2 0 0 9 10 0 2 1 0) _ h1 hk (fun s t h1 h2 h3 h4=>first_ok c.n s t hcn ⟨h1,h2⟩ ⟨h3,h4⟩) (fun W=>(wN (Pl.Ev.mk c.n 1 1 2 2 0 0 9 10 0 2 1 0) c.n 1 W ⟨rfl,rfl,hcn,by decide,by decide⟩ (.inr ⟨rfl,by rfl⟩)).mono (by
    rintro r w' ⟨rfl,hb'⟩
    exact⟨rfl,hb'⟩)) (fun bs u m clock W E hA hE=>sZ Fs p c size bs u m clock E W hA hE)).mono ?_
  rintro r w' ⟨d1,d2,x,rfl,hof,Fs',hsub,hcase⟩
  refine⟨d1,d2,x,rfl,hof,Fs',hsub,?_⟩
  rcases hcase with⟨⟨hx,hz⟩,h⟩ | ⟨hx,e,⟨_,_,_,s,t,rfl⟩,hn,hS⟩
  ·exact .inl ⟨⟨hx,fun _=>hz ⟨({ (Pl.Ev.mk 0 0 0 2 2 0 0 9 10 0 2 1 0)with node:=c.n,seq:=((1:Nat):Int),time:=((1:Nat):Int)}:Pl.Ev),rfl,rfl,rfl,1,1,rfl⟩⟩,h⟩
  ·exact .inr ⟨hx,_,⟨s,t,rfl⟩,hn,hS⟩)
 clear b0 b1 h h1 hlt hcn hk hX hY
 go_enter func83,ntmps83
 go_wp2_with (refine zH rfl 38 (.tmp 5) w.heap.size (Qg 0 9 10 0 2 1 0) 38 (0,0) _ rfl rfl HYY.out underlying38 rfl (by kernel_rfl) ?_)
 refine HI.out.mono ?_
 rintro r w2 ⟨d1,d2,x,rfl,hof,Fs',hsub,hcase⟩
 have hx2:=(hof.same (w.heap.size+1) (gsi.1 HX.out).1 (fun h=>by have:=HLT.out _ h;omega)).trans HX.out
 have f0:=zB hx2 0
 have f1:=zB hx2 1
 have y0:=cc 0 hx2
 have y1:=cc 1 hx2
 have hd:=zG (j:=1) (zG (j:=0) hx2 (.int .i64 d1)) (.int .i64 d2)
 simp only[List.setIfInBounds_toArray,List.set_cons_zero,List.set_cons_succ]at hd
 have ho:Off (fun g=>g=w.heap.size+1) w2 ((w2.setCell ⟨w.heap.size+1,0,none⟩ (.int .i64 d1)).setCell ⟨w.heap.size+1,1,none⟩ (.int .i64 d2)):=((Off.refl (fun g=>g=w.heap.size+1) w2).set (a:=⟨w.heap.size+1,0,none⟩) (.inl rfl) _).set (a:=⟨w.heap.size+1,1,none⟩) (.inl rfl) _
 have hsz:((w.alloc (.cells (Qg 0 9 10 0 2 1 0) 38)).alloc (.cells (Qi 0 0) 45)).heap.size=w.heap.size+2:=by rw[zE,zE]
 have hkp:∀{k'} {es'},AgS Fs' w2 p c size k' es'→AgS Fs' _ p c size k' es':=fun hS=>hS.keep ho.size (fun g hg=>ho.same g (by
  obtain⟨bs,u,m,clock,hA,_⟩:=hS.st
  exact hg.elim (hA.lt g) (hA.hlt g)) (fun e=>by
  have e':g=w.heap.size+1:=e
  rcases hg with hg | hg
  ·rcases hsub g hg with h | h
   ·have:=HLT.out g (.inl h);omega
   ·omega
  ·have:=HLT.out g (.inr hg);omega))
 have HR:=zA (show Issued Fs w p c size k [] (fun e=>∃s t:Nat,e=Pl.Ev.mk c.n s t 2 2 0 0 9 10 0 2 1 0) x _ from⟨((Off.of_below HB.out).trans hof |> fun h=>(h.set (a:=⟨w.heap.size+1,0,none⟩) (.inr (Nat.le_succ _)) (.int .i64 d1)).set (a:=⟨w.heap.size+1,1,none⟩) (.inr (Nat.le_succ _)) (.int .i64 d2)),Fs',fun g hg=>(hsub g hg).imp id (fun h=>by omega),hcase.imp (fun h=>⟨h.1,hkp h.2⟩) (fun h=>⟨h.1,by
  obtain⟨e,e1,e2,e3⟩:=h.2
  exact⟨e,e1,e2,hkp e3⟩⟩)⟩)
 have HD:=zA hd
 clear hx2 hof hsub hcase hd ho hsz hkp HI
 go_wp2_with fail
 have z0:=cc 0 HD.out
 have z1:=cc 1 HD.out
 exact bodyPost_ret (v:=.tuple #[.agg (Qi d1 d2),.int .i64 x]) (by simp[results,results83,go_sem,z0,z1]) rfl ⟨d1,d2,x,rfl,HR.out⟩
theorem op_range {w:World} {O:Nat} {k A B C q0 q1 q2 q3 q4 q5 q6:Int} {fr:Nat×Nat} (h:w.heap[O]?=some (.cells (Qk k A B C q0 q1 q2 q3 q4 q5 q6) 43 fr)):w.rangeAt O 4 [.int .i64 q0,.int .i64 q1,.int .i64 q2,.int .i64 q3,.int .i64 q4,.int .i64 q5,.int .i64 q6]:=fun j v hv=>by
 match j,hv with
 | 0,hv=>cases hv;simp[World.cell?,h]
 | 1,hv=>cases hv;simp[World.cell?,h]
 | 2,hv=>cases hv;simp[World.cell?,h]
 | 3,hv=>cases hv;simp[World.cell?,h]
 | 4,hv=>cases hv;simp[World.cell?,h]
 | 5,hv=>cases hv;simp[World.cell?,h]
 | 6,hv=>cases hv;simp[World.cell?,h]
theorem wset_ok (W P:Nat) (K:Wc) (d r:Nat→Value) (a:Nat) (C:Int) (Fs:Nat→Prop) (p:AgP) (c:Cf) (size:Int) (k:Nat) (w:World) (h:WdAt w W P K d r) (ha:a<K.n) (hr:r a=.pointer (some ⟨p.a,0,none⟩)) (hS:AgS Fs w p c size k []) (hk:k≤90) (hsep:∀g,Fs g∨p.has g→g≠P) :
  Calls prog 29 #[Qp W,.agg (Qk 10 (a:Int) 2 C 0 9 10 0 2 1 0)] w fun x w'=>∃e,(x=.returned (.tuple #[])∧e=0∨(e != 0)=true∧x=.panicked [{v:=.iface 140 (.agg (Qo e)),recovered:=false}])∧Issued Fs w p c size k [] (fun e=>∃s t:Nat,e=Pl.Ev.mk c.n s t 2 2 0 0 9 10 0 2 1 0) e w':=by
 have b0:=bn w (.cells (Qk 10 (a:Int) 2 C 0 9 10 0 2 1 0) 43)
 have HO:=zA (heap_alloc_new w (.cells (Qk 10 (a:Int) 2 C 0 9 10 0 2 1 0) 43))
 have HLT:=zA hS.lt
 have HSEP:=zA hsep
 have HPL:=zA h.lt.2
 have HS:=zA (show ∀V,Below w.heap.size w V→AgS Fs V p c size k []from fun V hV=>hS.keep hV.size (fun g hg=>hV.block g (hS.lt g hg)))
 have HSM:=zA (fun V hV=>aset_ok Fs p c size k V (HS.out V hV) hk)
 have HRU:=zA (fun V (hV:Below w.heap.size w V)=>vW W P K d r a _ V (h.below hV) ha hr)
 have HC:=zA (show ∀V,Below w.heap.size w V→V.cell? ⟨P,a*3+1,none⟩=some (.pointer (some ⟨p.a,0,none⟩))from fun V hV=>by rw[(h.below hV).runs ha,hr])
 have HB:=zA b0.drew
 have HBV:=zA b0
 have HE:=zA (show ∀V V':World,V'.heap[P]?=V.heap[P]?→V.cell? ⟨P,a*3+1,none⟩=some (.pointer (some ⟨p.a,0,none⟩))→V'.cell? ⟨P,a*3+1,none⟩=some (.pointer (some ⟨p.a,0,none⟩))from fun V V' e h=>(World.cell?_of_block (a:=⟨P,a*3+1,none⟩) e).trans h)
 clear b0 h hS hsep
 go_enter func29,ntmps29
 go_wp2_with fail
 generalize hV0:w.alloc (.cells (Qk 10 (a:Int) 2 C 0 9 10 0 2 1 0) 43)=V at *
 clear hV0
 refine zD (fun W'=>W'.heap[w.heap.size]?=some (.cells (Qk 10 (a:Int) 2 C 0 9 10 0 2 1 0) 43 (0,0))∧W'.cell? ⟨P,a*3+1,none⟩=some (.pointer (some ⟨p.a,0,none⟩))) 99 (by kernel_rfl) ⟨HO.out,HC.out V.drew HB.out⟩ (fun rV=>?_)
 refine tkp 0 7 rfl ?_
 refine tkp 1 8 rfl ?_
 refine tk 2 9 rfl (by intro wS hSw;obtain⟨hx,hy⟩:=id hSw;have x1:=cc 1 hx;have x2:=cc 2 hx;have x3:=cc 3 hx;clear hSw;go_simp;(try with_reducible rfl)) ?_
 refine tkp 7 14 rfl ?_
 refine tk 8 15 rfl (by intro wS hSw;obtain⟨hx,hy⟩:=id hSw;have x1:=cc 1 hx;have x2:=cc 2 hx;have x3:=cc 3 hx;clear hSw;go_simp;(try with_reducible rfl)) ?_
 refine tkp 9 16 rfl ?_
 refine tk 10 17 rfl (fun wS hSw=>tB 38 (.tmp 16) w.heap.size 4 rfl rfl _ _ (op_range hSw.1) underlying38 rfl (by kernel_rfl)) ?_
 refine t2 3 15 rfl rfl (fun K hK=>?_) (fun K hK=>?_)
 ·go_simp
  refine(HRU.out _ HB.out).mono ?_
  rintro x w' ⟨rfl,hw'⟩
  subst hw'
  refine hK.out _ _ (fun _=>rV) (fun _=>?_)
  clear hK K
  try simp only[pt,List.set]
  refine tkp 4 11 rfl ?_
  refine tkp 5 12 rfl ?_
  refine tk 6 13 rfl (by intro wS hSw;obtain⟨hx,hy⟩:=id hSw;have x1:=cc 1 hx;have x2:=cc 2 hx;have x3:=cc 3 hx;clear hSw;go_simp;(try with_reducible rfl)) ?_
  refine t2 11 15 rfl rfl (fun K hK=>?_) (fun K hK=>?_)
  ·go_simp
   refine(HSM.out _ HB.out).mono ?_
   rintro x w1 ⟨d1,d2,e,rfl,hI⟩
   have hH1:=And.intro ((hI.1.same w.heap.size (gsi.1 rV.1).1 (fun h=>by have:=HLT.out _ h;omega)).trans rV.1) (HE.out _ w1 (hI.1.same P (Nat.lt_of_lt_of_le HPL.out HB.out.size) (fun h=>HSEP.out _ h rfl)) rV.2)
   refine hK.out _ _ (fun _=>hH1) (fun _=>?_)
   clear hK K
   try simp only[pt,List.set]
   clear rV
   have rV:=hH1
   clear hH1
   refine tkp 12 6 rfl ?_
   refine tkp 13 19 rfl ?_
   refine tkp 14 20 rfl ?_
   refine t1 15 rfl (fun K hK=>?_)
   go_simp
   have hbl:=bn w1 (.cells (Qi 0 0) 45)
   have HI:=zA (IssY.after (.cells (Qi 0 0) 45) HB.out hI)
   have HGE:=zA (show w.heap.size≤w1.heap.size from Nat.le_trans HB.out.size hI.1.size)
   have HY:=zA (heap_alloc_new w1 (.cells (Qi 0 0) 45))
   have hH2:=And.intro (zC rV.1 hbl) (HE.out _ _ (hbl.block P (Nat.lt_of_lt_of_le HPL.out HGE.out)) rV.2)
   clear hbl
   refine hK.out _ _ (fun _=>hH2) (fun _=>?_)
   clear hK K
   try simp only[pt,List.set]
   clear rV
   have rV:=hH2
   clear hH2 hI
   generalize hU0:World.alloc w1 (.cells (Qi 0 0) 45)=U at *
   generalize hY0:w1.heap.size=Y at *
   clear hU0 hY0
   refine t1 16 rfl (fun K hK=>?_)
   rw[if_pos (by rfl)]
   refine yG 45 (.tmp 4) (.tmp 19) Y rfl rfl rfl rfl HY.out (by kernel_rfl) rfl (by kernel_rfl) ?_
   have ho:Off (fun g=>g=Y) U (World.setRow U Y (Qi d1 d2)):=(Off.refl (fun g=>g=Y) _).setRow (F:=fun g=>g=Y) Y (.inl rfl) _
   have HR:=zA (HI.out.done ho HLT.out HGE.out)
   have qK:w.heap.size≠Y:=fun e=>by
    have h1:=HY.out
    rw[←e,rV.1]at h1
    cases h1
   have hH3:=And.intro ((ho.same w.heap.size (gsi.1 rV.1).1 qK).trans rV.1) (HE.out _ _ (ho.same P (Nat.lt_of_lt_of_le HPL.out HI.out.1.size) (fun e=>by have e':P=Y:=e;have:=HGE.out;have:=HPL.out;omega)) rV.2)
   clear ho qK
   refine hK.out _ _ (fun _=>hH3) (fun _=>?_)
   clear hK K
   try simp only[pt,List.set]
   clear rV
   have rV:=hH3
   clear hH3
   refine tkp 17 5 rfl ?_
   clear rV
   refine wd ?_
   go_wp2_with fail
   by_cases he:e=0
   ·subst he
    refine(xH _).mono ?_
    rintro x w' ⟨rfl,rfl⟩
    go_wp2_with fail
    exact yD results29 ⟨0,.inl ⟨rfl,rfl⟩,HR.out⟩
   ·have he':(e != 0)=true:=by simpa using he
    refine(xP e he' _).mono ?_
    rintro x w' ⟨rfl,rfl⟩
    go_wp2_with fail
    exact zW rfl ⟨e,.inr ⟨he',rfl⟩,HR.out⟩
  ·go_simp
   have HBL:=zA ((bn (V) (.cells (Qi 0 0) 45)).drew)
   have HY:=zA (show(V.alloc (.cells (Qi 0 0) 45)).drew.heap[(V).heap.size]?=some (.cells (Qi 0 0) 45)from heap_alloc_new (V) (.cells (Qi 0 0) 45))
   have HYY:=zA (show(V).heap.size<(V.alloc (.cells (Qi 0 0) 45)).drew.heap.size from by rw[show(V.alloc (.cells (Qi 0 0) 45)).drew.heap.size=(V.alloc (.cells (Qi 0 0) 45)).heap.size from rfl,zE];exact Nat.lt_succ_self _)
   have HGE:=zA (show w.heap.size≤(V).heap.size from HBV.out.size)
   have HB2:=zA ((HBV.out.alloc HBV.out.size (.cells (Qi 0 0) 45)).drew)
   have hH2:=And.intro (show(V.alloc (.cells (Qi 0 0) 45)).drew.heap[w.heap.size]?=_ from zC (show(V).heap[w.heap.size]?=_ from rV.1) HBL.out) (HE.out V (V.alloc (.cells (Qi 0 0) 45)).drew (HBL.out.block P (Nat.lt_of_lt_of_le HPL.out HBV.out.size)) (show(V).cell? _=_ from by simpa using rV.2))
   refine hK.out _ _ (fun _=>hH2) (fun _=>?_)
   clear hK K
   try simp only[pt,List.set]
   clear rV
   have rV:=hH2
   clear hH2
   generalize hU0:(World.alloc V (.cells (Qi 0 0) 45)).drew=U at *
   generalize hY0:(show World from V).heap.size=Y at *
   clear hU0 hY0
   refine t1 11 rfl (fun K hK=>?_)
   go_simp
   refine(HSM.out _ HB2.out).mono ?_
   rintro x w1 ⟨d1,d2,e,rfl,hI⟩
   have hH1:=And.intro ((hI.1.same w.heap.size (gsi.1 rV.1).1 (fun h=>by have:=HLT.out _ h;omega)).trans rV.1) (HE.out _ w1 (hI.1.same P (Nat.lt_of_lt_of_le HPL.out HB2.out.size) (fun h=>HSEP.out _ h rfl)) rV.2)
   refine hK.out _ _ (fun _=>hH1) (fun _=>?_)
   clear hK K
   try simp only[pt,List.set]
   clear rV
   have rV:=hH1
   clear hH1
   refine tkp 12 6 rfl ?_
   refine tkp 13 19 rfl ?_
   refine tkp 14 20 rfl ?_
   have HY1:=zA ((hI.1.same Y (gsi.1 HY.out).1 (fun h=>by have:=HLT.out _ h;have:=HGE.out;omega)).trans HY.out)
   have HI:=zA (IssY.before HB2.out hI HLT.out HGE.out HYY.out)
   clear hI HY
   have HY:=HY1
   clear HY1
   generalize hU1:w1=U1 at *
   clear hU1
   refine t1 16 rfl (fun K hK=>?_)
   rw[if_pos (by rfl)]
   refine yG 45 (.tmp 4) (.tmp 19) Y rfl rfl rfl rfl HY.out (by kernel_rfl) rfl (by kernel_rfl) ?_
   have ho:Off (fun g=>g=Y) U1 (World.setRow U1 Y (Qi d1 d2)):=(Off.refl (fun g=>g=Y) _).setRow (F:=fun g=>g=Y) Y (.inl rfl) _
   have HR:=zA (HI.out.done ho HLT.out HGE.out)
   have qK:w.heap.size≠Y:=fun e=>by
    have h1:=HY.out
    rw[←e,rV.1]at h1
    cases h1
   have hH3:=And.intro ((ho.same w.heap.size (gsi.1 rV.1).1 qK).trans rV.1) (HE.out _ _ (ho.same P (Nat.lt_of_lt_of_le HPL.out HI.out.1.size) (fun e=>by have e':P=Y:=e;have:=HGE.out;have:=HPL.out;omega)) rV.2)
   clear ho qK
   refine hK.out _ _ (fun _=>hH3) (fun _=>?_)
   clear hK K
   try simp only[pt,List.set]
   clear rV
   have rV:=hH3
   clear hH3
   refine tkp 17 5 rfl ?_
   clear rV
   refine wd ?_
   go_wp2_with fail
   by_cases he:e=0
   ·subst he
    refine(xH _).mono ?_
    rintro x w' ⟨rfl,rfl⟩
    go_wp2_with fail
    exact yD results29 ⟨0,.inl ⟨rfl,rfl⟩,HR.out⟩
   ·have he':(e != 0)=true:=by simpa using he
    refine(xP e he' _).mono ?_
    rintro x w' ⟨rfl,rfl⟩
    go_wp2_with fail
    exact zW rfl ⟨e,.inr ⟨he',rfl⟩,HR.out⟩
 ·go_simp
  have HBL:=zA ((bn (V) (.cells (Qi 0 0) 45)).drew)
  have HY:=zA (show(V.alloc (.cells (Qi 0 0) 45)).drew.heap[(V).heap.size]?=some (.cells (Qi 0 0) 45)from heap_alloc_new (V) (.cells (Qi 0 0) 45))
  have HYY:=zA (show(V).heap.size<(V.alloc (.cells (Qi 0 0) 45)).drew.heap.size from by rw[show(V.alloc (.cells (Qi 0 0) 45)).drew.heap.size=(V.alloc (.cells (Qi 0 0) 45)).heap.size from rfl,zE];exact Nat.lt_succ_self _)
  have HGE:=zA (show w.heap.size≤(V).heap.size from HBV.out.size)
  have HB2:=zA ((HBV.out.alloc HBV.out.size (.cells (Qi 0 0) 45)).drew)
  have hH2:=And.intro (show(V.alloc (.cells (Qi 0 0) 45)).drew.heap[w.heap.size]?=_ from zC (show(V).heap[w.heap.size]?=_ from rV.1) HBL.out) (HE.out V (V.alloc (.cells (Qi 0 0) 45)).drew (HBL.out.block P (Nat.lt_of_lt_of_le HPL.out HBV.out.size)) (show(V).cell? _=_ from by simpa using rV.2))
  refine hK.out _ _ (fun _=>hH2) (fun _=>?_)
  clear hK K
  try simp only[pt,List.set]
  clear rV
  have rV:=hH2
  clear hH2
  generalize hU0:(World.alloc V (.cells (Qi 0 0) 45)).drew=U at *
  generalize hY0:(show World from V).heap.size=Y at *
  clear hU0 hY0
  refine t1 3 rfl (fun K hK=>?_)
  go_simp
  refine(HRU.out _ HB2.out).mono ?_
  rintro x w' ⟨rfl,hw'⟩
  subst hw'
  refine hK.out _ _ (fun _=>rV) (fun _=>?_)
  clear hK K
  try simp only[pt,List.set]
  refine tkp 4 11 rfl ?_
  refine tkp 5 12 rfl ?_
  refine tk 6 13 rfl (by intro wS hSw;obtain⟨hx,hy⟩:=id hSw;have x1:=cc 1 hx;have x2:=cc 2 hx;have x3:=cc 3 hx;clear hSw;go_simp;(try with_reducible rfl)) ?_
  refine t1 11 rfl (fun K hK=>?_)
  go_simp
  refine(HSM.out _ HB2.out).mono ?_
  rintro x w1 ⟨d1,d2,e,rfl,hI⟩
  have hH1:=And.intro ((hI.1.same w.heap.size (gsi.1 rV.1).1 (fun h=>by have:=HLT.out _ h;omega)).trans rV.1) (HE.out _ w1 (hI.1.same P (Nat.lt_of_lt_of_le HPL.out HB2.out.size) (fun h=>HSEP.out _ h rfl)) rV.2)
  refine hK.out _ _ (fun _=>hH1) (fun _=>?_)
  clear hK K
  try simp only[pt,List.set]
  clear rV
  have rV:=hH1
  clear hH1
  refine tkp 12 6 rfl ?_
  refine tkp 13 19 rfl ?_
  refine tkp 14 20 rfl ?_
  have HY1:=zA ((hI.1.same Y (gsi.1 HY.out).1 (fun h=>by have:=HLT.out _ h;have:=HGE.out;omega)).trans HY.out)
  have HI:=zA (IssY.before HB2.out hI HLT.out HGE.out HYY.out)
  clear hI HY
  have HY:=HY1
  clear HY1
  generalize hU1:w1=U1 at *
  clear hU1
  refine t1 16 rfl (fun K hK=>?_)
  rw[if_pos (by rfl)]
  refine yG 45 (.tmp 4) (.tmp 19) Y rfl rfl rfl rfl HY.out (by kernel_rfl) rfl (by kernel_rfl) ?_
  have ho:Off (fun g=>g=Y) U1 (World.setRow U1 Y (Qi d1 d2)):=(Off.refl (fun g=>g=Y) _).setRow (F:=fun g=>g=Y) Y (.inl rfl) _
  have HR:=zA (HI.out.done ho HLT.out HGE.out)
  have qK:w.heap.size≠Y:=fun e=>by
   have h1:=HY.out
   rw[←e,rV.1]at h1
   cases h1
  have hH3:=And.intro ((ho.same w.heap.size (gsi.1 rV.1).1 qK).trans rV.1) (HE.out _ _ (ho.same P (Nat.lt_of_lt_of_le HPL.out HI.out.1.size) (fun e=>by have e':P=Y:=e;have:=HGE.out;have:=HPL.out;omega)) rV.2)
  clear ho qK
  refine hK.out _ _ (fun _=>hH3) (fun _=>?_)
  clear hK K
  try simp only[pt,List.set]
  clear rV
  have rV:=hH3
  clear hH3
  refine tkp 17 5 rfl ?_
  clear rV
  refine wd ?_
  go_wp2_with fail
  by_cases he:e=0
  ·subst he
   refine(xH _).mono ?_
   rintro x w' ⟨rfl,rfl⟩
   go_wp2_with fail
   exact yD results29 ⟨0,.inl ⟨rfl,rfl⟩,HR.out⟩
  ·have he':(e != 0)=true:=by simpa using he
   refine(xP e he' _).mono ?_
   rintro x w' ⟨rfl,rfl⟩
   go_wp2_with fail
   exact zW rfl ⟨e,.inr ⟨he',rfl⟩,HR.out⟩
theorem do_10 (W:Nat) (A B C q0 q1 q2 q3 q4 q5 q6:Int) (R:World→Prop) (E:World→Prop) (w:World)
  (h:∀W',Below w.heap.size w W'→W'.heap.size=w.heap.size+3→Calls prog 29 #[Qp W,.agg (Qk 10 A B C q0 q1 q2 q3 q4 q5 q6)] W' fun x w1=>(W'.heap.size≤w1.heap.size∧∀g,w.heap.size≤g→g<w.heap.size+3→w1.heap[g]?=W'.heap[g]?)∧((x=.returned (.tuple #[])∧R w1)∨∃e:Int,(e != 0)=true∧x=.panicked [{v:=.iface 140 (.agg (Qo e)),recovered:=false}]∧E w1)) :
  Calls prog 8 #[Qp W,.agg (Qk 10 A B C q0 q1 q2 q3 q4 q5 q6)] w fun x w'=>∃w1,Off (fun g=>g=w.heap.size+1) w1 w'∧((x=.returned (.int .i64 0)∧R w1)∨∃e:Int,e≠0∧x=.returned (.int .i64 e)∧E w1):=by
 have b0:=bn w (.cells (Qk 10 A B C q0 q1 q2 q3 q4 q5 q6) 43)
 have b1:=b0.alloc b0.size (.cells (Qo 0) 41)
 have b2:=b1.alloc b1.size (.cells #[.nilFunc,Qm 20,Qm 21,Qm 22,Qm 23,Qm 24,Qm 25,Qm 26,Qm 27,Qm 28,Qm 29,Qm 30,Qm 31,Qm 32,Qm 33,Qm 34,Qm 35] 84)
 have s1:(w.alloc (.cells (Qk 10 A B C q0 q1 q2 q3 q4 q5 q6) 43)).heap.size=w.heap.size+1:=zE _ _
 have s2:((w.alloc (.cells (Qk 10 A B C q0 q1 q2 q3 q4 q5 q6) 43)).alloc (.cells (Qo 0) 41)).heap.size=w.heap.size+2:=by rw[zE,zE]
 have s3:(((w.alloc (.cells (Qk 10 A B C q0 q1 q2 q3 q4 q5 q6) 43)).alloc (.cells (Qo 0) 41)).alloc (.cells #[.nilFunc,Qm 20,Qm 21,Qm 22,Qm 23,Qm 24,Qm 25,Qm 26,Qm 27,Qm 28,Qm 29,Qm 30,Qm 31,Qm 32,Qm 33,Qm 34,Qm 35] 84)).heap.size=w.heap.size+3:=by rw[zE,zE,zE]
 have hO:=zC (zC (heap_alloc_new w (.cells (Qk 10 A B C q0 q1 q2 q3 q4 q5 q6) 43)) (bn _ (.cells (Qo 0) 41))) (bn _ (.cells #[.nilFunc,Qm 20,Qm 21,Qm 22,Qm 23,Qm 24,Qm 25,Qm 26,Qm 27,Qm 28,Qm 29,Qm 30,Qm 31,Qm 32,Qm 33,Qm 34,Qm 35] 84))
 have hE:=zC (heap_alloc_new (w.alloc (.cells (Qk 10 A B C q0 q1 q2 q3 q4 q5 q6) 43)) (.cells (Qo 0) 41)) (bn _ (.cells #[.nilFunc,Qm 20,Qm 21,Qm 22,Qm 23,Qm 24,Qm 25,Qm 26,Qm 27,Qm 28,Qm 29,Qm 30,Qm 31,Qm 32,Qm 33,Qm 34,Qm 35] 84))
 have hA:=heap_alloc_new ((w.alloc (.cells (Qk 10 A B C q0 q1 q2 q3 q4 q5 q6) 43)).alloc (.cells (Qo 0) 41)) (.cells #[.nilFunc,Qm 20,Qm 21,Qm 22,Qm 23,Qm 24,Qm 25,Qm 26,Qm 27,Qm 28,Qm 29,Qm 30,Qm 31,Qm 32,Qm 33,Qm 34,Qm 35] 84)
 rw[s1]at hE
 rw[s2]at hA
 have HO:=zA hO
 have HE:=zA hE
 have HA:=zA hA
 have HS:=zA s3
 have HB:=zA b2
 have HC:=zA (h _ b2.drew s3)
 clear b0 b1 b2 s1 s2 s3 hO hE hA h
 go_enter_defers func8,ntmps8
 go_wp2_with (refine zJ rfl 84 (.tmp 5) (.tmp 8) #[.nilFunc,.nilFunc,.nilFunc,.nilFunc,.nilFunc,.nilFunc,.nilFunc,.nilFunc,.nilFunc,.nilFunc,.nilFunc,.nilFunc,.nilFunc,.nilFunc,.nilFunc,.nilFunc,.nilFunc] #[.nilFunc,Qm 20,Qm 21,Qm 22,Qm 23,Qm 24,Qm 25,Qm 26,Qm 27,Qm 28,Qm 29,Qm 30,Qm 31,Qm 32,Qm 33,Qm 34,Qm 35] rfl rfl (w.heap.size+1+1) (by rw[zE,zE]) rfl rfl (by kernel_rfl) rfl (by kernel_rfl) rfl ?_)
 generalize (((w.alloc (.cells (Qk 10 A B C q0 q1 q2 q3 q4 q5 q6) 43)).alloc (.cells (Qo 0) 41)).alloc (.cells #[.nilFunc,Qm 20,Qm 21,Qm 22,Qm 23,Qm 24,Qm 25,Qm 26,Qm 27,Qm 28,Qm 29,Qm 30,Qm 31,Qm 32,Qm 33,Qm 34,Qm 35] 84))=V at *
 have z0:=cc 0 HO.out
 go_wp2_with fail
 refine(xG 10 1 16 _).mono ?_
 rintro x w' ⟨rfl,rfl⟩
 go_wp2_with fail
 refine(vP 2 _).mono ?_
 rintro x w' ⟨rfl,rfl⟩
 clear z0
 go_wp2_with fail
 refine zD (fun W'=>W'.heap[w.heap.size]?=some (.cells (Qk 10 A B C q0 q1 q2 q3 q4 q5 q6) 43 (0,0))∧W'.heap[w.heap.size+2]?=some (.cells #[.nilFunc,Qm 20,Qm 21,Qm 22,Qm 23,Qm 24,Qm 25,Qm 26,Qm 27,Qm 28,Qm 29,Qm 30,Qm 31,Qm 32,Qm 33,Qm 34,Qm 35] 84 (0,0))) 99 (by kernel_rfl) ⟨HO.out,HA.out⟩ (fun rV=>?_)
 refine zV 0 13 rfl ?_
 refine tkq 1 14 rfl (by intro wS hSw;obtain⟨hx,hy⟩:=id hSw;have x0:=cc 0 hx;have x1:=cc 10 hy;clear hSw;go_simp;(try with_reducible rfl)) ?_
 refine zV 2 15 rfl ?_
 refine tkq 3 16 rfl (by intro wS hSw;obtain⟨hx,hy⟩:=id hSw;have x0:=cc 0 hx;have x1:=cc 10 hy;clear hSw;go_simp;(try with_reducible rfl)) ?_
 refine zV 4 17 rfl ?_
 refine tl 5 18 rfl 43 (.tmp 3) w.heap.size rfl rfl (fun wS hSw=>hSw.1) underlying43 ?_ (hQ:=fun _ a _ h=>zS (by simp[results,results8,Act.put,yI]) _ _ _ h)
 refine t1 6 rfl (fun K hK=>?_)
 go_simp
 refine HC.out.mono ?_
 rintro x w1 ⟨⟨hsz,hk⟩,hres⟩
 have HE1:=zA ((hk _ (by omega) (by omega)).trans HE.out)
 have hS1:=And.intro ((hk w.heap.size (by omega) (by omega)).trans HO.out) ((hk (w.heap.size+2) (by omega) (by omega)).trans HA.out)
 rcases hres with⟨rfl,hR⟩ | ⟨e,he,rfl,hR⟩
 ·go_simp
  refine hK.out _ _ (fun _=>hS1) (fun _=>?_)
  clear hK K hS1
  refine wd ?_
  have f4:=zB HE1.out 0
  have e4:=cc 0 HE1.out
  go_wp2_with fail
  have ho:=(Off.refl (fun g=>g=w.heap.size+1) w1).set (a:=⟨w.heap.size+1,0,none⟩) (.inl rfl) (.int .i64 0)
  have c4:=zF (j:=0) (zG (j:=0) HE1.out (.int .i64 0)) rfl
  simp only[List.setIfInBounds_toArray,List.set_cons_zero]at c4
  refine leaves_cons (f:=19) (args:=#[Qp (w.heap.size+1)]) (by simp) (by simp[go_sem]) ?_
  refine(wQ _ _).mono ?_
  rintro e u' w' ⟨rfl,rfl,rfl⟩
  exact yS (v:=.int .i64 0) (by simp[results,results8,go_sem,c4]) ⟨w1,ho,.inl ⟨rfl,hR⟩⟩
 ·go_simp
  refine leaves_cons (f:=19) (args:=#[Qp (w.heap.size+1)]) (by simp) (by simp[go_sem]) ?_
  refine(yY ⟨w.heap.size+1,0,none⟩ e 0 [] _ (zF HE1.out rfl) (zB HE1.out 0)).mono ?_
  rintro e' u' w' ⟨rfl,rfl,rfl⟩
  have hbl:=bn w1 (.cells (Qo e) 140)
  have ho:=(Off.of_below (F:=fun g=>g=w.heap.size+1) hbl).set (a:=⟨w.heap.size+1,0,none⟩) (.inl rfl) (.int .i64 e)
  have c4:=zF (j:=0) (zG (j:=0) (zC HE1.out hbl) (.int .i64 e)) rfl
  simp only[List.setIfInBounds_toArray,List.set_cons_zero]at c4
  exact yU (v:=.int .i64 e) (by simp[results,results8,go_sem,c4]) ⟨w1,ho,.inr ⟨e,by simpa using he,rfl,hR⟩⟩
theorem Ring.set {w:World} {W P:Nat} {wc:Wc} {d r:Nat→Value} {size:Int} {wn:Nat} {F:Nat→Nat→Prop} {p:Nat→AgP} {c:Nat→Cf} (h:WdAt w W P wc d r) (hr:∀i,i<wc.n→r i=.pointer (some ⟨(p i).a,0,none⟩)) (hR:Ring w W P wc.n size 0 wn F p c (fun _=>[])) (hz:500≤size) (a:Nat) (ha:a<wc.n) (C:Int) :
  Calls prog 8 #[Qp W,.agg (Qk 10 (a:Int) 2 C 0 9 10 0 2 1 0)] w fun x w'=>∃F' e,x=.returned (.int .i64 0)∧(Off (fun g=>∃i,i<wc.n∧(F i g∨(p i).has g)) w w'∧∀i g,F' i g→F i g∨w.heap.size≤g)∧WdAt w' W P wc d r∧(∃s t:Nat,e=Pl.Ev.mk a s t 2 2 0 0 9 10 0 2 1 0)∧Ring w' W P wc.n size 1 wn F' p c (put1 (fun _=>[]) a [e]):=by
 have hlt:=h.lt
 have hla:=hR.lt ha
 have hfin:∀{w1 w':World} {es:List Pl.Ev} {F1:Nat→Prop},Off (fun g=>g=w.heap.size+1) w1 w'→Off (fun g=>F a g∨(p a).has g) w w1→(∀g,F1 g→F a g∨w.heap.size+3≤g)→AgS F1 w1 (p a) (c a) size 1 es→(Off (fun g=>∃i,i<wc.n∧(F i g∨(p i).has g)) w w'∧∀i g,put1 F a F1 i g→F i g∨w.heap.size≤g)∧WdAt w' W P wc d r∧Ring w' W P wc.n size 1 wn (put1 F a F1) p c (put1 (fun _=>[]) a es):=fun ho ho1 hF hS=>by
  have ho2:=ho1.comp ho (fun g hg e=>by have e':g=w.heap.size+1:=e;omega)
  have hS2:=hS.keep ho.size (fun g hg=>ho.same g (hS.lt g hg) (fun e=>by
   have e':g=w.heap.size+1:=e
   rcases hg with hg | hg
   ·rcases hF g hg with h1 | h1
    ·have:=hla g (.inl h1);omega
    ·omega
   ·have:=hla g (.inr hg);omega))
  refine⟨⟨ho2.mono (fun g _ hg=>⟨a,ha,hg⟩),fun i g hg=>?_⟩,h.keep (fun g hg=>ho2.same g (hg.elim (fun e=>e ▸ hlt.1) (fun e=>e ▸ hlt.2)) (fun hf=>?_)),hR.turn ha ho2 (fun g hg=>(hF g hg).imp id (fun h=>by omega)) hS2 (Nat.le_succ _) hlt⟩
  ·by_cases hia:i=a
   ·subst hia
    rw[zQ]at hg
    exact(hF g hg).imp id (fun h=>by omega)
   ·rw[zO _ _ hia]at hg
    exact .inl hg
  ·have h2:=hR.wp a ha g hf
   exact hg.elim h2.1 h2.2
 refine(do_10 W a 2 C 0 9 10 0 2 1 0 (fun w1=>∃F1 e,(∃s t:Nat,e=Pl.Ev.mk a s t 2 2 0 0 9 10 0 2 1 0)∧Off (fun g=>F a g∨(p a).has g) w w1∧(∀g,F1 g→F a g∨w.heap.size+3≤g)∧AgS F1 w1 (p a) (c a) size 1 [e]) (fun _=>False) w (fun W' hb hs=>(wset_ok W P wc d r a C (F a) (p a) (c a) size 0 W' (h.below hb) ha (hr a ha) ((hR.below hb).ag a ha) (by omega) (fun g hg=>(hR.wp a ha g hg).2)).mono ?_)).mono ?_
 ·rintro x w1 ⟨e,hx,ho,F1,hF1,hc⟩
  have ho1:Off (fun g=>F a g∨(p a).has g) w w1:=ho.after hb (fun g _ h=>h)
  have hF:∀g,F1 g→F a g∨w.heap.size+3≤g:=fun g hg=>by rw[←hs];exact hF1 g hg
  refine⟨⟨ho.size,fun g h1 h2=>ho.same g (by omega) (fun hf=>by have:=hla g hf;omega)⟩,?_⟩
  rcases hc with⟨hne,hS⟩ | ⟨h0,ev,⟨s,t,rfl⟩,hn,hS⟩
  ·have:=hne.2 ⟨_,1,1,rfl⟩;omega
  ·rcases hx with⟨rfl,_⟩ | ⟨pW,rfl⟩
   ·exact .inl ⟨rfl,F1,_,⟨s,t,by rw[(hR.cn a ha).1]⟩,ho1,hF,hS⟩
   ·rw[h0]at pW;exact absurd pW (by decide)
 ·rintro x w' ⟨w1,ho,⟨rfl,F1,ev,hq,ho1,hF,hS⟩ | ⟨_,_,_,hf⟩⟩
  ·have hz:=hfin ho ho1 hF hS
   exact⟨_,ev,rfl,hz.1,hz.2.1,hq,hz.2.2⟩
  ·exact hf.elim
end
end Go.Proofs.YtodlmbfbfaofcaaGreat
