/- TopPolicies, part 2. -/
import Derived.Below
import Derived.BigQuiet
import Derived.BigRegion
import Derived.ChangeOld
import Derived.ChangeSame
import Derived.Deep.AppendLies
import Derived.Deep.Fields
import Derived.Deep.LoopGhost
import Derived.Deep.MidRow
import Derived.Deep.OwnRows
import Derived.Deep.QuietTactic
import Derived.Deep.RegionHeld
import Derived.Deep.RegionHeld3
import Derived.Deep.Slices
import Derived.Deep.Upon
import Derived.Deep.WholeRow
import Derived.Defers
import Derived.Laws.IdiomCopy
import Derived.Laws.MakeOwn
import Derived.Lib.Hide
import Derived.Lib.SliceRun
import Derived.Maps.Keyed
import Derived.Maps.RangeRun
import Derived.OpenShut
import Derived.OrdersHeld
import Derived.ProofKit
import Derived.Recover
import Derived.RowKit
import Derived.Shelf.SlSortCmp.WholeK
import Derived.ShutString
import Derived.WalkKit
import Derived.WalkLawsBesides
import Derived.WalkSmall
import Derived.Test.YtodlmbfbfaofcaaGreatM01
namespace Go.Proofs.YtodlmbfbfaofcaaGreat
set_option linter.unusedVariables false
set_option linter.unusedSimpArgs false
set_option maxRecDepth 100000
section
theorem oH {p:Prop} (h:p:=by
 go_enter func272,ntmps272
 go_wp2_with fail
 have HBX:=zA (Below.refl w.heap.size w)
 refine zS lE lE HBX.out ?_
 repeat (go_big_quiet_step (fail))
 refine wpQuiet_nil ?_
 intro _ hw'
 obtain⟨q,hw''⟩:=hw'
 subst hw''
 have HI0:=zA (HA.out 0 w q.w HI.out q.b)
 generalize q.w=w0 at *
 have ix0:∀W,Sem.run prog (Instr.index 439 (.agg #[.pointer (some ⟨eb,6,none⟩),.pointer (some ⟨eb,7,none⟩),.pointer (some ⟨eb,8,none⟩),.pointer (some ⟨eb,9,none⟩),.pointer (some ⟨eb,10,none⟩),.pointer (some ⟨eb,11,none⟩),.pointer (some ⟨eb,12,none⟩)]) (.int .i64 0)) W=.ok (.pointer (some ⟨eb,6,none⟩)) W:=fun W=>yV _ _ 0 lF rfl W
 have ix1:∀W,Sem.run prog (Instr.index 439 (.agg #[.pointer (some ⟨eb,6,none⟩),.pointer (some ⟨eb,7,none⟩),.pointer (some ⟨eb,8,none⟩),.pointer (some ⟨eb,9,none⟩),.pointer (some ⟨eb,10,none⟩),.pointer (some ⟨eb,11,none⟩),.pointer (some ⟨eb,12,none⟩)]) (.int .i64 1)) W=.ok (.pointer (some ⟨eb,7,none⟩)) W:=fun W=>yV _ _ 1 lF rfl W
 have ix2:∀W,Sem.run prog (Instr.index 439 (.agg #[.pointer (some ⟨eb,6,none⟩),.pointer (some ⟨eb,7,none⟩),.pointer (some ⟨eb,8,none⟩),.pointer (some ⟨eb,9,none⟩),.pointer (some ⟨eb,10,none⟩),.pointer (some ⟨eb,11,none⟩),.pointer (some ⟨eb,12,none⟩)]) (.int .i64 2)) W=.ok (.pointer (some ⟨eb,8,none⟩)) W:=fun W=>yV _ _ 2 lF rfl W
 have ix3:∀W,Sem.run prog (Instr.index 439 (.agg #[.pointer (some ⟨eb,6,none⟩),.pointer (some ⟨eb,7,none⟩),.pointer (some ⟨eb,8,none⟩),.pointer (some ⟨eb,9,none⟩),.pointer (some ⟨eb,10,none⟩),.pointer (some ⟨eb,11,none⟩),.pointer (some ⟨eb,12,none⟩)]) (.int .i64 3)) W=.ok (.pointer (some ⟨eb,9,none⟩)) W:=fun W=>yV _ _ 3 lF rfl W
 have ix4:∀W,Sem.run prog (Instr.index 439 (.agg #[.pointer (some ⟨eb,6,none⟩),.pointer (some ⟨eb,7,none⟩),.pointer (some ⟨eb,8,none⟩),.pointer (some ⟨eb,9,none⟩),.pointer (some ⟨eb,10,none⟩),.pointer (some ⟨eb,11,none⟩),.pointer (some ⟨eb,12,none⟩)]) (.int .i64 4)) W=.ok (.pointer (some ⟨eb,10,none⟩)) W:=fun W=>yV _ _ 4 lF rfl W
 have ix5:∀W,Sem.run prog (Instr.index 439 (.agg #[.pointer (some ⟨eb,6,none⟩),.pointer (some ⟨eb,7,none⟩),.pointer (some ⟨eb,8,none⟩),.pointer (some ⟨eb,9,none⟩),.pointer (some ⟨eb,10,none⟩),.pointer (some ⟨eb,11,none⟩),.pointer (some ⟨eb,12,none⟩)]) (.int .i64 5)) W=.ok (.pointer (some ⟨eb,11,none⟩)) W:=fun W=>yV _ _ 5 lF rfl W
 have ix6:∀W,Sem.run prog (Instr.index 439 (.agg #[.pointer (some ⟨eb,6,none⟩),.pointer (some ⟨eb,7,none⟩),.pointer (some ⟨eb,8,none⟩),.pointer (some ⟨eb,9,none⟩),.pointer (some ⟨eb,10,none⟩),.pointer (some ⟨eb,11,none⟩),.pointer (some ⟨eb,12,none⟩)]) (.int .i64 6)) W=.ok (.pointer (some ⟨eb,12,none⟩)) W:=fun W=>yV _ _ 6 lF rfl W
 go_wp2_with fail
 refine wp_loop_rounds 8 ?_
 rw[rounds_succ]
 go_wp2_with fail
 refine(HC.out 0 lF w0 HI0.out).mono ?_
 rintro e w1 ⟨rfl,i1⟩
 have HI1:=zA i1
 clear i1
 go_wp2_with fail
 rw[rounds_succ]
 go_wp2_with fail
 refine(HC.out 1 lF w1 HI1.out).mono ?_
 rintro e w2 ⟨rfl,i2⟩
 have HI2:=zA i2
 clear i2
 go_wp2_with fail
 rw[rounds_succ]
 go_wp2_with fail
 refine(HC.out 2 lF w2 HI2.out).mono ?_
 rintro e w3 ⟨rfl,i3⟩
 have HI3:=zA i3
 clear i3
 go_wp2_with fail
 rw[rounds_succ]
 go_wp2_with fail
 refine(HC.out 3 lF w3 HI3.out).mono ?_
 rintro e w4 ⟨rfl,i4⟩
 have HI4:=zA i4
 clear i4
 go_wp2_with fail
 rw[rounds_succ]
 go_wp2_with fail
 refine(HC.out 4 lF w4 HI4.out).mono ?_
 rintro e w5 ⟨rfl,i5⟩
 have HI5:=zA i5
 clear i5
 go_wp2_with fail
 rw[rounds_succ]
 go_wp2_with fail
 refine(HC.out 5 lF w5 HI5.out).mono ?_
 rintro e w6 ⟨rfl,i6⟩
 have HI6:=zA i6
 clear i6
 go_wp2_with fail
 rw[rounds_succ]
 go_wp2_with fail
 refine(HC.out 6 lF w6 HI6.out).mono ?_
 rintro e w7 ⟨rfl,i7⟩
 have HI7:=zA i7
 clear i7
 go_wp2_with fail
 rw[rounds_succ]
 go_wp2_with fail
 exact yG results272 ⟨rfl,HI7.out⟩):p:=h
theorem oI {p:Prop} (h:p:=by
 have c0:=hc 0 _ rfl
 simp only[Nat.mul_one,Nat.add_zero,show kInt.k=1 from rfl]at c0
 have pD:(Pl.toInts ns)[k]=((ns[k]:Nat):Int):=by simp[Pl.toInts]
 rw[pD]at c0
 have hle:ns[k]≤1099511627776:=HSM.out _ (List.getElem_mem hlt)
 have hvl:(Pl.vints (ns.take k)).length≤1000000:=by
  have:=Pl.vints_len (ns.take k) (fun n hn=>HSM.out n (List.mem_of_mem_take hn))
  rw[List.length_take]at this
  omega
 have qV:=zA (xZ _ _ ns[k] wr hO.toT.toC hvl hle)
 have HNX:=zA (Pl.vints_succ ns k hlt)
 have HBR:=zA hb
 clear hc hO hb hvl hle pD pF
 generalize ns[k]=nk at *
 clear hlt
 go_wp2_with fail
 refine qV.out.mono ?_
 rintro e w5 ⟨v5,rfl,o5,b5⟩
 have HO5:=zA (show OwnB Wq.heap.size w5 v5 (Pl.vints (ns.take (k+1))) by rw[HNX.out];exact o5.mono HBR.out.size)
 have HB6:=zA (HBR.out.trans (b5.mono HBR.out.size))
 clear o5 b5 c0
 have hy:=HYW.out w5 (HB5.out.trans (HB6.out.mono HB5.out.size))
 have ce:=cc 0 hy
 have fe:=zB hy 0
 have hid:w5.setCell ⟨w.heap.size+1,0,none⟩ (.int .i64 0)=w5:=zN hy (j:=0) (v:=.int .i64 0) rfl
 clear hy
 go_wp2_with fail
 refine(yD rfl).mono ?_
 rintro r w' ⟨rfl,rfl⟩
 go_wp2_with fail
 exact⟨⟨k+1,by omega,rfl,HO5.out,HB6.out⟩,by simp[intOf];omega⟩):p:=h
theorem oJ {p:Prop} (h:p:=by
 go_enter func187,ntmps187
 go_wp2_with fail
 have HBX:=zA (Below.refl w.heap.size w)
 refine zS lE lE HBX.out ?_
 repeat (go_big_quiet_step (fail))
 refine wpQuiet_nil ?_
 intro _ hw'
 obtain⟨q,hw''⟩:=hw'
 subst hw''
 have HI0:=zA (HA.out 0 w q.w HI.out q.b)
 generalize q.w=w0 at *
 have ix0:∀W,Sem.run prog (Instr.index 395 (.agg #[Qp eb,.pointer (some ⟨eb,1,none⟩),.pointer (some ⟨eb,2,none⟩),.pointer (some ⟨eb,3,none⟩)]) (.int .i64 0)) W=.ok (Qp eb) W:=fun W=>yN _ _ 0 lF rfl W
 have ix1:∀W,Sem.run prog (Instr.index 395 (.agg #[Qp eb,.pointer (some ⟨eb,1,none⟩),.pointer (some ⟨eb,2,none⟩),.pointer (some ⟨eb,3,none⟩)]) (.int .i64 1)) W=.ok (.pointer (some ⟨eb,1,none⟩)) W:=fun W=>yN _ _ 1 lF rfl W
 have ix2:∀W,Sem.run prog (Instr.index 395 (.agg #[Qp eb,.pointer (some ⟨eb,1,none⟩),.pointer (some ⟨eb,2,none⟩),.pointer (some ⟨eb,3,none⟩)]) (.int .i64 2)) W=.ok (.pointer (some ⟨eb,2,none⟩)) W:=fun W=>yN _ _ 2 lF rfl W
 have ix3:∀W,Sem.run prog (Instr.index 395 (.agg #[Qp eb,.pointer (some ⟨eb,1,none⟩),.pointer (some ⟨eb,2,none⟩),.pointer (some ⟨eb,3,none⟩)]) (.int .i64 3)) W=.ok (.pointer (some ⟨eb,3,none⟩)) W:=fun W=>yN _ _ 3 lF rfl W
 go_wp2_with fail
 refine wp_loop_rounds 5 ?_
 rw[rounds_succ]
 go_wp2_with fail
 refine(HC.out 0 lF w0 HI0.out).mono ?_
 rintro e w1 ⟨rfl,i1⟩
 have HI1:=zA i1
 clear i1
 go_wp2_with fail
 rw[rounds_succ]
 go_wp2_with fail
 refine(HC.out 1 lF w1 HI1.out).mono ?_
 rintro e w2 ⟨rfl,i2⟩
 have HI2:=zA i2
 clear i2
 go_wp2_with fail
 rw[rounds_succ]
 go_wp2_with fail
 refine(HC.out 2 lF w2 HI2.out).mono ?_
 rintro e w3 ⟨rfl,i3⟩
 have HI3:=zA i3
 clear i3
 go_wp2_with fail
 rw[rounds_succ]
 go_wp2_with fail
 refine(HC.out 3 lF w3 HI3.out).mono ?_
 rintro e w4 ⟨rfl,i4⟩
 have HI4:=zA i4
 clear i4
 go_wp2_with fail
 rw[rounds_succ]
 have c3:=HK.out 4 w4 lF HI4.out
 go_wp2_with fail
 refine(yC _ _ _ w4).mono ?_
 rintro e w' ⟨rfl,rfl⟩
 rw[show Pl.inside 1 1 3=true from rfl]
 go_wp2_with fail
 refine(HC.out 4 lF w4 HI4.out).mono ?_
 rintro e w5 ⟨rfl,i5⟩
 have HI5:=zA i5
 clear i5
 have c3':=HK.out 5 w5 lF HI5.out
 go_wp2_with fail
 refine(HC.out 5 lF w5 HI5.out).mono ?_
 rintro e w6 ⟨rfl,i6⟩
 have HI6:=zA i6
 clear i6
 go_wp2_with fail
 exact bodyPost_ret (v:=.tuple #[]) (results_none results187 _ _ _) rfl ⟨rfl,HI6.out⟩):p:=h
theorem oK {p:Prop} (h:p:=by
 go_simp
 have HBL:=zA (bn V (.cells (Qi 0 0) 45))
 have HY:=zA (heap_alloc_new V (.cells (Qi 0 0) 45))
 have HYY:=zA (show V.heap.size<(V.alloc (.cells (Qi 0 0) 45)).heap.size from by rw[zG];exact Nat.lt_succ_self _)
 have HGE:=zA (show w.heap.size≤V.heap.size from HB.out.size)
 have HB2:=zA ((HB.out.alloc HB.out.size (.cells (Qi 0 0) 45)))
 have hH3:=And.intro (zC qB.1 HBL.out) (HE.out V (V.alloc (.cells (Qi 0 0) 45)) (HBL.out.block P (Nat.lt_of_lt_of_le HPL.out HB.out.size)) qB.2)
 refine hK.out _ _ (fun _=>hH3) (fun _=>?_)
 clear hK K
 try simp only[pt,List.set]
 clear qB
 generalize hU0:V.alloc (.cells (Qi 0 0) 45)=U0 at *
 generalize hY0:V.heap.size=Y at *
 clear hU0 hY0
 refine t1 3 rfl (fun K hK=>?_)
 go_simp
 refine(HRU.out _ HB2.out).mono ?_
 rintro x w' ⟨rfl,hw'⟩
 subst hw'
 refine hK.out _ _ (fun _=>hH3) (fun _=>?_)
 clear hK K
 try simp only[pt,List.set]
 refine tkp 4 11 rfl ?_
 refine tkp 5 12 rfl ?_
 refine tk 6 13 rfl lY ?_):p:=h
theorem oL {p:Prop} (h:p:=by
 obtain⟨ao,cap,hv,_⟩:=hD 0 w h0
 have HD:=zA hD
 have HA:=zA hA
 have HC:=zA hC
 have HI:=zA h0
 subst hv
 clear hD hA hC h0
 go_enter func279,ntmps279
 go_wp2_with fail
 go_loopw [8] (fun i wr=>∃(k:Nat),k≤ds.length∧i=.int .i64 k∧I k wr) (fun i _=>ds.length - (intOf i).toNat)
 case atStart=>exact⟨0,by omega,rfl,HI.out⟩
 case round=>
  obtain⟨k,hk,rfl,hI⟩:=hrel
  by_cases hlt:k<ds.length
  ·obtain⟨ao',cap',hv,_,h3⟩:=HD.out k wr hI
   cases hv
   obtain⟨g,off,rfl,hg,c0,c1⟩:=h3 k hlt
   have HI2:=zA (HC.out k hlt _ (HA.out k wr (wr.alloc (.cells (Qi (ds[k]).1 (ds[k]).2) 45)) hI (bn _ _)))
   clear h3 hI HI
   generalize ((ds[k]).1:Int)=n at *
   generalize ((ds[k]).2:Int)=s at *
   go_wp2_with fail
   refine HI2.out.mono ?_
   rintro e w5 ⟨rfl,I5⟩
   have HI5:=zA I5
   clear I5 HI2
   go_wp2_with fail
   exact⟨⟨k+1,by omega,rfl,HI5.out⟩,by simp[intOf];omega⟩
  ·obtain rfl:k=ds.length:=by omega
   have HI2:=zA hI
   clear hI HI hlt
   go_wp2_with fail
   exact yG results279 ⟨rfl,HI2.out⟩):p:=h
theorem oM {p:Prop} (h:p:=by
 go_simp
 have HBL:=zA (bn V (.cells (Qi 0 0) 45))
 have HY:=zA (heap_alloc_new V (.cells (Qi 0 0) 45))
 have HYY:=zA (show V.heap.size<(V.alloc (.cells (Qi 0 0) 45)).heap.size from by rw[zG];exact Nat.lt_succ_self _)
 have HGE:=zA (show w.heap.size≤V.heap.size from HB.out.size)
 have HB2:=zA ((HB.out.alloc HB.out.size (.cells (Qi 0 0) 45)))
 have hH3:=And.intro (zC qB.1 HBL.out) (HE.out V (V.alloc (.cells (Qi 0 0) 45)) (HBL.out.block P (Nat.lt_of_lt_of_le HPL.out HB.out.size)) qB.2)
 refine hK.out _ _ (fun _=>hH3) (fun _=>?_)
 clear hK K
 try simp only[pt,List.set]
 clear qB
 generalize hU0:V.alloc (.cells (Qi 0 0) 45)=U0 at *
 generalize hY0:V.heap.size=Y at *
 clear hU0 hY0):p:=h
theorem oN {p:Prop} (h:p:=by
 go_simp
 have hbl:=bn w1 (.cells (Qi 0 0) 45)
 have HI:=zA (IssY.after (.cells (Qi 0 0) 45) HB.out hI)
 have HGE:=zA (show w.heap.size≤w1.heap.size from Nat.le_trans HB.out.size hI.1.size)
 have HY:=zA (heap_alloc_new w1 (.cells (Qi 0 0) 45))
 have hH2:=And.intro (zC hH1.1 hbl) (HE.out _ _ (hbl.block P (Nat.lt_of_lt_of_le HPL.out HGE.out)) hH1.2)
 refine hK.out _ _ (fun _=>hH2) (fun _=>?_)
 clear hK K
 try simp only[pt,List.set]
 clear qB hbl hH1 hI
 generalize hU0:World.alloc w1 (.cells (Qi 0 0) 45)=U at *
 generalize hY0:w1.heap.size=Y at *
 clear hU0 hY0):p:=h
theorem oO {p:Prop} (h:p:=by
 obtain⟨ao,cap,hv,_⟩:=hD 0 w h0
 have HD:=zA hD
 have HA:=zA hA
 have HC:=zA hC
 have HI:=zA h0
 subst hv
 clear hD hA hC h0
 go_enter func207,ntmps207
 go_wp2_with fail
 go_loopw [8] (fun i wr=>∃(k:Nat),k≤ds.length∧i=.int .i64 k∧I k wr) (fun i _=>ds.length - (intOf i).toNat)
 case atStart=>exact⟨0,by omega,rfl,HI.out⟩
 case round=>
  obtain⟨k,hk,rfl,hI⟩:=hrel
  by_cases hlt:k<ds.length
  ·obtain⟨ao',cap',hv,_,h3⟩:=HD.out k wr hI
   cases hv
   obtain⟨g,off,rfl,hg,c0,c1⟩:=h3 k hlt
   have HI2:=zA (HC.out k hlt _ (HA.out k wr (wr.alloc (.cells (Qi (ds[k]).1 (ds[k]).2) 45)) hI (bn _ _)))
   clear h3 hI HI
   generalize ((ds[k]).1:Int)=n at *
   generalize ((ds[k]).2:Int)=s at *
   go_wp2_with fail
   refine HI2.out.mono ?_
   rintro e w5 ⟨rfl,I5⟩
   have HI5:=zA I5
   clear I5 HI2
   go_wp2_with fail
   exact⟨⟨k+1,by omega,rfl,HI5.out⟩,by simp[intOf];omega⟩
  ·obtain rfl:k=ds.length:=by omega
   have HI2:=zA hI
   clear hI HI hlt
   go_wp2_with fail
   exact yG results207 ⟨rfl,HI2.out⟩):p:=h
theorem oP {p:Prop} (h:p:=by
 have hbl:=(bn V (.cells (Qi 0 0) 45)).drew
 have hH2:=show(V.alloc (.cells (Qi 0 0) 45)).drew.heap[w.heap.size]?=_ from zC HO.out hbl
 have HB2:=zA (HB.out.trans (hbl.mono HB.out.size))
 clear hbl
 refine hK.out _ _ (fun _=>hH2) (fun _=>?_)
 clear hK K
 try simp only[pt,List.set]
 clear qB
 have qB:=hH2
 clear hH2
 refine t1 3 rfl (fun K hK=>?_)
 go_simp
 refine(HRU.out _ HB2.out).mono ?_
 rintro x w' ⟨rfl,rfl⟩
 go_simp
 exact zT rfl ⟨rfl,HB2.out⟩):p:=h
theorem oQ {p:Prop} (h:p:=by
 refine tkp 12 57 rfl ?_
 obtain⟨x13,f13⟩:=(HSV.out.last.tb.keep ((yQ [.int .i64 K,.int .i64 a,.int .i64 0,.int .i64 C,.int .i64 q0,.int .i64 q1,.int .i64 q2,.int .i64 q3,.int .i64 q4,.int .i64 q5,.int .i64 q6] (a*11) V).same (w3.heap.size+1) HSV.out.last.lt.2 (Nat.succ_ne_self _))).cell HT.out.1
 refine t1 13 rfl (fun Kk hK=>?_)
 go_simp
 refine hK.out _ _ (fun _=>(Below.heap_setCell _ ⟨w3.heap.size+1,a,none⟩ _ wr.heap.size (by have:=HLT.out;show wr.heap.size≠w3.heap.size+1;omega)).trans hH8) (fun _=>?_)
 clear hK Kk
 try simp only[pt,List.set]
 refine wd ?_
 have HS8:=zA (HSV.out.stored HT.out.1 K (a:Int) C q0 q1 q2 q3 q4 q5 q6 ev rfl)
 clear qB HSV HS6 HO7
 go_wp2_with fail
 exact⟨⟨k+1,F',_,_,_,HK.out.1,rfl,HS8.out,HW6.out⟩,by simp[intOf];have:=HK.out;omega⟩):p:=h
theorem oR {p:Prop} (h:p:=by
 have c0':=f0 q
 have c1':=f1 q
 clear f0 f1
 have hy':=(q.b.block _ (gsi.1 HY2.out).1).trans HY2.out
 have y0:=cc 0 hy'
 have y1:=cc 1 hy'
 have y2:=cc 2 hy'
 have y3:=cc 3 hy'
 have y4:=cc 4 hy'
 have y5:=cc 5 hy'
 have y6:=cc 6 hy'
 have y7:=cc 7 hy'
 have y8:=cc 8 hy'
 have HQ:=zA (HBW.out.trans (q.b.mono HBW.out.size))
 clear hy'
 generalize q.w=wq at *
 go_wp2_with fail
 refine(HAD.out wq).mono ?_
 rintro r w2 ⟨v1,U1,M1,rfl,⟨m1,rfl,hd1,_⟩,b2⟩
 obtain⟨ao1,cap1,rfl,_⟩:=hd1.toC
 have b3:=b2.trans (bn w2 (.cells (Qu U1 ao1 M1.length cap1) 60) |>.mono b2.size)
 have HQ2:=zA (HQ.out.trans (b3.mono HQ.out.size))
 clear b2 b3 hd1 y0 y1 y2 y3 y4 y5 y6 y7 y8 c0' c1'
 go_wp2_with fail
 exact⟨⟨k+1,by omega,rfl,HQ2.out⟩,by simp[intOf];omega⟩):p:=h
theorem oS {p:Prop} (h:p:=by
 go_wp2_with fail
 refine(within_any _ _ _ _).mono ?_
 rintro e w' ⟨rfl,rfl⟩
 have H:=zA (Pl.inside_eq n lo hi)
 generalize Pl.within n lo hi=x at *
 go_wp2
 go_ret
 exact⟨congrArg (fun b=>Ending.returned (.bool b)) H.out,rfl⟩):p:=h
theorem oT {p:Prop} (h:p:=by
 refine HFP.out.mono ?_
 rintro r w7 ⟨v7,rfl,o7,b7⟩
 have HB7:=zA (pZ.out.trans (b7.mono pZ.out.size))
 have HBZ:=zA (HBP.out.trans (HB7.out.mono HBP.out.size))
 have HO7:=zA (o7.mono (Nat.le_trans HBP.out.size pZ.out.size))
 clear o7 b7 HFP
 have hy:=HYW.out w7 HB7.out
 have ce:=cc 0 hy
 have fe:=zB hy 0
 have hid:w7.setCell ⟨w.heap.size+1,0,none⟩ (.int .i64 0)=w7:=zN hy (j:=0) (v:=.int .i64 0) rfl
 clear hy
 go_wp2_with fail
 refine leaves_cons (f:=104) (args:=#[Qp (w.heap.size+1)]) (by simp) (by simp[go_sem]) ?_
 refine(wJ _ _).mono ?_
 rintro e' u' w'' ⟨rfl,rfl,rfl⟩
 clear hid fe
 simp[Leaves,settle,results,results91,go_sem,ce]
 refine⟨?_,HBZ.out⟩
 have h7:=HO7.out
 rw[←HNS.out]at h7
 skip
 exact h7):p:=h
theorem oU {p:Prop} (h:p:=by
 refine t1 11 rfl (fun K hK=>?_)
 go_simp
 refine(HSM.out _ HB2.out).mono ?_
 rintro x w1 ⟨d1,d2,e,rfl,hI⟩
 have hH2:=And.intro ((hI.1.same w.heap.size (gsi.1 hH3.1).1 (fun h=>by have:=HLT.out _ h;omega)).trans hH3.1) (HE.out _ w1 (hI.1.same P (Nat.lt_of_lt_of_le HPL.out HB2.out.size) (fun h=>HSEP.out _ h rfl)) hH3.2)
 refine hK.out _ _ (fun _=>hH2) (fun _=>?_)
 clear hK K
 try simp only[pt,List.set]
 refine tkp 12 6 rfl ?_
 refine tkp 13 19 rfl ?_
 refine tkp 14 20 rfl ?_
 have HY1:=zA ((hI.1.same Y (gsi.1 HY.out).1 (fun h=>by have:=HLT.out _ h;have:=HGE.out;omega)).trans HY.out)
 have HI:=zA (IssY.before HB2.out hI HLT.out HGE.out HYY.out)
 clear hI HY hH3
 have HY:=HY1
 clear HY1
 generalize hU1:w1=U at *
 clear hU1):p:=h
theorem oV {p:Prop} (h:p:=by
 have HA2:=HA3.out
 have HT:=HH.out.below HA2.bel
 have hHA2:=zA HA2
 have hHT:=zA HT
 clear HA3
 have c0:=HT.no k hk
 have c1:=HT.st k hk
 have c2:=HT.inc k hk
 have k0:=HT.kn k hk
 have f0:=HT.fr (1+k)
 have f1:=HT.fr (9+k*3)
 have f2:=HT.fr (9+k*3+1)
 have f3:=HT.fr (9+k*3+2)
 have y0:=HA2.b0
 have y1:=HA2.b1
 have y2:=HA2.b2
 have hne:B≠w.heap.size+1:=by have:=HH.out.lt;omega
 have hne':w.heap.size+1≠B:=fun e=>hne e.symm
 clear HA2 HT
 go_region
 go_wp2_with fail
 obtain⟨A,t⟩:=tab_set (s:=s) (i:=i) hk hHT.out
 exact bodyPost_ret (v:=.tuple #[.bool true,.int .i64 0]) (by simp[results,results196,go_sem]) rfl ⟨rfl,A,t.of_hear hHA2.out⟩):p:=h
theorem oW {p:Prop} (h:p:=by
 have qB:=HX.out
 refine t1 5 rfl (fun K hK=>?_)
 go_simp
 refine(vD _).mono ?_
 rintro x u3 ⟨fa,rfl,hb⟩
 have HX1:=zA (zC HX.out hb)
 have HY1:=zA (zC HY.out hb)
 have HB1:=zA (HB.out.trans (hb.mono HB.out.size))
 have HPB1:=zA (zC HPB.out hb)
 clear HPB
 have HPB:=HPB1
 clear HPB1
 clear hb HX HY HB qB
 have HX:=HX1
 have HY:=HY1
 have HB:=HB1
 clear HX1 HY1 HB1
 refine hK.out _ _ (fun _=>HX.out) (fun _=>?_)
 clear hK K
 try simp only[pt,List.set]
 have qB:=HX.out):p:=h
theorem oX {p:Prop} (h:p:=by
 go_wp2_with fail
 refine(yO w).mono ?_
 rintro e w' ⟨rfl,rfl⟩
 go_wp2_with fail
 go_ret
 exact⟨rfl,rfl⟩):p:=h
theorem oY {p:Prop} (h:p:=by
 clear hA hE
 have m0:¬(m:Int)=0:=by have:=HM0.out lF;omega
 go_wp2_with fail
 all_goals
  go_ret
  exact⟨rfl,R5,HO.out.trans O5⟩):p:=h
theorem oZ {p:Prop} (h:p:=by
 clear qB
 refine hK.out _ _ (fun _=>HD3.out) (fun _=>?_)
 clear hK K
 try simp only[pt,List.set]
 have qB:=HD3.out
 refine tkp 14 3 rfl ?_
 refine wd ?_
 clear qB
 have x1:=cc 1 HX3.out
 have x2:=cc 2 HX3.out
 have d1:=cc 1 HD3.out
 go_wp2_with fail
 go_quiet (fail)
 clear x1 x2 d1
 have HB4:=zA (HB3.out.trans ((below_drewN (Below.refl _ _) nq).mono HB3.out.size))
 have d13:=cc 13 (zW HD.out HB4.out)
 generalize w3.drewN nq=w4 at *
 go_wp2_with fail
 exact bodyPost_ret (v:=.tuple #[]) (results_none results116 _ _ _) rfl ⟨rfl,HB4.out⟩):p:=h
theorem nA {p:Prop} (h:p:=by
 have hk:=K.hk
 have hjl:j<xs.length*K.k:=by
  rcases Nat.lt_or_ge j (xs.length*K.k)with h' | h'
  ·exact h'
  ·rw[List.getElem?_eq_none (by rw[K.encs_length];exact h')]at hj;cases hj
 have hd:j / K.k<xs.length:=Nat.div_lt_of_lt_mul (by rw[Nat.mul_comm];exact hjl)
 have hm:j%K.k<K.k:=Nat.mod_lt _ hk
 have hjj:j=j / K.k*K.k+j%K.k:=by rw[Nat.mul_comm];exact(Nat.div_add_mod j K.k).symm
 rw[hjj,K.encs_get xs _ _ hd hm]at hj
 obtain⟨g,off,cap',e,hg,hc⟩:=h.cell hd
 cases e
 cases had
 rw[Go.WideShapes.add_plain]
 have:=hc _ _ hj
 rw[Nat.add_assoc,←hjj]at this
 exact this):p:=h
theorem nB {p:Prop} (h:p:=by
 rintro r w6 ⟨rfl,hb⟩
 have HB6:=zA (HBZ.out.trans (((Below.refl _ _).drew.trans hb).mono HBZ.out.size))
 have hHD:=And.intro (zW HY5.out ((Below.refl _ _).drew.trans hb)) (zW HX5.out ((Below.refl _ _).drew.trans hb))
 clear hb qB
 refine hK.out _ _ (fun _=>hHD) (fun _=>?_)
 clear hK K
 try simp only[pt,List.set]
 have qB:=hHD
 refine tkp 7 4 rfl ?_
 refine tkp 8 5 rfl ?_
 refine wd ?_
 clear qB hHD
 go_wp2_with fail
 exact bodyPost_ret (v:=.tuple #[.slice none 0 0,.int .i64 0]) (by simp[results,results51,go_sem]) rfl ⟨rfl,HB1.out.trans (HB6.out.mono HB1.out.size)⟩):p:=h
theorem nC {p:Prop} (h:p:=by
 have HM:Hid (Pl.may n s=false):=zA (by simp[Pl.may, *])
 go_enter func263,ntmps263
 go_wp2_with fail
 go_ret
 exact⟨congrArg (fun b=>Ending.returned (.bool b)) HM.out.symm,HX.out _⟩):p:=h
theorem nD {p:Prop} (h:p:=by
 have m0:=cc 0 HX9.out
 have m1:=cc 1 HX9.out
 have m2:=cc 2 HX9.out
 have m3:=cc 3 HX9.out
 have m4:=cc 4 HX9.out
 have m5:=cc 5 HX9.out
 have m6:=cc 6 HX9.out
 have m7:=cc 7 HX9.out
 have m8:=cc 8 HX9.out
 have m9:=cc 9 HX9.out
 have m10:=cc 10 HX9.out
 have m11:=cc 11 HX9.out
 have m12:=cc 12 HX9.out
 have m13:=cc 13 HX9.out
 have m14:=cc 14 HX9.out
 have m15:=cc 15 HX9.out
 simp[Leaves,settle,results,results49,go_sem,ce,m0,m1,m2,m3,m4,m5,m6,m7,m8,m9,m10,m11,m12,m13,m14,m15]
 exact⟨aov,capv,⟨rfl,rfl⟩,HVZ.out,HB9.out⟩):p:=h
theorem nE {p:Prop} (h:p:=by
 obtain⟨i5,hi5,z0,z1,z2⟩:=info_parts K.hi
 obtain⟨ao,cap,rfl⟩:=hc.form
 have hbb:=K.hb
 refine xL w hgd sl xl K.S ho base K.T i5 K.z K.k K.bytes K.hu hi5 z0 z1 z2 K.hz K.hk v xs.length (K.encs xs) hs qC ao ys.length cap (K.encs ys) hx (K.encs_length ys) hc.none hc.news (K.encs_one ys) (by unfold maxLen;omega) (by
  have:=Nat.mul_le_mul hl hbb
  omega) qJ (fun v' w' h1 h2=>?_)
 refine h v' w' ?_ (hb.grown h2 qJ (fun k hk=>(qC.lt k hk).1)) h2
 unfold OwnR;rw[List.length_append,K.encs_append]
 exact h1):p:=h
theorem nF {p:Prop} (h:p:=by
 refine wpQuiet_nil ?_
 intro _ hw'
 obtain⟨p,hw''⟩:=hw'
 subst hw''
 clear f0 f1 f2 f3 f4 f5 f6 f7 f8 f9 f10 f11 f12 f13 f14 f15 hcf
 go_wp2_with fail
 exact⟨⟨j+1,by omega,rfl,p.b⟩,by simp[intOf];omega⟩):p:=h
theorem nG {p:Prop} (h:p:=by
 have h1:Deltas w4 a b ms parts:=HD2.out.keepE (fun g cs t fr ht hg=>hk4 g cs t fr (by rcases ht with rfl | rfl<;>decide) hg)
 have h2:RowT kEv w4 (.slice ao1 es1.length cap1) es1:=by rw[HP2.out.len,HTL.out];exact(HO2.out.toT).keep (fun g cs fr hg=>hk4 g cs 175 fr lF hg)
 have h3:=h1.snoc h2 (HP2.out.keep (fun g cs fr hg=>hk4 g cs 45 fr lF hg)).2
 rwa [HP2.out.len,HTL.out]at h3):p:=h
theorem nH {p:Prop} (h:p:=by
 rw[hm]
 clear hm
 go_enter func274,ntmps274
 go_wp2_with fail
 go_quiet ((go_at_call 95;exact Calls.quiet_of_same (within_any _ _ _ _)))
 go_wp2
 go_ret
 exact⟨rfl,below_drewN (bn _ _) _⟩):p:=h
theorem nI {p:Prop} (h:p:=by
 go_simp
 refine(HRU.out _ HB.out).mono ?_
 rintro x w' ⟨rfl,hw'⟩
 subst hw'
 refine hK.out _ _ (fun _=>qB) (fun _=>?_)
 clear hK K
 try simp only[pt,List.set]
 refine tkp 4 11 rfl ?_
 refine tkp 5 12 rfl ?_
 refine tk 6 13 rfl lY ?_
 refine t2 11 15 rfl rfl (fun K hK=>?a4) (fun K hK=>?b4)):p:=h
theorem nJ {p:Prop} (h:p:=by
 refine HS.out.mono ?_
 rintro r w1 ⟨i,rfl,h1,h2,h3,hb1⟩
 have HZ:=zA (And.intro h1 (And.intro h2 (And.intro h3 (HB.out.trans (hb1.mono HB.out.size)))))
 clear h1 h2 h3 hb1
 go_wp2_with fail
 go_ret
 exact⟨i,rfl,HZ.out.1,fun h=>by have:=HZ.out.2.1 h;rw[show i - 1+1=i from by omega]at this;simpa using this,fun h=>by simpa using HZ.out.2.2.1 h,HZ.out.2.2.2⟩):p:=h
theorem nL {p:Prop} (h:p:=by
 intro x W o ho hC hd K hK
 simp only[List.getElem?_toArray,List.getElem?_cons_succ,List.getElem?_cons_zero,Option.some.injEq]at ho
 subst ho
 clear hd
 simp only[List.toList_toArray,putAll,Act.put,List.setIfInBounds_toArray,List.set_cons_zero,List.set_cons_succ,Nat.zero_add,Nat.reduceAdd]at hK ⊢
 go_simp
 exact hK.out _ _ rfl hC (fun _ _ _ _ h=>h)):p:=h
theorem nM {p:Prop} (h:p:=by
 have HB:=zA b1
 clear hx hy b1
 go_enter func192,ntmps192
 go_wp2_with fail
 refine(yM _ _ _ _).mono ?_
 rintro r w2 ⟨rfl,rfl⟩
 rw[HQ.out]
 go_wp2_with fail
 go_ret
 exact⟨rfl,HB.out⟩):p:=h
theorem nN {p:Prop} (h:p:=by
 go_wp2_with fail
 go_quiet (fail)
 go_wp2_with fail
 refine⟨?_,?_⟩
 ·(repeat apply Exists.intro)
  exact⟨⟨j+1,HJ.out,rfl,below_drewN HBJ.out _,.inr ⟨j,rfl,HBST.out⟩⟩,rfl⟩
 ·simp[intOf];have:=HJ.out;omega):p:=h
theorem nO {p:Prop} (h:p:=by
 have HZ:=zA (And.intro hs (And.intro hdz ho))
 clear hs ho hdz
 refine t1 13 rfl (fun K hK=>?_)
 go_simp
 refine hK.out _ _ (fun _=>⟨_,HZ.out.1⟩) (fun _=>?_)
 clear hK K
 try simp only[pt,List.set]
 refine wd ?_
 clear qB f13 x13
 go_wp2_with fail
 exact yG results239 ⟨rfl,ro,rc,HZ.out.1,HZ.out.2.1,HZ.out.2.2⟩):p:=h
theorem nP {p:Prop} (h:p:=by
 clear f0 f1 f2 f3 f4 f5 f6 f7 f8 f9 f10 f11 f12 f13 f14 f15 hlt hj
 go_wp2_with fail
 go_ret
 exact⟨rfl,HBW.out.trans (HBR.out.mono HBW.out.size)⟩):p:=h
theorem nQ {p:Prop} (h:p:=by
 rcases List.mem_append.1 hp with h | h
 ·exact HE.out.2.2 p h
 ·cases List.mem_singleton.1 h
  exact⟨fun e=>by have h0:es1.length=0:=(congrArg List.length e).trans rfl;rw[HP2.out.len]at h0;have h1:=HTL.out;have:=HN.out.1;omega,by rw[HP2.out.len,HTL.out];have:=HN.out.2;omega⟩):p:=h
theorem nR {p:Prop} (h:p:=by
 go_quiet (fail)
 go_wp2_with fail
 refine⟨?_,?_⟩
 ·(repeat apply Exists.intro)
  exact⟨⟨j+1,HJ.out,rfl,below_drewN HBQ.out _⟩,rfl⟩
 ·simp[intOf];have:=HJ.out;omega):p:=h
theorem nS {p:Prop} (h:p:=by
 refine wpQuiet_nil ?_
 intro _ hw'
 obtain⟨q,hw''⟩:=hw'
 subst hw''
 clear f0 f1 fu f8
 have HQ:=zA (HBW.out.trans (q.b.mono HBW.out.size))
 go_wp2_with fail
 exact⟨⟨k+1,by omega,rfl,HQ.out⟩,by simp[intOf];omega⟩):p:=h
theorem nT {p:Prop} (h:p:=by
 go_wp2_with fail
 exact⟨⟨k+1,by omega,rfl,by rw[HNX.out,oG.out,List.append_nil];exact HO.out,HBA.out⟩,by simp[intOf];omega⟩):p:=h
theorem nU {p:Prop} (h:p:=by
 have hlt:=(gsi.1 hg).1
 refine(Below.heap_setCell _ _ _ _ hne).trans ((HH8.out.same g (Nat.lt_of_lt_of_le hlt HB.out.size) (fun e=>?_)).trans (HB.out.block g hlt))
 obtain⟨cs,hcs⟩:=zK HM0.out e
 rw[hg]at hcs;injection hcs with hcs;exact hx _ _ hcs):p:=h
theorem nV {p:Prop} (h:p:=by
 clear ia r13
 go_wp2_with fail
 refine(HE2.out wa HIa.out).mono ?_
 rintro e wb ⟨rfl,ib⟩
 have HIb:=zA ib
 clear ib ra
 go_wp2_with fail
 exact⟨⟨i+1,by omega,rfl,HIb.out⟩,by simp[intOf];omega⟩):p:=h
theorem nW {p:Prop} (h:p:=by
 refine(vG e he' _).mono ?_
 rintro x w' ⟨rfl,rfl⟩
 go_wp2_with fail
 exact zT rfl ⟨e,.inr ⟨he',rfl⟩,HR.out⟩):p:=h
theorem nX {p:Prop} (h:p:=by
 go_wp2_with fail
 refine HC2.out.mono ?_
 rintro e w5 ⟨rfl,b5⟩
 have HI5:=zA (HI.out.trans (b5.mono HI.out.size))
 clear b5
 go_wp2_with fail
 exact⟨⟨k+1,by omega,rfl,HI5.out⟩,by simp[intOf];omega⟩):p:=h
theorem nY {p:Prop} (h:p:=by
 obtain⟨g,off,cap,e,hg,hc⟩:=h.cell hi
 exact⟨g,off,cap,e,hg,hc 0 _ rfl,hc 1 _ rfl,hc 2 _ rfl,hc 3 _ rfl,hc 4 _ rfl,hc 5 _ rfl,hc 6 _ rfl,hc 7 _ rfl,hc 8 _ rfl,hc 9 _ rfl,hc 10 _ rfl,hc 11 _ rfl,hc 12 _ rfl,hc 13 _ rfl⟩):p:=h
theorem nZ {p:Prop} (h:p:=by
 have h1:=qF e he hb
 have h0:=(mem_ready.1 hr).1
 rw[heq]at h1
 rcases Nat.lt_or_ge i listed.size with h' | h'
 ·simp[h']at h0 h1;rw[h0]at h1;cases h1
 ·simp[Array.getElem?_eq_none h']at h1):p:=h
theorem mA {p:Prop} (h:p:=by
 refine(HRU.out _ HB.out.drew).mono ?_
 rintro x w' ⟨rfl,rfl⟩
 go_simp
 exact zT rfl ⟨rfl,HB.out.drew⟩):p:=h
theorem mB {p:Prop} (h:p:=by
 refine⟨rfl,⟨m',hx',l'++[e'],hm',by simp[hab,ha],fun x hx''=>?_⟩,hb,hk⟩
 rcases List.mem_append.1 hx'' with h | h
 ·exact DotsT.keep (hil x h) (hk.dots ⟨m,hx⟩)
 ·rw[List.mem_singleton.1 h];exact hi'):p:=h
theorem mC {p:Prop} (h:p:=by
 have e2:wr.cell? ⟨P,j*3+2,none⟩=some (.pointer none):=hrg 2 _ rfl
 clear hrg
 go_wp2_with fail
 exact⟨⟨j+1,HLT.out,rfl,HW5.out,HR5.out,HO5.out⟩,by simp[intOf];have:=HLT.out;omega⟩):p:=h
theorem mD {p:Prop} (h:p:=by
 have H:Hid (Pl.within n lo hi=if hi<n then hi else if n<lo then lo else n):=rfl
 go_enter func95,ntmps95
 go_wp2
 all_goals go_ret
 all_goals
  refine⟨ret_int ?_,rfl⟩
  rw[H.out]
  (repeat' split)<;>omega):p:=h
theorem mE {p:Prop} (h:p:=by
 have HB:=zA b1
 clear hx hy b1
 go_enter func193,ntmps193
 go_wp2_with fail
 go_ret
 exact⟨rfl,HB.out⟩):p:=h
theorem mF {p:Prop} (h:p:=by
 have HBL:=zA hb
 clear hb hj hjl hn1
 go_wp2_with fail
 go_ret
 exact⟨rfl,HBW.out.trans (HBL.out.mono HBW.out.size)⟩):p:=h
theorem mG {p:Prop} (h:p:=by
 clear b1 hx hp hm h hW hP he hi hdt hnm hat
 go_enter func346,ntmps346
 go_wp2_with fail
 exact bodyPost_ret (v:=.bool true) (by simp[results,results346,go_sem]) rfl ⟨rfl,HZ.out,HO.out⟩):p:=h
theorem mH {p:Prop} (h:p:=by
 have h3:=HK3.out g cs t fr ht hg
 exact(HO4.out.same g (gsi.1 (h3.trans hg)).1 (fun e=>by have h5:=h3.trans hg;rw[show g=w.heap.size from e,HX3.out]at h5;exact zH ht.symm h5)).trans h3):p:=h
theorem mI {p:Prop} (h:p:=by
 obtain⟨ao',cap',hv,hn,_⟩:=h
 cases hv
 obtain⟨h1,h2⟩:=hn ha
 exact⟨by rw[h1];rfl,h2⟩):p:=h
theorem mJ {p:Prop} (h:p:=by
 refine⟨fun h0=>(by rw[h0]at hr;cases hr),fun j hj=>?_⟩
 rw[hr]at hj
 cases List.mem_singleton.1 hj
 exact wpOp_step ho (fun K' hK=>h K' (fun a w hS hW=>hK a w ⟨hS,hW hS⟩))):p:=h
theorem mK {p:Prop} (h:p:=by
 have h:=HM3.out
 rw[List.length_append]at h
 exact h.keep (fun g hg=>HO4.out.same g (h.lt g hg).2 (fun e=>by have:=(h.lt g hg).1;have e':g=w.heap.size:=e;omega))):p:=h
theorem mL {p:Prop} (h:p:=by
 refine List.Perm.trans ?_ qN
 rw[List.append_assoc]
 refine List.Perm.append_left _ ?_
 exact(List.perm_middle (l₁:=pre) (a:=((n,s),pv)) (l₂:=post)).symm):p:=h
theorem mM {p:Prop} (h:p:=by
 unfold Pl.Ev.c
 rcases hb.kind with h | h | h
 ·exact absurd h k1
 ·left;rw[if_pos h];exact⟨h,rfl⟩
 ·right;rw[if_neg (by omega)];exact⟨h,rfl⟩):p:=h
theorem mN {p:Prop} (h:p:=by
 obtain⟨ao',cp',e3,_,e4⟩:=HR3.out
 cases e3
 obtain⟨g',off,cs,fr,e5,e6,_⟩:=e4 0 (List.length_pos_iff.2 hne)
 exact⟨g',off,cs,fr,e5,e6,trivial⟩):p:=h
theorem mO {p:Prop} (h:p:=by
 refine HO1.out.keep (fun g hg=>Below.heap_setCell _ _ _ _ (fun eg=>?_))
 obtain⟨cs,hcs⟩:=zK HO1.out hg
 rw[show g=c from eg,HX2.out]at hcs;cases hcs):p:=h
theorem mP {p:Prop} (h:p:=by
 go_wp2_with fail
 exact⟨⟨k+1,by omega,rfl,by rw[HNX.out,oG.out,List.append_nil];exact⟨l0,HO.out,HAB.out⟩,HBA.out⟩,by simp[intOf];omega⟩):p:=h
theorem mQ {p:Prop} (h:p:=by
 clear h
 go_enter func271,ntmps271
 go_wp2_with fail
 go_ret
 exact⟨congrArg (fun b=>Ending.returned (.int .i64 b)) HH.out.symm,HX.out _ _⟩):p:=h
theorem mR {p:Prop} (h:p:=by
 clear h
 go_enter func256,ntmps256
 go_wp2_with fail
 go_ret
 exact⟨congrArg (fun b=>Ending.returned (.int .i64 b)) HH.out.symm,rfl⟩):p:=h
theorem mS {p:Prop} (h:p:=by
 unfold smps
 by_cases hn:node=1
 ·subst hn;simp[k1,k2,k3,k5]
 ·have:¬(1:Int)=node:=fun h=>hn h.symm
  simp[k1,k2,k3,k5,hn,this]):p:=h
theorem mT {p:Prop} (h:p:=by
 refine hfree k ok hk hki ?_ hno
 by_cases hjk:j=k
 ·subst hjk;exact hjun
 ·rw[getD_set_ne true hjk]at hun;exact hun):p:=h
theorem mU {p:Prop} (h:p:=by
 simp only[Instr.storeAt,Instr.sureAddr,Sem.run_bind,Sem.run_pure,Result.andThen]
 exact run_storeVar_row w g t0 t c c' hg hi hs h1):p:=h
theorem mV {p:Prop} (h:p:=by
 rcases hb with hb | ⟨hb,hb'⟩
 ·exact .inl hb
 ·simp only at hb hb';exact .inr ⟨hb,by simp only;omega⟩):p:=h
theorem mW {p:Prop} (h:p:=by
 obtain⟨d,hd,hx⟩:=List.mem_flatMap.1 hx
 have:=hN.may d hd
 simp at hx
 rcases hx with rfl | rfl<;>omega):p:=h
theorem mX {p:Prop} (h:p:=by
 rcases Nat.lt_or_ge j K.k with h' | h'
 ·exact h'
 ·rw[List.getElem?_eq_none (by rw[K.hlen];exact h')]at hu;cases hu):p:=h
theorem mY {p:Prop} (h:p:=by
 obtain⟨d,hd,hn⟩:=List.mem_flatMap.1 hn
 have:=hc.may d hd
 simp at hn
 rcases hn with rfl | rfl<;>omega):p:=h
theorem mZ {p:Prop} (h:p:=by
 rcases h with⟨h1,h⟩ | ⟨h1,e,eh,h2,h3,h4,h⟩
 ·exact .inl ⟨h1,hk h⟩
 ·exact .inr ⟨h1,e,eh,h2,h3,h4,hk h⟩):p:=h
theorem lA {p:Prop} (h:p:=by
 rcases Nat.lt_or_ge i n with h | h
 ·exact h
 ·simp[Array.getElem?_eq_none (show listed.size≤i by omega)]at hu):p:=h
theorem lB {p:Prop} (h:p:=by
 exact⟨⟨hb2.size,fun g h1 h2=>hb2.block g lD⟩,.inr ⟨2,by decide,rfl,hb.trans (hb2.mono hb.size)⟩⟩):p:=h
theorem lC {p:Prop} (h:p:=by
 go_simp
 refine(HSM.out _ HB.out).mono ?_
 rintro x w1 ⟨d1,d2,e,rfl,hI⟩
 have hH1:=And.intro ((hI.1.same w.heap.size (gsi.1 qB.1).1 (fun h=>by have:=HLT.out _ h;omega)).trans qB.1) (HE.out _ w1 (hI.1.same P (Nat.lt_of_lt_of_le HPL.out HB.out.size) (fun h=>HSEP.out _ h rfl)) qB.2)
 refine hK.out _ _ (fun _=>hH1) (fun _=>?_)
 clear hK K
 try simp only[pt,List.set]
 refine tkp 12 6 rfl ?_
 refine tkp 13 19 rfl ?_
 refine tkp 14 20 rfl ?_
 refine t1 15 rfl (fun K hK=>?_)
 exact oN):p:=h
theorem lD {p:Prop} (h:p:=by omega):p:=h
theorem lE {p:Prop} (h:p:=by kernel_rfl):p:=h
theorem lF {p:Prop} (h:p:=by decide):p:=h
theorem lG {p:Prop} (h:p:=by intro wS hSw;obtain⟨q0,q1,q2⟩:=id hSw;clear hSw;go_simp;(try with_reducible rfl)):p:=h
theorem lH {p:Prop} (h:p:=by intro wS hSw;obtain⟨x,y⟩:=id hSw;have q0:=cc 0 x;have p2:=cc 2 y;clear hSw;go_simp;(try with_reducible rfl)):p:=h
theorem lI {p:Prop} (h:p:=by intro wS hSw;have q0:=cc 0 hSw;clear hSw;go_simp;(try with_reducible rfl)):p:=h
theorem lJ {p:Prop} (h:p:=by intro wS hSw;obtain⟨_,x,y,z⟩:=id hSw;have q0:=cc 0 x;have q1:=cc 1 x;have q3:=cc 3 x;have p1:=cc 1 y;have p3:=cc 3 y;clear hSw;go_simp;(try with_reducible rfl)):p:=h
theorem lK {p:Prop} (h:p:=by intro wS hSw;obtain⟨q0,q1⟩:=id hSw;clear hSw;go_simp;(try with_reducible rfl)):p:=h
theorem lL {p:Prop} (h:p:=by intro wS hSw;have x1:=cc 1 hSw;have x2:=cc 2 hSw;have x3:=cc 3 hSw;clear hSw;go_simp;(try with_reducible rfl)):p:=h
theorem lM {p:Prop} (h:p:=by intro wS hSw;have y:=H45.out _ hSw;have d0:=cc 0 y;have d1:=cc 1 y;clear hSw;go_simp;(try with_reducible rfl)):p:=h
theorem lN {p:Prop} (h:p:=by intro wS hSw;have x3:=cc 3 hSw;have x4:=cc 4 hSw;clear hSw;go_simp;(try with_reducible rfl)):p:=h
theorem lO {p:Prop} (h:p:=by intro wS hSw;have q0:=cc 0 hSw;have q5:=cc 5 hSw;clear hSw;go_simp;(try with_reducible rfl)):p:=h
theorem lP {p:Prop} (h:p:=by intro wS hSw;obtain⟨x,y⟩:=id hSw;have q11:=cc 11 x;clear hSw;go_simp;(try with_reducible rfl)):p:=h
theorem lQ {p:Prop} (h:p:=by intro wS hSw;obtain⟨x,y⟩:=id hSw;have q10:=cc 10 x;clear hSw;go_simp;(try with_reducible rfl)):p:=h
theorem lR {p:Prop} (h:p:=by intro wS hSw;have d4:=HC4.out _ hSw;clear hSw;go_simp;(try with_reducible rfl)):p:=h
theorem lS {p:Prop} (h:p:=by intro wS hSw;have y:=HXW.out _ hSw;have d0:=cc 0 y;have d1:=cc 1 y;clear hSw;go_simp;(try with_reducible rfl)):p:=h
theorem lT {p:Prop} (h:p:=by intro wS hSw;obtain⟨y0,y1,y2,y3,y4,y5,y6,y7,y8,y9,y10,y11,y12,y13⟩:=tA hSw (i:=p) HJ.out;clear hSw;go_simp;(try with_reducible rfl)):p:=h
theorem lU {p:Prop} (h:p:=by intro wS hSw;obtain⟨x,y⟩:=id hSw;have q0:=cc 0 x;have p1:=cc 1 y;have p3:=cc 3 y;clear hSw;go_simp;(try with_reducible rfl)):p:=h
theorem lV {p:Prop} (h:p:=by intro wS hSw;obtain⟨x,y⟩:=id hSw;have q0:=cc 0 x;have p0:=cc 0 y;have p1:=cc 1 y;have p2:=cc 2 y;have p3:=cc 3 y;have p4:=cc 4 y;have p5:=cc 5 y;have p6:=cc 6 y;have p7:=cc 7 y;have p8:=cc 8 y;clear hSw;go_simp;(try with_reducible rfl)):p:=h
theorem lW {p:Prop} (h:p:=by intro wS hSw;have x1:=cc 1 hSw.1;clear hSw;go_simp;(try with_reducible rfl)):p:=h
theorem lX {p:Prop} (h:p:=by intro wS hSw;have x2:=cc 2 hSw.1;clear hSw;go_simp;(try with_reducible rfl)):p:=h
theorem lY {p:Prop} (h:p:=by intro wS hSw;have x1:=hSw.2;clear hSw;go_simp;(try with_reducible rfl)):p:=h
theorem lZ {p:Prop} (h:p:=by intro wS hSw;obtain⟨hx,hy⟩:=id hSw;have xw:=cc 11 hx.wd;have xm:=cc 2 hy;have xp:=hx.runs HT.out.1;rw[HT.out.2]at xp;clear hSw;go_simp;(try with_reducible rfl)):p:=h
theorem kA {p:Prop} (h:p:=by intro wS hSw;have x1:=cc 1 hSw;clear hSw;go_simp;(try with_reducible rfl)):p:=h
theorem kB {p:Prop} (h:p:=by intro wS hSw;have y:=HXW.out _ hSw;obtain⟨y0,y1,y2,y3,y4,y5,y6,y7,y8,y9,y10,y11,y12,y13⟩:=c14 y;clear hSw;go_simp;(try with_reducible rfl)):p:=h
theorem kC {p:Prop} (h:p:=by intro wS hSw;have y:=HXW.out _ hSw;have d0:=cc 0 y;clear hSw;go_simp;(try with_reducible rfl)):p:=h
theorem kD {p:Prop} (h:p:=by intro wS hSw;have y:=HEW.out _ hSw;obtain⟨y0,y1,y2,y3,y4,y5,y6,y7,y8,y9,y10,y11,y12,y13⟩:=c14 y;clear hSw;go_simp;(try with_reducible rfl)):p:=h
theorem kE {p:Prop} (h:p:=by intro wS hSw;have f1:=hSw.1;have f2:=hSw.2;clear hSw;go_simp;(try with_reducible rfl)):p:=h
theorem kF {p:Prop} (h:p:=by intro wS hSw;obtain⟨y0,y1,y2,y3,y4,y5,y6,y7,y8,y9,y10,y11,y12,y13⟩:=tA hSw (i:=p+1) HI.out;clear hSw;go_simp;(try with_reducible rfl)):p:=h
theorem kG {p:Prop} (h:p:=by intro wS hSw;obtain⟨x,y⟩:=id hSw;have q5:=cc 5 x;have p0:=cc 0 y;have p1:=cc 1 y;have p2:=cc 2 y;clear hSw;go_simp;(try with_reducible rfl)):p:=h
theorem kH {p:Prop} (h:p:=by intro wS hSw;obtain⟨x,y⟩:=id hSw;have q11:=cc 11 x;have p0:=cc 0 y;clear hSw;go_simp;(try with_reducible rfl)):p:=h
theorem kI {p:Prop} (h:p:=by intro wS hSw;obtain⟨x,y⟩:=id hSw;have q4:=cc 4 x;have p0:=cc 0 y;clear hSw;go_simp;(try with_reducible rfl)):p:=h
theorem kJ {p:Prop} (h:p:=by intro wS hSw;obtain⟨x,y⟩:=id hSw;have q5:=cc 5 x;have p0:=cc 0 y;clear hSw;go_simp;(try with_reducible rfl)):p:=h
theorem kK {p:Prop} (h:p:=by intro wS hSw;obtain⟨x,y⟩:=id hSw;have q1:=cc 1 x;have p0:=cc 0 y;clear hSw;go_simp;(try with_reducible rfl)):p:=h
theorem kL {p:Prop} (h:p:=by intro wS hSw;obtain⟨x,y,z⟩:=id hSw;have p1:=cc 1 y;have r0:=cc 0 z;clear hSw;go_simp;(try with_reducible rfl)):p:=h
theorem kM {p:Prop} (h:p:=by intro wS hSw;obtain⟨vS,hSw⟩:=hSw;have x3:=cc 3 hSw;have x4:=cc 4 hSw;clear hSw;go_simp;(try with_reducible rfl)):p:=h
theorem kN {p:Prop} (h:p:=by intro wS hSw;have zd:=hSw.disk HK.out.1;clear hSw;go_simp;(try with_reducible rfl)):p:=h
theorem kO {p:Prop} (h:p:=by intro wS hSw;have q0:=cc 0 hSw;have q1:=cc 1 hSw;clear hSw;go_simp;(try with_reducible rfl)):p:=h
end
end Go.Proofs.YtodlmbfbfaofcaaGreat
