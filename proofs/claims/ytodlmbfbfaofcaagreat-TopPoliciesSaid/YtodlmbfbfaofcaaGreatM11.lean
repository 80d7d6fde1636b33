/- TopPolicies, part 11. -/
import Derived.Laws.IdiomCopy
import Derived.Lib.SliceRun
import Derived.Test.YtodlmbfbfaofcaaGreatM01
import Derived.Test.YtodlmbfbfaofcaaGreatM02
import Derived.Test.YtodlmbfbfaofcaaGreatM04
import Derived.Test.YtodlmbfbfaofcaaGreatM08
import Derived.Test.YtodlmbfbfaofcaaGreatM10
open Go.Proofs.Tryz
namespace Go.Proofs.YtodlmbfbfaofcaaGreat
set_option linter.unusedVariables false
set_option linter.unusedSimpArgs false
set_option maxRecDepth 100000
set_option maxHeartbeats 1000000
section
open Go.RowKit Rw Rh
theorem set9 (w:World) (g:Nat) (t:TypeId) (z0 z1 z2 z3 z4 z5 z6 z7 z8 a0 a1 a2 a3 a4 a5 a6 a7 a8:Value) (h:w.heap[g]?=some (.cells #[z0,z1,z2,z3,z4,z5,z6,z7,z8] t (0,0))) :
  ((((((((((w).setCell ⟨g,0,none⟩ a0).setCell ⟨g,1,none⟩ a1).setCell ⟨g,2,none⟩ a2).setCell ⟨g,3,none⟩ a3).setCell ⟨g,4,none⟩ a4).setCell ⟨g,5,none⟩ a5).setCell ⟨g,6,none⟩ a6).setCell ⟨g,7,none⟩ a7).setCell ⟨g,8,none⟩ a8).heap[g]?=some (.cells #[a0,a1,a2,a3,a4,a5,a6,a7,a8] t (0,0)):=by
 have h0:=zF (j:=0) h a0
 simp only[List.setIfInBounds_toArray,List.set_cons_zero,List.set_cons_succ]at h0
 have h1:=zF (j:=1) h0 a1
 simp only[List.setIfInBounds_toArray,List.set_cons_zero,List.set_cons_succ]at h1
 have h2:=zF (j:=2) h1 a2
 simp only[List.setIfInBounds_toArray,List.set_cons_zero,List.set_cons_succ]at h2
 have h3:=zF (j:=3) h2 a3
 simp only[List.setIfInBounds_toArray,List.set_cons_zero,List.set_cons_succ]at h3
 have h4:=zF (j:=4) h3 a4
 simp only[List.setIfInBounds_toArray,List.set_cons_zero,List.set_cons_succ]at h4
 have h5:=zF (j:=5) h4 a5
 simp only[List.setIfInBounds_toArray,List.set_cons_zero,List.set_cons_succ]at h5
 have h6:=zF (j:=6) h5 a6
 simp only[List.setIfInBounds_toArray,List.set_cons_zero,List.set_cons_succ]at h6
 have h7:=zF (j:=7) h6 a7
 simp only[List.setIfInBounds_toArray,List.set_cons_zero,List.set_cons_succ]at h7
 have h8:=zF (j:=8) h7 a8
 simp only[List.setIfInBounds_toArray,List.set_cons_zero,List.set_cons_succ]at h8
 exact h8
theorem below9 {B:Nat} {w0 w:World} {g:Nat} (a0 a1 a2 a3 a4 a5 a6 a7 a8:Value) (h:Below B w0 w) (hg:B≤g):Below B w0 ((((((((((w).setCell ⟨g,0,none⟩ a0).setCell ⟨g,1,none⟩ a1).setCell ⟨g,2,none⟩ a2).setCell ⟨g,3,none⟩ a3).setCell ⟨g,4,none⟩ a4).setCell ⟨g,5,none⟩ a5).setCell ⟨g,6,none⟩ a6).setCell ⟨g,7,none⟩ a7).setCell ⟨g,8,none⟩ a8):=by
 exact zM (zM (zM (zM (zM (zM (zM (zM (zM h hg 0 a0) hg 1 a1) hg 2 a2) hg 3 a3) hg 4 a4) hg 5 a5) hg 6 a6) hg 7 a7) hg 8 a8
theorem other9 (w:World) (g:Nat) (a0 a1 a2 a3 a4 a5 a6 a7 a8:Value) (k:Nat) (hk:k≠g):((((((((((w).setCell ⟨g,0,none⟩ a0).setCell ⟨g,1,none⟩ a1).setCell ⟨g,2,none⟩ a2).setCell ⟨g,3,none⟩ a3).setCell ⟨g,4,none⟩ a4).setCell ⟨g,5,none⟩ a5).setCell ⟨g,6,none⟩ a6).setCell ⟨g,7,none⟩ a7).setCell ⟨g,8,none⟩ a8).heap[k]?=w.heap[k]?:=
 (Below.heap_setCell _ _ _ _ hk).trans ((Below.heap_setCell _ _ _ _ hk).trans ((Below.heap_setCell _ _ _ _ hk).trans ((Below.heap_setCell _ _ _ _ hk).trans ((Below.heap_setCell _ _ _ _ hk).trans ((Below.heap_setCell _ _ _ _ hk).trans ((Below.heap_setCell _ _ _ _ hk).trans ((Below.heap_setCell _ _ _ _ hk).trans (Below.heap_setCell _ _ _ _ hk))))))))
theorem Pl.Fit.put {O:Nat→Nat→Bool} (h:Pl.Fit O) {n s:Nat} (hn:n<8) (hs:1≤s∧s≤96):Pl.Fit (Pl.put1 O n s):=fun a b hab=>by
 unfold Pl.put1 at hab
 split at hab
 ·omega
 ·exact h a b hab
theorem add_ok (v:Value) (n s:Nat) (O:Nat→Nat→Bool) (U:Nat→Nat) (M:List (Nat×Nat)) (w:World) (h:SetV w v O U M) (hn:n<8) (hs:1≤s∧s≤96) (hO:O n s=false) :
  Calls prog 173 #[v,.agg (Qi n s)] w fun e w'=>∃v' U' M',e=.returned (.tuple #[v',.int .i64 0])∧SetV w' v' (Pl.put1 O n s) U' M'∧Below w.heap.size w w':=by
 have HV:=zA h
 obtain⟨m,rfl,hd,hc⟩:=h
 obtain⟨ao,cap,rfl,_⟩:=hd.toC
 have oB:=zA (hc.fit.put hn hs)
 have b1:=bn w (.cells (Qu U ao M.length cap) 60)
 have b2:=b1.alloc b1.size (.cells (Qi n s) 45)
 have b3:=b2.alloc b2.size (.cells (Qv 0 0 0 0 0 0 0 0) 60)
 have hx:=heap_alloc_new w (.cells (Qu U ao M.length cap) 60)
 have hx2:=((bn _ (.cells (Qi n s) 45)).block _ (gsi.1 hx).1).trans hx
 have hx3:=((bn _ (.cells (Qv 0 0 0 0 0 0 0 0) 60)).block _ (gsi.1 hx2).1).trans hx2
 have hy:=heap_alloc_new (w.alloc (.cells (Qu U ao M.length cap) 60)) (.cells (Qi n s) 45)
 have hy2:=((bn _ (.cells (Qv 0 0 0 0 0 0 0 0) 60)).block _ (gsi.1 hy).1).trans hy
 rw[zG]at hy2
 have hz:=heap_alloc_new ((w.alloc (.cells (Qu U ao M.length cap) 60)).alloc (.cells (Qi n s) 45)) (.cells (Qv 0 0 0 0 0 0 0 0) 60)
 rw[zG,zG]at hz
 have HB:=zA b3
 have HX:=zA hx3
 have HY:=zA hy2
 have HZ:=zA hz
 have HN:=zA hn
 have HS:=zA hs
 have HOO:=zA hO
 have HV2:=zA (HV.out.below b3)
 clear hd hc b1 b2 b3 hx hx2 hx3 hy hy2 hz hs hO
 go_enter func173,ntmps173
 go_wp2_with fail
 generalize (((w.alloc (.cells (Qu U ao M.length cap) 60)).alloc (.cells (Qi n s) 45)).alloc (.cells (Qv 0 0 0 0 0 0 0 0) 60))=W0 at *
 have H60:=zA (fun (W:World) (hW:Below W0.heap.size W0 W)=>(hW.block w.heap.size (gsi.1 HX.out).1).trans HX.out)
 have H45:=zA (fun (W:World) (hW:Below W0.heap.size W0 W)=>(hW.block (w.heap.size+1) (gsi.1 HY.out).1).trans HY.out)
 have HZZ:=zA (fun (W:World) (hW:Below W0.heap.size W0 W)=>(hW.block (w.heap.size+1+1) (gsi.1 HZ.out).1).trans HZ.out)
 refine(may_any n s _).mono ?_
 rintro e w1 ⟨rfl,b1⟩
 have HB1:=zA b1
 rw[show Pl.may n s=true from by have:=HS.out;simp[Pl.may];omega]
 have x1:=H60.out _ b1
 have y1:=H45.out _ b1
 have c0:=cc 0 x1
 have c1:=cc 1 x1
 have c2:=cc 2 x1
 have c3:=cc 3 x1
 have c4:=cc 4 x1
 have c5:=cc 5 x1
 have c6:=cc 6 x1
 have c7:=cc 7 x1
 have c8:=cc 8 x1
 clear b1 x1 y1
 go_wp2_with fail
 have b2:=bn w1 (.cells (Qu U ao M.length cap) 60)
 have HB2:=zA (HB1.out.trans (b2.mono HB1.out.size))
 have hof:=of_ok _ _ O U M _ (heap_alloc_new w1 _) ((HV2.out.below HB1.out).below b2)
 have HOF:=zA hof
 clear b2 c0 c1 c2 c3 c4 c5 c6 c7 c8 hof
 generalize hW2:w1.alloc (.cells (Qu U ao M.length cap) 60)=W2 at *
 clear hW2
 refine HOF.out.mono ?_
 rintro e w3 ⟨o,rfl,ho,h3,b3⟩
 have HB3:=zA (HB2.out.trans (b3.mono HB2.out.size))
 have HOL:=zA ho
 have H3:=zA h3
 clear ho h3 b3 HOF
 go_wp2_with fail
 have y3:=H45.out _ HB3.out
 have co:=H3.out.cell HN.out (show s<98 by have:=HS.out;omega)
 rw[HOO.out]at co
 have f0:∀q:Beh w3,q.w.cell? ⟨w.heap.size+1,0,none⟩=some (.int .i64 n):=fun q=>q.cell (cc 0 y3)
 have f1:∀q:Beh w3,q.w.cell? ⟨w.heap.size+1,1,none⟩=some (.int .i64 s):=fun q=>q.cell (cc 1 y3)
 have f2:∀q:Beh w3,q.w.cell? ⟨o,n*98+s,none⟩=some (.bool false):=fun q=>q.cell co
 have g8:(n:Int)<8:=by have:=HN.out;omega
 have g9:(s:Int)<98:=by have:=HS.out;omega
 have HBX:=zA (Below.refl w3.heap.size w3)
 clear y3 co
 refine zS lE lE HBX.out ?_
 repeat (go_big_quiet_step (fail))
 refine wpQuiet_nil ?_
 intro _ hw'
 obtain⟨q,hw''⟩:=hw'
 subst hw''
 have bq:=HB3.out.trans (q.b.mono HB3.out.size)
 have y4:=H45.out _ bq
 have d0:=cc 0 y4
 have d1:=cc 1 y4
 have HBQ:=zA bq
 have qV:=zA (put_ok o n s O q.w (H3.out.below q.b) HN.out (by have:=HS.out;omega))
 clear y4 bq f0 f1 f2
 go_wp2_with fail
 refine qV.out.mono ?_
 rintro e w5 ⟨rfl,h5,F5⟩
 have HB5:=zA (F5.since HBQ.out (fun g hg=>by rw[show g=o from hg];exact Nat.le_trans HB2.out.size HOL.out))
 have HCL:=zA (close_ok o _ w5 h5 oB.out)
 clear h5 F5 qV d0 d1
 go_wp2_with fail
 refine HCL.out.mono ?_
 rintro e w6 ⟨v6,U6,M6,rfl,h6,b6⟩
 have HB6:=zA (HB5.out.trans (b6.mono HB5.out.size))
 have H6:=zA h6
 obtain⟨m6,rfl,hd6,_⟩:=h6
 obtain⟨ao6,cap6,rfl,_⟩:=hd6.toC
 have z6:=HZZ.out _ HB6.out
 have HZ6:=zA z6
 have c0:=cc 0 z6
 have c1:=cc 1 z6
 have c2:=cc 2 z6
 have c3:=cc 3 z6
 have c4:=cc 4 z6
 have c5:=cc 5 z6
 have c6:=cc 6 z6
 have c7:=cc 7 z6
 have c8:=cc 8 z6
 have fz:=zB z6
 clear b6 hd6 z6
 go_wp2_with fail
 have hz9:=set9 w6 _ 60 _ _ _ _ _ _ _ _ _ (.int .i64 (U6 0)) (.int .i64 (U6 1)) (.int .i64 (U6 2)) (.int .i64 (U6 3)) (.int .i64 (U6 4)) (.int .i64 (U6 5)) (.int .i64 (U6 6)) (.int .i64 (U6 7)) (.slice ao6 M6.length cap6) HZ6.out
 have ho9:=other9 w6 (w.heap.size+1+1) (.int .i64 (U6 0)) (.int .i64 (U6 1)) (.int .i64 (U6 2)) (.int .i64 (U6 3)) (.int .i64 (U6 4)) (.int .i64 (U6 5)) (.int .i64 (U6 6)) (.int .i64 (U6 7)) (.slice ao6 M6.length cap6)
 have hb9:=below9 (.int .i64 (U6 0)) (.int .i64 (U6 1)) (.int .i64 (U6 2)) (.int .i64 (U6 3)) (.int .i64 (U6 4)) (.int .i64 (U6 5)) (.int .i64 (U6 6)) (.int .i64 (U6 7)) (.slice ao6 M6.length cap6) (HB.out.trans (HB6.out.mono HB.out.size)) (show w.heap.size≤w.heap.size+1+1 by omega)
 generalize (Qhu0 w6 (w.heap.size+1+1) U6 (.slice ao6 M6.length cap6):World)=Z at *
 clear c0 c1 c2 c3 c4 c5 c6 c7 c8
 have c0:=cc 0 hz9
 have c1:=cc 1 hz9
 have c2:=cc 2 hz9
 have c3:=cc 3 hz9
 have c4:=cc 4 hz9
 have c5:=cc 5 hz9
 have c6:=cc 6 hz9
 have c7:=cc 7 hz9
 have c8:=cc 8 hz9
 refine bodyPost_ret (v:=.tuple #[Pl.setv U6 (.slice ao6 M6.length cap6),.int .i64 0]) (by simp[results,results173,go_sem,c0,c1,c2,c3,c4,c5,c6,c7,c8,Pl.setv]) rfl ⟨_,U6,M6,rfl,H6.out.keep (fun g cs fr hg=>ho9 g (fun e=>?_)),hb9⟩
 rw[e,HZ6.out]at hg;cases hg
def Pl.fidx {α:Type} (p:α→Bool) (xs:List α):Int:=match xs.findIdx? p with
 | some i=>i
 | none=> -1
theorem Pl.fidx_at {α:Type} (p:α→Bool) (xs:List α) (k:Nat) (hk:k<xs.length) (h:p xs[k]=true) (hb:∀j (hj:j<k),p (xs[j]'(Nat.lt_trans hj hk))=false):Pl.fidx p xs=k:=by
 unfold Pl.fidx
 rw[List.findIdx?_eq_some_iff_getElem.2 ⟨hk,h,fun j hj=>by rw[hb j hj];simp⟩]
theorem Pl.fidx_none {α:Type} (p:α→Bool) (xs:List α) (hb:∀j (hj:j<xs.length),p xs[j]=false):Pl.fidx p xs = -1:=by
 unfold Pl.fidx
 rw[List.findIdx?_eq_none_iff.2 (fun x hx=>by
  obtain⟨i,hi,rfl⟩:=List.getElem_of_mem hx
  exact hb i hi)]
theorem idxd_any (v:Value) (f:Nat) (cb:Array Value) (ds:List (Nat×Nat)) (p:Nat×Nat→Bool) (w:World) (hl:ds.length≤1000000) (hx:RowT kDot w v ds)
  (hcf:∀(x:Value) (W:World),Sem.run prog (callFunc f (#[x]++cb)) W=.ok (.enter f (#[x]++cb)) W)
  (hC:∀(d:Nat×Nat) W,d∈ds→Below w.heap.size w W→Calls prog f (#[.agg (Qi d.1 d.2)]++cb) W fun e w'=>e=.returned (.bool (p d))∧Below W.heap.size W w') :
  Calls prog 124 #[v,.func (.func f) #[] cb] w fun e w'=>e=.returned (.int .i64 (Pl.fidx p ds))∧Below w.heap.size w w':=by
 have HX:=zA hx
 obtain⟨ao,cap,rfl⟩:=hx.form
 have HC:=zA hC
 clear hC hx
 go_enter func124,ntmps124
 go_wp2_with fail
 go_loopw [8] (fun i wr=>∃(k:Nat),k≤ds.length∧i=.int .i64 k∧Below w.heap.size w wr∧Hid (∀j (hj:j<k) (hj':j<ds.length),p ds[j]=false)) (fun i _=>ds.length - (intOf i).toNat)
 case atStart=>exact⟨0,by omega,rfl,Below.refl _ _,zA (fun j hj=>absurd hj lD)⟩
 case round=>
  obtain⟨k,hk,rfl,hI,HP⟩:=hrel
  have HI:=zA hI
  by_cases hlt:k<ds.length
  ·obtain⟨g,off,cap',hv,hg,pJ⟩:=(HX.out.below hI).cell hlt
   cases hv
   have c0:=pJ 0 _ rfl
   have c1:=pJ 1 _ rfl
   simp only[Nat.add_zero,show kDot.k=2 from rfl]at c0 c1
   have HC2:=zA (HC.out _ wr (List.getElem_mem hlt) hI)
   have HPK:=zA (show ds[k]=ds[k]from rfl)
   clear pJ hI
   cases hb:p ds[k]with
   | true=>
    rw[hb]at HC2
    have HF:=zA (Pl.fidx_at p ds k hlt hb (fun j hj=>HP.out j hj lD))
    clear hb HP
    generalize (ds[k]).1=n at *
    generalize (ds[k]).2=s at *
    go_wp2_with fail
    refine HC2.out.mono ?_
    rintro e w5 ⟨rfl,b5⟩
    have HI5:=zA (HI.out.trans (b5.mono HI.out.size))
    clear b5
    go_wp2_with fail
    go_ret
    exact⟨by rw[HF.out];rfl,HI5.out⟩
   | false=>
    rw[hb]at HC2
    have HP2:Hid (∀j (hj:j<k+1) (hj':j<ds.length),p ds[j]=false):=zA (fun j hj hj'=>by
     rcases Nat.lt_or_ge j k with h | h
     ·exact HP.out j h hj'
     ·have:j=k:=by omega
      subst this;exact hb)
    clear hb HP
    generalize (ds[k]).1=n at *
    generalize (ds[k]).2=s at *
    go_wp2_with fail
    refine HC2.out.mono ?_
    rintro e w5 ⟨rfl,b5⟩
    have HI5:=zA (HI.out.trans (b5.mono HI.out.size))
    clear b5
    go_wp2_with fail
    exact⟨⟨k+1,by omega,rfl,HI5.out,HP2⟩,by simp[intOf];omega⟩
  ·obtain rfl:k=ds.length:=by omega
   have HF:=zA (Pl.fidx_none p ds (fun j hj=>HP.out j hj hj))
   clear hI hlt HP
   go_wp2_with fail
   go_ret
   exact⟨by rw[HF.out];rfl,HI.out⟩
theorem Pl.fidx_cases {α:Type} (p:α→Bool) (xs:List α):(Pl.fidx p xs = -1∧∀x∈xs,p x=false)∨∃k,∃hk:k<xs.length,Pl.fidx p xs=k∧p xs[k]=true∧∀j (hj:j<k),p (xs[j]'(Nat.lt_trans hj hk))=false:=by
 unfold Pl.fidx
 cases h:xs.findIdx? p with
 | none=>exact .inl ⟨rfl,List.findIdx?_eq_none_iff.1 h⟩
 | some i=>
  obtain⟨hk,h1,h2⟩:=List.findIdx?_eq_some_iff_getElem.1 h
  exact .inr ⟨i,hk,rfl,h1,fun j hj=>by simpa using h2 j hj⟩
def Pl.stay {α:Type} (p:α→Bool) (xs:List α) (n:Nat):Nat:=((xs.take n).filter (fun x=> !p x)).length
theorem Pl.stay_succ {α:Type} (p:α→Bool) (xs:List α) (n:Nat) (h:n<xs.length):Pl.stay p xs (n+1)=Pl.stay p xs n+if p xs[n]then 0 else 1:=by
 unfold Pl.stay
 rw[List.take_succ_eq_append_getElem h,List.filter_append,List.length_append]
 cases h2:p xs[n]<;>simp[h2]
theorem Pl.stay_first {α:Type} (p:α→Bool) (xs:List α) (k:Nat) (hk:k<xs.length) (hb:∀j (hj:j<k),p (xs[j]'(Nat.lt_trans hj hk))=false):∀n,n≤k→Pl.stay p xs n=n:=by
 intro n
 induction n with
 | zero=>intro _;rfl
 | succ n ih=>intro h;rw[Pl.stay_succ p xs n (by omega),ih (by omega),hb n (by omega)];rfl
theorem Pl.stay_all {α:Type} (p:α→Bool) (xs:List α):Pl.stay p xs xs.length=(xs.filter (fun x=> !p x)).length:=by unfold Pl.stay;rw[List.take_length]
theorem zeros_len (z:Array Value) (n:Nat):(Builtin.zeroCells z n).toList.length=n*z.size:=by simp[Builtin.zeroCells]
theorem zeros_one (z:Array Value) (n:Nat) (h:∀i,i<z.size→(z[i]!).oneCell'=true):∀v∈(Builtin.zeroCells z n).toList,v.oneCell'=true:=fun v hv=>by
 simp[Builtin.zeroCells]at hv
 obtain⟨i,hi,rfl⟩:=hv
 have hz:0<z.size:=by
  rcases Nat.eq_zero_or_pos z.size with e | e
  ·rw[e]at hi;omega
  ·exact e
 have:=h (i%z.size) (Nat.mod_lt _ hz)
 simpa using this
theorem sS {α:Type} (K:Rk α) (w:World) (ty:TypeId) (b o n c:Nat) (hn:0<n) (h1:∀i,i<K.z.cells.size→(K.z.cells[i]!).oneCell'=true)
  (hc:∀j,j<n*K.k→(w.cell? ⟨b,o+j,none⟩).isSome=true) (hf:∀j,j<n*K.k→w.frozen? ⟨b,o+j,none⟩=false) :
  (Builtin.clear_ #[K.S] ty #[.slice (some ⟨b,o,none⟩) n c]).run prog w=.ok (.tuple #[]) (w.setCells b o (Builtin.zeroCells K.z.cells n).toList):=by
 have hl:(Builtin.zeroCells K.z.cells n).toList.length=n*K.k:=by rw[zeros_len,K.hz]
 have hst:=run_storeCells_cells (P:=prog) b o (Builtin.zeroCells K.z.cells n).toList 0 w (by rw[hl];simpa using hc) (by rw[hl];simpa using hf) (zeros_one _ _ h1)
 simp only[Nat.add_zero]at hst
 obtain⟨i0,hi,z0,z1,z2⟩:=info_parts K.hi
 have hv:∀w,(zeroValue K.T).run prog w=.ok K.z w:=fun w=>by simp[zeroValue,typeInfo,hi,z0]
 obtain⟨m,rfl⟩:∃m,n=m+1:=⟨n - 1,by omega⟩
 simp only[Builtin.clear_]
 simp[run_underlying K.hu,hv]
 rw[hst];rfl
theorem yB (g:Nat):∀(vs:List Value) (o:Nat) (w:World),(w.setCells g o vs).heap.size=w.heap.size∧(∀i,i≠g→(w.setCells g o vs).heap[i]?=w.heap[i]?)∧(w.setCells g o vs).os=w.os∧(w.setCells g o vs).tape=w.tape∧(w.setCells g o vs).output=w.output
 | [],_,_=>⟨rfl,fun _ _=>rfl,rfl,rfl,rfl⟩
 | v::r,o,w=>by
  obtain⟨h1,h2,h3,h4,h5⟩:=yB g r (o+1) (w.setCell ⟨g,o,none⟩ v)
  exact⟨h1.trans (by simp[World.setCell]),fun i hi=>(h2 i hi).trans (Below.heap_setCell _ _ _ _ hi),h3,h4,h5⟩
theorem Off.setCells {F:Nat→Prop} {w w':World} (h:Off F w w') (g o:Nat) (vs:List Value) (hF:F g):Off F w (w'.setCells g o vs):=by
 obtain⟨h1,h2,h3,h4,h5⟩:=yB g vs o w'
 exact⟨by rw[h1];exact h.size,fun i hi hn=>(h2 i (fun e=>hn (e ▸ hF))).trans (h.same i hi hn),h3.trans h.rest.1,h4.trans h.rest.2.1,h5.trans h.rest.2.2⟩
theorem deld_any (g cap:Nat) (f:Nat) (cb:Array Value) (ds:List (Nat×Nat)) (p:Nat×Nat→Bool) (w:World) (hl:ds.length≤1000000) (hx:OwnR kDot 0 w (.slice (some ⟨g,0,none⟩) ds.length cap) ds)
  (hcf:∀(x:Value) (W:World),Sem.run prog (callFunc f (#[x]++cb)) W=.ok (.enter f (#[x]++cb)) W)
  (hC:∀(d:Nat×Nat) W,d∈ds→Off (· = g) w W→Calls prog f (#[.agg (Qi d.1 d.2)]++cb) W fun e w'=>e=.returned (.bool (p d))∧Below W.heap.size W w') :
  Calls prog 56 #[.slice (some ⟨g,0,none⟩) ds.length cap,.func (.func f) #[] cb] w fun e w'=>∃ad cap',e=.returned (.slice ad (ds.filter (fun d=> !p d)).length cap')∧Off (· = g) w w':=by
 have HI:=zA (idxd_any _ f cb ds p w hl hx.toT hcf (fun d W hd hb=>hC d W hd (.of_below hb)))
 have HC:=zA hC
 have HX:=zA hx
 clear hC hx
 go_enter func56,ntmps56
 go_wp2_with fail
 refine HI.out.mono ?_
 rintro e w1 ⟨rfl,b1⟩
 rcases Pl.fidx_cases p ds with⟨hf,qF⟩ | ⟨k,hk,hf,hpk,hb⟩
 ·rw[hf]
  have HB:=zA b1
  have HALL:=zA qF
  clear b1 HI hf qF
  go_wp2_with fail
  go_ret
  refine⟨some ⟨g,0,none⟩,cap,?_,.of_below HB.out⟩
  rw[List.filter_eq_self.2 (fun a ha=>by rw[HALL.out a ha];rfl)];rfl
 ·rw[hf]
  have hne:((k:Int) == -1)=false:=by rw[beq_eq_false_iff_ne];omega
  have hk1:(k:Int)+1≤9223372036854775807:=by omega
  have hst:Pl.stay p ds (k+1)=k:=by rw[Pl.stay_succ p ds k hk,hpk,Pl.stay_first p ds k hk hb k (Nat.le_refl _)];rfl
  have hblk:∃cur,w1.heap[g]?=some (.cells cur 45 (0,0))∧cur.size=cap*2∧ds.length≤cap∧cap≤maxLen∧cur.toList.take (ds.length*2)=kDot.encs ds:=by
   rcases HX.out.2 with⟨h,_⟩ | ⟨g',cap',cur,e,_,hg,h1,h2,h3,h4⟩
   ·cases h
   ·cases e
    exact⟨cur,(b1.block g (gsi.1 hg).1).trans hg,h3,h1,h2,h4⟩
  obtain⟨cur,hg,hsz,hcp,hmx,htk⟩:=hblk
  have HST:=zA hst
  have HB:=zA b1
  have HG:=zA hg
  have HSZ:=zA hsz
  have HTK:=zA htk
  have HKK:=zA hk
  have HMX:=zA hmx
  clear b1 HI hf hpk hb hst hg hsz htk hmx
  go_wp2_with fail
  go_loopw [5,6] (fun i j wr=>∃(b:Nat),b≤ds.length∧i=.int .i64 (Pl.stay p ds b)∧j=.int .i64 b∧Hid (Pl.stay p ds b<b)∧Off (· = g) w wr∧Hid (∃cur',wr.heap[g]?=some (.cells cur' 45 (0,0))∧cur'.size=cap*2∧∀t,b*2≤t→t<ds.length*2→cur'[t]?=cur[t]?)) (fun i j _=>ds.length - (intOf j).toNat)
  case atStart=>exact⟨k+1,by have:=HKK.out;omega,by rw[HST.out],rfl,zA (by rw[HST.out];omega),.of_below HB.out,zA ⟨cur,HG.out,HSZ.out,fun _ _ _=>rfl⟩⟩
  case round=>
   obtain⟨b,hbl,rfl,rfl,HLT,hF,pL⟩:=hrel
   have HF:=zA hF
   generalize ha:Pl.stay p ds b=a at *
   have HA:=zA ha
   clear ha hF
   by_cases hlt:b<ds.length
   ·obtain⟨cur',hg',hs',he'⟩:=pL.out
    have hcl:∀j,j<2→cur'[b*2+j]?=(kDot.enc ds[b])[j]?:=fun j hj=>by
     rw[he' _ (by omega) (by omega),←Array.getElem?_toList,←kDot.encs_get ds b j hlt hj,←HTK.out,List.getElem?_take,if_pos (show b*kDot.k+j<ds.length*2 by show b*2+j<_;omega)];rfl
    have c0:=zE hg' ((hcl 0 lF).trans rfl)
    have c1:=zE hg' ((hcl 1 lF).trans rfl)
    simp only[Nat.add_zero]at c0
    have bw:Below wr.heap.size wr (wr.alloc (.cells (Qi (ds[b]).1 (ds[b]).2) 45)):=bn _ _
    have HC2:=zA (HC.out ds[b] _ (List.getElem_mem hlt) (HF.out.trans (.of_below bw)))
    have HY:=zA (heap_alloc_new wr (.cells (Qi (ds[b]).1 (ds[b]).2) 45))
    have HBW:=zA bw
    have HSS:=zA (Pl.stay_succ p ds b hlt)
    have HG':=zA hg'
    have HS':=zA hs'
    have HE':=zA he'
    have HGL:=zA (gsi.1 hg').1
    clear hcl bw hg' hs' he' pL
    generalize (ds[b]).1=n at *
    generalize (ds[b]).2=s at *
    cases hb:p ds[b]with
    | true=>
     rw[hb]at HC2
     have HSS2:=zA (show Pl.stay p ds (b+1)=a by rw[HSS.out,hb,HA.out];rfl)
     clear hb HSS
     go_wp2_with fail
     refine HC2.out.mono ?_
     rintro e w5 ⟨rfl,b5⟩
     have hb5:=HBW.out.trans (b5.mono HBW.out.size)
     have HB5:=zA hb5
     clear b5 hb5
     go_wp2_with fail
     refine⟨⟨b+1,by omega,by rw[HSS2.out],rfl,zA (by rw[HSS2.out];have:=HLT.out;omega),HF.out.trans (.of_below HB5.out),zA ⟨cur',(HB5.out.block g HGL.out).trans HG'.out,HS'.out,fun t h1 h2=>HE'.out t lD h2⟩⟩,by simp[intOf];omega⟩
    | false=>
     rw[hb]at HC2
     have HSS2:=zA (show Pl.stay p ds (b+1)=a+1 by rw[HSS.out,hb,HA.out];rfl)
     clear hb HSS
     have hal:a<ds.length:=by have:=HLT.out;omega
     have hai:(a:Int)<ds.length:=by omega
     have ha1:(a:Int)+1≤9223372036854775807:=by omega
     have hb1:(b:Int)+1≤9223372036854775807:=by omega
     go_wp2_with fail
     refine HC2.out.mono ?_
     rintro e w5 ⟨rfl,b5⟩
     have hb5:=HBW.out.trans (b5.mono HBW.out.size)
     have HB5:=zA hb5
     have y5:=(b5.block _ (gsi.1 HY.out).1).trans HY.out
     have g5:=(hb5.block g HGL.out).trans HG'.out
     have d0:=cc 0 y5
     have d1:=cc 1 y5
     have hsz5:a*2+1<cur'.size:=by rw[HS'.out];omega
     have k0:w5.cell? ⟨g,a*2,none⟩=some (cur'[a*2]'lD):=zE g5 (Array.getElem?_eq_getElem lD)
     have k1:w5.cell? ⟨g,a*2+1,none⟩=some (cur'[a*2+1]'hsz5):=zE g5 (Array.getElem?_eq_getElem hsz5)
     have fz:=zB g5
     have HG5:=zA g5
     clear b5 hb5 y5 g5 c0 c1
     go_wp2_with fail
     have hx1:=zF (j:=a*2) HG5.out (.int .i64 n)
     have hx2:=zF (j:=a*2+1) hx1 (.int .i64 s)
     refine⟨⟨b+1,by omega,by rw[HSS2.out];rfl,rfl,zA (by rw[HSS2.out];have:=HLT.out;omega),((HF.out.trans (.of_below HB5.out)).set (a:=⟨g,a*2,none⟩) (.inl rfl) _).set (a:=⟨g,a*2+1,none⟩) (.inl rfl) _,zA ⟨_,hx2,by simpa using HS'.out,fun t h1 h2=>?_⟩⟩,by simp[intOf];omega⟩
     have:=HLT.out
     rw[Array.getElem?_setIfInBounds_ne (by omega),Array.getElem?_setIfInBounds_ne (by omega)]
     exact HE'.out t lD h2
   ·obtain rfl:b=ds.length:=by omega
    obtain⟨cur',hg',hs',_⟩:=pL.out
    have hal:(a:Int)≤ds.length:=by have:=HLT.out;omega
    have hac:(a:Int)≤cap:=by have:=HLT.out;omega
    have hal2:a≤ds.length:=by have:=HLT.out;omega
    have hac2:a≤cap:=by have:=HLT.out;omega
    have hcc:¬cap=a:=by have:=HLT.out;omega
    have CL:=sS kDot wr 0 g (a*2) (ds.length - a) (cap - a) (by have:=HLT.out;omega) (fun i hi=>by
     change i<2 at hi
     match i,hi with
     | 0,_=>rfl
     | 1,_=>rfl
     | i+2,h=>omega) (fun j hj=>by rw[zE hg' (Array.getElem?_eq_getElem (show a*2+j<cur'.size by rw[hs'];change j<(ds.length - a)*2 at hj;omega))];rfl) (fun j hj=>zB hg' _)
    have HOFF:=zA (HF.out.setCells g (a*2) (Builtin.zeroCells kDot.z.cells (ds.length - a)).toList rfl)
    have hlen:a=(ds.filter (fun d=> !p d)).length:=by rw[←HA.out,Pl.stay_all]
    have qO:=zA hlen
    simp only[show kDot.S=58 from rfl]at CL
    generalize wr.setCells g (a*2) (Builtin.zeroCells kDot.z.cells (ds.length - a)).toList=WZ at *
    clear hlen hg' hs' pL hlt hbl
    go_wp2_with fail
    go_ret
    exact⟨some ⟨g,0,none⟩,cap,by rw[←qO.out];rfl,HOFF.out⟩
theorem deld_nil (f:Nat) (cb:Array Value) (w:World) (hcf:∀(x:Value) (W:World),Sem.run prog (callFunc f (#[x]++cb)) W=.ok (.enter f (#[x]++cb)) W) :
  Calls prog 56 #[.slice none 0 0,.func (.func f) #[] cb] w fun e w'=>e=.returned (.slice none 0 0)∧Below w.heap.size w w':=by
 have HI:=zA (idxd_any _ f cb [] (fun _=>false) w (by simp) (tH kDot w) hcf (fun d W hd hb=>by cases hd))
 go_enter func56,ntmps56
 go_wp2_with fail
 refine HI.out.mono ?_
 rintro e w1 ⟨rfl,b1⟩
 have HB:=zA b1
 rw[show Pl.fidx (fun _=>false) ([]:List (Nat×Nat)) = -1 from rfl]
 clear b1 HI
 go_wp2_with fail
 go_ret
 exact⟨rfl,HB.out⟩
theorem less1_ok (t o n s:Nat) (O:Nat→Nat→Bool) (w:World) (ht:w.cell? ⟨t,0,none⟩=some (.pointer (some ⟨o,0,none⟩))) (ho:OpAt w o O) (hn:n<8) (hs:s<98) :
  Calls prog 58 #[.agg (Qi n s),Qp t] w fun e w'=>e=.returned (.bool (O n s))∧Below w.heap.size w w':=by
 have htl:t<w.heap.size:=by
  rcases Nat.lt_or_ge t w.heap.size with h' | h'
  ·exact h'
  ·simp[World.cell?,Array.getElem?_eq_none h']at ht
 have hol:=ho.lt
 have bw:Below w.heap.size w (w.alloc (.cells (Qi n s) 45)):=bn _ _
 have hy:=heap_alloc_new w (.cells (Qi n s) 45)
 have f0:∀q:Beh (w.alloc (.cells (Qi n s) 45)),q.w.cell? ⟨w.heap.size,0,none⟩=some (.int .i64 n):=fun q=>q.cell (cc 0 hy)
 have f1:∀q:Beh (w.alloc (.cells (Qi n s) 45)),q.w.cell? ⟨w.heap.size,1,none⟩=some (.int .i64 s):=fun q=>q.cell (cc 1 hy)
 have f2:∀q:Beh (w.alloc (.cells (Qi n s) 45)),q.w.cell? ⟨t,0,none⟩=some (.pointer (some ⟨o,0,none⟩)):=fun q=>q.cell ((bw.cell (p:=⟨t,0,none⟩) htl).trans ht)
 have f3:∀q:Beh (w.alloc (.cells (Qi n s) 45)),q.w.cell? ⟨o,n*98+s,none⟩=some (.bool (O n s)):=fun q=>q.cell ((bw.cell (p:=⟨o,n*98+s,none⟩) hol).trans (ho.cell hn hs))
 have HBX:=zA (Below.refl (w.alloc (.cells (Qi n s) 45)).heap.size (w.alloc (.cells (Qi n s) 45)))
 have HBW:=zA bw
 have g8:(n:Int)<8:=by omega
 have g9:(s:Int)<98:=by omega
 generalize O n s=b at *
 clear hy bw ht ho
 go_enter func58,ntmps58
 go_wp2_with fail
 refine zS lE lE HBX.out ?_
 repeat (go_big_quiet_step (fail))
 refine wpQuiet_nil ?_
 intro _ hw'
 obtain⟨q,hw''⟩:=hw'
 subst hw''
 go_wp2_with fail
 go_ret
 exact⟨rfl,HBW.out.trans (q.b.mono HBW.out.size)⟩
def Pl.less (O P:Nat→Nat→Bool):List (Nat×Nat):=(Pl.dots O).filter (fun d=> !P d.1 d.2)
theorem less_ok (va vb:Value) (O P:Nat→Nat→Bool) (U V:Nat→Nat) (M N:List (Nat×Nat)) (w:World) (h:SetV w va O U M) (k:SetV w vb P V N) :
  Calls prog 15 #[va,vb] w fun e w'=>∃ad cap,e=.returned (.slice ad (Pl.less O P).length cap)∧Below w.heap.size w w':=by
 have HV:=zA h
 have HK:=zA k
 obtain⟨m,rfl,hd,hc⟩:=h
 obtain⟨ao,cap,rfl,_⟩:=hd.toC
 obtain⟨m2,rfl,kd,kc⟩:=k
 obtain⟨bo,cbp,rfl,_⟩:=kd.toC
 have oB:=zA hc.fit
 have b1:=bn w (.cells (Qu U ao M.length cap) 60)
 have b2:=b1.alloc b1.size (.cells (Qu V bo N.length cbp) 60)
 have b3:=b2.alloc b2.size (.cells (Qu V bo N.length cbp) 60)
 have hx:=heap_alloc_new w (.cells (Qu U ao M.length cap) 60)
 have hx2:=((bn _ (.cells (Qu V bo N.length cbp) 60)).block _ (gsi.1 hx).1).trans hx
 have hx3:=((bn _ (.cells (Qu V bo N.length cbp) 60)).block _ (gsi.1 hx2).1).trans hx2
 have hof:=of_ok _ _ P V N _ (heap_alloc_new ((w.alloc (.cells (Qu U ao M.length cap) 60)).alloc (.cells (Qu V bo N.length cbp) 60)) _) (HK.out.below b3)
 rw[zG,zG]at hof
 have HOF:=zA hof
 have HB:=zA b3
 have HX:=zA hx3
 have HV2:=zA (HV.out.below b3)
 clear hd hc kd kc b1 b2 b3 hx hx2 hx3 hof
 go_enter func15,ntmps15
 go_wp2_with fail
 generalize (((w.alloc (.cells (Qu U ao M.length cap) 60)).alloc (.cells (Qu V bo N.length cbp) 60)).alloc (.cells (Qu V bo N.length cbp) 60))=W0 at *
 refine HOF.out.mono ?_
 rintro e w1 ⟨o,rfl,ho,h1,hb1⟩
 have x1:=(hb1.block _ (gsi.1 HX.out).1).trans HX.out
 have HB1:=zA (HB.out.trans (hb1.mono HB.out.size))
 have H1:=zA h1
 have HV3:=zA (HV2.out.below hb1)
 have bp:=bn w1 (.cells #[Qp o] 125)
 have x2:=(bp.block _ (gsi.1 x1).1).trans x1
 have c0:=cc 0 x2
 have c1:=cc 1 x2
 have c2:=cc 2 x2
 have c3:=cc 3 x2
 have c4:=cc 4 x2
 have c5:=cc 5 x2
 have c6:=cc 6 x2
 have c7:=cc 7 x2
 have c8:=cc 8 x2
 have HBP:=zA bp
 have HP:=zA (heap_alloc_new w1 (.cells #[Qp o] 125))
 clear x1 x2 h1 hb1 ho bp HOF HV2
 go_wp2_with fail
 have hsz0:w.heap.size≤w1.heap.size:=HB1.out.size
 have HSZ0:=zA hsz0
 clear hsz0
 generalize hW1:w1.alloc (.cells #[Qp o] 125)=W1 at *
 clear hW1
 refine(list_ok _ O U M _ (HV3.out.below HBP.out)).mono ?_
 rintro e w2 ⟨v2,rfl,o2,b2⟩
 have ht:=zE (j:=0) ((b2.block _ (gsi.1 HP.out).1).trans HP.out) rfl
 have htl:=(gsi.1 HP.out).1
 have h2:=(H1.out.below HBP.out).below b2
 have hol:=(H1.out.below HBP.out).lt
 have HB2:=zA (HB1.out.trans ((HBP.out.trans (b2.mono HBP.out.size)).mono HSZ0.out))
 clear c0 c1 c2 c3 c4 c5 c6 c7 c8
 rcases o2.2 with⟨hv,h0⟩ | ⟨g,cap2,cur,hv,qJ,hrest⟩
 ·subst hv
  have hless:(Pl.less O P).length=0:=by
   unfold Pl.less
   rw[List.eq_nil_of_length_eq_zero h0];rfl
  have HL:=zA hless
  have HD:=zA (deld_nil 58 #[Qp w1.heap.size] w2 (fun x W=>by kernel_rfl))
  clear o2 ht h2 h0 hless b2
  go_wp2_with fail
  refine HD.out.mono ?_
  rintro e w3 ⟨rfl,b3⟩
  have HB3:=zA (HB2.out.trans (b3.mono HB2.out.size))
  clear b3
  go_wp2_with fail
  go_ret
  exact⟨none,0,by rw[HL.out];rfl,HB3.out⟩
 ·subst hv
  have hgw:W1.heap.size≤g:=qJ
  have HD:=zA (deld_any g cap2 58 #[Qp w1.heap.size] (Pl.dots O) (fun d=>P d.1 d.2) w2 (by
   have:=Pl.ahead_len O oB.out 8 0
   rw[Pl.ahead_end]at this;omega) (o2.mono (Nat.zero_le _)) (fun x W=>by kernel_rfl) (fun d W hd hF=>by
    have hdo:=oB.out _ _ ((Pl.mem_dots oB.out d.1 d.2).1 hd)
    refine less1_ok w1.heap.size o d.1 d.2 P W ?_ (h2.keep (hF.same o (Nat.lt_of_lt_of_le hol b2.size) lD)) hdo.1 lD
    refine Eq.trans ?_ ht
    exact World.cell?_of_block (hF.same _ (Nat.lt_of_lt_of_le htl b2.size) (by show ¬w1.heap.size=g;omega))))
  have HGW:=zA (show w.heap.size≤g by have:=HBP.out.size;have:=HSZ0.out;omega)
  clear o2 ht h2 b2 hrest qJ hgw
  go_wp2_with fail
  refine HD.out.mono ?_
  rintro e w3 ⟨ad,cap3,rfl,hF⟩
  have HB3:=zA (hF.since HB2.out (fun x hx=>by rw[show x=g from hx];exact HGW.out))
  clear hF
  go_wp2_with fail
  go_ret
  exact⟨ad,cap3,rfl,HB3.out⟩
end
section
open Go.RowKit Rw Rh
variable {α:Type} {K:Rk α}
def RowC (K:Rk α) (w:World) (v:Value) (xs:List α):Prop:=
 ∃ao cap,v=.slice ao xs.length cap∧(ao=none→xs=[]∧cap=0)∧∀i (h:i<xs.length),∃g off,ao=some ⟨g,off,none⟩∧g<w.heap.size∧∀j,j<K.k→w.cell? ⟨g,off+i*K.k+j,none⟩=(K.enc xs[i])[j]?
theorem RowT.toC {w:World} {v:Value} {xs:List α} (h:RowT K w v xs):RowC K w v xs:=by
 obtain⟨ao,cap,h1,h2,h3⟩:=h
 refine⟨ao,cap,h1,h2,fun i hi=>?_⟩
 obtain⟨g,off,cs,fr,e,hg,c⟩:=h3 i hi
 exact⟨g,off,e,(gsi.1 hg).1,fun j hj=>by rw[←c j hj];simp[World.cell?,hg]⟩
theorem RowC.form {w:World} {v:Value} {xs:List α} (h:RowC K w v xs):∃ao cap,v=.slice ao xs.length cap:=by obtain⟨ao,cap,e,_⟩:=h;exact⟨ao,cap,e⟩
theorem RowC.none {w:World} {ao:Option Addr} {cap:Nat} {xs:List α} (h:RowC K w (.slice ao xs.length cap) xs):ao=none→xs.length=0∧cap=0:=fun ha=>by
 exact mI
theorem RowC.below {w w':World} {v:Value} {xs:List α} (h:RowC K w v xs) (hb:Below w.heap.size w w'):RowC K w' v xs:=by
 obtain⟨ao,cap,h1,h2,h3⟩:=h
 refine⟨ao,cap,h1,h2,fun i hi=>?_⟩
 obtain⟨g,off,e,hg,c⟩:=h3 i hi
 exact⟨g,off,e,Nat.lt_of_lt_of_le hg hb.size,fun j hj=>(hb.cell (p:=⟨g,off+i*K.k+j,.none⟩) hg).trans (c j hj)⟩
theorem RowC.cell {w:World} {v:Value} {xs:List α} (h:RowC K w v xs) {i:Nat} (hi:i<xs.length):∃g off cap,v=.slice (some ⟨g,off,.none⟩) xs.length cap∧g<w.heap.size∧∀j u,(K.enc xs[i])[j]?=some u→w.cell? ⟨g,off+i*K.k+j,.none⟩=some u:=by
 obtain⟨ao,cap,h1,h2,h3⟩:=h
 obtain⟨g,off,e,hg,c0⟩:=h3 i hi
 refine⟨g,off,cap,by rw[h1,e],hg,fun j u hu=>?_⟩
 have hj:j<K.k:=by
  exact mX
 rw[c0 j hj];exact hu
theorem RowC.news {w:World} {ao:Option Addr} {cap:Nat} {xs:List α} (h:RowC K w (.slice ao xs.length cap) xs):∀ad,ao=some ad→∀j u,(K.encs xs)[j]?=some u→w.cell? (ad.add j)=some u:=fun ad had j u hj=>by
 exact nA
theorem yU (K:Rk α) {w w0:World} {ops:Array Oper} {rest:List Oper} {o:Oper} {a:Act} {Q:Exit→Act→World→Prop} {base:Nat} {v x:Value} {xs ys:List α} (hgd:o.guard=.none) (sl xl:Operand)
  (ho:o.op=.call {callee:=.builtin .append,args:=#[sl,xl],argTypes:=#[K.S,K.S]}) (hs:a.eval sl=v) (qC:OwnR K base w v xs) (hx:a.eval xl=x) (hc:RowC K w x ys)
  (hl:xs.length+ys.length≤1000000) (hb:Below base w0 w) (qJ:base≤w.heap.size)
  (h:∀v' w',OwnR K base w' v' (xs++ys)→Below base w0 w'→w.grownBy w' v.ownBlock→wpList prog ops Q rest (a.put o.dst v') w'):wpList prog ops Q (o::rest) a w:=by
 exact nE
theorem step_appC (K:Rk α) {w w0:World} {ops:Array Oper} {o:Oper} {a:Act} {K':Act→World→Prop} {Q:Exit→Act→World→Prop} {E:Prop} {base:Nat} {v x:Value} {xs ys:List α} (hgd:o.guard=.none) (sl xl:Operand)
  (ho:o.op=.call {callee:=.builtin .append,args:=#[sl,xl],argTypes:=#[K.S,K.S]}) (hs:a.eval sl=v) (qC:OwnR K base w v xs) (hx:a.eval xl=x) (hc:RowC K w x ys)
  (hl:xs.length+ys.length≤1000000) (hb:Below base w0 w) (qJ:base≤w.heap.size)
  (h:∀v' w',OwnR K base w' v' (xs++ys)→Below base w0 w'→w.grownBy w' v.ownBlock→K' (a.put o.dst v') w'):if Region.wanted o (yielded ops a.tmps)=true then Oper.wp prog o a w K' Q else E:=by
 obtain⟨i5,hi5,z0,z1,z2⟩:=info_parts K.hi
 obtain⟨ao,cap,rfl⟩:=hc.form
 have hbb:=K.hb
 refine tF hgd sl xl K.S ho base K.T i5 K.z K.k K.bytes K.hu hi5 z0 z1 z2 K.hz K.hk v xs.length (K.encs xs) hs qC ao ys.length cap (K.encs ys) hx (K.encs_length ys) hc.none hc.news (K.encs_one ys) (by unfold maxLen;omega) (by
  have:=Nat.mul_le_mul hl hbb
  omega) qJ (fun v' w' h1 h2=>?_)
 refine h v' w' ?_ (hb.grown h2 qJ (fun k hk=>(qC.lt k hk).1)) h2
 unfold OwnR;rw[List.length_append,K.encs_append]
 exact h1
theorem vB (K:Rk α) {w w0:World} {o:Oper} {a:Act} {K':Act→World→Prop} {Q:Exit→Act→World→Prop} {base:Nat} {v x:Value} {xs ys:List α} (hgd:o.guard=.none) (sl xl:Operand)
  (ho:o.op=.call {callee:=.builtin .append,args:=#[sl,xl],argTypes:=#[K.S,K.S]}) (hs:a.eval sl=v) (qC:OwnR K base w v xs) (hx:a.eval xl=x) (hc:RowC K w x ys)
  (hl:xs.length+ys.length≤1000000) (hb:Below base w0 w) (qJ:base≤w.heap.size)
  (h:∀v' w',OwnR K base w' v' (xs++ys)→Below base w0 w'→w.grownBy w' v.ownBlock→K' (a.put o.dst v') w'):Oper.wp prog o a w K' Q:=by
 have h:=step_appC (E:=True) (ops:=#[]) (Q:=Q) K hgd sl xl ho hs qC hx hc hl hb qJ h
 rw[if_pos (by simp[Region.wanted,hgd])]at h
 exact h
theorem tY (K:Rk α) (w:World):OwnR K w.heap.size (w.alloc (.cells #[] K.T)) (.slice (some ⟨w.heap.size,0,.none⟩) 0 0) []:=
 ⟨by simp[Rk.encs],.inr ⟨w.heap.size,0,#[],rfl,Nat.le_refl _,heap_alloc_new w _,Nat.le_refl _,by decide,by simp,by simp[Rk.encs]⟩⟩
theorem yK (K:Rk α) (w:World) (xs:List α) (cs:Array Value) (n:Nat) (hn:n=xs.length) (hcs:cs=(K.encs xs).toArray):RowC K (w.alloc (.cells cs K.T)) (.slice (some ⟨w.heap.size,0,.none⟩) n n) xs:=by
 subst hcs hn
 refine⟨_,xs.length,rfl,(fun e=>by cases e),fun i hi=>⟨w.heap.size,0,rfl,by simp,fun j hj=>?_⟩⟩
 have:=heap_alloc_new w (.cells (K.encs xs).toArray K.T)
 simp only[World.cell?,this,Nat.zero_add]
 simpa using K.encs_get xs i j hi hj
def kInt:Rk Int where
 T:=3
 S:=34
 k:=1
 bytes:=8
 z:=.int .i64 0
 enc:=fun d=>[.int .i64 d]
 hlen:=fun _=>rfl
 hone:=fun x u hu=>by simp at hu;rcases hu with rfl;rfl
 hk:=by decide
 hu:=by kernel_rfl
 hi:=by kernel_rfl
 hz:=rfl
 hb:=by decide
theorem ints_row {w:World} {v:Value} {xs:List Int} (h:IntsC w v xs):RowC kInt w v xs:=by
 obtain⟨ao,cap,h1,h2,h3⟩:=h
 refine⟨ao,cap,h1,h2,fun i hi=>?_⟩
 obtain⟨g,off,e,hg,c⟩:=h3 i hi
 refine⟨g,off,e,hg,fun j hj=>?_⟩
 change j<1 at hj
 match j,hj with
 | 0,_=>simpa[kInt]using c
 | j+1,hj=>omega
theorem iclone_nil (w:World):Calls prog 227 #[.slice none 0 0] w fun e w'=>e=.returned (.slice none 0 0)∧w=w':=by
 have qU:∀w,(binOp BinOp.eql 34 (.slice none 0 0) (.slice none 0 0)).run prog w=.ok (.bool true) w:=fun _=>by kernel_rfl
 go_enter func227,ntmps227
 go_wp2
 go_ret
 exact⟨rfl,rfl⟩
theorem vQ (v:Value) (xs:List _) (w:World) (h:RowC kInt w v xs) (hn:xs.length≤1000000) :
  Calls prog 227 #[v] w fun e w'=>∃v',e=.returned v'∧OwnR kInt w.heap.size w' v' xs∧Below w.heap.size w w':=by
 obtain⟨ao,cap,hv,h0,_⟩:=id h
 cases ao with
 | none=>
  obtain⟨rfl,rfl⟩:=h0 rfl
  subst hv
  refine(iclone_nil w).mono ?_
  rintro e w' ⟨rfl,rfl⟩
  exact⟨_,rfl,yJ _ _ _,Below.refl _ _⟩
 | some ad=>
  have b1:Below w.heap.size w (w.alloc (.cells #[] 3)):=bn _ _
  have qU:∀w,(binOp BinOp.eql 34 (.slice (some ad) xs.length cap) (.slice none 0 0)).run prog w=.ok (.bool false) w:=fun _=>by kernel_rfl
  have HC:=zA (h.below b1)
  have HO:Hid (OwnR kInt w.heap.size (w.alloc (.cells #[] 3)) (.slice (some ⟨w.heap.size,0,none⟩) 0 0) []):=zA (tY kInt w)
  have HB:=zA b1
  subst hv
  clear h b1 h0
  go_enter func227,ntmps227
  go_wp2_with (at_builtin;refine yU kInt rfl (.tmp 5) (.tmp 6) rfl rfl HO.out rfl HC.out (by simpa using hn) HB.out (by simp) ?_;intro v1 w1 hown1 hb1 hg1)
  go_ret
  exact⟨v1,rfl,hown1,hb1⟩
theorem sJ (w:World):Calls prog 166 #[.slice none 0 0] w fun e w'=>e=.returned (.slice none 0 0)∧w=w':=by
 have qU:∀w,(binOp BinOp.eql 58 (.slice none 0 0) (.slice none 0 0)).run prog w=.ok (.bool true) w:=fun _=>by kernel_rfl
 go_enter func166,ntmps166
 go_wp2
 go_ret
 exact⟨rfl,rfl⟩
theorem dclone_any (v:Value) (xs:List _) (w:World) (h:RowC kDot w v xs) (hn:xs.length≤1000000) :
  Calls prog 166 #[v] w fun e w'=>∃v',e=.returned v'∧OwnR kDot w.heap.size w' v' xs∧Below w.heap.size w w':=by
 obtain⟨ao,cap,hv,h0,_⟩:=id h
 cases ao with
 | none=>
  obtain⟨rfl,rfl⟩:=h0 rfl
  subst hv
  refine(sJ w).mono ?_
  rintro e w' ⟨rfl,rfl⟩
  exact⟨_,rfl,yJ _ _ _,Below.refl _ _⟩
 | some ad=>
  have b1:Below w.heap.size w (w.alloc (.cells #[] 45)):=bn _ _
  have qU:∀w,(binOp BinOp.eql 58 (.slice (some ad) xs.length cap) (.slice none 0 0)).run prog w=.ok (.bool false) w:=fun _=>by kernel_rfl
  have HC:=zA (h.below b1)
  have HO:Hid (OwnR kDot w.heap.size (w.alloc (.cells #[] 45)) (.slice (some ⟨w.heap.size,0,none⟩) 0 0) []):=zA (tY kDot w)
  have HB:=zA b1
  subst hv
  clear h b1 h0
  go_enter func166,ntmps166
  go_wp2_with (at_builtin;refine yU kDot rfl (.tmp 5) (.tmp 6) rfl rfl HO.out rfl HC.out (by simpa using hn) HB.out (by simp) ?_;intro v1 w1 hown1 hb1 hg1)
  go_ret
  exact⟨v1,rfl,hown1,hb1⟩
end
end Go.Proofs.YtodlmbfbfaofcaaGreat
