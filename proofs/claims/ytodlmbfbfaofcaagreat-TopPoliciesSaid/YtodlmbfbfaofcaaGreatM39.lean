/- TopPolicies, part 39. -/
import Derived.Test.YtodlmbfbfaofcaaGreatM38
open Go.Proofs.Tryz
namespace Go.Proofs.YtodlmbfbfaofcaaGreat
set_option linter.unusedVariables false
set_option linter.unusedSimpArgs false
set_option maxRecDepth 100000
set_option maxHeartbeats 8000000
section
open Go.RowKit Rw Rh
def Made (nodes disk win:Int) (W:Nat) (w w':World):Prop:=∃(P:Nat) (wc:Wc) (d r:Nat→Value) (F:Nat→Nat→Prop) (p:Nat→AgP) (c:Nat→Cf) (wn:Nat),(wc.n:Int)=nodes∧(wn:Int)=win∧(1≤wn∧wn≤16)∧WdAt w' W P wc d r∧(∀i,i<wc.n→r i=.pointer (some ⟨(p i).a,0,none⟩))∧Ring w' W P wc.n disk 0 wn F p c (fun _=>[]) (fun _=>[])∧Below w.heap.size w w'∧∀i,i<wc.n→∀g,F i g∨(p i).has g→w.heap.size≤g
theorem sA (n i:Nat) (h:i<n):(madeCells #[.pointer none,.pointer none,.pointer none] n)[i]?=some (.pointer none):=by
 unfold madeCells
 rw[Array.getElem?_map,Array.getElem?_range,if_pos h]
 have h3:i%3=0∨i%3=1∨i%3=2:=by omega
 simp only[Option.map_some]
 have hz:(#[.pointer none,.pointer none,.pointer none]:Array Value).size=3:=rfl
 rw[hz]
 rcases h3 with h3 | h3 | h3<;>rw[h3]<;>rfl
theorem make_places (n:Nat) (hn:n≤8) (w:World):(Instr.makeSlice 92 (.int .i64 n) (.int .i64 n)).run prog w=.ok (.slice (some ⟨w.heap.size,0,none⟩) n n) (w.alloc (.cells (madeCells #[.pointer none,.pointer none,.pointer none] (n*3)) 91)):=by
 obtain⟨i5,hi5,z0,z1,z2⟩:=info_parts (P:=prog) (e:=91) (z:=.agg #[.pointer none,.pointer none,.pointer none]) (size:=3) (bytes:=24) lE
 have h:=run_make (P:=prog) w 92 91 i5 (.agg #[.pointer none,.pointer none,.pointer none]) lE hi5 z0 .i64 .i64 (n:Int) (n:Int) lD (Int.le_refl _) (by rw[z2];omega) lD
 rw[z1]at h
 simpa[go_sem]using h
theorem wnew_ok (nodes disk nd0 mtu win kp salt seed c0 c1 c2:Int) (w:World) :
  Calls prog 16 #[.agg (Qc nodes disk nd0 mtu win kp salt seed c0 c1 c2)] w fun x w'=>(∃e:Int,e≠0∧x=.returned (.tuple #[.pointer none,.int .i64 e])∧¬(Pl.inside nodes 1 8=true∧Pl.inside disk 1 16384=true∧Pl.aright 0 mtu win kp c0 c1 c2=true∧(rec1.length:Int)≤disk)∧Below w.heap.size w w')∨(∃W:Nat,x=.returned (.tuple #[Qp W,.int .i64 0])∧Made nodes disk win W w w'):=by
 obtain⟨hx,hy,b1⟩:=zU w (.cells (Qc nodes disk nd0 mtu win kp salt seed c0 c1 c2) 76) (.cells (Qo 0) 41)
 have HX:=zA hx
 have HY:=zA hy
 have HB:=zA b1
 have x0:=cc 0 hx
 have x1:=cc 1 hx
 have x2:=cc 2 hx
 have x3:=cc 3 hx
 have x4:=cc 4 hx
 have x5:=cc 5 hx
 have x6:=cc 6 hx
 have x7:=cc 7 hx
 have x8:=cc 8 hx
 have x9:=cc 9 hx
 have x10:=cc 10 hx
 clear hx hy b1
 go_enter_defers func16,ntmps16
 go_wp2_with fail
 refine(xU nodes 1 8 _).mono ?_
 rintro x w' ⟨rfl,rfl⟩
 generalize hV:(w.alloc (.cells (Qc nodes disk nd0 mtu win kp salt seed c0 c1 c2) 76)).alloc (.cells (Qo 0) 41)=V at *
 clear hV
 cases hn:Pl.inside nodes 1 8 with
 | false=>
  go_wp2_with fail
  refine(tP 2 _).mono ?_
  rintro x w' ⟨rfl,rfl⟩
  go_wp2_with fail
  refine leaves_cons (f:=19) (args:=#[Qp (w.heap.size+1)]) (by simp) (by simp[go_sem]) ?_
  refine(xM ⟨w.heap.size+1,0,none⟩ 2 0 [] _ (zE HY.out rfl) (zB HY.out 0)).mono ?_
  rintro e' u' w' ⟨rfl,rfl,rfl⟩
  have hbl:=bn V (.cells (Qo 2) 140)
  have hbz:=(HB.out.trans (hbl.mono HB.out.size)).setCell (p:=⟨w.heap.size+1,0,none⟩) (Nat.le_succ _) (.int .i64 2)
  have c4:=zE (j:=0) (zF (j:=0) (zC HY.out hbl) (.int .i64 2)) rfl
  simp only[List.setIfInBounds_toArray,List.set_cons_zero]at c4
  exact yX (v:=.tuple #[.pointer none,.int .i64 2]) (by simp[results,results16,go_sem,c4]) (.inl ⟨2,by decide,rfl,fun h=>by rw[hn]at h;exact absurd h.1 lF,hbz⟩)
 | true=>
  go_wp2_with fail
  refine(xU disk 1 16384 _).mono ?_
  rintro x w' ⟨rfl,rfl⟩
  cases hd:Pl.inside disk 1 16384 with
  | false=>
   go_wp2_with fail
   refine(tP 2 _).mono ?_
   rintro x w' ⟨rfl,rfl⟩
   go_wp2_with fail
   refine leaves_cons (f:=19) (args:=#[Qp (w.heap.size+1)]) (by simp) (by simp[go_sem]) ?_
   refine(xM ⟨w.heap.size+1,0,none⟩ 2 0 [] _ (zE HY.out rfl) (zB HY.out 0)).mono ?_
   rintro e' u' w' ⟨rfl,rfl,rfl⟩
   have hbl:=bn V (.cells (Qo 2) 140)
   have hbz:=(HB.out.trans (hbl.mono HB.out.size)).setCell (p:=⟨w.heap.size+1,0,none⟩) (Nat.le_succ _) (.int .i64 2)
   have c4:=zE (j:=0) (zF (j:=0) (zC HY.out hbl) (.int .i64 2)) rfl
   simp only[List.setIfInBounds_toArray,List.set_cons_zero]at c4
   exact yX (v:=.tuple #[.pointer none,.int .i64 2]) (by simp[results,results16,go_sem,c4]) (.inl ⟨2,by decide,rfl,fun h=>by rw[hd]at h;exact absurd h.2.1 lF,hbz⟩)
  | true=>
   go_wp2_with fail
   refine(rY nodes disk nd0 mtu win kp salt seed c0 c1 c2 0 V).mono ?_
   rintro x w1 ⟨sd,rfl,hb⟩
   have HX1:=zA (zC HX.out hb)
   have HY1:=zA (zC HY.out hb)
   have HB1:=zA (HB.out.trans (hb.mono HB.out.size))
   clear hb HX HY HB x0 x1 x2 x3 x4 x5 x6 x7 x8 x9 x10
   go_wp2_with fail
   refine(vV _ mtu win kp salt sd c0 c1 c2 w1).mono ?_
   rintro x w2 ⟨rfl,hb⟩
   have HX:=zA (zC HX1.out hb)
   have HY:=zA (zC HY1.out hb)
   have HB:=zA (HB1.out.trans (hb.mono HB1.out.size))
   clear hb HX1 HY1 HB1
   cases ha:Pl.aright 0 mtu win kp c0 c1 c2 with
   | false=>
    go_wp2_with fail
    refine(tP 2 _).mono ?_
    rintro x w' ⟨rfl,rfl⟩
    go_wp2_with fail
    refine leaves_cons (f:=19) (args:=#[Qp (w.heap.size+1)]) (by simp) (by simp[go_sem]) ?_
    refine(xM ⟨w.heap.size+1,0,none⟩ 2 0 [] _ (zE HY.out rfl) (zB HY.out 0)).mono ?_
    rintro e' u' w' ⟨rfl,rfl,rfl⟩
    have hbl:=bn w2 (.cells (Qo 2) 140)
    have hbz:=(HB.out.trans (hbl.mono HB.out.size)).setCell (p:=⟨w.heap.size+1,0,none⟩) (Nat.le_succ _) (.int .i64 2)
    have c4:=zE (j:=0) (zF (j:=0) (zC HY.out hbl) (.int .i64 2)) rfl
    simp only[List.setIfInBounds_toArray,List.set_cons_zero]at c4
    exact yX (v:=.tuple #[.pointer none,.int .i64 2]) (by simp[results,results16,go_sem,c4]) (.inl ⟨2,by decide,rfl,fun h=>by rw[ha]at h;exact absurd h.2.2.1 lF,hbz⟩)
   | true=>
    go_wp2_with fail
    refine(tO 2 _).mono ?_
    rintro x w' ⟨rfl,rfl⟩
    obtain⟨n,rfl,hn1,hn8⟩:=Pl.inside_nat hn lF
    have hmk:=make_places n lD
    go_wp2_with fail
    refine zD (fun W'=>W'.heap[w.heap.size]?=some (.cells (Qc (n:Int) disk nd0 mtu win kp salt seed c0 c1 c2) 76 (0,0))) 99 lE (show w2.drew.heap[w.heap.size]?=_ from HX.out) (fun qB=>?_)
    refine tl 0 22 rfl 76 (.tmp 1) w.heap.size rfl rfl (fun wS hSw=>hSw) underlying76 ?_ (hQ:=fun _ a _ h=>zV (by simp[results,results16,Act.put,getD_put]) _ _ _ h)
    refine zX 1 23 rfl ?_
    refine tkq 2 24 rfl lI ?_
    refine t2 3 4 rfl rfl (fun K hK=>?oa) (fun K hK=>?ob)
    case' oa=>
     go_simp
     have hbm:=(bn w2 (.cells (madeCells #[.pointer none,.pointer none,.pointer none] (n*3)) 91)).drew
     have HPB:=zA (show(w2.alloc (.cells (madeCells #[.pointer none,.pointer none,.pointer none] (n*3)) 91)).drew.heap[w2.heap.size]?=some (.cells (madeCells #[.pointer none,.pointer none,.pointer none] (n*3)) 91)from heap_alloc_new w2 (.cells (madeCells #[.pointer none,.pointer none,.pointer none] (n*3)) 91))
     have HPG:=zA (show w.heap.size≤w2.heap.size from HB.out.size)
     have HX1:=zA (show(w2.alloc (.cells (madeCells #[.pointer none,.pointer none,.pointer none] (n*3)) 91)).drew.heap[w.heap.size]?=_ from zC HX.out hbm)
     have HY1:=zA (show(w2.alloc (.cells (madeCells #[.pointer none,.pointer none,.pointer none] (n*3)) 91)).drew.heap[w.heap.size+1]?=_ from zC HY.out hbm)
     have HB1:=zA (HB.out.trans (hbm.mono HB.out.size))
     clear hbm HX HY HB qB
     have HX:=HX1
     have HY:=HY1
     have HB:=HB1
     clear HX1 HY1 HB1
     refine hK.out _ _ (fun _=>HX.out) (fun _=>?_)
     clear hK K
     try simp only[pt,List.set]
     generalize (w2.alloc (.cells (madeCells #[.pointer none,.pointer none,.pointer none] (n*3)) 91)).drew=u1 at *
     generalize w2.heap.size=Pb at *
     have qB:=HX.out
     refine t1 4 rfl (fun K hK=>?_)
     go_simp
     refine(sW _).mono ?_
     rintro x u2 ⟨na,rfl,hb⟩
     have HX1:=zA (zC HX.out hb)
     have HY1:=zA (zC HY.out hb)
     have HB1:=zA (HB.out.trans (hb.mono HB.out.size))
     have HPB1:=zA (zC HPB.out hb)
     clear HPB
     have HPB:=HPB1
     clear HPB1
     clear hb HX HY HB qB
     have HX:=HX1
     have HY:=HY1
     have HB:=HB1
     clear HX1 HY1 HB1
     refine hK.out _ _ (fun _=>HX.out) (fun _=>?_)
     clear hK K
     try simp only[pt,List.set]
     have qB:=HX.out
     refine t1 5 rfl (fun K hK=>?_)
     go_simp
     refine(vD _).mono ?_
     rintro x u3 ⟨fa,rfl,hb⟩
     have HX1:=zA (zC HX.out hb)
     have HY1:=zA (zC HY.out hb)
     have HB1:=zA (HB.out.trans (hb.mono HB.out.size))
     have HPB1:=zA (zC HPB.out hb)
     clear HPB
     have HPB:=HPB1
     clear HPB1
     clear hb HX HY HB qB
     have HX:=HX1
     have HY:=HY1
     have HB:=HB1
     clear HX1 HY1 HB1
     refine hK.out _ _ (fun _=>HX.out) (fun _=>?_)
     clear hK K
     try simp only[pt,List.set]
     have qB:=HX.out
    case' ob=>
     have HXd:=zA (show w2.drew.heap[w.heap.size]?=_ from HX.out)
     have HYd:=zA (show w2.drew.heap[w.heap.size+1]?=_ from HY.out)
     have HBd:=zA HB.out.drew
     clear HX HY HB
     have HX:=HXd
     have HY:=HYd
     have HB:=HBd
     clear HXd HYd HBd
     go_simp
     refine(sW _).mono ?_
     rintro x u1 ⟨na,rfl,hb⟩
     have HX1:=zA (zC HX.out hb)
     have HY1:=zA (zC HY.out hb)
     have HB1:=zA (HB.out.trans (hb.mono HB.out.size))
     clear hb HX HY HB qB
     have HX:=HX1
     have HY:=HY1
     have HB:=HB1
     clear HX1 HY1 HB1
     refine hK.out _ _ (fun _=>HX.out) (fun _=>?_)
     clear hK K
     try simp only[pt,List.set]
     have qB:=HX.out
     refine t2 3 5 rfl rfl (fun K hK=>?oc) (fun K hK=>?od)
     case' oc=>
      go_simp
      have hbm:=(bn u1 (.cells (madeCells #[.pointer none,.pointer none,.pointer none] (n*3)) 91))
      have HPB:=zA (show(u1.alloc (.cells (madeCells #[.pointer none,.pointer none,.pointer none] (n*3)) 91)).heap[u1.heap.size]?=some (.cells (madeCells #[.pointer none,.pointer none,.pointer none] (n*3)) 91)from heap_alloc_new u1 (.cells (madeCells #[.pointer none,.pointer none,.pointer none] (n*3)) 91))
      have HPG:=zA (show w.heap.size≤u1.heap.size from HB.out.size)
      have HX1:=zA (show(u1.alloc (.cells (madeCells #[.pointer none,.pointer none,.pointer none] (n*3)) 91)).heap[w.heap.size]?=_ from zC HX.out hbm)
      have HY1:=zA (show(u1.alloc (.cells (madeCells #[.pointer none,.pointer none,.pointer none] (n*3)) 91)).heap[w.heap.size+1]?=_ from zC HY.out hbm)
      have HB1:=zA (HB.out.trans (hbm.mono HB.out.size))
      clear hbm HX HY HB qB
      have HX:=HX1
      have HY:=HY1
      have HB:=HB1
      clear HX1 HY1 HB1
      refine hK.out _ _ (fun _=>HX.out) (fun _=>?_)
      clear hK K
      try simp only[pt,List.set]
      generalize (u1.alloc (.cells (madeCells #[.pointer none,.pointer none,.pointer none] (n*3)) 91))=u2 at *
      generalize u1.heap.size=Pb at *
      have qB:=HX.out
      refine t1 5 rfl (fun K hK=>?_)
      go_simp
      refine(vD _).mono ?_
      rintro x u3 ⟨fa,rfl,hb⟩
      have HX1:=zA (zC HX.out hb)
      have HY1:=zA (zC HY.out hb)
      have HB1:=zA (HB.out.trans (hb.mono HB.out.size))
      have HPB1:=zA (zC HPB.out hb)
      clear HPB
      have HPB:=HPB1
      clear HPB1
      clear hb HX HY HB qB
      have HX:=HX1
      have HY:=HY1
      have HB:=HB1
      clear HX1 HY1 HB1
      refine hK.out _ _ (fun _=>HX.out) (fun _=>?_)
      clear hK K
      try simp only[pt,List.set]
      have qB:=HX.out
     case' od=>
      go_simp
      refine(vD _).mono ?_
      rintro x u2 ⟨fa,rfl,hb⟩
      have HX1:=zA (zC HX.out hb)
      have HY1:=zA (zC HY.out hb)
      have HB1:=zA (HB.out.trans (hb.mono HB.out.size))
      clear hb HX HY HB qB
      have HX:=HX1
      have HY:=HY1
      have HB:=HB1
      clear HX1 HY1 HB1
      refine hK.out _ _ (fun _=>HX.out) (fun _=>?_)
      clear hK K
      try simp only[pt,List.set]
      have qB:=HX.out
      refine t1 3 rfl (fun K hK=>?_)
      go_simp
      have hbm:=(bn u2 (.cells (madeCells #[.pointer none,.pointer none,.pointer none] (n*3)) 91))
      have HPB:=zA (show(u2.alloc (.cells (madeCells #[.pointer none,.pointer none,.pointer none] (n*3)) 91)).heap[u2.heap.size]?=some (.cells (madeCells #[.pointer none,.pointer none,.pointer none] (n*3)) 91)from heap_alloc_new u2 (.cells (madeCells #[.pointer none,.pointer none,.pointer none] (n*3)) 91))
      have HPG:=zA (show w.heap.size≤u2.heap.size from HB.out.size)
      have HX1:=zA (show(u2.alloc (.cells (madeCells #[.pointer none,.pointer none,.pointer none] (n*3)) 91)).heap[w.heap.size]?=_ from zC HX.out hbm)
      have HY1:=zA (show(u2.alloc (.cells (madeCells #[.pointer none,.pointer none,.pointer none] (n*3)) 91)).heap[w.heap.size+1]?=_ from zC HY.out hbm)
      have HB1:=zA (HB.out.trans (hbm.mono HB.out.size))
      clear hbm HX HY HB qB
      have HX:=HX1
      have HY:=HY1
      have HB:=HB1
      clear HX1 HY1 HB1
      refine hK.out _ _ (fun _=>HX.out) (fun _=>?_)
      clear hK K
      try simp only[pt,List.set]
      generalize (u2.alloc (.cells (madeCells #[.pointer none,.pointer none,.pointer none] (n*3)) 91))=u3 at *
      generalize u2.heap.size=Pb at *
      have qB:=HX.out
    all_goals
     refine zX 6 28 rfl ?_
     refine t1 7 rfl (fun K hK=>?_)
     go_simp
     have hbm:=bn u3 (.cells #[.int .i64 n,.int .i64 disk,.int .i64 nd0,.int .i64 mtu,.int .i64 win,.int .i64 kp,.int .u64 salt,.int .u64 seed,.int .i64 c0,.int .i64 c1,.int .i64 c2,.slice (some ⟨Pb,0,none⟩) n n,.pointer (some na),.pointer (some fa)] 96)
     have HWB:=zA (heap_alloc_new u3 (.cells #[.int .i64 n,.int .i64 disk,.int .i64 nd0,.int .i64 mtu,.int .i64 win,.int .i64 kp,.int .u64 salt,.int .u64 seed,.int .i64 c0,.int .i64 c1,.int .i64 c2,.slice (some ⟨Pb,0,none⟩) n n,.pointer (some na),.pointer (some fa)] 96))
     have HWG:=zA (show w.heap.size+2≤u3.heap.size from(gsi.1 HY.out).1)
     have HX1:=zA (zC HX.out hbm)
     have HY1:=zA (zC HY.out hbm)
     have HP1:=zA (zC HPB.out hbm)
     have HB1:=zA (HB.out.trans (hbm.mono HB.out.size))
     clear hbm HX HY HB HPB qB
     refine hK.out _ _ (fun _=>HX1.out) (fun _=>?_)
     clear hK K
     try simp only[pt,List.set]
     generalize u3.alloc (.cells #[.int .i64 n,.int .i64 disk,.int .i64 nd0,.int .i64 mtu,.int .i64 win,.int .i64 kp,.int .u64 salt,.int .u64 seed,.int .i64 c0,.int .i64 c1,.int .i64 c2,.slice (some ⟨Pb,0,none⟩) n n,.pointer (some na),.pointer (some fa)] 96)=u9 at *
     generalize u3.heap.size=Wb at *
     have qB:=HX1.out
     refine zX 8 4 rfl ?_
     refine wd ?_
     clear qB
     obtain⟨mt,wn,kp',rfl,rfl,rfl,hcf⟩:=aright_spec ha
     obtain⟨wc,hwc⟩:∃wc:Wc,wc=⟨n,disk,nd0,mt,wn,kp',salt,seed,c0,c1,c2,na,fa⟩:=⟨_,rfl⟩
     have HW:=zA (show WdAt u9 Wb Pb wc (fun _=>.pointer none) (fun _=>.pointer none)from by
      subst hwc
      exact⟨HWB.out,⟨_,HP1.out,size_madeCells _ _,fun i hi=>⟨sA _ _ (by dsimp only at hi;omega),sA _ _ (by dsimp only at hi;omega),sA _ _ (by dsimp only at hi;omega)⟩⟩,by dsimp only;omega⟩)
     have HF:=zA (show wc.n=n∧wc.mtu=(mt:Int)∧wc.win=(wn:Int)∧wc.kp=(kp':Int)∧wc.disk=disk∧∀k sd,k<wc.n→(Cf.mk k mt wn kp' wc.salt sd wc.c0 wc.c1 wc.c2).Ok from by
      subst hwc
      exact⟨rfl,rfl,rfl,rfl,rfl,fun k sd hk=>hcf k salt sd (by dsimp only at hk;omega)⟩)
     have HD:=zA (Pl.inside_nat hd lF)
     clear hwc hcf
     have c11:=cc 11 HWB.out
     go_wp2_with fail
     clear c11
     have hrl:(0:Int)≤rec1.length:=Int.natCast_nonneg _
     have HWP:=zA (show Wb≠w.heap.size∧Wb≠w.heap.size+1∧Pb≠w.heap.size∧Pb≠w.heap.size+1∧w.heap.size≤Pb from by
      have hg:=HWG.out
      refine⟨by omega,by omega,fun e=>?_,fun e=>?_,HPG.out⟩
      ·have h1:=HP1.out;rw[e,HX1.out]at h1;exact zH lF h1
      ·have h1:=HP1.out;rw[e,HY1.out]at h1;exact zH lF h1)
     go_loopw [35] (fun i wr=>∃(k:Nat) (d r:Nat→Value) (F:Nat→Nat→Prop) (p:Nat→AgP) (c:Nat→Cf),k≤wc.n∧i=.int .i64 k∧WdAt wr Wb Pb wc d r∧(∀i,i<wc.n→∃a,d i=.pointer a)∧(∀i,i<k→r i=.pointer (some ⟨(p i).a,0,none⟩))∧(∀i,k≤i→i<wc.n→r i=.pointer none)∧Ring wr Wb Pb k disk 0 wn F p c (fun _=>[]) (fun _=>[])∧(∀i,i<k→∀g,F i g∨(p i).has g→w.heap.size+2≤g)∧wr.heap[w.heap.size]?=some (.cells (Qc (n:Int) disk nd0 (mt:Int) (wn:Int) (kp':Int) salt seed c0 c1 c2) 76 (0,0))∧wr.heap[w.heap.size+1]?=some (.cells (Qo 0) 41 (0,0))∧Below w.heap.size w wr∧(0<k→(rec1.length:Int)≤disk)) (fun i _=>wc.n - (intOf i).toNat)
     case atStart=>exact⟨0,fun _=>.pointer none,fun _=>.pointer none,fun _ _=>False,fun _=>⟨0,0,0,0,0,0,0,0,0,0,0,0⟩,fun _=>⟨0,0,0,0,0,0,0,0,0⟩,Nat.zero_le _,rfl,HW.out,fun i _=>⟨none,rfl⟩,fun i h=>absurd h (Nat.not_lt_zero _),fun i _ _=>rfl,⟨fun i h=>absurd h (Nat.not_lt_zero _),fun i h=>absurd h (Nat.not_lt_zero _),fun i j h=>absurd h (Nat.not_lt_zero _),fun i h=>absurd h (Nat.not_lt_zero _)⟩,fun i h=>absurd h (Nat.not_lt_zero _),HX1.out,HY1.out,HB1.out,fun h=>absurd h (Nat.lt_irrefl _)⟩
     case round=>
      obtain⟨k,d,r,F,p,c,hk,rfl,hw,hdp,hr,hr0,hR,hft,hx,hy,hb,hok⟩:=hrel
      by_cases hlt:k<wc.n
      ·have a1:(k:Int)+1≤9223372036854775807:=by have:=hw.n1.2;omega
       have hji:(k:Int)<(n:Int):=by have:=HF.out.1;omega
       have hjn:((k:Nat):Int)<(wc.n:Int):=by omega
       have h0:¬(k:Int)<0:=by omega
       have x1:=cc 1 hx
       have HDN:=zA (disknew_ok disk wr (by obtain⟨m,e,e1,e2⟩:=HD.out;omega))
       have HR:=zA (And.intro hw (And.intro hR (And.intro hft (And.intro hx (And.intro hy hb)))))
       have HQ:=zA (And.intro hdp (And.intro hr hr0))
       have HL:=zA hlt
       clear hw hR hft hx hy hb hdp hr hr0 hlt hk hok
       go_wp2_with fail
       refine HDN.out.mono ?_
       rintro x w4 ⟨rfl,hD,hb4⟩
       clear x1
       go_wp2_with fail
       refine(xY _).mono ?_
       rintro x w' ⟨rfl,rfl⟩
       have HW4:=zA (HR.out.1.below hb4)
       have HR4:=zA (HR.out.2.1.below hb4)
       have HX4:=zA (zC HR.out.2.2.2.1 hb4)
       have HY4:=zA (zC HR.out.2.2.2.2.1 hb4)
       have HB4:=zA (HR.out.2.2.2.2.2.trans (hb4.mono HR.out.2.2.2.2.2.size))
       have HD4:=zA hD
       have HLT:=zA (show wr.heap.size<w4.heap.size∧Pb<wr.heap.size∧Wb<wr.heap.size∧w.heap.size+2≤wr.heap.size from⟨hD.lt,HR.out.1.lt.2,HR.out.1.lt.1,(gsi.1 HR.out.2.2.2.2.1).1⟩)
       clear hD hb4
       have c11:=cc 11 HW4.out.wd
       have e0:=HW4.out.disk HL.out
       have f0:=HW4.out.frozen (k*3)
       have hnn:=HF.out.1
       rw[hnn]at c11
       go_wp2_with fail
       have hop:Off (fun g=>g=Pb) w4 (w4.setCell ⟨Pb,k*3,none⟩ (Qp wr.heap.size)):=(Off.refl (fun g=>g=Pb) w4).set (F:=fun g=>g=Pb) (a:=⟨Pb,k*3,none⟩) (.inl rfl) _
       have HW5:=zA (HW4.out.putd HL.out (Qp wr.heap.size))
       have HR5:=zA (HR4.out.keep hop.size (fun i hi g hg=>hop.same g (HR4.out.lt hi g hg) (HR4.out.wp i hi g hg).2) (fun i hi e he=>by cases he))
       have HX5:=zA ((hop.same _ (gsi.1 HX4.out).1 (fun e=>HWP.out.2.2.1 (Eq.symm e))).trans HX4.out)
       have HY5:=zA ((hop.same _ (gsi.1 HY4.out).1 (fun e=>HWP.out.2.2.2.1 (Eq.symm e))).trans HY4.out)
       have HB5:=zA (HB4.out.setCell (p:=⟨Pb,k*3,none⟩) HWP.out.2.2.2.2 (Qp wr.heap.size))
       have HD5:=zA (HD4.out.keep (w':=(w4.setCell ⟨Pb,k*3,none⟩ (Qp wr.heap.size))) (fun g hg=>hop.same g (by have hg':g=wr.heap.size:=hg;have:=HLT.out;omega) (fun e=>by have hg':g=wr.heap.size:=hg;have e':g=Pb:=e;have:=HLT.out;omega)))
       have HS5:=zA (show wr.heap.size<(World.heap (w4.setCell ⟨Pb,k*3,none⟩ (Qp wr.heap.size))).size from Nat.lt_of_lt_of_le HLT.out.1 hop.size)
       clear hop HW4 HR4 HX4 HY4 HB4 HD4 c11 e0 f0
       generalize (w4.setCell ⟨Pb,k*3,none⟩ (Qp wr.heap.size))=w5 at *
       have HDS:=zA (show 0≤disk∧disk≤16384 from by obtain⟨m,e,e1,e2⟩:=HD.out;omega)
       by_cases hsz:(rec1.length:Int)≤disk
       ·have hdp':∀i,i<wc.n→∃a,put1 d k (Qp wr.heap.size) i=.pointer a:=fun i hi=>by
         by_cases hik:i=k
         ·exact⟨_,by rw[hik,zQ]⟩
         ·rw[zO _ _ hik];exact HQ.out.1 i hi
        refine(wstart_ok Wb Pb wc (put1 d k (Qp wr.heap.size)) r k wr.heap.size mt wn kp' (fun g=>g=wr.heap.size) disk F p c w5 HW5.out HL.out HQ.out.2.1 HQ.out.2.2 (zQ _ _ _) hdp' HD5.out (fun g hg=>by have hg':g=wr.heap.size:=hg;have:=HS5.out;omega) (fun i hi g hg hf=>by have hf':g=wr.heap.size:=hf;have:=HR.out.2.1.lt hi g hg;omega) (fun g hg=>by have hg':g=wr.heap.size:=hg;have:=HLT.out;omega) ⟨hsz,HDS.out.2⟩ HR5.out (fun sd=>HF.out.2.2.2.2.2 k sd HL.out) ⟨HF.out.2.1,HF.out.2.2.1,HF.out.2.2.2.1⟩).mono ?_
        rintro x w6 ⟨rfl,r',F',p',c',hw6,hr6,hr06,hR6,hft6,ho6⟩
        have hbg:∀i,i<k+1→∀g,F' i g∨(p' i).has g→w.heap.size+2≤g:=fun i hi g hg=>by
         have hl:=HLT.out
         rcases hft6 i hi g hg with(h | h | ⟨i',hi',h⟩) | h
         ·exact absurd h (hR6.wp i hi g hg).2
         ·have h':g=wr.heap.size:=h
          omega
         ·exact HR.out.2.2.1 i' hi' g h
         ·have:=HS5.out;omega
        have hkeep:∀g,g<w5.heap.size→g<w.heap.size+2→g≠Pb→w6.heap[g]?=w5.heap[g]?:=fun g hg hg2 hne=>ho6.same g hg (fun h=>by
         rcases h with h | h | ⟨i',hi',h⟩
         ·exact hne h
         ·have h':g=wr.heap.size:=h
          have:=HLT.out;omega
         ·have:=HR.out.2.2.1 i' hi' g h;omega)
        have hx6:=(hkeep w.heap.size (gsi.1 HX5.out).1 lD (fun e=>HWP.out.2.2.1 e.symm)).trans HX5.out
        have hy6:=(hkeep (w.heap.size+1) (gsi.1 HY5.out).1 lD (fun e=>HWP.out.2.2.2.1 e.symm)).trans HY5.out
        have hb6:Below w.heap.size w w6:=⟨ho6.rest.1.trans HB5.out.os,ho6.rest.2.1.trans HB5.out.tape,ho6.rest.2.2.trans HB5.out.output,Nat.le_trans HB5.out.size ho6.size,fun g hg=>(hkeep g (Nat.lt_of_lt_of_le hg HB5.out.size) lD (fun e=>by have:=HWP.out.2.2.2.2;omega)).trans (HB5.out.block g hg)⟩
        have HZ:=zA (And.intro hw6 (And.intro hdp' (And.intro hr6 (And.intro hr06 (And.intro hR6 (And.intro hbg (And.intro hx6 (And.intro hy6 (And.intro hb6 hsz)))))))))
        clear hw6 hdp' hr6 hr06 hR6 hbg hx6 hy6 hb6 hkeep hft6 ho6 hsz
        go_wp2_with fail
        exact⟨⟨k+1,_,r',F',p',c',HL.out,rfl,HZ.out.1,HZ.out.2.1,HZ.out.2.2.1,HZ.out.2.2.2.1,HZ.out.2.2.2.2.1,HZ.out.2.2.2.2.2.1,HZ.out.2.2.2.2.2.2.1,HZ.out.2.2.2.2.2.2.2.1,HZ.out.2.2.2.2.2.2.2.2.1,fun _=>HZ.out.2.2.2.2.2.2.2.2.2⟩,by simp[intOf];have:=HL.out;omega⟩
       ·refine(wstart_bad Wb Pb wc (put1 d k (Qp wr.heap.size)) r k wr.heap.size mt wn kp' (fun g=>g=wr.heap.size) disk w5 HW5.out HL.out (zQ _ _ _) HD5.out (fun g hg=>by have hg':g=wr.heap.size:=hg;have:=HS5.out;omega) ⟨HDS.out.1,HDS.out.2,Int.not_le.1 hsz⟩ (fun sd=>HF.out.2.2.2.2.2 k sd HL.out) ⟨HF.out.2.1,HF.out.2.2.1,HF.out.2.2.2.1⟩).mono ?_
        rintro x w6 ⟨rfl,hb6⟩
        have HY6:=zA (zC HY5.out hb6)
        have HB6:=zA (HB5.out.trans (hb6.mono HB5.out.size))
        have HNS:=zA hsz
        clear hb6 hsz
        go_wp2_with fail
        refine leaves_cons (f:=19) (args:=#[Qp (w.heap.size+1)]) (by simp) (by simp[go_sem]) ?_
        refine(xM ⟨w.heap.size+1,0,none⟩ 7 0 [] _ (zE HY6.out rfl) (zB HY6.out 0)).mono ?_
        rintro e' u' w' ⟨rfl,rfl,rfl⟩
        have hbl:=bn w6 (.cells (Qo 7) 140)
        have hbz:=(HB6.out.trans (hbl.mono HB6.out.size)).setCell (p:=⟨w.heap.size+1,0,none⟩) (Nat.le_succ _) (.int .i64 7)
        have c4:=zE (j:=0) (zF (j:=0) (zC HY6.out hbl) (.int .i64 7)) rfl
        simp only[List.setIfInBounds_toArray,List.set_cons_zero]at c4
        exact yX (v:=.tuple #[.pointer none,.int .i64 7]) (by simp[results,results16,go_sem,c4]) (.inl ⟨7,by decide,rfl,fun h=>by have h1:=h.2.2.2;have h2:=HNS.out;omega,hbz⟩)
      ·obtain rfl:k=wc.n:=by omega
       have HFT:=zA hft
       have HZ:=zA (And.intro hw (And.intro hr (And.intro hR (And.intro hy (And.intro hb hok)))))
       clear hw hr hR hy hb hok hft hx hdp hr0 hlt hk
       have hnn:((wc.n:Nat):Int)=(n:Int):=by rw[HF.out.1]
       rw[hnn]
       have y0:=cc 0 HZ.out.2.2.2.1
       have f0:=zB HZ.out.2.2.2.1 0
       have hid:wr.setCell ⟨w.heap.size+1,0,none⟩ (.int .i64 0)=wr:=zN HZ.out.2.2.2.1 (j:=0) (v:=.int .i64 0) rfl
       go_wp2_with fail
       try simp only[hid]
       refine leaves_cons (f:=19) (args:=#[Qp (w.heap.size+1)]) (by simp) (by simp[go_sem]) ?_
       refine(tN _ _).mono ?_
       rintro e u' w' ⟨rfl,rfl,rfl⟩
       exact yY (v:=.tuple #[Qp Wb,.int .i64 0]) (by simp[results,results16,go_sem,y0,hid]) (.inr ⟨Wb,rfl,Pb,wc,d,r,F,p,c,wn,hnn,rfl,(HF.out.2.2.2.2.2 0 0 (by have:=HZ.out.1.n1;omega)).win,HZ.out.1,HZ.out.2.1,HZ.out.2.2.1,HZ.out.2.2.2.2.1,fun i hi g hg=>by have:=HFT.out i hi g hg;omega⟩)
theorem to66_ok (nd0 mtu win kp salt seed c0 c1 c2:Int) (w:World):Calls prog 66 #[.agg (Qd nd0 mtu win kp salt seed c0 c1 c2)] w fun x w'=>x=.returned (.agg (Qd nd0 mtu win kp salt seed c0 c1 c2))∧Below w.heap.size w w':=by
 obtain⟨hx,hy,b1⟩:=zU w (.cells (Qd nd0 mtu win kp salt seed c0 c1 c2) 26) (.cells (Qd nd0 mtu win kp salt seed c0 c1 c2) 74)
 have HY:=zA hy
 have HB:=zA b1
 have x0:=cc 0 hx
 have x1:=cc 1 hx
 have x2:=cc 2 hx
 have x3:=cc 3 hx
 have x4:=cc 4 hx
 have x5:=cc 5 hx
 have x6:=cc 6 hx
 have x7:=cc 7 hx
 have x8:=cc 8 hx
 clear hx hy b1
 go_enter func66,ntmps66
 go_wp2_with fail
 have y0:=cc 0 HY.out
 have y1:=cc 1 HY.out
 have y2:=cc 2 HY.out
 have y3:=cc 3 HY.out
 have y4:=cc 4 HY.out
 have y5:=cc 5 HY.out
 have y6:=cc 6 HY.out
 have y7:=cc 7 HY.out
 have y8:=cc 8 HY.out
 refine bodyPost_ret (v:=.agg (Qd nd0 mtu win kp salt seed c0 c1 c2)) (by simp[results,results66,go_sem,y0,y1,y2,y3,y4,y5,y6,y7,y8]) rfl ⟨rfl,HB.out⟩
theorem to17_ok (nodes disk nd0 mtu win kp salt seed c0 c1 c2:Int) (w:World):Calls prog 17 #[.agg (Qc nodes disk nd0 mtu win kp salt seed c0 c1 c2)] w fun x w'=>x=.returned (.agg (Qc nodes disk nd0 mtu win kp salt seed c0 c1 c2))∧Below w.heap.size w w':=by
 obtain⟨hx,hy,b1⟩:=zU w (.cells (Qc nodes disk nd0 mtu win kp salt seed c0 c1 c2) 28) (.cells (Qcd 0 0 0 0 0 0 0 0) 76)
 have HX:=zA (show((w.alloc (.cells (Qc nodes disk nd0 mtu win kp salt seed c0 c1 c2) 28)).alloc (.cells (Qcd 0 0 0 0 0 0 0 0) 76)).drew.heap[w.heap.size]?=some (.cells (Qc nodes disk nd0 mtu win kp salt seed c0 c1 c2) 28 (0,0))from hx)
 have HY:=zA (show((w.alloc (.cells (Qc nodes disk nd0 mtu win kp salt seed c0 c1 c2) 28)).alloc (.cells (Qcd 0 0 0 0 0 0 0 0) 76)).drew.heap[w.heap.size+1]?=some (.cells (Qcd 0 0 0 0 0 0 0 0) 76 (0,0))from hy)
 have HB:=zA b1.drew
 clear hx hy b1
 go_enter func17,ntmps17
 go_wp2_with fail
 generalize hV:(w.alloc (.cells (Qc nodes disk nd0 mtu win kp salt seed c0 c1 c2) 28)).alloc (.cells (Qcd 0 0 0 0 0 0 0 0) 76)=V at *
 clear hV
 refine zD (fun W'=>W'.heap[w.heap.size]?=some (.cells (Qc nodes disk nd0 mtu win kp salt seed c0 c1 c2) 28 (0,0))) 99 lE HX.out (fun qB=>?_)
 refine tkp 0 3 rfl ?_
 refine tk 1 4 rfl kO ?_
 refine tkp 2 5 rfl ?_
 refine tk 3 6 rfl kO ?_
 refine tkp 4 7 rfl ?_
 refine tk 5 8 rfl (fun wS hSw=>uB 26 (.tmp 7) w.heap.size 2 rfl rfl _ _ (show _ from(fun (W:World) (h:W.heap[w.heap.size]?=some (.cells (Qc nodes disk nd0 mtu win kp salt seed c0 c1 c2) 28 (0,0)))=>(fun j v hv=>by
  match j,hv with
  | 0,hv=>cases hv;simp[World.cell?,h]
  | 1,hv=>cases hv;simp[World.cell?,h]
  | 2,hv=>cases hv;simp[World.cell?,h]
  | 3,hv=>cases hv;simp[World.cell?,h]
  | 4,hv=>cases hv;simp[World.cell?,h]
  | 5,hv=>cases hv;simp[World.cell?,h]
  | 6,hv=>cases hv;simp[World.cell?,h]
  | 7,hv=>cases hv;simp[World.cell?,h]
  | 8,hv=>cases hv;simp[World.cell?,h]
  : W.rangeAt w.heap.size 2 [.int .i64 nd0,.int .i64 mtu,.int .i64 win,.int .i64 kp,.int .u64 salt,.int .u64 seed,.int .i64 c0,.int .i64 c1,.int .i64 c2])) wS hSw) underlying26 rfl lE) ?_
 refine t1 6 rfl (fun K hK=>?_)
 go_simp
 refine(to66_ok nd0 mtu win kp salt seed c0 c1 c2 _).mono ?_
 rintro x w1 ⟨rfl,hb⟩
 have hH:=zC qB hb
 have HY1:=zA (zC HY.out hb)
 have HB1:=zA (HB.out.trans (hb.mono HB.out.size))
 clear hb qB
 refine hK.out _ _ (fun _=>hH) (fun _=>?_)
 clear hK K
 try simp only[pt,List.set]
 have qB:=hH
 clear hH
 refine tkp 7 10 rfl ?_
 refine t1 8 rfl (fun K hK=>?_)
 rw[if_pos (by rfl)]
 refine yS 76 (.tmp 2) (.tmp 10) (w.heap.size+1) rfl rfl rfl rfl HY1.out lE rfl lE ?_
 have HZ:=zA (wP HY1.out (Qc nodes disk nd0 mtu win kp salt seed c0 c1 c2))
 have HBZ:=zA (yF HB1.out (g:=w.heap.size+1) (Nat.le_succ _) (Qc nodes disk nd0 mtu win kp salt seed c0 c1 c2))
 have hH:=(wF w1 (w.heap.size+1) (Qc nodes disk nd0 mtu win kp salt seed c0 c1 c2) w.heap.size lD).trans qB
 clear qB
 refine hK.out _ _ (fun _=>hH) (fun _=>?_)
 clear hK K
 try simp only[pt,List.set]
 clear hH
 refine wd ?_
 go_wp2_with fail
 have y0:=cc 0 HZ.out
 have y1:=cc 1 HZ.out
 have y2:=cc 2 HZ.out
 have y3:=cc 3 HZ.out
 have y4:=cc 4 HZ.out
 have y5:=cc 5 HZ.out
 have y6:=cc 6 HZ.out
 have y7:=cc 7 HZ.out
 have y8:=cc 8 HZ.out
 have y9:=cc 9 HZ.out
 have y10:=cc 10 HZ.out
 refine bodyPost_ret (v:=.agg (Qc nodes disk nd0 mtu win kp salt seed c0 c1 c2)) (by simp[results,results17,go_sem,y0,y1,y2,y3,y4,y5,y6,y7,y8,y9,y10]) rfl ⟨rfl,HBZ.out⟩
theorem made_any (nodes disk nd0 mtu win kp salt seed c0 c1 c2:Int) (la:Option Addr) (ln lc:Nat) (most:Int) (w:World) (hl:(ln:Int)≤9223372036854775807) :
  Calls prog 7 #[.agg (Qc nodes disk nd0 mtu win kp salt seed c0 c1 c2),.slice la ln lc,.int .i64 most] w fun x w'=>((∃v,x=.returned (.tuple #[v,.bool false]))∧Below w.heap.size w w')∨(∃W:Nat,x=.returned (.tuple #[Qp W,.bool true])∧(ln:Int)≤most∧Made nodes disk win W w w'):=by
 have b1:=bn w (.cells (Qc nodes disk nd0 mtu win kp salt seed c0 c1 c2) 28)
 have hx:=heap_alloc_new w (.cells (Qc nodes disk nd0 mtu win kp salt seed c0 c1 c2) 28)
 have HX:=zA hx
 have HB:=zA b1
 clear hx b1
 go_enter func7,ntmps7
 by_cases hm:most<(ln:Int)
 ·go_wp2_with fail
  exact bodyPost_ret (v:=.tuple #[.pointer none,.bool false]) (by simp[results,results7,go_sem]) rfl (.inl ⟨⟨_,rfl⟩,HB.out⟩)
 ·have HM:=zA (Int.not_lt.1 hm)
  go_wp2_with fail
  generalize hV:w.alloc (.cells (Qc nodes disk nd0 mtu win kp salt seed c0 c1 c2) 28)=V at *
  clear hV
  refine(to17_ok nodes disk nd0 mtu win kp salt seed c0 c1 c2 V).mono ?_
  rintro x w1 ⟨rfl,hb⟩
  have HB1:=zA (HB.out.trans (hb.mono HB.out.size))
  clear hb HB
  go_wp2_with fail
  refine(wnew_ok nodes disk nd0 mtu win kp salt seed c0 c1 c2 w1).mono ?_
  rintro x w2 (⟨e,he,rfl,hng,hb⟩ | ⟨W,rfl,P,wc,d,r,F,p,c,wn,h1,h2,h3,h4,h5,h6,hb,hfr⟩)
  ·have he':(e == 0)=false:=by simpa using he
   have HNG:=zA (HB1.out.trans (hb.mono HB1.out.size))
   clear he hng hb
   go_wp2_with fail
   exact bodyPost_ret (v:=.tuple #[.pointer none,.bool false]) (by simp[results,results7,go_sem]) rfl (.inl ⟨⟨_,rfl⟩,HNG.out⟩)
  ·have HZ:=zA (And.intro h1 (And.intro h2 (And.intro h3 (And.intro h4 (And.intro h5 (And.intro h6 (And.intro (HB1.out.trans (hb.mono HB1.out.size)) (fun i hi g hg=>Nat.le_trans HB1.out.size (hfr i hi g hg)))))))))
   clear h1 h2 h3 h4 h5 h6 hb hfr hm
   go_wp2_with fail
   exact bodyPost_ret (v:=.tuple #[Qp W,.bool true]) (by simp[results,results7,go_sem]) rfl (.inr ⟨W,rfl,HM.out,P,wc,d,r,F,p,c,wn,HZ.out⟩)
theorem wsample_bad (W P:Nat) (wc:Wc) (d r:Nat→Value) (A B C q0 q1 q2 q3 q4 q5 q6:Int) (w:World) (h:WdAt w W P wc d r) (hA:Pl.inside A 0 ((wc.n:Int) - 1)=false) :
  Calls prog 28 #[Qp W,.agg (Qk 9 A B C q0 q1 q2 q3 q4 q5 q6)] w fun x w'=>x=.panicked [{v:=.iface 140 (.agg (Qo 2)),recovered:=false}]∧Below w.heap.size w w':=by
 have b0:=bn w (.cells (Qk 9 A B C q0 q1 q2 q3 q4 q5 q6) 43)
 have HO:=zA (heap_alloc_new w (.cells (Qk 9 A B C q0 q1 q2 q3 q4 q5 q6) 43))
 have HRU:=zA (fun V (hV:Below w.heap.size w V)=>tL W P wc d r A V (h.below hV) hA)
 have HB:=zA b0
 clear b0 h hA
 go_enter func28,ntmps28
 go_wp2_with fail
 generalize hV0:w.alloc (.cells (Qk 9 A B C q0 q1 q2 q3 q4 q5 q6) 43)=V at *
 clear hV0
 refine zD (fun W'=>W'.heap[w.heap.size]?=some (.cells (Qk 9 A B C q0 q1 q2 q3 q4 q5 q6) 43 (0,0))) 99 lE (show V.drew.heap[w.heap.size]?=_ from HO.out) (fun qB=>?_)
 refine tkp 0 7 rfl ?_
 refine tkp 1 8 rfl ?_
 refine tk 2 9 rfl lL ?_
 refine tkp 7 14 rfl ?_
 refine tk 8 15 rfl lL ?_
 refine tkp 9 16 rfl ?_
 refine tk 10 17 rfl lL ?_
 refine t2 3 15 rfl rfl (fun K hK=>?_) (fun K hK=>?_)
 ·go_simp
  exact mA
 ·go_simp
  exact oP
theorem wset_bad (W P:Nat) (wc:Wc) (d r:Nat→Value) (A B C q0 q1 q2 q3 q4 q5 q6:Int) (w:World) (h:WdAt w W P wc d r) (hA:Pl.inside A 0 ((wc.n:Int) - 1)=false) :
  Calls prog 29 #[Qp W,.agg (Qk 10 A B C q0 q1 q2 q3 q4 q5 q6)] w fun x w'=>x=.panicked [{v:=.iface 140 (.agg (Qo 2)),recovered:=false}]∧Below w.heap.size w w':=by
 have b0:=bn w (.cells (Qk 10 A B C q0 q1 q2 q3 q4 q5 q6) 43)
 have HO:=zA (heap_alloc_new w (.cells (Qk 10 A B C q0 q1 q2 q3 q4 q5 q6) 43))
 have HRU:=zA (fun V (hV:Below w.heap.size w V)=>tL W P wc d r A V (h.below hV) hA)
 have HB:=zA b0
 clear b0 h hA
 go_enter func29,ntmps29
 go_wp2_with fail
 generalize hV0:w.alloc (.cells (Qk 10 A B C q0 q1 q2 q3 q4 q5 q6) 43)=V at *
 clear hV0
 refine zD (fun W'=>W'.heap[w.heap.size]?=some (.cells (Qk 10 A B C q0 q1 q2 q3 q4 q5 q6) 43 (0,0))) 99 lE (show V.drew.heap[w.heap.size]?=_ from HO.out) (fun qB=>?_)
 refine tkp 0 7 rfl ?_
 refine tkp 1 8 rfl ?_
 refine tk 2 9 rfl lL ?_
 refine tkp 7 14 rfl ?_
 refine tk 8 15 rfl lL ?_
 refine tkp 9 16 rfl ?_
 refine tk 10 17 rfl (fun wS hSw=>uB 38 (.tmp 16) w.heap.size 4 rfl rfl _ _ (op_range hSw) underlying38 rfl lE) ?_
 refine t2 3 15 rfl rfl (fun K hK=>?_) (fun K hK=>?_)
 ·go_simp
  exact mA
 ·go_simp
  exact oP
theorem wdel_bad (W P:Nat) (wc:Wc) (d r:Nat→Value) (A B C q0 q1 q2 q3 q4 q5 q6:Int) (w:World) (h:WdAt w W P wc d r) (hA:Pl.inside A 0 ((wc.n:Int) - 1)=false) :
  Calls prog 30 #[Qp W,.agg (Qk 11 A B C q0 q1 q2 q3 q4 q5 q6)] w fun x w'=>x=.panicked [{v:=.iface 140 (.agg (Qo 2)),recovered:=false}]∧Below w.heap.size w w':=by
 have b0:=bn w (.cells (Qk 11 A B C q0 q1 q2 q3 q4 q5 q6) 43)
 have HO:=zA (heap_alloc_new w (.cells (Qk 11 A B C q0 q1 q2 q3 q4 q5 q6) 43))
 have HRU:=zA (fun V (hV:Below w.heap.size w V)=>tL W P wc d r A V (h.below hV) hA)
 have HB:=zA b0
 clear b0 h hA
 go_enter func30,ntmps30
 go_wp2_with fail
 generalize hV0:w.alloc (.cells (Qk 11 A B C q0 q1 q2 q3 q4 q5 q6) 43)=V at *
 clear hV0
 refine zD (fun W'=>W'.heap[w.heap.size]?=some (.cells (Qk 11 A B C q0 q1 q2 q3 q4 q5 q6) 43 (0,0))) 99 lE (show V.drew.heap[w.heap.size]?=_ from HO.out) (fun qB=>?_)
 refine tkp 0 7 rfl ?_
 refine tkp 1 8 rfl ?_
 refine tk 2 9 rfl lL ?_
 refine tkp 7 14 rfl ?_
 refine tk 8 15 rfl lL ?_
 refine t2 3 13 rfl rfl (fun K hK=>?_) (fun K hK=>?_)
 ·go_simp
  exact mA
 ·go_simp
  exact oP
end
section
open Go.RowKit Rw Rh
def StepI (W P:Nat) (wc:Wc) (d r:Nat→Value) (size:Int) (k wn:Nat) (F:Nat→Nat→Prop) (p:Nat→AgP) (c:Nat→Cf) (L E:Nat→List Pl.Ev) (A:Int) (Q:Nat→Pl.Ev→Prop) (w:World) (x:Ending) (w':World):Prop:=∃F',(Off (fun g=>∃i,i<wc.n∧(F i g∨(p i).has g)) w w'∧∀i g,F' i g→F i g∨w.heap.size≤g)∧WdAt w' W P wc d r∧((∃e:Int,(e≠0∧∀a:Nat,A=a→a<wc.n→(∃ev,Q a ev)→size<600+500*k)∧x=.returned (.int .i64 e)∧Ring w' W P wc.n size (k+1) wn F' p c L E)∨(∃(a:Nat) (ev eh:Pl.Ev),x=.returned (.int .i64 0)∧A=a∧a<wc.n∧Q a ev∧ev.node=a∧eh.abs=ev.abs∧Ring w' W P wc.n size (k+1) wn F' p c (put1 L a (L a++[ev])) (put1 E a (addE (E a) ev eh))))
theorem Ring.issue {w:World} {W P:Nat} {wc:Wc} {d r:Nat→Value} {size:Int} {k wn:Nat} {F:Nat→Nat→Prop} {p:Nat→AgP} {c:Nat→Cf} {L E:Nat→List Pl.Ev} (h:WdAt w W P wc d r) (hr:∀i,i<wc.n→r i=.pointer (some ⟨(p i).a,0,none⟩)) (hR:Ring w W P wc.n size k wn F p c L E) {f:Nat} {kd A B C q0 q1 q2 q3 q4 q5 q6:Int} (hkf:Kf kd f) (Q:Nat→Pl.Ev→Prop)
  (hbad:∀W',WdAt W' W P wc d r→Pl.inside A 0 ((wc.n:Int) - 1)=false→Calls prog f #[Qp W,.agg (Qk kd A B C q0 q1 q2 q3 q4 q5 q6)] W' fun x w'=>x=.panicked [{v:=.iface 140 (.agg (Qo 2)),recovered:=false}]∧Below W'.heap.size W' w')
  (hok:∀(a:Nat) W',A=a→a<wc.n→WdAt W' W P wc d r→AgS (F a) W' (p a) (c a) size k (L a) (E a)→Calls prog f #[Qp W,.agg (Qk kd A B C q0 q1 q2 q3 q4 q5 q6)] W' fun x w'=>∃e,(x=.returned (.tuple #[])∧e=0∨(e != 0)=true∧x=.panicked [{v:=.iface 140 (.agg (Qo e)),recovered:=false}])∧Issued (F a) W' (p a) (c a) size k (L a) (E a) (Q a) e w') :
  Calls prog 8 #[Qp W,.agg (Qk kd A B C q0 q1 q2 q3 q4 q5 q6)] w fun x w'=>StepI W P wc d r size k wn F p c L E A Q w x w':=by
 have hlt:=h.lt
 cases hA:Pl.inside A 0 ((wc.n:Int) - 1)with
 | false=>
  refine(do_k kd f hkf W A B C q0 q1 q2 q3 q4 q5 q6 (fun _=>False) (fun w1=>Below w.heap.size w w1) w (fun W' hb hs=>(hbad W' (h.below hb) hA).mono ?_)).mono ?_
  ·rintro x w1 ⟨rfl,hb2⟩
   exact lB
  ·rintro x w' ⟨w1,ho,_,⟨_,hf⟩ | ⟨e,he,rfl,hb⟩⟩
   ·exact hf.elim
   ·have hb':Below w.heap.size w w':=ho.two hb (fun g e=>by have e':g=w.heap.size+1:=e;omega)
    exact⟨F,⟨Off.of_below hb',fun i g hg=>.inl hg⟩,h.below hb',.inl ⟨e,⟨he,fun a ha hn=>by unfold Pl.inside at hA;simp at hA;omega⟩,rfl,Ring.more (w':=w') (hR.below hb') (Nat.le_succ _)⟩⟩
 | true=>
  obtain⟨a,rfl,_,ha'⟩:=Pl.inside_nat hA lF
  have ha:a<wc.n:=by omega
  have hla:=hR.lt ha
  have hfin:∀{w1 w':World} {L1 es:List Pl.Ev} {F1:Nat→Prop},Off (fun g=>g=w.heap.size+1) w1 w'→Kd w1 w'→Off (fun g=>F a g∨(p a).has g) w w1→(∀g,F1 g→F a g∨w.heap.size+3≤g)→AgS F1 w1 (p a) (c a) size (k+1) L1 es→(Off (fun g=>∃i,i<wc.n∧(F i g∨(p i).has g)) w w'∧∀i g,put1 F a F1 i g→F i g∨w.heap.size≤g)∧WdAt w' W P wc d r∧Ring w' W P wc.n size (k+1) wn (put1 F a F1) p c (put1 L a L1) (put1 E a es):=fun ho hkd ho1 hF hS=>by
   have ho2:=ho1.comp ho (fun g hg e=>by have e':g=w.heap.size+1:=e;omega)
   have hS2:=hS.keep ho.size (fun g hg=>ho.same g (hS.lt g hg) (fun e=>by
    have e':g=w.heap.size+1:=e
    rcases hg with hg | hg
    ·rcases hF g hg with h1 | h1
     ·have:=hla g (.inl h1);omega
     ·omega
    ·have:=hla g (.inr hg);omega)) (fun e he=>(hS.is e he).keep hkd)
   refine⟨⟨ho2.mono (fun g _ hg=>⟨a,ha,hg⟩),fun i g hg=>?_⟩,h.keep (fun g hg=>ho2.same g (hg.elim (fun e=>e ▸ hlt.1) (fun e=>e ▸ hlt.2)) (fun hf=>?_)),hR.turn ha ho2 (fun g hg=>(hF g hg).imp id (fun h=>by omega)) hS2 (Nat.le_succ _) hlt⟩
   ·by_cases hia:i=a
    ·subst hia
     rw[zQ]at hg
     exact(hF g hg).imp id (fun h=>by omega)
    ·rw[zO _ _ hia]at hg
     exact .inl hg
   ·have h2:=hR.wp a ha g hf
    exact hg.elim h2.1 h2.2
  refine(do_k kd f hkf W a B C q0 q1 q2 q3 q4 q5 q6 (fun w1=>∃F1 ev eh,Q a ev∧ev.node=(a:Int)∧eh.abs=ev.abs∧Off (fun g=>F a g∨(p a).has g) w w1∧(∀g,F1 g→F a g∨w.heap.size+3≤g)∧AgS F1 w1 (p a) (c a) size (k+1) (L a++[ev]) (addE (E a) ev eh)) (fun w1=>∃F1,((∃ev,Q a ev)→size<600+500*k)∧Off (fun g=>F a g∨(p a).has g) w w1∧(∀g,F1 g→F a g∨w.heap.size+3≤g)∧AgS F1 w1 (p a) (c a) size (k+1) (L a) (E a)) w (fun W' hb hs=>(hok a W' rfl ha (h.below hb) ((hR.below hb).ag a ha)).mono ?_)).mono ?_
  ·rintro x w1 ⟨e,hx,ho,F1,hF1,hc⟩
   have ho1:Off (fun g=>F a g∨(p a).has g) w w1:=ho.after hb (fun g _ h=>h)
   have hF:∀g,F1 g→F a g∨w.heap.size+3≤g:=fun g hg=>by rw[←hs];exact hF1 g hg
   refine⟨⟨ho.size,fun g h1 h2=>ho.same g lD (fun hf=>by have:=hla g hf;omega)⟩,?_⟩
   rcases hc with⟨hne,hS⟩ | ⟨h0,ev,eh,hq,hn,hab,hS⟩
   ·rcases hx with⟨rfl,h0⟩ | ⟨hne',rfl⟩
    ·exact absurd h0 hne.1
    ·exact .inr ⟨e,hne',rfl,F1,hne.2,ho1,hF,hS⟩
   ·rcases hx with⟨rfl,_⟩ | ⟨hne',rfl⟩
    ·exact .inl ⟨rfl,F1,ev,eh,hq,by rw[hn,(hR.cn a ha).1],hab,ho1,hF,hS⟩
    ·rw[h0]at hne';exact absurd hne' lF
  ·rintro x w' ⟨w1,ho,hkd,⟨rfl,F1,ev,eh,hq,hn,hab,ho1,hF,hS⟩ | ⟨e,he,rfl,F1,hfu,ho1,hF,hS⟩⟩
   ·have hz:=hfin ho hkd ho1 hF hS
    exact⟨_,hz.1,hz.2.1,.inr ⟨a,ev,eh,rfl,rfl,ha,hq,hn,hab,hz.2.2⟩⟩
   ·have hz:=hfin ho hkd ho1 hF hS
    rw[uF L a,uF E a]at hz
    exact⟨_,hz.1,hz.2.1,.inl ⟨e,⟨he,fun b hb _ hv=>by cases(show a=b by omega);exact hfu hv⟩,rfl,hz.2.2⟩⟩
section
variable {w:World} {W P:Nat} {wc:Wc} {d r:Nat→Value} {size:Int} {k wn:Nat} {F:Nat→Nat→Prop} {p:Nat→AgP} {c:Nat→Cf} {L E:Nat→List Pl.Ev} (h:WdAt w W P wc d r) (hr:∀i,i<wc.n→r i=.pointer (some ⟨(p i).a,0,none⟩)) (hR:Ring w W P wc.n size k wn F p c L E) (hk:k≤90)
include h hr hR hk
theorem Ring.sample (A B C q0 q1 q2 q3 q4 q5 q6:Int):Calls prog 8 #[Qp W,.agg (Qk 9 A B C q0 q1 q2 q3 q4 q5 q6)] w fun x w'=>StepI W P wc d r size k wn F p c L E A (fun _=>SmpP B C) w x w':=hR.issue (q0:=q0) (q1:=q1) (q2:=q2) (q3:=q3) (q4:=q4) (q5:=q5) (q6:=q6) h hr (.inl ⟨rfl,rfl⟩) (fun _=>SmpP B C) (fun W' hw hA=>wsample_bad W P wc d r A B C q0 q1 q2 q3 q4 q5 q6 W' hw hA) (fun a W' e ha hw hS=>by
 subst e;exact wsample_ok W P wc d r a B C q0 q1 q2 q3 q4 q5 q6 (F a) (p a) (c a) size k (L a) (E a) W' hw ha (hr a ha) hS hk (fun g hg=>(hR.wp a ha g hg).2))
theorem Ring.set (A B C q0 q1 q2 q3 q4 q5 q6:Int):Calls prog 8 #[Qp W,.agg (Qk 10 A B C q0 q1 q2 q3 q4 q5 q6)] w fun x w'=>StepI W P wc d r size k wn F p c L E A (fun a=>SetP (c a) (L a) (E a) B q0 q1 q2 q3 q4 q5 q6) w x w':=hR.issue (C:=C) h hr (.inr (.inl ⟨rfl,rfl⟩)) (fun a=>SetP (c a) (L a) (E a) B q0 q1 q2 q3 q4 q5 q6) (fun W' hw hA=>wset_bad W P wc d r A B C q0 q1 q2 q3 q4 q5 q6 W' hw hA) (fun a W' e ha hw hS=>by
 subst e;exact wset_ok W P wc d r a B C q0 q1 q2 q3 q4 q5 q6 (F a) (p a) (c a) size k (L a) (E a) W' hw ha (hr a ha) hS hk (fun g hg=>(hR.wp a ha g hg).2))
theorem Ring.del (hE:∀a,a<wc.n→(E a).length<20) (A B C q0 q1 q2 q3 q4 q5 q6:Int):Calls prog 8 #[Qp W,.agg (Qk 11 A B C q0 q1 q2 q3 q4 q5 q6)] w fun x w'=>StepI W P wc d r size k wn F p c L E A (fun a=>DelP (c a) (L a) (E a) B) w x w':=hR.issue (C:=C) (q0:=q0) (q1:=q1) (q2:=q2) (q3:=q3) (q4:=q4) (q5:=q5) (q6:=q6) h hr (.inr (.inr (.inl ⟨rfl,rfl⟩))) (fun a=>DelP (c a) (L a) (E a) B) (fun W' hw hA=>wdel_bad W P wc d r A B C q0 q1 q2 q3 q4 q5 q6 W' hw hA) (fun a W' e ha hw hS=>by
 subst e;exact wdel_ok W P wc d r a B C q0 q1 q2 q3 q4 q5 q6 (F a) (p a) (c a) size k (L a) (E a) W' hw ha (hr a ha) hS hk (hE a ha) (fun g hg=>(hR.wp a ha g hg).2))
end
end
end Go.Proofs.YtodlmbfbfaofcaaGreat
