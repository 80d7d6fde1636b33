/- TopPolicies, part 24. -/
import Derived.Test.YtodlmbfbfaofcaaGreatM01
import Derived.Test.YtodlmbfbfaofcaaGreatM02
import Derived.Test.YtodlmbfbfaofcaaGreatM04
import Derived.Test.YtodlmbfbfaofcaaGreatM06
import Derived.Test.YtodlmbfbfaofcaaGreatM08
import Derived.Test.YtodlmbfbfaofcaaGreatM14
import Derived.Test.YtodlmbfbfaofcaaGreatM16
import Derived.Test.YtodlmbfbfaofcaaGreatM23
open Go.Proofs.Tryz
namespace Go.Proofs.YtodlmbfbfaofcaaGreat
set_option linter.unusedVariables false
set_option linter.unusedSimpArgs false
set_option maxRecDepth 100000
set_option maxHeartbeats 4000000
section
open Go.RowKit Rw Rh
theorem yD {b:Bool} {x:Int} {w:World} (h:b=true):Calls prog 106 #[.bool b,.int .i64 x] w fun r w'=>r=.returned (.tuple #[])∧w=w':=by
 subst h
 go_enter func106,ntmps106
 go_wp2_with fail
 exact yG results106 ⟨rfl,rfl⟩
theorem zC {w w':World} {g:Nat} {o:Obj} (h:w.heap[g]?=some o) (hb:Below w.heap.size w w'):w'.heap[g]?=some o:=zZ hb h
namespace Pl
def body1 (a b nd st inc q:Nat):List Int:=vints [1,a,b,1,nd,st,inc,q]
def body4 (a b q:Nat) (U:Nat→Nat) (M:List (Nat×Nat)):List Int:=vints [4,a,b,0,q]++vints (nums U M)
def body5 (a b:Nat) (es:List Ev):List Int:=vints [5,a,b,0]++(vint es.length++codes es)
end Pl
theorem zL {n lo hi:Int} (h:lo≤n) (h':n≤hi):Pl.inside n lo hi=true:=by unfold Pl.inside;simp;omega
theorem mput_1 (a b nd st inc q:Nat) (ao:Option Addr) (cap:Nat) (w:World) (h:RowC kMem w (.slice ao 1 cap) [((nd:Int),(st:Int),(inc:Int))]) (ha:a<8) (hb:b<8) (hne:a≠b) (hn:nd<8) (hs:1≤st∧st≤4) (hi:inc≤1099511627776) (hq:q≤1099511627776) :
  Calls prog 91 #[.agg (Qrj 1 (a:Int) (b:Int) (q:Int) (.slice ao 1 cap))] w fun r w'=>∃v',r=.returned (.tuple #[v',.int .i64 0])∧OwnB w.heap.size w' v' (Pl.frame (Pl.body1 a b nd st inc q))∧Below w.heap.size w w':=by
 obtain⟨hx,hy,b1⟩:=zU w (.cells (Qrj 1 (a:Int) (b:Int) (q:Int) (.slice ao 1 cap)) 115) (.cells (Qo 0) 41)
 have HX:=zA hx
 have HY:=zA hy
 have HB:=zA b1
 have HSM:Hid (∀n∈[1,a,b,1,nd,st,inc,q],n≤1099511627776):=zA (by intro n hn;simp at hn;omega)
 have HR:=zA (fun (W:World) (hW:Below w.heap.size w W)=>h.below hW)
 have HRT:=zA (fun (W:World) (hW:Below w.heap.size w W)=>uM W a b q ao 1 cap (zL lD lD) (zL lD lD) (zL lD lD) lD (fun W' hW'=>wC _ nd st inc W' ((h.below hW).below hW') (zL lD lD) (zL lD lD) (zL lD lD)))
 clear hx hy b1 h ha hb hne hn hs hi hq
 go_enter_defers func91,ntmps91
 go_wp2_with fail
 generalize (w.alloc (.cells (Qrj 1 (a:Int) (b:Int) (q:Int) (.slice ao 1 cap)) 115)).alloc (.cells (Qo 0) 41)=W at *
 refine(HRT.out W HB.out).mono ?_
 rintro r w1 ⟨rfl,hb⟩
 have hx:=zZ hb HX.out
 have HX1:=zA hx
 have HY1:=zA (zZ hb HY.out)
 have HB1:=zA (HB.out.trans (hb.mono HB.out.size))
 clear hb HX HY HB HRT
 have d0:=cc 0 hx
 clear hx
 go_wp2_with fail
 refine(yD rfl).mono ?_
 rintro r w' ⟨rfl,rfl⟩
 go_wp2_with fail
 refine(has_1 _).mono ?_
 rintro r w2 ⟨rfl,hb⟩
 have hp:=heap_alloc_new w2 (.cells Qfa 198)
 have bp:=bn w2 (.cells Qfa 198)
 have hx:=(bp.block _ (gsi.1 (zZ hb HX1.out)).1).trans (zZ hb HX1.out)
 have HXP:=zA hx
 have HYP:=zA ((bp.block _ (gsi.1 (zZ hb HY1.out)).1).trans (zZ hb HY1.out))
 have HPP:=zA hp
 have hbp:=HB1.out.trans ((hb.trans (bp.mono hb.size)).mono HB1.out.size)
 have HBP:=zA hbp
 have hsz:=zG w2 (.cells Qfa 198)
 clear d0 hb bp HX1 HY1 HB1 hp
 have d0:=cc 0 hx
 have d1:=cc 1 hx
 have d2:=cc 2 hx
 have d15:=cc 15 hx
 have qM:Hid (OwnR kInt (w2.alloc (.cells Qfa 198)).heap.size ((w2.alloc (.cells Qfa 198)).alloc (.cells #[.int .i64 1,.int .i64 a,.int .i64 b,.int .i64 1] 3)) (.slice (some ⟨(w2.alloc (.cells Qfa 198)).heap.size,0,none⟩) 4 4) [(1:Int),(a:Int),(b:Int),(1:Int)]):=zA (tX kInt (w2.alloc (.cells Qfa 198)) (w2.alloc (.cells Qfa 198)).heap.size [(1:Int),(a:Int),(b:Int),(1:Int)] #[.int .i64 1,.int .i64 a,.int .i64 b,.int .i64 1] 4 (Nat.le_refl _) rfl lF (by simp[Rk.encs,kInt]))
 have HBQ:=zA ((Below.refl (w2.alloc (.cells Qfa 198)).heap.size (w2.alloc (.cells Qfa 198))).alloc (Nat.le_refl _) (.cells #[.int .i64 1,.int .i64 a,.int .i64 b,.int .i64 1] 3))
 have e15:=cc 15 (zC hx HBQ.out)
 have HX3:=zA (zC hx HBQ.out)
 have HY3:=zA (zC HYP.out HBQ.out)
 have HP3:=zA (zC HPP.out HBQ.out)
 clear hx hbp hsz
 go_wp2_with fail
 obtain⟨Wp,hWp⟩:∃Wp,Wp=w2.alloc (.cells Qfa 198):=⟨_,rfl⟩
 have hwsz:Wp.heap.size=w2.heap.size+1:=by rw[hWp];exact zG _ _
 rw[←hWp]at HXP HYP HPP HBP d0 d1 d2 d15 qM HBQ e15 HX3 HY3 HP3 ⊢
 clear hWp d0 d1 d2 d15 e15
 have HRW0:Hid (OwnR kInt Wp.heap.size (Wp.alloc (.cells #[.int .i64 1,.int .i64 a,.int .i64 b,.int .i64 1] 3)) (.slice (some ⟨w2.heap.size+1,0,none⟩) 4 4) [(1:Int),(a:Int),(b:Int),(1:Int)]):=zA (by have h:=qM.out;rw[hwsz]at h ⊢;exact h)
 clear hwsz qM
 generalize Wp.alloc (.cells #[.int .i64 1,.int .i64 a,.int .i64 b,.int .i64 1] 3)=W3 at *
 have HXW:=zA (fun (W:World) (hW:Below Wp.heap.size Wp W)=>zZ hW HXP.out)
 have HYW:=zA (fun (W:World) (hW:Below Wp.heap.size Wp W)=>zZ hW HYP.out)
 have HPW:=zA (fun (W:World) (hW:Below Wp.heap.size Wp W)=>zZ hW HPP.out)
 clear HXP HYP HPP HX3 HY3 HP3
 have HRM:=zA ((HR.out W3 (HBP.out.trans (HBQ.out.mono HBP.out.size))))
 obtain⟨g,off,cap',e1,hg,hc⟩:=HRM.out.cell (i:=0) (by simp)
 cases e1
 have c0:W3.cell? ⟨g,off,none⟩=some (.int .i64 nd):=by have:=hc 0 _ rfl;simpa using this
 have c1:W3.cell? ⟨g,off+1,none⟩=some (.int .i64 st):=by have:=hc 1 _ rfl;simpa using this
 have c2:W3.cell? ⟨g,off+2,none⟩=some (.int .i64 inc):=by have:=hc 2 _ rfl;simpa using this
 clear hc HRM
 have ba:=bn W3 (.cells (Qj (nd:Int) (st:Int) (inc:Int)) 212)
 have hn3:=heap_alloc_new W3 (.cells (Qj (nd:Int) (st:Int) (inc:Int)) 212)
 have g0:=cc 0 hn3
 have g1:=cc 1 hn3
 have g2:=cc 2 hn3
 have bb:=ba.alloc ba.size (.cells (Qj (nd:Int) (st:Int) (inc:Int)) 3)
 have qL:=yK kInt (W3.alloc (.cells (Qj (nd:Int) (st:Int) (inc:Int)) 212)) [(nd:Int),(st:Int),(inc:Int)] (Qj (nd:Int) (st:Int) (inc:Int)) 3 rfl (by simp[Rk.encs,kInt])
 rw[zG]at qL
 have qI:=zA qL
 have HRW:=zA (HRW0.out.below bb)
 have HBW:=zA (HBQ.out.trans (bb.mono HBQ.out.size))
 clear ba hn3 bb qL HRW0 HBQ
 refine wp_loop_rounds 2 ?_
 rw[rounds_succ]
 go_wp2_with (
  at_builtin
  refine yU kInt rfl (.tmp 35) (.tmp 42) rfl rfl HRW.out rfl qI.out (by simp) HBW.out HBW.out.size ?_
  intro v1 w4 hown1 hb1 hg0
  have HV1:=zA hown1
  have HBV:=zA hb1
  clear hown1 hb1 hg0)
 clear c0 c1 c2 g0 g1 g2 HRW HBW qI hg
 rw[rounds_succ]
 have hxw:=HXW.out w4 HBV.out
 have hpw:=HPW.out w4 HBV.out
 have pp0:=cc 0 hpw
 have pp1:=cc 1 hpw
 have xx3:=cc 3 hxw
 clear hxw hpw
 have bb:=bn w4 (.cells (Qo (q:Int)) 3)
 have HSR2:=zA (yK kInt w4 [(q:Int)] (Qo (q:Int)) 1 rfl (by simp[Rk.encs,kInt]))
 have qG:=zA (HV1.out.below bb)
 have HBW2:=zA (HBV.out.trans (bb.mono HBV.out.size))
 clear bb
 go_wp2_with (
  at_builtin
  refine yU kInt rfl (.tmp 47) (.tmp 50) rfl rfl qG.out rfl HSR2.out (by simp) HBW2.out HBW2.out.size ?_
  intro v5 Wq hown1 hb1 hg0
  obtain⟨ao5,cap5,rfl⟩:=hown1.toT.form
  have HV5:=zA hown1
  have HB5:=zA hb1
  clear hown1 hg0 pp0 pp1 xx3
  have hxw:=HXW.out Wq hb1
  have hpw:=HPW.out Wq hb1
  have pp0:=cc 0 hpw
  have pp1:=cc 1 hpw
  have xx3:=cc 3 hxw
  clear hxw hpw
  clear hb1)
 clear pp0 pp1 xx3
 have HVV:Hid (RowC kInt Wq (.slice ao5 8 cap5) (Pl.toInts [1,a,b,1,nd,st,inc,q])):=zA (show _ from HV5.out.toT.toC)
 generalize hns:[1,a,b,1,nd,st,inc,q]=ns at *
 have HNS:=zA hns
 have HLN:=zA (show ns.length=8 by rw[←hns];rfl)
 clear hns
 go_loopw [8,61] (fun v i wr=>∃(k:Nat),k≤8∧i=.int .i64 k∧OwnB Wq.heap.size wr v (Pl.vints (ns.take k))∧Below Wq.heap.size Wq wr) (fun _ i _=>8 - (intOf i).toNat)
 case atStart=>exact⟨0,by omega,rfl,xO _ _,Below.refl _ _⟩
 case round=>
  obtain⟨k,hk,rfl,hO,hb⟩:=hrel
  by_cases hlt0:k<8
  ·have hlt:k<ns.length:=by rw[HLN.out];exact hlt0
   have pF:k<(Pl.toInts ns).length:=by unfold Pl.toInts;simpa using hlt
   obtain⟨g2,off2,cap3,e,hg2,hc⟩:=(HVV.out.below hb).cell pF
   rw[show(Pl.toInts ns).length=8 from by unfold Pl.toInts;rw[List.length_map];exact HLN.out]at e
   cases e
   have a1:(k:Int)+1≤9223372036854775807:=by omega
   have a0:(k:Int)<8:=by omega
   exact oI
  ·obtain rfl:k=8:=by omega
   rw[show ns.take 8=ns from by rw[←HLN.out,List.take_length]]at hO
   have HO5:=zA hO
   have HB6:=zA (HB5.out.trans (hb.mono HB5.out.size))
   have HQ6:=zA hb
   have HVL:=zA (show(Pl.vints ns).length≤48 by have:=Pl.vints_len ns (fun n hn=>HSM.out n hn);rw[HLN.out]at this;omega)
   clear hO hb hlt0 hk
   have hpw:=HPW.out wr HB6.out
   have pp2:=cc 2 hpw
   have pp3:=cc 3 hpw
   clear hpw
   have hy:=HYW.out wr HB6.out
   have ce:=cc 0 hy
   have fe:=zB hy 0
   have hid:wr.setCell ⟨w.heap.size+1,0,none⟩ (.int .i64 0)=wr:=zN hy (j:=0) (v:=.int .i64 0) rfl
   clear hy
   have HRS:=zA (xO Wq.heap.size wr)
   have HOR:=HO5
   have HBR:=HB6
   have HQR:=HQ6
   go_wp2_with fail
   refine(yD rfl).mono ?_
   rintro r w' ⟨rfl,rfl⟩
   clear ce fe hid
   go_wp2_with (
    at_builtin
    refine xF rfl (.tmp 98) (.tmp 99) rfl rfl HOR.out rfl HRS.out.toT.toC (by have:=HVL.out;simp;omega) HQR.out HQR.out.size ?_
    intro v6 w6 hown6 hb6 hg6
    have pZ:=zA (HB5.out.trans (hb6.mono HB5.out.size))
    have HFP:=zA (tJ v6 _ w6 hown6.toT.toC (by have:=HVL.out;simp;omega))
    clear hown6 hb6 hg6)
   refine HFP.out.mono ?_
   rintro r w7 ⟨v7,rfl,o7,b7⟩
   have HB7:=zA (pZ.out.trans (b7.mono pZ.out.size))
   have HBZ:=zA (HBP.out.trans (HB7.out.mono HBP.out.size))
   have HO7:=zA (o7.mono (Nat.le_trans HBP.out.size pZ.out.size))
   clear o7 b7 HFP
   have hy:=HYW.out w7 HB7.out
   have ce:=cc 0 hy
   have fe:=zB hy 0
   have hid:w7.setCell ⟨w.heap.size+1,0,none⟩ (.int .i64 0)=w7:=zN hy (j:=0) (v:=.int .i64 0) rfl
   clear hy
   go_wp2_with fail
   refine leaves_cons (f:=104) (args:=#[Qp (w.heap.size+1)]) (by simp) (by simp[go_sem]) ?_
   refine(wJ _ _).mono ?_
   rintro e' u' w'' ⟨rfl,rfl,rfl⟩
   clear hid fe
   simp[Leaves,settle,results,results91,go_sem,ce]
   refine⟨?_,HBZ.out⟩
   have h7:=HO7.out
   rw[←HNS.out]at h7
   rw[List.append_nil]at h7
   exact h7
theorem mput_5 (a b:Nat) (ao:Option Addr) (cap:Nat) (es:List Pl.Ev) (w:World) (h:RowC kEv w (.slice ao es.length cap) es) (hes:es.length≤768) (hok:∀e∈es,e.Ok) (hi:∀e∈es,Is w e) (ha:a<8) (hb:b<8) (hne:a≠b) (hlen:(Pl.body5 a b es).length≤4096) :
  Calls prog 91 #[.agg (Qtk 5 (a:Int) (b:Int) (.slice ao es.length cap))] w fun r w'=>∃v',r=.returned (.tuple #[v',.int .i64 0])∧OwnB w.heap.size w' v' (Pl.frame (Pl.body5 a b es))∧Below w.heap.size w w':=by
 obtain⟨hx,hy,b1⟩:=zU w (.cells (Qtk 5 (a:Int) (b:Int) (.slice ao es.length cap)) 115) (.cells (Qo 0) 41)
 have HX:=zA hx
 have HY:=zA hy
 have HB:=zA b1
 have HSM:Hid (∀n∈[5,a,b,0],n≤1099511627776):=zA (by intro n hn;simp at hn;omega)
 have HR:=zA (fun (W:World) (hW:Below w.heap.size w W)=>h.below hW)
 have HRT:=zA (fun (W:World) (hW:Below w.heap.size w W)=>uK W a b ao es.length cap es (h.below hW) hes hok (fun e he=>(hi e he).below hW) (zL lD lD) (zL lD lD) lD)
 have qO:=zA hlen
 have HES:=zA hes
 have HOK:=zA hok
 have HIS:=zA (fun (W:World) (hW:Below w.heap.size w W) e he=>(hi e he).below hW)
 clear hlen hes hok hi
 clear hx hy b1 h ha hb hne
 go_enter_defers func91,ntmps91
 go_wp2_with fail
 generalize (w.alloc (.cells (Qtk 5 (a:Int) (b:Int) (.slice ao es.length cap)) 115)).alloc (.cells (Qo 0) 41)=W at *
 refine(HRT.out W HB.out).mono ?_
 rintro r w1 ⟨rfl,hb⟩
 have hx:=zZ hb HX.out
 have HX1:=zA hx
 have HY1:=zA (zZ hb HY.out)
 have HB1:=zA (HB.out.trans (hb.mono HB.out.size))
 clear hb HX HY HB HRT
 have d0:=cc 0 hx
 clear hx
 go_wp2_with fail
 refine(yD rfl).mono ?_
 rintro r w' ⟨rfl,rfl⟩
 go_wp2_with fail
 refine(has_5 _).mono ?_
 rintro r w2 ⟨rfl,hb⟩
 have hp:=heap_alloc_new w2 (.cells Qfd 198)
 have bp:=bn w2 (.cells Qfd 198)
 have hx:=(bp.block _ (gsi.1 (zZ hb HX1.out)).1).trans (zZ hb HX1.out)
 have HXP:=zA hx
 have HYP:=zA ((bp.block _ (gsi.1 (zZ hb HY1.out)).1).trans (zZ hb HY1.out))
 have HPP:=zA hp
 have hbp:=HB1.out.trans ((hb.trans (bp.mono hb.size)).mono HB1.out.size)
 have HBP:=zA hbp
 have hsz:=zG w2 (.cells Qfd 198)
 clear d0 hb bp HX1 HY1 HB1 hp
 have d0:=cc 0 hx
 have d1:=cc 1 hx
 have d2:=cc 2 hx
 have d15:=cc 15 hx
 have qM:Hid (OwnR kInt (w2.alloc (.cells Qfd 198)).heap.size ((w2.alloc (.cells Qfd 198)).alloc (.cells #[.int .i64 5,.int .i64 a,.int .i64 b,.int .i64 0] 3)) (.slice (some ⟨(w2.alloc (.cells Qfd 198)).heap.size,0,none⟩) 4 4) [(5:Int),(a:Int),(b:Int),(0:Int)]):=zA (tX kInt (w2.alloc (.cells Qfd 198)) (w2.alloc (.cells Qfd 198)).heap.size [(5:Int),(a:Int),(b:Int),(0:Int)] #[.int .i64 5,.int .i64 a,.int .i64 b,.int .i64 0] 4 (Nat.le_refl _) rfl lF (by simp[Rk.encs,kInt]))
 have HBQ:=zA ((Below.refl (w2.alloc (.cells Qfd 198)).heap.size (w2.alloc (.cells Qfd 198))).alloc (Nat.le_refl _) (.cells #[.int .i64 5,.int .i64 a,.int .i64 b,.int .i64 0] 3))
 have e15:=cc 15 (zC hx HBQ.out)
 have HX3:=zA (zC hx HBQ.out)
 have HY3:=zA (zC HYP.out HBQ.out)
 have HP3:=zA (zC HPP.out HBQ.out)
 clear hx hbp hsz
 go_wp2_with fail
 obtain⟨Wp,hWp⟩:∃Wp,Wp=w2.alloc (.cells Qfd 198):=⟨_,rfl⟩
 have hwsz:Wp.heap.size=w2.heap.size+1:=by rw[hWp];exact zG _ _
 rw[←hWp]at HXP HYP HPP HBP d0 d1 d2 d15 qM HBQ e15 HX3 HY3 HP3 ⊢
 clear hWp d0 d1 d2 d15 e15
 have HRW0:Hid (OwnR kInt Wp.heap.size (Wp.alloc (.cells #[.int .i64 5,.int .i64 a,.int .i64 b,.int .i64 0] 3)) (.slice (some ⟨w2.heap.size+1,0,none⟩) 4 4) [(5:Int),(a:Int),(b:Int),(0:Int)]):=zA (by have h:=qM.out;rw[hwsz]at h ⊢;exact h)
 clear hwsz qM
 generalize Wp.alloc (.cells #[.int .i64 5,.int .i64 a,.int .i64 b,.int .i64 0] 3)=W3 at *
 have HXW:=zA (fun (W:World) (hW:Below Wp.heap.size Wp W)=>zZ hW HXP.out)
 have HYW:=zA (fun (W:World) (hW:Below Wp.heap.size Wp W)=>zZ hW HYP.out)
 have HPW:=zA (fun (W:World) (hW:Below Wp.heap.size Wp W)=>zZ hW HPP.out)
 clear HXP HYP HPP HX3 HY3 HP3
 refine wp_loop_rounds 1 ?_
 rw[rounds_succ]
 have hxw:=HXW.out W3 HBQ.out
 have hpw:=HPW.out W3 HBQ.out
 have pp0:=cc 0 hpw
 have pp1:=cc 1 hpw
 have xx3:=cc 3 hxw
 clear hxw hpw
 go_wp2_with fail
 clear pp0 pp1 xx3
 obtain⟨Wq,hWq⟩:∃Wq,Wq=W3:=⟨_,rfl⟩
 subst hWq
 have HVN:Hid (RowC kInt Wq (.slice (some ⟨w2.heap.size+1,0,none⟩) 4 4) (Pl.toInts [5,a,b,0])):=zA (show _ from HRW0.out.toT.toC)
 have HB5:=HBQ
 generalize (some (⟨w2.heap.size+1,0,none⟩:Addr))=ao5 at *
 have HVV:Hid (RowC kInt Wq (.slice ao5 4 4) (Pl.toInts [5,a,b,0])):=HVN
 generalize hns:[5,a,b,0]=ns at *
 have HNS:=zA hns
 have HLN:=zA (show ns.length=4 by rw[←hns];rfl)
 clear hns
 go_loopw [8,61] (fun v i wr=>∃(k:Nat),k≤4∧i=.int .i64 k∧OwnB Wq.heap.size wr v (Pl.vints (ns.take k))∧Below Wq.heap.size Wq wr) (fun _ i _=>4 - (intOf i).toNat)
 case atStart=>exact⟨0,by omega,rfl,xO _ _,Below.refl _ _⟩
 case round=>
  obtain⟨k,hk,rfl,hO,hb⟩:=hrel
  by_cases hlt0:k<4
  ·have hlt:k<ns.length:=by rw[HLN.out];exact hlt0
   have pF:k<(Pl.toInts ns).length:=by unfold Pl.toInts;simpa using hlt
   obtain⟨g2,off2,cap3,e,hg2,hc⟩:=(HVV.out.below hb).cell pF
   rw[show(Pl.toInts ns).length=4 from by unfold Pl.toInts;rw[List.length_map];exact HLN.out]at e
   cases e
   have a1:(k:Int)+1≤9223372036854775807:=by omega
   have a0:(k:Int)<4:=by omega
   exact oI
  ·obtain rfl:k=4:=by omega
   rw[show ns.take 4=ns from by rw[←HLN.out,List.take_length]]at hO
   have HO5:=zA hO
   have HB6:=zA (HB5.out.trans (hb.mono HB5.out.size))
   have HQ6:=zA hb
   have HVL:=zA (show(Pl.vints ns).length≤48 by have:=Pl.vints_len ns (fun n hn=>HSM.out n hn);rw[HLN.out]at this;omega)
   clear hO hb hlt0 hk
   have hpw:=HPW.out wr HB6.out
   have pp2:=cc 2 hpw
   have pp3:=cc 3 hpw
   clear hpw
   have hy:=HYW.out wr HB6.out
   have ce:=cc 0 hy
   have fe:=zB hy 0
   have hid:wr.setCell ⟨w.heap.size+1,0,none⟩ (.int .i64 0)=wr:=zN hy (j:=0) (v:=.int .i64 0) rfl
   clear hy
   have hxw:=HXW.out wr HB6.out
   have xx0:=cc 0 hxw
   have xx1:=cc 1 hxw
   have xx2:=cc 2 hxw
   have xx3:=cc 3 hxw
   have xx4:=cc 4 hxw
   have xx5:=cc 5 hxw
   have xx6:=cc 6 hxw
   have xx7:=cc 7 hxw
   have xx8:=cc 8 hxw
   have xx9:=cc 9 hxw
   have xx10:=cc 10 hxw
   have xx11:=cc 11 hxw
   have xx12:=cc 12 hxw
   have xx13:=cc 13 hxw
   have xx14:=cc 14 hxw
   have xx15:=cc 15 hxw
   clear hxw
   have HPT:=zA (putall_ok _ es wr (HR.out wr (HBP.out.trans (HB6.out.mono HBP.out.size))) HES.out HOK.out (HIS.out wr (HBP.out.trans (HB6.out.mono HBP.out.size))))
   go_wp2_with fail
   refine HPT.out.mono ?_
   rintro r wz ⟨vr,rfl,hor,hb⟩
   have HBR:=zA (HB6.out.trans (hb.mono HB6.out.size))
   have HQR:=zA (HQ6.out.trans (hb.mono HQ6.out.size))
   have HOR:=zA (HO5.out.below hb)
   have HRS:=zA hor
   clear hb hor HPT xx0 xx1 xx2 xx3 xx4 xx5 xx6 xx7 xx8 xx9 xx10 xx11 xx12 xx13 xx14 xx15 ce fe hid pp2 pp3
   have hy:=HYW.out wz HBR.out
   have ce:=cc 0 hy
   have fe:=zB hy 0
   have hid:wz.setCell ⟨w.heap.size+1,0,none⟩ (.int .i64 0)=wz:=zN hy (j:=0) (v:=.int .i64 0) rfl
   clear hy
   go_wp2_with fail
   refine(yD rfl).mono ?_
   rintro r w' ⟨rfl,rfl⟩
   clear ce fe hid
   go_wp2_with (
    at_builtin
    refine xF rfl (.tmp 98) (.tmp 99) rfl rfl HOR.out rfl HRS.out.toT.toC (by have:=HVL.out;have:=qO.out;unfold Pl.body5 at this;rw[List.length_append]at this;omega) HQR.out HQR.out.size ?_
    intro v6 w6 hown6 hb6 hg6
    have pZ:=zA (HB5.out.trans (hb6.mono HB5.out.size))
    have HFP:=zA (tJ v6 _ w6 hown6.toT.toC (by rw[←HNS.out];exact qO.out))
    clear hown6 hb6 hg6)
   exact oT
theorem yL {w:World} {g:Nat} {c:Array Value} {t:TypeId} (hg:w.heap[g]?=some (.cells c t (0,0))) (cs:Array Value):(w.setRow g cs).heap[g]?=some (.cells cs t (0,0)):=setRow_heap w g c cs t (0,0) hg
theorem yH (w:World) (g:Nat) (cs:Array Value) (k:Nat) (hk:k≠g):(w.setRow g cs).heap[k]?=w.heap[k]?:=by
 simp only[World.setRow]
 rw[Array.getElem?_modify,if_neg (fun e=>hk e.symm)]
theorem setRow_size (w:World) (g:Nat) (cs:Array Value):(w.setRow g cs).heap.size=w.heap.size:=by simp[World.setRow]
theorem Off.setRow {F:Nat→Prop} {w w':World} (h:Off F w w') (g:Nat) (hg:F g∨w.heap.size≤g) (cs:Array Value):Off F w (w'.setRow g cs):=
 ⟨by rw[setRow_size];exact h.size,fun k hk hf=>(yH w' g cs k (fun e=>by subst e;rcases hg with h | h;exact hf h;omega)).trans (h.same k hk hf),h.rest⟩
theorem zR {P:Program} {w:World} {ops:Array Oper} {rest:List Oper} {o:Oper} {a:Act} {Q:Exit→Act→World→Prop} (hgd:o.guard=none) (t:TypeId) (pl vl:Operand) (g:Nat) (c c':Array Value) (t0:TypeId)
  (ho:o.op=.store t pl vl) (hd:o.dst=none) (hp:a.eval pl=.pointer (some ⟨g,0,none⟩)) (hv:a.eval vl=.agg c') (hg:w.heap[g]?=some (.cells c t0 (0,0)))
  (hi:(P.info? t).map (·.size)=some c'.size) (hs:c.size=c'.size) (h1:c'.all (·.oneCell')=true)
  (h:wpList P ops Q rest a (w.setRow g c')):wpList P ops Q (o::rest) a w:=by
 refine wpList_plain hgd fun K hK'=>?_
 have qH:(Instr.storeAt t (Qp g) (.agg c')).run P w=.ok () (w.setRow g c'):=by
  exact mU
 unfold Oper.wp
 simp[execOp,ho,hp,hv,qH,Result.andThen]
 exact hK' _ _ (by simpa[hd,Act.put]using h)
theorem zI {P:Program} {w:World} {ops:Array Oper} {rest:List Oper} {o:Oper} {a:Act} {Q:Exit→Act→World→Prop} (hgd:o.guard=none) (t:TypeId) (pl:Operand) (g:Nat) (c:Array Value) (t0:TypeId) (fr:Nat×Nat) (d:TypeDesc)
  (ho:o.op=.load t pl) (hp:a.eval pl=.pointer (some ⟨g,0,none⟩)) (hg:w.heap[g]?=some (.cells c t0 fr)) (hu:P.underlying t=some d) (hd:(match d with | .struct _ | .array _ _=>true | _=>false)=true)
  (hi:(P.info? t).map (·.size)=some c.size)
  (h:wpList P ops Q rest (a.put o.dst (.agg c)) w):wpList P ops Q (o::rest) a w:=by
 refine wpList_plain hgd fun K hK'=>?_
 have qH:(Instr.loadAt t (Qp g)).run P w=.ok (.agg c) w:=by
  simp only[Instr.loadAt,Instr.sureAddr,Sem.run_bind,Sem.run_pure,Result.andThen]
  exact run_loadVar_row w g t0 t c fr d hg hu hd hi
 unfold Oper.wp
 simp[execOp,ho,hp,qH,Result.andThen]
 exact hK' _ _ h
theorem mnum_ok (r n:Nat) (ys:List Int) (w:World) (h:RdAt w r (Pl.vint n++ys)) (hn:n≤1099511627776) :
  Calls prog 176 #[.agg #[Qp r]] w fun e w'=>e=.returned (.int .i64 n)∧RdAt w' r ys∧Off (· = r) w w':=by
 have b1:=bn w (.cells #[Qp r] 193)
 have hx:=heap_alloc_new w (.cells #[Qp r] 193)
 have HI:=zA (vO r n ys _ (h.below b1) hn)
 have HRL:=zA h.lt
 have HX:=zA hx
 have HB:=zA b1
 clear b1 hx h
 go_enter func176,ntmps176
 go_wp2_with fail
 generalize w.alloc (.cells #[Qp r] 193)=W at *
 refine HI.out.mono ?_
 rintro e w1 ⟨rfl,hr,ho⟩
 have hx:=(ho.same _ (gsi.1 HX.out).1 (fun e=>by have:=HRL.out;have e':w.heap.size=r:=e;omega)).trans HX.out
 have HX1:=zA hx
 have HO:=zA (Off.after ho HB.out (G:=(· = r)) (fun g _ hg=>hg))
 have HR:=zA hr
 have HBX:=zA (Below.refl w1.heap.size w1)
 have HE:=zA (fun p:Beh w1=>uW r ys p.w (HR.out.below p.b))
 have f0:∀p:Beh w1,p.w.cell? ⟨w.heap.size,0,none⟩=some (.pointer (some ⟨r,0,none⟩)):=fun p=>p.cell (cc 0 HX1.out)
 clear hx ho hr HI
 go_wp2_with fail
 refine zS lE lE HBX.out ?_
 repeat (go_big_quiet_step (first | exact Calls.beh_same (HE.out _) | exact Calls.beh_same (yD rfl)))
 refine wpQuiet_nil ?_
 intro _ hw'
 obtain⟨p,hw''⟩:=hw'
 subst hw''
 clear f0
 have HRZ:=zA (HR.out.below p.b)
 have HOZ:=zA (HO.out.trans (Off.of_below p.b))
 go_wp2_with fail
 go_ret
 exact⟨rfl,HRZ.out,HOZ.out⟩
structure HdAt (w0:World) (r B M:Nat) (c:Array Value) (ys:List Int) (w:World):Prop where
 rd:RdAt w r ys
 bx:w.heap[B]?=some (.cells #[Qp r] 193 (0,0))
 ms:w.heap[M]?=some (.cells c 115 (0,0))
 off:Off (· = r) w0 w
 geo:w0.heap.size≤B∧w0.heap.size≤M∧B≠M∧r<w0.heap.size
theorem HdAt.below {w0 w w':World} {r B M:Nat} {c:Array Value} {ys:List Int} (h:HdAt w0 r B M c ys w) (hb:Below w.heap.size w w'):HdAt w0 r B M c ys w':=
 ⟨h.rd.below hb,zC h.bx hb,zC h.ms hb,h.off.trans (Off.of_below hb),h.geo⟩
theorem HdAt.num {w0 w:World} {r B M n:Nat} {c:Array Value} {ys:List Int} (h:HdAt w0 r B M c (Pl.vint n++ys) w) (hn:n≤1099511627776) :
  Calls prog 176 #[.agg #[Qp r]] w fun e w'=>e=.returned (.int .i64 n)∧HdAt w0 r B M c ys w'∧Off (· = r) w w':=by
 refine(mnum_ok r n ys w h.rd hn).mono ?_
 rintro e w' ⟨rfl,h1,h2⟩
 obtain⟨g1,g2,g3,g4⟩:=h.geo
 exact⟨rfl,⟨h1,(h2.same _ (gsi.1 h.bx).1 (fun e=>by have e':B=r:=e;omega)).trans h.bx,(h2.same _ (gsi.1 h.ms).1 (fun e=>by have e':M=r:=e;omega)).trans h.ms,h.off.trans h2,h.geo⟩,h2⟩
theorem HdAt.set {w0 w:World} {r B M:Nat} {c:Array Value} {ys:List Int} (h:HdAt w0 r B M c ys w) (j:Nat) (v:Value):HdAt w0 r B M (c.setIfInBounds j v) ys (w.setCell ⟨M,j,none⟩ v):=by
 obtain⟨g1,g2,g3,g4⟩:=h.geo
 exact⟨h.rd.other lD (fun cs fr e=>by rw[h.ms]at e;cases e) j v,(Below.heap_setCell w ⟨M,j,none⟩ v B g3).trans h.bx,zF h.ms v,h.off.set (.inr g2) v,h.geo⟩
theorem HdAt.row {w0 w:World} {r B M:Nat} {c:Array Value} {ys:List Int} (h:HdAt w0 r B M c ys w):HdAt w0 r B M c ys (w.setRow M c):=by
 obtain⟨g1,g2,g3,g4⟩:=h.geo
 have e:w.setRow M c=w:=by
  cases w with
  | mk heap _ _ _=>
   simp only[World.setRow]
   congr 1
   apply Array.ext_getElem?
   intro i
   rw[Array.getElem?_modify]
   split
   ·rename_i hi
    subst hi
    have hm:=h.ms
    simp only at hm
    rw[hm];rfl
   ·rfl
 rw[e];exact h
theorem head_5 (r a b:Nat) (ys:List Int) (w:World) (h:RdAt w r (Pl.vints [5,a,b,0]++ys)) (ha:a<8) (hb:b<8) :
  Calls prog 108 #[.agg #[Qp r]] w fun e w'=>e=.returned (.agg (Qnk 5 (a:Int) (b:Int)))∧RdAt w' r ys∧Off (· = r) w w':=by
 have h':RdAt w r (Pl.vint 5++(Pl.vint a++(Pl.vint b++(Pl.vint 0++(ys))))):=by simpa[Pl.vints,List.append_assoc]using h
 obtain⟨hx,hy,b1⟩:=zU w (.cells #[.pointer (some ⟨r,0,none⟩)] 193) (.cells Qnn 115)
 have HD0:Hid (HdAt w r w.heap.size (w.heap.size+1) Qnn (Pl.vint 5++(Pl.vint a++(Pl.vint b++(Pl.vint 0++(ys))))) ((w.alloc (.cells #[Qp r] 193)).alloc (.cells Qnn 115))):=zA ⟨h'.below b1,hx,hy,Off.of_below b1,Nat.le_refl _,by omega,by omega,h.lt⟩
 have HA:Hid (a≤1099511627776∧b≤1099511627776):=zA lD
 clear hx hy b1 h h' ha hb
 go_enter func108,ntmps108
 go_wp2_with fail
 generalize (w.alloc (.cells #[Qp r] 193)).alloc (.cells Qnn 115)=W0 at *
 refine(HD0.out.num (n:=5) (by have:=HA.out;omega)).mono ?_
 rintro e W1 ⟨rfl,hd,ho⟩
 have HD1:=zA hd
 have b0:=cc 0 hd.bx
 have m0:=cc 0 hd.ms
 have f0:=zB hd.ms 0
 clear hd ho HD0
 go_wp2_with fail
 have hd2:=HD1.out.set 0 (.int .i64 5)
 simp only[zP]at hd2
 have HD2:=zA hd2
 clear hd2 b0 m0 f0 HD1
 generalize W1.setCell ⟨w.heap.size+1,0,none⟩ (.int .i64 5)=W2 at *
 refine(yM _ _ _ _).mono ?_
 rintro e w' ⟨rfl,rfl⟩
 rw[show Pl.inside 5 1 5=true by decide]
 go_wp2_with fail
 refine(yD rfl).mono ?_
 rintro e w' ⟨rfl,rfl⟩
 go_wp2_with fail
 refine zD (fun W=>W.heap[w.heap.size]?=some (.cells #[Qp r] 193 (0,0))) 99 lE HD2.out.bx (fun qB=>?_)
 refine tk 0 13 rfl lI ?_
 refine tk 2 15 rfl lI ?_
 refine t1 1 rfl (fun K hK=>?_)
 go_simp
 refine((HD2.out.below ((Below.refl _ _).drew)).num (n:=a) (by have:=HA.out;omega)).mono ?_
 rintro e W3 ⟨rfl,hd,ho⟩
 have HD3:=zA hd
 clear hd ho
 refine hK.out _ _ (fun _=>HD3.out.bx) (fun _=>?_)
 clear hK K qB
 try simp only[zP]
 have qB:=HD3.out.bx
 refine tkp 4 17 rfl ?_
 clear qB
 refine t1 3 rfl (fun K hK=>?_)
 go_simp
 refine(HD3.out.num (n:=b) (by have:=HA.out;omega)).mono ?_
 rintro e W4 ⟨rfl,hd,ho⟩
 have HD4:=zA hd
 clear hd ho
 refine hK.out _ _ (fun _=>HD4.out.bx) (fun _=>?_)
 clear hK K
 try simp only[zP]
 have m0:=cc 1 HD4.out.ms
 have f0:=zB HD4.out.ms 1
 refine t1 5 rfl (fun K hK=>?_)
 go_simp
 have hd2:=HD4.out.set 1 (.int .i64 a)
 simp only[zP]at hd2
 have HD5:=zA hd2
 clear hd2 m0 f0 HD4
 generalize W4.setCell ⟨w.heap.size+1,1,none⟩ (.int .i64 a)=W5 at *
 refine hK.out _ _ (fun _=>HD5.out.bx) (fun _=>?_)
 clear hK K
 try simp only[zP]
 have qB:=HD5.out.bx
 refine tkp 6 18 rfl ?_
 clear qB
 have m0:=cc 2 HD5.out.ms
 have f0:=zB HD5.out.ms 2
 refine t1 7 rfl (fun K hK=>?_)
 go_simp
 have hd2:=HD5.out.set 2 (.int .i64 b)
 simp only[zP]at hd2
 have HD6:=zA hd2
 clear hd2 m0 f0 HD5
 generalize W5.setCell ⟨w.heap.size+1,2,none⟩ (.int .i64 b)=W6 at *
 refine hK.out _ _ (fun _=>HD6.out.bx) (fun _=>?_)
 clear hK K
 try simp only[zP]
 refine wd ?_
 have b0:=cc 0 HD6.out.bx
 go_wp2_with fail
 refine(HD6.out.num (n:=0) (by have:=HA.out;omega)).mono ?_
 rintro e W7 ⟨rfl,hd,ho⟩
 have HD7:=zA hd
 clear hd ho b0 HD6
 go_wp2_with fail
 refine(yD rfl).mono ?_
 rintro e w' ⟨rfl,rfl⟩
 go_wp2_with fail
 refine wp_loop_rounds 1 ?_
 rw[rounds_succ]
 have m0:=cc 0 HD7.out.ms
 go_wp2_with fail
 refine(has_5 _).mono ?_
 rintro e W9 ⟨rfl,hb⟩
 have hd:=HD7.out.below hb
 have hd9:=hd.below (bn W9 (.cells Qfd 198))
 have hp:=heap_alloc_new W9 (.cells Qfd 198)
 have HP:=zA hp
 have hlp:w.heap.size+1<W9.heap.size:=(gsi.1 hd.ms).1
 have HLP:=zA hlp
 have HRW:=zA hd.geo.2.2.2
 have HD9:=zA hd9
 clear hd9 hp hb m0 hd hlp HD7
 go_wp2_with (first
  | refine zI rfl 115 (.tmp 2) (w.heap.size+1) (Qnk 5 (a:Int) (b:Int)) 115 (0,0) _ rfl rfl HD9.out.ms underlying115 rfl lE ?_
  | refine zR rfl 115 (.tmp 2) (.tmp 56) (w.heap.size+1) (Qnk 5 (a:Int) (b:Int)) (Qnk 5 (a:Int) (b:Int)) 115 rfl rfl rfl rfl HD9.out.ms lE rfl lE ?_)
 have qG:=zA HD9.out.row
 generalize (W9.alloc (.cells Qfd 198)).setRow (w.heap.size+1) (Qnk 5 (a:Int) (b:Int))=Wz at *
 have m0:=cc 0 qG.out.ms
 have m1:=cc 1 qG.out.ms
 have m2:=cc 2 qG.out.ms
 have m3:=cc 3 qG.out.ms
 have m4:=cc 4 qG.out.ms
 have m5:=cc 5 qG.out.ms
 have m6:=cc 6 qG.out.ms
 have m7:=cc 7 qG.out.ms
 have m8:=cc 8 qG.out.ms
 have m9:=cc 9 qG.out.ms
 have m10:=cc 10 qG.out.ms
 have m11:=cc 11 qG.out.ms
 have m12:=cc 12 qG.out.ms
 have m13:=cc 13 qG.out.ms
 have m14:=cc 14 qG.out.ms
 have m15:=cc 15 qG.out.ms
 exact bodyPost_ret (v:=.agg (Qnk 5 (a:Int) (b:Int))) (by simp[results,results108,go_sem,m0,m1,m2,m3,m4,m5,m6,m7,m8,m9,m10,m11,m12,m13,m14,m15]) rfl ⟨rfl,qG.out.rd,qG.out.off⟩
theorem HdAt.away {w0 w:World} {r B M g:Nat} {c cs:Array Value} {t:TypeId} {ys:List Int} (h:HdAt w0 r B M c ys w) (hg:w.heap[g]?=some (.cells cs t (0,0))) (ht:t≠293∧t≠193∧t≠115∧t≠5) (hge:w0.heap.size≤g) (j:Nat) (v:Value):HdAt w0 r B M c ys (w.setCell ⟨g,j,none⟩ v):=by
 have h1:=RdAt.ne h.rd hg ht.1
 have h2:B≠g:=fun e=>by rw[←e,h.bx]at hg;exact zH (fun e=>ht.2.1 e.symm) hg
 have h3:M≠g:=fun e=>by rw[←e,h.ms]at hg;exact zH (fun e=>ht.2.2.1 e.symm) hg
 exact⟨h.rd.other h1 (fun cs' fr e=>by rw[hg]at e;exact zH ht.2.2.2 e) j v,(Below.heap_setCell w ⟨g,j,none⟩ v B h2).trans h.bx,(Below.heap_setCell w ⟨g,j,none⟩ v M h3).trans h.ms,h.off.set (.inr hge) v,h.geo⟩
theorem head_1 (r a b nd st inc q:Nat) (ys:List Int) (w:World) (h:RdAt w r (Pl.vints [1,a,b,1,nd,st,inc,q]++ys)) (ha:a<8) (hb:b<8) (hn:nd<8) (hs:st≤4) (hi:inc≤1099511627776) (hq:q≤1099511627776) :
  Calls prog 108 #[.agg #[Qp r]] w fun e w'=>∃v,e=.returned (.agg #[.int .i64 1,.int .i64 a,.int .i64 b,.int .i64 q,.int .i64 0,.int .i64 0,.int .i64 0,.int .i64 0,.int .i64 0,.int .i64 0,.int .i64 0,.int .i64 0,.int .i64 0,.slice none 0 0,.slice none 0 0,v])∧OwnR kMem w.heap.size w' v [((nd:Int),(st:Int),(inc:Int))]∧RdAt w' r ys∧Off (· = r) w w':=by
 have h':RdAt w r (Pl.vint 1++(Pl.vint a++(Pl.vint b++(Pl.vint 1++(Pl.vint nd++(Pl.vint st++(Pl.vint inc++(Pl.vint q++(ys))))))))):=by simpa[Pl.vints,List.append_assoc]using h
 obtain⟨hx,hy,b1⟩:=zU w (.cells #[.pointer (some ⟨r,0,none⟩)] 193) (.cells Qnn 115)
 have HD0:Hid (HdAt w r w.heap.size (w.heap.size+1) Qnn (Pl.vint 1++(Pl.vint a++(Pl.vint b++(Pl.vint 1++(Pl.vint nd++(Pl.vint st++(Pl.vint inc++(Pl.vint q++(ys))))))))) ((w.alloc (.cells #[Qp r] 193)).alloc (.cells Qnn 115))):=zA ⟨h'.below b1,hx,hy,Off.of_below b1,Nat.le_refl _,by omega,by omega,h.lt⟩
 have HA:Hid (a≤1099511627776∧b≤1099511627776∧nd≤1099511627776∧st≤1099511627776∧inc≤1099511627776∧q≤1099511627776):=zA lD
 clear hx hy b1 h h' ha hb hn hs hi hq
 go_enter func108,ntmps108
 go_wp2_with fail
 generalize (w.alloc (.cells #[Qp r] 193)).alloc (.cells Qnn 115)=W0 at *
 refine(HD0.out.num (n:=1) (by have:=HA.out;omega)).mono ?_
 rintro e W1 ⟨rfl,hd,ho⟩
 have HD1:=zA hd
 have b0:=cc 0 hd.bx
 have m0:=cc 0 hd.ms
 have f0:=zB hd.ms 0
 clear hd ho HD0
 go_wp2_with fail
 have hd2:=HD1.out.set 0 (.int .i64 1)
 simp only[zP]at hd2
 have HD2:=zA hd2
 clear hd2 b0 m0 f0 HD1
 generalize W1.setCell ⟨w.heap.size+1,0,none⟩ (.int .i64 1)=W2 at *
 refine(yM _ _ _ _).mono ?_
 rintro e w' ⟨rfl,rfl⟩
 rw[show Pl.inside 1 1 5=true by decide]
 go_wp2_with fail
 refine(yD rfl).mono ?_
 rintro e w' ⟨rfl,rfl⟩
 go_wp2_with fail
 refine zD (fun W=>W.heap[w.heap.size]?=some (.cells #[Qp r] 193 (0,0))) 99 lE HD2.out.bx (fun qB=>?_)
 refine tk 0 13 rfl lI ?_
 refine tk 2 15 rfl lI ?_
 refine t1 1 rfl (fun K hK=>?_)
 go_simp
 refine((HD2.out.below ((Below.refl _ _).drew)).num (n:=a) (by have:=HA.out;omega)).mono ?_
 rintro e W3 ⟨rfl,hd,ho⟩
 have HD3:=zA hd
 clear hd ho
 refine hK.out _ _ (fun _=>HD3.out.bx) (fun _=>?_)
 clear hK K qB
 try simp only[zP]
 have qB:=HD3.out.bx
 refine tkp 4 17 rfl ?_
 clear qB
 refine t1 3 rfl (fun K hK=>?_)
 go_simp
 refine(HD3.out.num (n:=b) (by have:=HA.out;omega)).mono ?_
 rintro e W4 ⟨rfl,hd,ho⟩
 have HD4:=zA hd
 clear hd ho
 refine hK.out _ _ (fun _=>HD4.out.bx) (fun _=>?_)
 clear hK K
 try simp only[zP]
 have m0:=cc 1 HD4.out.ms
 have f0:=zB HD4.out.ms 1
 refine t1 5 rfl (fun K hK=>?_)
 go_simp
 have hd2:=HD4.out.set 1 (.int .i64 a)
 simp only[zP]at hd2
 have HD5:=zA hd2
 clear hd2 m0 f0 HD4
 generalize W4.setCell ⟨w.heap.size+1,1,none⟩ (.int .i64 a)=W5 at *
 refine hK.out _ _ (fun _=>HD5.out.bx) (fun _=>?_)
 clear hK K
 try simp only[zP]
 have qB:=HD5.out.bx
 refine tkp 6 18 rfl ?_
 clear qB
 have m0:=cc 2 HD5.out.ms
 have f0:=zB HD5.out.ms 2
 refine t1 7 rfl (fun K hK=>?_)
 go_simp
 have hd2:=HD5.out.set 2 (.int .i64 b)
 simp only[zP]at hd2
 have HD6:=zA hd2
 clear hd2 m0 f0 HD5
 generalize W5.setCell ⟨w.heap.size+1,2,none⟩ (.int .i64 b)=W6 at *
 refine hK.out _ _ (fun _=>HD6.out.bx) (fun _=>?_)
 clear hK K
 try simp only[zP]
 refine wd ?_
 have b0:=cc 0 HD6.out.bx
 go_wp2_with fail
 refine(HD6.out.num (n:=1) (by have:=HA.out;omega)).mono ?_
 rintro e W7 ⟨rfl,hd,ho⟩
 have HD7:=zA hd
 clear hd ho b0 HD6
 go_wp2_with fail
 refine(yD rfl).mono ?_
 rintro e w' ⟨rfl,rfl⟩
 go_wp2_with fail
 refine wp_loop_rounds 2 ?_
 rw[rounds_succ]
 have b0:=cc 0 HD7.out.bx
 go_wp2_with fail
 refine(HD7.out.num (n:=nd) (by have:=HA.out;omega)).mono ?_
 rintro e Wc ⟨rfl,hd,ho⟩
 have bt:=bn Wc (.cells (Qj (nd:Int) 0 0) 212)
 have ht:=heap_alloc_new Wc (.cells (Qj (nd:Int) 0 0) 212)
 have hdt:=hd.below bt
 have hw0:=hd.off.size
 have HT:=zA ht
 have HDt:=zA hdt
 have HW0:=zA hw0
 clear b0 bt ht hd ho HD7 hw0
 have b0:=cc 0 hdt.bx
 clear hdt
 go_wp2_with fail
 generalize Wc.alloc (.cells (Qj (nd:Int) 0 0) 212)=Wt at *
 refine(HDt.out.num (n:=st) (by have:=HA.out;omega)).mono ?_
 rintro e Wd ⟨rfl,hd,ho⟩
 have hne:=RdAt.ne HDt.out.rd HT.out lF
 have ht:=(ho.same _ (gsi.1 HT.out).1 hne).trans HT.out
 have hs2:=zF (j:=1) ht (.int .i64 st)
 simp only[zP]at hs2
 have HT2:=zA hs2
 have HDu:=zA (hd.away ht lF HW0.out 1 (.int .i64 st))
 have q1:=cc 1 ht
 have g1:=zB ht 1
 clear b0
 have b0:=cc 0 HDu.out.bx
 clear ho hd ht hs2 hne HT HDt
 go_wp2_with fail
 generalize Wd.setCell ⟨Wc.heap.size,1,none⟩ (.int .i64 st)=We at *
 clear q1 g1 b0
 refine(HDu.out.num (n:=inc) (by have:=HA.out;omega)).mono ?_
 rintro e Wf ⟨rfl,hd,ho⟩
 have hne:=RdAt.ne HDu.out.rd HT2.out lF
 have ht:=(ho.same _ (gsi.1 HT2.out).1 hne).trans HT2.out
 have hs2:=zF (j:=2) ht (.int .i64 inc)
 simp only[zP]at hs2
 have hdg:=hd.away ht lF HW0.out 2 (.int .i64 inc)
 have q2:=cc 2 ht
 have g2:=zB ht 2
 have t0:=cc 0 hs2
 have t1:=cc 1 hs2
 have t2:=cc 2 hs2
 have m15:=cc 15 hdg.ms
 have bu:=(Below.refl (Wf.setCell ⟨Wc.heap.size,2,none⟩ (.int .i64 inc)).heap.size (Wf.setCell ⟨Wc.heap.size,2,none⟩ (.int .i64 inc))).alloc (Nat.le_refl _) (.cells (Qj (nd:Int) (st:Int) (inc:Int)) 212)
 have hsz:(Wf.setCell ⟨Wc.heap.size,2,none⟩ (.int .i64 inc)).heap.size=Wf.heap.size:=by simp
 have qL:=yK kMem (Wf.setCell ⟨Wc.heap.size,2,none⟩ (.int .i64 inc)) [((nd:Int),(st:Int),(inc:Int))] (Qj (nd:Int) (st:Int) (inc:Int)) 1 rfl (by simp[Rk.encs,kMem])
 rw[hsz]at qL
 have qI:=zA qL
 have HDH:=zA (hdg.below bu)
 have HBR:=zA (Below.refl ((Wf.setCell ⟨Wc.heap.size,2,none⟩ (.int .i64 inc)).alloc (.cells (Qj (nd:Int) (st:Int) (inc:Int)) 212)).heap.size ((Wf.setCell ⟨Wc.heap.size,2,none⟩ (.int .i64 inc)).alloc (.cells (Qj (nd:Int) (st:Int) (inc:Int)) 212)))
 have HWS:=zA hdg.off.size
 clear hne ht hs2 hdg hd ho qL bu hsz HT2 HDu
 go_wp2_with (
  at_builtin
  refine yU kMem rfl (.tmp 37) (.tmp 39) rfl rfl (yJ kMem _ _) rfl qI.out (by simp) HBR.out (Nat.le_refl _) ?_
  intro v1 Wh hown1 hb1 hg0
  obtain⟨aov,capv,rfl⟩:=hown1.toT.form
  have HVh:=zA hown1
  have hdh:=HDH.out.below hb1
  have HDh:=zA hdh
  have n15:=cc 15 hdh.ms
  have fn15:=zB hdh.ms 15
  clear hown1 hb1 hg0 hdh)
 have hd2:=HDh.out.set 15 (.slice aov 1 capv)
 simp only[zP]at hd2
 have HD8:=zA hd2
 have HV8:Hid (OwnR kMem w.heap.size (Wh.setCell ⟨w.heap.size+1,15,none⟩ (.slice aov 1 capv)) (.slice aov 1 capv) [((nd:Int),(st:Int),(inc:Int))]):=zA (OwnR.keep (HVh.out.mono (Nat.le_trans HWS.out (by rw[zG];omega))) (fun g hg=>by
  obtain⟨cs,hcs⟩:=zK HVh.out hg
  exact Below.heap_setCell _ _ _ _ (fun e=>by
   have e':g=w.heap.size+1:=e
   rw[e',HDh.out.ms]at hcs;exact zH lF hcs)))
 clear hd2 n15 fn15 HDh HVh q2 g2 t0 t1 t2 m15 HDH HBR HWS qI
 generalize Wh.setCell ⟨w.heap.size+1,15,none⟩ (.slice aov 1 capv)=W8 at *
 rw[rounds_succ]
 have m0:=cc 0 HD8.out.ms
 go_wp2_with fail
 refine(has_1 _).mono ?_
 rintro e W9 ⟨rfl,hb⟩
 have hd:=HD8.out.below hb
 have hd9:=hd.below (bn W9 (.cells Qfa 198))
 have hp:=heap_alloc_new W9 (.cells Qfa 198)
 have HP:=zA hp
 have hlp:w.heap.size+1<W9.heap.size:=(gsi.1 hd.ms).1
 have HLP:=zA hlp
 have HRW:=zA hd.geo.2.2.2
 have HD9:=zA hd9
 have HV9:=zA ((HV8.out.below hb).below (bn W9 (.cells Qfa 198)))
 have b0:=cc 0 hd9.bx
 clear hd9 hp hb hd hlp HD8
 go_wp2_with fail
 generalize W9.alloc (.cells Qfa 198)=Wa at *
 refine(HD9.out.num (n:=q) (by have:=HA.out;omega)).mono ?_
 rintro e Wb ⟨rfl,hd,ho⟩
 have hp:=(ho.same _ (gsi.1 HP.out).1 (fun e=>by have e':W9.heap.size=r:=e;have:=HLP.out;have:=HRW.out;omega)).trans HP.out
 have p1:=cc 1 hp
 have m3:=cc 3 hd.ms
 have f3:=zB hd.ms 3
 have hd2:=hd.set 3 (.int .i64 q)
 simp only[zP]at hd2
 have HDf:=zA hd2
 have hne:¬W9.heap.size=w.heap.size+1:=by have:=HLP.out;omega
 have HVF:Hid (OwnR kMem w.heap.size ((Wb.setCell ⟨w.heap.size+1,3,none⟩ (.int .i64 q)).setRow (w.heap.size+1) (Qrj 1 (a:Int) (b:Int) (q:Int) (.slice aov 1 capv))) (.slice aov 1 capv) [((nd:Int),(st:Int),(inc:Int))]):=zA (HV9.out.keep (fun g hg=>by
  obtain⟨cs,hcs⟩:=zK HV9.out hg
  have hgr:=RdAt.ne HD9.out.rd hcs lF
  have hgm:g≠w.heap.size+1:=fun e=>by rw[e,HD9.out.ms]at hcs;exact zH lF hcs
  exact(yH _ _ _ _ hgm).trans ((Below.heap_setCell _ _ _ _ hgm).trans (ho.same g (gsi.1 hcs).1 hgr))))
 clear hp hd ho hd2 b0 HD9 HP
 go_wp2_with (first
  | refine zI rfl 115 (.tmp 2) (w.heap.size+1) (Qrj 1 (a:Int) (b:Int) (q:Int) (.slice aov 1 capv)) 115 (0,0) _ rfl rfl HDf.out.ms underlying115 rfl lE ?_
  | refine zR rfl 115 (.tmp 2) (.tmp 56) (w.heap.size+1) (Qrj 1 (a:Int) (b:Int) (q:Int) (.slice aov 1 capv)) (Qrj 1 (a:Int) (b:Int) (q:Int) (.slice aov 1 capv)) 115 rfl rfl rfl rfl HDf.out.ms lE rfl lE ?_)
 have qG:=zA HDf.out.row
 generalize (Wb.setCell ⟨w.heap.size+1,3,none⟩ (.int .i64 q)).setRow (w.heap.size+1) (Qrj 1 (a:Int) (b:Int) (q:Int) (.slice aov 1 capv))=Wz at *
 have m0:=cc 0 qG.out.ms
 have m1:=cc 1 qG.out.ms
 have m2:=cc 2 qG.out.ms
 have m3:=cc 3 qG.out.ms
 have m4:=cc 4 qG.out.ms
 have m5:=cc 5 qG.out.ms
 have m6:=cc 6 qG.out.ms
 have m7:=cc 7 qG.out.ms
 have m8:=cc 8 qG.out.ms
 have m9:=cc 9 qG.out.ms
 have m10:=cc 10 qG.out.ms
 have m11:=cc 11 qG.out.ms
 have m12:=cc 12 qG.out.ms
 have m13:=cc 13 qG.out.ms
 have m14:=cc 14 qG.out.ms
 have m15:=cc 15 qG.out.ms
 exact bodyPost_ret (v:=.agg (Qrj 1 (a:Int) (b:Int) (q:Int) (.slice aov 1 capv))) (by simp[results,results108,go_sem,m0,m1,m2,m3,m4,m5,m6,m7,m8,m9,m10,m11,m12,m13,m14,m15]) rfl ⟨_,rfl,HVF.out,qG.out.rd,qG.out.off⟩
end
end Go.Proofs.YtodlmbfbfaofcaaGreat
