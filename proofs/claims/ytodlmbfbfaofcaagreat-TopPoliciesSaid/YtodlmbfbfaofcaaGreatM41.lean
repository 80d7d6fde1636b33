/- TopPolicies, part 41. -/
import Derived.Test.YtodlmbfbfaofcaaGreatM40
open Go.Proofs.Tryz
namespace Go.Proofs.YtodlmbfbfaofcaaGreat
set_option linter.unusedVariables false
set_option linter.unusedSimpArgs false
set_option maxRecDepth 100000
set_option maxHeartbeats 4000000
section
open Go.RowKit Rw Rh
theorem mput_4 (a b q:Nat) (U:Nat→Nat) (ao:Option Addr) (n cap:Nat) (O:Nat→Nat→Bool) (M:List (Nat×Nat)) (w:World) (h:SetV w (Pl.setv U (.slice ao n cap)) O U M) (ha:a<8) (hb:b<8) (hne:a≠b) (hq:q≤1) (hlen:(Pl.body4 a b q U M).length≤4096) :
  Calls prog 91 #[.agg (Qsu 4 (a:Int) (b:Int) (q:Int) U (.slice ao n cap))] w fun r w'=>∃v',r=.returned (.tuple #[v',.int .i64 0])∧OwnB w.heap.size w' v' (Pl.frame (Pl.body4 a b q U M))∧Below w.heap.size w w':=by
 obtain⟨hx,hy,b1⟩:=zU w (.cells (Qsu 4 (a:Int) (b:Int) (q:Int) U (.slice ao n cap)) 115) (.cells (Qo 0) 41)
 have HX:=zA hx
 have HY:=zA hy
 have HB:=zA b1
 have HSM:Hid (∀n∈[4,a,b,0,q],n≤1099511627776):=zA (by intro n hn;simp at hn;omega)
 have HR:=zA (fun (W:World) (hW:Below w.heap.size w W)=>h.below hW)
 have HRT:=zA (fun (W:World) (hW:Below w.heap.size w W)=>uL W a b q U ao n cap O M (h.below hW) (zL lD lD) (zL lD lD) (zL lD lD) lD)
 have qO:=zA hlen
 clear hlen
 clear hx hy b1 h ha hb hne hq
 go_enter_defers func91,ntmps91
 go_wp2_with fail
 generalize (w.alloc (.cells (Qsu 4 (a:Int) (b:Int) (q:Int) U (.slice ao n cap)) 115)).alloc (.cells (Qo 0) 41)=W at *
 refine(HRT.out W HB.out).mono ?_
 rintro r w1 ⟨rfl,hb⟩
 have hx:=(hb.block _ (gsi.1 HX.out).1).trans HX.out
 have HX1:=zA hx
 have HY1:=zA ((hb.block _ (gsi.1 HY.out).1).trans HY.out)
 have HB1:=zA (HB.out.trans (hb.mono HB.out.size))
 clear hb HX HY HB HRT
 have d0:=cc 0 hx
 clear hx
 go_wp2_with fail
 refine(yD rfl).mono ?_
 rintro r w' ⟨rfl,rfl⟩
 go_wp2_with fail
 refine(has_4 _).mono ?_
 rintro r w2 ⟨rfl,hb⟩
 have hp:=heap_alloc_new w2 (.cells Qfc 198)
 have bp:=bn w2 (.cells Qfc 198)
 have hx:=(bp.block _ (gsi.1 ((hb.block _ (gsi.1 HX1.out).1).trans HX1.out)).1).trans ((hb.block _ (gsi.1 HX1.out).1).trans HX1.out)
 have HXP:=zA hx
 have HYP:=zA ((bp.block _ (gsi.1 ((hb.block _ (gsi.1 HY1.out).1).trans HY1.out)).1).trans ((hb.block _ (gsi.1 HY1.out).1).trans HY1.out))
 have HPP:=zA hp
 have hbp:=HB1.out.trans ((hb.trans (bp.mono hb.size)).mono HB1.out.size)
 have HBP:=zA hbp
 have hsz:=zG w2 (.cells Qfc 198)
 clear d0 hb bp HX1 HY1 HB1 hp
 have d0:=cc 0 hx
 have d1:=cc 1 hx
 have d2:=cc 2 hx
 have d15:=cc 15 hx
 have qM:Hid (OwnR kInt (w2.alloc (.cells Qfc 198)).heap.size ((w2.alloc (.cells Qfc 198)).alloc (.cells #[.int .i64 4,.int .i64 a,.int .i64 b,.int .i64 0] 3)) (.slice (some ⟨(w2.alloc (.cells Qfc 198)).heap.size,0,none⟩) 4 4) [(4:Int),(a:Int),(b:Int),(0:Int)]):=zA (tX kInt (w2.alloc (.cells Qfc 198)) (w2.alloc (.cells Qfc 198)).heap.size [(4:Int),(a:Int),(b:Int),(0:Int)] #[.int .i64 4,.int .i64 a,.int .i64 b,.int .i64 0] 4 (Nat.le_refl _) rfl lF (by simp[Rk.encs,kInt]))
 have HBQ:=zA ((Below.refl (w2.alloc (.cells Qfc 198)).heap.size (w2.alloc (.cells Qfc 198))).alloc (Nat.le_refl _) (.cells #[.int .i64 4,.int .i64 a,.int .i64 b,.int .i64 0] 3))
 have e15:=cc 15 (zC hx HBQ.out)
 have HX3:=zA (zC hx HBQ.out)
 have HY3:=zA (zC HYP.out HBQ.out)
 have HP3:=zA (zC HPP.out HBQ.out)
 clear hx hbp hsz
 go_wp2_with fail
 obtain⟨Wp,hWp⟩:∃Wp,Wp=w2.alloc (.cells Qfc 198):=⟨_,rfl⟩
 have hwsz:Wp.heap.size=w2.heap.size+1:=by rw[hWp];exact zG _ _
 rw[←hWp]at HXP HYP HPP HBP d0 d1 d2 d15 qM HBQ e15 HX3 HY3 HP3 ⊢
 clear hWp d0 d1 d2 d15 e15
 have HRW0:Hid (OwnR kInt Wp.heap.size (Wp.alloc (.cells #[.int .i64 4,.int .i64 a,.int .i64 b,.int .i64 0] 3)) (.slice (some ⟨w2.heap.size+1,0,none⟩) 4 4) [(4:Int),(a:Int),(b:Int),(0:Int)]):=zA (by have h:=qM.out;rw[hwsz]at h ⊢;exact h)
 clear hwsz qM
 generalize Wp.alloc (.cells #[.int .i64 4,.int .i64 a,.int .i64 b,.int .i64 0] 3)=W3 at *
 have HXW:=zA (fun (W:World) (hW:Below Wp.heap.size Wp W)=>(hW.block _ (gsi.1 HXP.out).1).trans HXP.out)
 have HYW:=zA (fun (W:World) (hW:Below Wp.heap.size Wp W)=>(hW.block _ (gsi.1 HYP.out).1).trans HYP.out)
 have HPW:=zA (fun (W:World) (hW:Below Wp.heap.size Wp W)=>(hW.block _ (gsi.1 HPP.out).1).trans HPP.out)
 clear HXP HYP HPP HX3 HY3 HP3
 refine wp_loop_rounds 1 ?_
 rw[rounds_succ]
 have hxw:=HXW.out W3 HBQ.out
 have hpw:=HPW.out W3 HBQ.out
 have pp0:=cc 0 hpw
 have pp1:=cc 1 hpw
 have xx3:=cc 3 hxw
 clear hxw hpw
 have bb:=bn W3 (.cells (Qo (q:Int)) 3)
 have HSR2:=zA (yK kInt W3 [(q:Int)] (Qo (q:Int)) 1 rfl (by simp[Rk.encs,kInt]))
 have qG:=zA (HRW0.out.below bb)
 have HBW2:=zA (HBQ.out.trans (bb.mono HBQ.out.size))
 clear bb
 go_wp2_with (
  at_builtin
  refine yU kInt rfl (.tmp 47) (.tmp 50) rfl rfl qG.out rfl HSR2.out (by simp) HBW2.out HBW2.out.size ?_
  intro v5 Wq hown1 hb1 hg0
  obtain⟨ao5,cap5,rfl⟩:=hown1.toT.form
  have HV5:=zA hown1
  have HB5:=zA hb1
  clear hown1 hg0 pp0 pp1 xx3
  have hxw:=HXW.out Wq hb1
  have hpw:=HPW.out Wq hb1
  have pp0:=cc 0 hpw
  have pp1:=cc 1 hpw
  have xx3:=cc 3 hxw
  clear hxw hpw
  clear hb1)
 clear pp0 pp1 xx3
 have HVV:Hid (RowC kInt Wq (.slice ao5 5 cap5) (Pl.toInts [4,a,b,0,q])):=zA (show _ from HV5.out.toT.toC)
 generalize hns:[4,a,b,0,q]=ns at *
 have HNS:=zA hns
 have HLN:=zA (show ns.length=5 by rw[←hns];rfl)
 clear hns
 go_loopw [8,61] (fun v i wr=>∃(k:Nat),k≤5∧i=.int .i64 k∧OwnB Wq.heap.size wr v (Pl.vints (ns.take k))∧Below Wq.heap.size Wq wr) (fun _ i _=>5 - (intOf i).toNat)
 case atStart=>exact⟨0,by omega,rfl,xO _ _,Below.refl _ _⟩
 case round=>
  obtain⟨k,hk,rfl,hO,hb⟩:=hrel
  by_cases hlt0:k<5
  ·have hlt:k<ns.length:=by rw[HLN.out];exact hlt0
   have pF:k<(Pl.toInts ns).length:=by unfold Pl.toInts;simpa using hlt
   obtain⟨g2,off2,cap3,e,hg2,hc⟩:=(HVV.out.below hb).cell pF
   rw[show(Pl.toInts ns).length=5 from by unfold Pl.toInts;rw[List.length_map];exact HLN.out]at e
   cases e
   have a1:(k:Int)+1≤9223372036854775807:=by omega
   have a0:(k:Int)<5:=by omega
   exact oI
  ·obtain rfl:k=5:=by omega
   rw[show ns.take 5=ns from by rw[←HLN.out,List.take_length]]at hO
   have HO5:=zA hO
   have HB6:=zA (HB5.out.trans (hb.mono HB5.out.size))
   have HQ6:=zA hb
   have HVL:=zA (show(Pl.vints ns).length≤48 by have:=Pl.vints_len ns (fun n hn=>HSM.out n hn);rw[HLN.out]at this;omega)
   clear hO hb hlt0 hk
   have hpw:=HPW.out wr HB6.out
   have pp2:=cc 2 hpw
   have pp3:=cc 3 hpw
   clear hpw
   have hy:=HYW.out wr HB6.out
   have ce:=cc 0 hy
   have fe:=zB hy 0
   have hid:wr.setCell ⟨w.heap.size+1,0,none⟩ (.int .i64 0)=wr:=zN hy (j:=0) (v:=.int .i64 0) rfl
   clear hy
   have hxw:=HXW.out wr HB6.out
   have xx0:=cc 0 hxw
   have xx1:=cc 1 hxw
   have xx2:=cc 2 hxw
   have xx3:=cc 3 hxw
   have xx4:=cc 4 hxw
   have xx5:=cc 5 hxw
   have xx6:=cc 6 hxw
   have xx7:=cc 7 hxw
   have xx8:=cc 8 hxw
   have xx9:=cc 9 hxw
   have xx10:=cc 10 hxw
   have xx11:=cc 11 hxw
   have xx12:=cc 12 hxw
   have xx13:=cc 13 hxw
   have xx14:=cc 14 hxw
   have xx15:=cc 15 hxw
   clear hxw
   go_wp2_with fail
   refine(seen_4 _ _ _ U ao n cap _).mono ?_
   rintro r w6 ⟨rfl,hb⟩
   have HB7:=zA (HB6.out.trans (hb.mono HB6.out.size))
   have HOS:=zA (HO5.out.below hb)
   have HQ7:=zA (HQ6.out.trans (hb.mono HQ6.out.size))
   have HPT:=zA (put_set_ok _ O U M w6 (HR.out w6 (HBP.out.trans (HB7.out.mono HBP.out.size))))
   clear hb xx0 xx1 xx2 xx3 xx4 xx5 xx6 xx7 xx8 xx9 xx10 xx11 xx12 xx13 xx14 xx15 ce fe hid pp2 pp3
   go_wp2_with fail
   refine HPT.out.mono ?_
   rintro r wz ⟨vr,rfl,hor,hb⟩
   have HBR:=zA (HB7.out.trans (hb.mono HB7.out.size))
   have HQR:=zA (HQ7.out.trans (hb.mono HQ7.out.size))
   have HOR:=zA (HOS.out.below hb)
   have HRS:=zA hor
   have hpw:=HPW.out wz HBR.out
   have pp2:=cc 2 hpw
   have pp3:=cc 3 hpw
   clear hb hor hpw HPT HOS HB7
   have hy:=HYW.out wz HBR.out
   have ce:=cc 0 hy
   have fe:=zB hy 0
   have hid:wz.setCell ⟨w.heap.size+1,0,none⟩ (.int .i64 0)=wz:=zN hy (j:=0) (v:=.int .i64 0) rfl
   clear hy
   go_wp2_with fail
   refine(yD rfl).mono ?_
   rintro r w' ⟨rfl,rfl⟩
   clear ce fe hid
   go_wp2_with (
    at_builtin
    refine xF rfl (.tmp 98) (.tmp 99) rfl rfl HOR.out rfl HRS.out.toT.toC (by have:=HVL.out;have:=qO.out;unfold Pl.body4 at this;rw[List.length_append]at this;omega) HQR.out HQR.out.size ?_
    intro v6 w6 hown6 hb6 hg6
    have pZ:=zA (HB5.out.trans (hb6.mono HB5.out.size))
    have HFP:=zA (tJ v6 _ w6 hown6.toT.toC (by rw[←HNS.out];exact qO.out))
    clear hown6 hb6 hg6)
   exact oT
theorem MtI.gave {w0:World} {ob:Obj} {all:Pl.Al} {x y:AgD} {A0 B0:List Pl.Ev} {n n':Nat} {ms ms':List Mq} {W W1 W2:World} (h:MtI w0 ob all x y A0 B0 n ms W) (h2:Two w0 all x y A0 B0) (hb:Below W.heap.size W W1) {Ea Eb:List Pl.Ev} {ca cb:Int} (ho:Off (fun g=>x.bk g∨y.bk g) W1 W2) (hx:x.At all W2 Ea ca) (hy:y.At all W2 Eb cb) (hp:Phase W2 all x.c.n y.c.n A0 B0 Ea Eb ms' n'):MtI w0 ob all x y A0 B0 n' ms' W2:=by
 have h1:=h.below h2 hb
 refine⟨h1.off.trans ho,(ho.same _ (gsi.1 h1.op).1 (fun hd=>?_)).trans h1.op,Ea,Eb,ca,cb,hx,hy,hp⟩
 rcases hd with hd | hd
 ·have:=h2.lt.1 _ (AgD.bk_all hd);omega
 ·have:=h2.lt.2 _ (AgD.bk_all hd);omega
theorem MtI.at8 {w0:World} {ob:Obj} {all:Pl.Al} {x y:AgD} {A0 B0:List Pl.Ev} {n:Nat} {ms:List Mq} {W:World} (h:MtI w0 ob all x y A0 B0 n ms W):x.c.n<8∧y.c.n<8:=by
 obtain⟨_,_,_,_,hx,hy,_⟩:=h.ag
 obtain⟨_,_,_,_,hx⟩:=hx
 obtain⟨_,_,_,_,hy⟩:=hy
 exact⟨hx.go.n8,hy.go.n8⟩
def Step (w0:World) (ob:Obj) (all:Pl.Al) (x y:AgD) (A0 B0:List Pl.Ev) (n:Nat) (m:Mq) (ms:List Mq) (W:World):Prop:=
 ∃pt:Nat,((m.b=x.c.n∧pt=x.p.a)∨(m.b=y.c.n∧pt=y.p.a))∧Calls prog 91 #[.agg (Qx m.k m.a m.b m.q m.n m.u0 m.u1 m.u2 m.u3 m.u4 m.u5 m.u6 m.u7 (.slice m.mo.1 m.mo.2.1 m.mo.2.2) (.slice m.ev.1 m.ev.2.1 m.ev.2.2) (.slice m.me.1 m.me.2.1 m.me.2.2))] W fun r W1=>
  ∃v,r=.returned (.tuple #[v,.int .i64 0])∧Below W.heap.size W W1∧∀W1',Below W1.heap.size W1 W1'→Calls prog 12 #[Qp pt,v] W1' fun r W2=>Got w0 ob all x y A0 B0 n ms W1' r W2
theorem mt_step {w0:World} {ob:Obj} {all:Pl.Al} {x y:AgD} {A0 B0:List Pl.Ev} {n:Nat} {m:Mq} {ms:List Mq} {W:World} (h:MtI w0 ob all x y A0 B0 n (m::ms) W) (h2:Two w0 all x y A0 B0):Step w0 ob all x y A0 B0 n m ms W:=by
 obtain⟨hx8,hy8⟩:=h.at8
 obtain⟨Ea,Eb,ca,cb,hx,hy,hp⟩:=h.ag
 have hne:=h2.ne
 have hl:=h2.lot
 rcases hp with⟨m',h1,hd,rfl,rfl,hn⟩ | ⟨dms,parts,tail,h1,hd,hpt,hiff,rfl,htl⟩ | ⟨parts,hd,hpa,hia,hpt,hiff,hn⟩
 ·cases h1
  obtain⟨O,U,M,ao,cap,rfl,hs,hO⟩:=hd
  obtain⟨_,_,_,hc⟩:=id hs
  have hM:M.length≤80:=Pl.more_len hl hc hO.2
  refine⟨y.p.a,.inr ⟨rfl,rfl⟩,(mput_4 x.c.n y.c.n 0 U ao M.length cap O M W hs hx8 hy8 hne lD (Pl.body4_fit hx8 hy8 lD hc hM)).mono ?_⟩
  rintro r W0 ⟨v',rfl,hv0,hb0⟩
  refine⟨v',rfl,hb0,fun W1 hb1=>?_⟩
  have hb:=hb0.trans (hb1.mono hb0.size)
  have hv:=hv0.below hb1
  obtain⟨er,sd,here,hks,hya⟩:=hy.below hb
  refine(aon_40 y.F y.p y.c y.size y.bs y.used y.upto y.own sd er cb x.c.n O U M v' W1 hya hv.bs hx8 hne hc (Pl.body4_fit hx8 hy8 lD hc hM) (by have:=h2.pb.cod hl;rw[←here,xH (Pl.abs_abs er)]at this;omega)).mono ?_
  rintro r W2 ⟨v2,ms',parts,rfl,hd,hpm,hnz,hb2,tail,how,htl⟩
  have hpm:=hpm.fl
  rw[here]at hpm
  obtain⟨ao2,cap2,rfl⟩:=how.toT.form
  obtain⟨hpt,hiff⟩:=Pl.Subs.more hl h2.pa h2.pb hO.1 hpm
  have hpl:=Pl.parts_len (fun p hp=>(hnz p hp).1)
  have hfl:=hpt.right.len hl
  have hml:=hd.1
  have htt:tail.length≤1∧∀m∈tail,m.b=x.c.n:=by
   rcases htl with⟨rfl,_⟩ | ⟨O',U',M',ao',cap',rfl,_⟩
   ·exact⟨by simp,(fun m hm=>by cases hm)⟩
   ·exact⟨by simp,fun m hm=>by cases List.mem_singleton.1 hm;rfl⟩
  refine⟨ao2,cap2,ms'++tail,rfl,how.toT,by rw[List.length_append];omega,fun m hm=>.inl ((List.mem_append.1 hm).elim (hd.to m) (htt.2 m)),fun g cs fr hg=>hb2.block g (gsi.1 hg).1,hb2.size,parts.length+200,by omega,?_⟩
  refine h.gave h2 hb (Off.of_below hb2) ((hx.below hb).below hb2) ((hy.below hb).below hb2) (.inr (.inl ⟨ms',parts,tail,rfl,hd,hpt,hiff,rfl,?_⟩))
  rcases htl with⟨rfl,qF⟩ | ⟨O',U',M',ao',cap',rfl,hs',hO'⟩
  ·refine .inl ⟨rfl,fun e he=>?_,by omega⟩
   exact(hks.1 e (h2.pa.2 e he)).1 (qF e.at.1 e.at.2 ((hO.1 e (h2.pa.2 e he)).2 he))
  ·exact .inr ⟨_,rfl,⟨O',U',M',ao',cap',rfl,hs',fun e he=>(hO' _ _).trans (hks.1 e he),fun d hd=>hks.2 d ((hO' _ _).1 hd)⟩,by omega⟩
 ·cases dms with
  | cons d dr=>
   cases h1
   obtain⟨p,rest,ao,cap,rfl,rfl,hr,hri,hd'⟩:=hd.uncons
   rw[Pl.fl_cons,←List.append_assoc]at hpt
   have hpp:=hpt.left.right
   have hp8:=hpp.len hl
   have hpc:=hpp.cod hl
   rw[List.length_map]at hp8
   rw[xH (Pl.abs_abs p)]at hpc
   have hpo:∀e∈p,e.Ok:=fun e he=>(hri e he).ok (e:=e.abs) rfl (hpp.ok hl e.abs (List.mem_map.2 ⟨e,he,rfl⟩))
   have hb5:=Pl.body5_fit (a:=y.c.n) (b:=x.c.n) hy8 hx8 hp8 hpc
   refine⟨x.p.a,.inl ⟨rfl,rfl⟩,(mput_5 y.c.n x.c.n ao cap p W hr.toC lD hpo hri hy8 hx8 (Ne.symm hne) hb5).mono ?_⟩
   rintro r W0 ⟨v',rfl,hv0,hb0⟩
   refine⟨v',rfl,hb0,fun W1 hb1=>?_⟩
   have hb:=hb0.trans (hb1.mono hb0.size)
   have hv:=hv0.below hb1
   have hx1:x.At all W1 Ea ca:=hx.below hb
   have hy1:y.At all W1 Eb cb:=hy.below hb
   obtain⟨er,sd,rfl,hks,hxa⟩:=id hx1
   obtain⟨hfr,hge,hkg⟩:=Pl.Kn.got hl hks hpt.left
   refine(aon_5 x.F x.p x.c x.size x.bs x.used x.upto x.own sd er ca y.c.n p v' W1 hxa hv.bs hy8 (Ne.symm hne) hpo hb5 (by have:=hpt.left.len hl;rw[List.length_append,List.length_map,List.length_map]at this;omega) hfr).mono ?_
   rintro r W2 ⟨rfl,⟨cl,er',her,hx'⟩,hof⟩
   rw[hge]at her
   have pH:Off x.bk W1 W2:=hof
   have hn:1≤n:=by rcases htl with⟨_,_,h8⟩ | ⟨_,_,_,h8⟩<;>simp at h8<;>omega
   refine⟨none,0,[],rfl,tH kMsg W2,by simp,(fun m hm=>by cases hm),fun g cs fr hg=>hx1.calm pH hg lF,hof.size,n - 1,by omega,?_⟩
   rw[List.append_nil]
   refine h.gave h2 hb (pH.mono (fun g _ hg=>.inl hg)) (show x.At all W2 (er.map Pl.Ev.abs++p.map Pl.Ev.abs) cl from⟨er',_,(show er'.map Pl.Ev.abs=_ from her).trans List.map_append,hkg,hx'⟩) (hy1.keep hof.size (fun g hg=>pH.same g (hy1.lt hg) (fun hd=>h2.sep g (AgD.bk_all hd) hg)) (hx1.kd pH)) (.inr (.inl ⟨dr,rest,tail,rfl,(hd'.below hb).keep (fun g cs fr hg=>hx1.calm pH hg lF) (hx1.kd pH),hpt,?_,rfl,?_⟩))
   ·intro e
    rw[←hiff e,Pl.fl_cons,List.append_assoc]
   ·rcases htl with⟨e1,h7,h8⟩ | ⟨m',e1,h7,h8⟩
    ·exact .inl ⟨e1,h7,by simp at h8;omega⟩
    ·exact .inr ⟨m',e1,(h7.keep (fun g cs fr hg=>hb.block g (gsi.1 hg).1)).keep (fun g cs fr hg=>hx1.calm pH hg lF),by simp at h8;omega⟩
  | nil=>
   cases hd.empty
   rw[List.nil_append]at h1
   rcases htl with⟨rfl,_⟩ | ⟨m',rfl,hg,hn⟩
   ·cases h1
   cases h1
   rw[Pl.fl,List.flatten_nil,List.map_nil,List.append_nil]at hpt
   simp only[Pl.fl,List.flatten_nil,List.map_nil,List.append_nil]at hiff
   obtain⟨O,U,M,ao,cap,rfl,hs,hO⟩:=hg
   obtain⟨_,_,_,hc⟩:=id hs
   have hM:M.length≤80:=Pl.more_len hl hc hO.2
   refine⟨x.p.a,.inl ⟨rfl,rfl⟩,(mput_4 y.c.n x.c.n 1 U ao M.length cap O M W hs hy8 hx8 (Ne.symm hne) lD (Pl.body4_fit hy8 hx8 lD hc hM)).mono ?_⟩
   rintro r W0 ⟨v',rfl,hv0,hb0⟩
   refine⟨v',rfl,hb0,fun W1 hb1=>?_⟩
   have hb:=hb0.trans (hb1.mono hb0.size)
   have hv:=hv0.below hb1
   obtain⟨er,sd,here,hks,hxa⟩:=hx.below hb
   refine(aon_41 x.F x.p x.c x.size x.bs x.used x.upto x.own sd er ca y.c.n O U M v' W1 hxa hv.bs hy8 (Ne.symm hne) hc (Pl.body4_fit hy8 hx8 lD hc hM) (by have:=hpt.cod hl;rw[←here,xH (Pl.abs_abs er)]at this;omega)).mono ?_
   rintro r W2 ⟨v2,ms',parts,rfl,hd,hpm,hnz,hb2,how⟩
   have hpm:=hpm.fl
   rw[here]at hpm
   obtain⟨ao2,cap2,rfl⟩:=how.toT.form
   obtain⟨hpt2,hiff2⟩:=Pl.Subs.more hl h2.pb hpt hO.1 hpm
   have hpl:=Pl.parts_len (fun p hp=>(hnz p hp).1)
   have hfl:=hpt2.right.len hl
   have hml:=hd.1
   refine⟨ao2,cap2,ms',rfl,how.toT,by omega,fun m hm=>.inr (hd.to m hm),fun g cs fr hg=>hb2.block g (gsi.1 hg).1,hb2.size,parts.length,by simp at hn;omega,?_⟩
   rw[List.nil_append]
   refine h.gave h2 hb (Off.of_below hb2) ((hx.below hb).below hb2) ((hy.below hb).below hb2) (.inr (.inr ⟨parts,hd,hpt,hiff,hpt2,fun e=>?_,Nat.le_refl _⟩))
   rw[hiff2 e,hiff e]
   exact⟨fun h=>h.elim .inr id,.inr⟩
 ·obtain⟨p,rest,ao,cap,rfl,rfl,hr,hri,hd'⟩:=hd.uncons
  rw[Pl.fl_cons,←List.append_assoc]at hpt
  have hpp:=hpt.left.right
  have hp8:=hpp.len hl
  have hpc:=hpp.cod hl
  rw[List.length_map]at hp8
  rw[xH (Pl.abs_abs p)]at hpc
  have hpo:∀e∈p,e.Ok:=fun e he=>(hri e he).ok (e:=e.abs) rfl (hpp.ok hl e.abs (List.mem_map.2 ⟨e,he,rfl⟩))
  have hb5:=Pl.body5_fit (a:=x.c.n) (b:=y.c.n) hx8 hy8 hp8 hpc
  refine⟨y.p.a,.inr ⟨rfl,rfl⟩,(mput_5 x.c.n y.c.n ao cap p W hr.toC lD hpo hri hx8 hy8 hne hb5).mono ?_⟩
  rintro r W0 ⟨v',rfl,hv0,hb0⟩
  refine⟨v',rfl,hb0,fun W1 hb1=>?_⟩
  have hb:=hb0.trans (hb1.mono hb0.size)
  have hv:=hv0.below hb1
  have hx1:x.At all W1 Ea ca:=hx.below hb
  have hy1:y.At all W1 Eb cb:=hy.below hb
  obtain⟨er,sd,rfl,hks,hya⟩:=id hy1
  obtain⟨hfr,hge,hkg⟩:=Pl.Kn.got hl hks hpt.left
  refine(aon_5 y.F y.p y.c y.size y.bs y.used y.upto y.own sd er cb x.c.n p v' W1 hya hv.bs hx8 hne hpo hb5 (by have:=hpt.left.len hl;rw[List.length_append,List.length_map,List.length_map]at this;omega) hfr).mono ?_
  rintro r W2 ⟨rfl,⟨cl,er',her,hy'⟩,hof⟩
  rw[hge]at her
  have pH:Off y.bk W1 W2:=hof
  simp at hn
  refine⟨none,0,[],rfl,tH kMsg W2,by simp,(fun m hm=>by cases hm),fun g cs fr hg=>hy1.calm pH hg lF,hof.size,n - 1,by omega,?_⟩
  rw[List.append_nil]
  refine h.gave h2 hb (pH.mono (fun g _ hg=>.inr hg)) (hx1.keep hof.size (fun g hg=>pH.same g (hx1.lt hg) (fun hd=>h2.sep g hg (AgD.bk_all hd))) (hy1.kd pH)) (show y.At all W2 (er.map Pl.Ev.abs++p.map Pl.Ev.abs) cl from⟨er',_,(show er'.map Pl.Ev.abs=_ from her).trans List.map_append,hkg,hy'⟩) (.inr (.inr ⟨rest,(hd'.below hb).keep (fun g cs fr hg=>hy1.calm pH hg lF) (hy1.kd pH),hpa,hia,hpt,?_,by omega⟩))
  intro e
  rw[←hiff e,Pl.fl_cons,List.append_assoc]
theorem uY {P:Program} {w w':World} {ops:Array Oper} {rest:List Oper} {o:Oper} {a:Act} {Q:Exit→Act→World→Prop} (hgd:o.guard=none) (v:Value) (hr:(execOp a.eval o).run P w=.ok (.value v) w') (h:wpList P ops Q rest (a.put o.dst v) w'):wpList P ops Q (o::rest) a w:=by
 refine wpList_plain hgd fun K hK'=>?_
 unfold Oper.wp
 simp[hr]
 exact hK' _ _ h
theorem run_cut (K:Nat) {o:Oper} {a:Act} {w:World} (s:Operand) (ho:o.op=.slice 62 s (some (.const (.int .i64 1))) none none) {ao:Option Addr} {n cap:Nat} (hs:a.eval s=.slice ao (n+1) cap):(execOp a.eval o).run prog w=.ok (.value (.slice (cutK ao cap 1 16) n (cap - 1))) w:=by
 obtain⟨i5,hi5,z0,z1,z2⟩:=info_parts kMsg.hi
 have hu:prog.underlying 62=some (.slice 115):=kMsg.hu
 have hi:prog.info? 115=some i5:=hi5
 have z1':i5.size=16:=z1
 have h0:(0:Int)≤1:=by decide
 have h1:(1:Int)≤((n+1:Nat):Int):=by omega
 have hc:a.eval (.const (.int .i64 1))=.int .i64 1:=rfl
 simp[execOp,ho,hs,hc,Instr.slice,Instr.sliceAt,run_underlying hu,Instr.sliceBounds,Instr.sliceBound,asIntOf,sizeOf,typeInfo,hi,z1',cutK,h1]
 intro h
 omega
theorem run_app {o:Oper} {a:Act} {w w':World} (s x:Operand) (ho:o.op=.call {callee:=.builtin .append,args:=#[s,x],argTypes:=#[62,62]}) {v u v':Value} (hs:a.eval s=v) (hx:a.eval x=u) (hr:(Builtin.append_ #[62,62] o.type #[v,u]).run prog w=.ok v' w'):(execOp a.eval o).run prog w=.ok (.value v') w':=by
 simp[execOp,ho,resolve,invoke,builtin,hs,hx,hr,Result.andThen]
theorem WdAt.off {w w':World} {W P:Nat} {wc:Wc} {d r:Nat→Value} {D:Nat→Prop} (h:WdAt w W P wc d r) (ho:Off D w w') (hD:∀g,D g→g≠W∧g≠P):WdAt w' W P wc d r:=
 h.keep (fun g hg=>ho.same g (hg.elim (fun e=>e ▸ h.lt.1) (fun e=>e ▸ h.lt.2)) (fun hd=>by have h2:=hD g hd;exact hg.elim h2.1 h2.2))
theorem wmeet_ok (W P:Nat) (wc:Wc) (d r:Nat→Value) (C q0 q1 q2 q3 q4 q5 q6:Int) (all:Pl.Al) (x y:AgD) (A0 B0:List Pl.Ev) (w:World) (h:WdAt w W P wc d r) (hx:x.c.n<wc.n) (hy:y.c.n<wc.n)
  (hrx:r x.c.n=.pointer (some ⟨x.p.a,0,none⟩)) (hry:r y.c.n=.pointer (some ⟨y.p.a,0,none⟩)) (h2:Two w all x y A0 B0) (ha:∃c,x.At all w A0 c) (hb:∃c,y.At all w B0 c) (hw:∀g,x.all g∨y.all g→g≠W∧g≠P) :
  Calls prog 34 #[Qp W,.agg (Qk 15 (x.c.n:Int) (y.c.n:Int) C q0 q1 q2 q3 q4 q5 q6)] w fun e w'=>e=.returned (.tuple #[])∧Off (fun g=>x.bk g∨y.bk g) w w'∧∃Ea Eb ca cb,x.At all w' Ea ca∧y.At all w' Eb cb∧(Pl.Subs all Ea∧∀e,e∈Ea↔e∈A0∨e∈B0)∧Pl.Subs all Eb∧∀e,e∈Eb↔e∈A0∨e∈B0:=by
 obtain⟨ca,ha⟩:=ha
 obtain⟨cb,hb⟩:=hb
 have b0:=bn w (.cells (Qk 15 (x.c.n:Int) (y.c.n:Int) C q0 q1 q2 q3 q4 q5 q6) 43)
 have ho:=heap_alloc_new w (.cells (Qk 15 (x.c.n:Int) (y.c.n:Int) C q0 q1 q2 q3 q4 q5 q6) 43)
 have x1:=cc 1 ho
 have x2:=cc 2 ho
 have h1:=h.below b0
 have HRU:=zA (vF W P wc d r x.c.n _ _ h1 hx hrx)
 have HRV:=zA (vF W P wc d r y.c.n _ _ h1 hy hry)
 have hi:=vZ W P wc d r (y.c.n:Int) _ h1
 have hin:Pl.inside (y.c.n:Int) 0 ((wc.n:Int) - 1)=true:=by unfold Pl.inside;simp;omega
 rw[hin]at hi
 have HI:=zA hi
 have er:=h1.runs hx
 rw[hrx]at er
 have e1:((x.c.n:Int) == (y.c.n:Int))=false:=by have:=h2.ne;simp;omega
 have e2:((x.c.n:Int) != (y.c.n:Int))=true:=by have:=h2.ne;simp;omega
 obtain⟨ea,sda,here,hks,hx0⟩:x.At all (w.alloc (.cells (Qk 15 (x.c.n:Int) (y.c.n:Int) C q0 q1 q2 q3 q4 q5 q6) 43)) A0 ca:=ha.below b0
 have HKS:=zA hks
 have hy8:y.c.n<8:=by
  obtain⟨_,_,_,_,hy0⟩:=hb
  exact hy0.go.n8
 have HG:=zA (agreet_ok x.F x.p x.c x.size x.bs x.used x.upto x.own sda ea ca y.c.n _ hx0 hy8 (Ne.symm h2.ne))
 have H2:=zA h2
 have HW:=zA (And.intro h (And.intro hrx (And.intro hry (And.intro hw (And.intro hx hy)))))
 have HAB:=zA (And.intro ha hb)
 have HO:=zA (And.intro ho b0)
 clear h hx hy hrx hry h2 ha hb hw b0 ho h1 hi hin hx0 here hks hy8
 go_enter func34,ntmps34
 go_wp2_with fail
 refine HRU.out.mono ?_
 rintro e w' ⟨rfl,rfl⟩
 go_wp2_with fail
 refine HI.out.mono ?_
 rintro e w' ⟨rfl,rfl⟩
 go_wp2_with fail
 refine(tO 2 _).mono ?_
 rintro e w' ⟨rfl,rfl⟩
 go_wp2_with fail
 refine HRV.out.mono ?_
 rintro e w' ⟨rfl,rfl⟩
 go_wp2_with fail
 refine HG.out.mono ?_
 rintro e w1 ⟨v,O,U,M,ao,cap,rfl,how,hs,hH,hb1⟩
 have H0:=zA (show Way kMsg (w.heap.size+1) w1 v [dgq x.c.n y.c.n 0 U (ao,M.length,cap)]∧MtI w (.cells (Qk 15 (x.c.n:Int) (y.c.n:Int) C q0 q1 q2 q3 q4 q5 q6) 43) all x y A0 B0 2000 [dgq x.c.n y.c.n 0 U (ao,M.length,cap)] w1 from by
  rw[zG]at how
  refine⟨how.way,Off.of_below (HO.out.2.trans (hb1.mono HO.out.2.size)),zC HO.out.1 hb1,A0,B0,ca,cb,HAB.out.1.below (HO.out.2.trans (hb1.mono HO.out.2.size)),HAB.out.2.below (HO.out.2.trans (hb1.mono HO.out.2.size)),.inl ⟨_,rfl,⟨O,U,M,ao,cap,rfl,hs,fun e he=>(hH _ _).trans (HKS.out.1 e he),fun d hd=>HKS.out.2 d ((hH _ _).1 hd)⟩,rfl,rfl,by omega⟩⟩)
 clear how hs hH hb1 HRU HI HRV HG x1 x2 er HAB HO e1 e2 HKS
 go_wp2_with fail
 refine(xY _).mono ?_
 rintro e w' ⟨rfl,rfl⟩
 go_wp2_with fail
 go_loopg [5] 2000 (fun k v wr=>∃ms,k≤2000∧Way kMsg (w.heap.size+1) wr v ms∧MtI w (.cells (Qk 15 (x.c.n:Int) (y.c.n:Int) C q0 q1 q2 q3 q4 q5 q6) 43) all x y A0 B0 k ms wr)
 case atStart=>exact⟨_,Nat.le_refl _,H0.out⟩
 case round=>
  obtain⟨ms,hgk,hway,hI⟩:=hrel
  clear H0
  cases ms with
  | nil=>
   obtain⟨ao',cap',rfl⟩:=hway.1.form
   have HI:=zA hI
   have e0:([]:List Mq).length=0:=rfl
   rw[e0]
   clear hway hI hgk e0
   go_wp2_with fail
   refine yG results34 ⟨rfl,HI.out.off,?_⟩
   obtain⟨Ea,Eb,ca,cb,h1,h2,h3⟩:=HI.out.ag
   exact⟨Ea,Eb,ca,cb,h1,h2,h3.done H2.out.pb⟩
  | cons m ms=>
   obtain⟨g,off,cap',rfl,hg,hc⟩:=hway.1.cell (i:=0) (by simp)
   have b1:=bn wr (.cells (Qx m.k m.a m.b m.q m.n m.u0 m.u1 m.u2 m.u3 m.u4 m.u5 m.u6 m.u7 (.slice m.mo.1 m.mo.2.1 m.mo.2.2) (.slice m.ev.1 m.ev.2.1 m.ev.2.2) (.slice m.me.1 m.me.2.1 m.me.2.2)) 115)
   have hM:=heap_alloc_new wr (.cells (Qx m.k m.a m.b m.q m.n m.u0 m.u1 m.u2 m.u3 m.u4 m.u5 m.u6 m.u7 (.slice m.mo.1 m.mo.2.1 m.mo.2.2) (.slice m.ev.1 m.ev.2.1 m.ev.2.2) (.slice m.me.1 m.me.2.1 m.me.2.2)) 115)
   have hI1:=hI.below H2.out b1
   obtain⟨pq,hpt,hput⟩:=mt_step hI1 H2.out
   obtain⟨to,hmb,hto,hrt⟩:∃to:Nat,m.b=(to:Int)∧to<wc.n∧r to=.pointer (some ⟨pq,0,none⟩):=by
    rcases hpt with⟨e1,rfl⟩ | ⟨e1,rfl⟩
    ·exact⟨_,e1,HW.out.2.2.2.2.1,HW.out.2.1⟩
    ·exact⟨_,e1,HW.out.2.2.2.2.2,HW.out.2.2.1⟩
   have HLN:=zA (show ms.length≤gk∧gk≤2000 from⟨by have:=hI.len;simp at this;omega,hgk⟩)
   have hwt:Way kMsg (w.heap.size+1) _ (.slice (cutK (some ⟨g,off,none⟩) cap' 1 16) ms.length (cap' - 1)) ms:=(hway.below b1).tail
   obtain⟨k,ma,mb,q,mn,u0,u1,u2,u3,u4,u5,u6,u7,⟨o0,o1,o2⟩,⟨p0,p1,p2⟩,⟨e0,e1,e2⟩⟩:=m
   dsimp only at *
   subst hmb
   have c0:wr.cell? ⟨g,off,none⟩=some (.int .i64 k):=by have:=hc 0 (.int .i64 k) rfl;simpa using this
   have c1:wr.cell? ⟨g,off+1,none⟩=some (.int .i64 ma):=by have:=hc 1 (.int .i64 ma) rfl;simpa using this
   have c2:wr.cell? ⟨g,off+2,none⟩=some (.int .i64 to):=by have:=hc 2 (.int .i64 to) rfl;simpa using this
   have c3:wr.cell? ⟨g,off+3,none⟩=some (.int .i64 q):=by have:=hc 3 (.int .i64 q) rfl;simpa using this
   have c4:wr.cell? ⟨g,off+4,none⟩=some (.int .i64 mn):=by have:=hc 4 (.int .i64 mn) rfl;simpa using this
   have c5:wr.cell? ⟨g,off+5,none⟩=some (.int .i64 u0):=by have:=hc 5 (.int .i64 u0) rfl;simpa using this
   have c6:wr.cell? ⟨g,off+6,none⟩=some (.int .i64 u1):=by have:=hc 6 (.int .i64 u1) rfl;simpa using this
   have c7:wr.cell? ⟨g,off+7,none⟩=some (.int .i64 u2):=by have:=hc 7 (.int .i64 u2) rfl;simpa using this
   have c8:wr.cell? ⟨g,off+8,none⟩=some (.int .i64 u3):=by have:=hc 8 (.int .i64 u3) rfl;simpa using this
   have c9:wr.cell? ⟨g,off+9,none⟩=some (.int .i64 u4):=by have:=hc 9 (.int .i64 u4) rfl;simpa using this
   have c10:wr.cell? ⟨g,off+10,none⟩=some (.int .i64 u5):=by have:=hc 10 (.int .i64 u5) rfl;simpa using this
   have c11:wr.cell? ⟨g,off+11,none⟩=some (.int .i64 u6):=by have:=hc 11 (.int .i64 u6) rfl;simpa using this
   have c12:wr.cell? ⟨g,off+12,none⟩=some (.int .i64 u7):=by have:=hc 12 (.int .i64 u7) rfl;simpa using this
   have c13:wr.cell? ⟨g,off+13,none⟩=some (.slice o0 o1 o2):=by have:=hc 13 (.slice o0 o1 o2) rfl;simpa using this
   have c14:wr.cell? ⟨g,off+14,none⟩=some (.slice p0 p1 p2):=by have:=hc 14 (.slice p0 p1 p2) rfl;simpa using this
   have c15:wr.cell? ⟨g,off+15,none⟩=some (.slice e0 e1 e2):=by have:=hc 15 (.slice e0 e1 e2) rfl;simpa using this
   have el:((⟨k,ma,(to:Int),q,mn,u0,u1,u2,u3,u4,u5,u6,u7,(o0,o1,o2),(p0,p1,p2),(e0,e1,e2)⟩:Mq)::ms).length=ms.length+1:=rfl
   rw[el]
   have HC:=zA hwt
   have HM:=zA hM
   have HB1:=zA b1
   have HP:=zA hput
   have HT:=zA (And.intro hto hrt)
   have HOFF:=zA (hI.off.trans (Off.of_below b1))
   clear hwt hM b1 hput hto hrt hway hI hI1 hc hpt el hgk
   go_wp2_with (first
    | refine zJ rfl 115 (.tmp 7) (.tmp 49) Qnn (Qx k ma (to:Int) q mn u0 u1 u2 u3 u4 u5 u6 u7 (.slice o0 o1 o2) (.slice p0 p1 p2) (.slice e0 e1 e2)) rfl rfl _ rfl rfl rfl lE rfl lE rfl ?_
    | refine uY rfl _ (run_cut 0 (.tmp 50) rfl rfl) ?_
    | refine zI rfl 115 (.tmp 7) wr.heap.size (Qx k ma (to:Int) q mn u0 u1 u2 u3 u4 u5 u6 u7 (.slice o0 o1 o2) (.slice p0 p1 p2) (.slice e0 e1 e2)) 115 (0,0) _ rfl rfl HM.out underlying115 rfl lE ?_)
   clear c0 c1 c2 c3 c4 c5 c6 c7 c8 c9 c10 c11 c12 c13 c14 c15
   generalize Value.slice (cutK (some ⟨g,off,none⟩) cap' 1 16) ms.length (cap' - 1)=v5 at *
   have hC7:=HC.out
   generalize hW7:World.alloc wr (.cells (Qx k ma (to:Int) q mn u0 u1 u2 u3 u4 u5 u6 u7 (.slice o0 o1 o2) (.slice p0 p1 p2) (.slice e0 e1 e2)) 115)=W7 at *
   clear hW7
   refine HP.out.mono ?_
   rintro e W8 ⟨v8,rfl,hb8,hon⟩
   have HC8:=zA (HC.out.below hb8)
   have HM8:=zA (zC HM.out hb8)
   have HOFF8:=zA (HOFF.out.trans (Off.of_below hb8))
   have HON:=zA hon
   clear hb8 hon HP HC HM HOFF HB1 hC7
   go_wp2_with fail
   refine(xY _).mono ?_
   rintro e w' ⟨rfl,rfl⟩
   go_wp2_with fail
   have hw8:WdAt W8 W P wc d r:=HW.out.1.off HOFF8.out (fun g hg=>HW.out.2.2.2.1 g (hg.imp AgD.bk_all AgD.bk_all))
   refine zD (fun W'=>WdAt W' W P wc d r∧W'.heap[wr.heap.size]?=some (.cells (Qx k ma (to:Int) q mn u0 u1 u2 u3 u4 u5 u6 u7 (.slice o0 o1 o2) (.slice p0 p1 p2) (.slice e0 e1 e2)) 115 (0,0))) 99 lE ⟨hw8.below (Below.refl _ _).drew,HM8.out⟩ (fun qB=>?_)
   refine tkp 0 60 rfl ?_
   refine tkp 1 61 rfl ?_
   refine tkp 2 62 rfl ?_
   refine tk 3 63 rfl lZ ?_
   refine tkp 4 64 rfl ?_
   refine tk 5 65 rfl lZ ?_
   refine tk 6 66 rfl (by intro wS hSw;have l1:(to:Int)<wc.n:=(by have:=HT.out.1;omega);have l0:¬(to:Int)<0:=(by omega);clear hSw;go_simp;(try with_reducible rfl)) ?_
   refine tkp 7 67 rfl ?_
   refine tk 8 68 rfl lZ ?_
   refine tkp 9 69 rfl ?_
   refine t1 10 rfl (fun K hK=>?_)
   go_simp
   refine(HON.out _ (Below.refl _ _).drew).mono ?_
   rintro e W9 ⟨ao9,cap9,new,rfl,qD,hnl,hnb,hk9,hs9,n',hn',hI9⟩
   have HC9:=zA ((HC8.out.below (Below.refl _ _).drew).keep (w':=W9) hk9)
   have hw9:WdAt W9 W P wc d r:=HW.out.1.off hI9.off (fun g hg=>HW.out.2.2.2.1 g (hg.imp AgD.bk_all AgD.bk_all))
   have hH9:=And.intro hw9 ((hk9 _ _ _ HM8.out).trans HM8.out)
   have HN:=zA (And.intro qD (And.intro hnl (And.intro hnb hn')))
   have HI9:=zA hI9
   clear qD hnl hnb hn' hI9 hw9 hk9 hs9 hw8
   refine hK.out _ _ (fun _=>hH9) (fun _=>?_)
   clear hK K
   try simp only[pt,List.set]
   clear qB
   have qB:=hH9
   refine tkp 11 59 rfl ?_
   refine tkp 12 71 rfl ?_
   refine tkp 13 72 rfl ?_
   refine tkp 14 10 rfl ?_
   refine tkp 15 11 rfl ?_
   refine wd ?_
   clear qB hH9 HC8 HM8 HOFF8 HON HT
   go_wp2_with fail
   refine(keep_all w.heap.size (x.c.n:Int) (y.c.n:Int) C q0 q1 q2 q3 q4 q5 q6 ao9 cap9 new W9 HN.out.1 HI9.out.op HN.out.2.2.1 (by have:=HN.out.2.1;omega)).mono ?_
   rintro e W10 ⟨rfl,hb10⟩
   have HI10:=zA (HI9.out.below H2.out hb10)
   obtain⟨v11,W11,hr11,hw11,ho11⟩:=(HC9.out.below hb10).app (ao:=ao9) (cap:=cap9) (HN.out.1.below hb10) (by have:=HN.out.2.1;have:=HLN.out;omega) (by have:=HI10.out.off.size;have:=(gsi.1 HI10.out.op).1;omega) 62
   have HR:=zA hr11
   have HZ:=zA (And.intro hw11 (HI10.out.keep H2.out _ ho11 (fun g hg=>⟨hg.1,fun cs t fr hc=>by obtain⟨cs',hc'⟩:=hg.2;rw[hc]at hc';cases hc';decide⟩)))
   clear hb10 hr11 hw11 ho11 HI9 HC9
   go_wp2_with (refine uY rfl _ (run_app (.tmp 73) (.tmp 76) rfl rfl rfl HR.out) ?_)
   go_roundg n'
   case measure=>exact HN.out.2.2.2
   case rel=>exact⟨_,by have:=HN.out.2.2.2;have:=HLN.out;omega,HZ.out⟩
namespace Pl
theorem one_eq {α:Type} {l:List α} (h:l.length≤1) {a b:α} (ha:a∈l) (hb:b∈l):a=b:=by
 match l,h,ha,hb with
 | [c],_,h1,h2=>rw[List.mem_singleton.1 h1,List.mem_singleton.1 h2]
theorem one_pw {α:Type} {l:List α} (h:l.length≤1) {R:α→α→Prop}:l.Pairwise R:=by
 match l,h with
 | [],_=>exact List.Pairwise.nil
 | [a],_=>exact List.pairwise_singleton _ _
def flatE (E:Nat→List Ev) (n:Nat):List Ev:=(List.range n).flatMap E
theorem mem_flatE {E:Nat→List Ev} {n:Nat} {e:Ev}:e∈flatE E n↔∃i,i<n∧e∈E i:=by
 unfold flatE
 simp[List.mem_flatMap]
theorem flatE_succ (E:Nat→List Ev) (n:Nat):flatE E (n+1)=flatE E n++E n:=by
 unfold flatE
 rw[List.range_succ,List.flatMap_append];simp
theorem flatE_congr {E E':Nat→List Ev} {n:Nat} (h:∀i,i<n→E i=E' i):flatE E n=flatE E' n:=by
 induction n with
 | zero=>rfl
 | succ n ih=>rw[flatE_succ,flatE_succ,ih (fun i hi=>h i (by omega)),h n (by omega)]
end Pl
theorem flatE_put1 (E:Nat→List Pl.Ev) (n a:Nat) (e:Pl.Ev) (ha:a<n):(Pl.flatE (put1 E a (E a++[e])) n).length=(Pl.flatE E n).length+1:=by
 induction n with
 | zero=>omega
 | succ n ih=>
  rw[Pl.flatE_succ,Pl.flatE_succ,List.length_append,List.length_append]
  by_cases h:a=n
  ·subst h
   rw[zQ,Pl.flatE_congr (E':=E) (fun i hi=>zO _ _ (by omega)),List.length_append]
   simp;omega
  ·rw[zO _ _ (by omega),ih (by omega)];omega
namespace Pl
theorem flatE_none (n:Nat):flatE (fun _=>[]) n=[]:=by
 unfold flatE;simp
theorem flatE_nodup {E:Nat→List Ev}:∀n:Nat,(∀i,i<n→(E i).Pairwise (fun a b=>a.seq<b.seq)∧∀e∈E i,e.node=(i:Int)∧0≤e.seq)→((flatE E n).map Ev.at).Nodup
 | 0,_=>List.nodup_nil
 | n+1,h=>by
  rw[flatE_succ,List.map_append]
  obtain⟨h1,h2⟩:=h n lD
  refine List.nodup_append.2 ⟨flatE_nodup n (fun i hi=>h i lD),List.pairwise_map.2 ((List.Pairwise.and_mem.1 h1).imp (fun {a b} hab e=>?_)),fun x hx y hy e=>?_⟩
  ·obtain⟨ha,hb,hlt⟩:=hab
   have h3:=(h2 a ha).2
   have h4:a.seq.toNat=b.seq.toNat:=congrArg Prod.snd e
   omega
  ·obtain⟨a,ha,rfl⟩:=List.mem_map.1 hx
   obtain⟨b,hb,rfl⟩:=List.mem_map.1 hy
   obtain⟨i,hi,ha'⟩:=mem_flatE.1 ha
   have h3:=((h i lD).2 a ha').1
   have h4:=(h2 b hb).1
   have h5:a.node.toNat=b.node.toNat:=congrArg Prod.fst e
   omega
structure Col (all:Al) (n:Nat) (E0:Nat→List Ev) (t j:Nat) (E:Nat→List Ev):Prop where
 part:∀i,i<n→Subs all (E i)∧∀e∈E0 i,e∈E i
 one:∀i,i<n→i<j∨1≤t→∀e∈E0 i,e∈E 0
 two:1≤t→∀i,i<n→i<j∨2≤t→∀e∈all.ev,e∈E i
def Both (E E':Nat→List Ev) (n a b:Nat) (all:Al):Prop:=
 (∀i,i≠a→i≠b→E' i=E i)∧(Subs all (E' a)∧∀e,e∈E' a↔e∈E a∨e∈E b)∧Subs all (E' b)∧∀e,e∈E' b↔e∈E a∨e∈E b
theorem Col.start {all:Al} {n:Nat} {E0:Nat→List Ev} (h:∀i,i<n→Subs all (E0 i)):Col all n E0 0 0 E0:=
 ⟨fun i hi=>⟨h i hi,fun e he=>he⟩,fun i _ h=>by omega,fun h=>by omega⟩
theorem Col.self {all:Al} {n t:Nat} {E0 E:Nat→List Ev} (h:Col all n E0 t 0 E) (hn:0<n) (qF:∀e∈all.ev,∃i,i<n∧e∈E0 i):Col all n E0 t 1 E:=
 ⟨h.part,fun i hi hj e he=>by
  rcases hj with hj | hj
  ·cases(show i=0 by omega);exact(h.part 0 hi).2 e he
  ·exact h.one i hi (.inr hj) e he,fun ht i hi hj e he=>by
  rcases hj with hj | hj
  ·cases(show i=0 by omega)
   obtain⟨k,hk,hek⟩:=qF e he
   exact h.one k hk (.inr ht) e hek
  ·exact h.two ht i hi (.inr hj) e he⟩
theorem Col.step {all:Al} {n t j:Nat} {E0 E E':Nat→List Ev} (h:Col all n E0 t j E) (hj:j<n) (h0:j≠0) (hs:Both E E' n 0 j all) (qF:∀e∈all.ev,∃i,i<n∧e∈E0 i):Col all n E0 t (j+1) E':=by
 obtain⟨s1,⟨s2,s3⟩,s4,s5⟩:=hs
 have up:∀i,i<n→∀e∈E i,e∈E' i:=fun i hi e he=>by
  by_cases i0:i=0
  ·subst i0;exact(s3 e).2 (.inl he)
  by_cases ij:i=j
  ·subst ij;exact(s5 e).2 (.inr he)
  rw[s1 i i0 ij];exact he
 refine⟨fun i hi=>⟨?_,fun e he=>up i hi e ((h.part i hi).2 e he)⟩,fun i hi hij e he=>?_,fun ht i hi hij e he=>?_⟩
 ·by_cases i0:i=0
  ·subst i0;exact s2
  by_cases ij:i=j
  ·subst ij;exact s4
  rw[s1 i i0 ij];exact(h.part i hi).1
 ·by_cases ij:i=j
  ·subst ij;exact(s3 e).2 (.inr ((h.part i hi).2 e he))
  ·exact up 0 lD e (h.one i hi lD e he)
 ·by_cases ij:i=j
  ·subst ij
   obtain⟨k,hk,hek⟩:=qF e he
   exact(s5 e).2 (.inl (h.one k hk (.inr ht) e hek))
  ·exact up i hi e (h.two ht i hi lD e he)
theorem Col.next {all:Al} {n t:Nat} {E0 E:Nat→List Ev} (h:Col all n E0 t n E) (qF:∀e∈all.ev,∃i,i<n∧e∈E0 i):Col all n E0 (t+1) 0 E:=
 ⟨h.part,fun i hi _ e he=>h.one i hi (.inl hi) e he,fun _ i hi hij e he=>by
  by_cases ht:1≤t
  ·exact h.two ht i hi (.inl hi) e he
  ·omega⟩
theorem Col.done {all:Al} {n:Nat} {E0 E:Nat→List Ev} (h:Col all n E0 2 0 E) (hl:Lot all) {i:Nat} (hi:i<n):(E i).Perm all.ev:=
 (List.perm_ext_iff_of_nodup (nodup_at (h.part i hi).1.1) (nodup_at hl.nd)).2 fun e=>⟨(h.part i hi).1.2 e,h.two lD i hi (.inr lD) e⟩
end Pl
end
end Go.Proofs.YtodlmbfbfaofcaaGreat
