/- TopLoads, part 15. -/
import Derived.Test.YtodlmbfbfaofcaaGreatM01
import Derived.Test.YtodlmbfbfaofcaaGreatM03
import Derived.Test.YtodlmbfbfaofcaaGreatM07
import Derived.Test.YtodlmbfbfaofcaaGreatM14
open Go.Proofs.Tryz
namespace Go.Proofs.YtodlmbfbfaofcaaGreat
set_option linter.unusedVariables false
set_option linter.unusedSimpArgs false
set_option maxRecDepth 100000
set_option maxHeartbeats 4000000
section
open Go.RowKit Rw Rh
theorem sE (p:Nat) (eb:Nat) (I:Nat→World→Prop) (w:World) (h0:I 0 w)
  (hA:∀k W W',I k W→Below W.heap.size W W'→I k W')
  (hC:∀k,k<12→∀W,I k W→Calls prog 252 #[Qp p,.pointer (some ⟨eb,(if k<5 then k else k+1),none⟩)] W fun e w'=>e=.returned (.tuple #[])∧I (k+1) w')
  (hK:∀k W,4≤k→I k W→W.cell? ⟨eb,3,none⟩=some (.int .i64 2))
  (hR:∀k W,I k W→W.cell? ⟨eb,13,none⟩=some (.slice none 0 0))
  (hN:∀W,I 12 W→Calls prog 252 #[Qp p,Qp W.heap.size] (W.alloc (.cells (Qo 0) 3)) fun e w'=>e=.returned (.tuple #[])∧I 13 w'∧w'.heap[W.heap.size]?=some (.cells (Qo 0) 3 (0,0))) :
  Calls prog 187 #[Qp eb,.iface 371 (Qp p)] w fun e w'=>e=.returned (.tuple #[])∧I 13 w':=by
 have HI:=zA h0
 have HC:=zA hC
 have HA:=zA hA
 have HK:=zA hK
 have HR:=zA hR
 have HN:=zA hN
 have HD0:=zA (HC.out 0 (by decide))
 have HD1:=zA (HC.out 1 (by decide))
 have HD2:=zA (HC.out 2 (by decide))
 have HD3:=zA (HC.out 3 (by decide))
 have HD4:=zA (HC.out 4 (by decide))
 clear h0 hC hA hK hR hN
 have hm:∀w,Sem.run prog (method 629 371 (Qp p) "murmur/event.number") w=.ok (252,Qp p) w:=fun _=>by kernel_rfl
 go_enter func187,ntmps187
 go_wp2_with fail
 have HBX:=zA (Below.refl w.heap.size w)
 refine zU (by kernel_rfl) (by kernel_rfl) HBX.out ?_
 repeat (go_big_quiet_step (fail))
 refine wpQuiet_nil ?_
 intro _ hw'
 obtain⟨q,hw''⟩:=hw'
 subst hw''
 have HI0:=zA (HA.out 0 w q.w HI.out q.b)
 generalize q.w=w0 at *
 have ix0:∀W,Sem.run prog (Instr.index 395 (.agg #[Qp eb,.pointer (some ⟨eb,1,none⟩),.pointer (some ⟨eb,2,none⟩),.pointer (some ⟨eb,3,none⟩)]) (.int .i64 0)) W=.ok (Qp eb) W:=fun W=>yN _ _ 0 (by decide) rfl W
 have ix1:∀W,Sem.run prog (Instr.index 395 (.agg #[Qp eb,.pointer (some ⟨eb,1,none⟩),.pointer (some ⟨eb,2,none⟩),.pointer (some ⟨eb,3,none⟩)]) (.int .i64 1)) W=.ok (.pointer (some ⟨eb,1,none⟩)) W:=fun W=>yN _ _ 1 (by decide) rfl W
 have ix2:∀W,Sem.run prog (Instr.index 395 (.agg #[Qp eb,.pointer (some ⟨eb,1,none⟩),.pointer (some ⟨eb,2,none⟩),.pointer (some ⟨eb,3,none⟩)]) (.int .i64 2)) W=.ok (.pointer (some ⟨eb,2,none⟩)) W:=fun W=>yN _ _ 2 (by decide) rfl W
 have ix3:∀W,Sem.run prog (Instr.index 395 (.agg #[Qp eb,.pointer (some ⟨eb,1,none⟩),.pointer (some ⟨eb,2,none⟩),.pointer (some ⟨eb,3,none⟩)]) (.int .i64 3)) W=.ok (.pointer (some ⟨eb,3,none⟩)) W:=fun W=>yN _ _ 3 (by decide) rfl W
 go_wp2_with fail
 refine wp_loop_rounds 5 ?_
 rw[rounds_succ]
 go_wp2_with fail
 refine(HD0.out w0 HI0.out).mono ?_
 rintro e w1 ⟨rfl,i1⟩
 have HI1:=zA i1
 clear i1
 go_wp2_with fail
 rw[rounds_succ]
 go_wp2_with fail
 refine(HD1.out w1 HI1.out).mono ?_
 rintro e w2 ⟨rfl,i2⟩
 have HI2:=zA i2
 clear i2
 go_wp2_with fail
 rw[rounds_succ]
 go_wp2_with fail
 refine(HD2.out w2 HI2.out).mono ?_
 rintro e w3 ⟨rfl,i3⟩
 have HI3:=zA i3
 clear i3
 go_wp2_with fail
 rw[rounds_succ]
 go_wp2_with fail
 refine(HD3.out w3 HI3.out).mono ?_
 rintro e w4 ⟨rfl,i4⟩
 have HI4:=zA i4
 clear i4
 go_wp2_with fail
 rw[rounds_succ]
 have c3:=HK.out 4 w4 (by decide) HI4.out
 go_wp2_with fail
 refine(zY _ _ _ w4).mono ?_
 rintro e w' ⟨rfl,rfl⟩
 rw[show Pl.inside 2 1 3=true from rfl]
 go_wp2_with fail
 refine(HD4.out w4 HI4.out).mono ?_
 rintro e w5 ⟨rfl,i5⟩
 have HI5:=zA i5
 clear i5
 have c3':=HK.out 5 w5 (by decide) HI5.out
 go_wp2_with fail
 refine(policy_w p eb (fun k W=>I (k+5) W) w5 HI5.out (fun k W W' h b=>HA.out (k+5) W W' h b) (fun k hk W h=>by
  have:=HC.out (k+5) (by omega) W h
  rw[if_neg (by omega)]at this
  exact this)).mono ?_
 rintro e w6 ⟨rfl,i6⟩
 have HI6:=zA i6
 have HR6:=zA (HR.out _ _ i6)
 have c13:=HR6.out
 have hb7:=bn w6 (.cells (Qo 0) 3)
 have HN7:=zA (HN.out _ i6)
 clear i6 hb7
 go_wp2_with fail
 refine HN7.out.mono ?_
 rintro e w8 ⟨rfl,i8,x8⟩
 have HI8:=zA i8
 have d13:=HR.out _ _ i8
 have d0:=cc 0 x8
 clear i8 x8 HN7
 go_wp2_with fail
 have e13:∀q:Beh w8,q.w.cell? ⟨eb,13,none⟩=some (.slice none 0 0):=fun q=>q.cell d13
 have e0:∀q:Beh w8,q.w.cell? ⟨w6.heap.size,0,none⟩=some (.int .i64 0):=fun q=>q.cell d0
 have HBX2:=zA (Below.refl w8.heap.size w8)
 refine zU (by kernel_rfl) (by kernel_rfl) HBX2.out ?_
 repeat (go_big_quiet_step (fail))
 refine wpQuiet_nil ?_
 intro _ hw'
 obtain⟨q2,hw''⟩:=hw'
 subst hw''
 have f13:=e13 q2
 have HI9:=zA (HA.out _ _ _ HI8.out q2.b)
 clear e13 e0 d13 d0
 generalize q2.w=w9 at *
 go_wp2_with fail
 refine wp_loop_rounds 1 ?_
 rw[rounds_succ]
 go_wp2_with fail
 exact yD results187 ⟨rfl,HI9.out⟩
theorem sF (r:Nat) (eb:Nat) (I:Nat→World→Prop) (w:World) (h0:I 0 w)
  (hA:∀k W W',I k W→Below W.heap.size W W'→I k W')
  (hC:∀k,k<12→∀W,I k W→Calls prog 185 #[.agg #[Qp r],.pointer (some ⟨eb,(if k<5 then k else k+1),none⟩)] W fun e w'=>e=.returned (.tuple #[])∧I (k+1) w')
  (hK:∀k W,4≤k→I k W→W.cell? ⟨eb,3,none⟩=some (.int .i64 2))
  (hR:∀k W,I k W→W.cell? ⟨eb,13,none⟩=some (.slice none 0 0))
  (hN:∀W,I 12 W→Calls prog 185 #[.agg #[Qp r],Qp W.heap.size] (W.alloc (.cells (Qo 0) 3)) fun e w'=>e=.returned (.tuple #[])∧I 13 w'∧w'.heap[W.heap.size]?=some (.cells (Qo 0) 3 (0,0))) :
  Calls prog 187 #[Qp eb,.iface 299 (.agg #[Qp r])] w fun e w'=>e=.returned (.tuple #[])∧I 13 w':=by
 have HI:=zA h0
 have HC:=zA hC
 have HA:=zA hA
 have HK:=zA hK
 have HR:=zA hR
 have HN:=zA hN
 have HD0:=zA (HC.out 0 (by decide))
 have HD1:=zA (HC.out 1 (by decide))
 have HD2:=zA (HC.out 2 (by decide))
 have HD3:=zA (HC.out 3 (by decide))
 have HD4:=zA (HC.out 4 (by decide))
 clear h0 hC hA hK hR hN
 have hm:∀w,Sem.run prog (method 629 299 (.agg #[Qp r]) "murmur/event.number") w=.ok (185,.agg #[Qp r]) w:=fun _=>by kernel_rfl
 go_enter func187,ntmps187
 go_wp2_with fail
 have HBX:=zA (Below.refl w.heap.size w)
 refine zU (by kernel_rfl) (by kernel_rfl) HBX.out ?_
 repeat (go_big_quiet_step (fail))
 refine wpQuiet_nil ?_
 intro _ hw'
 obtain⟨q,hw''⟩:=hw'
 subst hw''
 have HI0:=zA (HA.out 0 w q.w HI.out q.b)
 generalize q.w=w0 at *
 have ix0:∀W,Sem.run prog (Instr.index 395 (.agg #[Qp eb,.pointer (some ⟨eb,1,none⟩),.pointer (some ⟨eb,2,none⟩),.pointer (some ⟨eb,3,none⟩)]) (.int .i64 0)) W=.ok (Qp eb) W:=fun W=>yN _ _ 0 (by decide) rfl W
 have ix1:∀W,Sem.run prog (Instr.index 395 (.agg #[Qp eb,.pointer (some ⟨eb,1,none⟩),.pointer (some ⟨eb,2,none⟩),.pointer (some ⟨eb,3,none⟩)]) (.int .i64 1)) W=.ok (.pointer (some ⟨eb,1,none⟩)) W:=fun W=>yN _ _ 1 (by decide) rfl W
 have ix2:∀W,Sem.run prog (Instr.index 395 (.agg #[Qp eb,.pointer (some ⟨eb,1,none⟩),.pointer (some ⟨eb,2,none⟩),.pointer (some ⟨eb,3,none⟩)]) (.int .i64 2)) W=.ok (.pointer (some ⟨eb,2,none⟩)) W:=fun W=>yN _ _ 2 (by decide) rfl W
 have ix3:∀W,Sem.run prog (Instr.index 395 (.agg #[Qp eb,.pointer (some ⟨eb,1,none⟩),.pointer (some ⟨eb,2,none⟩),.pointer (some ⟨eb,3,none⟩)]) (.int .i64 3)) W=.ok (.pointer (some ⟨eb,3,none⟩)) W:=fun W=>yN _ _ 3 (by decide) rfl W
 go_wp2_with fail
 refine wp_loop_rounds 5 ?_
 rw[rounds_succ]
 go_wp2_with fail
 refine(HD0.out w0 HI0.out).mono ?_
 rintro e w1 ⟨rfl,i1⟩
 have HI1:=zA i1
 clear i1
 go_wp2_with fail
 rw[rounds_succ]
 go_wp2_with fail
 refine(HD1.out w1 HI1.out).mono ?_
 rintro e w2 ⟨rfl,i2⟩
 have HI2:=zA i2
 clear i2
 go_wp2_with fail
 rw[rounds_succ]
 go_wp2_with fail
 refine(HD2.out w2 HI2.out).mono ?_
 rintro e w3 ⟨rfl,i3⟩
 have HI3:=zA i3
 clear i3
 go_wp2_with fail
 rw[rounds_succ]
 go_wp2_with fail
 refine(HD3.out w3 HI3.out).mono ?_
 rintro e w4 ⟨rfl,i4⟩
 have HI4:=zA i4
 clear i4
 go_wp2_with fail
 rw[rounds_succ]
 have c3:=HK.out 4 w4 (by decide) HI4.out
 go_wp2_with fail
 refine(zY _ _ _ w4).mono ?_
 rintro e w' ⟨rfl,rfl⟩
 rw[show Pl.inside 2 1 3=true from rfl]
 go_wp2_with fail
 refine(HD4.out w4 HI4.out).mono ?_
 rintro e w5 ⟨rfl,i5⟩
 have HI5:=zA i5
 clear i5
 have c3':=HK.out 5 w5 (by decide) HI5.out
 go_wp2_with fail
 refine(policy_r r eb (fun k W=>I (k+5) W) w5 HI5.out (fun k W W' h b=>HA.out (k+5) W W' h b) (fun k hk W h=>by
  have:=HC.out (k+5) (by omega) W h
  rw[if_neg (by omega)]at this
  exact this)).mono ?_
 rintro e w6 ⟨rfl,i6⟩
 have HI6:=zA i6
 have HR6:=zA (HR.out _ _ i6)
 have c13:=HR6.out
 have hb7:=bn w6 (.cells (Qo 0) 3)
 have HN7:=zA (HN.out _ i6)
 clear i6 hb7
 go_wp2_with fail
 refine HN7.out.mono ?_
 rintro e w8 ⟨rfl,i8,x8⟩
 have HI8:=zA i8
 have d13:=HR.out _ _ i8
 have d0:=cc 0 x8
 clear i8 x8 HN7
 go_wp2_with fail
 have e13:∀q:Beh w8,q.w.cell? ⟨eb,13,none⟩=some (.slice none 0 0):=fun q=>q.cell d13
 have e0:∀q:Beh w8,q.w.cell? ⟨w6.heap.size,0,none⟩=some (.int .i64 0):=fun q=>q.cell d0
 have HBX2:=zA (Below.refl w8.heap.size w8)
 refine zU (by kernel_rfl) (by kernel_rfl) HBX2.out ?_
 repeat (go_big_quiet_step (fail))
 refine wpQuiet_nil ?_
 intro _ hw'
 obtain⟨q2,hw''⟩:=hw'
 subst hw''
 have f13:=e13 q2
 have HI9:=zA (HA.out _ _ _ HI8.out q2.b)
 clear e13 e0 d13 d0
 generalize q2.w=w9 at *
 go_wp2_with fail
 refine wp_loop_rounds 1 ?_
 rw[rounds_succ]
 go_wp2_with fail
 exact yD results187 ⟨rfl,HI9.out⟩
namespace Pl
def Ev.nums (e:Ev):List Nat:=[e.node.toNat,e.seq.toNat,e.time.toNat,e.kind.toNat,e.work.toNat]++(if e.kind=1 then[e.value.toNat]else[e.mn.toNat,e.mx.toNat,e.goal.toNat,e.slack.toNat,e.up.toNat,e.down.toNat,e.cool.toNat,0])
structure Ev.Ok (e:Ev):Prop where
 dot:∃n s,e.Dot n s
 right:e.right=true
 kind:e.kind=1∧e.still=true∨e.kind=2
abbrev smp (n s t k v:Nat):Ev:=⟨n,s,t,1,k,v,0,0,0,0,0,0,0⟩
abbrev stt (n s t k mn mx goal slack up down cool:Nat):Ev:=⟨n,s,t,2,k,0,mn,mx,goal,slack,up,down,cool⟩
theorem inside_nat {x lo hi:Int} (h:inside x lo hi=true) (hl:0≤lo):∃n:Nat,x=n∧lo≤n∧(n:Int)≤hi:=by
 unfold inside at h
 simp only[Bool.and_eq_true,decide_eq_true_eq]at h
 exact⟨x.toNat,by omega,by omega,by omega⟩
theorem Ev.Ok.cases {e:Ev} (h:e.Ok):(∃n s t k v:Nat,e=smp n s t k v∧n<8∧(1≤s∧s≤96)∧t≤1099511627776∧k≤7∧v≤1099511627776)∨
  ∃n s t k mn mx goal slack up down cool:Nat,e=stt n s t k mn mx goal slack up down cool∧n<8∧(1≤s∧s≤96)∧t≤1099511627776∧k≤7∧mn≤1099511627776∧mx≤1099511627776∧goal≤1099511627776∧slack≤1099511627776∧up≤1099511627776∧down≤1099511627776∧cool≤1099511627776:=by
 obtain⟨⟨n,s,h1,h2,h3,h4,h5⟩,hr,hk⟩:=h
 obtain⟨node,seq,time,kind,work,value,mn,mx,goal,slack,up,down,cool⟩:=e
 simp only at h1 h2 hk
 subst h1 h2
 unfold Ev.right at hr
 simp only[Bool.and_eq_true]at hr
 obtain⟨ht,hw,hr⟩:=hr
 obtain⟨t,rfl,_,ht⟩:=inside_nat ht (by decide)
 obtain⟨k,rfl,_,hw⟩:=inside_nat hw (by decide)
 rcases hk with⟨rfl,hk⟩ | rfl
 ·left
  simp at hr
  obtain⟨v,rfl,_,hv⟩:=inside_nat hr.2 (by decide)
  unfold Ev.still at hk
  simp only[Bool.and_eq_true,beq_iff_eq]at hk
  obtain⟨h8,h9,h10,h11,h12,h13,h14⟩:=hk
  subst h8 h9 h10 h11 h12 h13 h14
  exact⟨n,s,t,k,v,rfl,h3,⟨h4,h5⟩,by omega,by omega,by omega⟩
 ·right
  simp at hr
  obtain⟨hp,rfl⟩:=hr
  unfold Ev.polOk at hp
  simp only[Bool.and_eq_true]at hp
  obtain⟨p1,p2,p3,p4,p5,p6,p7⟩:=hp
  obtain⟨mx,rfl,_,q1⟩:=inside_nat p1 (by decide)
  obtain⟨mn,rfl,_,q2⟩:=inside_nat p2 (by decide)
  obtain⟨goal,rfl,_,q3⟩:=inside_nat p3 (by decide)
  obtain⟨slack,rfl,_,q4⟩:=inside_nat p4 (by decide)
  obtain⟨up,rfl,_,q5⟩:=inside_nat p5 (by decide)
  obtain⟨down,rfl,_,q6⟩:=inside_nat p6 (by decide)
  obtain⟨cool,rfl,_,q7⟩:=inside_nat p7 (by decide)
  exact⟨n,s,t,k,mn,mx,goal,slack,up,down,cool,rfl,h3,⟨h4,h5⟩,by omega,by omega,by omega,by omega,by omega,by omega,by omega,by omega,by omega⟩
theorem smp_nums (n s t k v:Nat):(smp n s t k v).nums=[n,s,t,1,k,v]:=by simp[Ev.nums]
theorem stt_nums (n s t k mn mx goal slack up down cool:Nat):(stt n s t k mn mx goal slack up down cool).nums=[n,s,t,2,k,mn,mx,goal,slack,up,down,cool,0]:=by simp[Ev.nums]
theorem Ev.Ok.small {e:Ev} (h:e.Ok):∀n∈e.nums,n≤1099511627776:=by
 rcases h.cases with⟨n,s,t,k,v,rfl,h1,h2,h3,h4,h5⟩ | ⟨n,s,t,k,mn,mx,goal,slack,up,down,cool,rfl,h1,h2,h3,h4,q1,q2,q3,q4,q5,q6,q7⟩
 ·rw[smp_nums]
  intro x hx
  simp at hx
  rcases hx with rfl | rfl | rfl | rfl | rfl | rfl<;>omega
 ·rw[stt_nums]
  intro x hx
  simp at hx
  rcases hx with rfl | rfl | rfl | rfl | rfl | rfl | rfl | rfl | rfl | rfl | rfl | rfl | rfl<;>omega
theorem Ev.Ok.len {e:Ev} (h:e.Ok):e.nums.length≤13:=by
 unfold Ev.nums
 split<;>simp
end Pl
def WrI (base p eb:Nat) (C:Array Value) (bs:List Int) (L:List Nat) (w0:World) (k:Nat) (W:World):Prop:=
 WrAt base W p (bs++Pl.vints (L.take k))∧W.heap[eb]?=some (.cells C 175 (0,0))∧Off (· = p) w0 W∧base≤W.heap.size
theorem WrI.below {base p eb:Nat} {C:Array Value} {bs:List Int} {L:List Nat} {w0 W W':World} {k:Nat} (h:WrI base p eb C bs L w0 k W) (hb:Below W.heap.size W W'):WrI base p eb C bs L w0 k W':=
 ⟨h.1.below hb,(hb.block eb (gsi.1 h.2.1).1).trans h.2.1,h.2.2.1.trans (Off.of_below hb),Nat.le_trans h.2.2.2 hb.size⟩
theorem wstep (base p eb g j k:Nat) (C:Array Value) (bs:List Int) (L:List Nat) (w0 W:World) (h:WrI base p eb C bs L w0 k W) (hk:k<L.length) (hg:W.cell? ⟨g,j,none⟩=some (.int .i64 (L[k]:Nat))) (hgl:g<W.heap.size)
  (hL:∀n∈L,n≤1099511627776) (hl:L.length≤13) (hb:bs.length≤800000) :
  Calls prog 252 #[Qp p,.pointer (some ⟨g,j,none⟩)] W fun e w'=>e=.returned (.tuple #[])∧WrI base p eb C bs L w0 (k+1) w'∧Off (· = p) W w':=by
 obtain⟨h1,h2,h3,h4⟩:=h
 have hv:=Pl.vints_len (L.take k) (fun n hn=>hL n (List.mem_of_mem_take hn))
 rw[List.length_take]at hv
 refine(wnum_ok base p g j L[k] _ W h1 h4 (by rw[List.length_append];omega) (hL _ (List.getElem_mem hk)) hg hgl).mono ?_
 rintro e w' ⟨rfl,i1,o⟩
 refine⟨rfl,⟨by rw[Pl.vints_succ L k hk,←List.append_assoc];exact i1,(o.same eb (gsi.1 h2).1 (fun e=>?_)).trans h2,h3.trans o,Nat.le_trans h4 o.size⟩,o⟩
 obtain⟨_,v,hv,_⟩:=h1
 rw[show eb=p from e,hv]at h2;exact zI (by decide) h2
theorem wput_smp (base p n s t k v:Nat) (bs:List Int) (w:World) (h:WrAt base w p bs) (hb:base≤w.heap.size) (hl:bs.length≤800000) (he:(Pl.smp n s t k v).Ok) :
  Calls prog 253 #[Qp p,.agg (Qeh (n:Int) (s:Int) (t:Int) 1 (k:Int) (v:Int))] w fun r w'=>r=.returned (.tuple #[])∧WrAt base w' p (bs++Pl.vints (Pl.smp n s t k v).nums)∧Off (· = p) w w':=by
 have b1:=bn w (.cells (Qeh (n:Int) (s:Int) (t:Int) 1 (k:Int) (v:Int)) 175)
 have hx:=heap_alloc_new w (.cells (Qeh (n:Int) (s:Int) (t:Int) 1 (k:Int) (v:Int)) 175)
 have HI:=zA (show WrI base p w.heap.size (Qeh (n:Int) (s:Int) (t:Int) 1 (k:Int) (v:Int)) bs [n,s,t,1,k,v] w 0 (w.alloc (.cells (Qeh (n:Int) (s:Int) (t:Int) 1 (k:Int) (v:Int)) 175))from⟨by simpa[Pl.vints]using h.below b1,hx,Off.of_below b1,Nat.le_trans hb b1.size⟩)
 have HE:=zA he
 have HR:=zA (wN (Pl.smp n s t k v) n s (w.alloc (.cells (Qeh (n:Int) (s:Int) (t:Int) 1 (k:Int) (v:Int)) 175)) ⟨rfl,rfl,by obtain⟨n',s',h1,h2,h3,h4,h5⟩:=he.dot;simp at h1;omega,by obtain⟨n',s',h1,h2,h3,h4,h5⟩:=he.dot;simp at h2;omega,by obtain⟨n',s',h1,h2,h3,h4,h5⟩:=he.dot;simp at h2;omega⟩ (.inl ⟨rfl,rfl⟩))
 have c0:=cc 0 hx
 have c1:=cc 1 hx
 have c2:=cc 2 hx
 have c3:=cc 3 hx
 have c4:=cc 4 hx
 have c5:=cc 5 hx
 have c6:=cc 6 hx
 have c7:=cc 7 hx
 have c8:=cc 8 hx
 have c9:=cc 9 hx
 have c10:=cc 10 hx
 have c11:=cc 11 hx
 have c12:=cc 12 hx
 have c13:=cc 13 hx
 clear h hb b1 hx he
 go_enter func253,ntmps253
 go_wp2_with fail
 generalize w.alloc (.cells (Qeh (n:Int) (s:Int) (t:Int) 1 (k:Int) (v:Int)) 175)=W at *
 refine HR.out.mono ?_
 rintro e w1 ⟨rfl,b1⟩
 rw[HE.out.right]
 have HI1:=zA (HI.out.below b1)
 clear b1 HR HI c0 c1 c2 c3 c4 c5 c6 c7 c8 c9 c10 c11 c12 c13
 go_wp2_with fail
 refine(through_w p w.heap.size (fun q W=>q≤6∧WrI base p w.heap.size (Qeh (n:Int) (s:Int) (t:Int) 1 (k:Int) (v:Int)) bs [n,s,t,1,k,v] w q W) w1 ⟨by decide,HI1.out⟩ (fun q W W' h b=>⟨h.1,h.2.below b⟩) (fun q hq W h=>?_) (fun q W hq h=>cc 3 h.2.2.1)).mono ?_
 ·have hL:=HE.out.small
  rw[Pl.smp_nums]at hL
  refine(wstep base p w.heap.size w.heap.size q q (Qeh (n:Int) (s:Int) (t:Int) 1 (k:Int) (v:Int)) bs [n,s,t,1,k,v] w W h.2 hq ?_ (gsi.1 h.2.2.1).1 hL (by simp) hl).mono ?_
  ·match q,hq with
   | 0,_=>exact cc 0 h.2.2.1
   | 1,_=>exact cc 1 h.2.2.1
   | 2,_=>exact cc 2 h.2.2.1
   | 3,_=>exact cc 3 h.2.2.1
   | 4,_=>exact cc 4 h.2.2.1
   | 5,_=>exact cc 5 h.2.2.1
   | q+6,hq=>exact absurd hq (by omega)
  ·rintro e w' ⟨rfl,i1,o⟩
   exact⟨rfl,by omega,i1⟩
 ·rintro e w2 ⟨rfl,_,i6⟩
  have HI6:=zA i6
  clear i6
  go_wp2_with fail
  exact yD results253 ⟨rfl,by rw[Pl.smp_nums];exact HI6.out.1,HI6.out.2.2.1⟩
theorem wput_stt (base p n s t k mn mx goal slack up down cool:Nat) (bs:List Int) (w:World) (h:WrAt base w p bs) (hb:base≤w.heap.size) (hl:bs.length≤800000) (he:(Pl.stt n s t k mn mx goal slack up down cool).Ok) :
  Calls prog 253 #[Qp p,.agg (Qe (n:Int) (s:Int) (t:Int) 2 (k:Int) 0 (mn:Int) (mx:Int) (goal:Int) (slack:Int) (up:Int) (down:Int) (cool:Int))] w fun r w'=>r=.returned (.tuple #[])∧WrAt base w' p (bs++Pl.vints (Pl.stt n s t k mn mx goal slack up down cool).nums)∧Off (· = p) w w':=by
 have b1:=bn w (.cells (Qe (n:Int) (s:Int) (t:Int) 2 (k:Int) 0 (mn:Int) (mx:Int) (goal:Int) (slack:Int) (up:Int) (down:Int) (cool:Int)) 175)
 have hx:=heap_alloc_new w (.cells (Qe (n:Int) (s:Int) (t:Int) 2 (k:Int) 0 (mn:Int) (mx:Int) (goal:Int) (slack:Int) (up:Int) (down:Int) (cool:Int)) 175)
 have HI:=zA (show WrI base p w.heap.size (Qe (n:Int) (s:Int) (t:Int) 2 (k:Int) 0 (mn:Int) (mx:Int) (goal:Int) (slack:Int) (up:Int) (down:Int) (cool:Int)) bs [n,s,t,2,k,mn,mx,goal,slack,up,down,cool,0] w 0 (w.alloc (.cells (Qe (n:Int) (s:Int) (t:Int) 2 (k:Int) 0 (mn:Int) (mx:Int) (goal:Int) (slack:Int) (up:Int) (down:Int) (cool:Int)) 175))from⟨by simpa[Pl.vints]using h.below b1,hx,Off.of_below b1,Nat.le_trans hb b1.size⟩)
 have HE:=zA he
 have HR:=zA (wN (Pl.stt n s t k mn mx goal slack up down cool) n s (w.alloc (.cells (Qe (n:Int) (s:Int) (t:Int) 2 (k:Int) 0 (mn:Int) (mx:Int) (goal:Int) (slack:Int) (up:Int) (down:Int) (cool:Int)) 175)) ⟨rfl,rfl,by obtain⟨n',s',h1,h2,h3,h4,h5⟩:=he.dot;simp at h1;omega,by obtain⟨n',s',h1,h2,h3,h4,h5⟩:=he.dot;simp at h2;omega,by obtain⟨n',s',h1,h2,h3,h4,h5⟩:=he.dot;simp at h2;omega⟩ (.inr ⟨rfl,he.right⟩))
 have c0:=cc 0 hx
 have c1:=cc 1 hx
 have c2:=cc 2 hx
 have c3:=cc 3 hx
 have c4:=cc 4 hx
 have c5:=cc 5 hx
 have c6:=cc 6 hx
 have c7:=cc 7 hx
 have c8:=cc 8 hx
 have c9:=cc 9 hx
 have c10:=cc 10 hx
 have c11:=cc 11 hx
 have c12:=cc 12 hx
 have c13:=cc 13 hx
 clear h hb b1 hx he
 go_enter func253,ntmps253
 go_wp2_with fail
 generalize w.alloc (.cells (Qe (n:Int) (s:Int) (t:Int) 2 (k:Int) 0 (mn:Int) (mx:Int) (goal:Int) (slack:Int) (up:Int) (down:Int) (cool:Int)) 175)=W at *
 refine HR.out.mono ?_
 rintro e w1 ⟨rfl,b1⟩
 rw[HE.out.right]
 have HI1:=zA (HI.out.below b1)
 clear b1 HR HI c0 c1 c2 c3 c4 c5 c6 c7 c8 c9 c10 c11 c12 c13
 go_wp2_with fail
 have hL:=HE.out.small
 rw[Pl.stt_nums]at hL
 refine(sE p w.heap.size (fun q W=>q≤13∧WrI base p w.heap.size (Qe (n:Int) (s:Int) (t:Int) 2 (k:Int) 0 (mn:Int) (mx:Int) (goal:Int) (slack:Int) (up:Int) (down:Int) (cool:Int)) bs [n,s,t,2,k,mn,mx,goal,slack,up,down,cool,0] w q W) w1 ⟨by decide,HI1.out⟩ (fun q W W' h b=>⟨h.1,h.2.below b⟩) (fun q hq W h=>?_) (fun q W hq h=>cc 3 h.2.2.1) (fun q W h=>cc 13 h.2.2.1) (fun W h=>?_)).mono ?_
 ·refine(wstep base p w.heap.size w.heap.size _ q (Qe (n:Int) (s:Int) (t:Int) 2 (k:Int) 0 (mn:Int) (mx:Int) (goal:Int) (slack:Int) (up:Int) (down:Int) (cool:Int)) bs [n,s,t,2,k,mn,mx,goal,slack,up,down,cool,0] w W h.2 (by simp;omega) ?_ (gsi.1 h.2.2.1).1 hL (by simp) hl).mono ?_
  ·match q,hq with
   | 0,_=>exact cc 0 h.2.2.1
   | 1,_=>exact cc 1 h.2.2.1
   | 2,_=>exact cc 2 h.2.2.1
   | 3,_=>exact cc 3 h.2.2.1
   | 4,_=>exact cc 4 h.2.2.1
   | 5,_=>exact cc 6 h.2.2.1
   | 6,_=>exact cc 7 h.2.2.1
   | 7,_=>exact cc 8 h.2.2.1
   | 8,_=>exact cc 9 h.2.2.1
   | 9,_=>exact cc 10 h.2.2.1
   | 10,_=>exact cc 11 h.2.2.1
   | 11,_=>exact cc 12 h.2.2.1
   | q+12,hq=>exact absurd hq (by omega)
  ·rintro e w' ⟨rfl,i1,o⟩
   exact⟨rfl,by omega,i1⟩
 ·have hb7:=bn W (.cells (Qo 0) 3)
  have hH:=heap_alloc_new W (.cells (Qo 0) 3)
  have h7:=h.2.below hb7
  refine(wstep base p w.heap.size W.heap.size 0 12 (Qe (n:Int) (s:Int) (t:Int) 2 (k:Int) 0 (mn:Int) (mx:Int) (goal:Int) (slack:Int) (up:Int) (down:Int) (cool:Int)) bs [n,s,t,2,k,mn,mx,goal,slack,up,down,cool,0] w _ h7 (by simp) (cc 0 hH) (gsi.1 hH).1 hL (by simp) hl).mono ?_
  rintro e w' ⟨rfl,i1,o⟩
  refine⟨rfl,⟨by decide,i1⟩,(o.same W.heap.size (gsi.1 hH).1 (fun e=>?_)).trans hH⟩
  obtain⟨_,v,hv,_⟩:=h7.1
  rw[show W.heap.size=p from e]at hH;rw[hv]at hH;exact zI (by decide) hH
 ·rintro e w2 ⟨rfl,_,i6⟩
  have HI6:=zA i6
  clear i6
  go_wp2_with fail
  exact yD results253 ⟨rfl,by rw[Pl.stt_nums];exact HI6.out.1,HI6.out.2.2.1⟩
theorem wput_ok (base p:Nat) (e:Pl.Ev) (bs:List Int) (w:World) (h:WrAt base w p bs) (hb:base≤w.heap.size) (hl:bs.length≤800000) (he:e.Ok) :
  Calls prog 253 #[Qp p,evv e] w fun r w'=>r=.returned (.tuple #[])∧WrAt base w' p (bs++Pl.vints e.nums)∧Off (· = p) w w':=by
 rcases he.cases with⟨n,s,t,k,v,rfl,_⟩ | ⟨n,s,t,k,mn,mx,goal,slack,up,down,cool,rfl,_⟩
 ·exact wput_smp base p n s t k v bs w h hb hl he
 ·exact wput_stt base p n s t k mn mx goal slack up down cool bs w h hb hl he
def parS (n s t k v q:Nat):Array Value:=#[.int .i64 (if 0<q then((n:Nat):Int)else 0),.int .i64 (if 1<q then((s:Nat):Int)else 0),.int .i64 (if 2<q then((t:Nat):Int)else 0),.int .i64 (if 3<q then((1:Nat):Int)else 0),.int .i64 (if 4<q then((k:Nat):Int)else 0),.int .i64 (if 5<q then((v:Nat):Int)else 0),.int .i64 0,.int .i64 0,.int .i64 0,.int .i64 0,.int .i64 0,.int .i64 0,.int .i64 0,.slice none 0 0]
def parT (n s t k mn mx goal slack up down cool q:Nat):Array Value:=#[.int .i64 (if 0<q then((n:Nat):Int)else 0),.int .i64 (if 1<q then((s:Nat):Int)else 0),.int .i64 (if 2<q then((t:Nat):Int)else 0),.int .i64 (if 3<q then((2:Nat):Int)else 0),.int .i64 (if 4<q then((k:Nat):Int)else 0),.int .i64 0,.int .i64 (if 5<q then((mn:Nat):Int)else 0),.int .i64 (if 6<q then((mx:Nat):Int)else 0),.int .i64 (if 7<q then((goal:Nat):Int)else 0),.int .i64 (if 8<q then((slack:Nat):Int)else 0),.int .i64 (if 9<q then((up:Nat):Int)else 0),.int .i64 (if 10<q then((down:Nat):Int)else 0),.int .i64 (if 11<q then((cool:Nat):Int)else 0),.slice none 0 0]
theorem parS_next (n s t k v q:Nat) (hq:q<6):(parS n s t k v q).setIfInBounds q (.int .i64 ([n,s,t,1,k,v][q]:Nat))=parS n s t k v (q+1):=by
 match q,hq with
 | 0,_=>rfl
 | 1,_=>rfl
 | 2,_=>rfl
 | 3,_=>rfl
 | 4,_=>rfl
 | 5,_=>rfl
 | q+6,hq=>exact absurd hq (by omega)
theorem parT_next (n s t k mn mx goal slack up down cool q:Nat) (hq:q<12):(parT n s t k mn mx goal slack up down cool q).setIfInBounds (if q<5 then q else q+1) (.int .i64 ([n,s,t,2,k,mn,mx,goal,slack,up,down,cool,0][q]'(by simp;omega):Nat))=parT n s t k mn mx goal slack up down cool (q+1):=by
 match q,hq with
 | 0,_=>rfl
 | 1,_=>rfl
 | 2,_=>rfl
 | 3,_=>rfl
 | 4,_=>rfl
 | 5,_=>rfl
 | 6,_=>rfl
 | 7,_=>rfl
 | 8,_=>rfl
 | 9,_=>rfl
 | 10,_=>rfl
 | 11,_=>rfl
 | q+12,hq=>exact absurd hq (by omega)
def RdI (r eb:Nat) (C:Nat→Array Value) (ys:List Int) (L:List Nat) (w0:World) (k:Nat) (W:World):Prop:=
 RdAt W r (Pl.vints (L.drop k)++ys)∧W.heap[eb]?=some (.cells (C k) 175 (0,0))∧Off (fun g=>g=r∨g=eb) w0 W
theorem RdI.below {r eb:Nat} {C:Nat→Array Value} {ys:List Int} {L:List Nat} {w0 W W':World} {k:Nat} (h:RdI r eb C ys L w0 k W) (hb:Below W.heap.size W W'):RdI r eb C ys L w0 k W':=
 ⟨h.1.below hb,(hb.block eb (gsi.1 h.2.1).1).trans h.2.1,h.2.2.trans (Off.of_below hb)⟩
theorem rstep (r eb j k:Nat) (C:Nat→Array Value) (u:Value) (ys:List Int) (L:List Nat) (w0 W:World) (h:RdI r eb C ys L w0 k W) (hk:k<L.length) (hn:L[k]≤1099511627776) (hj:(C k)[j]?=some u) (hC:(C k).setIfInBounds j (.int .i64 (L[k]:Nat))=C (k+1)) :
  Calls prog 185 #[.agg #[Qp r],.pointer (some ⟨eb,j,none⟩)] W fun e w'=>e=.returned (.tuple #[])∧RdI r eb C ys L w0 (k+1) w':=by
 obtain⟨h1,h2,h3⟩:=h
 rw[List.drop_eq_getElem_cons hk,Pl.vints_cons,List.append_assoc]at h1
 refine(rF r eb j 175 (C k) u L[k] _ W h1 hn h2 (by decide) hj).mono ?_
 rintro e w' ⟨rfl,i1,i2,o⟩
 exact⟨rfl,i1,by rw[←hC];exact i2,h3.trans o⟩
theorem rget_ok (r eb:Nat) (e:Pl.Ev) (ys:List Int) (w:World) (h:RdAt w r (Pl.vints e.nums++ys)) (hx:w.heap[eb]?=some (.cells Qen 175 (0,0))) (he:e.Ok) :
  Calls prog 187 #[Qp eb,.iface 299 (.agg #[Qp r])] w fun x w'=>x=.returned (.tuple #[])∧RdAt w' r ys∧w'.heap[eb]?=some (.cells (eva e) 175 (0,0))∧Off (fun g=>g=r∨g=eb) w w':=by
 have hL:=he.small
 rcases he.cases with⟨n,s,t,k,v,rfl,_⟩ | ⟨n,s,t,k,mn,mx,goal,slack,up,down,cool,rfl,_⟩
 ·rw[Pl.smp_nums]at h hL
  refine(through_r r eb (fun q W=>q≤6∧RdI r eb (parS n s t k v) ys [n,s,t,1,k,v] w q W) w ⟨by decide,h,hx,Off.refl _ _⟩ (fun q W W' h b=>⟨h.1,h.2.below b⟩) (fun q hq W h=>?_) (fun q W hq h=>?_)).mono ?_
  ·have hj:∃u,(parS n s t k v q)[q]?=some u:=by
    match q,hq with
    | 0,_=>exact⟨_,rfl⟩
    | 1,_=>exact⟨_,rfl⟩
    | 2,_=>exact⟨_,rfl⟩
    | 3,_=>exact⟨_,rfl⟩
    | 4,_=>exact⟨_,rfl⟩
    | 5,_=>exact⟨_,rfl⟩
    | q+6,hq=>exact absurd hq (by omega)
   obtain⟨u,hj⟩:=hj
   refine(rstep r eb q q _ u ys [n,s,t,1,k,v] w W h.2 hq (hL _ (List.getElem_mem _)) hj (parS_next n s t k v q hq)).mono ?_
   rintro e w' ⟨rfl,i1⟩
   exact⟨rfl,by omega,i1⟩
  ·refine zF (j:=3) h.2.2.1 (show some (Value.int .i64 (if 3<q then((1:Nat):Int)else 0))=_ from ?_)
   rw[if_pos (by omega)];rfl
  ·rintro x w' ⟨rfl,_,i1,i2,i3⟩
   exact⟨rfl,by simpa[Pl.vints]using i1,i2,i3⟩
 ·rw[Pl.stt_nums]at h hL
  refine(sF r eb (fun q W=>(q≤12∧RdI r eb (parT n s t k mn mx goal slack up down cool) ys [n,s,t,2,k,mn,mx,goal,slack,up,down,cool,0] w q W)∨(q=13∧RdAt W r ys∧W.heap[eb]?=some (.cells (Qe (n:Int) (s:Int) (t:Int) 2 (k:Int) 0 (mn:Int) (mx:Int) (goal:Int) (slack:Int) (up:Int) (down:Int) (cool:Int)) 175 (0,0))∧Off (fun g=>g=r∨g=eb) w W)) w (.inl ⟨by decide,h,hx,Off.refl _ _⟩) (fun q W W' h b=>?_) (fun q hq W h=>?_) (fun q W hq h=>?_) (fun q W h=>?_) (fun W h=>?_)).mono ?_
  ·rcases h with h | ⟨h1,h2,h3,h4⟩
   ·exact .inl ⟨h.1,h.2.below b⟩
   ·exact .inr ⟨h1,h2.below b,(b.block eb (gsi.1 h3).1).trans h3,h4.trans (Off.of_below b)⟩
  ·rcases h with h | ⟨h1,_⟩
   ·have hj:∃u,(parT n s t k mn mx goal slack up down cool q)[if q<5 then q else q+1]?=some u:=by
     match q,hq with
     | 0,_=>exact⟨_,rfl⟩
     | 1,_=>exact⟨_,rfl⟩
     | 2,_=>exact⟨_,rfl⟩
     | 3,_=>exact⟨_,rfl⟩
     | 4,_=>exact⟨_,rfl⟩
     | 5,_=>exact⟨_,rfl⟩
     | 6,_=>exact⟨_,rfl⟩
     | 7,_=>exact⟨_,rfl⟩
     | 8,_=>exact⟨_,rfl⟩
     | 9,_=>exact⟨_,rfl⟩
     | 10,_=>exact⟨_,rfl⟩
     | 11,_=>exact⟨_,rfl⟩
     | q+12,hq=>exact absurd hq (by omega)
    obtain⟨u,hj⟩:=hj
    refine(rstep r eb _ q _ u ys [n,s,t,2,k,mn,mx,goal,slack,up,down,cool,0] w W h.2 (by simp;omega) (hL _ (List.getElem_mem _)) hj (parT_next n s t k mn mx goal slack up down cool q hq)).mono ?_
    rintro e w' ⟨rfl,i1⟩
    exact⟨rfl,.inl ⟨by omega,i1⟩⟩
   ·omega
  ·rcases h with h | ⟨_,_,h3,_⟩
   ·refine zF (j:=3) h.2.2.1 (show some (Value.int .i64 (if 3<q then((2:Nat):Int)else 0))=_ from ?_)
    rw[if_pos (by omega)];rfl
   ·exact cc 3 h3
  ·rcases h with h | ⟨_,_,h3,_⟩
   ·exact cc 13 h.2.2.1
   ·exact cc 13 h3
  ·rcases h with⟨_,h1,h2,h3⟩ | ⟨h1,_⟩
   ·have b:=bn W (.cells (Qo 0) 3)
    have hH:=heap_alloc_new W (.cells (Qo 0) 3)
    have hlt:=(gsi.1 h2).1
    refine(rF r W.heap.size 0 3 (Qo 0) (.int .i64 0) 0 ys _ (RdAt.below (show RdAt W r (Pl.vint 0++ys) by simpa[Pl.vints]using h1) b) (by decide) hH (by decide) rfl).mono ?_
    rintro e w' ⟨rfl,i1,i2,o⟩
    refine⟨rfl,.inr ⟨rfl,i1,?_,?_⟩,i2⟩
    ·refine(o.same eb (Nat.lt_of_lt_of_le hlt b.size) (fun e=>?_)).trans ((b.block eb hlt).trans h2)
     rcases e with e | e
     ·obtain⟨v,⟨cs',h5,_⟩,_⟩:=h1
      rw[e,h5]at h2;exact zI (by decide) h2
     ·omega
    ·have hs:=h3.size
     exact h3.trans ((Off.of_below b).trans (o.mono (fun g _ hg=>hg.imp id (fun e=>e))) |>.mono (fun g hg hh=>by
      rcases hh with hh | hh
      ·exact .inl hh
      ·omega))
   ·omega
  ·rintro x w' ⟨rfl,h | ⟨_,h1,h2,h3⟩⟩
   ·omega
   ·exact⟨rfl,h1,h2,h3⟩
theorem Off.to_below {p:Nat} {w0 w w':World} (o:Off (· = p) w w') (b:Below w0.heap.size w0 w) (hp:w0.heap.size≤p):Below w0.heap.size w0 w':=o.since b (fun g hg=>by rw[show g=p from hg];exact hp)
theorem eput_ok (e:Pl.Ev) (w:World) (he:e.Ok):Calls prog 376 #[evv e] w fun r w'=>∃v',r=.returned (.tuple #[v',.int .i64 0])∧OwnB w.heap.size w' v' (Pl.vints e.nums)∧Below w.heap.size w w':=by
 have b1:=bn w (.cells e 175)
 have b2:=b1.alloc b1.size (.cells (Qo 0) 41)
 have b3:=b2.alloc b2.size (.cells #[.slice none 0 0] 373)
 have hx1:=heap_alloc_new w (.cells e 175)
 have hx2:=((bn _ (.cells (Qo 0) 41)).block _ (gsi.1 hx1).1).trans hx1
 have hx3:=((bn _ (.cells #[.slice none 0 0] 373)).block _ (gsi.1 hx2).1).trans hx2
 have hy2:=heap_alloc_new (w.alloc (.cells e 175)) (.cells (Qo 0) 41)
 rw[zE]at hy2
 have hy3:=((bn _ (.cells #[.slice none 0 0] 373)).block _ (gsi.1 hy2).1).trans hy2
 have hz3:=heap_alloc_new ((w.alloc (.cells e 175)).alloc (.cells (Qo 0) 41)) (.cells #[.slice none 0 0] 373)
 rw[zE,zE]at hz3
 have hwr:WrAt w.heap.size (((w.alloc (.cells e 175)).alloc (.cells (Qo 0) 41)).alloc (.cells #[.slice none 0 0] 373)) (w.heap.size+1+1) []:=⟨by omega,_,hz3,xS _ _⟩
 have qO:=zA (wput_ok w.heap.size (w.heap.size+1+1) e [] _ hwr b3.size (by simp) he)
 have HB:=zA b3
 have HY:=zA hy3
 have c0:=cc 0 hx3
 have c1:=cc 1 hx3
 have c2:=cc 2 hx3
 have c3:=cc 3 hx3
 have c4:=cc 4 hx3
 have c5:=cc 5 hx3
 have c6:=cc 6 hx3
 have c7:=cc 7 hx3
 have c8:=cc 8 hx3
 have c9:=cc 9 hx3
 have c10:=cc 10 hx3
 have c11:=cc 11 hx3
 have c12:=cc 12 hx3
 have c13:=cc 13 hx3
 clear b1 b2 b3 hx1 hx2 hx3 hy2 hy3 hz3 hwr
 go_enter_defers func376,ntmps376
 go_wp2_with fail
 generalize (((w.alloc (.cells e 175)).alloc (.cells (Qo 0) 41)).alloc (.cells #[.slice none 0 0] 373))=W at *
 refine qO.out.mono ?_
 rintro x w1 ⟨rfl,hw1,o1⟩
 have hb1:=o1.to_below HB.out (by omega)
 have hy1:=(o1.same _ (gsi.1 HY.out).1 (fun e=>by have:w.heap.size+1=w.heap.size+1+1:=e;omega)).trans HY.out
 rw[List.nil_append]at hw1
 have hwz:=hw1.other hy1 (by decide) 0 (.int .i64 0)
 obtain⟨_,v,hv,rX⟩:=hw1
 have cp:=cc 0 hv
 have cf:=cc 0 hy1
 have ff:=zB hy1 0
 have hownz:OwnB w.heap.size (w1.setCell ⟨w.heap.size+1,0,none⟩ (.int .i64 0)) v (Pl.vints e.nums):=rX.keep (fun g cs fr hg=>Below.heap_setCell _ _ _ _ (fun e=>by
  rw[show g=w.heap.size+1 from e,hy1]at hg;exact zI (by decide) hg))
 have hbz:=zP hb1 (show w.heap.size≤w.heap.size+1 by omega) 0 (.int .i64 0)
 have cz:=World.cell?_setCell_same w1 ⟨w.heap.size+1,0,none⟩ (.int .i64 0) cf
 have HO:=zA hownz
 have HBZ:=zA hbz
 clear hwz hv rX hy1 hb1 o1 hownz hbz c0 c1 c2 c3 c4 c5 c6 c7 c8 c9 c10 c11 c12 c13 qO
 go_wp2_with fail
 refine leaves_cons (f:=184) (args:=#[Qp (w.heap.size+1)]) (by simp) (by simp[go_sem]) ?_
 refine(vS _ _).mono ?_
 rintro e' u' w'' ⟨rfl,rfl,rfl⟩
 generalize w1.setCell ⟨w.heap.size+1,0,none⟩ (.int .i64 0)=Z at *
 simp[Leaves,settle,results,results376,go_sem,cz]
 exact⟨HO.out,HBZ.out⟩
theorem told3_ok (e:Pl.Ev) (w:World) (he:e.Ok):Calls prog 348 #[evv e] w fun r w'=>∃v',r=.returned v'∧OwnB w.heap.size w' v' (3::Pl.vints e.nums)∧Below w.heap.size w w':=by
 have b1:=bn w (.cells e 175)
 have hx1:=heap_alloc_new w (.cells e 175)
 have qO:=zA (eput_ok e (w.alloc (.cells e 175)) he)
 have HB:=zA b1
 have qJ:=zA (show(Pl.vints e.nums).length≤100 by have:=Pl.vints_len e.nums he.small;have:=he.len;omega)
 have c0:=cc 0 hx1
 have c1:=cc 1 hx1
 have c2:=cc 2 hx1
 have c3:=cc 3 hx1
 have c4:=cc 4 hx1
 have c5:=cc 5 hx1
 have c6:=cc 6 hx1
 have c7:=cc 7 hx1
 have c8:=cc 8 hx1
 have c9:=cc 9 hx1
 have c10:=cc 10 hx1
 have c11:=cc 11 hx1
 have c12:=cc 12 hx1
 have c13:=cc 13 hx1
 clear b1 hx1
 go_enter func348,ntmps348
 go_wp2_with fail
 generalize (w.alloc (.cells e 175))=W at *
 refine qO.out.mono ?_
 rintro x w1 ⟨v1,rfl,o1,b1⟩
 have HO1:=zA o1
 have HB1:=zA (HB.out.trans (b1.mono HB.out.size))
 clear b1 o1 qO c0 c1 c2 c3 c4 c5 c6 c7 c8 c9 c10 c11 c12 c13
 go_wp2_with fail
 refine(xZ rfl).mono ?_
 rintro x w' ⟨rfl,rfl⟩
 have b2:=bn w1 (.cells #[.int .u8 3] 5)
 have rX:OwnB w.heap.size (w1.alloc (.cells #[.int .u8 3] 5)) (.slice (some ⟨w1.heap.size,0,none⟩) 1 1) [3]:=⟨rfl,.inr ⟨w1.heap.size,1,#[.int .u8 3],rfl,HB1.out.size,heap_alloc_new w1 _,Nat.le_refl _,by decide,rfl,rfl⟩⟩
 have HOW:=zA rX
 have qC:=zA (HO1.out.toT.toC.below b2)
 have HB2:=zA (HB1.out.trans (b2.mono HB1.out.size))
 clear rX b2
 go_wp2_with (
  at_builtin
  refine xJ rfl (.tmp 14) (.tmp 15) rfl rfl HOW.out rfl qC.out (by have:=qJ.out;simp;omega) HB2.out HB2.out.size ?_
  intro v2 w2 pI hb2 hg2)
 go_ret
 exact⟨v2,rfl,pI,hb2⟩
end
end Go.Proofs.YtodlmbfbfaofcaaGreat
