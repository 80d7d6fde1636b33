/- TopLoads, part 19. -/
import Derived.Test.YtodlmbfbfaofcaaGreatM01
import Derived.Test.YtodlmbfbfaofcaaGreatM03
import Derived.Test.YtodlmbfbfaofcaaGreatM07
import Derived.Test.YtodlmbfbfaofcaaGreatM16
import Derived.Test.YtodlmbfbfaofcaaGreatM17
import Derived.Test.YtodlmbfbfaofcaaGreatM18
open Go.Proofs.Tryz
namespace Go.Proofs.YtodlmbfbfaofcaaGreat
set_option linter.unusedVariables false
set_option linter.unusedSimpArgs false
set_option maxRecDepth 100000
set_option maxHeartbeats 4000000
section
open Go.RowKit Rw Rh
theorem ping_ok (D T O S n:Nat) (c0 c1 c2:Int) (a b q:Int) (ao:Option Addr) (nm cap:Nat) (w:World) (h:DtAt w D T O S n c0 c1 c2) :
  Calls prog 117 #[Qp D,.agg (Qrj 1 a b q (.slice ao nm cap))] w fun r w'=>∃ad:Addr,r=.returned (.slice (some ad) 1 1)∧Below w.heap.size w w':=by
 have b1:=bn w (.cells (Qrj 1 a b q (.slice ao nm cap)) 115)
 have HX:=zA (heap_alloc_new w (.cells (Qrj 1 a b q (.slice ao nm cap)) 115))
 have HB:=zA b1
 have HS:=zA (fun (W:World) (hW:Below w.heap.size w W)=>send_ok D T O S n c0 c1 c2 2 a q n W (h.below hW))
 have HD:=zA (zX h.ms b1)
 clear h b1
 go_enter func117,ntmps117
 go_wp2_with fail
 generalize w.alloc (.cells (Qrj 1 a b q (.slice ao nm cap)) 115)=W at *
 refine zD (fun W'=>W'.heap[D]?=some (.cells #[.int .i64 n,.int .i64 1,.int .i64 c0,.int .i64 c1,.int .i64 c2,Qp T,Qp O,.int .i64 0,.int .i64 0,.pointer none,.int .i64 0,.map (some S),.slice none 0 0,.bool false] 210 (0,0))∧W'.heap[w.heap.size]?=some (.cells (Qrj 1 a b q (.slice ao nm cap)) 115 (0,0))) 99 (by kernel_rfl) ⟨HD.out,HX.out⟩ (fun rV=>?_)
 refine tkp 0 5 rfl ?_
 refine tkp 1 6 rfl ?_
 refine tk 2 7 rfl (by intro wS hSw;obtain⟨x,y⟩:=id hSw;have q0:=cc 0 x;have p1:=cc 1 y;have p3:=cc 3 y;clear hSw;go_simp;(try with_reducible rfl)) ?_
 refine tkp 3 8 rfl ?_
 refine tk 4 9 rfl (by intro wS hSw;obtain⟨x,y⟩:=id hSw;have q0:=cc 0 x;have p1:=cc 1 y;have p3:=cc 3 y;clear hSw;go_simp;(try with_reducible rfl)) ?_
 refine tkp 5 10 rfl ?_
 refine tkp 6 11 rfl ?_
 refine tkp 7 12 rfl ?_
 refine tk 8 13 rfl (by intro wS hSw;obtain⟨x,y⟩:=id hSw;have q0:=cc 0 x;have p1:=cc 1 y;have p3:=cc 3 y;clear hSw;go_simp;(try with_reducible rfl)) ?_
 refine t1 9 rfl (fun K hK=>?_)
 go_simp
 refine(HS.out W.drew (HB.out.trans ((Below.refl _ _).drew.mono HB.out.size))).mono ?_
 rintro r w1 ⟨ao1,m1,cap1,rfl,hb⟩
 have hb':=((Below.refl _ _).drew).trans hb
 have HB1:=zA (HB.out.trans (hb'.mono HB.out.size))
 have HX1:=zA (zX HX.out hb')
 have HD1:=zA (zX HD.out hb')
 clear hb hb' rV HX HB
 refine hK.out _ _ (fun _=>⟨HD1.out,HX1.out⟩) (fun _=>?_)
 clear hK K
 try simp only[pt,List.set]
 have rV:=And.intro HD1.out HX1.out
 refine t1 10 rfl (fun K hK=>?_)
 go_simp
 generalize hob:Obj.cells #[Value.int .i64 2,.int .i64 n,.int .i64 a,.int .i64 q,.int .i64 n,.int .i64 0,.int .i64 0,.int .i64 0,.int .i64 0,.int .i64 0,.int .i64 0,.int .i64 0,.int .i64 0,.slice none 0 0,.slice none 0 0,.slice ao1 m1 cap1] 115=ob
 have HB2:=zA (HB1.out.alloc HB1.out.size ob)
 have HX2:=zA (zX HX1.out (bn _ ob))
 have HD2:=zA (zX HD1.out (bn _ ob))
 clear rV
 refine hK.out _ _ (fun _=>⟨HD2.out,HX2.out⟩) (fun _=>?_)
 clear hK K
 try simp only[pt,List.set]
 have rV:=And.intro HD2.out HX2.out
 refine tkp 11 4 rfl ?_
 refine wd ?_
 go_wp2_with fail
 go_ret
 exact⟨_,rfl,HB2.out⟩
theorem nothing_4 (D:Nat) (a b q:Int) (U:Nat→Nat) (ao:Option Addr) (nm cap:Nat) (w:World) :
  Calls prog 120 #[Qp D,.agg (Qsu 4 a b q U (.slice ao nm cap))] w fun r w'=>r=.returned (.slice none 0 0)∧Below w.heap.size w w':=by
 have HB:=zA (bn w (.cells (Qsu 4 a b q U (.slice ao nm cap)) 115))
 go_enter func120,ntmps120
 go_wp2_with fail
 go_ret
 exact⟨rfl,HB.out⟩
theorem nothing_5 (D:Nat) (a b q:Int) (ao:Option Addr) (nm cap:Nat) (w:World) :
  Calls prog 120 #[Qp D,.agg (Qtk 5 a b (.slice ao nm cap))] w fun r w'=>r=.returned (.slice none 0 0)∧Below w.heap.size w w':=by
 have HB:=zA (bn w (.cells (Qtk 5 a b (.slice ao nm cap)) 115))
 go_enter func120,ntmps120
 go_wp2_with fail
 go_ret
 exact⟨rfl,HB.out⟩
theorem don_4 (D T O S n:Nat) (c0 c1 c2:Int) (a q:Int) (U:Nat→Nat) (ao:Option Addr) (nm:Nat) (cap:Nat) (w:World) (h:DtAt w D T O S n c0 c1 c2) (hm:∀W,Below w.heap.size w W→Calls prog 114 #[.agg (Qsu 4 a (n:Int) q U (.slice ao nm cap))] W fun r w'=>r=.returned (.bool true)∧Below W.heap.size W w') :
  Calls prog 51 #[Qp D,.agg (Qsu 4 a (n:Int) q U (.slice ao nm cap))] w fun r w'=>r=.returned (.tuple #[.slice none 0 0,.int .i64 0])∧Below w.heap.size w w':=by
 have b1:=bn w (.cells (Qsu 4 a (n:Int) q U (.slice ao nm cap)) 115)
 have HX:=zA (heap_alloc_new w (.cells (Qsu 4 a (n:Int) q U (.slice ao nm cap)) 115))
 have HB:=zA b1
 have HD:=zA (zX h.ms b1)
 have HM:=zA (hm _ (b1.trans ((Below.refl _ _).drew.mono b1.size)))
 have HDT:=zA (fun (W:World) (hW:Below w.heap.size w W)=>h.below hW)
 have HLT:=zA h.lt
 clear h b1 hm
 go_enter func51,ntmps51
 go_wp2_with fail
 generalize w.alloc (.cells (Qsu 4 a (n:Int) q U (.slice ao nm cap)) 115)=W at *
 refine zD (fun W'=>W'.heap[D]?=some (.cells #[.int .i64 n,.int .i64 1,.int .i64 c0,.int .i64 c1,.int .i64 c2,Qp T,Qp O,.int .i64 0,.int .i64 0,.pointer none,.int .i64 0,.map (some S),.slice none 0 0,.bool false] 210 (0,0))∧W'.heap[w.heap.size]?=some (.cells (Qsu 4 a (n:Int) q U (.slice ao nm cap)) 115 (0,0))) 99 (by kernel_rfl) ⟨HD.out,HX.out⟩ (fun rV=>?_)
 refine tl 0 13 rfl 115 (.tmp 3) w.heap.size rfl rfl (fun wS hSw=>hSw.2) underlying115 ?_
 refine t1 1 rfl (fun K hK=>?_)
 go_simp
 refine HM.out.mono ?_
 rintro r w1 ⟨rfl,hb⟩
 have hb':=((Below.refl _ _).drew).trans hb
 have HB1:=zA (HB.out.trans (hb'.mono HB.out.size))
 have HX1:=zA (zX HX.out hb')
 have HD1:=zA (zX HD.out hb')
 clear hb hb' rV HX HB HD HM
 refine hK.out _ _ (fun _=>⟨HD1.out,HX1.out⟩) (fun _=>?_)
 clear hK K
 try simp only[pt,List.set]
 have rV:=And.intro HD1.out HX1.out
 refine tkp 2 15 rfl ?_
 refine tkp 3 16 rfl ?_
 refine tkp 4 17 rfl ?_
 refine tk 5 18 rfl (by intro wS hSw;obtain⟨x,y⟩:=id hSw;have q0:=cc 0 x;have p2:=cc 2 y;clear hSw;go_simp;(try with_reducible rfl)) ?_
 refine tkp 6 19 rfl ?_
 refine tkp 7 20 rfl ?_
 refine tkp 8 21 rfl ?_
 refine tk 9 22 rfl (by intro wS hSw;obtain⟨x,y⟩:=id hSw;have q0:=cc 0 x;have p2:=cc 2 y;clear hSw;go_simp;(try with_reducible rfl)) ?_
 refine tkp 10 23 rfl ?_
 refine tkp 11 24 rfl ?_
 refine tkp 12 12 rfl ?_
 refine wd ?_
 clear rV
 have d13:=cc 13 HD1.out
 have p15:=cc 15 HX1.out
 go_wp2_with fail
 refine wp_loop_rounds 1 ?_
 rw[rounds_succ]
 go_wp2_with fail
 refine(wL D T O S n c0 c1 c2 w1 (HDT.out w1 HB1.out)).mono ?_
 rintro r w4 ⟨rfl,hb⟩
 have HBZ:=zA (hb.alloc hb.size (.cells #[.nilFunc,Qm 117,Qm 118,Qm 119,Qm 120,Qm 120] 216))
 have HY5:=zA (heap_alloc_new w4 (.cells #[.nilFunc,Qm 117,Qm 118,Qm 119,Qm 120,Qm 120] 216))
 have HX5:=zA (zX HX1.out HBZ.out)
 clear hb p15 d13
 go_wp2_with (refine zJ rfl 216 (.tmp 8) (.tmp 43) #[.nilFunc,.nilFunc,.nilFunc,.nilFunc,.nilFunc,.nilFunc] #[.nilFunc,Qm 117,Qm 118,Qm 119,Qm 120,Qm 120] rfl rfl _ rfl rfl rfl (by kernel_rfl) rfl (by kernel_rfl) rfl ?_)
 generalize w4.alloc (.cells #[.nilFunc,Qm 117,Qm 118,Qm 119,Qm 120,Qm 120] 216)=w5 at *
 refine zD (fun W'=>W'.heap[w4.heap.size]?=some (.cells #[.nilFunc,Qm 117,Qm 118,Qm 119,Qm 120,Qm 120] 216 (0,0))∧W'.heap[w.heap.size]?=some (.cells (Qsu 4 a (n:Int) q U (.slice ao nm cap)) 115 (0,0))) 99 (by kernel_rfl) ⟨HY5.out,HX5.out⟩ (fun rV=>?_)
 refine tkp 0 44 rfl ?_
 refine tk 1 45 rfl (by intro wS hSw;obtain⟨x,y⟩:=id hSw;have q4:=cc 4 x;have p0:=cc 0 y;clear hSw;go_simp;(try with_reducible rfl)) ?_
 refine tkp 2 46 rfl ?_
 refine tk 3 47 rfl (by intro wS hSw;obtain⟨x,y⟩:=id hSw;have q4:=cc 4 x;have p0:=cc 0 y;clear hSw;go_simp;(try with_reducible rfl)) ?_
 refine tkp 4 48 rfl ?_
 refine tl 5 49 rfl 115 (.tmp 3) w.heap.size rfl rfl (fun wS hSw=>hSw.2) underlying115 ?_
 refine t1 6 rfl (fun K hK=>?_)
 go_simp
 refine(nothing_4 D a n q U ao nm cap w5.drew).mono ?_
 rintro r w6 ⟨rfl,hb⟩
 have HB6:=zA (HBZ.out.trans (((Below.refl _ _).drew.trans hb).mono HBZ.out.size))
 have hHD:=And.intro (zX HY5.out ((Below.refl _ _).drew.trans hb)) (zX HX5.out ((Below.refl _ _).drew.trans hb))
 clear hb rV
 refine hK.out _ _ (fun _=>hHD) (fun _=>?_)
 clear hK K
 try simp only[pt,List.set]
 have rV:=hHD
 refine tkp 7 4 rfl ?_
 refine tkp 8 5 rfl ?_
 refine wd ?_
 clear rV hHD
 go_wp2_with fail
 exact bodyPost_ret (v:=.tuple #[.slice none 0 0,.int .i64 0]) (by simp[results,results51,go_sem]) rfl ⟨rfl,HB1.out.trans (HB6.out.mono HB1.out.size)⟩
theorem don_5 (D T O S n:Nat) (c0 c1 c2:Int) (a q:Int) (ao:Option Addr) (nm:Nat) (cap:Nat) (w:World) (h:DtAt w D T O S n c0 c1 c2) (hm:∀W,Below w.heap.size w W→Calls prog 114 #[.agg (Qtk 5 a (n:Int) (.slice ao nm cap))] W fun r w'=>r=.returned (.bool true)∧Below W.heap.size W w') :
  Calls prog 51 #[Qp D,.agg (Qtk 5 a (n:Int) (.slice ao nm cap))] w fun r w'=>r=.returned (.tuple #[.slice none 0 0,.int .i64 0])∧Below w.heap.size w w':=by
 have b1:=bn w (.cells (Qtk 5 a (n:Int) (.slice ao nm cap)) 115)
 have HX:=zA (heap_alloc_new w (.cells (Qtk 5 a (n:Int) (.slice ao nm cap)) 115))
 have HB:=zA b1
 have HD:=zA (zX h.ms b1)
 have HM:=zA (hm _ (b1.trans ((Below.refl _ _).drew.mono b1.size)))
 have HDT:=zA (fun (W:World) (hW:Below w.heap.size w W)=>h.below hW)
 have HLT:=zA h.lt
 clear h b1 hm
 go_enter func51,ntmps51
 go_wp2_with fail
 generalize w.alloc (.cells (Qtk 5 a (n:Int) (.slice ao nm cap)) 115)=W at *
 refine zD (fun W'=>W'.heap[D]?=some (.cells #[.int .i64 n,.int .i64 1,.int .i64 c0,.int .i64 c1,.int .i64 c2,Qp T,Qp O,.int .i64 0,.int .i64 0,.pointer none,.int .i64 0,.map (some S),.slice none 0 0,.bool false] 210 (0,0))∧W'.heap[w.heap.size]?=some (.cells (Qtk 5 a (n:Int) (.slice ao nm cap)) 115 (0,0))) 99 (by kernel_rfl) ⟨HD.out,HX.out⟩ (fun rV=>?_)
 refine tl 0 13 rfl 115 (.tmp 3) w.heap.size rfl rfl (fun wS hSw=>hSw.2) underlying115 ?_
 refine t1 1 rfl (fun K hK=>?_)
 go_simp
 refine HM.out.mono ?_
 rintro r w1 ⟨rfl,hb⟩
 have hb':=((Below.refl _ _).drew).trans hb
 have HB1:=zA (HB.out.trans (hb'.mono HB.out.size))
 have HX1:=zA (zX HX.out hb')
 have HD1:=zA (zX HD.out hb')
 clear hb hb' rV HX HB HD HM
 refine hK.out _ _ (fun _=>⟨HD1.out,HX1.out⟩) (fun _=>?_)
 clear hK K
 try simp only[pt,List.set]
 have rV:=And.intro HD1.out HX1.out
 refine tkp 2 15 rfl ?_
 refine tkp 3 16 rfl ?_
 refine tkp 4 17 rfl ?_
 refine tk 5 18 rfl (by intro wS hSw;obtain⟨x,y⟩:=id hSw;have q0:=cc 0 x;have p2:=cc 2 y;clear hSw;go_simp;(try with_reducible rfl)) ?_
 refine tkp 6 19 rfl ?_
 refine tkp 7 20 rfl ?_
 refine tkp 8 21 rfl ?_
 refine tk 9 22 rfl (by intro wS hSw;obtain⟨x,y⟩:=id hSw;have q0:=cc 0 x;have p2:=cc 2 y;clear hSw;go_simp;(try with_reducible rfl)) ?_
 refine tkp 10 23 rfl ?_
 refine tkp 11 24 rfl ?_
 refine tkp 12 12 rfl ?_
 refine wd ?_
 clear rV
 have d13:=cc 13 HD1.out
 have p15:=cc 15 HX1.out
 go_wp2_with fail
 refine wp_loop_rounds 1 ?_
 rw[rounds_succ]
 go_wp2_with fail
 refine(wL D T O S n c0 c1 c2 w1 (HDT.out w1 HB1.out)).mono ?_
 rintro r w4 ⟨rfl,hb⟩
 have HBZ:=zA (hb.alloc hb.size (.cells #[.nilFunc,Qm 117,Qm 118,Qm 119,Qm 120,Qm 120] 216))
 have HY5:=zA (heap_alloc_new w4 (.cells #[.nilFunc,Qm 117,Qm 118,Qm 119,Qm 120,Qm 120] 216))
 have HX5:=zA (zX HX1.out HBZ.out)
 clear hb p15 d13
 go_wp2_with (refine zJ rfl 216 (.tmp 8) (.tmp 43) #[.nilFunc,.nilFunc,.nilFunc,.nilFunc,.nilFunc,.nilFunc] #[.nilFunc,Qm 117,Qm 118,Qm 119,Qm 120,Qm 120] rfl rfl _ rfl rfl rfl (by kernel_rfl) rfl (by kernel_rfl) rfl ?_)
 generalize w4.alloc (.cells #[.nilFunc,Qm 117,Qm 118,Qm 119,Qm 120,Qm 120] 216)=w5 at *
 refine zD (fun W'=>W'.heap[w4.heap.size]?=some (.cells #[.nilFunc,Qm 117,Qm 118,Qm 119,Qm 120,Qm 120] 216 (0,0))∧W'.heap[w.heap.size]?=some (.cells (Qtk 5 a (n:Int) (.slice ao nm cap)) 115 (0,0))) 99 (by kernel_rfl) ⟨HY5.out,HX5.out⟩ (fun rV=>?_)
 refine tkp 0 44 rfl ?_
 refine tk 1 45 rfl (by intro wS hSw;obtain⟨x,y⟩:=id hSw;have q5:=cc 5 x;have p0:=cc 0 y;clear hSw;go_simp;(try with_reducible rfl)) ?_
 refine tkp 2 46 rfl ?_
 refine tk 3 47 rfl (by intro wS hSw;obtain⟨x,y⟩:=id hSw;have q5:=cc 5 x;have p0:=cc 0 y;clear hSw;go_simp;(try with_reducible rfl)) ?_
 refine tkp 4 48 rfl ?_
 refine tl 5 49 rfl 115 (.tmp 3) w.heap.size rfl rfl (fun wS hSw=>hSw.2) underlying115 ?_
 refine t1 6 rfl (fun K hK=>?_)
 go_simp
 refine(nothing_5 D a n q ao nm cap w5.drew).mono ?_
 rintro r w6 ⟨rfl,hb⟩
 have HB6:=zA (HBZ.out.trans (((Below.refl _ _).drew.trans hb).mono HBZ.out.size))
 have hHD:=And.intro (zX HY5.out ((Below.refl _ _).drew.trans hb)) (zX HX5.out ((Below.refl _ _).drew.trans hb))
 clear hb rV
 refine hK.out _ _ (fun _=>hHD) (fun _=>?_)
 clear hK K
 try simp only[pt,List.set]
 have rV:=hHD
 refine tkp 7 4 rfl ?_
 refine tkp 8 5 rfl ?_
 refine wd ?_
 clear rV hHD
 go_wp2_with fail
 exact bodyPost_ret (v:=.tuple #[.slice none 0 0,.int .i64 0]) (by simp[results,results51,go_sem]) rfl ⟨rfl,HB1.out.trans (HB6.out.mono HB1.out.size)⟩
theorem don_1 (D T O S n:Nat) (c0 c1 c2:Int) (a q:Int) (ao:Option Addr) (cap:Nat) (w:World) (h:DtAt w D T O S n c0 c1 c2) (nd:Nat) (pB:RowC kMem w (.slice ao 1 cap) [((nd:Int),1,1)]) (hd:nd<8) (hne:nd≠n) (hm:∀W,Below w.heap.size w W→Calls prog 114 #[.agg (Qrj 1 a (n:Int) q (.slice ao 1 cap))] W fun r w'=>r=.returned (.bool true)∧Below W.heap.size W w') :
  Calls prog 51 #[Qp D,.agg (Qrj 1 a (n:Int) q (.slice ao 1 cap))] w fun r w'=>∃ad:Addr,r=.returned (.tuple #[.slice (some ad) 1 1,.int .i64 0])∧DtAt w' D T O S n c0 c1 c2∧Off (· = T) w w':=by
 have b1:=bn w (.cells (Qrj 1 a (n:Int) q (.slice ao 1 cap)) 115)
 have HX:=zA (heap_alloc_new w (.cells (Qrj 1 a (n:Int) q (.slice ao 1 cap)) 115))
 have HB:=zA b1
 have HD:=zA (zX h.ms b1)
 have HM:=zA (hm _ (b1.trans ((Below.refl _ _).drew.mono b1.size)))
 have HDT:=zA (fun (W:World) (hW:Below w.heap.size w W)=>h.below hW)
 have HLT:=zA h.lt
 have HMEM:=zA (fun (W:World) (hW:Below w.heap.size w W)=>pB.below hW)
 have HND:=zA (And.intro hd hne)
 clear pB hd hne
 clear h b1 hm
 go_enter func51,ntmps51
 go_wp2_with fail
 generalize w.alloc (.cells (Qrj 1 a (n:Int) q (.slice ao 1 cap)) 115)=W at *
 refine zD (fun W'=>W'.heap[D]?=some (.cells #[.int .i64 n,.int .i64 1,.int .i64 c0,.int .i64 c1,.int .i64 c2,Qp T,Qp O,.int .i64 0,.int .i64 0,.pointer none,.int .i64 0,.map (some S),.slice none 0 0,.bool false] 210 (0,0))∧W'.heap[w.heap.size]?=some (.cells (Qrj 1 a (n:Int) q (.slice ao 1 cap)) 115 (0,0))) 99 (by kernel_rfl) ⟨HD.out,HX.out⟩ (fun rV=>?_)
 refine tl 0 13 rfl 115 (.tmp 3) w.heap.size rfl rfl (fun wS hSw=>hSw.2) underlying115 ?_
 refine t1 1 rfl (fun K hK=>?_)
 go_simp
 refine HM.out.mono ?_
 rintro r w1 ⟨rfl,hb⟩
 have hb':=((Below.refl _ _).drew).trans hb
 have HB1:=zA (HB.out.trans (hb'.mono HB.out.size))
 have HX1:=zA (zX HX.out hb')
 have HD1:=zA (zX HD.out hb')
 clear hb hb' rV HX HB HD HM
 refine hK.out _ _ (fun _=>⟨HD1.out,HX1.out⟩) (fun _=>?_)
 clear hK K
 try simp only[pt,List.set]
 have rV:=And.intro HD1.out HX1.out
 refine tkp 2 15 rfl ?_
 refine tkp 3 16 rfl ?_
 refine tkp 4 17 rfl ?_
 refine tk 5 18 rfl (by intro wS hSw;obtain⟨x,y⟩:=id hSw;have q0:=cc 0 x;have p2:=cc 2 y;clear hSw;go_simp;(try with_reducible rfl)) ?_
 refine tkp 6 19 rfl ?_
 refine tkp 7 20 rfl ?_
 refine tkp 8 21 rfl ?_
 refine tk 9 22 rfl (by intro wS hSw;obtain⟨x,y⟩:=id hSw;have q0:=cc 0 x;have p2:=cc 2 y;clear hSw;go_simp;(try with_reducible rfl)) ?_
 refine tkp 10 23 rfl ?_
 refine tkp 11 24 rfl ?_
 refine tkp 12 12 rfl ?_
 refine wd ?_
 clear rV
 have d13:=cc 13 HD1.out
 have p15:=cc 15 HX1.out
 go_wp2_with fail
 have qF:=zA (HMEM.out w1 HB1.out)
 obtain⟨g,off,cap',e1,hg,hc⟩:=qF.out.cell (i:=0) (by simp)
 cases e1
 have y0:w1.cell? ⟨g,off,none⟩=some (.int .i64 nd):=by have:=hc 0 _ rfl;simpa using this
 have y1:w1.cell? ⟨g,off+1,none⟩=some (.int .i64 1):=by have:=hc 1 _ rfl;simpa using this
 have y2:w1.cell? ⟨g,off+2,none⟩=some (.int .i64 1):=by have:=hc 2 _ rfl;simpa using this
 clear hc qF
 refine wp_loop_rounds 2 ?_
 rw[rounds_succ]
 have hn1:=heap_alloc_new w1 (.cells (Qj (nd:Int) 1 1) 212)
 have HB2:=zA (HB1.out.alloc HB1.out.size (.cells (Qj (nd:Int) 1 1) 212))
 have HX2:=zA (zX HX1.out (bn _ (.cells (Qj (nd:Int) 1 1) 212)))
 have z0:=cc 0 hn1
 have z1:=cc 1 hn1
 have z2:=cc 2 hn1
 clear hn1
 go_wp2_with fail
 clear y0 y1 y2 z0 z1 z2 hg p15 d13
 generalize w1.alloc (.cells (Qj (nd:Int) 1 1) 212)=w2 at *
 refine(hear_ok D T O S n nd c0 c1 c2 w2 (HDT.out w2 HB2.out) HND.out.1 HND.out.2).mono ?_
 rintro r w3 ⟨rfl,hd3,ho3⟩
 have HD3:=zA hd3
 have HO3:=zA (show Off (· = T) w w3 from(Off.of_below HB2.out).trans ho3)
 have HX3:=zA ((ho3.same w.heap.size (gsi.1 HX2.out).1 (by have:=HLT.out.2.1;omega)).trans HX2.out)
 clear hd3 ho3 HB2 HX2 HB1 HX1 HD1
 go_wp2_with fail
 rw[rounds_succ]
 go_wp2_with fail
 refine(wL D T O S n c0 c1 c2 w3 HD3.out).mono ?_
 rintro r w4 ⟨rfl,hb⟩
 have HBZ:=zA (hb.alloc hb.size (.cells #[.nilFunc,Qm 117,Qm 118,Qm 119,Qm 120,Qm 120] 216))
 have HY5:=zA (heap_alloc_new w4 (.cells #[.nilFunc,Qm 117,Qm 118,Qm 119,Qm 120,Qm 120] 216))
 have HX5:=zA (zX HX3.out HBZ.out)
 clear hb
 go_wp2_with (refine zJ rfl 216 (.tmp 8) (.tmp 43) #[.nilFunc,.nilFunc,.nilFunc,.nilFunc,.nilFunc,.nilFunc] #[.nilFunc,Qm 117,Qm 118,Qm 119,Qm 120,Qm 120] rfl rfl _ rfl rfl rfl (by kernel_rfl) rfl (by kernel_rfl) rfl ?_)
 generalize w4.alloc (.cells #[.nilFunc,Qm 117,Qm 118,Qm 119,Qm 120,Qm 120] 216)=w5 at *
 refine zD (fun W'=>W'.heap[w4.heap.size]?=some (.cells #[.nilFunc,Qm 117,Qm 118,Qm 119,Qm 120,Qm 120] 216 (0,0))∧W'.heap[w.heap.size]?=some (.cells (Qrj 1 a (n:Int) q (.slice (some ⟨g,off,none⟩) 1 cap)) 115 (0,0))) 99 (by kernel_rfl) ⟨HY5.out,HX5.out⟩ (fun rV=>?_)
 refine tkp 0 44 rfl ?_
 refine tk 1 45 rfl (by intro wS hSw;obtain⟨x,y⟩:=id hSw;have q1:=cc 1 x;have p0:=cc 0 y;clear hSw;go_simp;(try with_reducible rfl)) ?_
 refine tkp 2 46 rfl ?_
 refine tk 3 47 rfl (by intro wS hSw;obtain⟨x,y⟩:=id hSw;have q1:=cc 1 x;have p0:=cc 0 y;clear hSw;go_simp;(try with_reducible rfl)) ?_
 refine tkp 4 48 rfl ?_
 refine tl 5 49 rfl 115 (.tmp 3) w.heap.size rfl rfl (fun wS hSw=>hSw.2) underlying115 ?_
 refine t1 6 rfl (fun K hK=>?_)
 go_simp
 have HD5:=zA (show DtAt w5.drew D T O S n c0 c1 c2 from HD3.out.below (HBZ.out.trans ((Below.refl _ _).drew.mono HBZ.out.size)))
 refine(ping_ok D T O S n c0 c1 c2 a n q (some ⟨g,off,none⟩) 1 cap w5.drew HD5.out).mono ?_
 rintro r w6 ⟨ad6,rfl,hb⟩
 have HB6:=zA (HBZ.out.trans (((Below.refl _ _).drew.trans hb).mono HBZ.out.size))
 have hHD:=And.intro (zX HY5.out ((Below.refl _ _).drew.trans hb)) (zX HX5.out ((Below.refl _ _).drew.trans hb))
 clear hb rV
 refine hK.out _ _ (fun _=>hHD) (fun _=>?_)
 clear hK K
 try simp only[pt,List.set]
 have rV:=hHD
 refine tkp 7 4 rfl ?_
 refine tkp 8 5 rfl ?_
 refine wd ?_
 clear rV hHD
 go_wp2_with fail
 exact bodyPost_ret (v:=.tuple #[.slice (some ad6) 1 1,.int .i64 0]) (by simp[results,results51,go_sem]) rfl ⟨_,rfl,HD3.out.below HB6.out,HO3.out.trans (Off.of_below HB6.out)⟩
structure Wc where
 n:Nat
 disk:Int
 nd:Int
 mtu:Int
 win:Int
 kp:Int
 salt:Int
 seed:Int
 c0:Int
 c1:Int
 c2:Int
 net:Addr
 api:Addr
structure WdAt (w:World) (W P:Nat) (c:Wc) (d r:Nat→Value):Prop where
 wd:w.heap[W]?=some (.cells #[.int .i64 c.n,.int .i64 c.disk,.int .i64 c.nd,.int .i64 c.mtu,.int .i64 c.win,.int .i64 c.kp,.int .u64 c.salt,.int .u64 c.seed,.int .i64 c.c0,.int .i64 c.c1,.int .i64 c.c2,.slice (some ⟨P,0,none⟩) c.n c.n,.pointer (some c.net),.pointer (some c.api)] 96 (0,0))
 pl:∃cs,w.heap[P]?=some (.cells cs 91 (0,0))∧cs.size=c.n*3∧∀i,i<c.n→cs[i*3]?=some (d i)∧cs[i*3+1]?=some (r i)∧cs[i*3+2]?=some (.pointer none)
 n1:1≤c.n∧c.n≤8
theorem WdAt.ne {w:World} {W P:Nat} {c:Wc} {d r:Nat→Value} (h:WdAt w W P c d r):W≠P:=fun e=>by
 obtain⟨cs,h1,_⟩:=h.pl
 have h2:=h.wd
 rw[e,h1]at h2
 cases h2
theorem WdAt.lt {w:World} {W P:Nat} {c:Wc} {d r:Nat→Value} (h:WdAt w W P c d r):W<w.heap.size∧P<w.heap.size:=by
 obtain⟨cs,h1,_⟩:=h.pl
 exact⟨(gsi.1 h.wd).1,(gsi.1 h1).1⟩
theorem WdAt.keep {w w':World} {W P:Nat} {c:Wc} {d r:Nat→Value} (h:WdAt w W P c d r) (k:∀g,g=W∨g=P→w'.heap[g]?=w.heap[g]?):WdAt w' W P c d r:=by
 obtain⟨cs,h1,h2⟩:=h.pl
 exact⟨(k W (.inl rfl)).trans h.wd,⟨cs,(k P (.inr rfl)).trans h1,h2⟩,h.n1⟩
theorem WdAt.below {w w':World} {W P:Nat} {c:Wc} {d r:Nat→Value} (h:WdAt w W P c d r) (hb:Below w.heap.size w w'):WdAt w' W P c d r:=
 h.keep (fun g hg=>hb.block g (hg.elim (fun e=>e ▸ h.lt.1) (fun e=>e ▸ h.lt.2)))
theorem WdAt.disk {w:World} {W P:Nat} {c:Wc} {d r:Nat→Value} (h:WdAt w W P c d r) {i:Nat} (hi:i<c.n):w.cell? ⟨P,i*3,none⟩=some (d i):=by
 obtain⟨cs,h1,_,h2⟩:=h.pl
 have:=(h2 i hi).1
 simp[World.cell?,h1,this]
theorem WdAt.runs {w:World} {W P:Nat} {c:Wc} {d r:Nat→Value} (h:WdAt w W P c d r) {i:Nat} (hi:i<c.n):w.cell? ⟨P,i*3+1,none⟩=some (r i):=by
 obtain⟨cs,h1,_,h2⟩:=h.pl
 have:=(h2 i hi).2.1
 simp[World.cell?,h1,this]
theorem vP (x:Int) (w:World):Calls prog 36 #[.bool true,.int .i64 x] w fun r w'=>r=.returned (.tuple #[])∧w=w':=by
 go_enter func36,ntmps36
 go_wp2_with fail
 exact yD results36 ⟨rfl,rfl⟩
theorem tH (x:Int) (w:World):Calls prog 36 #[.bool false,.int .i64 x] w fun r w'=>r=.panicked [{v:=.iface 140 (.agg (Qo x)),recovered:=false}]∧w=w':=by
 go_enter func36,ntmps36
 go_wp2_with fail
 exact⟨rfl,rfl,rfl⟩
theorem xH (w:World):Calls prog 64 (Qo 0) w fun r w'=>r=.returned (.tuple #[])∧w=w':=by
 go_enter func64,ntmps64
 go_wp2_with fail
 exact yD results64 ⟨rfl,rfl⟩
theorem xP (x:Int) (hx:(x != 0)=true) (w:World):Calls prog 64 (Qo x) w fun r w'=>r=.panicked [{v:=.iface 140 (.agg (Qo x)),recovered:=false}]∧w=w':=by
 go_enter func64,ntmps64
 go_wp2_with fail
 exact⟨rfl,rfl,rfl⟩
theorem uA (W P:Nat) (c:Wc) (d r:Nat→Value) (n:Int) (w:World) (h:WdAt w W P c d r):Calls prog 38 #[Qp W,.int .i64 n] w fun x w'=>x=.returned (.bool (Pl.inside n 0 ((c.n:Int) - 1)))∧w=w':=by
 have HX:=zA (cc 11 h.wd)
 have x11:=HX.out
 have hn:=h.n1
 clear h
 go_enter func38,ntmps38
 go_wp2_with fail
 refine(xG n 0 ((c.n:Int) - 1) _).mono ?_
 rintro x w' ⟨rfl,rfl⟩
 go_wp2_with fail
 go_ret
 exact⟨rfl,rfl⟩
theorem wplace_ok (W P:Nat) (c:Wc) (d r:Nat→Value) (n:Nat) (w:World) (h:WdAt w W P c d r) (hn:n<c.n):Calls prog 74 #[Qp W,.int .i64 n] w fun x w'=>x=.returned (.pointer (some ⟨P,n*3,none⟩))∧w=w':=by
 have HI:=zA (uA W P c d r n w h)
 have x11:=cc 11 h.wd
 have hin:Pl.inside n 0 ((c.n:Int) - 1)=true:=(by unfold Pl.inside;simp;omega)
 simp only[hin]at HI
 have h1:(n:Int)<c.n:=by omega
 have h0:¬(n:Int)<0:=by omega
 clear h hin
 go_enter func74,ntmps74
 go_wp2_with fail
 refine HI.out.mono ?_
 rintro x w' ⟨rfl,rfl⟩
 go_wp2_with fail
 refine(vP 2 _).mono ?_
 rintro x w' ⟨rfl,rfl⟩
 go_wp2_with fail
 go_ret
 exact⟨rfl,rfl⟩
theorem wplace_bad (W P:Nat) (c:Wc) (d r:Nat→Value) (n:Int) (w:World) (h:WdAt w W P c d r) (hn:Pl.inside n 0 ((c.n:Int) - 1)=false):Calls prog 74 #[Qp W,.int .i64 n] w fun x w'=>x=.panicked [{v:=.iface 140 (.agg (Qo 2)),recovered:=false}]∧w=w':=by
 have HI:=zA (uA W P c d r n w h)
 simp only[hn]at HI
 clear h hn
 go_enter func74,ntmps74
 go_wp2_with fail
 refine HI.out.mono ?_
 rintro x w' ⟨rfl,rfl⟩
 go_wp2_with fail
 refine(tH 2 _).mono ?_
 rintro x w' ⟨rfl,rfl⟩
 go_wp2_with fail
 exact zW rfl ⟨rfl,rfl⟩
theorem vW (W P:Nat) (c:Wc) (d r:Nat→Value) (n:Nat) (a:Addr) (w:World) (h:WdAt w W P c d r) (hn:n<c.n) (hr:r n=.pointer (some a)):Calls prog 68 #[Qp W,.int .i64 n] w fun x w'=>x=.returned (.pointer (some ⟨P,n*3,none⟩))∧w=w':=by
 have HI:=zA (wplace_ok W P c d r n w h hn)
 have hc:=h.runs hn
 rw[hr]at hc
 clear h
 go_enter func68,ntmps68
 go_wp2_with fail
 refine HI.out.mono ?_
 rintro x w' ⟨rfl,rfl⟩
 go_wp2_with fail
 refine(vP 10 _).mono ?_
 rintro x w' ⟨rfl,rfl⟩
 go_wp2_with fail
 go_ret
 exact⟨rfl,rfl⟩
theorem wrun_bad (W P:Nat) (c:Wc) (d r:Nat→Value) (n:Int) (w:World) (h:WdAt w W P c d r) (hn:Pl.inside n 0 ((c.n:Int) - 1)=false):Calls prog 68 #[Qp W,.int .i64 n] w fun x w'=>x=.panicked [{v:=.iface 140 (.agg (Qo 2)),recovered:=false}]∧w=w':=by
 have HI:=zA (wplace_bad W P c d r n w h hn)
 clear h hn
 go_enter func68,ntmps68
 go_wp2_with fail
 refine HI.out.mono ?_
 rintro x w' ⟨rfl,rfl⟩
 go_wp2_with fail
 exact zW rfl ⟨rfl,rfl⟩
theorem uP (W P:Nat) (c:Wc) (d r:Nat→Value) (n:Nat) (w:World) (h:WdAt w W P c d r) (hn:n<c.n):Calls prog 9 #[Qp W,.int .i64 n] w fun x w'=>x=.returned (r n)∧w=w':=by
 have HI:=zA (uA W P c d r n w h)
 have x11:=cc 11 h.wd
 have hin:Pl.inside n 0 ((c.n:Int) - 1)=true:=(by unfold Pl.inside;simp;omega)
 simp only[hin]at HI
 have hc:=h.runs hn
 have h1:(n:Int)<c.n:=by omega
 have h0:¬(n:Int)<0:=by omega
 clear h hin
 go_enter func9,ntmps9
 go_wp2_with fail
 refine HI.out.mono ?_
 rintro x w' ⟨rfl,rfl⟩
 go_wp2_with fail
 go_ret
 exact⟨rfl,rfl⟩
theorem yA {b:Bool} {x:Int} {w:World} (h:b=true):Calls prog 106 #[.bool b,.int .i64 x] w fun r w'=>r=.returned (.tuple #[])∧w=w':=by
 subst h
 go_enter func106,ntmps106
 go_wp2_with fail
 exact yD results106 ⟨rfl,rfl⟩
theorem zC {w w':World} {g:Nat} {o:Obj} (h:w.heap[g]?=some o) (hb:Below w.heap.size w w'):w'.heap[g]?=some o:=(hb.block _ (gsi.1 h).1).trans h
namespace Pl
def body1 (a b nd st inc q:Nat):List Int:=vints [1,a,b,1,nd,st,inc,q]
def body4 (a b q:Nat) (U:Nat→Nat) (M:List (Nat×Nat)):List Int:=vints [4,a,b,0,q]++vints (nums U M)
def body5 (a b:Nat) (es:List Ev):List Int:=vints [5,a,b,0]++(vint es.length++codes es)
end Pl
theorem zM {n lo hi:Int} (h:lo≤n) (h':n≤hi):Pl.inside n lo hi=true:=by unfold Pl.inside;simp;omega
theorem mput_1 (a b nd st inc q:Nat) (ao:Option Addr) (cap:Nat) (w:World) (h:RowC kMem w (.slice ao 1 cap) [((nd:Int),(st:Int),(inc:Int))]) (ha:a<8) (hb:b<8) (hne:a≠b) (hn:nd<8) (hs:1≤st∧st≤4) (hi:inc≤1099511627776) (hq:q≤1099511627776) :
  Calls prog 91 #[.agg (Qrj 1 (a:Int) (b:Int) (q:Int) (.slice ao 1 cap))] w fun r w'=>∃v',r=.returned (.tuple #[v',.int .i64 0])∧OwnB w.heap.size w' v' (Pl.frame (Pl.body1 a b nd st inc q))∧Below w.heap.size w w':=by
 obtain⟨hx,hy,b1⟩:=zT w (.cells (Qrj 1 (a:Int) (b:Int) (q:Int) (.slice ao 1 cap)) 115) (.cells (Qo 0) 41)
 have HX:=zA hx
 have HY:=zA hy
 have HB:=zA b1
 have HSM:Hid (∀n∈[1,a,b,1,nd,st,inc,q],n≤1099511627776):=zA (by intro n hn;simp at hn;omega)
 have HR:=zA (fun (W:World) (hW:Below w.heap.size w W)=>h.below hW)
 have HRT:=zA (fun (W:World) (hW:Below w.heap.size w W)=>uL W a b q ao 1 cap (zM (by omega) (by omega)) (zM (by omega) (by omega)) (zM (by omega) (by omega)) (by omega) (fun W' hW'=>wH _ nd st inc W' ((h.below hW).below hW') (zM (by omega) (by omega)) (zM (by omega) (by omega)) (zM (by omega) (by omega))))
 clear hx hy b1 h ha hb hne hn hs hi hq
 go_enter_defers func91,ntmps91
 go_wp2_with fail
 generalize (w.alloc (.cells (Qrj 1 (a:Int) (b:Int) (q:Int) (.slice ao 1 cap)) 115)).alloc (.cells (Qo 0) 41)=W at *
 refine(HRT.out W HB.out).mono ?_
 rintro r w1 ⟨rfl,hb⟩
 have hx:=(hb.block _ (gsi.1 HX.out).1).trans HX.out
 have HX1:=zA hx
 have HY1:=zA ((hb.block _ (gsi.1 HY.out).1).trans HY.out)
 have HB1:=zA (HB.out.trans (hb.mono HB.out.size))
 clear hb HX HY HB HRT
 have d0:=cc 0 hx
 clear hx
 go_wp2_with fail
 refine(yA rfl).mono ?_
 rintro r w' ⟨rfl,rfl⟩
 go_wp2_with fail
 refine(has_1 _).mono ?_
 rintro r w2 ⟨rfl,hb⟩
 have hp:=heap_alloc_new w2 (.cells Qfa 198)
 have bp:=bn w2 (.cells Qfa 198)
 have hx:=(bp.block _ (gsi.1 ((hb.block _ (gsi.1 HX1.out).1).trans HX1.out)).1).trans ((hb.block _ (gsi.1 HX1.out).1).trans HX1.out)
 have HXP:=zA hx
 have HYP:=zA ((bp.block _ (gsi.1 ((hb.block _ (gsi.1 HY1.out).1).trans HY1.out)).1).trans ((hb.block _ (gsi.1 HY1.out).1).trans HY1.out))
 have HPP:=zA hp
 have hbp:=HB1.out.trans ((hb.trans (bp.mono hb.size)).mono HB1.out.size)
 have HBP:=zA hbp
 have hsz:=zE w2 (.cells Qfa 198)
 clear d0 hb bp HX1 HY1 HB1 hp
 have d0:=cc 0 hx
 have d1:=cc 1 hx
 have d2:=cc 2 hx
 have d15:=cc 15 hx
 have qF:Hid (OwnR kInt (w2.alloc (.cells Qfa 198)).heap.size ((w2.alloc (.cells Qfa 198)).alloc (.cells #[.int .i64 1,.int .i64 a,.int .i64 b,.int .i64 1] 3)) (.slice (some ⟨(w2.alloc (.cells Qfa 198)).heap.size,0,none⟩) 4 4) [(1:Int),(a:Int),(b:Int),(1:Int)]):=zA (tQ kInt (w2.alloc (.cells Qfa 198)) (w2.alloc (.cells Qfa 198)).heap.size [(1:Int),(a:Int),(b:Int),(1:Int)] #[.int .i64 1,.int .i64 a,.int .i64 b,.int .i64 1] 4 (Nat.le_refl _) rfl (by decide) (by simp[Rk.encs,kInt]))
 have HBQ:=zA ((Below.refl (w2.alloc (.cells Qfa 198)).heap.size (w2.alloc (.cells Qfa 198))).alloc (Nat.le_refl _) (.cells #[.int .i64 1,.int .i64 a,.int .i64 b,.int .i64 1] 3))
 have e15:=cc 15 (zC hx HBQ.out)
 have HX3:=zA (zC hx HBQ.out)
 have HY3:=zA (zC HYP.out HBQ.out)
 have HP3:=zA (zC HPP.out HBQ.out)
 clear hx hbp hsz
 go_wp2_with fail
 obtain⟨Wp,hWp⟩:∃Wp,Wp=w2.alloc (.cells Qfa 198):=⟨_,rfl⟩
 have hwsz:Wp.heap.size=w2.heap.size+1:=by rw[hWp];exact zE _ _
 rw[←hWp]at HXP HYP HPP HBP d0 d1 d2 d15 qF HBQ e15 HX3 HY3 HP3 ⊢
 clear hWp d0 d1 d2 d15 e15
 have HRW0:Hid (OwnR kInt Wp.heap.size (Wp.alloc (.cells #[.int .i64 1,.int .i64 a,.int .i64 b,.int .i64 1] 3)) (.slice (some ⟨w2.heap.size+1,0,none⟩) 4 4) [(1:Int),(a:Int),(b:Int),(1:Int)]):=zA (by have h:=qF.out;rw[hwsz]at h ⊢;exact h)
 clear hwsz qF
 generalize Wp.alloc (.cells #[.int .i64 1,.int .i64 a,.int .i64 b,.int .i64 1] 3)=W3 at *
 have HXW:=zA (fun (W:World) (hW:Below Wp.heap.size Wp W)=>(hW.block _ (gsi.1 HXP.out).1).trans HXP.out)
 have HYW:=zA (fun (W:World) (hW:Below Wp.heap.size Wp W)=>(hW.block _ (gsi.1 HYP.out).1).trans HYP.out)
 have HPW:=zA (fun (W:World) (hW:Below Wp.heap.size Wp W)=>(hW.block _ (gsi.1 HPP.out).1).trans HPP.out)
 clear HXP HYP HPP HX3 HY3 HP3
 have HRM:=zA ((HR.out W3 (HBP.out.trans (HBQ.out.mono HBP.out.size))))
 obtain⟨g,off,cap',e1,hg,hc⟩:=HRM.out.cell (i:=0) (by simp)
 cases e1
 have c0:W3.cell? ⟨g,off,none⟩=some (.int .i64 nd):=by have:=hc 0 _ rfl;simpa using this
 have c1:W3.cell? ⟨g,off+1,none⟩=some (.int .i64 st):=by have:=hc 1 _ rfl;simpa using this
 have c2:W3.cell? ⟨g,off+2,none⟩=some (.int .i64 inc):=by have:=hc 2 _ rfl;simpa using this
 clear hc HRM
 have ba:=bn W3 (.cells (Qj (nd:Int) (st:Int) (inc:Int)) 212)
 have hn3:=heap_alloc_new W3 (.cells (Qj (nd:Int) (st:Int) (inc:Int)) 212)
 have g0:=cc 0 hn3
 have g1:=cc 1 hn3
 have g2:=cc 2 hn3
 have bb:=ba.alloc ba.size (.cells (Qj (nd:Int) (st:Int) (inc:Int)) 3)
 have qG:=yJ kInt (W3.alloc (.cells (Qj (nd:Int) (st:Int) (inc:Int)) 212)) [(nd:Int),(st:Int),(inc:Int)] (Qj (nd:Int) (st:Int) (inc:Int)) 3 rfl (by simp[Rk.encs,kInt])
 rw[zE]at qG
 have qC:=zA qG
 have HRW:=zA (HRW0.out.below bb)
 have HBW:=zA (HBQ.out.trans (bb.mono HBQ.out.size))
 clear ba hn3 bb qG HRW0 HBQ
 refine wp_loop_rounds 2 ?_
 rw[rounds_succ]
 go_wp2_with (
  at_builtin
  refine yT kInt rfl (.tmp 35) (.tmp 42) rfl rfl HRW.out rfl qC.out (by simp) HBW.out HBW.out.size ?_
  intro v1 w4 hown1 hb1 hg0
  have HV1:=zA hown1
  have HBV:=zA hb1
  clear hown1 hb1 hg0)
 clear c0 c1 c2 g0 g1 g2 HRW HBW qC hg
 rw[rounds_succ]
 have hxw:=HXW.out w4 HBV.out
 have hpw:=HPW.out w4 HBV.out
 have pp0:=cc 0 hpw
 have pp1:=cc 1 hpw
 have xx3:=cc 3 hxw
 clear hxw hpw
 have bb:=bn w4 (.cells (Qo (q:Int)) 3)
 have HSR2:=zA (yJ kInt w4 [(q:Int)] (Qo (q:Int)) 1 rfl (by simp[Rk.encs,kInt]))
 have qB:=zA (HV1.out.below bb)
 have HBW2:=zA (HBV.out.trans (bb.mono HBV.out.size))
 clear bb
 go_wp2_with (
  at_builtin
  refine yT kInt rfl (.tmp 47) (.tmp 50) rfl rfl qB.out rfl HSR2.out (by simp) HBW2.out HBW2.out.size ?_
  intro v5 Wq hown1 hb1 hg0
  obtain⟨ao5,cap5,rfl⟩:=hown1.toT.form
  have HV5:=zA hown1
  have HB5:=zA hb1
  clear hown1 hg0 pp0 pp1 xx3
  have hxw:=HXW.out Wq hb1
  have hpw:=HPW.out Wq hb1
  have pp0:=cc 0 hpw
  have pp1:=cc 1 hpw
  have xx3:=cc 3 hxw
  clear hxw hpw
  clear hb1)
 clear pp0 pp1 xx3
 have HVV:Hid (RowC kInt Wq (.slice ao5 8 cap5) (Pl.toInts [1,a,b,1,nd,st,inc,q])):=zA (show _ from HV5.out.toT.toC)
 generalize hns:[1,a,b,1,nd,st,inc,q]=ns at *
 have HNS:=zA hns
 have HLN:=zA (show ns.length=8 by rw[←hns];rfl)
 clear hns
 go_loopw [8,61] (fun v i wr=>∃(k:Nat),k≤8∧i=.int .i64 k∧OwnB Wq.heap.size wr v (Pl.vints (ns.take k))∧Below Wq.heap.size Wq wr) (fun _ i _=>8 - (intOf i).toNat)
 case atStart=>exact⟨0,by omega,rfl,xS _ _,Below.refl _ _⟩
 case round=>
  obtain⟨k,hk,rfl,hO,hb⟩:=hrel
  by_cases hlt0:k<8
  ·have hlt:k<ns.length:=by rw[HLN.out];exact hlt0
   have qX:k<(Pl.toInts ns).length:=by unfold Pl.toInts;simpa using hlt
   obtain⟨g2,off2,cap3,e,hg2,hc⟩:=(HVV.out.below hb).cell qX
   rw[show(Pl.toInts ns).length=8 from by unfold Pl.toInts;rw[List.length_map];exact HLN.out]at e
   cases e
   have a1:(k:Int)+1≤9223372036854775807:=by omega
   have a0:(k:Int)<8:=by omega
   have c0:=hc 0 _ rfl
   simp only[Nat.mul_one,Nat.add_zero,show kInt.k=1 from rfl]at c0
   have qW:(Pl.toInts ns)[k]=((ns[k]:Nat):Int):=by simp[Pl.toInts]
   rw[qW]at c0
   have hle:ns[k]≤1099511627776:=HSM.out _ (List.getElem_mem hlt)
   have hvl:(Pl.vints (ns.take k)).length≤1000000:=by
    have:=Pl.vints_len (ns.take k) (fun n hn=>HSM.out n (List.mem_of_mem_take hn))
    rw[List.length_take]at this
    omega
   have qO:=zA (wB _ _ ns[k] wr hO.toT.toC hvl hle)
   have HNX:=zA (Pl.vints_succ ns k hlt)
   have HBR:=zA hb
   clear hc hO hb hvl hle qW qX
   generalize ns[k]=nk at *
   clear hlt
   go_wp2_with fail
   refine qO.out.mono ?_
   rintro e w5 ⟨v5,rfl,o5,b5⟩
   have HO5:=zA (show OwnB Wq.heap.size w5 v5 (Pl.vints (ns.take (k+1))) by rw[HNX.out];exact o5.mono HBR.out.size)
   have HB6:=zA (HBR.out.trans (b5.mono HBR.out.size))
   clear o5 b5 c0
   have hy:=HYW.out w5 (HB5.out.trans (HB6.out.mono HB5.out.size))
   have ce:=cc 0 hy
   have fe:=zB hy 0
   have hid:w5.setCell ⟨w.heap.size+1,0,none⟩ (.int .i64 0)=w5:=zL hy (j:=0) (v:=.int .i64 0) rfl
   clear hy
   go_wp2_with fail
   refine(yA rfl).mono ?_
   rintro r w' ⟨rfl,rfl⟩
   go_wp2_with fail
   exact⟨⟨k+1,by omega,rfl,HO5.out,HB6.out⟩,by simp[intOf];omega⟩
  ·obtain rfl:k=8:=by omega
   rw[show ns.take 8=ns from by rw[←HLN.out,List.take_length]]at hO
   have HO5:=zA hO
   have HB6:=zA (HB5.out.trans (hb.mono HB5.out.size))
   have HQ6:=zA hb
   have HVL:=zA (show(Pl.vints ns).length≤48 by have:=Pl.vints_len ns (fun n hn=>HSM.out n hn);rw[HLN.out]at this;omega)
   clear hO hb hlt0 hk
   have hpw:=HPW.out wr HB6.out
   have pp2:=cc 2 hpw
   have pp3:=cc 3 hpw
   clear hpw
   have hy:=HYW.out wr HB6.out
   have ce:=cc 0 hy
   have fe:=zB hy 0
   have hid:wr.setCell ⟨w.heap.size+1,0,none⟩ (.int .i64 0)=wr:=zL hy (j:=0) (v:=.int .i64 0) rfl
   clear hy
   have HRS:=zA (xS Wq.heap.size wr)
   have HOR:=HO5
   have HBR:=HB6
   have HQR:=HQ6
   go_wp2_with fail
   refine(yA rfl).mono ?_
   rintro r w' ⟨rfl,rfl⟩
   clear ce fe hid
   go_wp2_with (
    at_builtin
    refine xJ rfl (.tmp 98) (.tmp 99) rfl rfl HOR.out rfl HRS.out.toT.toC (by have:=HVL.out;simp;omega) HQR.out HQR.out.size ?_
    intro v6 w6 hown6 hb6 hg6
    have pO:=zA (HB5.out.trans (hb6.mono HB5.out.size))
    have HFP:=zA (tE v6 _ w6 hown6.toT.toC (by have:=HVL.out;simp;omega))
    clear hown6 hb6 hg6)
   refine HFP.out.mono ?_
   rintro r w7 ⟨v7,rfl,o7,b7⟩
   have HB7:=zA (pO.out.trans (b7.mono pO.out.size))
   have HBZ:=zA (HBP.out.trans (HB7.out.mono HBP.out.size))
   have HO7:=zA (o7.mono (Nat.le_trans HBP.out.size pO.out.size))
   clear o7 b7 HFP
   have hy:=HYW.out w7 HB7.out
   have ce:=cc 0 hy
   have fe:=zB hy 0
   have hid:w7.setCell ⟨w.heap.size+1,0,none⟩ (.int .i64 0)=w7:=zL hy (j:=0) (v:=.int .i64 0) rfl
   clear hy
   go_wp2_with fail
   refine leaves_cons (f:=104) (args:=#[Qp (w.heap.size+1)]) (by simp) (by simp[go_sem]) ?_
   refine(wO _ _).mono ?_
   rintro e' u' w'' ⟨rfl,rfl,rfl⟩
   clear hid fe
   simp[Leaves,settle,results,results91,go_sem,ce]
   refine⟨?_,HBZ.out⟩
   have h7:=HO7.out
   rw[←HNS.out]at h7
   rw[List.append_nil]at h7
   exact h7
end
end Go.Proofs.YtodlmbfbfaofcaaGreat
