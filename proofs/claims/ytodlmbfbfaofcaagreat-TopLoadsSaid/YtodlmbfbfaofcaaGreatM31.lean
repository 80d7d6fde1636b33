/- TopLoads, part 31. -/
import Derived.Test.YtodlmbfbfaofcaaGreatM01
import Derived.Test.YtodlmbfbfaofcaaGreatM03
import Derived.Test.YtodlmbfbfaofcaaGreatM07
import Derived.Test.YtodlmbfbfaofcaaGreatM30
open Go.Proofs.Tryz
namespace Go.Proofs.YtodlmbfbfaofcaaGreat
set_option linter.unusedVariables false
set_option linter.unusedSimpArgs false
set_option maxRecDepth 100000
set_option maxHeartbeats 4000000
section
open Go.RowKit Rw Rh
theorem rH (x:Int) (w:World):Calls prog 289 #[.int .u64 x] w fun r w'=>r=.returned (Qp w.heap.size)∧Below w.heap.size w w':=by
 have HB:=zA (bn w (.cells #[.int .u64 x,.slice none 0 0] 451))
 go_enter func289,ntmps289
 go_wp2_with fail
 go_ret
 exact⟨rfl,HB.out⟩
theorem vC (n lo hi:Int) (w:World):Calls prog 208 (Qj n lo hi) w fun e w'=>e=.returned (.bool (Pl.inside n lo hi))∧w=w':=by
 go_enter func208,ntmps208
 go_wp2_with fail
 refine(within_any _ _ _ _).mono ?_
 rintro e w' ⟨rfl,rfl⟩
 go_wp2_with fail
 go_ret
 exact⟨by rw[Pl.inside_eq];rfl,rfl⟩
def Pl.patient (c0 c1 c2:Int):Bool:=Pl.inside c0 1 100&&(Pl.inside c1 0 8&&Pl.inside c2 1 1000)
theorem tK (c0 c1 c2:Int) (w:World):Calls prog 127 #[.agg (Qj c0 c1 c2)] w fun e w'=>e=.returned (.bool (Pl.patient c0 c1 c2))∧Below w.heap.size w w':=by
 have b1:=bn w (.cells (Qj c0 c1 c2) 72)
 have HX:=zA (heap_alloc_new w (.cells (Qj c0 c1 c2) 72))
 have HB:=zA b1
 clear b1
 unfold Pl.patient
 have x0:=cc 0 HX.out
 have x1:=cc 1 HX.out
 have x2:=cc 2 HX.out
 go_enter func127,ntmps127
 go_wp2_with fail
 refine(vC _ _ _ _).mono ?_
 rintro e w' ⟨rfl,rfl⟩
 cases h0:Pl.inside c0 1 100 with
 | false=>
  go_wp2_with fail
  go_ret
  exact⟨by rw[h0];rfl,HB.out⟩
 | true=>
  go_wp2_with fail
  refine(vC _ _ _ _).mono ?_
  rintro e w' ⟨rfl,rfl⟩
  cases h1:Pl.inside c1 0 8 with
  | false=>
   go_wp2_with fail
   go_ret
   exact⟨by rw[h0,h1];rfl,HB.out⟩
  | true=>
   go_wp2_with fail
   refine(vC _ _ _ _).mono ?_
   rintro e w' ⟨rfl,rfl⟩
   go_wp2_with fail
   go_ret
   exact⟨by rw[h0,h1];rfl,HB.out⟩
theorem gnew_ok (n mtu:Nat) (x:Int) (w:World) (hn:n<8) (hm:512≤mtu∧mtu≤4096) :
  Calls prog 214 #[.int .i64 n,.int .i64 mtu,.int .u64 x] w fun r w'=>∃g o b ms mh,r=.returned (.tuple #[Qp g,.int .i64 0])∧GoAt w' g o b ms mh n mtu [] 0∧(∀k,k=g∨k=b∨k=ms∨k=mh→w.heap.size≤k)∧Below w.heap.size w w':=by
 have e0:Pl.inside (n:Int) 0 7=true:=zM (by omega) (by omega)
 have e1:Pl.within (mtu:Int) 512 4096=mtu:=by unfold Pl.within;rw[if_neg (by omega),if_neg (by omega)]
 have HN:=zA (And.intro hn hm)
 clear hn hm
 go_enter func214,ntmps214
 go_wp2_with fail
 refine(sT _ _).mono ?_
 rintro r w' ⟨rfl,rfl⟩
 rw[e0]
 go_wp2_with fail
 refine(within_any _ _ _ _).mono ?_
 rintro r w' ⟨rfl,rfl⟩
 rw[e1]
 clear e0 e1
 go_wp2_with fail
 refine(rH _ _).mono ?_
 rintro r w1 ⟨rfl,hb1⟩
 go_wp2_with fail
 refine(bnew_ok w1).mono ?_
 rintro r w2 ⟨b,ms,mh,rfl,h1,h2,h3,hbk,hb2⟩
 have b3:=bn w2 (.cells #[.int .i64 n,.int .i64 mtu,Qp w.heap.size,Qp b] 218)
 have HX:=zA (heap_alloc_new w2 (.cells #[.int .i64 n,.int .i64 mtu,Qp w.heap.size,Qp b] 218))
 have HBK:=zA (hbk.below b3)
 have HB:=zA (hb1.trans ((hb2.trans (b3.mono hb2.size)).mono hb1.size))
 have HS:=zA (And.intro h1 (And.intro h2 (And.intro h3 (And.intro hb1.size hb2.size))))
 clear b3 hbk hb1 hb2 h1 h2 h3
 go_wp2_with fail
 exact bodyPost_ret (v:=.tuple #[Qp w2.heap.size,.int .i64 0]) (by simp[results,results214,go_sem]) rfl ⟨w2.heap.size,w.heap.size,b,ms,mh,rfl,⟨HX.out,HBK.out,fun e he=>absurd he (by simp),by decide,HN.out.1⟩,fun k hk=>by have:=HS.out;rcases hk with rfl | rfl | rfl | rfl<;>omega,HB.out⟩
theorem tab_self (n:Nat) (hn:n<8):(Mem.Pl.Tab.none.hear n 1 1).known n=true∧(Mem.Pl.Tab.none.hear n 1 1).st n=1∧(Mem.Pl.Tab.none.hear n 1 1).inc n=1:=by
 have hm:Mem.Pl.may n 1 1=true:=by unfold Mem.Pl.may;rw[Bool.and_eq_true,Bool.and_eq_true];exact⟨(Mem.Pl.inB_iff _ _ _).2 (by omega),(Mem.Pl.inB_iff _ _ _).2 (by omega),(Mem.Pl.inB_iff _ _ _).2 (by omega)⟩
 have hs:Mem.Pl.Tab.none.said n 1 1=true:=by unfold Mem.Pl.Tab.said;rw[hm];rfl
 unfold Mem.Pl.Tab.hear
 rw[if_pos hs]
 simp[Mem.Pl.Tab.set]
theorem snew_ok (n:Nat) (c0 c1 c2 x:Int) (w:World) (hn:n<8) (hp:Pl.patient c0 c1 c2=true) :
  Calls prog 216 #[.int .i64 n,.int .i64 1,.agg (Qj c0 c1 c2),.int .u64 x] w fun r w'=>∃D T O S,r=.returned (.tuple #[Qp D,.int .i64 0])∧DtAt w' D T O S n c0 c1 c2∧(∀k,k=D∨k=T∨k=S→w.heap.size≤k)∧Below w.heap.size w w':=by
 have b1:=bn w (.cells (Qj c0 c1 c2) 72)
 have HX:=zA (heap_alloc_new w (.cells (Qj c0 c1 c2) 72))
 have HB:=zA b1
 have HN:=zA hn
 have HP:=zA hp
 clear b1 hn hp
 go_enter func216,ntmps216
 go_wp2_with fail
 generalize w.alloc (.cells (Qj c0 c1 c2) 72)=W at *
 refine(Mem.new_ok n 1 W (by have:=HN.out;unfold Mem.Pl.may;rw[Bool.and_eq_true,Bool.and_eq_true];refine⟨(Mem.Pl.inB_iff _ _ _).2 (by omega),(Mem.Pl.inB_iff _ _ _).2 (by omega),(Mem.Pl.inB_iff _ _ _).2 (by omega)⟩)).mono ?_
 rintro r w1 ⟨rfl,ht,hb⟩
 have HB1:=zA (HB.out.trans (hb.mono HB.out.size))
 have HT1:=zA ht
 have HTS:=zA HB.out.size
 have HTL:=zA ht.lt
 have hx1:=zC HX.out hb
 have HX1:=zA hx1
 have x0:=cc 0 hx1
 have x1:=cc 1 hx1
 have x2:=cc 2 hx1
 clear ht hb hx1 HB HX
 go_wp2_with fail
 clear x0 x1 x2
 refine(tK c0 c1 c2 w1).mono ?_
 rintro r w2 ⟨rfl,hb⟩
 rw[HP.out]
 have HB2:=zA (HB1.out.trans (hb.mono HB1.out.size))
 have HT2:=zA (HT1.out.below hb)
 have HX2:=zA (zC HX1.out hb)
 have HTL2:=zA (Nat.lt_of_lt_of_le HTL.out hb.size)
 clear hb HB1 HT1 HX1 HTL
 go_wp2_with fail
 have hmm:=@run_makeMap prog
 refine zD (fun W'=>W'.heap[w.heap.size]?=some (.cells (Qj c0 c1 c2) 72 (0,0))) 99 (by kernel_rfl) HX2.out (fun rV=>?_)
 refine tkp 0 24 rfl ?_
 refine tkp 1 25 rfl ?_
 refine tk 2 26 rfl (by intro wS hSw;have q0:=cc 0 hSw;have q1:=cc 1 hSw;have q2:=cc 2 hSw;clear hSw;go_simp;(try with_reducible rfl)) ?_
 refine tkp 3 27 rfl ?_
 refine tkp 4 28 rfl ?_
 refine t2 5 6 rfl rfl (fun K hK=>?_) (fun K hK=>?_)
 ·go_simp
  refine(rH x w2.drew).mono ?_
  rintro r w3 ⟨rfl,hb⟩
  have hbw:=(Below.refl w2.heap.size w2).drew.trans hb
  have HB3:=zA (HB2.out.trans (hbw.mono HB2.out.size))
  have HT3:=zA (HT2.out.below hbw)
  have HX3:=zA (zC HX2.out hbw)
  have HX0:=zA hbw
  clear hb hbw rV
  refine hK.out _ _ (fun _=>HX3.out) (fun _=>?_)
  clear hK K
  try simp only[pt,List.set]
  refine t1 6 rfl (fun K hK=>?_)
  go_simp
  have b4:=bn w3 (.map #[] 0)
  have HB4:=zA (HB3.out.trans (b4.mono HB3.out.size))
  have HT4:=zA (HT3.out.below b4)
  have HS4:=zA (heap_alloc_new w3 (.map #[] 0))
  have HXX:=zA (HX0.out.trans (b4.mono HX0.out.size))
  have rV:=zC HX3.out b4
  clear b4
  refine hK.out _ _ (fun _=>rV) (fun _=>?_)
  clear hK K
  try simp only[pt,List.set]
  generalize w3.alloc (.map #[] 0)=w4 at *
  refine tkp 7 31 rfl ?_
  refine t1 8 rfl (fun K hK=>?_)
  go_simp
  have b8:=bn (w4) (.cells #[.int .i64 n,.int .i64 1,.int .i64 c0,.int .i64 c1,.int .i64 c2,Qp W.heap.size,Qp w2.heap.size,.int .i64 0,.int .i64 0,.pointer none,.int .i64 0,.map (some (w3.heap.size)),.slice none 0 0,.bool false] 210)
  have HD8:=zA (heap_alloc_new (w4) (.cells #[.int .i64 n,.int .i64 1,.int .i64 c0,.int .i64 c1,.int .i64 c2,Qp W.heap.size,Qp w2.heap.size,.int .i64 0,.int .i64 0,.pointer none,.int .i64 0,.map (some (w3.heap.size)),.slice none 0 0,.bool false] 210))
  have HB8:=zA (HB4.out.trans (b8.mono HB4.out.size))
  have HT8:=zA (HT4.out.below b8)
  have HS8:=zA (zC HS4.out b8)
  have HX8:=zA (zC HX2.out (HXX.out.trans (b8.mono HXX.out.size)))
  have HLT:=zA (show W.heap.size<(w4).heap.size from Nat.lt_of_lt_of_le HTL2.out HXX.out.size)
  have HSN:=zA (show w2.heap.size≤w3.heap.size from HX0.out.size)
  have HWS:=zA (show w.heap.size≤(w4).heap.size from HB4.out.size)
  generalize (w4).alloc (.cells #[.int .i64 n,.int .i64 1,.int .i64 c0,.int .i64 c1,.int .i64 c2,Qp W.heap.size,Qp w2.heap.size,.int .i64 0,.int .i64 0,.pointer none,.int .i64 0,.map (some (w3.heap.size)),.slice none 0 0,.bool false] 210)=w9 at *
  clear b8 rV
  refine hK.out _ _ (fun _=>HX8.out) (fun _=>?_)
  clear hK K
  try simp only[pt,List.set]
  have rV:=HX8.out
  refine tkp 9 8 rfl ?_
  refine tkp 10 9 rfl ?_
  refine wd ?_
  clear rV
  go_wp2_with fail
  have hkn:(Mem.Pl.Tab.none.hear n 1 1).known n=true∧(Mem.Pl.Tab.none.hear n 1 1).st n=1∧(Mem.Pl.Tab.none.hear n 1 1).inc n=1:=tab_self n HN.out
  exact bodyPost_ret (v:=.tuple #[Qp ((w4).heap.size),.int .i64 0]) (by simp[results,results216,go_sem]) rfl ⟨(w4).heap.size,W.heap.size,w2.heap.size,w3.heap.size,rfl,⟨HD8.out,⟨_,HT8.out,hkn⟩,⟨0,HS8.out⟩,by have:=HLT.out;have:=HTL2.out;have:=HSN.out;omega,HN.out⟩,fun k hk=>by have:=HTS.out;have:=HSN.out;have:=HB2.out.size;have:=HWS.out;rcases hk with rfl | rfl | rfl<;>omega,HB8.out⟩
 ·go_simp
  have b3:=(bn w2 (.map #[] 0)).drew
  have HB3:=zA (HB2.out.trans (b3.mono HB2.out.size))
  have HT3:=zA (HT2.out.below b3)
  have HX3:=zA (zC HX2.out b3)
  have HS3:=zA (show((w2.alloc (.map #[] 0)).drew).heap[w2.heap.size]?=some (.map #[] 0)from heap_alloc_new w2 (.map #[] 0))
  have HX0:=zA b3
  clear b3 rV
  refine hK.out _ _ (fun _=>HX3.out) (fun _=>?_)
  clear hK K
  try simp only[pt,List.set]
  have rV:=HX3.out
  generalize (w2.alloc (.map #[] 0)).drew=w3 at *
  refine t1 5 rfl (fun K hK=>?_)
  go_simp
  refine(rH x w3).mono ?_
  rintro r w4 ⟨rfl,hb⟩
  have HB4:=zA (HB3.out.trans (hb.mono HB3.out.size))
  have HT4:=zA (HT3.out.below hb)
  have HS4:=zA (zC HS3.out hb)
  have HXX:=zA (HX0.out.trans (hb.mono HX0.out.size))
  have HX4:=zA (zC HX3.out hb)
  clear hb rV
  refine hK.out _ _ (fun _=>HX4.out) (fun _=>?_)
  clear hK K
  try simp only[pt,List.set]
  have rV:=HX4.out
  refine tkp 7 31 rfl ?_
  refine t1 8 rfl (fun K hK=>?_)
  go_simp
  have b8:=bn (w4) (.cells #[.int .i64 n,.int .i64 1,.int .i64 c0,.int .i64 c1,.int .i64 c2,Qp W.heap.size,Qp w3.heap.size,.int .i64 0,.int .i64 0,.pointer none,.int .i64 0,.map (some (w2.heap.size)),.slice none 0 0,.bool false] 210)
  have HD8:=zA (heap_alloc_new (w4) (.cells #[.int .i64 n,.int .i64 1,.int .i64 c0,.int .i64 c1,.int .i64 c2,Qp W.heap.size,Qp w3.heap.size,.int .i64 0,.int .i64 0,.pointer none,.int .i64 0,.map (some (w2.heap.size)),.slice none 0 0,.bool false] 210))
  have HB8:=zA (HB4.out.trans (b8.mono HB4.out.size))
  have HT8:=zA (HT4.out.below b8)
  have HS8:=zA (zC HS4.out b8)
  have HX8:=zA (zC HX2.out (HXX.out.trans (b8.mono HXX.out.size)))
  have HLT:=zA (show W.heap.size<(w4).heap.size from Nat.lt_of_lt_of_le HTL2.out HXX.out.size)
  have HSN:=zA (show w2.heap.size≤w2.heap.size from Nat.le_refl _)
  have HWS:=zA (show w.heap.size≤(w4).heap.size from HB4.out.size)
  generalize (w4).alloc (.cells #[.int .i64 n,.int .i64 1,.int .i64 c0,.int .i64 c1,.int .i64 c2,Qp W.heap.size,Qp w3.heap.size,.int .i64 0,.int .i64 0,.pointer none,.int .i64 0,.map (some (w2.heap.size)),.slice none 0 0,.bool false] 210)=w9 at *
  clear b8 rV
  refine hK.out _ _ (fun _=>HX8.out) (fun _=>?_)
  clear hK K
  try simp only[pt,List.set]
  have rV:=HX8.out
  refine tkp 9 8 rfl ?_
  refine tkp 10 9 rfl ?_
  refine wd ?_
  clear rV
  go_wp2_with fail
  have hkn:(Mem.Pl.Tab.none.hear n 1 1).known n=true∧(Mem.Pl.Tab.none.hear n 1 1).st n=1∧(Mem.Pl.Tab.none.hear n 1 1).inc n=1:=tab_self n HN.out
  exact bodyPost_ret (v:=.tuple #[Qp ((w4).heap.size),.int .i64 0]) (by simp[results,results216,go_sem]) rfl ⟨(w4).heap.size,W.heap.size,w3.heap.size,w2.heap.size,rfl,⟨HD8.out,⟨_,HT8.out,hkn⟩,⟨0,HS8.out⟩,by have:=HLT.out;have:=HTL2.out;have:=HSN.out;omega,HN.out⟩,fun k hk=>by have:=HTS.out;have:=HSN.out;have:=HB2.out.size;have:=HWS.out;rcases hk with rfl | rfl | rfl<;>omega,HB8.out⟩
theorem anew_ok (n win kp:Nat) (x:Int) (w:World) (hn:n<8) (hw:1≤win∧win≤16) (hk:1≤kp∧kp≤16) :
  Calls prog 218 #[.agg #[.int .i64 n,.int .i64 win,.int .i64 kp,.int .u64 x]] w fun r w'=>∃A,r=.returned (.tuple #[Qp A,.int .i64 0])∧Below w.heap.size w w':=by
 have b1:=bn w (.cells #[.int .i64 n,.int .i64 win,.int .i64 kp,.int .u64 x] 340)
 have hx:=heap_alloc_new w (.cells #[.int .i64 n,.int .i64 win,.int .i64 kp,.int .u64 x] 340)
 have e0:Pl.inside (n:Int) 0 7=true:=zM (by omega) (by omega)
 have e1:Pl.inside (win:Int) 1 16=true:=zM (by omega) (by omega)
 have e2:Pl.inside (kp:Int) 1 16=true:=zM (by omega) (by omega)
 have HB:=zA b1
 have HX:=zA hx
 have x0:=cc 0 hx
 have x1:=cc 1 hx
 have x2:=cc 2 hx
 have x3:=cc 3 hx
 clear b1 hx hn hw hk
 go_enter func218,ntmps218
 go_wp2_with fail
 refine(vV _ _ _ _).mono ?_
 rintro r w' ⟨rfl,rfl⟩
 rw[e0]
 go_wp2_with fail
 refine(vV _ _ _ _).mono ?_
 rintro r w' ⟨rfl,rfl⟩
 rw[e1]
 go_wp2_with fail
 refine(vV _ _ _ _).mono ?_
 rintro r w' ⟨rfl,rfl⟩
 rw[e2]
 go_wp2_with fail
 exact bodyPost_ret (v:=.tuple #[Qp ((w.alloc (.cells #[.int .i64 n,.int .i64 win,.int .i64 kp,.int .u64 x] 340)).heap.size),.int .i64 0]) (by simp[results,results218,go_sem]) rfl ⟨_,rfl,HB.out.alloc HB.out.size _⟩
structure Cf where
 n:Nat
 mtu:Nat
 win:Nat
 kp:Nat
 salt:Int
 seed:Int
 c0:Int
 c1:Int
 c2:Int
structure Cf.Ok (c:Cf):Prop where
 n:c.n<8
 mtu:512≤c.mtu∧c.mtu≤4096
 win:1≤c.win∧c.win≤16
 kp:1≤c.kp∧c.kp≤16
 pat:Pl.patient c.c0 c.c1 c.c2=true
theorem yO (w:World):Calls prog 53 (Qo 0) w fun e w'=>e=.returned (.tuple #[])∧w=w':=by
 go_enter func53,ntmps53
 go_wp2_with fail
 exact yD results53 ⟨rfl,rfl⟩
theorem sX (x:Int) (hx:(x != 0)=true) (w:World):Calls prog 53 (Qo x) w fun e w'=>e=.panicked [{v:=.iface 187 (.agg (Qo x)),recovered:=false}]∧w=w':=by
 go_enter func53,ntmps53
 go_wp2_with fail
 exact⟨rfl,rfl,rfl⟩
theorem sS (v:Value) (w:World):Calls prog 209 #[v,.int .i64 0] w fun e w'=>e=.returned v∧w=w':=by
 go_enter func209,ntmps209
 go_wp2_with fail
 refine(yO w).mono ?_
 rintro e w' ⟨rfl,rfl⟩
 go_wp2_with fail
 go_ret
 exact⟨rfl,rfl⟩
theorem sR (v:Value) (w:World):Calls prog 211 #[v,.int .i64 0] w fun e w'=>e=.returned v∧w=w':=by
 go_enter func211,ntmps211
 go_wp2_with fail
 refine(yO w).mono ?_
 rintro e w' ⟨rfl,rfl⟩
 go_wp2_with fail
 go_ret
 exact⟨rfl,rfl⟩
theorem got213_ok (v:Value) (w:World):Calls prog 213 #[v,.int .i64 0] w fun e w'=>e=.returned v∧w=w':=by
 go_enter func213,ntmps213
 go_wp2_with fail
 refine(yO w).mono ?_
 rintro e w' ⟨rfl,rfl⟩
 go_wp2_with fail
 go_ret
 exact⟨rfl,rfl⟩
theorem got215_ok (v:Value) (w:World):Calls prog 215 #[v,.int .i64 0] w fun e w'=>e=.returned v∧w=w':=by
 go_enter func215,ntmps215
 go_wp2_with fail
 refine(yO w).mono ?_
 rintro e w' ⟨rfl,rfl⟩
 go_wp2_with fail
 go_ret
 exact⟨rfl,rfl⟩
theorem got217_ok (v:Value) (w:World):Calls prog 217 #[v,.int .i64 0] w fun e w'=>e=.returned v∧w=w':=by
 go_enter func217,ntmps217
 go_wp2_with fail
 refine(yO w).mono ?_
 rintro e w' ⟨rfl,rfl⟩
 go_wp2_with fail
 go_ret
 exact⟨rfl,rfl⟩
theorem uN (v:Value) (w:World):Calls prog 50 #[v,.int .i64 0] w fun e w'=>e=.returned v∧w=w':=by
 go_enter func50,ntmps50
 go_wp2_with fail
 refine(yO w).mono ?_
 rintro e w' ⟨rfl,rfl⟩
 go_wp2_with fail
 go_ret
 exact⟨rfl,rfl⟩
theorem got304_ok (v:Value) (w:World):Calls prog 304 #[v,.int .i64 0] w fun e w'=>e=.returned v∧w=w':=by
 go_enter func304,ntmps304
 go_wp2_with fail
 refine(yO w).mono ?_
 rintro e w' ⟨rfl,rfl⟩
 go_wp2_with fail
 go_ret
 exact⟨rfl,rfl⟩
theorem tY (v:Value) (x:Int) (hx:(x != 0)=true) (w:World):Calls prog 211 #[v,.int .i64 x] w fun e w'=>e=.panicked [{v:=.iface 187 (.agg (Qo x)),recovered:=false}]∧w=w':=by
 go_enter func211,ntmps211
 go_wp2_with fail
 refine(sX x hx w).mono ?_
 rintro e w' ⟨rfl,rfl⟩
 go_wp2_with fail
 exact⟨rfl,rfl,rfl⟩
def Pl.aright (n mtu win kp c0 c1 c2:Int):Bool:=Pl.inside n 0 7&&(Pl.inside mtu 512 4096&&(Pl.inside win 1 16&&(Pl.inside kp 1 16&&Pl.patient c0 c1 c2)))
theorem vU (n mtu win kp salt seed c0 c1 c2:Int) (w:World):Calls prog 59 #[.agg (Qd n mtu win kp salt seed c0 c1 c2)] w fun r w'=>r=.returned (.bool (Pl.aright n mtu win kp c0 c1 c2))∧Below w.heap.size w w':=by
 have b1:=bn w (.cells (Qd n mtu win kp salt seed c0 c1 c2) 74)
 have hx:=heap_alloc_new w (.cells (Qd n mtu win kp salt seed c0 c1 c2) 74)
 have HB:=zA b1
 clear b1
 unfold Pl.aright
 have x0:=cc 0 hx
 have x1:=cc 1 hx
 have x2:=cc 2 hx
 have x3:=cc 3 hx
 have x6:=cc 6 hx
 have x7:=cc 7 hx
 have x8:=cc 8 hx
 clear hx
 go_enter func59,ntmps59
 go_wp2_with fail
 generalize w.alloc (.cells (Qd n mtu win kp salt seed c0 c1 c2) 74)=W at *
 refine(yZ _ _ _ _).mono ?_
 rintro e w' ⟨rfl,rfl⟩
 cases h0:Pl.inside n 0 7 with
 | false=>
  go_wp2_with fail
  go_ret
  exact⟨by rw[h0];rfl,HB.out⟩
 | true=>
  go_wp2_with fail
  refine(yZ _ _ _ _).mono ?_
  rintro e w' ⟨rfl,rfl⟩
  cases h1:Pl.inside mtu 512 4096 with
  | false=>
   go_wp2_with fail
   go_ret
   exact⟨by rw[h0,h1];rfl,HB.out⟩
  | true=>
   go_wp2_with fail
   refine(yZ _ _ _ _).mono ?_
   rintro e w' ⟨rfl,rfl⟩
   cases h2:Pl.inside win 1 16 with
   | false=>
    go_wp2_with fail
    go_ret
    exact⟨by rw[h0,h1,h2];rfl,HB.out⟩
   | true=>
    go_wp2_with fail
    refine(yZ _ _ _ _).mono ?_
    rintro e w' ⟨rfl,rfl⟩
    cases h3:Pl.inside kp 1 16 with
    | false=>
     go_wp2_with fail
     go_ret
     exact⟨by rw[h0,h1,h2,h3];rfl,HB.out⟩
    | true=>
     go_wp2_with fail
     refine(tK _ _ _ _).mono ?_
     rintro e w2 ⟨rfl,hb⟩
     go_wp2_with fail
     go_ret
     exact⟨by rw[h0,h1,h2,h3];rfl,HB.out.trans (hb.mono HB.out.size)⟩
theorem Cf.Ok.right {c:Cf} (h:c.Ok):Pl.aright c.n c.mtu c.win c.kp c.c0 c.c1 c.c2=true:=by
 have h1:=h.n;have h2:=h.mtu;have h3:=h.win;have h4:=h.kp
 unfold Pl.aright
 rw[h.pat,zM (by omega) (by omega),zM (by omega) (by omega),zM (by omega) (by omega),zM (by omega) (by omega)]
 rfl
theorem owns_zero (ao:Option Addr) (cap:Nat) (w:World):Calls prog 293 #[.slice ao 0 cap] w fun e w'=>e=.returned (.slice none 0 0)∧w=w':=by
 go_enter func293,ntmps293
 go_wp2_with fail
 go_loopw [2,7] (fun x i wr=>x=.slice none 0 0∧i=.int .i64 0∧w=wr) (fun _ _ _=>0)
 case atStart=>exact⟨rfl,rfl,rfl⟩
 case round=>
  obtain⟨rfl,rfl,rfl⟩:=hrel
  go_wp2_with fail
  go_ret
  exact⟨rfl,rfl⟩
theorem rB (F:Nat→Prop) (s':Nat) (size:Int) (bs:List Int) (used upto inc:Int) (w:World) (h:StAt F w s' size bs used upto inc []) :
  Calls prog 219 #[Qp s'] w fun e w'=>e=.returned (.slice none 0 0)∧w=w':=by
 obtain⟨d,v,_,_,_,_,c4,_,_,_,ho,_⟩:=h.cells
 obtain⟨ao,cap,rfl⟩:=Mem.own_shape ho
 clear h ho
 have qP:∀w,(binOp BinOp.eql 103 (Qp s') (.pointer none)).run prog w=.ok (.bool false) w:=fun _=>by kernel_rfl
 go_enter func219,ntmps219
 go_wp2_with fail
 refine(owns_zero ao cap w).mono ?_
 rintro e w' ⟨rfl,rfl⟩
 go_wp2_with fail
 go_ret
 exact⟨rfl,rfl⟩
def StTy (w:World) (k:Nat):Prop:=∃cs t fr,w.heap[k]?=some (Obj.cells cs t fr)∧(t=410∨t=244∨t=5∨t=175)
theorem StTy.lt {w:World} {k:Nat} (h:StTy w k):k<w.heap.size:=by obtain⟨cs,t,fr,h,_⟩:=h;exact(gsi.1 h).1
theorem StTy.keep {w w':World} {k:Nat} (h:StTy w k) (hk:w'.heap[k]?=w.heap[k]?):StTy w' k:=by obtain⟨cs,t,fr,h,ht⟩:=h;exact⟨cs,t,fr,hk.trans h,ht⟩
theorem StAt.tight {F:Nat→Prop} {w:World} {s':Nat} {size:Int} {bs:List Int} {used upto inc:Int} {es:List Pl.Ev} (h:StAt F w s' size bs used upto inc es):StAt (fun g=>F g∧StTy w g) w s' size bs used upto inc es:=by
 obtain⟨h1,d,v,h2,⟨k1,u,k2,k3,k4⟩,h4,h5⟩:=h
 obtain⟨c,hc,_⟩:=id h2
 obtain⟨c',hc',_⟩:=id k2
 refine⟨⟨h1,c,410,_,hc,.inl rfl⟩,d,v,h2,⟨⟨k1,c',244,_,hc',.inr (.inl rfl)⟩,u,k2,k3,fun g hb hg=>⟨k4 g hb hg,?_⟩⟩,h4,fun g hg=>⟨h5 g hg,?_⟩⟩
 ·obtain⟨ao,cap,rfl,_,k3⟩:=k3
  obtain⟨g',off,cs,fr,e1,e2,_⟩:=k3 0 (List.length_pos_iff.2 hb)
  rw[e1]at hg
  cases hg
  exact⟨cs,5,fr,e2,.inr (.inr (.inl rfl))⟩
 ·obtain⟨cs,hcs⟩:=zK h4 hg
  exact⟨cs,175,_,hcs,.inr (.inr (.inr rfl))⟩
structure AgP where
 a:Nat
 s:Nat
 g:Nat
 o:Nat
 b:Nat
 ms:Nat
 mh:Nat
 D:Nat
 T:Nat
 O:Nat
 S:Nat
 A:Nat
def AgP.has (p:AgP) (k:Nat):Prop:=k=p.a∨k=p.g∨k=p.b∨k=p.ms∨k=p.mh∨k=p.D∨k=p.T∨k=p.S
structure AgAt (F:Nat→Prop) (w:World) (p:AgP) (c:Cf) (size:Int) (bs:List Int) (used upto:Int) (own es:List Pl.Ev) (clock:Int):Prop where
 ag:w.heap[p.a]?=some (.cells #[.int .i64 c.n,.int .i64 c.mtu,.int .i64 c.win,.int .i64 c.kp,.int .u64 c.salt,.int .u64 c.seed,.int .i64 c.c0,.int .i64 c.c1,.int .i64 c.c2,Qp p.s,Qp p.g,Qp p.D,Qp p.A,.int .i64 0,.bool false] 108 (0,0))
 st:StAt F w p.s size bs used upto 1 own
 go:GoAt w p.g p.o p.b p.ms p.mh c.n c.mtu es clock
 dt:DtAt w p.D p.T p.O p.S c.n c.c0 c.c1 c.c2
 sep:∀k,F k→¬p.has k
 ty:∀k,F k→StTy w k
 ok:c.Ok
 ne:p.T≠p.a∧p.T≠p.g∧p.T≠p.b∧p.T≠p.ms∧p.T≠p.mh
 sm:p.S≠p.ms∧p.S≠p.mh
theorem AgAt.lt {F:Nat→Prop} {w:World} {p:AgP} {c:Cf} {size:Int} {bs:List Int} {used upto:Int} {own es:List Pl.Ev} {clock:Int} (h:AgAt F w p c size bs used upto own es clock):∀k,F k→k<w.heap.size:=fun k hk=>(h.ty k hk).lt
theorem AgAt.hlt {F:Nat→Prop} {w:World} {p:AgP} {c:Cf} {size:Int} {bs:List Int} {used upto:Int} {own es:List Pl.Ev} {clock:Int} (h:AgAt F w p c size bs used upto own es clock):∀k,p.has k→k<w.heap.size:=fun k hk=>by
 obtain⟨h1,h2,h3⟩:=h.dt.lt
 obtain⟨h4,h5,h6⟩:=h.go.bk.lt
 have h7:=(gsi.1 h.ag).1
 have h8:=(gsi.1 h.go.gs).1
 rcases hk with rfl | rfl | rfl | rfl | rfl | rfl | rfl | rfl<;>assumption
theorem AgAt.keep {F:Nat→Prop} {w w':World} {p:AgP} {c:Cf} {size:Int} {bs:List Int} {used upto:Int} {own es:List Pl.Ev} {clock:Int} (h:AgAt F w p c size bs used upto own es clock) (hs:w.heap.size≤w'.heap.size) (k:∀g,F g∨p.has g→w'.heap[g]?=w.heap[g]?):AgAt F w' p c size bs used upto own es clock:=
 ⟨(k _ (.inr (.inl rfl))).trans h.ag,h.st.keep (fun g hg=>k g (.inl hg)),
  ⟨(k _ (.inr (.inr (.inl rfl)))).trans h.go.gs,h.go.bk.keep (fun g hg=>k g (.inr (by rcases hg with rfl | rfl | rfl<;>simp[AgP.has]))),h.go.ok,h.go.len,h.go.n8⟩,
  h.dt.keep hs (fun g hg=>k g (.inr (by rcases hg with rfl | rfl | rfl<;>simp[AgP.has]))),h.sep,fun g hg=>(h.ty g hg).keep (k g (.inl hg)),h.ok,h.ne,h.sm⟩
theorem AgAt.below {F:Nat→Prop} {w w':World} {p:AgP} {c:Cf} {size:Int} {bs:List Int} {used upto:Int} {own es:List Pl.Ev} {clock:Int} (h:AgAt F w p c size bs used upto own es clock) (hb:Below w.heap.size w w'):AgAt F w' p c size bs used upto own es clock:=
 h.keep hb.size (fun g hg=>hb.block g (hg.elim (h.lt g) (h.hlt g)))
def rec1:List Int:=Pl.frame (2::Pl.vint 1)
theorem start_full (c:Cf) (hc:c.Ok) (F:Nat→Prop) (d:Nat) (size:Int) (w:World) (h:DkAt F w d size []) (hin:∀g,F g→g<w.heap.size) (hs:0≤size) (hs':size≤16384) (hf:size<rec1.length) :
  Calls prog 128 #[.agg (Qd c.n c.mtu c.win c.kp c.salt c.seed c.c0 c.c1 c.c2),Qp d] w fun r w'=>r=.returned (.tuple #[.pointer none,.int .i64 7])∧Below w.heap.size w w':=by
 obtain⟨hx,hy,b1⟩:=zT w (.cells (Qd c.n c.mtu c.win c.kp c.salt c.seed c.c0 c.c1 c.c2) 74) (.cells (Qo 0) 41)
 have HX:=zA hx
 have HY:=zA hy
 have HB:=zA b1
 have HR:=zA (fun W=>vU c.n c.mtu c.win c.kp c.salt c.seed c.c0 c.c1 c.c2 W)
 simp only[hc.right]at HR
 have HO:=zA (fun (W:World) (hW:Below w.heap.size w W)=>open_ok F d size W (h.below hW))
 have HU:=zA (fun (W:World) (F':Nat→Prop) (s':Nat) (hS:StAt F' W s' size [] 0 0 ((0:Nat):Int) [])=>bump_full F' s' size [] 0 0 0 [] W hS (by simp) hs hs' (by omega) (by simpa[rec1]using hf))
 clear hx hy b1 h hin hs hs' hf
 go_enter_defers func128,ntmps128
 go_wp2_with (refine zH rfl 74 (.tmp 2) w.heap.size (Qd c.n c.mtu c.win c.kp c.salt c.seed c.c0 c.c1 c.c2) 74 (0,0) _ rfl rfl HX.out underlying74 rfl (by kernel_rfl) ?_)
 generalize (w.alloc (.cells (Qd c.n c.mtu c.win c.kp c.salt c.seed c.c0 c.c1 c.c2) 74)).alloc (.cells (Qo 0) 41)=W at *
 refine(HR.out W).mono ?_
 rintro r w1 ⟨rfl,hb⟩
 have HB1:=zA (HB.out.trans (hb.mono HB.out.size))
 have HY1:=zA (zC HY.out hb)
 clear hb HX HY HB HR
 go_wp2_with fail
 refine(HO.out w1 HB1.out).mono ?_
 rintro r w2 ⟨s',rfl,hsg,hst,hb⟩
 have HB2:=zA (HB1.out.trans (hb.mono HB1.out.size))
 have HY2:=zA (zC HY1.out hb)
 have HS2:=zA hst
 clear hsg hst hb HB1 HY1 HO
 go_wp2_with fail
 refine(sS _ _).mono ?_
 rintro r w3 ⟨rfl,rfl⟩
 go_wp2_with fail
 refine(HU.out w2 _ s' HS2.out).mono ?_
 rintro r w4 ⟨rfl,hb⟩
 have HB4:=zA (HB2.out.trans (hb.mono HB2.out.size))
 have HY4:=zA (zC HY2.out hb)
 clear hb HB2 HY2 HS2 HU
 go_wp2_with fail
 refine(tY _ 7 (by decide) _).mono ?_
 rintro r w5 ⟨rfl,rfl⟩
 go_wp2_with fail
 refine leaves_cons (f:=46) (args:=#[Qp (w.heap.size+1)]) (by simp) (by simp[go_sem]) ?_
 have hlt:=(gsi.1 HY4.out).1
 refine(vA ⟨w.heap.size+1,0,none⟩ 7 0 [] _ (zF HY4.out rfl) (zB HY4.out 0)).mono ?_
 rintro e u' w'' ⟨rfl,rfl,rfl⟩
 have hz:=zP (HB4.out.alloc HB4.out.size (.cells (Qo 7) 187)) (Nat.le_succ _) 0 (.int .i64 7)
 have cz:((w4.alloc (.cells (Qo 7) 187)).setCell ⟨w.heap.size+1,0,none⟩ (.int .i64 7)).cell? ⟨w.heap.size+1,0,none⟩=some (.int .i64 7):=World.cell?_setCell_same _ _ _ ((World.cell?_alloc_lt _ _ _ hlt).trans (zF HY4.out rfl))
 generalize (w4.alloc (.cells (Qo 7) 187)).setCell ⟨w.heap.size+1,0,none⟩ (.int .i64 7)=Z at *
 simp[Leaves,settle,results,results128,go_sem,cz]
 exact hz
end
end Go.Proofs.YtodlmbfbfaofcaaGreat
