/- TopPolicies, part 30. -/
import Derived.Test.YtodlmbfbfaofcaaGreatM01
import Derived.Test.YtodlmbfbfaofcaaGreatM02
import Derived.Test.YtodlmbfbfaofcaaGreatM04
import Derived.Test.YtodlmbfbfaofcaaGreatM08
import Derived.Test.YtodlmbfbfaofcaaGreatM29
open Go.Proofs.Tryz
namespace Go.Proofs.YtodlmbfbfaofcaaGreat
set_option linter.unusedVariables false
set_option linter.unusedSimpArgs false
set_option maxRecDepth 100000
set_option maxHeartbeats 8000000
section
open Go.RowKit Rw Rh
theorem rQ (x:Int) (w:World):Calls prog 289 #[.int .u64 x] w fun r w'=>r=.returned (Qp w.heap.size)∧Below w.heap.size w w':=by
 have HB:=zA (bn w (.cells #[.int .u64 x,.slice none 0 0] 451))
 go_enter func289,ntmps289
 go_wp2_with fail
 go_ret
 exact⟨rfl,HB.out⟩
theorem wY (n lo hi:Int) (w:World):Calls prog 208 (Qj n lo hi) w fun e w'=>e=.returned (.bool (Pl.inside n lo hi))∧w=w':=by
 go_enter func208,ntmps208
 go_wp2_with fail
 refine(within_any _ _ _ _).mono ?_
 rintro e w' ⟨rfl,rfl⟩
 go_wp2_with fail
 go_ret
 exact⟨by rw[Pl.inside_eq];rfl,rfl⟩
def Pl.patient (c0 c1 c2:Int):Bool:=Pl.inside c0 1 100&&(Pl.inside c1 0 8&&Pl.inside c2 1 1000)
theorem tS (c0 c1 c2:Int) (w:World):Calls prog 127 #[.agg (Qj c0 c1 c2)] w fun e w'=>e=.returned (.bool (Pl.patient c0 c1 c2))∧Below w.heap.size w w':=by
 have b1:=bn w (.cells (Qj c0 c1 c2) 72)
 have HX:=zA (heap_alloc_new w (.cells (Qj c0 c1 c2) 72))
 have HB:=zA b1
 clear b1
 unfold Pl.patient
 have x0:=cc 0 HX.out
 have x1:=cc 1 HX.out
 have x2:=cc 2 HX.out
 go_enter func127,ntmps127
 go_wp2_with fail
 refine(wY _ _ _ _).mono ?_
 rintro e w' ⟨rfl,rfl⟩
 cases h0:Pl.inside c0 1 100 with
 | false=>
  go_wp2_with fail
  go_ret
  exact⟨by rw[h0];rfl,HB.out⟩
 | true=>
  go_wp2_with fail
  refine(wY _ _ _ _).mono ?_
  rintro e w' ⟨rfl,rfl⟩
  cases h1:Pl.inside c1 0 8 with
  | false=>
   go_wp2_with fail
   go_ret
   exact⟨by rw[h0,h1];rfl,HB.out⟩
  | true=>
   go_wp2_with fail
   refine(wY _ _ _ _).mono ?_
   rintro e w' ⟨rfl,rfl⟩
   go_wp2_with fail
   go_ret
   exact⟨by rw[h0,h1];rfl,HB.out⟩
theorem gnew_ok (n mtu:Nat) (x:Int) (w:World) (hn:n<8) (hm:512≤mtu∧mtu≤4096) :
  Calls prog 214 #[.int .i64 n,.int .i64 mtu,.int .u64 x] w fun r w'=>∃g o b ms mh,r=.returned (.tuple #[Qp g,.int .i64 0])∧GoAt w' g o b ms mh n mtu [] [] 0∧(∀k,k=g∨k=b∨k=ms∨k=mh→w.heap.size≤k)∧Below w.heap.size w w':=by
 have e0:Pl.inside (n:Int) 0 7=true:=zL lD lD
 have e1:Pl.within (mtu:Int) 512 4096=mtu:=by unfold Pl.within;rw[if_neg (by omega),if_neg (by omega)]
 have HN:=zA (And.intro hn hm)
 clear hn hm
 go_enter func214,ntmps214
 go_wp2_with fail
 refine(rE _ _).mono ?_
 rintro r w' ⟨rfl,rfl⟩
 rw[e0]
 go_wp2_with fail
 refine(within_any _ _ _ _).mono ?_
 rintro r w' ⟨rfl,rfl⟩
 rw[e1]
 clear e0 e1
 go_wp2_with fail
 refine(rQ _ _).mono ?_
 rintro r w1 ⟨rfl,hb1⟩
 go_wp2_with fail
 refine(bnew_ok w1).mono ?_
 rintro r w2 ⟨b,ms,mh,rfl,h1,h2,h3,hbk,hb2⟩
 have b3:=bn w2 (.cells #[.int .i64 n,.int .i64 mtu,Qp w.heap.size,Qp b] 218)
 have HX:=zA (heap_alloc_new w2 (.cells #[.int .i64 n,.int .i64 mtu,Qp w.heap.size,Qp b] 218))
 have HBK:=zA (hbk.below b3)
 have HB:=zA (hb1.trans ((hb2.trans (b3.mono hb2.size)).mono hb1.size))
 have HS:=zA (And.intro h1 (And.intro h2 (And.intro h3 (And.intro hb1.size hb2.size))))
 clear b3 hbk hb1 hb2 h1 h2 h3
 go_wp2_with fail
 exact bodyPost_ret (v:=.tuple #[Qp w2.heap.size,.int .i64 0]) (by simp[results,results214,go_sem]) rfl ⟨w2.heap.size,w.heap.size,b,ms,mh,rfl,⟨HX.out,HBK.out,fun e he=>absurd he (by simp),fun e he=>absurd he (by simp),fun d hd=>absurd hd (by simp),by decide,HN.out.1⟩,fun k hk=>by have:=HS.out;rcases hk with rfl | rfl | rfl | rfl<;>omega,HB.out⟩
theorem tab_self (n:Nat) (hn:n<8):(Mem.Pl.Tab.none.hear n 1 1).known n=true∧(Mem.Pl.Tab.none.hear n 1 1).st n=1∧(Mem.Pl.Tab.none.hear n 1 1).inc n=1:=by
 have hm:Mem.Pl.may n 1 1=true:=by unfold Mem.Pl.may;rw[Bool.and_eq_true,Bool.and_eq_true];exact⟨(Mem.Pl.inB_iff _ _ _).2 lD,(Mem.Pl.inB_iff _ _ _).2 lD,(Mem.Pl.inB_iff _ _ _).2 lD⟩
 have hs:Mem.Pl.Tab.none.said n 1 1=true:=by unfold Mem.Pl.Tab.said;rw[hm];rfl
 unfold Mem.Pl.Tab.hear
 rw[if_pos hs]
 simp[Mem.Pl.Tab.set]
theorem snew_ok (n:Nat) (c0 c1 c2 x:Int) (w:World) (hn:n<8) (hp:Pl.patient c0 c1 c2=true) :
  Calls prog 216 #[.int .i64 n,.int .i64 1,.agg (Qj c0 c1 c2),.int .u64 x] w fun r w'=>∃D T O S,r=.returned (.tuple #[Qp D,.int .i64 0])∧DtAt w' D T O S n c0 c1 c2∧(∀k,k=D∨k=T∨k=S→w.heap.size≤k)∧Below w.heap.size w w':=by
 have b1:=bn w (.cells (Qj c0 c1 c2) 72)
 have HX:=zA (heap_alloc_new w (.cells (Qj c0 c1 c2) 72))
 have HB:=zA b1
 have HN:=zA hn
 have HP:=zA hp
 clear b1 hn hp
 go_enter func216,ntmps216
 go_wp2_with fail
 generalize w.alloc (.cells (Qj c0 c1 c2) 72)=W at *
 refine(Mem.new_ok n 1 W (by have:=HN.out;unfold Mem.Pl.may;rw[Bool.and_eq_true,Bool.and_eq_true];refine⟨(Mem.Pl.inB_iff _ _ _).2 (by omega),(Mem.Pl.inB_iff _ _ _).2 (by omega),(Mem.Pl.inB_iff _ _ _).2 (by omega)⟩)).mono ?_
 rintro r w1 ⟨rfl,ht,hb⟩
 have HB1:=zA (HB.out.trans (hb.mono HB.out.size))
 have HT1:=zA ht
 have HTS:=zA HB.out.size
 have HTL:=zA ht.lt
 have hx1:=zC HX.out hb
 have HX1:=zA hx1
 have x0:=cc 0 hx1
 have x1:=cc 1 hx1
 have x2:=cc 2 hx1
 clear ht hb hx1 HB HX
 go_wp2_with fail
 clear x0 x1 x2
 refine(tS c0 c1 c2 w1).mono ?_
 rintro r w2 ⟨rfl,hb⟩
 rw[HP.out]
 have HB2:=zA (HB1.out.trans (hb.mono HB1.out.size))
 have HT2:=zA (HT1.out.below hb)
 have HX2:=zA (zC HX1.out hb)
 have HTL2:=zA (Nat.lt_of_lt_of_le HTL.out hb.size)
 clear hb HB1 HT1 HX1 HTL
 go_wp2_with fail
 have hmm:=@run_makeMap prog
 refine zD (fun W'=>W'.heap[w.heap.size]?=some (.cells (Qj c0 c1 c2) 72 (0,0))) 99 lE HX2.out (fun qB=>?_)
 refine tkp 0 24 rfl ?_
 refine tkp 1 25 rfl ?_
 refine tk 2 26 rfl (by intro wS hSw;have q0:=cc 0 hSw;have q1:=cc 1 hSw;have q2:=cc 2 hSw;clear hSw;go_simp;(try with_reducible rfl)) ?_
 refine tkp 3 27 rfl ?_
 refine tkp 4 28 rfl ?_
 refine t2 5 6 rfl rfl (fun K hK=>?_) (fun K hK=>?_)
 ·go_simp
  refine(rQ x w2.drew).mono ?_
  rintro r w3 ⟨rfl,hb⟩
  have hbw:=(Below.refl w2.heap.size w2).drew.trans hb
  have HB3:=zA (HB2.out.trans (hbw.mono HB2.out.size))
  have HT3:=zA (HT2.out.below hbw)
  have HX3:=zA (zC HX2.out hbw)
  have HX0:=zA hbw
  clear hb hbw qB
  refine hK.out _ _ (fun _=>HX3.out) (fun _=>?_)
  clear hK K
  try simp only[pt,List.set]
  refine t1 6 rfl (fun K hK=>?_)
  go_simp
  have b4:=bn w3 (.map #[] 0)
  have HB4:=zA (HB3.out.trans (b4.mono HB3.out.size))
  have HT4:=zA (HT3.out.below b4)
  have HS4:=zA (heap_alloc_new w3 (.map #[] 0))
  have HXX:=zA (HX0.out.trans (b4.mono HX0.out.size))
  have qB:=zC HX3.out b4
  clear b4
  refine hK.out _ _ (fun _=>qB) (fun _=>?_)
  clear hK K
  try simp only[pt,List.set]
  generalize w3.alloc (.map #[] 0)=w4 at *
  refine tkp 7 31 rfl ?_
  refine t1 8 rfl (fun K hK=>?_)
  go_simp
  have b8:=bn (w4) (.cells #[.int .i64 n,.int .i64 1,.int .i64 c0,.int .i64 c1,.int .i64 c2,Qp W.heap.size,Qp w2.heap.size,.int .i64 0,.int .i64 0,.pointer none,.int .i64 0,.map (some (w3.heap.size)),.slice none 0 0,.bool false] 210)
  have HD8:=zA (heap_alloc_new (w4) (.cells #[.int .i64 n,.int .i64 1,.int .i64 c0,.int .i64 c1,.int .i64 c2,Qp W.heap.size,Qp w2.heap.size,.int .i64 0,.int .i64 0,.pointer none,.int .i64 0,.map (some (w3.heap.size)),.slice none 0 0,.bool false] 210))
  have HB8:=zA (HB4.out.trans (b8.mono HB4.out.size))
  have HT8:=zA (HT4.out.below b8)
  have HS8:=zA (zC HS4.out b8)
  have HX8:=zA (zC HX2.out (HXX.out.trans (b8.mono HXX.out.size)))
  have HLT:=zA (show W.heap.size<(w4).heap.size from Nat.lt_of_lt_of_le HTL2.out HXX.out.size)
  have HSN:=zA (show w2.heap.size≤w3.heap.size from HX0.out.size)
  have HWS:=zA (show w.heap.size≤(w4).heap.size from HB4.out.size)
  generalize (w4).alloc (.cells #[.int .i64 n,.int .i64 1,.int .i64 c0,.int .i64 c1,.int .i64 c2,Qp W.heap.size,Qp w2.heap.size,.int .i64 0,.int .i64 0,.pointer none,.int .i64 0,.map (some (w3.heap.size)),.slice none 0 0,.bool false] 210)=w9 at *
  clear b8 qB
  refine hK.out _ _ (fun _=>HX8.out) (fun _=>?_)
  clear hK K
  try simp only[pt,List.set]
  have qB:=HX8.out
  refine tkp 9 8 rfl ?_
  refine tkp 10 9 rfl ?_
  refine wd ?_
  clear qB
  go_wp2_with fail
  have hkn:(Mem.Pl.Tab.none.hear n 1 1).known n=true∧(Mem.Pl.Tab.none.hear n 1 1).st n=1∧(Mem.Pl.Tab.none.hear n 1 1).inc n=1:=tab_self n HN.out
  exact bodyPost_ret (v:=.tuple #[Qp ((w4).heap.size),.int .i64 0]) (by simp[results,results216,go_sem]) rfl ⟨(w4).heap.size,W.heap.size,w2.heap.size,w3.heap.size,rfl,⟨HD8.out,⟨_,HT8.out,hkn⟩,⟨0,HS8.out⟩,by have:=HLT.out;have:=HTL2.out;have:=HSN.out;omega,HN.out⟩,fun k hk=>by have:=HTS.out;have:=HSN.out;have:=HB2.out.size;have:=HWS.out;rcases hk with rfl | rfl | rfl<;>omega,HB8.out⟩
 ·go_simp
  have b3:=(bn w2 (.map #[] 0)).drew
  have HB3:=zA (HB2.out.trans (b3.mono HB2.out.size))
  have HT3:=zA (HT2.out.below b3)
  have HX3:=zA (zC HX2.out b3)
  have HS3:=zA (show((w2.alloc (.map #[] 0)).drew).heap[w2.heap.size]?=some (.map #[] 0)from heap_alloc_new w2 (.map #[] 0))
  have HX0:=zA b3
  clear b3 qB
  refine hK.out _ _ (fun _=>HX3.out) (fun _=>?_)
  clear hK K
  try simp only[pt,List.set]
  have qB:=HX3.out
  generalize (w2.alloc (.map #[] 0)).drew=w3 at *
  refine t1 5 rfl (fun K hK=>?_)
  go_simp
  refine(rQ x w3).mono ?_
  rintro r w4 ⟨rfl,hb⟩
  have HB4:=zA (HB3.out.trans (hb.mono HB3.out.size))
  have HT4:=zA (HT3.out.below hb)
  have HS4:=zA (zC HS3.out hb)
  have HXX:=zA (HX0.out.trans (hb.mono HX0.out.size))
  have HX4:=zA (zC HX3.out hb)
  clear hb qB
  refine hK.out _ _ (fun _=>HX4.out) (fun _=>?_)
  clear hK K
  try simp only[pt,List.set]
  have qB:=HX4.out
  refine tkp 7 31 rfl ?_
  refine t1 8 rfl (fun K hK=>?_)
  go_simp
  have b8:=bn (w4) (.cells #[.int .i64 n,.int .i64 1,.int .i64 c0,.int .i64 c1,.int .i64 c2,Qp W.heap.size,Qp w3.heap.size,.int .i64 0,.int .i64 0,.pointer none,.int .i64 0,.map (some (w2.heap.size)),.slice none 0 0,.bool false] 210)
  have HD8:=zA (heap_alloc_new (w4) (.cells #[.int .i64 n,.int .i64 1,.int .i64 c0,.int .i64 c1,.int .i64 c2,Qp W.heap.size,Qp w3.heap.size,.int .i64 0,.int .i64 0,.pointer none,.int .i64 0,.map (some (w2.heap.size)),.slice none 0 0,.bool false] 210))
  have HB8:=zA (HB4.out.trans (b8.mono HB4.out.size))
  have HT8:=zA (HT4.out.below b8)
  have HS8:=zA (zC HS4.out b8)
  have HX8:=zA (zC HX2.out (HXX.out.trans (b8.mono HXX.out.size)))
  have HLT:=zA (show W.heap.size<(w4).heap.size from Nat.lt_of_lt_of_le HTL2.out HXX.out.size)
  have HSN:=zA (show w2.heap.size≤w2.heap.size from Nat.le_refl _)
  have HWS:=zA (show w.heap.size≤(w4).heap.size from HB4.out.size)
  generalize (w4).alloc (.cells #[.int .i64 n,.int .i64 1,.int .i64 c0,.int .i64 c1,.int .i64 c2,Qp W.heap.size,Qp w3.heap.size,.int .i64 0,.int .i64 0,.pointer none,.int .i64 0,.map (some (w2.heap.size)),.slice none 0 0,.bool false] 210)=w9 at *
  clear b8 qB
  refine hK.out _ _ (fun _=>HX8.out) (fun _=>?_)
  clear hK K
  try simp only[pt,List.set]
  have qB:=HX8.out
  refine tkp 9 8 rfl ?_
  refine tkp 10 9 rfl ?_
  refine wd ?_
  clear qB
  go_wp2_with fail
  have hkn:(Mem.Pl.Tab.none.hear n 1 1).known n=true∧(Mem.Pl.Tab.none.hear n 1 1).st n=1∧(Mem.Pl.Tab.none.hear n 1 1).inc n=1:=tab_self n HN.out
  exact bodyPost_ret (v:=.tuple #[Qp ((w4).heap.size),.int .i64 0]) (by simp[results,results216,go_sem]) rfl ⟨(w4).heap.size,W.heap.size,w3.heap.size,w2.heap.size,rfl,⟨HD8.out,⟨_,HT8.out,hkn⟩,⟨0,HS8.out⟩,by have:=HLT.out;have:=HTL2.out;have:=HSN.out;omega,HN.out⟩,fun k hk=>by have:=HTS.out;have:=HSN.out;have:=HB2.out.size;have:=HWS.out;rcases hk with rfl | rfl | rfl<;>omega,HB8.out⟩
theorem anew_ok (n win kp:Nat) (x:Int) (w:World) (hn:n<8) (hw:1≤win∧win≤16) (hk:1≤kp∧kp≤16) :
  Calls prog 218 #[.agg #[.int .i64 n,.int .i64 win,.int .i64 kp,.int .u64 x]] w fun r w'=>∃A,r=.returned (.tuple #[Qp A,.int .i64 0])∧Below w.heap.size w w':=by
 have b1:=bn w (.cells #[.int .i64 n,.int .i64 win,.int .i64 kp,.int .u64 x] 340)
 have hx:=heap_alloc_new w (.cells #[.int .i64 n,.int .i64 win,.int .i64 kp,.int .u64 x] 340)
 have e0:Pl.inside (n:Int) 0 7=true:=zL lD lD
 have e1:Pl.inside (win:Int) 1 16=true:=zL lD lD
 have e2:Pl.inside (kp:Int) 1 16=true:=zL lD lD
 have HB:=zA b1
 have HX:=zA hx
 have x0:=cc 0 hx
 have x1:=cc 1 hx
 have x2:=cc 2 hx
 have x3:=cc 3 hx
 clear b1 hx hn hw hk
 go_enter func218,ntmps218
 go_wp2_with fail
 refine(vW _ _ _ _).mono ?_
 rintro r w' ⟨rfl,rfl⟩
 rw[e0]
 go_wp2_with fail
 refine(vW _ _ _ _).mono ?_
 rintro r w' ⟨rfl,rfl⟩
 rw[e1]
 go_wp2_with fail
 refine(vW _ _ _ _).mono ?_
 rintro r w' ⟨rfl,rfl⟩
 rw[e2]
 go_wp2_with fail
 exact bodyPost_ret (v:=.tuple #[Qp ((w.alloc (.cells #[.int .i64 n,.int .i64 win,.int .i64 kp,.int .u64 x] 340)).heap.size),.int .i64 0]) (by simp[results,results218,go_sem]) rfl ⟨_,rfl,HB.out.alloc HB.out.size _⟩
structure Cf where
 n:Nat
 mtu:Nat
 win:Nat
 kp:Nat
 salt:Int
 seed:Int
 c0:Int
 c1:Int
 c2:Int
structure Cf.Ok (c:Cf):Prop where
 n:c.n<8
 mtu:512≤c.mtu∧c.mtu≤4096
 win:1≤c.win∧c.win≤16
 kp:1≤c.kp∧c.kp≤16
 pat:Pl.patient c.c0 c.c1 c.c2=true
theorem yO (w:World):Calls prog 53 (Qo 0) w fun e w'=>e=.returned (.tuple #[])∧w=w':=by
 go_enter func53,ntmps53
 go_wp2_with fail
 exact yG results53 ⟨rfl,rfl⟩
theorem rI (x:Int) (hx:(x != 0)=true) (w:World):Calls prog 53 (Qo x) w fun e w'=>e=.panicked [{v:=.iface 187 (.agg (Qo x)),recovered:=false}]∧w=w':=by
 go_enter func53,ntmps53
 go_wp2_with fail
 exact⟨rfl,rfl,rfl⟩
theorem rD (v:Value) (w:World):Calls prog 209 #[v,.int .i64 0] w fun e w'=>e=.returned v∧w=w':=by
 go_enter func209,ntmps209
 exact oX
theorem rC (v:Value) (w:World):Calls prog 211 #[v,.int .i64 0] w fun e w'=>e=.returned v∧w=w':=by
 go_enter func211,ntmps211
 exact oX
theorem got213_ok (v:Value) (w:World):Calls prog 213 #[v,.int .i64 0] w fun e w'=>e=.returned v∧w=w':=by
 go_enter func213,ntmps213
 exact oX
theorem got215_ok (v:Value) (w:World):Calls prog 215 #[v,.int .i64 0] w fun e w'=>e=.returned v∧w=w':=by
 go_enter func215,ntmps215
 exact oX
theorem got217_ok (v:Value) (w:World):Calls prog 217 #[v,.int .i64 0] w fun e w'=>e=.returned v∧w=w':=by
 go_enter func217,ntmps217
 exact oX
theorem uO (v:Value) (w:World):Calls prog 50 #[v,.int .i64 0] w fun e w'=>e=.returned v∧w=w':=by
 go_enter func50,ntmps50
 exact oX
theorem rB (v:Value) (w:World):Calls prog 304 #[v,.int .i64 0] w fun e w'=>e=.returned v∧w=w':=by
 go_enter func304,ntmps304
 exact oX
theorem sF (v:Value) (x:Int) (hx:(x != 0)=true) (w:World):Calls prog 211 #[v,.int .i64 x] w fun e w'=>e=.panicked [{v:=.iface 187 (.agg (Qo x)),recovered:=false}]∧w=w':=by
 go_enter func211,ntmps211
 go_wp2_with fail
 refine(rI x hx w).mono ?_
 rintro e w' ⟨rfl,rfl⟩
 go_wp2_with fail
 exact⟨rfl,rfl,rfl⟩
def Pl.aright (n mtu win kp c0 c1 c2:Int):Bool:=Pl.inside n 0 7&&(Pl.inside mtu 512 4096&&(Pl.inside win 1 16&&(Pl.inside kp 1 16&&Pl.patient c0 c1 c2)))
theorem vV (n mtu win kp salt seed c0 c1 c2:Int) (w:World):Calls prog 59 #[.agg (Qd n mtu win kp salt seed c0 c1 c2)] w fun r w'=>r=.returned (.bool (Pl.aright n mtu win kp c0 c1 c2))∧Below w.heap.size w w':=by
 have b1:=bn w (.cells (Qd n mtu win kp salt seed c0 c1 c2) 74)
 have hx:=heap_alloc_new w (.cells (Qd n mtu win kp salt seed c0 c1 c2) 74)
 have HB:=zA b1
 clear b1
 unfold Pl.aright
 have x0:=cc 0 hx
 have x1:=cc 1 hx
 have x2:=cc 2 hx
 have x3:=cc 3 hx
 have x6:=cc 6 hx
 have x7:=cc 7 hx
 have x8:=cc 8 hx
 clear hx
 go_enter func59,ntmps59
 go_wp2_with fail
 generalize w.alloc (.cells (Qd n mtu win kp salt seed c0 c1 c2) 74)=W at *
 refine(yZ _ _ _ _).mono ?_
 rintro e w' ⟨rfl,rfl⟩
 cases h0:Pl.inside n 0 7 with
 | false=>
  go_wp2_with fail
  go_ret
  exact⟨by rw[h0];rfl,HB.out⟩
 | true=>
  go_wp2_with fail
  refine(yZ _ _ _ _).mono ?_
  rintro e w' ⟨rfl,rfl⟩
  cases h1:Pl.inside mtu 512 4096 with
  | false=>
   go_wp2_with fail
   go_ret
   exact⟨by rw[h0,h1];rfl,HB.out⟩
  | true=>
   go_wp2_with fail
   refine(yZ _ _ _ _).mono ?_
   rintro e w' ⟨rfl,rfl⟩
   cases h2:Pl.inside win 1 16 with
   | false=>
    go_wp2_with fail
    go_ret
    exact⟨by rw[h0,h1,h2];rfl,HB.out⟩
   | true=>
    go_wp2_with fail
    refine(yZ _ _ _ _).mono ?_
    rintro e w' ⟨rfl,rfl⟩
    cases h3:Pl.inside kp 1 16 with
    | false=>
     go_wp2_with fail
     go_ret
     exact⟨by rw[h0,h1,h2,h3];rfl,HB.out⟩
    | true=>
     go_wp2_with fail
     refine(tS _ _ _ _).mono ?_
     rintro e w2 ⟨rfl,hb⟩
     go_wp2_with fail
     go_ret
     exact⟨by rw[h0,h1,h2,h3];rfl,HB.out.trans (hb.mono HB.out.size)⟩
theorem Cf.Ok.right {c:Cf} (h:c.Ok):Pl.aright c.n c.mtu c.win c.kp c.c0 c.c1 c.c2=true:=by
 have h1:=h.n;have h2:=h.mtu;have h3:=h.win;have h4:=h.kp
 unfold Pl.aright
 rw[h.pat,zL (by omega) (by omega),zL (by omega) (by omega),zL (by omega) (by omega),zL (by omega) (by omega)]
 rfl
theorem owns_zero (ao:Option Addr) (cap:Nat) (w:World):Calls prog 293 #[.slice ao 0 cap] w fun e w'=>e=.returned (.slice none 0 0)∧w=w':=by
 go_enter func293,ntmps293
 go_wp2_with fail
 go_loopw [2,7] (fun x i wr=>x=.slice none 0 0∧i=.int .i64 0∧w=wr) (fun _ _ _=>0)
 case atStart=>exact⟨rfl,rfl,rfl⟩
 case round=>
  obtain⟨rfl,rfl,rfl⟩:=hrel
  go_wp2_with fail
  go_ret
  exact⟨rfl,rfl⟩
theorem rL (F:Nat→Prop) (s':Nat) (size:Int) (bs:List Int) (used upto inc:Int) (w:World) (h:StAt F w s' size bs used upto inc []) :
  Calls prog 219 #[Qp s'] w fun e w'=>e=.returned (.slice none 0 0)∧w=w':=by
 obtain⟨d,v,_,_,_,_,c4,_,_,_,ho,_⟩:=h.cells
 obtain⟨ao,cap,rfl⟩:=Mem.own_shape ho
 clear h ho
 have qU:∀w,(binOp BinOp.eql 103 (Qp s') (.pointer none)).run prog w=.ok (.bool false) w:=fun _=>by kernel_rfl
 go_enter func219,ntmps219
 go_wp2_with fail
 refine(owns_zero ao cap w).mono ?_
 rintro e w' ⟨rfl,rfl⟩
 go_wp2_with fail
 go_ret
 exact⟨rfl,rfl⟩
def StTy (w:World) (k:Nat):Prop:=∃cs t fr,w.heap[k]?=some (Obj.cells cs t fr)∧(t=410∨t=244∨t=5∨t=175)
theorem StTy.lt {w:World} {k:Nat} (h:StTy w k):k<w.heap.size:=by obtain⟨cs,t,fr,h,_⟩:=h;exact(gsi.1 h).1
theorem StTy.keep {w w':World} {k:Nat} (h:StTy w k) (hk:w'.heap[k]?=w.heap[k]?):StTy w' k:=by obtain⟨cs,t,fr,h,ht⟩:=h;exact⟨cs,t,fr,hk.trans h,ht⟩
theorem StAt.tight {F:Nat→Prop} {w:World} {s':Nat} {size:Int} {bs:List Int} {used upto inc:Int} {es:List Pl.Ev} (h:StAt F w s' size bs used upto inc es):StAt (fun g=>F g∧StTy w g) w s' size bs used upto inc es:=by
 obtain⟨h1,d,v,h2,⟨k1,u,k2,k3,k4⟩,h4,h5⟩:=h
 obtain⟨c,hc,_⟩:=id h2
 obtain⟨c',hc',_⟩:=id k2
 refine⟨⟨h1,c,410,_,hc,.inl rfl⟩,d,v,h2,⟨⟨k1,c',244,_,hc',.inr (.inl rfl)⟩,u,k2,k3,fun g hb hg=>⟨k4 g hb hg,?_⟩⟩,h4,fun g hg=>⟨h5 g hg,?_⟩⟩
 ·obtain⟨ao,cap,rfl,_,k3⟩:=k3
  obtain⟨g',off,cs,fr,e1,e2,_⟩:=k3 0 (List.length_pos_iff.2 hb)
  rw[e1]at hg
  cases hg
  exact⟨cs,5,fr,e2,.inr (.inr (.inl rfl))⟩
 ·obtain⟨cs,hcs⟩:=zK h4 hg
  exact⟨cs,175,_,hcs,.inr (.inr (.inr rfl))⟩
structure AgP where
 a:Nat
 s:Nat
 g:Nat
 o:Nat
 b:Nat
 ms:Nat
 mh:Nat
 D:Nat
 T:Nat
 O:Nat
 S:Nat
 A:Nat
def AgP.has (p:AgP) (k:Nat):Prop:=k=p.a∨k=p.g∨k=p.b∨k=p.ms∨k=p.mh∨k=p.D∨k=p.T∨k=p.S
structure AgAt (F:Nat→Prop) (w:World) (p:AgP) (c:Cf) (size:Int) (bs:List Int) (used upto:Int) (own:List Pl.Ev) (sd:List (Nat×Nat)) (es:List Pl.Ev) (clock:Int):Prop where
 ag:w.heap[p.a]?=some (.cells #[.int .i64 c.n,.int .i64 c.mtu,.int .i64 c.win,.int .i64 c.kp,.int .u64 c.salt,.int .u64 c.seed,.int .i64 c.c0,.int .i64 c.c1,.int .i64 c.c2,Qp p.s,Qp p.g,Qp p.D,Qp p.A,.int .i64 0,.bool false] 108 (0,0))
 st:StAt F w p.s size bs used upto 1 own
 go:GoAt w p.g p.o p.b p.ms p.mh c.n c.mtu sd es clock
 dt:DtAt w p.D p.T p.O p.S c.n c.c0 c.c1 c.c2
 sep:∀k,F k→¬p.has k
 ty:∀k,F k→StTy w k
 ok:c.Ok
 ne:p.T≠p.a∧p.T≠p.g∧p.T≠p.b∧p.T≠p.ms∧p.T≠p.mh
 sm:p.S≠p.ms∧p.S≠p.mh
theorem AgAt.lt {F:Nat→Prop} {w:World} {p:AgP} {c:Cf} {size:Int} {bs:List Int} {used upto:Int} {own:List Pl.Ev} {sd:List (Nat×Nat)} {es:List Pl.Ev} {clock:Int} (h:AgAt F w p c size bs used upto own sd es clock):∀k,F k→k<w.heap.size:=fun k hk=>(h.ty k hk).lt
theorem AgAt.hlt {F:Nat→Prop} {w:World} {p:AgP} {c:Cf} {size:Int} {bs:List Int} {used upto:Int} {own:List Pl.Ev} {sd:List (Nat×Nat)} {es:List Pl.Ev} {clock:Int} (h:AgAt F w p c size bs used upto own sd es clock):∀k,p.has k→k<w.heap.size:=fun k hk=>by
 obtain⟨h1,h2,h3⟩:=h.dt.lt
 obtain⟨h4,h5,h6⟩:=h.go.bk.lt
 have h7:=(gsi.1 h.ag).1
 have h8:=(gsi.1 h.go.gs).1
 rcases hk with rfl | rfl | rfl | rfl | rfl | rfl | rfl | rfl<;>assumption
def Kd (w w':World):Prop:=∀(g:Nat) (cs:Array Value) (fr:Nat×Nat),w.heap[g]?=some (Obj.cells cs 45 fr)→w'.heap[g]?=w.heap[g]?
theorem Kd.of_below {w w':World} (h:Below w.heap.size w w'):Kd w w':=fun g _ _ hg=>h.block g (gsi.1 hg).1
theorem Kd.trans {a b c:World} (h:Kd a b) (k:Kd b c):Kd a c:=fun g cs fr hg=>(k g cs fr ((h g cs fr hg).trans hg)).trans (h g cs fr hg)
theorem Kd.off {F:Nat→Prop} {w w':World} (ho:Off F w w') (hF:∀(g:Nat) (cs:Array Value) (fr:Nat×Nat),w.heap[g]?=some (Obj.cells cs 45 fr)→¬F g):Kd w w':=fun g cs fr hg=>ho.same g (gsi.1 hg).1 (hF g cs fr hg)
theorem Kd.one {Y:Nat} {w w':World} (ho:Off (fun x=>x=Y) w w') {cs:Array Value} {t:TypeId} {fr:Nat×Nat} (hY:w.heap[Y]?=some (.cells cs t fr)) (ht:t≠45):Kd w w':=
 Kd.off ho (fun g cs' fr' hg e=>by rw[show g=Y from e,hY]at hg;exact zH ht hg)
theorem Is.zero {w w':World} {e:Pl.Ev} (h:Is w e) (ho:e.Ok) {D:Nat} {fr0:Nat×Nat} (hD:w.heap[D]?=some (Obj.cells (Qi 0 0) 45 fr0)) (k:Off (fun x=>x=D) w w'):Is w' e:=by
 obtain⟨ao,cap,h1,h2,h3⟩:=h
 refine⟨ao,cap,h1,h2,fun i hi=>?_⟩
 obtain⟨g,off,cs,fr,e0,hg,c0,c1⟩:=h3 i hi
 have hne:g≠D:=fun ed=>by
  rw[ed,hD]at hg
  cases hg
  obtain⟨n,s,_,hN⟩:=ho.dot
  have h4:=(hN.may _ (List.getElem_mem hi)).2.1
  have h5:=(gsi.1 c1).1
  have h6:off+i*2+1=1:=by simp at h5;omega
  rw[h6]at c1
  simp at c1
  omega
 exact⟨g,off,cs,fr,e0,(k.same g (gsi.1 hg).1 hne).trans hg,c0,c1⟩
theorem AgAt.no45 {F:Nat→Prop} {w:World} {p:AgP} {c:Cf} {size:Int} {bs:List Int} {used upto:Int} {own:List Pl.Ev} {sd:List (Nat×Nat)} {es:List Pl.Ev} {clock:Int} (h:AgAt F w p c size bs used upto own sd es clock) {g:Nat} {cs:Array Value} {fr:Nat×Nat} (hg:w.heap[g]?=some (Obj.cells cs 45 fr)):¬(F g∨p.has g):=fun hk=>by
 rcases hk with hk | hk
 ·obtain⟨cs',t,fr',h1,h2⟩:=h.ty g hk
  rw[hg]at h1;rcases h2 with rfl | rfl | rfl | rfl<;>exact zH lF h1
 ·rcases hk with rfl | rfl | rfl | rfl | rfl | rfl | rfl | rfl
  ·rw[h.ag]at hg;exact zH lF hg
  ·rw[h.go.gs]at hg;exact zH lF hg
  ·rw[h.go.bk.cells]at hg;exact zH lF hg
  ·exact h.go.bk.seen.cells_ne hg rfl
  ·exact h.go.bk.held.cells_ne hg rfl
  ·rw[h.dt.ms]at hg;exact zH lF hg
  ·obtain⟨t,ht,_⟩:=h.dt.tb
   obtain⟨cs',f,h1⟩:=ht.ty
   rw[h1]at hg;exact zH lF hg
  ·obtain⟨z,hz⟩:=h.dt.sm
   rw[hz]at hg;cases hg
theorem AgAt.keep {F:Nat→Prop} {w w':World} {p:AgP} {c:Cf} {size:Int} {bs:List Int} {used upto:Int} {own:List Pl.Ev} {sd:List (Nat×Nat)} {es:List Pl.Ev} {clock:Int} (h:AgAt F w p c size bs used upto own sd es clock) (hs:w.heap.size≤w'.heap.size) (k:∀g,F g∨p.has g→w'.heap[g]?=w.heap[g]?) (ki:∀e∈es,Is w' e):AgAt F w' p c size bs used upto own sd es clock:=
 ⟨(k _ (.inr (.inl rfl))).trans h.ag,h.st.keep (fun g hg=>k g (.inl hg)),
  ⟨(k _ (.inr (.inr (.inl rfl)))).trans h.go.gs,h.go.bk.keep (fun g hg=>k g (.inr (by rcases hg with rfl | rfl | rfl<;>simp[AgP.has]))),h.go.ok,ki,h.go.may,h.go.len,h.go.n8⟩,
  h.dt.keep hs (fun g hg=>k g (.inr (by rcases hg with rfl | rfl | rfl<;>simp[AgP.has]))),h.sep,fun g hg=>(h.ty g hg).keep (k g (.inl hg)),h.ok,h.ne,h.sm⟩
theorem AgAt.below {F:Nat→Prop} {w w':World} {p:AgP} {c:Cf} {size:Int} {bs:List Int} {used upto:Int} {own:List Pl.Ev} {sd:List (Nat×Nat)} {es:List Pl.Ev} {clock:Int} (h:AgAt F w p c size bs used upto own sd es clock) (hb:Below w.heap.size w w'):AgAt F w' p c size bs used upto own sd es clock:=
 h.keep hb.size (fun g hg=>hb.block g (hg.elim (h.lt g) (h.hlt g))) (fun e he=>(h.go.is e he).below hb)
def rec1:List Int:=Pl.frame (2::Pl.vint 1)
theorem start_full (c:Cf) (hc:c.Ok) (F:Nat→Prop) (d:Nat) (size:Int) (w:World) (h:DkAt F w d size []) (hin:∀g,F g→g<w.heap.size) (hs:0≤size) (hs':size≤16384) (hf:size<rec1.length) :
  Calls prog 128 #[.agg (Qd c.n c.mtu c.win c.kp c.salt c.seed c.c0 c.c1 c.c2),Qp d] w fun r w'=>r=.returned (.tuple #[.pointer none,.int .i64 7])∧Below w.heap.size w w':=by
 obtain⟨hx,hy,b1⟩:=zU w (.cells (Qd c.n c.mtu c.win c.kp c.salt c.seed c.c0 c.c1 c.c2) 74) (.cells (Qo 0) 41)
 have HX:=zA hx
 have HY:=zA hy
 have HB:=zA b1
 have HR:=zA (fun W=>vV c.n c.mtu c.win c.kp c.salt c.seed c.c0 c.c1 c.c2 W)
 simp only[hc.right]at HR
 have HO:=zA (fun (W:World) (hW:Below w.heap.size w W)=>open_ok F d size W (h.below hW))
 have HU:=zA (fun (W:World) (F':Nat→Prop) (s':Nat) (hS:StAt F' W s' size [] 0 0 ((0:Nat):Int) [])=>bump_full F' s' size [] 0 0 0 [] W hS (by simp) hs hs' lD (by simpa[rec1]using hf))
 clear hx hy b1 h hin hs hs' hf
 go_enter_defers func128,ntmps128
 go_wp2_with (refine zI rfl 74 (.tmp 2) w.heap.size (Qd c.n c.mtu c.win c.kp c.salt c.seed c.c0 c.c1 c.c2) 74 (0,0) _ rfl rfl HX.out underlying74 rfl lE ?_)
 generalize (w.alloc (.cells (Qd c.n c.mtu c.win c.kp c.salt c.seed c.c0 c.c1 c.c2) 74)).alloc (.cells (Qo 0) 41)=W at *
 refine(HR.out W).mono ?_
 rintro r w1 ⟨rfl,hb⟩
 have HB1:=zA (HB.out.trans (hb.mono HB.out.size))
 have HY1:=zA (zC HY.out hb)
 clear hb HX HY HB HR
 go_wp2_with fail
 refine(HO.out w1 HB1.out).mono ?_
 rintro r w2 ⟨s',rfl,hsg,hst,hb⟩
 have HB2:=zA (HB1.out.trans (hb.mono HB1.out.size))
 have HY2:=zA (zC HY1.out hb)
 have HS2:=zA hst
 clear hsg hst hb HB1 HY1 HO
 go_wp2_with fail
 refine(rD _ _).mono ?_
 rintro r w3 ⟨rfl,rfl⟩
 go_wp2_with fail
 refine(HU.out w2 _ s' HS2.out).mono ?_
 rintro r w4 ⟨rfl,hb⟩
 have HB4:=zA (HB2.out.trans (hb.mono HB2.out.size))
 have HY4:=zA (zC HY2.out hb)
 clear hb HB2 HY2 HS2 HU
 go_wp2_with fail
 refine(sF _ 7 lF _).mono ?_
 rintro r w5 ⟨rfl,rfl⟩
 go_wp2_with fail
 refine leaves_cons (f:=46) (args:=#[Qp (w.heap.size+1)]) (by simp) (by simp[go_sem]) ?_
 have hlt:=(gsi.1 HY4.out).1
 refine(xX ⟨w.heap.size+1,0,none⟩ 7 0 [] _ (zE HY4.out rfl) (zB HY4.out 0)).mono ?_
 rintro e u' w'' ⟨rfl,rfl,rfl⟩
 have hz:=zM (HB4.out.alloc HB4.out.size (.cells (Qo 7) 187)) (Nat.le_succ _) 0 (.int .i64 7)
 have cz:((w4.alloc (.cells (Qo 7) 187)).setCell ⟨w.heap.size+1,0,none⟩ (.int .i64 7)).cell? ⟨w.heap.size+1,0,none⟩=some (.int .i64 7):=World.cell?_setCell_same _ _ _ ((World.cell?_alloc_lt _ _ _ hlt).trans (zE HY4.out rfl))
 generalize (w4.alloc (.cells (Qo 7) 187)).setCell ⟨w.heap.size+1,0,none⟩ (.int .i64 7)=Z at *
 simp[Leaves,settle,results,results128,go_sem,cz]
 exact hz
theorem start_ok (c:Cf) (hc:c.Ok) (F:Nat→Prop) (d:Nat) (size:Int) (w:World) (h:DkAt F w d size []) (hin:∀g,F g→g<w.heap.size) (hs:0≤size) (hs':size≤16384) (hf:(rec1.length:Int)≤size) :
  Calls prog 128 #[.agg (Qd c.n c.mtu c.win c.kp c.salt c.seed c.c0 c.c1 c.c2),Qp d] w fun r w'=>∃p Fs,r=.returned (.tuple #[Qp p.a,.int .i64 0])∧AgAt Fs w' p c size rec1 0 0 [] [] [] 0∧(∀k,Fs k∨p.has k→F k∨w.heap.size≤k)∧Off F w w':=by
 obtain⟨hx,hy,b1⟩:=zU w (.cells (Qd c.n c.mtu c.win c.kp c.salt c.seed c.c0 c.c1 c.c2) 74) (.cells (Qo 0) 41)
 have HX:=zA hx
 have HY:=zA hy
 have HB:=zA b1
 have HR:=zA (fun W=>vV c.n c.mtu c.win c.kp c.salt c.seed c.c0 c.c1 c.c2 W)
 simp only[hc.right]at HR
 have HO:=zA (fun (W:World) (hW:Below w.heap.size w W)=>open_ok F d size W (h.below hW))
 have HU:=zA (fun (W:World) (F':Nat→Prop) (s':Nat) (hS:StAt F' W s' size [] 0 0 ((0:Nat):Int) []) (hi:∀g,F' g→g<W.heap.size)=>bump_ok F' s' size [] 0 0 0 [] W hS hi (by simp) hs hs' lD (by simpa[rec1]using hf))
 have HIN:=zA hin
 have HC:=zA hc
 clear hx hy b1 h hin hs hs' hf hc
 go_enter_defers func128,ntmps128
 go_wp2_with (refine zI rfl 74 (.tmp 2) w.heap.size (Qd c.n c.mtu c.win c.kp c.salt c.seed c.c0 c.c1 c.c2) 74 (0,0) _ rfl rfl HX.out underlying74 rfl lE ?_)
 generalize (w.alloc (.cells (Qd c.n c.mtu c.win c.kp c.salt c.seed c.c0 c.c1 c.c2) 74)).alloc (.cells (Qo 0) 41)=W at *
 refine(HR.out W).mono ?_
 rintro r w1 ⟨rfl,hb⟩
 have HB1:=zA (HB.out.trans (hb.mono HB.out.size))
 have HX1:=zA (zC HX.out hb)
 have HY1:=zA (zC HY.out hb)
 clear hb HX HY HB HR
 go_wp2_with fail
 refine(HO.out w1 HB1.out).mono ?_
 rintro r w2 ⟨s',rfl,hsg,hst,hb⟩
 have HB2:=zA (HB1.out.trans (hb.mono HB1.out.size))
 have HX2:=zA (zC HX1.out hb)
 have HY2:=zA (zC HY1.out hb)
 have HB12:=zA hb.size
 have HL2:=zA (show w.heap.size+1<w1.heap.size from(gsi.1 HY1.out).1)
 have HS2:=zA (show StAt (fun g=>(F g∨w1.heap.size≤g)∧g<w2.heap.size) w2 s' size [] 0 0 ((0:Nat):Int) []from hst.inside)
 clear hsg hst hb HB1 HX1 HY1 HO
 go_wp2_with fail
 refine(rD _ _).mono ?_
 rintro r w3 ⟨rfl,rfl⟩
 go_wp2_with fail
 refine(HU.out w2 _ s' HS2.out (fun g hg=>hg.2)).mono ?_
 rintro r w4 ⟨rfl,hst,hof⟩
 have HOF4:=zA (show Off F w w4 from hof.after HB2.out (fun g hg h=>h.1.elim id (fun h'=>absurd hg (by have:=HL2.out;omega))))
 have hnF:∀k,k<w1.heap.size→¬F k→w4.heap[k]?=w2.heap[k]?:=fun k hk hn=>hof.same k (Nat.lt_of_lt_of_le hk HB12.out) (fun h=>h.1.elim hn (fun h'=>by omega))
 have HX4:=zA ((hnF w.heap.size (by have:=HL2.out;omega) (fun h=>by have:=HIN.out _ h;omega)).trans HX2.out)
 have HY4:=zA ((hnF (w.heap.size+1) HL2.out (fun h=>by have:=HIN.out _ h;omega)).trans HY2.out)
 obtain⟨Fs,hFs⟩:∃Fs:Nat→Prop,Fs=(fun g=>((((F g∨w1.heap.size≤g)∧g<w2.heap.size)∨w2.heap.size≤g)∧StTy w4 g)):=⟨_,rfl⟩
 have HS4:=zA (show StAt Fs w4 s' size rec1 0 0 1 [] by rw[hFs];exact hst.tight)
 have HTY:Hid (∀k,Fs k→StTy w4 k):=zA (fun k hk=>by rw[hFs]at hk;exact hk.2)
 have HSZ:=zA (show w.heap.size+1<w4.heap.size from Nat.lt_of_lt_of_le HL2.out (Nat.le_trans HB12.out hof.size))
 have HFS:Hid (∀k,Fs k→k<w4.heap.size∧(F k∨w.heap.size≤k)):=zA (fun k hk=>by rw[hFs]at hk;exact⟨hk.2.lt,hk.1.elim (fun h=>h.1.elim .inl (fun h'=>.inr (by have:=HL2.out;omega))) (fun h'=>.inr (by have:=HL2.out;have:=HB12.out;omega))⟩)
 have e01:(((0+1:Nat):Int))=1:=rfl
 rw[e01]
 clear hFs e01 hst hof hnF HX2 HY2 HS2 HU HB2
 go_wp2_with fail
 refine(rC _ _).mono ?_
 rintro r w5 ⟨rfl,rfl⟩
 have ba:=bn w4 (.cells #[.int .i64 c.n,.int .i64 c.mtu,.int .i64 c.win,.int .i64 c.kp,.int .u64 c.salt,.int .u64 c.seed,.int .i64 c.c0,.int .i64 c.c1,.int .i64 c.c2,Qp s',.pointer none,.pointer none,.pointer none,.int .i64 0,.bool false] 108)
 have HA:=zA (heap_alloc_new w4 (.cells #[.int .i64 c.n,.int .i64 c.mtu,.int .i64 c.win,.int .i64 c.kp,.int .u64 c.salt,.int .u64 c.seed,.int .i64 c.c0,.int .i64 c.c1,.int .i64 c.c2,Qp s',.pointer none,.pointer none,.pointer none,.int .i64 0,.bool false] 108))
 have HBA:=zA ba
 have HXA:=zA (zC HX4.out ba)
 clear ba
 have hx:=HXA.out
 have x0:=cc 0 hx
 have x1:=cc 1 hx
 have x5:=cc 5 hx
 clear hx
 go_wp2_with (refine zI rfl 74 (.tmp 2) w.heap.size (Qd c.n c.mtu c.win c.kp c.salt c.seed c.c0 c.c1 c.c2) 74 (0,0) _ rfl rfl HX4.out underlying74 rfl lE ?_)
 clear x0 x1 x5
 generalize w4.alloc (.cells #[.int .i64 c.n,.int .i64 c.mtu,.int .i64 c.win,.int .i64 c.kp,.int .u64 c.salt,.int .u64 c.seed,.int .i64 c.c0,.int .i64 c.c1,.int .i64 c.c2,Qp s',.pointer none,.pointer none,.pointer none,.int .i64 0,.bool false] 108)=w5 at *
 refine(gnew_ok c.n c.mtu c.seed w5 HC.out.n HC.out.mtu).mono ?_
 rintro r w6 ⟨g,o,b,ms,mh,rfl,hg,hge,hb⟩
 have HB6:=zA (HBA.out.trans (hb.mono HBA.out.size))
 have HG6:=zA hg
 have HGE:=zA (show ∀k,k=g∨k=b∨k=ms∨k=mh→w4.heap.size<k from fun k hk=>Nat.lt_of_lt_of_le (gsi.1 HA.out).1 (hge k hk))
 have HA6:=zA (zC HA.out hb)
 have HX6:=zA (zC HXA.out hb)
 clear hg hge hb HBA HA HXA
 go_wp2_with fail
 refine(got213_ok _ _).mono ?_
 rintro r w7 ⟨rfl,rfl⟩
 have fa:=zB HA6.out 10
 have ya:=cc 10 HA6.out
 have HB7:=zA (zM HB6.out (Nat.le_refl _) 10 (Qp g))
 have HA7:=zA (show(w6.setCell ⟨w4.heap.size,10,none⟩ (Qp g)).heap[w4.heap.size]?=some (.cells #[.int .i64 c.n,.int .i64 c.mtu,.int .i64 c.win,.int .i64 c.kp,.int .u64 c.salt,.int .u64 c.seed,.int .i64 c.c0,.int .i64 c.c1,.int .i64 c.c2,Qp s',Qp g,.pointer none,.pointer none,.int .i64 0,.bool false] 108 (0,0))from by have h:=zF (j:=10) HA6.out (Qp g);simpa using h)
 have HX7:=zA ((Below.heap_setCell w6 ⟨w4.heap.size,10,none⟩ (Qp g) w.heap.size (fun e=>by have e':w.heap.size=w4.heap.size:=e;have:=HSZ.out;omega)).trans HX6.out)
 have HG7:=zA (HG6.out.off1 HA6.out lF ((Off.refl (fun x=>x=w4.heap.size) w6).set (a:=⟨w4.heap.size,10,none⟩) (.inl rfl) (Qp g)))
 have hx:=HX7.out
 have x0:=cc 0 hx
 have x5:=cc 5 hx
 have x6:=cc 6 hx
 have x7:=cc 7 hx
 have x8:=cc 8 hx
 clear hx
 go_wp2_with fail
 clear x0 x5 x6 x7 x8 fa ya HB6 HA6 HX6 HG6
 generalize w6.setCell ⟨w4.heap.size,10,none⟩ (Qp g)=w7 at *
 refine(snew_ok c.n c.c0 c.c1 c.c2 _ w7 HC.out.n HC.out.pat).mono ?_
 rintro r w8 ⟨D,T,O,S,rfl,hd,hde,hb⟩
 have HB8:=zA (HB7.out.trans (hb.mono HB7.out.size))
 have HG8:=zA (HG7.out.below hb)
 have HD8:=zA hd
 have HDE:=zA (show ∀k,k=D∨k=T∨k=S→w7.heap.size≤k from hde)
 have HA8:=zA (zC HA7.out hb)
 have HX8:=zA (zC HX7.out hb)
 have HL7:=zA (show(w4.heap.size<w7.heap.size∧g<w7.heap.size∧b<w7.heap.size∧ms<w7.heap.size∧mh<w7.heap.size)from⟨(gsi.1 HA7.out).1,(gsi.1 HG7.out.gs).1,HG7.out.bk.lt.1,HG7.out.bk.lt.2.1,HG7.out.bk.lt.2.2⟩)
 clear hd hde hb HB7 HA7 HX7 HG7
 go_wp2_with fail
 refine(got215_ok _ _).mono ?_
 rintro r w9 ⟨rfl,rfl⟩
 have fa:=zB HA8.out 11
 have ya:=cc 11 HA8.out
 have ho9:∀v,Off (fun x=>x=w4.heap.size) w8 (w8.setCell ⟨w4.heap.size,11,none⟩ v):=fun v=>(Off.refl (fun x=>x=w4.heap.size) w8).set (a:=⟨w4.heap.size,11,none⟩) (.inl rfl) v
 have HB9:=zA (zM HB8.out (Nat.le_refl _) 11 (Qp D))
 have HA9:=zA (show(w8.setCell ⟨w4.heap.size,11,none⟩ (Qp D)).heap[w4.heap.size]?=some (.cells #[.int .i64 c.n,.int .i64 c.mtu,.int .i64 c.win,.int .i64 c.kp,.int .u64 c.salt,.int .u64 c.seed,.int .i64 c.c0,.int .i64 c.c1,.int .i64 c.c2,Qp s',Qp g,Qp D,.pointer none,.int .i64 0,.bool false] 108 (0,0))from by have h:=zF (j:=11) HA8.out (Qp D);simpa using h)
 have HX9:=zA ((Below.heap_setCell w8 ⟨w4.heap.size,11,none⟩ (Qp D) w.heap.size (fun e=>by have e':w.heap.size=w4.heap.size:=e;have:=HSZ.out;omega)).trans HX8.out)
 have HG9:=zA (HG8.out.off1 HA8.out lF (ho9 (Qp D)))
 have HD9:=zA (HD8.out.keep (ho9 (Qp D)).size (fun k hk=>(ho9 (Qp D)).same k (by obtain⟨h1,h2,h3⟩:=HD8.out.lt;rcases hk with rfl | rfl | rfl<;>assumption) (fun e=>by have e':k=w4.heap.size:=e;have:=HL7.out.1;have:=HDE.out k (by rcases hk with rfl | rfl | rfl<;>simp);omega)))
 have hx:=HX9.out
 have x0:=cc 0 hx
 have x2:=cc 2 hx
 have x3:=cc 3 hx
 have x4:=cc 4 hx
 clear hx
 clear ho9
 go_wp2_with fail
 clear x0 x2 x3 x4 fa ya HB8 HA8 HX8 HG8 HD8
 generalize w8.setCell ⟨w4.heap.size,11,none⟩ (Qp D)=w9 at *
 refine(anew_ok c.n c.win c.kp c.salt w9 HC.out.n HC.out.win HC.out.kp).mono ?_
 rintro r w10 ⟨A,rfl,hb⟩
 have oC:=zA (HB9.out.trans (hb.mono HB9.out.size))
 have HG10:=zA (HG9.out.below hb)
 have HD10:=zA (HD9.out.below hb)
 have HA10:=zA (zC HA9.out hb)
 clear hb HB9 HA9 HX9 HG9 HD9
 go_wp2_with fail
 refine(got217_ok _ _).mono ?_
 rintro r w11 ⟨rfl,rfl⟩
 have fa:=zB HA10.out 12
 have ya:=cc 12 HA10.out
 have ho9:∀v,Off (fun x=>x=w4.heap.size) w10 (w10.setCell ⟨w4.heap.size,12,none⟩ v):=fun v=>(Off.refl (fun x=>x=w4.heap.size) w10).set (a:=⟨w4.heap.size,12,none⟩) (.inl rfl) v
 have HB11:=zA (zM oC.out (Nat.le_refl _) 12 (Qp A))
 have HA11:=zA (show(w10.setCell ⟨w4.heap.size,12,none⟩ (Qp A)).heap[w4.heap.size]?=some (.cells #[.int .i64 c.n,.int .i64 c.mtu,.int .i64 c.win,.int .i64 c.kp,.int .u64 c.salt,.int .u64 c.seed,.int .i64 c.c0,.int .i64 c.c1,.int .i64 c.c2,Qp s',Qp g,Qp D,Qp A,.int .i64 0,.bool false] 108 (0,0))from by have h:=zF (j:=12) HA10.out (Qp A);simpa using h)
 have HG11:=zA (HG10.out.off1 HA10.out lF (ho9 (Qp A)))
 have HD11:=zA (HD10.out.keep (ho9 (Qp A)).size (fun k hk=>(ho9 (Qp A)).same k (by obtain⟨h1,h2,h3⟩:=HD10.out.lt;rcases hk with rfl | rfl | rfl<;>assumption) (fun e=>by have e':k=w4.heap.size:=e;have:=HL7.out.1;have:=HDE.out k (by rcases hk with rfl | rfl | rfl<;>simp);omega)))
 have HS11:=zA (HS4.out.below HB11.out)
 clear ho9
 go_wp2_with fail
 clear fa ya oC HA10 HG10 HD10
 generalize w10.setCell ⟨w4.heap.size,12,none⟩ (Qp A)=w11 at *
 refine(rL _ _ _ _ _ _ _ w11 HS11.out).mono ?_
 rintro r w12 ⟨rfl,rfl⟩
 have oA:=zA (zC HY4.out HB11.out)
 have fy:=zB oA.out 0
 have yy:=cc 0 oA.out
 go_wp2_with fail
 refine wp_loop_rounds 1 ?_
 rw[rounds_succ]
 go_wp2_with fail
 refine leaves_cons (f:=46) (args:=#[Qp (w.heap.size+1)]) (by simp) (by simp[go_sem]) ?_
 refine(xE _ _).mono ?_
 rintro e u' w'' ⟨rfl,rfl,rfl⟩
 have ho12:=(Off.refl (fun x=>x=w.heap.size+1) w11).set (a:=⟨w.heap.size+1,0,none⟩) (.inl rfl) (.int .i64 0)
 have cz:=World.cell?_setCell_same w11 ⟨w.heap.size+1,0,none⟩ (.int .i64 0) yy
 have hAG:AgAt Fs (w11.setCell ⟨w.heap.size+1,0,none⟩ (.int .i64 0)) ⟨w4.heap.size,s',g,o,b,ms,mh,D,T,O,S,A⟩ c size rec1 0 0 [] [] [] 0:=by
  have hz:=HSZ.out
  have hl:=HL7.out
  have hge:=HGE.out
  have hde:=HDE.out
  have hD:=hde D (.inl rfl)
  have hT:=hde T (.inr (.inl rfl))
  have hS:=hde S (.inr (.inr rfl))
  refine⟨(ho12.same _ (gsi.1 HA11.out).1 (fun e=>by have e':w4.heap.size=w.heap.size+1:=e;omega)).trans HA11.out,HS11.out.other oA.out lF 0 _,HG11.out.off1 oA.out lF ho12,HD11.out.keep ho12.size (fun k hk=>ho12.same k (by obtain⟨h1,h2,h3⟩:=HD11.out.lt;rcases hk with rfl | rfl | rfl<;>assumption) (fun e=>by have e':k=w.heap.size+1:=e;have:=hde k hk;omega)),fun k hk hh=>?_,fun k hk=>?_,HC.out,?_,?_⟩
  ·have h1:=(HFS.out k hk).1
   rcases hh with h | h | h | h | h | h | h | h
   ·have e:k=w4.heap.size:=h;omega
   ·have:=hge k (.inl h);omega
   ·have:=hge k (.inr (.inl h));omega
   ·have:=hge k (.inr (.inr (.inl h)));omega
   ·have:=hge k (.inr (.inr (.inr h)));omega
   ·have e:k=D:=h;omega
   ·have e:k=T:=h;omega
   ·have e:k=S:=h;omega
  ·have h1:=HTY.out k hk
   have h2:=h1.keep (HB11.out.block k h1.lt)
   refine h2.keep (ho12.same k h2.lt (fun e=>?_))
   obtain⟨cs,t,fr,hcs,ht⟩:=h2
   have e':k=w.heap.size+1:=e
   rw[e',oA.out]at hcs
   rcases ht with rfl | rfl | rfl | rfl<;>exact zH lF hcs
  ·refine⟨?_,?_,?_,?_,?_⟩<;>(intro e;dsimp only at e;omega)
  ·refine⟨?_,?_⟩<;>(intro e;dsimp only at e;omega)
 have hfoot:∀k,Fs k∨AgP.has ⟨w4.heap.size,s',g,o,b,ms,mh,D,T,O,S,A⟩ k→F k∨w.heap.size≤k:=fun k hk=>by
  have hz:=HSZ.out
  rcases hk with h | h
  ·exact(HFS.out k h).2
  ·right
   have hge:=HGE.out
   have hde:=HDE.out
   have hl:=HL7.out
   rcases h with h | h | h | h | h | h | h | h
   ·have e:k=w4.heap.size:=h;omega
   ·have:=hge k (.inl h);omega
   ·have:=hge k (.inr (.inl h));omega
   ·have:=hge k (.inr (.inr (.inl h)));omega
   ·have:=hge k (.inr (.inr (.inr h)));omega
   ·have:=hde k (.inl h);omega
   ·have:=hde k (.inr (.inl h));omega
   ·have:=hde k (.inr (.inr h));omega
 have pS:Off F w (w11.setCell ⟨w.heap.size+1,0,none⟩ (.int .i64 0)):=(HOF4.out.trans (Off.of_below HB11.out)).set (.inr (Nat.le_succ _)) _
 have HZ:=zA (And.intro hAG (And.intro hfoot pS))
 clear hAG hfoot pS ho12
 generalize w11.setCell ⟨w.heap.size+1,0,none⟩ (.int .i64 0)=Z at *
 simp only[Leaves,settle,results,results128,go_sem]
 refine⟨_,by simp[go_sem,cz],⟨w4.heap.size,s',g,o,b,ms,mh,D,T,O,S,A⟩,Fs,rfl,HZ.out⟩
end
end Go.Proofs.YtodlmbfbfaofcaaGreat
