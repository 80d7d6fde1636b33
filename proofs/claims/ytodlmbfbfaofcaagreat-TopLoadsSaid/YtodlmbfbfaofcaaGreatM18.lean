/- TopLoads, part 18. -/
import Derived.Test.YtodlmbfbfaofcaaGreatM01
import Derived.Test.YtodlmbfbfaofcaaGreatM03
import Derived.Test.YtodlmbfbfaofcaaGreatM07
import Derived.Test.YtodlmbfbfaofcaaGreatM08
import Derived.Test.YtodlmbfbfaofcaaGreatM17
open Go.Proofs.Tryz
namespace Go.Proofs.YtodlmbfbfaofcaaGreat
set_option linter.unusedVariables false
set_option linter.unusedSimpArgs false
set_option maxRecDepth 100000
set_option maxHeartbeats 2000000
section
open Go.RowKit Rw Rh
theorem askSeq_1 (a b q:Int) (ao:Option Addr) (n cap:Nat) (w:World) (hq:Pl.inside q 0 1099511627776=true):Calls prog 192 #[.agg Qfa,.agg (Qrj 1 a b q (.slice ao n cap))] w fun r w'=>r=.returned (.bool true)∧Below w.heap.size w w':=by
 have HQ:=zA hq
 obtain⟨hx,hy,b1⟩:=zT w (.cells Qfa 198) (.cells (Qrj 1 a b q (.slice ao n cap)) 115)
 have HB:=zA b1
 clear hx hy b1
 go_enter func192,ntmps192
 go_wp2_with fail
 refine(yM _ _ _ _).mono ?_
 rintro r w2 ⟨rfl,rfl⟩
 rw[HQ.out]
 go_wp2_with fail
 go_ret
 exact⟨rfl,HB.out⟩
theorem askNode_1 (a b q:Int) (ao:Option Addr) (n cap:Nat) (w:World):Calls prog 193 #[.agg Qfa,.agg (Qrj 1 a b q (.slice ao n cap))] w fun r w'=>r=.returned (.bool true)∧Below w.heap.size w w':=by
 obtain⟨hx,hy,b1⟩:=zT w (.cells Qfa 198) (.cells (Qrj 1 a b q (.slice ao n cap)) 115)
 have HB:=zA b1
 clear hx hy b1
 go_enter func193,ntmps193
 go_wp2_with fail
 go_ret
 exact⟨rfl,HB.out⟩
theorem askSeen_1 (a b q:Int) (ao:Option Addr) (n cap:Nat) (w:World):Calls prog 194 #[.agg Qfa,.agg (Qrj 1 a b q (.slice ao n cap))] w fun r w'=>r=.returned (.bool true)∧Below w.heap.size w w':=by
 have heq:∀w,(binOp .eql 54 (.agg #[.int .i64 0,.int .i64 0,.int .i64 0,.int .i64 0,.int .i64 0,.int .i64 0,.int .i64 0,.int .i64 0]) (.agg #[.int .i64 0,.int .i64 0,.int .i64 0,.int .i64 0,.int .i64 0,.int .i64 0,.int .i64 0,.int .i64 0])).run prog w=.ok (.bool true) w:=fun _=>by kernel_rfl
 obtain⟨hx,hy,b1⟩:=zT w (.cells Qfa 198) (.cells (Qrj 1 a b q (.slice ao n cap)) 115)
 have HB:=zA b1
 clear hx hy b1
 go_enter func194,ntmps194
 go_wp2_with fail
 go_ret
 exact⟨rfl,HB.out⟩
theorem askEvents_1 (a b q:Int) (ao:Option Addr) (n cap:Nat) (w:World):Calls prog 195 #[.agg Qfa,.agg (Qrj 1 a b q (.slice ao n cap))] w fun r w'=>r=.returned (.bool true)∧Below w.heap.size w w':=by
 obtain⟨hx,hy,b1⟩:=zT w (.cells Qfa 198) (.cells (Qrj 1 a b q (.slice ao n cap)) 115)
 have HB:=zA b1
 clear hx hy b1
 go_enter func195,ntmps195
 go_wp2_with fail
 go_ret
 exact⟨rfl,HB.out⟩
theorem askSeq_4 (a b q:Int) (U:Nat→Nat) (ao:Option Addr) (n cap:Nat) (w:World) (hq:Pl.inside q 0 1=true):Calls prog 192 #[.agg Qfc,.agg (Qsu 4 a b q U (.slice ao n cap))] w fun r w'=>r=.returned (.bool true)∧Below w.heap.size w w':=by
 have HQ:=zA hq
 obtain⟨hx,hy,b1⟩:=zT w (.cells Qfc 198) (.cells (Qsu 4 a b q U (.slice ao n cap)) 115)
 have HB:=zA b1
 clear hx hy b1
 go_enter func192,ntmps192
 go_wp2_with fail
 refine(yM _ _ _ _).mono ?_
 rintro r w2 ⟨rfl,rfl⟩
 rw[HQ.out]
 go_wp2_with fail
 go_ret
 exact⟨rfl,HB.out⟩
theorem askNode_4 (a b q:Int) (U:Nat→Nat) (ao:Option Addr) (n cap:Nat) (w:World):Calls prog 193 #[.agg Qfc,.agg (Qsu 4 a b q U (.slice ao n cap))] w fun r w'=>r=.returned (.bool true)∧Below w.heap.size w w':=by
 obtain⟨hx,hy,b1⟩:=zT w (.cells Qfc 198) (.cells (Qsu 4 a b q U (.slice ao n cap)) 115)
 have HB:=zA b1
 clear hx hy b1
 go_enter func193,ntmps193
 go_wp2_with fail
 go_ret
 exact⟨rfl,HB.out⟩
theorem askEvents_4 (a b q:Int) (U:Nat→Nat) (ao:Option Addr) (n cap:Nat) (w:World):Calls prog 195 #[.agg Qfc,.agg (Qsu 4 a b q U (.slice ao n cap))] w fun r w'=>r=.returned (.bool true)∧Below w.heap.size w w':=by
 obtain⟨hx,hy,b1⟩:=zT w (.cells Qfc 198) (.cells (Qsu 4 a b q U (.slice ao n cap)) 115)
 have HB:=zA b1
 clear hx hy b1
 go_enter func195,ntmps195
 go_wp2_with fail
 go_ret
 exact⟨rfl,HB.out⟩
theorem askSeq_5 (a b:Int) (ao:Option Addr) (n cap:Nat) (w:World):Calls prog 192 #[.agg Qfd,.agg (Qtk 5 a b (.slice ao n cap))] w fun r w'=>r=.returned (.bool true)∧Below w.heap.size w w':=by
 have HQ:=zA (show Pl.inside 0 0 0=true by decide)
 obtain⟨hx,hy,b1⟩:=zT w (.cells Qfd 198) (.cells (Qtk 5 a b (.slice ao n cap)) 115)
 have HB:=zA b1
 clear hx hy b1
 go_enter func192,ntmps192
 go_wp2_with fail
 refine(yM _ _ _ _).mono ?_
 rintro r w2 ⟨rfl,rfl⟩
 rw[HQ.out]
 go_wp2_with fail
 go_ret
 exact⟨rfl,HB.out⟩
theorem askNode_5 (a b:Int) (ao:Option Addr) (n cap:Nat) (w:World):Calls prog 193 #[.agg Qfd,.agg (Qtk 5 a b (.slice ao n cap))] w fun r w'=>r=.returned (.bool true)∧Below w.heap.size w w':=by
 obtain⟨hx,hy,b1⟩:=zT w (.cells Qfd 198) (.cells (Qtk 5 a b (.slice ao n cap)) 115)
 have HB:=zA b1
 clear hx hy b1
 go_enter func193,ntmps193
 go_wp2_with fail
 go_ret
 exact⟨rfl,HB.out⟩
theorem askSeen_5 (a b:Int) (ao:Option Addr) (n cap:Nat) (w:World):Calls prog 194 #[.agg Qfd,.agg (Qtk 5 a b (.slice ao n cap))] w fun r w'=>r=.returned (.bool true)∧Below w.heap.size w w':=by
 have heq:∀w,(binOp .eql 54 (.agg #[.int .i64 0,.int .i64 0,.int .i64 0,.int .i64 0,.int .i64 0,.int .i64 0,.int .i64 0,.int .i64 0]) (.agg #[.int .i64 0,.int .i64 0,.int .i64 0,.int .i64 0,.int .i64 0,.int .i64 0,.int .i64 0,.int .i64 0])).run prog w=.ok (.bool true) w:=fun _=>by kernel_rfl
 obtain⟨hx,hy,b1⟩:=zT w (.cells Qfd 198) (.cells (Qtk 5 a b (.slice ao n cap)) 115)
 have HB:=zA b1
 clear hx hy b1
 go_enter func194,ntmps194
 go_wp2_with fail
 go_ret
 exact⟨rfl,HB.out⟩
theorem seen_4 (a b q:Int) (U:Nat→Nat) (ao:Option Addr) (n cap:Nat) (w:World):Calls prog 159 #[.agg (Qsu 4 a b q U (.slice ao n cap))] w fun r w'=>r=.returned (Pl.setv U (.slice ao n cap))∧Below w.heap.size w w':=by
 have H2:=zA (zT w (.cells (Qsu 4 a b q U (.slice ao n cap)) 115) (.cells (Qu U ao n cap) 60))
 go_enter func159,ntmps159
 go_wp2_with fail
 obtain⟨p0,p1,p3⟩:=H2.out
 have HP3:=zA p3
 clear p0 p3 H2
 generalize (w.alloc (.cells (Qsu 4 a b q U (.slice ao n cap)) 115)).alloc (.cells (Qu U ao n cap) 60)=Z at *
 have c0:=cc 0 p1
 have c1:=cc 1 p1
 have c2:=cc 2 p1
 have c3:=cc 3 p1
 have c4:=cc 4 p1
 have c5:=cc 5 p1
 have c6:=cc 6 p1
 have c7:=cc 7 p1
 have c8:=cc 8 p1
 exact bodyPost_ret (v:=Pl.setv U (.slice ao n cap)) (by simp[results,results159,go_sem,c0,c1,c2,c3,c4,c5,c6,c7,c8,Pl.setv]) rfl ⟨rfl,HP3.out⟩
theorem askSeen_4 (a b q:Int) (U:Nat→Nat) (ao:Option Addr) (n cap:Nat) (w:World) (O:Nat→Nat→Bool) (M:List (Nat×Nat)) (h:SetV w (Pl.setv U (.slice ao n cap)) O U M):Calls prog 194 #[.agg Qfc,.agg (Qsu 4 a b q U (.slice ao n cap))] w fun r w'=>r=.returned (.bool true)∧Below w.heap.size w w':=by
 have H:=zA h
 obtain⟨hx,hy,b1⟩:=zT w (.cells Qfc 198) (.cells (Qsu 4 a b q U (.slice ao n cap)) 115)
 have HB:=zA b1
 clear hx hy b1
 go_enter func194,ntmps194
 go_wp2_with fail
 refine(seen_4 a b q U ao n cap _).mono ?_
 rintro r w2 ⟨rfl,hb⟩
 have HB2:=zA (HB.out.trans (hb.mono HB.out.size))
 clear hb
 go_wp2_with fail
 refine(uE _ O U M w2 (H.out.below HB2.out)).mono ?_
 rintro r w3 ⟨rfl,hb⟩
 have HB3:=zA (HB2.out.trans (hb.mono HB2.out.size))
 clear hb
 go_wp2_with fail
 go_ret
 exact⟨rfl,HB3.out⟩
theorem askEvents_5 (a b:Int) (ao:Option Addr) (n cap:Nat) (w:World) (es:List Pl.Ev) (h:RowC kEv w (.slice ao n cap) es) (hn:es.length≤768) (hok:∀e∈es,e.Ok):Calls prog 195 #[.agg Qfd,.agg (Qtk 5 a b (.slice ao n cap))] w fun r w'=>r=.returned (.bool true)∧Below w.heap.size w w':=by
 obtain⟨_,_,e0⟩:=h.form
 cases e0
 obtain⟨hx,hy,b1⟩:=zT w (.cells Qfd 198) (.cells (Qtk 5 a b (.slice ao es.length cap)) 115)
 have HB:=zA b1
 have HY:=zA hy
 have HR:=zA (h.below b1)
 have HN:=zA hn
 have HOK:=zA hok
 clear hx hy b1 h hn hok
 go_enter func195,ntmps195
 go_wp2_with fail
 generalize (w.alloc (.cells Qfd 198)).alloc (.cells (Qtk 5 a b (.slice ao es.length cap)) 115)=W at *
 go_loopw [17] (fun i wr=>∃(k:Nat),k≤es.length∧i=.int .i64 k∧Below W.heap.size W wr) (fun i _=>es.length - (intOf i).toNat)
 case atStart=>exact⟨0,by omega,rfl,Below.refl _ _⟩
 case round=>
  obtain⟨k,hk,rfl,hb⟩:=hrel
  by_cases hlt:k<es.length
  ·obtain⟨g,off,cap',e1,hg,c0,c1,c2,c3,c4,c5,c6,c7,c8,c9,c10,c11,c12,c13⟩:=xX (HR.out.below hb) hlt
   cases e1
   have a1:(k:Int)+1≤9223372036854775807:=by have:=HN.out;omega
   have b2:=bn wr (.cells (es[k]) 175)
   have rW:=heap_alloc_new wr (.cells (es[k]) 175)
   have HO:=zA (HOK.out _ (List.getElem_mem hlt))
   have HBA:=zA (hb.trans (b2.mono hb.size))
   clear b2 hb
   generalize es[k]=ev at *
   have d0:=cc 0 rW
   have d1:=cc 1 rW
   have d2:=cc 2 rW
   have d3:=cc 3 rW
   have d4:=cc 4 rW
   have d5:=cc 5 rW
   have d6:=cc 6 rW
   have d7:=cc 7 rW
   have d8:=cc 8 rW
   have d9:=cc 9 rW
   have d10:=cc 10 rW
   have d11:=cc 11 rW
   have d12:=cc 12 rW
   have d13:=cc 13 rW
   clear rW
   obtain⟨n,s,hd⟩:=HO.out.dot
   have HRT:=zA (fun W=>wN ev n s W hd (by
    rcases HO.out.kind with h | h
    ·exact .inl h
    ·exact .inr ⟨h,HO.out.right⟩))
   clear hd
   go_wp2_with fail
   refine(HRT.out _).mono ?_
   rintro r w3 ⟨rfl,b3⟩
   rw[HO.out.right]
   have HB3:=zA (HBA.out.trans (b3.mono HBA.out.size))
   clear b3 HRT
   go_wp2_with fail
   exact⟨⟨k+1,by omega,rfl,HB3.out⟩,by simp[intOf];omega⟩
  ·obtain rfl:k=es.length:=by omega
   have HY1:=(hb.block _ (gsi.1 HY.out).1).trans HY.out
   have hle:(es.length:Int)≤768:=by have:=HN.out;omega
   have HBZ:=zA (HB.out.trans (hb.mono HB.out.size))
   have d0:=cc 0 HY1
   have d1:=cc 1 HY1
   have d2:=cc 2 HY1
   have d3:=cc 3 HY1
   have d4:=cc 4 HY1
   have d5:=cc 5 HY1
   have d6:=cc 6 HY1
   have d7:=cc 7 HY1
   have d8:=cc 8 HY1
   have d9:=cc 9 HY1
   have d10:=cc 10 HY1
   have d11:=cc 11 HY1
   have d12:=cc 12 HY1
   have d13:=cc 13 HY1
   have d14:=cc 14 HY1
   have d15:=cc 15 HY1
   clear hb HY1
   go_wp2_with fail
   go_ret
   exact⟨rfl,HBZ.out⟩
def kMem:Rk (Int×Int×Int) where
 T:=212
 S:=113
 k:=3
 bytes:=24
 z:=.agg (Qj 0 0 0)
 enc:=fun d=>[.int .i64 d.1,.int .i64 d.2.1,.int .i64 d.2.2]
 hlen:=fun _=>rfl
 hone:=fun x u hu=>by simp at hu;rcases hu with rfl | rfl | rfl<;>rfl
 hk:=by decide
 hu:=by kernel_rfl
 hi:=by kernel_rfl
 hz:=rfl
 hb:=by decide
theorem uU (w:World):Calls prog 191 #[.slice none 0 0] w fun r w'=>r=.returned (.bool true)∧Below w.heap.size w w':=by
 go_enter func191,ntmps191
 go_wp2_with fail
 refine wp_loop_rounds 1 ?_
 rw[rounds_succ]
 go_wp2_with fail
 go_ret
 exact⟨rfl,Below.refl _ _⟩
theorem wH (v:Value) (nd st inc:Int) (w:World) (h:RowC kMem w v [(nd,st,inc)]) (h1:Pl.inside nd 0 7=true) (h2:Pl.inside st 1 4=true) (h3:Pl.inside inc 0 1099511627776=true) :
  Calls prog 191 #[v] w fun r w'=>r=.returned (.bool true)∧Below w.heap.size w w':=by
 obtain⟨g,off,cap,rfl,hg,hc⟩:=h.cell (i:=0) (by simp)
 have c0:w.cell? ⟨g,off,none⟩=some (.int .i64 nd):=by have:=hc 0 _ rfl;simpa using this
 have c1:w.cell? ⟨g,off+1,none⟩=some (.int .i64 st):=by have:=hc 1 _ rfl;simpa using this
 have c2:w.cell? ⟨g,off+2,none⟩=some (.int .i64 inc):=by have:=hc 2 _ rfl;simpa using this
 have HB:=zA (bn w (.cells (Qj nd st inc) 212))
 have hn:¬nd≤ -1:=by unfold Pl.inside at h1;simp at h1;omega
 have H1:=zA h1
 have H2:=zA h2
 have H3:=zA h3
 clear h hc h1 h2 h3
 go_enter func191,ntmps191
 go_wp2_with fail
 refine wp_loop_rounds 2 ?_
 rw[rounds_succ]
 go_wp2_with fail
 refine(xQ _ _).mono ?_
 rintro r w2 ⟨rfl,rfl⟩
 rw[H1.out]
 go_wp2_with fail
 refine(yM _ _ _ _).mono ?_
 rintro r w2 ⟨rfl,rfl⟩
 rw[H2.out]
 go_wp2_with fail
 refine(yM _ _ _ _).mono ?_
 rintro r w2 ⟨rfl,rfl⟩
 rw[H3.out]
 go_wp2_with fail
 rw[rounds_succ]
 go_wp2_with fail
 go_ret
 exact⟨rfl,HB.out⟩
theorem uL (w:World) (a b q:Int) (ao:Option Addr) (n cap:Nat) (hq:Pl.inside q 0 1099511627776=true) (ha:Pl.inside a 0 7=true) (hb:Pl.inside b 0 7=true) (hne:a≠b) (hm:∀W,Below w.heap.size w W→Calls prog 191 #[.slice ao n cap] W fun r w'=>r=.returned (.bool true)∧Below W.heap.size W w'):Calls prog 114 #[.agg (Qrj 1 a b q (.slice ao n cap))] w fun r w'=>r=.returned (.bool true)∧Below w.heap.size w w':=by
 have HQ:=zA hq
 have HM:=zA (hm _ (bn w (.cells (Qrj 1 a b q (.slice ao n cap)) 115)))
 clear hq hm
 have HA:=zA ha
 have HB2:=zA hb
 have he:(a == b)=false:=by simpa using hne
 have HX:=zA (heap_alloc_new w (.cells (Qrj 1 a b q (.slice ao n cap)) 115))
 have HB:=zA (bn w (.cells (Qrj 1 a b q (.slice ao n cap)) 115))
 clear ha hb hne
 go_enter func114,ntmps114
 go_wp2_with fail
 refine(yM _ _ _ _).mono ?_
 rintro r w2 ⟨rfl,rfl⟩
 rw[show Pl.inside 1 1 5=true by decide]
 go_wp2_with fail
 refine(xQ _ _).mono ?_
 rintro r w2 ⟨rfl,rfl⟩
 rw[HA.out]
 go_wp2_with fail
 refine(xQ _ _).mono ?_
 rintro r w2 ⟨rfl,rfl⟩
 rw[HB2.out]
 go_wp2_with fail
 refine(HM.out).mono ?_
 rintro r W0 ⟨rfl,hb⟩
 have HBW:=zA (HB.out.trans (hb.mono HB.out.size))
 have HXW:=zA ((hb.block _ (gsi.1 HX.out).1).trans HX.out)
 have HXB:=zA (fun (W:World) (hW:Below W0.heap.size W0 W)=>(hW.block _ (gsi.1 HXW.out).1).trans HXW.out)
 skip
 have f0:∀p:Beh W0,p.w.cell? ⟨w.heap.size,0,none⟩=_:=fun p=>p.cell (cc 0 HXW.out)
 have f1:∀p:Beh W0,p.w.cell? ⟨w.heap.size,1,none⟩=_:=fun p=>p.cell (cc 1 HXW.out)
 have f2:∀p:Beh W0,p.w.cell? ⟨w.heap.size,2,none⟩=_:=fun p=>p.cell (cc 2 HXW.out)
 have f3:∀p:Beh W0,p.w.cell? ⟨w.heap.size,3,none⟩=_:=fun p=>p.cell (cc 3 HXW.out)
 have f4:∀p:Beh W0,p.w.cell? ⟨w.heap.size,4,none⟩=_:=fun p=>p.cell (cc 4 HXW.out)
 have f5:∀p:Beh W0,p.w.cell? ⟨w.heap.size,5,none⟩=_:=fun p=>p.cell (cc 5 HXW.out)
 have f6:∀p:Beh W0,p.w.cell? ⟨w.heap.size,6,none⟩=_:=fun p=>p.cell (cc 6 HXW.out)
 have f7:∀p:Beh W0,p.w.cell? ⟨w.heap.size,7,none⟩=_:=fun p=>p.cell (cc 7 HXW.out)
 have f8:∀p:Beh W0,p.w.cell? ⟨w.heap.size,8,none⟩=_:=fun p=>p.cell (cc 8 HXW.out)
 have f9:∀p:Beh W0,p.w.cell? ⟨w.heap.size,9,none⟩=_:=fun p=>p.cell (cc 9 HXW.out)
 have f10:∀p:Beh W0,p.w.cell? ⟨w.heap.size,10,none⟩=_:=fun p=>p.cell (cc 10 HXW.out)
 have f11:∀p:Beh W0,p.w.cell? ⟨w.heap.size,11,none⟩=_:=fun p=>p.cell (cc 11 HXW.out)
 have f12:∀p:Beh W0,p.w.cell? ⟨w.heap.size,12,none⟩=_:=fun p=>p.cell (cc 12 HXW.out)
 have f13:∀p:Beh W0,p.w.cell? ⟨w.heap.size,13,none⟩=_:=fun p=>p.cell (cc 13 HXW.out)
 have f14:∀p:Beh W0,p.w.cell? ⟨w.heap.size,14,none⟩=_:=fun p=>p.cell (cc 14 HXW.out)
 have f15:∀p:Beh W0,p.w.cell? ⟨w.heap.size,15,none⟩=_:=fun p=>p.cell (cc 15 HXW.out)
 clear hb HX HB HA HB2
 go_wp2_with fail
 go_loopw [35] (fun i wr=>∃(j:Nat),j≤4∧i=.int .i64 j∧Below W0.heap.size W0 wr) (fun i _=>4 - (intOf i).toNat)
 case atStart=>exact⟨0,by omega,rfl,Below.refl _ _⟩
 case round=>
  obtain⟨j,hj,rfl,hb⟩:=hrel
  have HBR:=zA hb
  clear hb
  by_cases hlt:j<4
  ·obtain⟨f,hf⟩:∃f,f=192+j:=⟨_,rfl⟩
   have h4:j=0∨j=1∨j=2∨j=3:=by omega
   have hix:∀w,(Instr.index 307 (.agg #[Qm 192,Qm 193,Qm 194,Qm 195]) (.int .i64 j)).run prog w=.ok (.func (.func f) #[] #[]) w:=by
    rcases h4 with rfl | rfl | rfl | rfl<;>subst hf<;>intro w<;>kernel_rfl
   have hcf:∀(x y:Value) (W:World),Sem.run prog (callFunc f #[x,y]) W=.ok (.enter f #[x,y]) W:=by
    rcases h4 with rfl | rfl | rfl | rfl<;>subst hf<;>intro x y W<;>kernel_rfl
   have HASK:Hid (∀p:Beh W0,Calls prog f #[.agg Qfa,.agg (Qrj 1 a b q (.slice ao n cap))] p.w fun r w'=>r=.returned (.bool true)∧Below p.w.heap.size p.w w'):=zA (by
    rcases h4 with rfl | rfl | rfl | rfl<;>subst hf<;>intro p
    ·exact askSeq_1 a b q ao n cap _ HQ.out
    ·exact askNode_1 a b q ao n cap _
    ·exact askSeen_1 a b q ao n cap _
    ·exact askEvents_1 a b q ao n cap _)
   have a0:(j:Int)<4:=by omega
   have a1:(j:Int)+1≤9223372036854775807:=by omega
   clear h4 hf
   go_wp2_with fail
   clear hix
   refine zU (by kernel_rfl) (by kernel_rfl) HBR.out ?_
   repeat (go_big_quiet_step (first | exact Calls.beh_of (has_1 _) | exact Calls.beh_of (HASK.out _)))
   refine wpQuiet_nil ?_
   intro _ hw'
   obtain⟨p,hw''⟩:=hw'
   subst hw''
   clear f0 f1 f2 f3 f4 f5 f6 f7 f8 f9 f10 f11 f12 f13 f14 f15 hcf
   go_wp2_with fail
   exact⟨⟨j+1,by omega,rfl,p.b⟩,by simp[intOf];omega⟩
  ·obtain rfl:j=4:=by omega
   clear f0 f1 f2 f3 f4 f5 f6 f7 f8 f9 f10 f11 f12 f13 f14 f15 hlt hj
   go_wp2_with fail
   go_ret
   exact⟨rfl,HBW.out.trans (HBR.out.mono HBW.out.size)⟩
theorem uK (w:World) (a b q:Int) (U:Nat→Nat) (ao:Option Addr) (n cap:Nat) (O:Nat→Nat→Bool) (M:List (Nat×Nat)) (h:SetV w (Pl.setv U (.slice ao n cap)) O U M) (hq:Pl.inside q 0 1=true) (ha:Pl.inside a 0 7=true) (hb:Pl.inside b 0 7=true) (hne:a≠b):Calls prog 114 #[.agg (Qsu 4 a b q U (.slice ao n cap))] w fun r w'=>r=.returned (.bool true)∧Below w.heap.size w w':=by
 have HQ:=zA hq
 have H:=zA h
 clear hq h
 have HA:=zA ha
 have HB2:=zA hb
 have he:(a == b)=false:=by simpa using hne
 have HX:=zA (heap_alloc_new w (.cells (Qsu 4 a b q U (.slice ao n cap)) 115))
 have HB:=zA (bn w (.cells (Qsu 4 a b q U (.slice ao n cap)) 115))
 clear ha hb hne
 go_enter func114,ntmps114
 go_wp2_with fail
 refine(yM _ _ _ _).mono ?_
 rintro r w2 ⟨rfl,rfl⟩
 rw[show Pl.inside 4 1 5=true by decide]
 go_wp2_with fail
 refine(xQ _ _).mono ?_
 rintro r w2 ⟨rfl,rfl⟩
 rw[HA.out]
 go_wp2_with fail
 refine(xQ _ _).mono ?_
 rintro r w2 ⟨rfl,rfl⟩
 rw[HB2.out]
 go_wp2_with fail
 refine(uU _).mono ?_
 rintro r W0 ⟨rfl,hb⟩
 have HBW:=zA (HB.out.trans (hb.mono HB.out.size))
 have HXW:=zA ((hb.block _ (gsi.1 HX.out).1).trans HX.out)
 have HXB:=zA (fun (W:World) (hW:Below W0.heap.size W0 W)=>(hW.block _ (gsi.1 HXW.out).1).trans HXW.out)
 have HH:=zA (fun (p:Beh W0)=>H.out.below (HBW.out.trans (p.b.mono HBW.out.size)))
 have f0:∀p:Beh W0,p.w.cell? ⟨w.heap.size,0,none⟩=_:=fun p=>p.cell (cc 0 HXW.out)
 have f1:∀p:Beh W0,p.w.cell? ⟨w.heap.size,1,none⟩=_:=fun p=>p.cell (cc 1 HXW.out)
 have f2:∀p:Beh W0,p.w.cell? ⟨w.heap.size,2,none⟩=_:=fun p=>p.cell (cc 2 HXW.out)
 have f3:∀p:Beh W0,p.w.cell? ⟨w.heap.size,3,none⟩=_:=fun p=>p.cell (cc 3 HXW.out)
 have f4:∀p:Beh W0,p.w.cell? ⟨w.heap.size,4,none⟩=_:=fun p=>p.cell (cc 4 HXW.out)
 have f5:∀p:Beh W0,p.w.cell? ⟨w.heap.size,5,none⟩=_:=fun p=>p.cell (cc 5 HXW.out)
 have f6:∀p:Beh W0,p.w.cell? ⟨w.heap.size,6,none⟩=_:=fun p=>p.cell (cc 6 HXW.out)
 have f7:∀p:Beh W0,p.w.cell? ⟨w.heap.size,7,none⟩=_:=fun p=>p.cell (cc 7 HXW.out)
 have f8:∀p:Beh W0,p.w.cell? ⟨w.heap.size,8,none⟩=_:=fun p=>p.cell (cc 8 HXW.out)
 have f9:∀p:Beh W0,p.w.cell? ⟨w.heap.size,9,none⟩=_:=fun p=>p.cell (cc 9 HXW.out)
 have f10:∀p:Beh W0,p.w.cell? ⟨w.heap.size,10,none⟩=_:=fun p=>p.cell (cc 10 HXW.out)
 have f11:∀p:Beh W0,p.w.cell? ⟨w.heap.size,11,none⟩=_:=fun p=>p.cell (cc 11 HXW.out)
 have f12:∀p:Beh W0,p.w.cell? ⟨w.heap.size,12,none⟩=_:=fun p=>p.cell (cc 12 HXW.out)
 have f13:∀p:Beh W0,p.w.cell? ⟨w.heap.size,13,none⟩=_:=fun p=>p.cell (cc 13 HXW.out)
 have f14:∀p:Beh W0,p.w.cell? ⟨w.heap.size,14,none⟩=_:=fun p=>p.cell (cc 14 HXW.out)
 have f15:∀p:Beh W0,p.w.cell? ⟨w.heap.size,15,none⟩=_:=fun p=>p.cell (cc 15 HXW.out)
 clear hb HX HB HA HB2
 go_wp2_with fail
 go_loopw [35] (fun i wr=>∃(j:Nat),j≤4∧i=.int .i64 j∧Below W0.heap.size W0 wr) (fun i _=>4 - (intOf i).toNat)
 case atStart=>exact⟨0,by omega,rfl,Below.refl _ _⟩
 case round=>
  obtain⟨j,hj,rfl,hb⟩:=hrel
  have HBR:=zA hb
  clear hb
  by_cases hlt:j<4
  ·obtain⟨f,hf⟩:∃f,f=192+j:=⟨_,rfl⟩
   have h4:j=0∨j=1∨j=2∨j=3:=by omega
   have hix:∀w,(Instr.index 307 (.agg #[Qm 192,Qm 193,Qm 194,Qm 195]) (.int .i64 j)).run prog w=.ok (.func (.func f) #[] #[]) w:=by
    rcases h4 with rfl | rfl | rfl | rfl<;>subst hf<;>intro w<;>kernel_rfl
   have hcf:∀(x y:Value) (W:World),Sem.run prog (callFunc f #[x,y]) W=.ok (.enter f #[x,y]) W:=by
    rcases h4 with rfl | rfl | rfl | rfl<;>subst hf<;>intro x y W<;>kernel_rfl
   have HASK:Hid (∀p:Beh W0,Calls prog f #[.agg Qfc,.agg (Qsu 4 a b q U (.slice ao n cap))] p.w fun r w'=>r=.returned (.bool true)∧Below p.w.heap.size p.w w'):=zA (by
    rcases h4 with rfl | rfl | rfl | rfl<;>subst hf<;>intro p
    ·exact askSeq_4 a b q U ao n cap _ HQ.out
    ·exact askNode_4 a b q U ao n cap _
    ·exact askSeen_4 a b q U ao n cap _ O M (HH.out _)
    ·exact askEvents_4 a b q U ao n cap _)
   have a0:(j:Int)<4:=by omega
   have a1:(j:Int)+1≤9223372036854775807:=by omega
   clear h4 hf
   go_wp2_with fail
   clear hix
   refine zU (by kernel_rfl) (by kernel_rfl) HBR.out ?_
   repeat (go_big_quiet_step (first | exact Calls.beh_of (has_4 _) | exact Calls.beh_of (HASK.out _)))
   refine wpQuiet_nil ?_
   intro _ hw'
   obtain⟨p,hw''⟩:=hw'
   subst hw''
   clear f0 f1 f2 f3 f4 f5 f6 f7 f8 f9 f10 f11 f12 f13 f14 f15 hcf
   go_wp2_with fail
   exact⟨⟨j+1,by omega,rfl,p.b⟩,by simp[intOf];omega⟩
  ·obtain rfl:j=4:=by omega
   clear f0 f1 f2 f3 f4 f5 f6 f7 f8 f9 f10 f11 f12 f13 f14 f15 hlt hj
   go_wp2_with fail
   go_ret
   exact⟨rfl,HBW.out.trans (HBR.out.mono HBW.out.size)⟩
theorem uJ (w:World) (a b:Int) (ao:Option Addr) (n cap:Nat) (es:List Pl.Ev) (h:RowC kEv w (.slice ao n cap) es) (hn:es.length≤768) (hok:∀e∈es,e.Ok) (ha:Pl.inside a 0 7=true) (hb:Pl.inside b 0 7=true) (hne:a≠b):Calls prog 114 #[.agg (Qtk 5 a b (.slice ao n cap))] w fun r w'=>r=.returned (.bool true)∧Below w.heap.size w w':=by
 have HN:=zA hn
 have HOK:=zA hok
 have H:=zA h
 clear hn hok h
 have HA:=zA ha
 have HB2:=zA hb
 have he:(a == b)=false:=by simpa using hne
 have HX:=zA (heap_alloc_new w (.cells (Qtk 5 a b (.slice ao n cap)) 115))
 have HB:=zA (bn w (.cells (Qtk 5 a b (.slice ao n cap)) 115))
 clear ha hb hne
 go_enter func114,ntmps114
 go_wp2_with fail
 refine(yM _ _ _ _).mono ?_
 rintro r w2 ⟨rfl,rfl⟩
 rw[show Pl.inside 5 1 5=true by decide]
 go_wp2_with fail
 refine(xQ _ _).mono ?_
 rintro r w2 ⟨rfl,rfl⟩
 rw[HA.out]
 go_wp2_with fail
 refine(xQ _ _).mono ?_
 rintro r w2 ⟨rfl,rfl⟩
 rw[HB2.out]
 go_wp2_with fail
 refine(uU _).mono ?_
 rintro r W0 ⟨rfl,hb⟩
 have HBW:=zA (HB.out.trans (hb.mono HB.out.size))
 have HXW:=zA ((hb.block _ (gsi.1 HX.out).1).trans HX.out)
 have HXB:=zA (fun (W:World) (hW:Below W0.heap.size W0 W)=>(hW.block _ (gsi.1 HXW.out).1).trans HXW.out)
 have HH:=zA (fun (p:Beh W0)=>H.out.below (HBW.out.trans (p.b.mono HBW.out.size)))
 have f0:∀p:Beh W0,p.w.cell? ⟨w.heap.size,0,none⟩=_:=fun p=>p.cell (cc 0 HXW.out)
 have f1:∀p:Beh W0,p.w.cell? ⟨w.heap.size,1,none⟩=_:=fun p=>p.cell (cc 1 HXW.out)
 have f2:∀p:Beh W0,p.w.cell? ⟨w.heap.size,2,none⟩=_:=fun p=>p.cell (cc 2 HXW.out)
 have f3:∀p:Beh W0,p.w.cell? ⟨w.heap.size,3,none⟩=_:=fun p=>p.cell (cc 3 HXW.out)
 have f4:∀p:Beh W0,p.w.cell? ⟨w.heap.size,4,none⟩=_:=fun p=>p.cell (cc 4 HXW.out)
 have f5:∀p:Beh W0,p.w.cell? ⟨w.heap.size,5,none⟩=_:=fun p=>p.cell (cc 5 HXW.out)
 have f6:∀p:Beh W0,p.w.cell? ⟨w.heap.size,6,none⟩=_:=fun p=>p.cell (cc 6 HXW.out)
 have f7:∀p:Beh W0,p.w.cell? ⟨w.heap.size,7,none⟩=_:=fun p=>p.cell (cc 7 HXW.out)
 have f8:∀p:Beh W0,p.w.cell? ⟨w.heap.size,8,none⟩=_:=fun p=>p.cell (cc 8 HXW.out)
 have f9:∀p:Beh W0,p.w.cell? ⟨w.heap.size,9,none⟩=_:=fun p=>p.cell (cc 9 HXW.out)
 have f10:∀p:Beh W0,p.w.cell? ⟨w.heap.size,10,none⟩=_:=fun p=>p.cell (cc 10 HXW.out)
 have f11:∀p:Beh W0,p.w.cell? ⟨w.heap.size,11,none⟩=_:=fun p=>p.cell (cc 11 HXW.out)
 have f12:∀p:Beh W0,p.w.cell? ⟨w.heap.size,12,none⟩=_:=fun p=>p.cell (cc 12 HXW.out)
 have f13:∀p:Beh W0,p.w.cell? ⟨w.heap.size,13,none⟩=_:=fun p=>p.cell (cc 13 HXW.out)
 have f14:∀p:Beh W0,p.w.cell? ⟨w.heap.size,14,none⟩=_:=fun p=>p.cell (cc 14 HXW.out)
 have f15:∀p:Beh W0,p.w.cell? ⟨w.heap.size,15,none⟩=_:=fun p=>p.cell (cc 15 HXW.out)
 clear hb HX HB HA HB2
 go_wp2_with fail
 go_loopw [35] (fun i wr=>∃(j:Nat),j≤4∧i=.int .i64 j∧Below W0.heap.size W0 wr) (fun i _=>4 - (intOf i).toNat)
 case atStart=>exact⟨0,by omega,rfl,Below.refl _ _⟩
 case round=>
  obtain⟨j,hj,rfl,hb⟩:=hrel
  have HBR:=zA hb
  clear hb
  by_cases hlt:j<4
  ·obtain⟨f,hf⟩:∃f,f=192+j:=⟨_,rfl⟩
   have h4:j=0∨j=1∨j=2∨j=3:=by omega
   have hix:∀w,(Instr.index 307 (.agg #[Qm 192,Qm 193,Qm 194,Qm 195]) (.int .i64 j)).run prog w=.ok (.func (.func f) #[] #[]) w:=by
    rcases h4 with rfl | rfl | rfl | rfl<;>subst hf<;>intro w<;>kernel_rfl
   have hcf:∀(x y:Value) (W:World),Sem.run prog (callFunc f #[x,y]) W=.ok (.enter f #[x,y]) W:=by
    rcases h4 with rfl | rfl | rfl | rfl<;>subst hf<;>intro x y W<;>kernel_rfl
   have HASK:Hid (∀p:Beh W0,Calls prog f #[.agg Qfd,.agg (Qtk 5 a b (.slice ao n cap))] p.w fun r w'=>r=.returned (.bool true)∧Below p.w.heap.size p.w w'):=zA (by
    rcases h4 with rfl | rfl | rfl | rfl<;>subst hf<;>intro p
    ·exact askSeq_5 a b ao n cap _
    ·exact askNode_5 a b ao n cap _
    ·exact askSeen_5 a b ao n cap _
    ·exact askEvents_5 a b ao n cap _ es (HH.out _) HN.out HOK.out)
   have a0:(j:Int)<4:=by omega
   have a1:(j:Int)+1≤9223372036854775807:=by omega
   clear h4 hf
   go_wp2_with fail
   clear hix
   refine zU (by kernel_rfl) (by kernel_rfl) HBR.out ?_
   repeat (go_big_quiet_step (first | exact Calls.beh_of (has_5 _) | exact Calls.beh_of (HASK.out _)))
   refine wpQuiet_nil ?_
   intro _ hw'
   obtain⟨p,hw''⟩:=hw'
   subst hw''
   clear f0 f1 f2 f3 f4 f5 f6 f7 f8 f9 f10 f11 f12 f13 f14 f15 hcf
   go_wp2_with fail
   exact⟨⟨j+1,by omega,rfl,p.b⟩,by simp[intOf];omega⟩
  ·obtain rfl:j=4:=by omega
   clear f0 f1 f2 f3 f4 f5 f6 f7 f8 f9 f10 f11 f12 f13 f14 f15 hlt hj
   go_wp2_with fail
   go_ret
   exact⟨rfl,HBW.out.trans (HBR.out.mono HBW.out.size)⟩
end
end Go.Proofs.YtodlmbfbfaofcaaGreat
