/- TopPolicies, part 27. -/
import Derived.Test.YtodlmbfbfaofcaaGreatM01
import Derived.Test.YtodlmbfbfaofcaaGreatM02
import Derived.Test.YtodlmbfbfaofcaaGreatM04
import Derived.Test.YtodlmbfbfaofcaaGreatM08
import Derived.Test.YtodlmbfbfaofcaaGreatM11
import Derived.Test.YtodlmbfbfaofcaaGreatM19
import Derived.Test.YtodlmbfbfaofcaaGreatM23
import Derived.Test.YtodlmbfbfaofcaaGreatM25
import Derived.Test.YtodlmbfbfaofcaaGreatM26
open Go.Proofs.Tryz
namespace Go.Proofs.YtodlmbfbfaofcaaGreat
set_option linter.unusedVariables false
set_option linter.unusedSimpArgs false
set_option maxRecDepth 100000
set_option maxHeartbeats 1000000
section
open Go.RowKit Rw Rh
theorem blen64_1 (w:World):Calls prog 364 #[.int .u64 1] w fun r w'=>r=.returned (.int .i64 1)∧w=w':=by
 go_enter func364,ntmps364
 go_wp2_with fail
 go_ret
 exact⟨by kernel_rfl,rfl⟩
theorem blen1 (w:World):Calls prog 319 #[.int .u64 1] w fun r w'=>r=.returned (.int .i64 1)∧w=w':=by
 go_enter func319,ntmps319
 go_wp2_with fail
 refine(blen64_1 w).mono ?_
 rintro x w1 ⟨rfl,rfl⟩
 go_wp2_with fail
 go_ret
 exact⟨rfl,rfl⟩
theorem ins1 (sl:Value) (w:World):Calls prog 394 #[sl,.int .i64 0,.int .i64 1] w fun r w'=>r=.returned (.tuple #[])∧w=w':=by
 go_enter func394,ntmps394
 go_wp2_with fail
 refine wp_loop_rounds 1 ?_
 rw[rounds_succ]
 go_wp2_with fail
 exact yG results394 ⟨rfl,rfl⟩
theorem pdq1 (sl:Value) (n:Int) (w:World):Calls prog 374 #[sl,.int .i64 0,.int .i64 1,.int .i64 n] w fun r w'=>r=.returned (.tuple #[])∧w=w':=by
 go_enter func374,ntmps374
 go_wp2_with fail
 refine wp_loop_rounds 1 ?_
 rw[rounds_succ]
 go_wp2_with fail
 refine(ins1 _ _).mono ?_
 rintro x w1 ⟨rfl,rfl⟩
 go_wp2_with fail
 exact bodyPost_ret (v:=.tuple #[]) (results_none results374 _ _ _) rfl ⟨rfl,rfl⟩
theorem sort1 (ao:Option Addr) (cap:Nat) (w:World):Calls prog 340 #[.slice ao 1 cap] w fun r w'=>r=.returned (.tuple #[])∧w=w':=by
 go_enter func340,ntmps340
 go_wp2_with fail
 refine(blen1 w).mono ?_
 rintro x w1 ⟨rfl,rfl⟩
 go_wp2_with fail
 refine(pdq1 _ _ _).mono ?_
 rintro x w1 ⟨rfl,rfl⟩
 go_wp2_with fail
 exact yG results340 ⟨rfl,rfl⟩
theorem compact1 (ao:Option Addr) (cap:Nat) (w:World):Calls prog 341 #[.slice ao 1 cap] w fun r w'=>r=.returned (.slice ao 1 cap)∧w=w':=by
 go_enter func341,ntmps341
 go_wp2_with fail
 go_ret
 exact⟨rfl,rfl⟩
theorem own_one {w:World} {base:Nat} {v:Value} {x:Int} (h:OwnR kInt base w v [x]):∃g cp,v=.slice (some ⟨g,0,none⟩) 1 cp∧1≤cp∧cp≤maxLen:=by
 rcases h.2 with⟨_,h0⟩ | ⟨g,cap,cur,rfl,_,_,h1,h2,_,_⟩
 ·simp at h0
 ·exact⟨g,cap,rfl,h1,h2⟩
theorem shuf1 (v f:Value) (x:Int) (w:World) (h:RowC kInt w v [x]) :
  Calls prog 299 #[v,f] w fun r w'=>∃v',r=.returned v'∧OwnR kInt w.heap.size w' v' [x]∧Below w.heap.size w w':=by
 have HC:=zA (vQ v [x] w h (by simp))
 clear h
 go_enter func299,ntmps299
 go_wp2_with fail
 refine HC.out.mono ?_
 rintro r w1 ⟨v1,rfl,ho,hb⟩
 obtain⟨g,cp,rfl,_,_⟩:=own_one ho
 have HO:=zA ho
 have HB:=zA hb
 clear ho hb HC
 go_wp2_with fail
 refine(sort1 _ _ w1).mono ?_
 rintro r w2 ⟨rfl,rfl⟩
 go_wp2_with fail
 refine(compact1 _ _ w1).mono ?_
 rintro r w2 ⟨rfl,rfl⟩
 go_wp2_with fail
 refine wp_loop_rounds 1 ?_
 rw[rounds_succ]
 go_wp2_with fail
 go_ret
 exact⟨_,rfl,HO.out,HB.out⟩
theorem some1 (o:Addr) (v:Value) (x:Int) (w:World) (h:RowC kInt w v [x]) :
  Calls prog 230 #[.pointer (some o),v,.int .i64 1] w fun r w'=>∃v',r=.returned v'∧RowC kInt w' v' [x]∧Below w.heap.size w w':=by
 have hw:Pl.within 1 0 1=1:=by decide
 have hmf:∀(fn:Fn) (first cap:Array Value) (w:World),(Instr.makeFunc fn first cap).run prog w=.ok (.func fn first cap) w:=fun _ _ _ _=>rfl
 have hne:∀w,(binOp BinOp.eql 205 (.pointer (some o)) (.pointer none)).run prog w=.ok (.bool false) w:=fun _=>rfl
 have HC:=zA (fun f=>shuf1 v f x w h)
 clear h
 go_enter func230,ntmps230
 go_wp2_with fail
 refine(HC.out _).mono ?_
 rintro r w1 ⟨v1,rfl,ho,hb⟩
 have HO:=zA ho
 have HB:=zA hb
 obtain⟨g,cp,rfl,h1,h2⟩:=own_one ho
 clear ho hb HC
 go_wp2_with fail
 refine(within_any _ _ _ _).mono ?_
 rintro r w2 ⟨rfl,rfl⟩
 rw[hw]
 go_wp2_with fail
 go_ret
 exact⟨_,rfl,HO.out.toT.toC,HB.out⟩
theorem rE (n:Int) (w:World):Calls prog 229 (Qo n) w fun r w'=>r=.returned (.bool (Pl.inside n 0 7))∧w=w':=by
 go_enter func229,ntmps229
 go_wp2_with fail
 refine(within_any _ _ _ _).mono ?_
 rintro r w2 ⟨rfl,rfl⟩
 go_wp2_with fail
 go_ret
 exact⟨by rw[←Pl.inside_eq];rfl,rfl⟩
theorem idx1 (v:Value) (f:Nat) (cb:Array Value) (x:Int) (w:World) (h:RowC kInt w v [x])
  (hcf:∀(x:Value) (W:World),Sem.run prog (callFunc f (#[x]++cb)) W=.ok (.enter f (#[x]++cb)) W)
  (hC:Calls prog f (#[.int .i64 x]++cb) w fun r w'=>r=.returned (.bool false)∧Below w.heap.size w w') :
  Calls prog 298 #[v,.func (.func f) #[] cb] w fun r w'=>r=.returned (.int .i64 (-1))∧Below w.heap.size w w':=by
 obtain⟨g,off,cap,rfl,hg,hc⟩:=h.cell (i:=0) (by simp)
 have c0:w.cell? ⟨g,off,none⟩=some (.int .i64 x):=by have:=hc 0 (.int .i64 x) rfl;simpa using this
 have HCC:=zA hC
 have HCF:=zA hcf
 clear h hc hC hcf
 go_enter func298,ntmps298
 go_wp2_with fail
 refine wp_loop_rounds 2 ?_
 rw[rounds_succ]
 have hcf:=HCF.out
 go_wp2_with fail
 refine HCC.out.mono ?_
 rintro r w1 ⟨rfl,hb⟩
 have HB:=zA hb
 clear hb HCC
 go_wp2_with fail
 rw[rounds_succ]
 go_wp2_with fail
 go_ret
 exact⟨rfl,HB.out⟩
theorem del1 (v:Value) (f:Nat) (cb:Array Value) (x:Int) (w:World) (h:RowC kInt w v [x])
  (hcf:∀(x:Value) (W:World),Sem.run prog (callFunc f (#[x]++cb)) W=.ok (.enter f (#[x]++cb)) W)
  (hC:Calls prog f (#[.int .i64 x]++cb) w fun r w'=>r=.returned (.bool false)∧Below w.heap.size w w') :
  Calls prog 226 #[v,.func (.func f) #[] cb] w fun r w'=>r=.returned v∧Below w.heap.size w w':=by
 have HC:=zA (idx1 v f cb x w h hcf hC)
 obtain⟨ao,cap,rfl⟩:=h.form
 clear h hcf hC
 go_enter func226,ntmps226
 go_wp2_with fail
 refine HC.out.mono ?_
 rintro r w1 ⟨rfl,hb⟩
 have HB:=zA hb
 clear hb HC
 go_wp2_with fail
 go_ret
 exact⟨rfl,HB.out⟩
structure GoAt (w:World) (g o b ms mh n mtu:Nat) (S:List (Nat×Nat)) (es:List Pl.Ev) (clock:Int):Prop where
 gs:w.heap[g]?=some (.cells #[.int .i64 n,.int .i64 mtu,Qp o,Qp b] 218 (0,0))
 bk:BkC w b ms mh (seenD S) (heldL es) clock
 ok:∀e∈es,e.Ok
 is:∀e∈es,Is w e
 may:∀d∈S,d.1<8∧1≤d.2∧d.2≤96
 len:es.length<768
 n8:n<8
theorem GoAt.below {w w':World} {g o b ms mh n mtu:Nat} {S:List (Nat×Nat)} {es:List Pl.Ev} {clock:Int} (h:GoAt w g o b ms mh n mtu S es clock) (hb:Below w.heap.size w w'):GoAt w' g o b ms mh n mtu S es clock:=
 ⟨zC h.gs hb,h.bk.below hb,h.ok,fun e he=>(h.is e he).below hb,h.may,h.len,h.n8⟩
def Holds (O:Nat→Nat→Bool) (S:List (Nat×Nat)):Prop:=∀a s,O a s=true↔(a,s)∈S
theorem holds_seen {O:Nat→Nat→Bool} {S:List (Nat×Nat)} (h:∀n s,O n s=true↔∃p∈seenD S,p.1=(n,s)):Holds O S:=fun a s=>(h a s).trans
 ⟨fun ⟨p,hp,e⟩=>by obtain⟨x,hx,rfl⟩:=List.mem_map.1 hp;exact e ▸ hx,fun hx=>⟨_,List.mem_map.2 ⟨_,hx,rfl⟩,rfl⟩⟩
theorem sE (g o b ms mh n mtu:Nat) (S:List (Nat×Nat)) (es:List Pl.Ev) (clock:Int) (w:World) (h:GoAt w g o b ms mh n mtu S es clock) :
  Calls prog 45 #[Qp b] w fun r w'=>∃O U M ao cap,r=.returned (.agg (Qu U ao M.length cap))∧SetV w' (.agg (Qu U ao M.length cap)) O U M∧Holds O S∧Below w.heap.size w w':=
 (bseen_ok b ms mh (seenD S) (heldL es) clock w h.bk (fun p hp=>by obtain⟨d,hd,rfl⟩:=List.mem_map.1 hp;exact h.may d hd)).mono (by
  rintro r w' ⟨v,O,U,M,rfl,hv,hO,hb⟩
  obtain⟨m,rfl,hm,hc⟩:=id hv
  obtain⟨ao,cap,rfl,_⟩:=id hm
  exact⟨O,U,M,ao,cap,rfl,hv,holds_seen hO,hb⟩)
theorem rF (g o b ms mh n mtu to q:Nat) (S:List (Nat×Nat)) (es:List Pl.Ev) (clock:Int) (w:World) (h:GoAt w g o b ms mh n mtu S es clock) :
  Calls prog 204 #[Qp g,.int .i64 to,.int .i64 q] w fun r w'=>∃O U M ao cap,r=.returned (.agg (Qsu 4 (n:Int) (to:Int) (q:Int) U (.slice ao M.length cap)))∧SetV w' (.agg (Qu U ao M.length cap)) O U M∧Holds O S∧Below w.heap.size w w':=by
 have b1:=bn w (.cells Qnn 115)
 have h1:=h.below b1
 have HX:=zA (heap_alloc_new w (.cells Qnn 115))
 have HB:=zA b1
 have HS:=zA (sE g o b ms mh n mtu S es clock _ h1)
 have HG:=zA h1.gs
 have hg:=h1.gs
 clear h h1 b1
 have d3:=cc 3 hg
 clear hg
 go_enter func204,ntmps204
 go_wp2_with fail
 generalize w.alloc (.cells Qnn 115)=W at *
 refine HS.out.mono ?_
 rintro r w1 ⟨O,U,M,ao,cap,rfl,hv,hO,hb⟩
 have HB1:=zA (HB.out.trans (hb.mono HB.out.size))
 have HBN:=zA (bn w1 (.cells (Qu U ao M.length cap) 60))
 have HX2:=zA (zC (zC HX.out hb) HBN.out)
 have HG2:=zA (zC (zC HG.out hb) HBN.out)
 have HS2:=zA (heap_alloc_new w1 (.cells (Qu U ao M.length cap) 60))
 have HV:=zA hv
 have HO:=zA hO
 clear hv hO hb d3 HX HG HS
 go_wp2_with (refine zJ rfl 60 (.tmp 7) (.tmp 12) (Qv 0 0 0 0 0 0 0 0) (Qu U ao M.length cap) rfl rfl _ rfl rfl rfl lE rfl lE rfl ?_)
 generalize w1.alloc (.cells (Qu U ao M.length cap) 60)=w2 at *
 refine zD (fun W'=>W'.heap[g]?=some (.cells #[.int .i64 n,.int .i64 mtu,Qp o,Qp b] 218 (0,0))∧W'.heap[w1.heap.size]?=some (.cells (Qu U ao M.length cap) 60 (0,0))) 11 lE ⟨HG2.out,HS2.out⟩ (fun qB=>?_)
 refine tkp 0 13 rfl ?_
 refine tkp 1 14 rfl ?_
 refine tkp 2 15 rfl ?_
 refine tk 3 16 rfl lV ?_
 refine tkp 4 17 rfl ?_
 refine tkp 5 18 rfl ?_
 refine tkp 6 19 rfl ?_
 refine tk 7 20 rfl lV ?_
 refine tkp 8 21 rfl ?_
 refine tk 9 22 rfl lV ?_
 refine tkp 10 23 rfl ?_
 refine t1 11 rfl (fun K hK=>?_)
 rw[if_pos (by rfl)]
 refine yS 115 (.tmp 6) (.tmp 23) w.heap.size rfl rfl rfl rfl (show w2.drew.heap[w.heap.size]?=_ from HX2.out) lE rfl lE ?_
 refine hK.out _ _ (fun h=>absurd rfl h) (fun _=>?_)
 clear hK K
 try simp only[pt,List.set]
 refine wd ?_
 have hb2:Below w.heap.size w (w2.drew.setRow w.heap.size (Qsu 4 (n:Int) (to:Int) (q:Int) U (.slice ao M.length cap))):=yF (HB1.out.trans ((HBN.out.trans (Below.refl _ _).drew).mono HB1.out.size)) (Nat.le_refl _) _
 have hx2:=yL (show w2.drew.heap[w.heap.size]?=_ from HX2.out) (Qsu 4 (n:Int) (to:Int) (q:Int) U (.slice ao M.length cap))
 have hv2:SetV (w2.drew.setRow w.heap.size (Qsu 4 (n:Int) (to:Int) (q:Int) U (.slice ao M.length cap))) (.agg (Qu U ao M.length cap)) O U M:=(HV.out.below HBN.out).keep (fun k cs fr hk=>(yH _ _ _ _ (fun e=>by rw[e,HX2.out]at hk;exact zH lF hk)))
 have HB3:=zA hb2
 have HX3:=zA hx2
 have HV3:=zA hv2
 clear hb2 hx2 hv2 qB
 generalize w2.drew.setRow w.heap.size (Qsu 4 (n:Int) (to:Int) (q:Int) U (.slice ao M.length cap))=w3 at *
 have m0:=cc 0 HX3.out
 have m1:=cc 1 HX3.out
 have m2:=cc 2 HX3.out
 have m3:=cc 3 HX3.out
 have m4:=cc 4 HX3.out
 have m5:=cc 5 HX3.out
 have m6:=cc 6 HX3.out
 have m7:=cc 7 HX3.out
 have m8:=cc 8 HX3.out
 have m9:=cc 9 HX3.out
 have m10:=cc 10 HX3.out
 have m11:=cc 11 HX3.out
 have m12:=cc 12 HX3.out
 have m13:=cc 13 HX3.out
 have m14:=cc 14 HX3.out
 have m15:=cc 15 HX3.out
 go_wp2_with fail
 exact bodyPost_ret (v:=.agg (Qsu 4 (n:Int) (to:Int) (q:Int) U (.slice ao M.length cap))) (by simp[results,results204,go_sem,m0,m1,m2,m3,m4,m5,m6,m7,m8,m9,m10,m11,m12,m13,m14,m15]) rfl ⟨O,U,M,ao,cap,rfl,HV3.out,HO.out,HB3.out⟩
theorem tick1_ok (g o b n mtu x t:Nat) (w:World) (hg:w.heap[g]?=some (.cells #[.int .i64 n,.int .i64 mtu,Qp o,Qp b] 218 (0,0))) (ht:w.heap[t]?=some (.cells #[Qp g] 104 (0,0))) (hx:x<8) (hne:x≠n) :
  Calls prog 228 #[.int .i64 x,Qp t] w fun r w'=>r=.returned (.bool false)∧Below w.heap.size w w':=by
 have g0:=cc 0 hg
 have t0:=cc 0 ht
 have hi:Pl.inside (x:Int) 0 7=true:=zL lD lD
 have e0:((x:Int) == (n:Int))=false:=by simp;omega
 clear hg ht
 go_enter func228,ntmps228
 go_wp2_with fail
 refine(rE _ _).mono ?_
 rintro r w1 ⟨rfl,rfl⟩
 rw[hi]
 go_wp2_with fail
 go_ret
 exact⟨rfl,Below.refl _ _⟩
theorem tick_ok (g o b ms mh n mtu:Nat) (to:Nat) (v:Value) (S:List (Nat×Nat)) (es:List Pl.Ev) (clock:Int) (w:World) (h:GoAt w g o b ms mh n mtu S es clock) (hr:RowC kInt w v [(to:Int)]) (ht:to<8) (hne:to≠n) :
  Calls prog 132 #[Qp g,v] w fun r w'=>∃v' O U M ao cap,r=.returned v'∧OwnR kMsg w.heap.size w' v' [dgq n to 0 U (ao,M.length,cap)]∧SetV w' (.agg (Qu U ao M.length cap)) O U M∧Holds O S∧Below w.heap.size w w':=by
 have b1:=bn w (.cells #[Qp g] 104)
 have hx:=heap_alloc_new w (.cells #[Qp g] 104)
 have HX:=zA hx
 have HB:=zA b1
 have HG:=zA (fun (W:World) (hW:Below w.heap.size w W)=>h.below hW)
 have HR:=zA (vQ v _ _ (hr.below b1) (by simp))
 have HT:=zA (And.intro ht hne)
 have c0:=cc 0 hx
 have hmf:∀(fn:Fn) (first cap:Array Value) (w:World),(Instr.makeFunc fn first cap).run prog w=.ok (.func fn first cap) w:=fun _ _ _ _=>rfl
 clear b1 hx h hr ht hne
 go_enter func132,ntmps132
 go_wp2_with fail
 clear c0
 generalize w.alloc (.cells #[Qp g] 104)=W at *
 refine HR.out.mono ?_
 rintro r w1 ⟨v1,rfl,ho1,hb1⟩
 have HB1:=zA (HB.out.trans (hb1.mono HB.out.size))
 have HX1:=zA (zC HX.out hb1)
 have HR1:=zA ho1.toT.toC
 clear ho1 hb1 HX HB HR
 go_wp2_with fail
 refine(del1 v1 228 #[Qp w.heap.size] (to:Int) w1 HR1.out (fun _ _=>rfl) (tick1_ok g o b n mtu to w.heap.size w1 (HG.out w1 HB1.out).gs HX1.out HT.out.1 HT.out.2)).mono ?_
 rintro r w2 ⟨rfl,hb2⟩
 have HB2:=zA (HB1.out.trans (hb2.mono HB1.out.size))
 have hx2:=zC HX1.out hb2
 have HX2:=zA hx2
 have HR2:=zA (HR1.out.below hb2)
 have hg2:=(HG.out w2 HB2.out).gs
 have c0:=cc 0 hx2
 have g2:=cc 2 hg2
 clear hb2 hx2 hg2 HB1 HX1 HR1 hmf
 go_wp2_with fail
 refine(some1 ⟨o,0,none⟩ v1 (to:Int) w2 HR2.out).mono ?_
 rintro r w3 ⟨v3,rfl,hr3,hb3⟩
 have HB3:=zA (HB2.out.trans (hb3.mono HB2.out.size))
 have hx3:=zC HX2.out hb3
 obtain⟨ga,off,cap3,rfl,hga,hc⟩:=hr3.cell (i:=0) (by simp)
 have y0:w3.cell? ⟨ga,off,none⟩=some (.int .i64 to):=by have:=hc 0 _ rfl;simpa using this
 clear c0 g2 hb3 hr3 hc HB2 HX2 HR2
 have c0:=cc 0 hx3
 clear hx3
 have HD:=zA (rF g o b ms mh n mtu to 0 S es clock w3 (HG.out w3 HB3.out))
 clear HG
 go_wp2_with fail
 refine wp_loop_rounds 2 ?_
 rw[rounds_succ]
 go_wp2_with fail
 clear y0 c0 hga
 refine HD.out.mono ?_
 rintro r w4 ⟨O,U,M,ao2,cap2,rfl,hv,hO,hb⟩
 have b5:=bn w4 (.cells (Qsu 4 (n:Int) (to:Int) 0 U (.slice ao2 M.length cap2)) 115)
 have HB5:=zA (HB3.out.trans ((hb.trans (b5.mono hb.size)).mono HB3.out.size))
 have HV5:=zA (hv.below b5)
 have HO:=zA hO
 have qI:=zA (show RowC kMsg (w4.alloc (.cells (Qsu 4 (n:Int) (to:Int) 0 U (.slice ao2 M.length cap2)) 115)) (.slice (some ⟨w4.heap.size,0,none⟩) 1 1) [dgq n to 0 U (ao2,M.length,cap2)]from yK kMsg w4 [dgq n to 0 U (ao2,M.length,cap2)] (Qsu 4 (n:Int) (to:Int) 0 U (.slice ao2 M.length cap2)) 1 rfl (by simp[Rk.encs,kMsg,dgq]))
 clear hv hO hb b5 HD HB3
 go_wp2_with (
  at_builtin
  refine yU kMsg rfl (.tmp 25) (.tmp 29) rfl rfl (yJ kMsg w.heap.size _) rfl qI.out (by simp) HB5.out HB5.out.size ?_
  intro v6 w6 hown6 hb6 hg6
  have HV6:=zA hown6
  have HB6:=zA hb6
  have HS6:=zA (HV5.out.keep (w':=w6) (fun k cs fr hk=>hg6.block k (gsi.1 hk).1 (fun e=>by cases e)))
  clear hown6 hb6 hg6)
 rw[rounds_succ]
 go_wp2_with fail
 exact bodyPost_ret (v:=v6) (by simp[results,results132,go_sem]) rfl ⟨_,O,U,M,ao2,cap2,rfl,HV6.out,HS6.out,HO.out,HB6.out⟩
end
end Go.Proofs.YtodlmbfbfaofcaaGreat
