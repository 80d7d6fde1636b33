/- TopLoads, part 32. -/
import Derived.Test.YtodlmbfbfaofcaaGreatM01
import Derived.Test.YtodlmbfbfaofcaaGreatM03
import Derived.Test.YtodlmbfbfaofcaaGreatM07
import Derived.Test.YtodlmbfbfaofcaaGreatM31
open Go.Proofs.Tryz
namespace Go.Proofs.YtodlmbfbfaofcaaGreat
set_option linter.unusedVariables false
set_option linter.unusedSimpArgs false
set_option maxRecDepth 100000
set_option maxHeartbeats 8000000
section
open Go.RowKit Rw Rh
theorem start_ok (c:Cf) (hc:c.Ok) (F:Nat→Prop) (d:Nat) (size:Int) (w:World) (h:DkAt F w d size []) (hin:∀g,F g→g<w.heap.size) (hs:0≤size) (hs':size≤16384) (hf:(rec1.length:Int)≤size) :
  Calls prog 128 #[.agg (Qd c.n c.mtu c.win c.kp c.salt c.seed c.c0 c.c1 c.c2),Qp d] w fun r w'=>∃p Fs,r=.returned (.tuple #[Qp p.a,.int .i64 0])∧AgAt Fs w' p c size rec1 0 0 [] [] 0∧(∀k,Fs k∨p.has k→F k∨w.heap.size≤k)∧Off F w w':=by
 obtain⟨hx,hy,b1⟩:=zT w (.cells (Qd c.n c.mtu c.win c.kp c.salt c.seed c.c0 c.c1 c.c2) 74) (.cells (Qo 0) 41)
 have HX:=zA hx
 have HY:=zA hy
 have HB:=zA b1
 have HR:=zA (fun W=>vU c.n c.mtu c.win c.kp c.salt c.seed c.c0 c.c1 c.c2 W)
 simp only[hc.right]at HR
 have HO:=zA (fun (W:World) (hW:Below w.heap.size w W)=>open_ok F d size W (h.below hW))
 have HU:=zA (fun (W:World) (F':Nat→Prop) (s':Nat) (hS:StAt F' W s' size [] 0 0 ((0:Nat):Int) []) (hi:∀g,F' g→g<W.heap.size)=>bump_ok F' s' size [] 0 0 0 [] W hS hi (by simp) hs hs' (by omega) (by simpa[rec1]using hf))
 have HIN:=zA hin
 have HC:=zA hc
 clear hx hy b1 h hin hs hs' hf hc
 go_enter_defers func128,ntmps128
 go_wp2_with (refine zH rfl 74 (.tmp 2) w.heap.size (Qd c.n c.mtu c.win c.kp c.salt c.seed c.c0 c.c1 c.c2) 74 (0,0) _ rfl rfl HX.out underlying74 rfl (by kernel_rfl) ?_)
 generalize (w.alloc (.cells (Qd c.n c.mtu c.win c.kp c.salt c.seed c.c0 c.c1 c.c2) 74)).alloc (.cells (Qo 0) 41)=W at *
 refine(HR.out W).mono ?_
 rintro r w1 ⟨rfl,hb⟩
 have HB1:=zA (HB.out.trans (hb.mono HB.out.size))
 have HX1:=zA (zC HX.out hb)
 have HY1:=zA (zC HY.out hb)
 clear hb HX HY HB HR
 go_wp2_with fail
 refine(HO.out w1 HB1.out).mono ?_
 rintro r w2 ⟨s',rfl,hsg,hst,hb⟩
 have HB2:=zA (HB1.out.trans (hb.mono HB1.out.size))
 have HX2:=zA (zC HX1.out hb)
 have HY2:=zA (zC HY1.out hb)
 have HB12:=zA hb.size
 have HL2:=zA (show w.heap.size+1<w1.heap.size from(gsi.1 HY1.out).1)
 have HS2:=zA (show StAt (fun g=>(F g∨w1.heap.size≤g)∧g<w2.heap.size) w2 s' size [] 0 0 ((0:Nat):Int) []from hst.inside)
 clear hsg hst hb HB1 HX1 HY1 HO
 go_wp2_with fail
 refine(sS _ _).mono ?_
 rintro r w3 ⟨rfl,rfl⟩
 go_wp2_with fail
 refine(HU.out w2 _ s' HS2.out (fun g hg=>hg.2)).mono ?_
 rintro r w4 ⟨rfl,hst,hof⟩
 have HOF4:=zA (show Off F w w4 from hof.after HB2.out (fun g hg h=>h.1.elim id (fun h'=>absurd hg (by have:=HL2.out;omega))))
 have hnF:∀k,k<w1.heap.size→¬F k→w4.heap[k]?=w2.heap[k]?:=fun k hk hn=>hof.same k (Nat.lt_of_lt_of_le hk HB12.out) (fun h=>h.1.elim hn (fun h'=>by omega))
 have HX4:=zA ((hnF w.heap.size (by have:=HL2.out;omega) (fun h=>by have:=HIN.out _ h;omega)).trans HX2.out)
 have HY4:=zA ((hnF (w.heap.size+1) HL2.out (fun h=>by have:=HIN.out _ h;omega)).trans HY2.out)
 obtain⟨Fs,hFs⟩:∃Fs:Nat→Prop,Fs=(fun g=>((((F g∨w1.heap.size≤g)∧g<w2.heap.size)∨w2.heap.size≤g)∧StTy w4 g)):=⟨_,rfl⟩
 have HS4:=zA (show StAt Fs w4 s' size rec1 0 0 1 [] by rw[hFs];exact hst.tight)
 have HTY:Hid (∀k,Fs k→StTy w4 k):=zA (fun k hk=>by rw[hFs]at hk;exact hk.2)
 have HSZ:=zA (show w.heap.size+1<w4.heap.size from Nat.lt_of_lt_of_le HL2.out (Nat.le_trans HB12.out hof.size))
 have HFS:Hid (∀k,Fs k→k<w4.heap.size∧(F k∨w.heap.size≤k)):=zA (fun k hk=>by rw[hFs]at hk;exact⟨hk.2.lt,hk.1.elim (fun h=>h.1.elim .inl (fun h'=>.inr (by have:=HL2.out;omega))) (fun h'=>.inr (by have:=HL2.out;have:=HB12.out;omega))⟩)
 have e01:(((0+1:Nat):Int))=1:=rfl
 rw[e01]
 clear hFs e01 hst hof hnF HX2 HY2 HS2 HU HB2
 go_wp2_with fail
 refine(sR _ _).mono ?_
 rintro r w5 ⟨rfl,rfl⟩
 have ba:=bn w4 (.cells #[.int .i64 c.n,.int .i64 c.mtu,.int .i64 c.win,.int .i64 c.kp,.int .u64 c.salt,.int .u64 c.seed,.int .i64 c.c0,.int .i64 c.c1,.int .i64 c.c2,Qp s',.pointer none,.pointer none,.pointer none,.int .i64 0,.bool false] 108)
 have HA:=zA (heap_alloc_new w4 (.cells #[.int .i64 c.n,.int .i64 c.mtu,.int .i64 c.win,.int .i64 c.kp,.int .u64 c.salt,.int .u64 c.seed,.int .i64 c.c0,.int .i64 c.c1,.int .i64 c.c2,Qp s',.pointer none,.pointer none,.pointer none,.int .i64 0,.bool false] 108))
 have HBA:=zA ba
 have HXA:=zA (zC HX4.out ba)
 clear ba
 have hx:=HXA.out
 have x0:=cc 0 hx
 have x1:=cc 1 hx
 have x5:=cc 5 hx
 clear hx
 go_wp2_with (refine zH rfl 74 (.tmp 2) w.heap.size (Qd c.n c.mtu c.win c.kp c.salt c.seed c.c0 c.c1 c.c2) 74 (0,0) _ rfl rfl HX4.out underlying74 rfl (by kernel_rfl) ?_)
 clear x0 x1 x5
 generalize w4.alloc (.cells #[.int .i64 c.n,.int .i64 c.mtu,.int .i64 c.win,.int .i64 c.kp,.int .u64 c.salt,.int .u64 c.seed,.int .i64 c.c0,.int .i64 c.c1,.int .i64 c.c2,Qp s',.pointer none,.pointer none,.pointer none,.int .i64 0,.bool false] 108)=w5 at *
 refine(gnew_ok c.n c.mtu c.seed w5 HC.out.n HC.out.mtu).mono ?_
 rintro r w6 ⟨g,o,b,ms,mh,rfl,hg,hge,hb⟩
 have HB6:=zA (HBA.out.trans (hb.mono HBA.out.size))
 have HG6:=zA hg
 have HGE:=zA (show ∀k,k=g∨k=b∨k=ms∨k=mh→w4.heap.size<k from fun k hk=>Nat.lt_of_lt_of_le (gsi.1 HA.out).1 (hge k hk))
 have HA6:=zA (zC HA.out hb)
 have HX6:=zA (zC HXA.out hb)
 clear hg hge hb HBA HA HXA
 go_wp2_with fail
 refine(got213_ok _ _).mono ?_
 rintro r w7 ⟨rfl,rfl⟩
 have fa:=zB HA6.out 10
 have ya:=cc 10 HA6.out
 have HB7:=zA (zP HB6.out (Nat.le_refl _) 10 (Qp g))
 have HA7:=zA (show(w6.setCell ⟨w4.heap.size,10,none⟩ (Qp g)).heap[w4.heap.size]?=some (.cells #[.int .i64 c.n,.int .i64 c.mtu,.int .i64 c.win,.int .i64 c.kp,.int .u64 c.salt,.int .u64 c.seed,.int .i64 c.c0,.int .i64 c.c1,.int .i64 c.c2,Qp s',Qp g,.pointer none,.pointer none,.int .i64 0,.bool false] 108 (0,0))from by have h:=zG (j:=10) HA6.out (Qp g);simpa using h)
 have HX7:=zA ((Below.heap_setCell w6 ⟨w4.heap.size,10,none⟩ (Qp g) w.heap.size (fun e=>by have e':w.heap.size=w4.heap.size:=e;have:=HSZ.out;omega)).trans HX6.out)
 have HG7:=zA (HG6.out.off1 HA6.out (by decide) ((Off.refl (fun x=>x=w4.heap.size) w6).set (a:=⟨w4.heap.size,10,none⟩) (.inl rfl) (Qp g)))
 have hx:=HX7.out
 have x0:=cc 0 hx
 have x5:=cc 5 hx
 have x6:=cc 6 hx
 have x7:=cc 7 hx
 have x8:=cc 8 hx
 clear hx
 go_wp2_with fail
 clear x0 x5 x6 x7 x8 fa ya HB6 HA6 HX6 HG6
 generalize w6.setCell ⟨w4.heap.size,10,none⟩ (Qp g)=w7 at *
 refine(snew_ok c.n c.c0 c.c1 c.c2 _ w7 HC.out.n HC.out.pat).mono ?_
 rintro r w8 ⟨D,T,O,S,rfl,hd,hde,hb⟩
 have HB8:=zA (HB7.out.trans (hb.mono HB7.out.size))
 have HG8:=zA (HG7.out.below hb)
 have HD8:=zA hd
 have HDE:=zA (show ∀k,k=D∨k=T∨k=S→w7.heap.size≤k from hde)
 have HA8:=zA (zC HA7.out hb)
 have HX8:=zA (zC HX7.out hb)
 have HL7:=zA (show(w4.heap.size<w7.heap.size∧g<w7.heap.size∧b<w7.heap.size∧ms<w7.heap.size∧mh<w7.heap.size)from⟨(gsi.1 HA7.out).1,(gsi.1 HG7.out.gs).1,HG7.out.bk.lt.1,HG7.out.bk.lt.2.1,HG7.out.bk.lt.2.2⟩)
 clear hd hde hb HB7 HA7 HX7 HG7
 go_wp2_with fail
 refine(got215_ok _ _).mono ?_
 rintro r w9 ⟨rfl,rfl⟩
 have fa:=zB HA8.out 11
 have ya:=cc 11 HA8.out
 have ho9:∀v,Off (fun x=>x=w4.heap.size) w8 (w8.setCell ⟨w4.heap.size,11,none⟩ v):=fun v=>(Off.refl (fun x=>x=w4.heap.size) w8).set (a:=⟨w4.heap.size,11,none⟩) (.inl rfl) v
 have HB9:=zA (zP HB8.out (Nat.le_refl _) 11 (Qp D))
 have HA9:=zA (show(w8.setCell ⟨w4.heap.size,11,none⟩ (Qp D)).heap[w4.heap.size]?=some (.cells #[.int .i64 c.n,.int .i64 c.mtu,.int .i64 c.win,.int .i64 c.kp,.int .u64 c.salt,.int .u64 c.seed,.int .i64 c.c0,.int .i64 c.c1,.int .i64 c.c2,Qp s',Qp g,Qp D,.pointer none,.int .i64 0,.bool false] 108 (0,0))from by have h:=zG (j:=11) HA8.out (Qp D);simpa using h)
 have HX9:=zA ((Below.heap_setCell w8 ⟨w4.heap.size,11,none⟩ (Qp D) w.heap.size (fun e=>by have e':w.heap.size=w4.heap.size:=e;have:=HSZ.out;omega)).trans HX8.out)
 have HG9:=zA (HG8.out.off1 HA8.out (by decide) (ho9 (Qp D)))
 have HD9:=zA (HD8.out.keep (ho9 (Qp D)).size (fun k hk=>(ho9 (Qp D)).same k (by obtain⟨h1,h2,h3⟩:=HD8.out.lt;rcases hk with rfl | rfl | rfl<;>assumption) (fun e=>by have e':k=w4.heap.size:=e;have:=HL7.out.1;have:=HDE.out k (by rcases hk with rfl | rfl | rfl<;>simp);omega)))
 have hx:=HX9.out
 have x0:=cc 0 hx
 have x2:=cc 2 hx
 have x3:=cc 3 hx
 have x4:=cc 4 hx
 clear hx
 clear ho9
 go_wp2_with fail
 clear x0 x2 x3 x4 fa ya HB8 HA8 HX8 HG8 HD8
 generalize w8.setCell ⟨w4.heap.size,11,none⟩ (Qp D)=w9 at *
 refine(anew_ok c.n c.win c.kp c.salt w9 HC.out.n HC.out.win HC.out.kp).mono ?_
 rintro r w10 ⟨A,rfl,hb⟩
 have pT:=zA (HB9.out.trans (hb.mono HB9.out.size))
 have HG10:=zA (HG9.out.below hb)
 have HD10:=zA (HD9.out.below hb)
 have HA10:=zA (zC HA9.out hb)
 clear hb HB9 HA9 HX9 HG9 HD9
 go_wp2_with fail
 refine(got217_ok _ _).mono ?_
 rintro r w11 ⟨rfl,rfl⟩
 have fa:=zB HA10.out 12
 have ya:=cc 12 HA10.out
 have ho9:∀v,Off (fun x=>x=w4.heap.size) w10 (w10.setCell ⟨w4.heap.size,12,none⟩ v):=fun v=>(Off.refl (fun x=>x=w4.heap.size) w10).set (a:=⟨w4.heap.size,12,none⟩) (.inl rfl) v
 have HB11:=zA (zP pT.out (Nat.le_refl _) 12 (Qp A))
 have HA11:=zA (show(w10.setCell ⟨w4.heap.size,12,none⟩ (Qp A)).heap[w4.heap.size]?=some (.cells #[.int .i64 c.n,.int .i64 c.mtu,.int .i64 c.win,.int .i64 c.kp,.int .u64 c.salt,.int .u64 c.seed,.int .i64 c.c0,.int .i64 c.c1,.int .i64 c.c2,Qp s',Qp g,Qp D,Qp A,.int .i64 0,.bool false] 108 (0,0))from by have h:=zG (j:=12) HA10.out (Qp A);simpa using h)
 have HG11:=zA (HG10.out.off1 HA10.out (by decide) (ho9 (Qp A)))
 have HD11:=zA (HD10.out.keep (ho9 (Qp A)).size (fun k hk=>(ho9 (Qp A)).same k (by obtain⟨h1,h2,h3⟩:=HD10.out.lt;rcases hk with rfl | rfl | rfl<;>assumption) (fun e=>by have e':k=w4.heap.size:=e;have:=HL7.out.1;have:=HDE.out k (by rcases hk with rfl | rfl | rfl<;>simp);omega)))
 have HS11:=zA (HS4.out.below HB11.out)
 clear ho9
 go_wp2_with fail
 clear fa ya pT HA10 HG10 HD10
 generalize w10.setCell ⟨w4.heap.size,12,none⟩ (Qp A)=w11 at *
 refine(rB _ _ _ _ _ _ _ w11 HS11.out).mono ?_
 rintro r w12 ⟨rfl,rfl⟩
 have pR:=zA (zC HY4.out HB11.out)
 have fy:=zB pR.out 0
 have yy:=cc 0 pR.out
 go_wp2_with fail
 refine wp_loop_rounds 1 ?_
 rw[rounds_succ]
 go_wp2_with fail
 refine leaves_cons (f:=46) (args:=#[Qp (w.heap.size+1)]) (by simp) (by simp[go_sem]) ?_
 refine(xF _ _).mono ?_
 rintro e u' w'' ⟨rfl,rfl,rfl⟩
 have ho12:=(Off.refl (fun x=>x=w.heap.size+1) w11).set (a:=⟨w.heap.size+1,0,none⟩) (.inl rfl) (.int .i64 0)
 have cz:=World.cell?_setCell_same w11 ⟨w.heap.size+1,0,none⟩ (.int .i64 0) yy
 have hAG:AgAt Fs (w11.setCell ⟨w.heap.size+1,0,none⟩ (.int .i64 0)) ⟨w4.heap.size,s',g,o,b,ms,mh,D,T,O,S,A⟩ c size rec1 0 0 [] [] 0:=by
  have hz:=HSZ.out
  have hl:=HL7.out
  have hge:=HGE.out
  have hde:=HDE.out
  have hD:=hde D (.inl rfl)
  have hT:=hde T (.inr (.inl rfl))
  have hS:=hde S (.inr (.inr rfl))
  refine⟨(ho12.same _ (gsi.1 HA11.out).1 (fun e=>by have e':w4.heap.size=w.heap.size+1:=e;omega)).trans HA11.out,HS11.out.other pR.out (by decide) 0 _,HG11.out.off1 pR.out (by decide) ho12,HD11.out.keep ho12.size (fun k hk=>ho12.same k (by obtain⟨h1,h2,h3⟩:=HD11.out.lt;rcases hk with rfl | rfl | rfl<;>assumption) (fun e=>by have e':k=w.heap.size+1:=e;have:=hde k hk;omega)),fun k hk hh=>?_,fun k hk=>?_,HC.out,?_,?_⟩
  ·have h1:=(HFS.out k hk).1
   rcases hh with h | h | h | h | h | h | h | h
   ·have e:k=w4.heap.size:=h;omega
   ·have:=hge k (.inl h);omega
   ·have:=hge k (.inr (.inl h));omega
   ·have:=hge k (.inr (.inr (.inl h)));omega
   ·have:=hge k (.inr (.inr (.inr h)));omega
   ·have e:k=D:=h;omega
   ·have e:k=T:=h;omega
   ·have e:k=S:=h;omega
  ·have h1:=HTY.out k hk
   have h2:=h1.keep (HB11.out.block k h1.lt)
   refine h2.keep (ho12.same k h2.lt (fun e=>?_))
   obtain⟨cs,t,fr,hcs,ht⟩:=h2
   have e':k=w.heap.size+1:=e
   rw[e',pR.out]at hcs
   rcases ht with rfl | rfl | rfl | rfl<;>exact zI (by decide) hcs
  ·refine⟨?_,?_,?_,?_,?_⟩<;>(intro e;dsimp only at e;omega)
  ·refine⟨?_,?_⟩<;>(intro e;dsimp only at e;omega)
 have hfoot:∀k,Fs k∨AgP.has ⟨w4.heap.size,s',g,o,b,ms,mh,D,T,O,S,A⟩ k→F k∨w.heap.size≤k:=fun k hk=>by
  have hz:=HSZ.out
  rcases hk with h | h
  ·exact(HFS.out k h).2
  ·right
   have hge:=HGE.out
   have hde:=HDE.out
   have hl:=HL7.out
   rcases h with h | h | h | h | h | h | h | h
   ·have e:k=w4.heap.size:=h;omega
   ·have:=hge k (.inl h);omega
   ·have:=hge k (.inr (.inl h));omega
   ·have:=hge k (.inr (.inr (.inl h)));omega
   ·have:=hge k (.inr (.inr (.inr h)));omega
   ·have:=hde k (.inl h);omega
   ·have:=hde k (.inr (.inl h));omega
   ·have:=hde k (.inr (.inr h));omega
 have qZ:Off F w (w11.setCell ⟨w.heap.size+1,0,none⟩ (.int .i64 0)):=(HOF4.out.trans (Off.of_below HB11.out)).set (.inr (Nat.le_succ _)) _
 have HZ:=zA (And.intro hAG (And.intro hfoot qZ))
 clear hAG hfoot qZ ho12
 generalize w11.setCell ⟨w.heap.size+1,0,none⟩ (.int .i64 0)=Z at *
 simp only[Leaves,settle,results,results128,go_sem]
 refine⟨_,by simp[go_sem,cz],⟨w4.heap.size,s',g,o,b,ms,mh,D,T,O,S,A⟩,Fs,rfl,HZ.out⟩
theorem AgAt.restore {Fs:Nat→Prop} {w w':World} {p:AgP} {c:Cf} {size:Int} {bs:List Int} {used upto:Int} {own es:List Pl.Ev} {clock:Int} (h:AgAt Fs w p c size bs used upto own es clock) (hof:Off Fs w w') {bs':List Int} {used' upto':Int} {own':List Pl.Ev} (hst:StAt (fun g=>Fs g∨w.heap.size≤g) w' p.s size bs' used' upto' 1 own') :
  AgAt (fun g=>(Fs g∨w.heap.size≤g)∧StTy w' g) w' p c size bs' used' upto' own' es clock:=
 have k:∀g,p.has g→w'.heap[g]?=w.heap[g]?:=fun g hg=>hof.same g (h.hlt g hg) (fun hF=>h.sep g hF hg)
 ⟨(k _ (.inl rfl)).trans h.ag,hst.tight,⟨(k _ (.inr (.inl rfl))).trans h.go.gs,h.go.bk.keep (fun g hg=>k g (by rcases hg with rfl | rfl | rfl<;>simp[AgP.has])),h.go.ok,h.go.len,h.go.n8⟩,
  h.dt.keep hof.size (fun g hg=>k g (by rcases hg with rfl | rfl | rfl<;>simp[AgP.has])),fun g hg hp=>hg.1.elim (fun hF=>h.sep g hF hp) (fun hl=>absurd (h.hlt g hp) (by omega)),fun g hg=>hg.2,h.ok,h.ne,h.sm⟩
theorem AgAt.booked {Fs:Nat→Prop} {w w':World} {p:AgP} {c:Cf} {size:Int} {bs:List Int} {used upto:Int} {own es:List Pl.Ev} {clock:Int} (h:AgAt Fs w p c size bs used upto own es clock) {e:Pl.Ev} {cl:Int} (hof:Off (fun x=>x=p.b∨x=p.ms∨x=p.mh) w w') (hbk:BkC w' p.b p.ms p.mh (seenL (es++[e])) (heldL (es++[e])) cl) (he:e.Ok) (hl:es.length+1<768):AgAt Fs w' p c size bs used upto own (es++[e]) cl:=
 have hne:∀g,g=p.b∨g=p.ms∨g=p.mh→p.has g:=fun g hg=>by rcases hg with rfl | rfl | rfl<;>simp[AgP.has]
 have hT:p.T≠p.b∧p.T≠p.ms∧p.T≠p.mh:=⟨h.ne.2.2.1,h.ne.2.2.2.1,h.ne.2.2.2.2⟩
 ⟨(h.go.calm hof h.ag (by decide)).trans h.ag,h.st.keep (fun g hg=>hof.same g (h.lt g hg) (fun e'=>h.sep g hg (hne g e'))),⟨(h.go.calm hof h.go.gs (by decide)).trans h.go.gs,hbk,fun x hx=>by
   rcases List.mem_append.1 hx with h1 | h1
   ·exact h.go.ok x h1
   ·cases List.mem_singleton.1 h1;exact he,by rw[List.length_append];exact hl,h.go.n8⟩,
  h.dt.keep hof.size (fun g hg=>hof.same g (h.hlt g (by rcases hg with rfl | rfl | rfl<;>simp[AgP.has])) (fun e'=>by
   rcases hg with rfl | rfl | rfl
   ·rcases e' with e' | e' | e'
    ·have h1:=h.dt.ms;rw[e',h.go.bk.cells]at h1;exact zI (by decide) h1
    ·exact h.go.bk.seen.cells_ne h.dt.ms e'
    ·exact h.go.bk.held.cells_ne h.dt.ms e'
   ·rcases e' with e' | e' | e'
    ·exact hT.1 e'
    ·exact hT.2.1 e'
    ·exact hT.2.2 e'
   ·obtain⟨z,hz⟩:=h.dt.sm
    rcases e' with e' | e' | e'
    ·rw[e',h.go.bk.cells]at hz;cases hz
    ·exact h.sm.1 e'
    ·exact h.sm.2 e')),h.sep,fun g hg=>(h.ty g hg).keep (hof.same g (h.lt g hg) (fun e'=>h.sep g hg (hne g e'))),h.ok,h.ne,h.sm⟩
theorem next_any (F:Nat→Prop) (s':Nat) (size:Int) (bs:List Int) (u m:Nat) (inc:Int) (es:List Pl.Ev) (w:World) (h:StAt F w s' size bs u m inc es) (hin:∀g,F g→g<w.heap.size) (hu:u≤m∧m≤96∧u<96) (hl:(bs.length:Int)≤size) (hs':size≤16384) :
  Calls prog 306 #[Qp s'] w fun r w'=>(r=.returned (.tuple (Qi 0 7))∧Below w.heap.size w w'∧size<bs.length+200)∨∃bs' m',r=.returned (.tuple (Qi ((u:Int)+1) 0))∧StAt (fun g=>F g∨w.heap.size≤g) w' s' size bs' ((u+1:Nat):Int) ((m':Nat):Int) inc es∧Off F w w'∧(u+1≤m'∧m'≤96)∧(bs'.length:Int)≤size∧bs'.length≤bs.length+200:=by
 have hfl:=Pl.frame_len (1::Pl.vint (min (m+8) 96)) (by have:=Pl.vint_len6 (n:=min (m+8) 96) (by omega);rw[List.length_cons];omega)
 have hfv:=Pl.vint_len6 (n:=min (m+8) 96) (by omega)
 rw[List.length_cons]at hfl
 have e1:((u+1:Nat):Int)=(u:Int)+1:=by omega
 rw[e1]
 by_cases hlt:u<m
 ·refine(next_old F s' size bs u m inc es w h (by omega) (by omega) (by omega)).mono ?_
  rintro r w' ⟨rfl,h1,h2⟩
  exact .inr ⟨bs,m,rfl,h1.mono (fun g hg=>.inl hg),h2,by omega,hl,by omega⟩
 ·obtain rfl:m=u:=by omega
  by_cases hf:(bs.length:Int)+(Pl.frame (1::Pl.vint (min (m+8) 96))).length≤size
  ·refine(next_new F s' size bs m (min (m+8) 96) inc es w h hin hu.2.2 rfl (by omega) (by omega) hs' hf).mono ?_
   rintro r w' ⟨rfl,h1,h2⟩
   exact .inr ⟨_,min (m+8) 96,rfl,h1,h2,by omega,by rw[List.length_append];omega,by rw[List.length_append];omega⟩
  ·refine(next_room F s' size bs m (min (m+8) 96) inc es w h hin hu.2.2 rfl (by omega) (by omega) hs' (by omega)).mono ?_
   rintro r w' ⟨rfl,h1⟩
   exact .inl ⟨rfl,h1,by omega⟩
theorem vG (Fs:Nat→Prop) (p:AgP) (c:Cf) (size:Int) (bs:List Int) (u m:Nat) (es:List Pl.Ev) (clock:Int) (own:List Pl.Ev) (used upto:Int) (w:World) (h:AgAt Fs w p c size bs used upto own es clock):Calls prog 44 #[Qp p.a] w fun r w'=>r=.returned (Qp p.b)∧w=w':=by
 have x10:=cc 10 h.ag
 have y3:=cc 3 h.go.gs
 clear h
 have hbk:Calls prog 102 #[Qp p.g] w fun r w'=>r=.returned (Qp p.b)∧w=w':=by
  go_enter func102,ntmps102
  go_wp2_with fail
  go_ret
  exact⟨rfl,rfl⟩
 have HBK:=zA hbk
 clear hbk
 go_enter func44,ntmps44
 go_wp2_with fail
 refine HBK.out.mono ?_
 rintro r w' ⟨rfl,rfl⟩
 go_wp2_with fail
 go_ret
 exact⟨rfl,rfl⟩
theorem xR (Fs:Nat→Prop) (p:AgP) (c:Cf) (size:Int) (bs:List Int) (u m:Nat) (es:List Pl.Ev) (clock:Int) (own:List Pl.Ev) (used upto:Int) (w:World) (h:AgAt Fs w p c size bs used upto own es clock):Calls prog 47 #[Qp p.a] w fun r w'=>r=.returned (.tuple #[])∧w=w':=by
 have x14:=cc 14 h.ag
 clear h
 go_enter func47,ntmps47
 go_wp2_with fail
 exact yD results47 ⟨rfl,rfl⟩
theorem anumber_ok (Fs:Nat→Prop) (p:AgP) (c:Cf) (size:Int) (bs:List Int) (u m:Nat) (es:List Pl.Ev) (clock:Int) (E:Nat) (e:Pl.Ev) (w:World) (h:AgAt Fs w p c size bs u m es es clock) (hu:u≤m∧m≤96∧u<96) (hl:(bs.length:Int)≤size) (hs':size≤16384) (hE:w.heap[E]?=some (.cells e 175 (0,0))) (hF:¬Fs E) (hP:¬p.has E) (hn:e.node=c.n) (hne:∀x∈es,x.at≠(c.n,u+1)) :
  Calls prog 240 #[Qp p.a,Qp E] w fun r w'=>(r=.panicked [{v:=.iface 187 (.agg (Qo 7)),recovered:=false}]∧Below w.heap.size w w'∧size<bs.length+200)∨∃Fs' bs' m',r=.returned (.tuple #[])∧AgAt Fs' w' p c size bs' ((u+1:Nat):Int) ((m':Nat):Int) es es clock∧Off (fun g=>Fs g∨g=E) w w'∧(u+1≤m'∧m'≤96)∧((bs'.length:Int)≤size∧bs'.length≤bs.length+200)∧(∀g,Fs' g→Fs g∨w.heap.size≤g)∧w'.heap[E]?=some (.cells (Qe e.node (((u+1:Nat):Int)) e.time e.kind e.work e.value e.mn e.mx e.goal e.slack e.up e.down e.cool) 175 (0,0)):=by
 rw[hn]at hE
 have HA:=zA (fun (W:World) (hW:Below w.heap.size w W)=>h.below hW)
 have HEW:=zA (fun (W:World) (hW:Below w.heap.size w W)=>zC hE hW)
 have HH:=zA (And.intro hu (And.intro hl (And.intro hs' (And.intro hF (And.intro hne h.ok.n)))))
 have HLT:=zA (And.intro h.lt (show E<w.heap.size from(gsi.1 hE).1))
 have HBK:=zA (vG Fs p c size bs u m es clock es u m w h)
 have HP:=zA hP
 have HN:=zA hn
 clear h hu hl hs' hE hF hn hne hP
 go_enter func240,ntmps240
 go_wp2_with fail
 refine HBK.out.mono ?_
 rintro r w' ⟨rfl,rfl⟩
 go_wp2_with fail
 refine(tX p.g p.o p.b p.ms p.mh c.n c.mtu es clock w (HA.out w (Below.refl _ _)).go).mono ?_
 rintro r w1 ⟨O,U,M,ao,cap,rfl,hv,hO,hb⟩
 have b2:=bn w1 (.cells (Qu U ao M.length cap) 60)
 have HB2:=zA (hb.trans (b2.mono hb.size))
 have HY:=zA (heap_alloc_new w1 (.cells (Qu U ao M.length cap) 60))
 have HV:=zA (hv.below b2)
 have HO:=zA hO
 have HYG:=zA hb.size
 have hag:=(HA.out _ HB2.out).ag
 have x9:=cc 9 hag
 clear hv hO hb b2 hag HBK
 go_wp2_with (refine zJ rfl 60 (.tmp 4) (.tmp 7) (Qv 0 0 0 0 0 0 0 0) (Qu U ao M.length cap) rfl rfl _ rfl rfl rfl (by kernel_rfl) rfl (by kernel_rfl) rfl ?_)
 refine wp_loop_rounds 1 ?_
 rw[rounds_succ]
 go_wp2_with fail
 clear x9
 generalize w1.alloc (.cells (Qu U ao M.length cap) 60)=w2 at *
 refine(next_any Fs p.s size bs u m 1 es w2 (HA.out w2 HB2.out).st (HA.out w2 HB2.out).lt HH.out.1 HH.out.2.1 HH.out.2.2.1).mono ?_
 rintro r w3 (⟨rfl,hb,hfu⟩ | ⟨bs',m',rfl,hst,hof,hmm,hbl⟩)
 ·have HB3:=zA (HB2.out.trans (hb.mono HB2.out.size))
  have HFU:=zA hfu
  clear hb hfu
  go_wp2_with fail
  refine(tY _ 7 (by decide) _).mono ?_
  rintro r w4 ⟨rfl,rfl⟩
  go_wp2_with fail
  exact zW rfl (.inl ⟨rfl,HB3.out,HFU.out⟩)
 ·have hA3:=(HA.out w2 HB2.out).restore hof hst
  have hE3:=(hof.same E (Nat.lt_of_lt_of_le HLT.out.2 HB2.out.size) HH.out.2.2.2.1).trans (HEW.out w2 HB2.out)
  have HY3:=zA ((hof.same w1.heap.size (gsi.1 HY.out).1 (fun hF=>by have:=HLT.out.1 _ hF;have:=HYG.out;omega)).trans HY.out)
  have HM:=zA (And.intro hmm hbl)
  have fz:=zB hE3 1
  have yz:=cc 1 hE3
  have HE3:=zA hE3
  have HA3:=zA hA3
  have HO3:=zA (show Off (fun g=>Fs g∨g=E) w w3 from(Off.of_below HB2.out).trans (hof.mono (fun g _ h=>.inl h)))
  have HV3:=zA (HV.out.keep (w':=w3) (fun g cs fr hg=>hof.same g (gsi.1 hg).1 (fun hF=>by
   obtain⟨cs',t,fr',h1,h2⟩:=(HA.out w2 HB2.out).ty g hF
   rw[hg]at h1;rcases h2 with rfl | rfl | rfl | rfl<;>exact zI (by decide) h1)))
  clear hst hof hA3 hE3 hmm hbl
  go_wp2_with fail
  refine(sR _ _).mono ?_
  rintro r w4 ⟨rfl,rfl⟩
  have ho4:Off (fun x=>x=E) w3 (w3.setCell ⟨E,1,none⟩ (.int .i64 ((u:Int)+1))):=(Off.refl (fun x=>x=E) w3).set (a:=⟨E,1,none⟩) (.inl rfl) _
  have hE4:(w3.setCell ⟨E,1,none⟩ (.int .i64 ((u:Int)+1))).heap[E]?=some (.cells (Qe ((c.n:Int)) (((u:Int)+1)) e.time e.kind e.work e.value e.mn e.mx e.goal e.slack e.up e.down e.cool) 175 (0,0)):=by have h:=zG (j:=1) HE3.out (.int .i64 ((u:Int)+1));simpa using h
  have HE4:=zA hE4
  have HA4:=zA (HA3.out.keep ho4.size (fun g hg=>ho4.same g (hg.elim (HA3.out.lt g) (HA3.out.hlt g)) (fun e'=>by
   have e'':g=E:=e'
   rw[e'']at hg
   exact hg.elim (fun h=>h.1.elim HH.out.2.2.2.1 (fun h'=>by have:=HLT.out.2;have:=HB2.out.size;omega)) HP.out)))
  have HO4:=zA (HO3.out.set (a:=⟨E,1,none⟩) (.inl (.inr rfl)) (.int .i64 ((u:Int)+1)))
  have hy4:(w3.setCell ⟨E,1,none⟩ (.int .i64 ((u:Int)+1))).heap[w1.heap.size]?=some (.cells (Qu U ao M.length cap) 60 (0,0)):=(ho4.same _ (gsi.1 HY3.out).1 (fun e'=>by have e'':w1.heap.size=E:=e';have:=HLT.out.2;have:=HYG.out;omega)).trans HY3.out
  have HY4:=zA hy4
  have HV4:=zA (HV3.out.keep (w':=w3.setCell ⟨E,1,none⟩ (.int .i64 ((u:Int)+1))) (fun g cs fr hg=>ho4.same g (gsi.1 hg).1 (fun e'=>by have e'':g=E:=e';rw[e'',HE3.out]at hg;exact zI (by decide) hg)))
  have HS3:=zA (And.intro ho4.size HB2.out.size)
  clear ho4 hE4 hy4
  go_wp2_with fail
  clear fz yz HE3 HA3 HO3 HY3 HV3
  generalize w3.setCell ⟨E,1,none⟩ (.int .i64 ((u:Int)+1))=w4 at *
  refine zD (fun W'=>W'.heap[w1.heap.size]?=some (.cells (Qu U ao M.length cap) 60 (0,0))∧W'.heap[E]?=some (.cells (Qe ((c.n:Int)) (((u:Int)+1)) e.time e.kind e.work e.value e.mn e.mx e.goal e.slack e.up e.down e.cool) 175 (0,0))) 99 (by kernel_rfl) ⟨HY4.out,HE4.out⟩ (fun rV=>?_)
  refine tl 0 20 rfl 60 (.tmp 4) w1.heap.size rfl rfl (fun wS hSw=>hSw.1) underlying60 ?_
  refine tkp 1 21 rfl ?_
  refine tkp 2 22 rfl ?_
  refine tkp 3 23 rfl ?_
  refine tk 4 24 rfl (by intro wS hSw;obtain⟨x,y⟩:=id hSw;have p0:=cc 0 y;have p1:=cc 1 y;clear hSw;go_simp;(try with_reducible rfl)) ?_
  refine t1 5 rfl (fun K hK=>?_)
  go_simp
  have hO0:O c.n (u+1)=false:=by
   cases ho:O c.n (u+1)with
   | false=>rfl
   | true=>
    obtain⟨x,hx,e'⟩:=(HO.out c.n (u+1)).1 ho
    exact absurd e' (HH.out.2.2.2.2.1 x hx)
  have hh:=has_ok (.agg (Qu U ao M.length cap)) c.n (u+1) O U M w4.drew (HV4.out.below (Below.refl _ _).drew) HH.out.2.2.2.2.2 (by have:=HH.out.1;omega)
  rw[hO0]at hh
  refine hh.mono ?_
  rintro r w5 ⟨rfl,hb⟩
  have hbw:=(Below.refl w4.heap.size w4).drew.trans hb
  have HB5:=zA hbw
  have hY5:=And.intro (zC HY4.out hbw) (zC HE4.out hbw)
  clear hh hO0 hb hbw rV
  refine hK.out _ _ (fun _=>hY5) (fun _=>?_)
  clear hK K
  try simp only[pt,List.set]
  have rV:=hY5
  refine tkp 6 26 rfl ?_
  refine wd ?_
  clear rV
  go_wp2_with fail
  refine bodyPost_ret (v:=.tuple #[]) (results_none results240 _ _ _) rfl (.inr ⟨_,bs',m',rfl,HA4.out.below HB5.out,HO4.out.trans (Off.of_below HB5.out),HM.out.1,HM.out.2,fun g hg=>hg.1.imp id (fun h=>Nat.le_trans HB2.out.size h),?_⟩)
  rw[HN.out]
  exact hY5.2
theorem bclock_ok (b ms mh:Nat) (l l':List ((Nat×Nat)×Value)) (clock:Int) (w:World) (h:BkC w b ms mh l l' clock):Calls prog 308 #[Qp b] w fun r w'=>r=.returned (.int .i64 clock)∧w=w':=by
 have x2:=cc 2 h.cells
 clear h
 go_enter func308,ntmps308
 go_wp2_with fail
 go_ret
 exact⟨rfl,rfl⟩
theorem aclock_ok (Fs:Nat→Prop) (p:AgP) (c:Cf) (size:Int) (bs:List Int) (u m:Nat) (es:List Pl.Ev) (clock:Int) (E:Nat) (e:Pl.Ev) (w:World) (h:AgAt Fs w p c size bs u m es es clock) (hk:0≤clock∧clock≤1000) (hE:w.heap[E]?=some (.cells e 175 (0,0))) (hF:¬Fs E) (hP:¬p.has E) :
  Calls prog 241 #[Qp p.a,Qp E] w fun r w'=>r=.returned (.tuple #[])∧AgAt Fs w' p c size bs u m es es clock∧Off (fun g=>g=E) w w'∧w'.heap[E]?=some (.cells (Qe e.node e.seq (clock+1) e.kind e.work e.value e.mn e.mx e.goal e.slack e.up e.down e.cool) 175 (0,0)):=by
 have hadd:Pl.add clock 1=clock+1:=by unfold Pl.add Pl.clamp Pl.within;repeat' split<;>omega
 have HBK:=zA (vG Fs p c size bs u m es clock es u m w h)
 have HCL:=zA (bclock_ok _ _ _ _ _ _ w h.go.bk)
 have HAD:=zA (add_any clock 1 w)
 rw[hadd]at HAD
 have HE:=zA hE
 have HG:=zA (fun (W:World) (hW:Off (fun g=>g=E) w W)=>h.keep hW.size (fun g hg=>hW.same g (hg.elim (h.lt g) (h.hlt g)) (fun e'=>by have e'':g=E:=e';rw[e'']at hg;exact hg.elim hF hP)))
 clear h hk hE hF hP hadd
 go_enter func241,ntmps241
 go_wp2_with fail
 refine HBK.out.mono ?_
 rintro r w' ⟨rfl,rfl⟩
 go_wp2_with fail
 refine HCL.out.mono ?_
 rintro r w' ⟨rfl,rfl⟩
 go_wp2_with fail
 refine HAD.out.mono ?_
 rintro r w1 ⟨rfl,hb⟩
 have hE1:=zC HE.out hb
 have fz:=zB hE1 2
 have yz:=cc 2 hE1
 have HO2:=zA ((Off.of_below (F:=fun g=>g=E) hb).set (a:=⟨E,2,none⟩) (.inl rfl) (.int .i64 (clock+1)))
 have HE2:=zA (show(w1.setCell ⟨E,2,none⟩ (.int .i64 (clock+1))).heap[E]?=some (.cells (Qe e.node e.seq (clock+1) e.kind e.work e.value e.mn e.mx e.goal e.slack e.up e.down e.cool) 175 (0,0)) by have h:=zG (j:=2) hE1 (.int .i64 (clock+1));simpa using h)
 clear hb hE1
 go_wp2_with fail
 exact yD results241 ⟨rfl,HG.out _ HO2.out,HO2.out,HE2.out⟩
theorem akeep_ok (Fs:Nat→Prop) (p:AgP) (c:Cf) (size:Int) (bs:List Int) (u m:Nat) (es:List Pl.Ev) (clock:Int) (E:Nat) (e:Pl.Ev) (w:World) (h:AgAt Fs w p c size bs u m es es clock) (hl:(bs.length:Int)≤size) (hs':size≤16384) (hE:w.heap[E]?=some (.cells e 175 (0,0))) (hF:¬Fs E) (he:e.Ok) (hne:∀x∈es,(x.node == e.node&&x.seq == e.seq)=false) :
  Calls prog 242 #[Qp p.a,Qp E] w fun r w'=>(r=.panicked [{v:=.iface 187 (.agg (Qo 7)),recovered:=false}]∧Below w.heap.size w w'∧size<bs.length+200)∨∃Fs' bs',r=.returned (.tuple #[])∧AgAt Fs' w' p c size bs' u m (es++[e]) es clock∧Off Fs w w'∧((bs'.length:Int)≤size∧bs'.length≤bs.length+200)∧(∀g,Fs' g→Fs g∨w.heap.size≤g):=by
 have HK:Hid (∀W,Below w.heap.size w W→Calls prog 309 #[Qp p.s,evv e] W fun r w'=>(r=.returned (.int .i64 7)∧Below W.heap.size W w'∧size<bs.length+200)∨∃bs',r=.returned (.int .i64 0)∧StAt (fun g=>Fs g∨W.heap.size≤g) w' p.s size bs' u m 1 (es++[e])∧Off Fs W w'∧((bs'.length:Int)≤size∧bs'.length≤bs.length+200)):=zA (fun W hW=>by
  have hfv:=Pl.vints_len e.nums he.small
  have hfn:=he.len
  have hfl:=Pl.frame_len (3::Pl.vints e.nums) (by rw[List.length_cons];omega)
  rw[List.length_cons]at hfl
  have hA:=h.below hW
  have hlen:=h.go.len
  by_cases hf:(bs.length:Int)+(Pl.frame (3::Pl.vints e.nums)).length≤size
  ·refine(keep_ok Fs p.s size bs u m 1 es e W hA.st hA.lt (by omega) (by omega) hs' he hne (by omega) hf).mono ?_
   rintro r w' ⟨rfl,h1,h2⟩
   exact .inr ⟨_,rfl,h1,h2,by rw[List.length_append];omega,by rw[List.length_append];omega⟩
  ·refine(keep_full Fs p.s size bs u m 1 es e W hA.st hA.lt (by omega) (by omega) hs' he hne (by omega) (by omega)).mono ?_
   rintro r w' ⟨rfl,h1⟩
   exact .inl ⟨rfl,h1,by omega⟩)
 have HA:=zA (fun (W:World) (hW:Below w.heap.size w W)=>h.below hW)
 have HAG:=zA h.ag
 have HE:=zA hE
 have HF:=zA hF
 clear h hl hs' hE hF he hne
 go_enter func242,ntmps242
 go_wp2_with fail
 refine zD (fun W'=>W'.heap[p.a]?=some (.cells #[.int .i64 c.n,.int .i64 c.mtu,.int .i64 c.win,.int .i64 c.kp,.int .u64 c.salt,.int .u64 c.seed,.int .i64 c.c0,.int .i64 c.c1,.int .i64 c.c2,Qp p.s,Qp p.g,Qp p.D,Qp p.A,.int .i64 0,.bool false] 108 (0,0))∧W'.heap[E]?=some (.cells e 175 (0,0))) 99 (by kernel_rfl) ⟨HAG.out,HE.out⟩ (fun rV=>?_)
 refine tkp 0 4 rfl ?_
 refine tkp 1 5 rfl ?_
 refine tkp 2 6 rfl ?_
 refine tk 3 7 rfl (by intro wS hSw;obtain⟨x,y⟩:=id hSw;have q9:=cc 9 x;clear hSw;go_simp;(try with_reducible rfl)) ?_
 refine tkp 4 8 rfl ?_
 refine tkp 5 9 rfl ?_
 refine tl 6 10 rfl 175 (.tmp 9) E rfl rfl (fun wS hSw=>hSw.2) underlying175 ?_
 refine t1 7 rfl (fun K hK=>?_)
 go_simp
 refine(HK.out w.drew (Below.refl _ _).drew).mono ?_
 rintro r w1 (⟨rfl,hb,hfu⟩ | ⟨bs',rfl,hst,hof,hbl⟩)
 ·have hbw:=(Below.refl w.heap.size w).drew.trans hb
  have hh:=And.intro (zC HAG.out hbw) (zC HE.out hbw)
  have HB:=zA hbw
  have HFU:=zA hfu
  clear hb hbw hfu rV
  refine hK.out _ _ (fun _=>hh) (fun _=>?_)
  clear hK K
  try simp only[pt,List.set]
  have rV:=hh
  refine t1 8 rfl (fun K hK=>?_)
  go_simp
  refine(sX 7 (by decide) w1).mono ?_
  rintro r w2 ⟨rfl,rfl⟩
  exact zW rfl (.inl ⟨rfl,HB.out,HFU.out⟩)
 ·have hA1:=(HA.out w.drew (Below.refl _ _).drew).restore hof hst
  have hE1:=(hof.same E (gsi.1 HE.out).1 HF.out).trans HE.out
  have hh:=And.intro hA1.ag hE1
  have HZ:=zA (And.intro hA1 (And.intro ((Off.of_below (F:=Fs) (Below.refl w.heap.size w).drew).trans hof) hbl))
  clear hst hof hbl rV hA1 hE1
  refine hK.out _ _ (fun _=>hh) (fun _=>?_)
  clear hK K
  try simp only[pt,List.set]
  have rV:=hh
  refine t1 8 rfl (fun K hK=>?_)
  go_simp
  refine(yO w1).mono ?_
  rintro r w2 ⟨rfl,rfl⟩
  refine hK.out _ _ (fun _=>hh) (fun _=>?_)
  clear hK K
  try simp only[pt,List.set]
  refine wd ?_
  clear rV hh
  go_wp2_with fail
  exact yD results242 (.inr ⟨_,bs',rfl,HZ.out.1,HZ.out.2.1,HZ.out.2.2,fun g hg=>hg.1⟩)
end
end Go.Proofs.YtodlmbfbfaofcaaGreat
