/- TopPolicies, part 36. -/
import Derived.Test.YtodlmbfbfaofcaaGreatM35
open Go.Proofs.Tryz
namespace Go.Proofs.YtodlmbfbfaofcaaGreat
set_option linter.unusedVariables false
set_option linter.unusedSimpArgs false
set_option maxRecDepth 100000
set_option maxHeartbeats 4000000
section
open Go.RowKit Rw Rh
theorem got48_1 (a:Nat) (c:Cf) (ao:Option Addr) (cap:Nat) (w:World):Calls prog 48 #[.agg (Qrk 1 (a:Int) (c.n:Int) (.slice ao 1 cap)),.int .i64 0] w fun r w'=>r=.returned (.agg (Qrk 1 (a:Int) (c.n:Int) (.slice ao 1 cap)))∧Below w.heap.size w w':=by
 obtain⟨hx,hy,b1⟩:=zU w (.cells (Qrk 1 (a:Int) (c.n:Int) (.slice ao 1 cap)) 115) (.cells Qnn 115)
 have HX:=zA hx
 have HY:=zA hy
 have HZ:=zA (yL hy (Qrk 1 (a:Int) (c.n:Int) (.slice ao 1 cap)))
 have HB:=zA (yF b1 (Nat.le_succ _) (Qrk 1 (a:Int) (c.n:Int) (.slice ao 1 cap)))
 clear hx hy b1
 go_enter func48,ntmps48
 go_wp2_with fail
 refine(yO _).mono ?_
 rintro r w' ⟨rfl,rfl⟩
 go_wp2_with (first
  | refine zI rfl 115 (.tmp 2) w.heap.size (Qrk 1 (a:Int) (c.n:Int) (.slice ao 1 cap)) 115 (0,0) _ rfl rfl HX.out underlying115 rfl lE ?_
  | refine zR rfl 115 (.tmp 4) (.tmp 7) (w.heap.size+1) Qnn (Qrk 1 (a:Int) (c.n:Int) (.slice ao 1 cap)) 115 rfl rfl rfl rfl HY.out lE rfl lE ?_)
 generalize World.setRow _ (w.heap.size+1) (Qrk 1 (a:Int) (c.n:Int) (.slice ao 1 cap))=Z at *
 have m0:=cc 0 HZ.out
 have m1:=cc 1 HZ.out
 have m2:=cc 2 HZ.out
 have m3:=cc 3 HZ.out
 have m4:=cc 4 HZ.out
 have m5:=cc 5 HZ.out
 have m6:=cc 6 HZ.out
 have m7:=cc 7 HZ.out
 have m8:=cc 8 HZ.out
 have m9:=cc 9 HZ.out
 have m10:=cc 10 HZ.out
 have m11:=cc 11 HZ.out
 have m12:=cc 12 HZ.out
 have m13:=cc 13 HZ.out
 have m14:=cc 14 HZ.out
 have m15:=cc 15 HZ.out
 exact bodyPost_ret (v:=.agg (Qrk 1 (a:Int) (c.n:Int) (.slice ao 1 cap))) (by simp[results,results48,go_sem,m0,m1,m2,m3,m4,m5,m6,m7,m8,m9,m10,m11,m12,m13,m14,m15]) rfl ⟨rfl,HB.out⟩
theorem got48_4 (a q:Nat) (c:Cf) (U:Nat→Nat) (ao:Option Addr) (n cap:Nat) (w:World):Calls prog 48 #[.agg (Qsu 4 (a:Int) (c.n:Int) (q:Int) U (.slice ao n cap)),.int .i64 0] w fun r w'=>r=.returned (.agg (Qsu 4 (a:Int) (c.n:Int) (q:Int) U (.slice ao n cap)))∧Below w.heap.size w w':=by
 obtain⟨hx,hy,b1⟩:=zU w (.cells (Qsu 4 (a:Int) (c.n:Int) (q:Int) U (.slice ao n cap)) 115) (.cells Qnn 115)
 have HX:=zA hx
 have HY:=zA hy
 have HZ:=zA (yL hy (Qsu 4 (a:Int) (c.n:Int) (q:Int) U (.slice ao n cap)))
 have HB:=zA (yF b1 (Nat.le_succ _) (Qsu 4 (a:Int) (c.n:Int) (q:Int) U (.slice ao n cap)))
 clear hx hy b1
 go_enter func48,ntmps48
 go_wp2_with fail
 refine(yO _).mono ?_
 rintro r w' ⟨rfl,rfl⟩
 go_wp2_with (first
  | refine zI rfl 115 (.tmp 2) w.heap.size (Qsu 4 (a:Int) (c.n:Int) (q:Int) U (.slice ao n cap)) 115 (0,0) _ rfl rfl HX.out underlying115 rfl lE ?_
  | refine zR rfl 115 (.tmp 4) (.tmp 7) (w.heap.size+1) Qnn (Qsu 4 (a:Int) (c.n:Int) (q:Int) U (.slice ao n cap)) 115 rfl rfl rfl rfl HY.out lE rfl lE ?_)
 generalize World.setRow _ (w.heap.size+1) (Qsu 4 (a:Int) (c.n:Int) (q:Int) U (.slice ao n cap))=Z at *
 have m0:=cc 0 HZ.out
 have m1:=cc 1 HZ.out
 have m2:=cc 2 HZ.out
 have m3:=cc 3 HZ.out
 have m4:=cc 4 HZ.out
 have m5:=cc 5 HZ.out
 have m6:=cc 6 HZ.out
 have m7:=cc 7 HZ.out
 have m8:=cc 8 HZ.out
 have m9:=cc 9 HZ.out
 have m10:=cc 10 HZ.out
 have m11:=cc 11 HZ.out
 have m12:=cc 12 HZ.out
 have m13:=cc 13 HZ.out
 have m14:=cc 14 HZ.out
 have m15:=cc 15 HZ.out
 exact bodyPost_ret (v:=.agg (Qsu 4 (a:Int) (c.n:Int) (q:Int) U (.slice ao n cap))) (by simp[results,results48,go_sem,m0,m1,m2,m3,m4,m5,m6,m7,m8,m9,m10,m11,m12,m13,m14,m15]) rfl ⟨rfl,HB.out⟩
theorem got48_5 (a:Nat) (c:Cf) (ao:Option Addr) (n cap:Nat) (w:World):Calls prog 48 #[.agg (Qtk 5 (a:Int) (c.n:Int) (.slice ao n cap)),.int .i64 0] w fun r w'=>r=.returned (.agg (Qtk 5 (a:Int) (c.n:Int) (.slice ao n cap)))∧Below w.heap.size w w':=by
 obtain⟨hx,hy,b1⟩:=zU w (.cells (Qtk 5 (a:Int) (c.n:Int) (.slice ao n cap)) 115) (.cells Qnn 115)
 have HX:=zA hx
 have HY:=zA hy
 have HZ:=zA (yL hy (Qtk 5 (a:Int) (c.n:Int) (.slice ao n cap)))
 have HB:=zA (yF b1 (Nat.le_succ _) (Qtk 5 (a:Int) (c.n:Int) (.slice ao n cap)))
 clear hx hy b1
 go_enter func48,ntmps48
 go_wp2_with fail
 refine(yO _).mono ?_
 rintro r w' ⟨rfl,rfl⟩
 go_wp2_with (first
  | refine zI rfl 115 (.tmp 2) w.heap.size (Qtk 5 (a:Int) (c.n:Int) (.slice ao n cap)) 115 (0,0) _ rfl rfl HX.out underlying115 rfl lE ?_
  | refine zR rfl 115 (.tmp 4) (.tmp 7) (w.heap.size+1) Qnn (Qtk 5 (a:Int) (c.n:Int) (.slice ao n cap)) 115 rfl rfl rfl rfl HY.out lE rfl lE ?_)
 generalize World.setRow _ (w.heap.size+1) (Qtk 5 (a:Int) (c.n:Int) (.slice ao n cap))=Z at *
 have m0:=cc 0 HZ.out
 have m1:=cc 1 HZ.out
 have m2:=cc 2 HZ.out
 have m3:=cc 3 HZ.out
 have m4:=cc 4 HZ.out
 have m5:=cc 5 HZ.out
 have m6:=cc 6 HZ.out
 have m7:=cc 7 HZ.out
 have m8:=cc 8 HZ.out
 have m9:=cc 9 HZ.out
 have m10:=cc 10 HZ.out
 have m11:=cc 11 HZ.out
 have m12:=cc 12 HZ.out
 have m13:=cc 13 HZ.out
 have m14:=cc 14 HZ.out
 have m15:=cc 15 HZ.out
 exact bodyPost_ret (v:=.agg (Qtk 5 (a:Int) (c.n:Int) (.slice ao n cap))) (by simp[results,results48,go_sem,m0,m1,m2,m3,m4,m5,m6,m7,m8,m9,m10,m11,m12,m13,m14,m15]) rfl ⟨rfl,HB.out⟩
theorem app_nil1 (a:Addr) (ty:TypeId) (w:World):(Builtin.append_ #[62,62] ty #[.slice (some a) 1 1,.slice none 0 0]).run prog w=.ok (.slice (some a) 1 1) w:=by kernel_rfl
theorem app_nil0 (ty:TypeId) (w:World):(Builtin.append_ #[62,62] ty #[.slice none 0 0,.slice none 0 0]).run prog w=.ok (.slice none 0 0) w:=by kernel_rfl
theorem agreet_ok (Fs:Nat→Prop) (p:AgP) (c:Cf) (size:Int) (bs:List Int) (used upto:Int) (own:List Pl.Ev) (sd:List (Nat×Nat)) (es:List Pl.Ev) (clock:Int) (to:Nat) (w:World) (h:AgAt Fs w p c size bs used upto own sd es clock) (ht:to<8) (hne:to≠c.n) :
  Calls prog 90 #[Qp p.a,.int .i64 to] w fun r w'=>∃v O U M ao cap,r=.returned (.tuple #[v,.int .i64 0])∧OwnR kMsg w.heap.size w' v [dgq c.n to 0 U (ao,M.length,cap)]∧SetV w' (.agg (Qu U ao M.length cap)) O U M∧Holds O sd∧Below w.heap.size w w':=by
 have b1:=bn w (.cells (Qo 0) 41)
 have HX:=zA (heap_alloc_new w (.cells (Qo 0) 41))
 have HB:=zA b1
 have HTH:=zA (xK Fs p c size bs 0 0 sd es clock own used upto _ (h.below b1))
 have hag:=(h.below b1).ag
 have x0:=cc 0 hag
 have x10:=cc 10 hag
 have HG:=zA (fun (W:World) (hW:Below w.heap.size w W)=>(h.below hW).go)
 have HT:=zA (And.intro ht hne)
 have e0:Pl.inside (to:Int) 0 7=true:=zL lD lD
 have e1:((to:Int) == (c.n:Int))=false:=by simp;omega
 have HE0:=zA e0
 clear b1 h hag ht hne e0
 go_enter_defers func90,ntmps90
 go_wp2_with fail
 refine HTH.out.mono ?_
 rintro r w' ⟨rfl,rfl⟩
 go_wp2_with fail
 refine(yZ _ _ _ _).mono ?_
 rintro r w' ⟨rfl,rfl⟩
 rw[HE0.out]
 have b2:=(Below.refl (w.alloc (.cells (Qo 0) 41)).heap.size (w.alloc (.cells (Qo 0) 41))).alloc (Nat.le_refl _) (.cells (Qo (to:Int)) 3)
 have HR:=zA (show RowC kInt ((w.alloc (.cells (Qo 0) 41)).alloc (.cells (Qo (to:Int)) 3)) (.slice (some ⟨(w.alloc (.cells (Qo 0) 41)).heap.size,0,none⟩) 1 1) [(to:Int)]from yK kInt (w.alloc (.cells (Qo 0) 41)) [(to:Int)] (Qo (to:Int)) 1 rfl (by simp[Rk.encs,kInt]))
 have HB2:=zA (HB.out.trans (b2.mono HB.out.size))
 have HX2:=zA (zC HX.out b2)
 rw[zG]at HR
 clear b2
 go_wp2_with fail
 clear x0 x10 e1 HTH
 generalize (w.alloc (.cells (Qo 0) 41)).alloc (.cells (Qo (to:Int)) 3)=w2 at *
 refine(tick_ok p.g p.o p.b p.ms p.mh c.n c.mtu to _ sd es clock w2 (HG.out w2 HB2.out) HR.out HT.out.1 HT.out.2).mono ?_
 rintro r w3 ⟨v,O,U,M,ao,cap,rfl,qC,hv,hO,hb⟩
 have hx3:=zC HX2.out hb
 have fx:=zB hx3 0
 have cz:=cc 0 hx3
 have hid:w3.setCell ⟨w.heap.size,0,none⟩ (.int .i64 0)=w3:=zN hx3 (j:=0) (v:=.int .i64 0) rfl
 have HZ:=zA (And.intro (qC.mono HB2.out.size) (And.intro hv (And.intro hO (HB2.out.trans (hb.mono HB2.out.size)))))
 clear qC hv hO hb hx3
 go_wp2_with fail
 refine leaves_cons (f:=46) (args:=#[Qp w.heap.size]) (by simp) (by simp[go_sem]) ?_
 refine(xE _ _).mono ?_
 rintro r u' w'' ⟨rfl,rfl,rfl⟩
 exact yY (v:=.tuple #[v,.int .i64 0]) (by simp[results,results90,go_sem,cz]) ⟨v,O,U,M,ao,cap,rfl,HZ.out⟩
theorem head_4 (r a b q:Nat) (ys:List Int) (w:World) (h:RdAt w r (Pl.vints [4,a,b,0,q]++ys)) (ha:a<8) (hb:b<8) (hq:q≤1) :
  Calls prog 108 #[.agg #[Qp r]] w fun e w'=>e=.returned (.agg (Qnj 4 (a:Int) (b:Int) (q:Int)))∧RdAt w' r ys∧Off (· = r) w w':=by
 have h':RdAt w r (Pl.vint 4++(Pl.vint a++(Pl.vint b++(Pl.vint 0++(Pl.vint q++(ys)))))):=by simpa[Pl.vints,List.append_assoc]using h
 obtain⟨hx,hy,b1⟩:=zU w (.cells #[.pointer (some ⟨r,0,none⟩)] 193) (.cells Qnn 115)
 have HD0:Hid (HdAt w r w.heap.size (w.heap.size+1) Qnn (Pl.vint 4++(Pl.vint a++(Pl.vint b++(Pl.vint 0++(Pl.vint q++(ys)))))) ((w.alloc (.cells #[Qp r] 193)).alloc (.cells Qnn 115))):=zA ⟨h'.below b1,hx,hy,Off.of_below b1,Nat.le_refl _,by omega,by omega,h.lt⟩
 have HA:Hid (a≤1099511627776∧b≤1099511627776∧q≤1099511627776):=zA lD
 clear hx hy b1 h h' ha hb hq
 go_enter func108,ntmps108
 go_wp2_with fail
 generalize (w.alloc (.cells #[Qp r] 193)).alloc (.cells Qnn 115)=W0 at *
 refine(HD0.out.num (n:=4) (by have:=HA.out;omega)).mono ?_
 rintro e W1 ⟨rfl,hd,ho⟩
 have HD1:=zA hd
 have b0:=cc 0 hd.bx
 have m0:=cc 0 hd.ms
 have f0:=zB hd.ms 0
 clear hd ho HD0
 go_wp2_with fail
 have hd2:=HD1.out.set 0 (.int .i64 4)
 simp only[zP]at hd2
 have HD2:=zA hd2
 clear hd2 b0 m0 f0 HD1
 generalize W1.setCell ⟨w.heap.size+1,0,none⟩ (.int .i64 4)=W2 at *
 refine(yM _ _ _ _).mono ?_
 rintro e w' ⟨rfl,rfl⟩
 rw[show Pl.inside 4 1 5=true by decide]
 go_wp2_with fail
 refine(yD rfl).mono ?_
 rintro e w' ⟨rfl,rfl⟩
 go_wp2_with fail
 refine zD (fun W=>W.heap[w.heap.size]?=some (.cells #[Qp r] 193 (0,0))) 99 lE HD2.out.bx (fun qB=>?_)
 refine tk 0 13 rfl lI ?_
 refine tk 2 15 rfl lI ?_
 refine t1 1 rfl (fun K hK=>?_)
 go_simp
 refine((HD2.out.below ((Below.refl _ _).drew)).num (n:=a) (by have:=HA.out;omega)).mono ?_
 rintro e W3 ⟨rfl,hd,ho⟩
 have HD3:=zA hd
 clear hd ho
 refine hK.out _ _ (fun _=>HD3.out.bx) (fun _=>?_)
 clear hK K qB
 try simp only[zP]
 have qB:=HD3.out.bx
 refine tkp 4 17 rfl ?_
 clear qB
 refine t1 3 rfl (fun K hK=>?_)
 go_simp
 refine(HD3.out.num (n:=b) (by have:=HA.out;omega)).mono ?_
 rintro e W4 ⟨rfl,hd,ho⟩
 have HD4:=zA hd
 clear hd ho
 refine hK.out _ _ (fun _=>HD4.out.bx) (fun _=>?_)
 clear hK K
 try simp only[zP]
 have m0:=cc 1 HD4.out.ms
 have f0:=zB HD4.out.ms 1
 refine t1 5 rfl (fun K hK=>?_)
 go_simp
 have hd2:=HD4.out.set 1 (.int .i64 a)
 simp only[zP]at hd2
 have HD5:=zA hd2
 clear hd2 m0 f0 HD4
 generalize W4.setCell ⟨w.heap.size+1,1,none⟩ (.int .i64 a)=W5 at *
 refine hK.out _ _ (fun _=>HD5.out.bx) (fun _=>?_)
 clear hK K
 try simp only[zP]
 have qB:=HD5.out.bx
 refine tkp 6 18 rfl ?_
 clear qB
 have m0:=cc 2 HD5.out.ms
 have f0:=zB HD5.out.ms 2
 refine t1 7 rfl (fun K hK=>?_)
 go_simp
 have hd2:=HD5.out.set 2 (.int .i64 b)
 simp only[zP]at hd2
 have HD6:=zA hd2
 clear hd2 m0 f0 HD5
 generalize W5.setCell ⟨w.heap.size+1,2,none⟩ (.int .i64 b)=W6 at *
 refine hK.out _ _ (fun _=>HD6.out.bx) (fun _=>?_)
 clear hK K
 try simp only[zP]
 refine wd ?_
 have b0:=cc 0 HD6.out.bx
 go_wp2_with fail
 refine(HD6.out.num (n:=0) (by have:=HA.out;omega)).mono ?_
 rintro e W7 ⟨rfl,hd,ho⟩
 have HD7:=zA hd
 clear hd ho b0 HD6
 go_wp2_with fail
 refine(yD rfl).mono ?_
 rintro e w' ⟨rfl,rfl⟩
 go_wp2_with fail
 refine wp_loop_rounds 1 ?_
 rw[rounds_succ]
 have m0:=cc 0 HD7.out.ms
 go_wp2_with fail
 refine(has_4 _).mono ?_
 rintro e W9 ⟨rfl,hb⟩
 have hd:=HD7.out.below hb
 have hd9:=hd.below (bn W9 (.cells Qfc 198))
 have hp:=heap_alloc_new W9 (.cells Qfc 198)
 have HP:=zA hp
 have hlp:w.heap.size+1<W9.heap.size:=(gsi.1 hd.ms).1
 have HLP:=zA hlp
 have HRW:=zA hd.geo.2.2.2
 have HD9:=zA hd9
 have b0:=cc 0 hd9.bx
 clear hd9 hp hb m0 hd hlp HD7
 go_wp2_with fail
 generalize W9.alloc (.cells Qfc 198)=Wa at *
 refine(HD9.out.num (n:=q) (by have:=HA.out;omega)).mono ?_
 rintro e Wb ⟨rfl,hd,ho⟩
 have hp:=(ho.same _ (gsi.1 HP.out).1 (fun e=>by have e':W9.heap.size=r:=e;have:=HLP.out;have:=HRW.out;omega)).trans HP.out
 have p1:=cc 1 hp
 have m3:=cc 3 hd.ms
 have f3:=zB hd.ms 3
 have hd2:=hd.set 3 (.int .i64 q)
 simp only[zP]at hd2
 have HDf:=zA hd2
 have hne:¬W9.heap.size=w.heap.size+1:=by have:=HLP.out;omega
 clear hp hd ho hd2 b0 HD9 HP
 go_wp2_with (first
  | refine zI rfl 115 (.tmp 2) (w.heap.size+1) (Qnj 4 (a:Int) (b:Int) (q:Int)) 115 (0,0) _ rfl rfl HDf.out.ms underlying115 rfl lE ?_
  | refine zR rfl 115 (.tmp 2) (.tmp 56) (w.heap.size+1) (Qnj 4 (a:Int) (b:Int) (q:Int)) (Qnj 4 (a:Int) (b:Int) (q:Int)) 115 rfl rfl rfl rfl HDf.out.ms lE rfl lE ?_)
 have qG:=zA HDf.out.row
 generalize (Wb.setCell ⟨w.heap.size+1,3,none⟩ (.int .i64 q)).setRow (w.heap.size+1) (Qnj 4 (a:Int) (b:Int) (q:Int))=Wz at *
 have m0:=cc 0 qG.out.ms
 have m1:=cc 1 qG.out.ms
 have m2:=cc 2 qG.out.ms
 have m3:=cc 3 qG.out.ms
 have m4:=cc 4 qG.out.ms
 have m5:=cc 5 qG.out.ms
 have m6:=cc 6 qG.out.ms
 have m7:=cc 7 qG.out.ms
 have m8:=cc 8 qG.out.ms
 have m9:=cc 9 qG.out.ms
 have m10:=cc 10 qG.out.ms
 have m11:=cc 11 qG.out.ms
 have m12:=cc 12 qG.out.ms
 have m13:=cc 13 qG.out.ms
 have m14:=cc 14 qG.out.ms
 have m15:=cc 15 qG.out.ms
 exact bodyPost_ret (v:=.agg (Qnj 4 (a:Int) (b:Int) (q:Int))) (by simp[results,results108,go_sem,m0,m1,m2,m3,m4,m5,m6,m7,m8,m9,m10,m11,m12,m13,m14,m15]) rfl ⟨rfl,qG.out.rd,qG.out.off⟩
theorem set8at5 (w:World) (g:Nat) (t:TypeId) (c0 c1 c2 c3 c4 c5 c6 c7 c8 c9 c10 c11 c12 c13 c14 c15 a0 a1 a2 a3 a4 a5 a6 a7:Value) (h:w.heap[g]?=some (.cells #[c0,c1,c2,c3,c4,c5,c6,c7,c8,c9,c10,c11,c12,c13,c14,c15] t (0,0))) :
  (((((((((((((((((w).setCell ⟨g,5,none⟩ (a0))).setCell ⟨g,6,none⟩ (a1))).setCell ⟨g,7,none⟩ (a2))).setCell ⟨g,8,none⟩ (a3))).setCell ⟨g,9,none⟩ (a4))).setCell ⟨g,10,none⟩ (a5))).setCell ⟨g,11,none⟩ (a6))).setCell ⟨g,12,none⟩ (a7))).heap[g]?=some (.cells #[c0,c1,c2,c3,c4,a0,a1,a2,a3,a4,a5,a6,a7,c13,c14,c15] t (0,0))∧(∀k,k≠g→(((((((((((((((((w).setCell ⟨g,5,none⟩ (a0))).setCell ⟨g,6,none⟩ (a1))).setCell ⟨g,7,none⟩ (a2))).setCell ⟨g,8,none⟩ (a3))).setCell ⟨g,9,none⟩ (a4))).setCell ⟨g,10,none⟩ (a5))).setCell ⟨g,11,none⟩ (a6))).setCell ⟨g,12,none⟩ (a7))).heap[k]?=w.heap[k]?)∧∀{B:Nat} {w0:World},Below B w0 w→B≤g→Below B w0 (((((((((((((((((w).setCell ⟨g,5,none⟩ (a0))).setCell ⟨g,6,none⟩ (a1))).setCell ⟨g,7,none⟩ (a2))).setCell ⟨g,8,none⟩ (a3))).setCell ⟨g,9,none⟩ (a4))).setCell ⟨g,10,none⟩ (a5))).setCell ⟨g,11,none⟩ (a6))).setCell ⟨g,12,none⟩ (a7))):=by
 refine⟨?_,fun k hk=>(yB g [a0,a1,a2,a3,a4,a5,a6,a7] 5 w).2.1 k hk,fun hb hg=>xB hb hg 5 [a0,a1,a2,a3,a4,a5,a6,a7]⟩
 have h0:=zF (j:=5) h a0
 simp only[List.setIfInBounds_toArray,List.set_cons_zero,List.set_cons_succ]at h0
 have h1:=zF (j:=6) h0 a1
 simp only[List.setIfInBounds_toArray,List.set_cons_zero,List.set_cons_succ]at h1
 have h2:=zF (j:=7) h1 a2
 simp only[List.setIfInBounds_toArray,List.set_cons_zero,List.set_cons_succ]at h2
 have h3:=zF (j:=8) h2 a3
 simp only[List.setIfInBounds_toArray,List.set_cons_zero,List.set_cons_succ]at h3
 have h4:=zF (j:=9) h3 a4
 simp only[List.setIfInBounds_toArray,List.set_cons_zero,List.set_cons_succ]at h4
 have h5:=zF (j:=10) h4 a5
 simp only[List.setIfInBounds_toArray,List.set_cons_zero,List.set_cons_succ]at h5
 have h6:=zF (j:=11) h5 a6
 simp only[List.setIfInBounds_toArray,List.set_cons_zero,List.set_cons_succ]at h6
 have h7:=zF (j:=12) h6 a7
 simp only[List.setIfInBounds_toArray,List.set_cons_zero,List.set_cons_succ]at h7
 exact h7
theorem mget_4 (v:Value) (a b q:Nat) (O:Nat→Nat→Bool) (U:Nat→Nat) (M:List (Nat×Nat)) (w:World) (h:Bs w v (Pl.frame (Pl.body4 a b q U M))) (ha:a<8) (hb:b<8) (hne:a≠b) (hq:q≤1) (hc:Pl.Closed O U M) (hlen:(Pl.body4 a b q U M).length≤4096) :
  Calls prog 49 #[v] w fun r w'=>∃aov capv,r=.returned (.tuple #[.agg (Qsu 4 (a:Int) (b:Int) (q:Int) U (.slice aov M.length capv)),.int .i64 0])∧SetV w' (Pl.setv U (.slice aov M.length capv)) O U M∧Below w.heap.size w w':=by
 obtain⟨hx,hy,b1⟩:=zU w (.cells Qnn 115) (.cells (Qo 0) 41)
 have hlb:(Pl.body4 a b q U M).length≤4096:=hlen
 have HG:=zA (rV v _ _ (h.below b1) hlb)
 have HX:=zA hx
 have HY:=zA hy
 have HB:=zA b1
 have HLB:=zA hlb
 have HHD:Hid (∀(R:Nat) (W:World),RdAt W R (Pl.body4 a b q U M)→Calls prog 108 #[.agg #[Qp R]] W fun e w'=>e=.returned (.agg (Qnj 4 (a:Int) (b:Int) (q:Int)))∧RdAt w' R (Pl.vints (Pl.nums U M))∧Off (· = R) W w'):=zA (fun R W hr=>head_4 R a b q (Pl.vints (Pl.nums U M)) _ (by simpa[Pl.body4]using hr) lD lD lD)
 have HRT:=zA (fun (W:World) (ao:Option Addr) (cap:Nat) (h:SetV W (Pl.setv U (.slice ao M.length cap)) O U M)=>uL W a b q U ao M.length cap O M h (zL lD lD) (zL lD lD) (zL lD lD) lD)
 have HCL:=zA hc
 have HLB2:=zA (show((Pl.vints (Pl.nums U M))).length≤4096 by have h1:=hlb;unfold Pl.body4 at h1;rw[List.length_append]at h1;omega)
 clear hx hy b1 hlb h ha hb hne hq hc hlen
 go_enter_defers func49,ntmps49
 go_wp2_with fail
 generalize (w.alloc (.cells Qnn 115)).alloc (.cells (Qo 0) 41)=W0 at *
 refine HG.out.mono ?_
 rintro e w1 ⟨v1,v2,rfl,ho1,ho2,hb⟩
 obtain⟨ao2,cap2,rfl⟩:=ho2.form
 have HX1:=zA (zC HX.out hb)
 have HY1:=zA (zC HY.out hb)
 have HB1:=zA (HB.out.trans (hb.mono HB.out.size))
 have HRN:=zA (uU v1 _ w1 ho1.toT.toC (by have:=HLB.out;omega))
 clear ho1 ho2 hb HX HY HB HG HLB
 go_wp2_with fail
 refine(yD rfl).mono ?_
 rintro e w' ⟨rfl,rfl⟩
 go_wp2_with fail
 refine(yD rfl).mono ?_
 rintro e w' ⟨rfl,rfl⟩
 go_wp2_with fail
 refine HRN.out.mono ?_
 rintro e w2 ⟨R,rfl,hR,hr,hb⟩
 have bz:=bn w2 (.cells #[Qp R] 193)
 have hz:=heap_alloc_new w2 (.cells #[Qp R] 193)
 have HX2:=zA (zC (zC HX1.out hb) bz)
 have HY2:=zA (zC (zC HY1.out hb) bz)
 have HB2:=zA (HB1.out.trans ((hb.trans (bz.mono hb.size)).mono HB1.out.size))
 have HR2:=zA (hr.below bz)
 have HZ2:=zA hz
 have HRG:=zA (show w.heap.size≤R from Nat.le_trans HB1.out.size hR)
 have HLT:=zA (show w.heap.size+1<w2.heap.size from(gsi.1 (zC HY1.out hb)).1)
 clear hR hr hb bz hz HX1 HY1 HB1 HRN
 go_wp2_with fail
 generalize w2.alloc (.cells #[Qp R] 193)=Wz at *
 refine(HHD.out R Wz HR2.out).mono ?_
 rintro e w3 ⟨rfl,hr,ho⟩
 have bz:=bn w3 (.cells (Qnj 4 (a:Int) (b:Int) (q:Int)) 115)
 have HX3:=zA (zC (ho.blk HR2.out HX2.out lF) bz)
 have HY3:=zA (zC (ho.blk HR2.out HY2.out lF) bz)
 have hz3:=zC (ho.blk HR2.out HZ2.out lF) bz
 have HZ3:=zA hz3
 have HB3:=zA ((ho.beh HB2.out HRG.out).trans (bz.mono (ho.beh HB2.out HRG.out).size))
 have HR3:=zA (hr.below bz)
 have HGE:=zA (show w.heap.size≤w3.heap.size from(ho.beh HB2.out HRG.out).size)
 have HM3:=zA (heap_alloc_new w3 (.cells (Qnj 4 (a:Int) (b:Int) (q:Int)) 115))
 skip
 clear bz ho hr HX2 HY2 HZ2 HB2 HR2 HHD hz3
 go_wp2_with fail
 generalize w3.alloc (.cells (Qnj 4 (a:Int) (b:Int) (q:Int)) 115)=W4 at *
 refine zD (fun W=>W.heap[w2.heap.size]?=some (.cells #[Qp R] 193 (0,0))) 99 lE HZ3.out (fun qB=>?_)
 refine zX 0 34 rfl ?_
 refine tkq 1 35 rfl lI ?_
 refine zX 2 36 rfl ?_
 refine tkq 3 37 rfl lI ?_
 refine t1 4 rfl (fun K hK=>?_)
 go_simp
 refine(vH R (Pl.vints (Pl.nums U M)) _ (HR3.out.below (Below.refl _ _).drew)).mono ?_
 rintro e w' ⟨rfl,rfl⟩
 refine hK.out _ _ (fun _=>qB) (fun _=>?_)
 clear hK K
 try simp only[zP]
 have HBY:=zA (sK R (Pl.vints (Pl.nums U M)) [] W4.drew (by rw[List.append_nil];exact HR3.out.below (Below.refl _ _).drew) (by have:=HLB2.out;omega))
 clear qB
 refine t1 5 rfl (fun K hK=>?_)
 go_simp
 refine HBY.out.mono ?_
 rintro e w5 ⟨vl,rfl,hol,hr5,ho5⟩
 have qT:Off (· = R) W4 w5:=(Off.of_below (Below.refl _ _).drew).trans ho5
 have hz5:=qT.blk HR3.out HZ3.out lF
 have hm5:=qT.blk HR3.out HM3.out lF
 have HX5:=zA (qT.blk HR3.out HX3.out lF)
 have HY5:=zA (qT.blk HR3.out HY3.out lF)
 have HM5:=zA hm5
 have HB5:=zA (qT.beh HB3.out HRG.out)
 have HLV:=zA hol
 obtain⟨aol,capl,rfl⟩:=hol.form
 refine hK.out _ _ (fun _=>hz5) (fun _=>?_)
 clear hK K
 try simp only[zP]
 have qB:=hz5
 refine zX 6 9 rfl ?_
 refine wd ?_
 clear qB hz5 hol hr5 ho5 qT HBY HR3 HZ3 HX3 HY3 HM3 HB3
 have m0:=cc 0 hm5
 clear hm5
 go_wp2_with fail
 refine(has_4 _).mono ?_
 rintro e w6 ⟨rfl,hb⟩
 have bz:=bn w6 (.cells Qfc 198)
 have HX6:=zA (zC (zC HX5.out hb) bz)
 have HY6:=zA (zC (zC HY5.out hb) bz)
 have HM6:=zA (zC (zC HM5.out hb) bz)
 have HB6:=zA (HB5.out.trans ((hb.trans (bz.mono hb.size)).mono HB5.out.size))
 have HL6:=zA ((HLV.out.below hb).below bz)
 clear bz hb m0 HX5 HY5 HM5 HB5 HLV
 have HGS:=zA (get_set_ok _ O U M _ HCL.out HL6.out.toT.toC)
 go_wp2_with fail
 generalize w6.alloc (.cells Qfc 198)=W6 at *
 refine HGS.out.mono ?_
 rintro e w7 ⟨vs,rfl,⟨ms,rfl,hd,hcl⟩,hb⟩
 obtain⟨aov,capv,rfl,_⟩:=id hd.toC
 have bz:=bn w7 (.cells (Qu U aov M.length capv) 60)
 have HX7:=zA (zC (zC HX6.out hb) bz)
 have HY7:=zA (zC (zC HY6.out hb) bz)
 have HM7:=zA (zC (zC HM6.out hb) bz)
 have HS7:=zA (heap_alloc_new w7 (.cells (Qu U aov M.length capv) 60))
 have HB7:=zA (HB6.out.trans ((hb.trans (bz.mono hb.size)).mono HB6.out.size))
 have HV7:Hid (SetV (w7.alloc (.cells (Qu U aov M.length capv) 60)) (Pl.setv U (.slice aov M.length capv)) O U M):=zA ⟨_,rfl,hd.below bz,hcl⟩
 have HGM:=zA (show w3.heap.size<w7.heap.size from(gsi.1 (zC HM6.out hb)).1)
 clear hd hcl bz hb HX6 HY6 HM6 HB6 HL6 HGS
 go_wp2_with fail
 refine(yD rfl).mono ?_
 rintro e w' ⟨rfl,rfl⟩
 go_wp2_with fail
 generalize w7.alloc (.cells (Qu U aov M.length capv) 60)=W7a at *
 refine zD (fun W=>W.heap[w7.heap.size]?=some (.cells (Qu U aov M.length capv) 60 (0,0))) 99 lE HS7.out (fun qB=>?_)
 refine zX 0 59 rfl ?_
 refine tkq 1 60 rfl (by intro wS hSw;have q0:=cc 0 hSw;have q1:=cc 1 hSw;have q2:=cc 2 hSw;have q3:=cc 3 hSw;have q4:=cc 4 hSw;have q5:=cc 5 hSw;have q6:=cc 6 hSw;have q7:=cc 7 hSw;clear hSw;go_simp;(try with_reducible rfl)) ?_
 refine zX 2 61 rfl ?_
 refine tkq 3 62 rfl (by intro wS hSw;have q8:=cc 8 hSw;clear hSw;go_simp;(try with_reducible rfl)) ?_
 refine zX 4 63 rfl ?_
 have qW:=zA (set8at5 W7a w3.heap.size 115 (.int .i64 4) (.int .i64 a) (.int .i64 b) (.int .i64 q) (.int .i64 0) (.int .i64 0) (.int .i64 0) (.int .i64 0) (.int .i64 0) (.int .i64 0) (.int .i64 0) (.int .i64 0) (.int .i64 0) (.slice none 0 0) (.slice none 0 0) (.slice none 0 0) (.int .i64 (U 0)) (.int .i64 (U 1)) (.int .i64 (U 2)) (.int .i64 (U 3)) (.int .i64 (U 4)) (.int .i64 (U 5)) (.int .i64 (U 6)) (.int .i64 (U 7)) HM7.out)
 have m5:=cc 5 HM7.out
 have m6:=cc 6 HM7.out
 have m7:=cc 7 HM7.out
 have m8:=cc 8 HM7.out
 have m9:=cc 9 HM7.out
 have m10:=cc 10 HM7.out
 have m11:=cc 11 HM7.out
 have m12:=cc 12 HM7.out
 have f5:=zB HM7.out 5
 have f6:=zB HM7.out 6
 have f7:=zB HM7.out 7
 have f8:=zB HM7.out 8
 have f9:=zB HM7.out 9
 have f10:=zB HM7.out 10
 have f11:=zB HM7.out 11
 have f12:=zB HM7.out 12
 clear qB
 refine t1 5 rfl (fun K hK=>?_)
 go_simp
 obtain⟨p1,p2,p3⟩:=qW.out
 have pE:w.heap.size≠w3.heap.size:=fun e=>by have h:=HX7.out;rw[e,HM7.out]at h;simp at h
 have hne2:w.heap.size+1≠w3.heap.size:=fun e=>by have h:=HY7.out;rw[e,HM7.out]at h;exact zH lF h
 have hne3:w7.heap.size≠w3.heap.size:=by have:=HGM.out;omega
 have HX8:Hid ((((((((((((((((((W7a).setCell ⟨w3.heap.size,5,none⟩ (.int .i64 (U 0)))).setCell ⟨w3.heap.size,6,none⟩ (.int .i64 (U 1)))).setCell ⟨w3.heap.size,7,none⟩ (.int .i64 (U 2)))).setCell ⟨w3.heap.size,8,none⟩ (.int .i64 (U 3)))).setCell ⟨w3.heap.size,9,none⟩ (.int .i64 (U 4)))).setCell ⟨w3.heap.size,10,none⟩ (.int .i64 (U 5)))).setCell ⟨w3.heap.size,11,none⟩ (.int .i64 (U 6)))).setCell ⟨w3.heap.size,12,none⟩ (.int .i64 (U 7)))).drew.heap[w.heap.size]?=_):=zA ((xP _ _).trans <| (p2 _ pE).trans HX7.out)
 have HY8:Hid ((((((((((((((((((W7a).setCell ⟨w3.heap.size,5,none⟩ (.int .i64 (U 0)))).setCell ⟨w3.heap.size,6,none⟩ (.int .i64 (U 1)))).setCell ⟨w3.heap.size,7,none⟩ (.int .i64 (U 2)))).setCell ⟨w3.heap.size,8,none⟩ (.int .i64 (U 3)))).setCell ⟨w3.heap.size,9,none⟩ (.int .i64 (U 4)))).setCell ⟨w3.heap.size,10,none⟩ (.int .i64 (U 5)))).setCell ⟨w3.heap.size,11,none⟩ (.int .i64 (U 6)))).setCell ⟨w3.heap.size,12,none⟩ (.int .i64 (U 7)))).drew.heap[w.heap.size+1]?=_):=zA ((xP _ _).trans <| (p2 _ hne2).trans HY7.out)
 have HS8:Hid ((((((((((((((((((W7a).setCell ⟨w3.heap.size,5,none⟩ (.int .i64 (U 0)))).setCell ⟨w3.heap.size,6,none⟩ (.int .i64 (U 1)))).setCell ⟨w3.heap.size,7,none⟩ (.int .i64 (U 2)))).setCell ⟨w3.heap.size,8,none⟩ (.int .i64 (U 3)))).setCell ⟨w3.heap.size,9,none⟩ (.int .i64 (U 4)))).setCell ⟨w3.heap.size,10,none⟩ (.int .i64 (U 5)))).setCell ⟨w3.heap.size,11,none⟩ (.int .i64 (U 6)))).setCell ⟨w3.heap.size,12,none⟩ (.int .i64 (U 7)))).drew.heap[w7.heap.size]?=_):=zA ((xP _ _).trans <| (p2 _ hne3).trans HS7.out)
 have HM8:Hid ((((((((((((((((((W7a).setCell ⟨w3.heap.size,5,none⟩ (.int .i64 (U 0)))).setCell ⟨w3.heap.size,6,none⟩ (.int .i64 (U 1)))).setCell ⟨w3.heap.size,7,none⟩ (.int .i64 (U 2)))).setCell ⟨w3.heap.size,8,none⟩ (.int .i64 (U 3)))).setCell ⟨w3.heap.size,9,none⟩ (.int .i64 (U 4)))).setCell ⟨w3.heap.size,10,none⟩ (.int .i64 (U 5)))).setCell ⟨w3.heap.size,11,none⟩ (.int .i64 (U 6)))).setCell ⟨w3.heap.size,12,none⟩ (.int .i64 (U 7)))).drew.heap[w3.heap.size]?=_):=zA ((xP _ _).trans p1)
 have HB8:=zA (p3 HB7.out HGE.out).drew
 have HV8:=zA (HV7.out.keep (w':=(((((((((((((((((W7a).setCell ⟨w3.heap.size,5,none⟩ (.int .i64 (U 0)))).setCell ⟨w3.heap.size,6,none⟩ (.int .i64 (U 1)))).setCell ⟨w3.heap.size,7,none⟩ (.int .i64 (U 2)))).setCell ⟨w3.heap.size,8,none⟩ (.int .i64 (U 3)))).setCell ⟨w3.heap.size,9,none⟩ (.int .i64 (U 4)))).setCell ⟨w3.heap.size,10,none⟩ (.int .i64 (U 5)))).setCell ⟨w3.heap.size,11,none⟩ (.int .i64 (U 6)))).setCell ⟨w3.heap.size,12,none⟩ (.int .i64 (U 7)))).drew) (fun g cs fr hg=>(xP _ _).trans (p2 g (fun e=>by rw[e,HM7.out]at hg;exact zH lF hg))))
 have HNE:=zA (And.intro pE hne2)
 clear p1 p2 p3 qW m5 f5 m6 f6 m7 f7 m8 f8 m9 f9 m10 f10 m11 f11 m12 f12 pE hne2 hne3 HX7 HY7 HS7 HM7 HB7 HV7
 generalize (((((((((((((((((W7a).setCell ⟨w3.heap.size,5,none⟩ (.int .i64 (U 0)))).setCell ⟨w3.heap.size,6,none⟩ (.int .i64 (U 1)))).setCell ⟨w3.heap.size,7,none⟩ (.int .i64 (U 2)))).setCell ⟨w3.heap.size,8,none⟩ (.int .i64 (U 3)))).setCell ⟨w3.heap.size,9,none⟩ (.int .i64 (U 4)))).setCell ⟨w3.heap.size,10,none⟩ (.int .i64 (U 5)))).setCell ⟨w3.heap.size,11,none⟩ (.int .i64 (U 6)))).setCell ⟨w3.heap.size,12,none⟩ (.int .i64 (U 7)))).drew=Z1 at *
 refine hK.out _ _ (fun _=>HS8.out) (fun _=>?_)
 clear hK K
 try simp only[zP]
 have qB:=HS8.out
 refine zX 6 64 rfl ?_
 have m13:=cc 13 HM8.out
 have f13:=zB HM8.out 13
 clear qB
 refine t1 7 rfl (fun K hK=>?_)
 go_simp
 have hs2:=zF (j:=13) HM8.out (.slice aov M.length capv)
 simp only[zP]at hs2
 have HM6:=zA hs2
 have HX6:=zA ((Below.heap_setCell Z1 ⟨w3.heap.size,13,none⟩ (.slice aov M.length capv) w.heap.size HNE.out.1).trans HX8.out)
 have HY6:=zA ((Below.heap_setCell Z1 ⟨w3.heap.size,13,none⟩ (.slice aov M.length capv) (w.heap.size+1) HNE.out.2).trans HY8.out)
 have HS6:=zA ((Below.heap_setCell Z1 ⟨w3.heap.size,13,none⟩ (.slice aov M.length capv) w7.heap.size (fun e=>by have:=HGM.out;have e':w7.heap.size=w3.heap.size:=e;omega)).trans HS8.out)
 have HB6:=zA (zM HB8.out HGE.out 13 (.slice aov M.length capv))
 have HV6:=zA (HV8.out.keep (w':=Z1.setCell ⟨w3.heap.size,13,none⟩ (.slice aov M.length capv)) (fun g cs fr hg=>Below.heap_setCell _ _ _ _ (fun e=>by rw[show g=w3.heap.size from e,HM8.out]at hg;exact zH lF hg)))
 clear hs2 m13 f13 HX8 HY8 HS8 HM8 HB8 HV8 HNE
 generalize Z1.setCell ⟨w3.heap.size,13,none⟩ (.slice aov M.length capv)=W7 at *
 refine hK.out _ _ (fun _=>HS6.out) (fun _=>?_)
 clear hK K
 try simp only[zP]
 refine wd ?_
 go_wp2_with (first
  | refine zI rfl 115 (.tmp 8) w3.heap.size (Qsu 4 (a:Int) (b:Int) (q:Int) U (.slice aov M.length capv)) 115 (0,0) _ rfl rfl HM6.out underlying115 rfl lE ?_)
 refine(HRT.out W7 aov capv (HV6.out)).mono ?_
 rintro e w8 ⟨rfl,hb⟩
 have HX8:=zA (zC HX6.out hb)
 have HY8:=zA (zC HY6.out hb)
 have HM8:=zA (zC HM6.out hb)
 have HB8:=zA (HB6.out.trans (hb.mono HB6.out.size))
 have HV8:=zA (HV6.out.below hb)
 clear hb HX6 HY6 HM6 HB6 HV6 HRT
 go_wp2_with fail
 refine(yD rfl).mono ?_
 rintro e w' ⟨rfl,rfl⟩
 have hx9:=yL HX8.out (Qsu 4 (a:Int) (b:Int) (q:Int) U (.slice aov M.length capv))
 have hy9:=(yH w8 w.heap.size (Qsu 4 (a:Int) (b:Int) (q:Int) U (.slice aov M.length capv)) (w.heap.size+1) lD).trans HY8.out
 have ce:=cc 0 hy9
 have fe:=zB hy9 0
 have hid:(w8.setRow w.heap.size (Qsu 4 (a:Int) (b:Int) (q:Int) U (.slice aov M.length capv))).setCell ⟨w.heap.size+1,0,none⟩ (.int .i64 0)=w8.setRow w.heap.size (Qsu 4 (a:Int) (b:Int) (q:Int) U (.slice aov M.length capv)):=zN hy9 (j:=0) (v:=.int .i64 0) rfl
 have HX9:=zA hx9
 have HB9:=zA (show Below w.heap.size w (w8.setRow w.heap.size (Qsu 4 (a:Int) (b:Int) (q:Int) U (.slice aov M.length capv)))from((Off.of_below (F:=fun _=>False) HB8.out).setRow w.heap.size (.inr (Nat.le_refl _)) (Qsu 4 (a:Int) (b:Int) (q:Int) U (.slice aov M.length capv))).below (fun _ _ h=>h))
 have HVZ:=zA (HV8.out.keep (w':=w8.setRow w.heap.size (Qsu 4 (a:Int) (b:Int) (q:Int) U (.slice aov M.length capv))) (fun g cs fr hg=>yH _ _ _ _ (fun e=>by rw[e,HX8.out]at hg;exact zH lF hg)))
 clear hx9 hy9
 go_wp2_with (first
  | refine zI rfl 115 (.tmp 8) w3.heap.size (Qsu 4 (a:Int) (b:Int) (q:Int) U (.slice aov M.length capv)) 115 (0,0) _ rfl rfl HM8.out underlying115 rfl lE ?_
  | refine zR rfl 115 (.tmp 2) (.tmp 82) w.heap.size Qnn (Qsu 4 (a:Int) (b:Int) (q:Int) U (.slice aov M.length capv)) 115 rfl rfl rfl rfl HX8.out lE rfl lE ?_)
 refine leaves_cons (f:=104) (args:=#[Qp (w.heap.size+1)]) (by simp) (by simp[go_sem]) ?_
 refine(wJ _ _).mono ?_
 rintro e' u' w'' ⟨rfl,rfl,rfl⟩
 clear hid fe
 generalize w8.setRow w.heap.size (Qsu 4 (a:Int) (b:Int) (q:Int) U (.slice aov M.length capv))=Z at *
 exact nD
end
end Go.Proofs.YtodlmbfbfaofcaaGreat
