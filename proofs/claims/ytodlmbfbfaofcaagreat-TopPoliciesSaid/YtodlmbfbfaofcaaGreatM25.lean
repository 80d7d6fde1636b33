/- TopPolicies, part 25. -/
import Derived.Test.YtodlmbfbfaofcaaGreatM01
import Derived.Test.YtodlmbfbfaofcaaGreatM02
import Derived.Test.YtodlmbfbfaofcaaGreatM04
import Derived.Test.YtodlmbfbfaofcaaGreatM07
import Derived.Test.YtodlmbfbfaofcaaGreatM08
import Derived.Test.YtodlmbfbfaofcaaGreatM09
import Derived.Test.YtodlmbfbfaofcaaGreatM16
import Derived.Test.YtodlmbfbfaofcaaGreatM19
import Derived.Test.YtodlmbfbfaofcaaGreatM24
open Go.Proofs.Tryz
namespace Go.Proofs.YtodlmbfbfaofcaaGreat
set_option linter.unusedVariables false
set_option linter.unusedSimpArgs false
set_option maxRecDepth 100000
set_option maxHeartbeats 4000000
section
open Go.RowKit Rw Rh
theorem Off.beh {r:Nat} {w0 W W':World} (o:Off (· = r) W W') (b:Below w0.heap.size w0 W) (hr:w0.heap.size≤r):Below w0.heap.size w0 W':=o.to_below b hr
theorem Off.blk {r g:Nat} {t:TypeId} {cs:Array Value} {bs:List Int} {w w':World} (o:Off (· = r) w w') (h:RdAt w r bs) (hg:w.heap[g]?=some (.cells cs t (0,0))) (ht:t≠293):w'.heap[g]?=some (.cells cs t (0,0)):=
 (o.same g (gsi.1 hg).1 (RdAt.ne h hg ht)).trans hg
theorem mget_1 (v:Value) (a b nd st inc q:Nat) (w:World) (h:Bs w v (Pl.frame (Pl.body1 a b nd st inc q))) (ha:a<8) (hb:b<8) (hne:a≠b) (hn:nd<8) (hs:1≤st∧st≤4) (hi:inc≤1099511627776) (hq:q≤1099511627776) :
  Calls prog 49 #[v] w fun r w'=>∃aov capv,r=.returned (.tuple #[.agg (Qrj 1 (a:Int) (b:Int) (q:Int) (.slice aov 1 capv)),.int .i64 0])∧OwnR kMem w.heap.size w' (.slice aov 1 capv) [((nd:Int),(st:Int),(inc:Int))]∧Below w.heap.size w w':=by
 obtain⟨hx,hy,b1⟩:=zU w (.cells Qnn 115) (.cells (Qo 0) 41)
 have hlb:(Pl.body1 a b nd st inc q).length≤4096:=(by have:=Pl.vints_len [1,a,b,1,nd,st,inc,q] (fun n hn=>by simp at hn;omega);unfold Pl.body1;simp only[List.length_cons,List.length_nil]at this;omega)
 have HG:=zA (rV v _ _ (h.below b1) hlb)
 have HX:=zA hx
 have HY:=zA hy
 have HB:=zA b1
 have HLB:=zA hlb
 have HHD:Hid (∀(R:Nat) (W:World),RdAt W R (Pl.body1 a b nd st inc q)→Calls prog 108 #[.agg #[Qp R]] W fun e w'=>∃v,e=.returned (.agg #[.int .i64 1,.int .i64 a,.int .i64 b,.int .i64 q,.int .i64 0,.int .i64 0,.int .i64 0,.int .i64 0,.int .i64 0,.int .i64 0,.int .i64 0,.int .i64 0,.int .i64 0,.slice none 0 0,.slice none 0 0,v])∧OwnR kMem W.heap.size w' v [((nd:Int),(st:Int),(inc:Int))]∧RdAt w' R []∧Off (· = R) W w'):=zA (fun R W hr=>head_1 R a b nd st inc q [] _ (by simpa[Pl.body1]using hr) lD lD lD lD lD lD)
 have HRT:=zA (fun (W:World) (ao:Option Addr) (cap:Nat) (h:RowC kMem W (.slice ao 1 cap) [((nd:Int),(st:Int),(inc:Int))])=>uM W a b q ao 1 cap (zL lD lD) (zL lD lD) (zL lD lD) lD (fun W' hW'=>wC _ nd st inc W' (h.below hW') (zL lD lD) (zL lD lD) (zL lD lD)))
 clear hx hy b1 hlb h ha hb hne hn hs hi hq
 go_enter_defers func49,ntmps49
 go_wp2_with fail
 generalize (w.alloc (.cells Qnn 115)).alloc (.cells (Qo 0) 41)=W0 at *
 refine HG.out.mono ?_
 rintro e w1 ⟨v1,v2,rfl,ho1,ho2,hb⟩
 obtain⟨ao2,cap2,rfl⟩:=ho2.form
 have HX1:=zA (zC HX.out hb)
 have HY1:=zA (zC HY.out hb)
 have HB1:=zA (HB.out.trans (hb.mono HB.out.size))
 have HRN:=zA (uU v1 _ w1 ho1.toT.toC (by have:=HLB.out;omega))
 clear ho1 ho2 hb HX HY HB HG HLB
 go_wp2_with fail
 refine(yD rfl).mono ?_
 rintro e w' ⟨rfl,rfl⟩
 go_wp2_with fail
 refine(yD rfl).mono ?_
 rintro e w' ⟨rfl,rfl⟩
 go_wp2_with fail
 refine HRN.out.mono ?_
 rintro e w2 ⟨R,rfl,hR,hr,hb⟩
 have bz:=bn w2 (.cells #[Qp R] 193)
 have hz:=heap_alloc_new w2 (.cells #[Qp R] 193)
 have HX2:=zA (zC (zC HX1.out hb) bz)
 have HY2:=zA (zC (zC HY1.out hb) bz)
 have HB2:=zA (HB1.out.trans ((hb.trans (bz.mono hb.size)).mono HB1.out.size))
 have HR2:=zA (hr.below bz)
 have HZ2:=zA hz
 have HRG:=zA (show w.heap.size≤R from Nat.le_trans HB1.out.size hR)
 have HLT:=zA (show w.heap.size+1<w2.heap.size from(gsi.1 (zC HY1.out hb)).1)
 clear hR hr hb bz hz HX1 HY1 HB1 HRN
 go_wp2_with fail
 generalize w2.alloc (.cells #[Qp R] 193)=Wz at *
 refine(HHD.out R Wz HR2.out).mono ?_
 rintro e w3 ⟨vm,rfl,hm,hr,ho⟩
 obtain⟨aov,capv,rfl⟩:=hm.toT.form
 have bz:=bn w3 (.cells (Qrj 1 (a:Int) (b:Int) (q:Int) (.slice aov 1 capv)) 115)
 have HX3:=zA (zC (ho.blk HR2.out HX2.out lF) bz)
 have HY3:=zA (zC (ho.blk HR2.out HY2.out lF) bz)
 have hz3:=zC (ho.blk HR2.out HZ2.out lF) bz
 have HZ3:=zA hz3
 have HB3:=zA ((ho.beh HB2.out HRG.out).trans (bz.mono (ho.beh HB2.out HRG.out).size))
 have HR3:=zA (hr.below bz)
 have HM3:=zA (heap_alloc_new w3 (.cells (Qrj 1 (a:Int) (b:Int) (q:Int) (.slice aov 1 capv)) 115))
 have HV3:=zA ((hm.below bz).mono HB2.out.size)
 clear bz ho hr hm HX2 HY2 HZ2 HB2 HR2 HHD hz3
 go_wp2_with fail
 generalize w3.alloc (.cells (Qrj 1 (a:Int) (b:Int) (q:Int) (.slice aov 1 capv)) 115)=W4 at *
 refine zD (fun W=>W.heap[w2.heap.size]?=some (.cells #[Qp R] 193 (0,0))) 99 lE HZ3.out (fun qB=>?_)
 refine zX 0 34 rfl ?_
 refine tkq 1 35 rfl lI ?_
 refine zX 2 36 rfl ?_
 refine tkq 3 37 rfl lI ?_
 refine t1 4 rfl (fun K hK=>?_)
 go_simp
 refine(vH R ([]:List Int) _ (HR3.out.below (Below.refl _ _).drew)).mono ?_
 rintro e w' ⟨rfl,rfl⟩
 refine hK.out _ _ (fun _=>qB) (fun _=>?_)
 clear hK K
 try simp only[zP]
 have HBY:=zA (sK R ([]:List Int) [] W4.drew (by rw[List.append_nil];exact HR3.out.below (Below.refl _ _).drew) (by simp))
 clear qB
 refine t1 5 rfl (fun K hK=>?_)
 go_simp
 refine HBY.out.mono ?_
 rintro e w5 ⟨vl,rfl,hol,hr5,ho5⟩
 have qT:Off (· = R) W4 w5:=(Off.of_below (Below.refl _ _).drew).trans ho5
 have hz5:=qT.blk HR3.out HZ3.out lF
 have hm5:=qT.blk HR3.out HM3.out lF
 have HX5:=zA (qT.blk HR3.out HX3.out lF)
 have HY5:=zA (qT.blk HR3.out HY3.out lF)
 have HM5:=zA hm5
 have HB5:=zA (qT.beh HB3.out HRG.out)
 have HLV:=zA hol
 obtain⟨aol,capl,rfl⟩:=hol.form
 have HV5:=zA (HV3.out.keep (fun g hg=>by
  obtain⟨cs,hcs⟩:=zK HV3.out hg
  exact qT.same g (gsi.1 hcs).1 (RdAt.ne HR3.out hcs lF)))
 refine hK.out _ _ (fun _=>hz5) (fun _=>?_)
 clear hK K
 try simp only[zP]
 have qB:=hz5
 refine zX 6 9 rfl ?_
 refine wd ?_
 clear qB hz5 hol hr5 ho5 qT HBY HR3 HZ3 HX3 HY3 HM3 HB3 HV3
 have m0:=cc 0 hm5
 clear hm5
 go_wp2_with fail
 refine(has_1 _).mono ?_
 rintro e w6 ⟨rfl,hb⟩
 have bz:=bn w6 (.cells Qfa 198)
 have HX6:=zA (zC (zC HX5.out hb) bz)
 have HY6:=zA (zC (zC HY5.out hb) bz)
 have HM6:=zA (zC (zC HM5.out hb) bz)
 have HB6:=zA (HB5.out.trans ((hb.trans (bz.mono hb.size)).mono HB5.out.size))
 have HV6:=zA ((HV5.out.below hb).below bz)
 clear bz hb m0 HX5 HY5 HM5 HB5 HLV HV5
 go_wp2_with fail
 refine(yD rfl).mono ?_
 rintro e w' ⟨rfl,rfl⟩
 generalize w6.alloc (.cells Qfa 198)=W7 at *
 go_wp2_with (first
  | refine zI rfl 115 (.tmp 8) w3.heap.size (Qrj 1 (a:Int) (b:Int) (q:Int) (.slice aov 1 capv)) 115 (0,0) _ rfl rfl HM6.out underlying115 rfl lE ?_)
 refine(HRT.out W7 aov capv (HV6.out.toT.toC)).mono ?_
 rintro e w8 ⟨rfl,hb⟩
 have HX8:=zA (zC HX6.out hb)
 have HY8:=zA (zC HY6.out hb)
 have HM8:=zA (zC HM6.out hb)
 have HB8:=zA (HB6.out.trans (hb.mono HB6.out.size))
 have HV8:=zA (HV6.out.below hb)
 clear hb HX6 HY6 HM6 HB6 HV6 HRT
 go_wp2_with fail
 refine(yD rfl).mono ?_
 rintro e w' ⟨rfl,rfl⟩
 have hx9:=yL HX8.out (Qrj 1 (a:Int) (b:Int) (q:Int) (.slice aov 1 capv))
 have hy9:=(yH w8 w.heap.size (Qrj 1 (a:Int) (b:Int) (q:Int) (.slice aov 1 capv)) (w.heap.size+1) lD).trans HY8.out
 have ce:=cc 0 hy9
 have fe:=zB hy9 0
 have hid:(w8.setRow w.heap.size (Qrj 1 (a:Int) (b:Int) (q:Int) (.slice aov 1 capv))).setCell ⟨w.heap.size+1,0,none⟩ (.int .i64 0)=w8.setRow w.heap.size (Qrj 1 (a:Int) (b:Int) (q:Int) (.slice aov 1 capv)):=zN hy9 (j:=0) (v:=.int .i64 0) rfl
 have HX9:=zA hx9
 have HB9:=zA (show Below w.heap.size w (w8.setRow w.heap.size (Qrj 1 (a:Int) (b:Int) (q:Int) (.slice aov 1 capv)))from((Off.of_below (F:=fun _=>False) HB8.out).setRow w.heap.size (.inr (Nat.le_refl _)) (Qrj 1 (a:Int) (b:Int) (q:Int) (.slice aov 1 capv))).below (fun _ _ h=>h))
 have HVZ:=zA (HV8.out.keep (w':=w8.setRow w.heap.size (Qrj 1 (a:Int) (b:Int) (q:Int) (.slice aov 1 capv))) (fun g hg=>by
  obtain⟨cs,hcs⟩:=zK HV8.out hg
  exact yH _ _ _ _ (fun e=>by rw[e,HX8.out]at hcs;exact zH lF hcs)))
 clear hx9 hy9
 go_wp2_with (first
  | refine zI rfl 115 (.tmp 8) w3.heap.size (Qrj 1 (a:Int) (b:Int) (q:Int) (.slice aov 1 capv)) 115 (0,0) _ rfl rfl HM8.out underlying115 rfl lE ?_
  | refine zR rfl 115 (.tmp 2) (.tmp 82) w.heap.size Qnn (Qrj 1 (a:Int) (b:Int) (q:Int) (.slice aov 1 capv)) 115 rfl rfl rfl rfl HX8.out lE rfl lE ?_)
 refine leaves_cons (f:=104) (args:=#[Qp (w.heap.size+1)]) (by simp) (by simp[go_sem]) ?_
 refine(wJ _ _).mono ?_
 rintro e' u' w'' ⟨rfl,rfl,rfl⟩
 clear hid fe
 generalize w8.setRow w.heap.size (Qrj 1 (a:Int) (b:Int) (q:Int) (.slice aov 1 capv))=Z at *
 exact nD
theorem Is.keep {w w':World} {e:Pl.Ev} (h:Is w e) (k:∀(g:Nat) (cs:Array Value) (fr:Nat×Nat),w.heap[g]?=some (Obj.cells cs 45 fr)→w'.heap[g]?=w.heap[g]?):Is w' e:=DotsT.keep h k
theorem Is.rn {w:World} {e:Pl.Ev} (h:Is w e):e.rn=e.rm.length:=by
 obtain⟨_,_,e0,_⟩:=h
 injection e0
theorem Pl.Ev.abs_same {e e':Pl.Ev} (h:e'.abs=e.abs) (hn:e'.rn=e'.rm.length):e'=e.mv e'.ro e'.rc:=by
 obtain⟨a0,a1,a2,a3,a4,a5,a6,a7,a8,a9,a10,a11,a12,a13,a14,a15,a16⟩:=e
 obtain⟨b0,b1,b2,b3,b4,b5,b6,b7,b8,b9,b10,b11,b12,b13,b14,b15,b16⟩:=e'
 simp[Pl.Ev.abs,Pl.Ev.mv]at h hn ⊢
 obtain⟨rfl,rfl,rfl,rfl,rfl,rfl,rfl,rfl,rfl,rfl,rfl,rfl,rfl,_,rfl⟩:=h
 simp[hn]
theorem Is.ok {w:World} {e e':Pl.Ev} (hi:Is w e') (h:e'.abs=e.abs) (ho:e.Ok):e'.Ok:=by
 rw[Pl.Ev.abs_same h hi.rn]
 exact ho.mv _ _
def Rep (w:World) (es' es:List Pl.Ev):Prop:=es'.map Pl.Ev.abs=es.map Pl.Ev.abs∧∀e∈es',Is w e
theorem Rep.below {w w':World} {es' es:List Pl.Ev} (h:Rep w es' es) (hb:Below w.heap.size w w'):Rep w' es' es:=⟨h.1,fun e he=>(h.2 e he).below hb⟩
theorem Rep.keep {w w':World} {es' es:List Pl.Ev} (h:Rep w es' es) (k:∀(g:Nat) (cs:Array Value) (fr:Nat×Nat),w.heap[g]?=some (Obj.cells cs 45 fr)→w'.heap[g]?=w.heap[g]?):Rep w' es' es:=⟨h.1,fun e he=>(h.2 e he).keep k⟩
theorem Rep.len {w:World} {es' es:List Pl.Ev} (h:Rep w es' es):es'.length=es.length:=by simpa using congrArg List.length h.1
theorem Rep.mem {w:World} {es' es:List Pl.Ev} (h:Rep w es' es) {e':Pl.Ev} (he:e'∈es'):∃e∈es,e'.abs=e.abs∧Is w e':=by
 have h1:e'.abs∈es'.map Pl.Ev.abs:=List.mem_map.2 ⟨e',he,rfl⟩
 rw[h.1]at h1
 obtain⟨e,h2,h3⟩:=List.mem_map.1 h1
 exact⟨e,h2,h3.symm,h.2 e' he⟩
theorem Rep.ok {w:World} {es' es:List Pl.Ev} (h:Rep w es' es) (ho:∀e∈es,e.Ok):∀e∈es',e.Ok:=fun e' he=>by
 obtain⟨e,h1,h2,h3⟩:=h.mem he
 exact h3.ok h2 (ho e h1)
theorem xH {es' es:List Pl.Ev} (h:es'.map Pl.Ev.abs=es.map Pl.Ev.abs):Pl.codes es'=Pl.codes es:=by
 have hk:∀l:List Pl.Ev,Pl.codes l=(l.map Pl.Ev.abs).flatMap (fun e=>Pl.vints e.nums):=fun l=>by
  unfold Pl.codes
  rw[List.flatMap_map]
  rfl
 rw[hk,hk,h]
theorem Rep.snoc {w:World} {es' es:List Pl.Ev} {e' e:Pl.Ev} (h:Rep w es' es) (hab:e'.abs=e.abs) (hi:Is w e'):Rep w (es'++[e']) (es++[e]):=
 ⟨by rw[List.map_append,List.map_append,h.1];simp[hab],fun x hx=>by
  rcases List.mem_append.1 hx with hx | hx
  ·exact h.2 x hx
  ·rw[List.mem_singleton.1 hx];exact hi⟩
theorem Rep.nil (w:World):Rep w [] []:=⟨rfl,fun e he=>absurd he (by simp)⟩
theorem mget_5 (v:Value) (a b:Nat) (es:List Pl.Ev) (w:World) (h:Bs w v (Pl.frame (Pl.body5 a b es))) (ha:a<8) (hb:b<8) (hne:a≠b) (hes:es.length≤768) (hok:∀e∈es,e.Ok) (hlen:(Pl.body5 a b es).length≤4096) :
  Calls prog 49 #[v] w fun r w'=>∃aov capv es',r=.returned (.tuple #[.agg (Qtk 5 (a:Int) (b:Int) (.slice aov es.length capv)),.int .i64 0])∧RowT kEv w' (.slice aov es.length capv) es'∧Rep w' es' es∧Below w.heap.size w w':=by
 obtain⟨hx,hy,b1⟩:=zU w (.cells Qnn 115) (.cells (Qo 0) 41)
 have hlb:(Pl.body5 a b es).length≤4096:=hlen
 have HG:=zA (rV v _ _ (h.below b1) hlb)
 have HX:=zA hx
 have HY:=zA hy
 have HB:=zA b1
 have HLB:=zA hlb
 have HHD:Hid (∀(R:Nat) (W:World),RdAt W R (Pl.body5 a b es)→Calls prog 108 #[.agg #[Qp R]] W fun e w'=>e=.returned (.agg (Qnk 5 (a:Int) (b:Int)))∧RdAt w' R (Pl.vint es.length++Pl.codes es)∧Off (· = R) W w'):=zA (fun R W hr=>head_5 R a b (Pl.vint es.length++Pl.codes es) _ (by simpa[Pl.body5]using hr) lD lD)
 have HRT:=zA (fun (W:World) (ao:Option Addr) (cap:Nat) (es':List Pl.Ev) (h:RowC kEv W (.slice ao es.length cap) es') (hr:Rep W es' es)=>uK W a b ao es.length cap es' h (by rw[hr.len];exact hes) (hr.ok hok) hr.2 (zL lD lD) (zL lD lD) lD)
 have HES:=zA hes
 have HOK:=zA hok
 have HLB2:=zA (show((Pl.vint es.length++Pl.codes es)).length≤4096 by have h1:=hlb;unfold Pl.body5 at h1;rw[List.length_append]at h1;omega)
 clear hx hy b1 hlb h ha hb hne hes hok hlen
 obtain⟨bys,hbys⟩:∃x,x=(Pl.vint es.length++Pl.codes es):=⟨_,rfl⟩
 rw[←hbys]at HHD HLB2
 have HBS:=zA hbys
 clear hbys
 go_enter_defers func49,ntmps49
 go_wp2_with fail
 generalize (w.alloc (.cells Qnn 115)).alloc (.cells (Qo 0) 41)=W0 at *
 refine HG.out.mono ?_
 rintro e w1 ⟨v1,v2,rfl,ho1,ho2,hb⟩
 obtain⟨ao2,cap2,rfl⟩:=ho2.form
 have HX1:=zA (zC HX.out hb)
 have HY1:=zA (zC HY.out hb)
 have HB1:=zA (HB.out.trans (hb.mono HB.out.size))
 have HRN:=zA (uU v1 _ w1 ho1.toT.toC (by have:=HLB.out;omega))
 clear ho1 ho2 hb HX HY HB HG HLB
 go_wp2_with fail
 refine(yD rfl).mono ?_
 rintro e w' ⟨rfl,rfl⟩
 go_wp2_with fail
 refine(yD rfl).mono ?_
 rintro e w' ⟨rfl,rfl⟩
 go_wp2_with fail
 refine HRN.out.mono ?_
 rintro e w2 ⟨R,rfl,hR,hr,hb⟩
 have bz:=bn w2 (.cells #[Qp R] 193)
 have hz:=heap_alloc_new w2 (.cells #[Qp R] 193)
 have HX2:=zA (zC (zC HX1.out hb) bz)
 have HY2:=zA (zC (zC HY1.out hb) bz)
 have HB2:=zA (HB1.out.trans ((hb.trans (bz.mono hb.size)).mono HB1.out.size))
 have HR2:=zA (hr.below bz)
 have HZ2:=zA hz
 have HRG:=zA (show w.heap.size≤R from Nat.le_trans HB1.out.size hR)
 have HLT:=zA (show w.heap.size+1<w2.heap.size from(gsi.1 (zC HY1.out hb)).1)
 clear hR hr hb bz hz HX1 HY1 HB1 HRN
 go_wp2_with fail
 generalize w2.alloc (.cells #[Qp R] 193)=Wz at *
 refine(HHD.out R Wz HR2.out).mono ?_
 rintro e w3 ⟨rfl,hr,ho⟩
 have bz:=bn w3 (.cells (Qnk 5 (a:Int) (b:Int)) 115)
 have HX3:=zA (zC (ho.blk HR2.out HX2.out lF) bz)
 have HY3:=zA (zC (ho.blk HR2.out HY2.out lF) bz)
 have hz3:=zC (ho.blk HR2.out HZ2.out lF) bz
 have HZ3:=zA hz3
 have HB3:=zA ((ho.beh HB2.out HRG.out).trans (bz.mono (ho.beh HB2.out HRG.out).size))
 have HR3:=zA (hr.below bz)
 have HGE:=zA (show w.heap.size≤w3.heap.size from(ho.beh HB2.out HRG.out).size)
 have HM3:=zA (heap_alloc_new w3 (.cells (Qnk 5 (a:Int) (b:Int)) 115))
 skip
 clear bz ho hr HX2 HY2 HZ2 HB2 HR2 HHD hz3
 go_wp2_with fail
 generalize w3.alloc (.cells (Qnk 5 (a:Int) (b:Int)) 115)=W4 at *
 refine zD (fun W=>W.heap[w2.heap.size]?=some (.cells #[Qp R] 193 (0,0))) 99 lE HZ3.out (fun qB=>?_)
 refine zX 0 34 rfl ?_
 refine tkq 1 35 rfl lI ?_
 refine zX 2 36 rfl ?_
 refine tkq 3 37 rfl lI ?_
 refine t1 4 rfl (fun K hK=>?_)
 go_simp
 refine(vH R bys _ (HR3.out.below (Below.refl _ _).drew)).mono ?_
 rintro e w' ⟨rfl,rfl⟩
 refine hK.out _ _ (fun _=>qB) (fun _=>?_)
 clear hK K
 try simp only[zP]
 have HBY:=zA (sK R bys [] W4.drew (by rw[List.append_nil];exact HR3.out.below (Below.refl _ _).drew) (by have:=HLB2.out;omega))
 clear qB
 refine t1 5 rfl (fun K hK=>?_)
 go_simp
 refine HBY.out.mono ?_
 rintro e w5 ⟨vl,rfl,hol,hr5,ho5⟩
 have qT:Off (· = R) W4 w5:=(Off.of_below (Below.refl _ _).drew).trans ho5
 have hz5:=qT.blk HR3.out HZ3.out lF
 have hm5:=qT.blk HR3.out HM3.out lF
 have HX5:=zA (qT.blk HR3.out HX3.out lF)
 have HY5:=zA (qT.blk HR3.out HY3.out lF)
 have HM5:=zA hm5
 have HB5:=zA (qT.beh HB3.out HRG.out)
 have HLV:=zA hol
 obtain⟨aol,capl,rfl⟩:=hol.form
 refine hK.out _ _ (fun _=>hz5) (fun _=>?_)
 clear hK K
 try simp only[zP]
 have qB:=hz5
 refine zX 6 9 rfl ?_
 refine wd ?_
 clear qB hz5 hol hr5 ho5 qT HBY HR3 HZ3 HX3 HY3 HM3 HB3
 have m0:=cc 0 hm5
 clear hm5
 go_wp2_with fail
 refine(has_5 _).mono ?_
 rintro e w6 ⟨rfl,hb⟩
 have bz:=bn w6 (.cells Qfd 198)
 have HX6:=zA (zC (zC HX5.out hb) bz)
 have HY6:=zA (zC (zC HY5.out hb) bz)
 have HM6:=zA (zC (zC HM5.out hb) bz)
 have HB6:=zA (HB5.out.trans ((hb.trans (bz.mono hb.size)).mono HB5.out.size))
 have HL6:=zA ((HLV.out.below hb).below bz)
 clear bz hb m0 HX5 HY5 HM5 HB5 HLV
 have HGA:=zA (getall_ok (.slice aol bys.length capl) es _ (by have h:=HL6.out.toT.toC;generalize bys.length=ll at h ⊢;rw[HBS.out]at h;exact h) HES.out HOK.out)
 go_wp2_with fail
 generalize w6.alloc (.cells Qfd 198)=W6 at *
 refine HGA.out.mono ?_
 rintro e w7 ⟨vg,es',rfl,hov,hab,his,hb⟩
 have hrp:Rep w7 es' es:=⟨hab,his⟩
 obtain⟨aov,capv,hfm⟩:=hov.toT.form
 rw[hrp.len]at hfm
 subst hfm
 have HX7:=zA (zC HX6.out hb)
 have HY7:=zA (zC HY6.out hb)
 have HM7:=zA (zC HM6.out hb)
 have HB7:=zA (HB6.out.trans (hb.mono HB6.out.size))
 have HV7:=zA hov
 have HP7:=zA hrp
 clear hov hb hab his hrp HX6 HY6 HM6 HB6 HL6 HGA
 go_wp2_with fail
 refine(yD rfl).mono ?_
 rintro e w' ⟨rfl,rfl⟩
 have m14:=cc 14 HM7.out
 have f14:=zB HM7.out 14
 have pE:w.heap.size≠w3.heap.size:=fun e=>by have h:=HX7.out;have h2:=HM7.out;rw[e,h2]at h;simp at h
 have hne2:w.heap.size+1≠w3.heap.size:=fun e=>by have h:=HY7.out;rw[e,HM7.out]at h;exact zH lF h
 have hs2:=zF (j:=14) HM7.out (.slice aov es.length capv)
 simp only[zP]at hs2
 have HM6:=zA hs2
 have HX6:=zA ((Below.heap_setCell w7 ⟨w3.heap.size,14,none⟩ (.slice aov es.length capv) w.heap.size pE).trans HX7.out)
 have HY6:=zA ((Below.heap_setCell w7 ⟨w3.heap.size,14,none⟩ (.slice aov es.length capv) (w.heap.size+1) hne2).trans HY7.out)
 have HB6:=zA (zM HB7.out HGE.out 14 (.slice aov es.length capv))
 have HV6:=zA (HV7.out.keep (w':=w7.setCell ⟨w3.heap.size,14,none⟩ (.slice aov es.length capv)) (fun g hg=>by
  obtain⟨cs,hcs⟩:=zK HV7.out hg
  exact Below.heap_setCell _ _ _ _ (fun e=>by rw[show g=w3.heap.size from e,HM7.out]at hcs;exact zH lF hcs)))
 have HP6:=zA (HP7.out.keep (w':=w7.setCell ⟨w3.heap.size,14,none⟩ (.slice aov es.length capv)) (fun g cs fr hg=>Below.heap_setCell _ _ _ _ (fun e=>by rw[show g=w3.heap.size from e,HM7.out]at hg;exact zH lF hg)))
 clear hs2 pE hne2 HX7 HY7 HM7 HB7 HV7 HP7
 go_wp2_with (first
  | refine zI rfl 115 (.tmp 8) w3.heap.size (Qtk 5 (a:Int) (b:Int) (.slice aov es.length capv)) 115 (0,0) _ rfl rfl HM6.out underlying115 rfl lE ?_)
 generalize w7.setCell ⟨w3.heap.size,14,none⟩ (.slice aov es.length capv)=W7 at *
 refine(HRT.out W7 aov capv es' HV6.out.toT.toC HP6.out).mono ?_
 rintro e w8 ⟨rfl,hb⟩
 have HX8:=zA (zC HX6.out hb)
 have HY8:=zA (zC HY6.out hb)
 have HM8:=zA (zC HM6.out hb)
 have HB8:=zA (HB6.out.trans (hb.mono HB6.out.size))
 have HV8:=zA (HV6.out.below hb)
 have HP8:=zA (HP6.out.below hb)
 clear hb HX6 HY6 HM6 HB6 HV6 HP6 HRT m14 f14
 go_wp2_with fail
 refine(yD rfl).mono ?_
 rintro e w' ⟨rfl,rfl⟩
 have hx9:=yL HX8.out (Qtk 5 (a:Int) (b:Int) (.slice aov es.length capv))
 have hy9:=(yH w8 w.heap.size (Qtk 5 (a:Int) (b:Int) (.slice aov es.length capv)) (w.heap.size+1) lD).trans HY8.out
 have ce:=cc 0 hy9
 have fe:=zB hy9 0
 have hid:(w8.setRow w.heap.size (Qtk 5 (a:Int) (b:Int) (.slice aov es.length capv))).setCell ⟨w.heap.size+1,0,none⟩ (.int .i64 0)=w8.setRow w.heap.size (Qtk 5 (a:Int) (b:Int) (.slice aov es.length capv)):=zN hy9 (j:=0) (v:=.int .i64 0) rfl
 have HX9:=zA hx9
 have HB9:=zA (show Below w.heap.size w (w8.setRow w.heap.size (Qtk 5 (a:Int) (b:Int) (.slice aov es.length capv)))from((Off.of_below (F:=fun _=>False) HB8.out).setRow w.heap.size (.inr (Nat.le_refl _)) (Qtk 5 (a:Int) (b:Int) (.slice aov es.length capv))).below (fun _ _ h=>h))
 have HVZ:=zA (HV8.out.keep (w':=w8.setRow w.heap.size (Qtk 5 (a:Int) (b:Int) (.slice aov es.length capv))) (fun g hg=>by
  obtain⟨cs,hcs⟩:=zK HV8.out hg
  exact yH _ _ _ _ (fun e=>by rw[e,HX8.out]at hcs;exact zH lF hcs)))
 have HPZ:=zA (HP8.out.keep (w':=w8.setRow w.heap.size (Qtk 5 (a:Int) (b:Int) (.slice aov es.length capv))) (fun g cs fr hg=>yH _ _ _ _ (fun e=>by rw[e,HX8.out]at hg;exact zH lF hg)))
 clear hx9 hy9
 go_wp2_with (first
  | refine zI rfl 115 (.tmp 8) w3.heap.size (Qtk 5 (a:Int) (b:Int) (.slice aov es.length capv)) 115 (0,0) _ rfl rfl HM8.out underlying115 rfl lE ?_
  | refine zR rfl 115 (.tmp 2) (.tmp 82) w.heap.size Qnn (Qtk 5 (a:Int) (b:Int) (.slice aov es.length capv)) 115 rfl rfl rfl rfl HX8.out lE rfl lE ?_)
 refine leaves_cons (f:=104) (args:=#[Qp (w.heap.size+1)]) (by simp) (by simp[go_sem]) ?_
 refine(wJ _ _).mono ?_
 rintro e' u' w'' ⟨rfl,rfl,rfl⟩
 clear hid fe
 generalize w8.setRow w.heap.size (Qtk 5 (a:Int) (b:Int) (.slice aov es.length capv))=Z at *
 have m0:=cc 0 HX9.out
 have m1:=cc 1 HX9.out
 have m2:=cc 2 HX9.out
 have m3:=cc 3 HX9.out
 have m4:=cc 4 HX9.out
 have m5:=cc 5 HX9.out
 have m6:=cc 6 HX9.out
 have m7:=cc 7 HX9.out
 have m8:=cc 8 HX9.out
 have m9:=cc 9 HX9.out
 have m10:=cc 10 HX9.out
 have m11:=cc 11 HX9.out
 have m12:=cc 12 HX9.out
 have m13:=cc 13 HX9.out
 have m14:=cc 14 HX9.out
 have m15:=cc 15 HX9.out
 simp[Leaves,settle,results,results49,go_sem,ce,m0,m1,m2,m3,m4,m5,m6,m7,m8,m9,m10,m11,m12,m13,m14,m15]
 exact⟨aov,capv,⟨rfl,rfl⟩,es',HVZ.out.toT,HPZ.out,HB9.out⟩
theorem mclone_nil (w:World):Calls prog 325 #[.slice none 0 0] w fun e w'=>e=.returned (.slice none 0 0)∧w=w':=by
 have qU:∀w,(binOp BinOp.eql 113 (.slice none 0 0) (.slice none 0 0)).run prog w=.ok (.bool true) w:=fun _=>by kernel_rfl
 go_enter func325,ntmps325
 go_wp2
 go_ret
 exact⟨rfl,rfl⟩
structure WtAt (w0:World) (M Z:Nat) (a b:Nat) (v:Value) (es:List Pl.Ev) (w:World):Prop where
 ms:w.heap[M]?=some (.cells #[.int .i64 5,.int .i64 a,.int .i64 b,.int .i64 0,.int .i64 0,.int .i64 0,.int .i64 0,.int .i64 0,.int .i64 0,.int .i64 0,.int .i64 0,.int .i64 0,.int .i64 0,.slice none 0 0,v,.slice none 0 0] 115 (0,0))
 zs:w.heap[Z]?=some (.cells Qnn 115 (0,0))
 ow:OwnR kEv w0.heap.size w v es
 be:Below w0.heap.size w0 w
 geo:w0.heap.size≤M∧M≠Z
theorem WtAt.below {w0 w w':World} {M Z a b:Nat} {v:Value} {es:List Pl.Ev} (h:WtAt w0 M Z a b v es w) (hb:Below w.heap.size w w'):WtAt w0 M Z a b v es w':=
 ⟨zC h.ms hb,zC h.zs hb,h.ow.below hb,h.be.trans (hb.mono h.be.size),h.geo⟩
theorem WtAt.low {w0 w w':World} {M Z a b:Nat} {v:Value} {es:List Pl.Ev} (h:WtAt w0 M Z a b v es w) (k:∀g,g<w.heap.size→w'.heap[g]?=w.heap[g]?) (hb:Below w0.heap.size w0 w'):WtAt w0 M Z a b v es w':=
 ⟨(k _ (gsi.1 h.ms).1).trans h.ms,(k _ (gsi.1 h.zs).1).trans h.zs,h.ow.keep (fun g hg=>by
  obtain⟨cs,hcs⟩:=zK h.ow hg
  exact k g (gsi.1 hcs).1),hb,h.geo⟩
theorem wT {w w':World} {row:Option Nat} {g t T:Nat} {cs:Array Value} (hg:w.grownBy w' row) (qD:∀g,row=some g→∃cs,w.heap[g]?=some (.cells cs T (0,0))) (h:w.heap[g]?=some (.cells cs t (0,0))) (ht:t≠T):w'.heap[g]?=some (.cells cs t (0,0)):=yT hg qD h ht
theorem with_ok (a b:Nat) (ao:Option Addr) (n cap:Nat) (v:Value) (es:List Pl.Ev) (w:World) (h:RowC kEv w v es) (hn:es.length≤1000) (hi:∀e∈es,Is w e) (hrm:∀e∈es,e.rm.length≤96) :
  Calls prog 277 #[.agg (Qtk 5 (a:Int) (b:Int) (.slice ao n cap)),v] w fun r w'=>∃ao' cap' es',r=.returned (.agg (Qtk 5 (a:Int) (b:Int) (.slice ao' es.length cap')))∧OwnR kEv w.heap.size w' (.slice ao' es.length cap') es'∧Rep w' es' es∧Below w.heap.size w w':=by
 obtain⟨hx,hy,b1⟩:=zU w (.cells (Qtk 5 (a:Int) (b:Int) (.slice ao n cap)) 115) (.cells Qnn 115)
 obtain⟨aos,caps,rfl⟩:=h.form
 have HX:=zA hx
 have HY:=zA hy
 have HB:=zA b1
 have HR:=zA (fun (W:World) (hW:Below w.heap.size w W)=>h.below hW)
 have HN:=zA hn
 have HIS:=zA hi
 have HRM:=zA hrm
 clear hx hy b1 h hn hi hrm
 go_enter func277,ntmps277
 go_wp2_with fail
 generalize (w.alloc (.cells (Qtk 5 (a:Int) (b:Int) (.slice ao n cap)) 115)).alloc (.cells Qnn 115)=W0 at *
 refine zD (fun W=>W.heap[w.heap.size]?=some (.cells (Qtk 5 (a:Int) (b:Int) (.slice ao n cap)) 115 (0,0))) 99 lE HX.out (fun qB=>?_)
 refine tkp 0 7 rfl ?_
 refine tk 1 8 rfl (by intro wS hSw;have q13:=cc 13 hSw;clear hSw;go_simp;(try with_reducible rfl)) ?_
 refine tkp 3 10 rfl ?_
 refine tk 4 11 rfl (by intro wS hSw;have q15:=cc 15 hSw;clear hSw;go_simp;(try with_reducible rfl)) ?_
 refine t1 2 rfl (fun K hK=>?_)
 go_simp
 refine(sJ _).mono ?_
 rintro e w' ⟨rfl,rfl⟩
 refine hK.out _ _ (fun _=>qB) (fun _=>?_)
 clear hK K
 try simp only[zP]
 refine tkp 6 13 rfl ?_
 refine t1 5 rfl (fun K hK=>?_)
 go_simp
 refine(mclone_nil _).mono ?_
 rintro e w' ⟨rfl,rfl⟩
 refine hK.out _ _ (fun _=>qB) (fun _=>?_)
 clear hK K
 try simp only[zP]
 have m13:=cc 13 HX.out
 have f13:=zB HX.out 13
 have m15:=cc 15 HX.out
 have f15:=zB HX.out 15
 have i13:W0.setCell ⟨w.heap.size,13,none⟩ (.slice none 0 0)=W0:=zN HX.out (j:=13) (v:=.slice none 0 0) rfl
 have i15:W0.setCell ⟨w.heap.size,15,none⟩ (.slice none 0 0)=W0:=zN HX.out (j:=15) (v:=.slice none 0 0) rfl
 refine t1 7 rfl (fun K hK=>?_)
 go_simp
 refine hK.out _ _ (fun _=>HX.out) (fun _=>?_)
 clear hK K
 try simp only[zP]
 refine tkp 8 14 rfl ?_
 refine t1 9 rfl (fun K hK=>?_)
 go_simp
 refine hK.out _ _ (fun _=>HX.out) (fun _=>?_)
 clear hK K
 try simp only[zP]
 refine wd ?_
 clear qB m13 f13 m15 f15 i13 i15
 have HX1:Hid (W0.drew.heap[w.heap.size]?=_):=zA ((xP _ _).trans HX.out)
 have HY1:Hid (W0.drew.heap[w.heap.size+1]?=_):=zA ((xP _ _).trans HY.out)
 have HB1:=zA HB.out.drew
 clear HX HY HB
 generalize W0.drew=W1 at *
 have m14:=cc 14 HX1.out
 have f14:=zB HX1.out 14
 have hs2:=zF (j:=14) HX1.out (.slice none 0 0)
 simp only[zP]at hs2
 have HW2:Hid (WtAt w w.heap.size (w.heap.size+1) a b (.slice none 0 0) [] (W1.setCell ⟨w.heap.size,14,none⟩ (.slice none 0 0))):=zA ⟨hs2,(Below.heap_setCell _ _ _ _ (fun e=>by have e':w.heap.size+1=w.heap.size:=e;omega)).trans HY1.out,yJ _ _ _,zM HB1.out (Nat.le_refl _) 14 _,Nat.le_refl _,by omega⟩
 clear hs2 HX1 HY1 HB1
 go_wp2_with fail
 clear m14 f14
 generalize W1.setCell ⟨w.heap.size,14,none⟩ (.slice none 0 0)=W2 at *
 go_loopw [18] (fun i wr=>∃(k:Nat),k≤es.length∧i=.int .i64 k∧∃ao' cap' es',WtAt w w.heap.size (w.heap.size+1) a b (.slice ao' k cap') es' wr∧Rep wr es' (es.take k)) (fun i _=>es.length - (intOf i).toNat)
 case atStart=>exact⟨0,by omega,rfl,_,_,[],HW2.out,Rep.nil _⟩
 case round=>
  obtain⟨k,hk,rfl,aov,capv,es',hw,hrp⟩:=hrel
  by_cases hlt:k<es.length
  ·obtain⟨g,off,cap',e1,hg,c0,c1,c2,c3,c4,c5,c6,c7,c8,c9,c10,c11,c12,c13⟩:=xS (HR.out _ hw.be) hlt
   cases e1
   have a1:(k:Int)+1≤9223372036854775807:=by have:=HN.out;omega
   have b2:=bn wr (.cells (es[k]) 175)
   have HTK:=zA (List.take_succ_eq_append_getElem hlt)
   have HLK:=zA (show es'.length=k by rw[hrp.len,List.length_take];omega)
   have HWR:=zA hw
   have HRR:=zA hrp
   have HB2:=zA b2
   have HIV:=zA (((HIS.out _ (List.getElem_mem hlt)).below hw.be).below b2)
   have HLV:=zA (HRM.out _ (List.getElem_mem hlt))
   have hw2:=hw.below b2
   have qK:=heap_alloc_new wr (.cells (es[k]) 175)
   clear b2 hw hrp
   generalize es[k]=ev at *
   obtain⟨d0,d1,d2,d3,d4,d5,d6,d7,d8,d9,d10,d11,d12,d13⟩:=c14 qK
   have HNW:=zA qK
   have m14:=cc 14 hw2.ms
   clear qK hw2
   go_wp2_with fail
   clear c0 c1 c2 c3 c4 c5 c6 c7 c8 c9 c10 c11 c12 c13
   generalize wr.alloc (.cells ev 175)=W4 at *
   clear d0 d1 d2 d3 d4 d5 d6 d7 d8 d9 d10 d11 d12 d13 m14
   refine(uX ev W4 HLV.out HIV.out).mono ?_
   rintro x wc ⟨ro,rc,rfl,hi5,hb5⟩
   have hx5:=zZ hb5 HNW.out
   have fx:=zB hx5 13
   have d13:=cc 13 hx5
   have hx6:=zF (j:=13) hx5 (.slice ro ev.rm.length rc)
   rw[wL]at hx6
   have hlow:∀g,g<wr.heap.size→(wc.setCell ⟨wr.heap.size,13,none⟩ (.slice ro ev.rm.length rc)).heap[g]?=wr.heap[g]?:=fun g hg=>
    (Below.heap_setCell _ _ _ _ (show g≠wr.heap.size by omega)).trans ((hb5.block g (Nat.lt_of_lt_of_le hg HB2.out.size)).trans (HB2.out.block g hg))
   have hbe:=zM ((HWR.out.be.trans (HB2.out.mono HWR.out.be.size)).trans (hb5.mono (Nat.le_trans HWR.out.be.size HB2.out.size))) HWR.out.be.size 13 (.slice ro ev.rm.length rc)
   have HW3:=zA (HWR.out.low hlow hbe)
   have HR3:=zA (HRR.out.keep (fun g cs fr hg=>hlow g (gsi.1 hg).1))
   have hi6:Is (wc.setCell ⟨wr.heap.size,13,none⟩ (.slice ro ev.rm.length rc)) (ev.mv ro rc):=DotsT.keep hi5 (fun g cs fr hg=>Below.heap_setCell _ _ _ _ (fun y=>by
    rw[show g=wr.heap.size from y,hx5]at hg;exact zH lF hg))
   have HI6:=zA hi6
   have HAB:=zA (show(ev.mv ro rc).abs=ev.abs from rfl)
   clear hi5 hb5 hx5 hlow hbe hi6
   generalize ev.mv ro rc=ex at *
   generalize hwc:wc.setCell ⟨wr.heap.size,13,none⟩ (.slice ro ev.rm.length rc)=Wc at *
   have e13:=d13
   clear d13
   obtain⟨d0,d1,d2,d3,d4,d5,d6,d7,d8,d9,d10,d11,d12,d13⟩:=c14 hx6
   have m14:=cc 14 HW3.out.ms
   clear hx6
   have b8:=bn Wc (.cells (eva ex) 175)
   have HR5:=zA (HR3.out.below b8)
   have HI5:=zA (HI6.out.below b8)
   have HW5:=zA (HW3.out.below b8)
   have HL1:=zA (show es'.length+[ex].length≤1000000 by have h1:[ex].length=1:=rfl;have:=HN.out;rw[h1,HLK.out];omega)
   have qI:=zA (yK kEv Wc [ex] (eva ex) 1 rfl (by simp[Rk.encs,kEv]))
   clear b8 HW3 HR3 HI6
   go_wp2_with (
    at_builtin
    refine yU kEv rfl (.tmp 27) (.tmp 29) rfl rfl HW5.out.ow rfl qI.out HL1.out HW5.out.be HW5.out.be.size ?_
    intro v1 w6 hown1 hb1 hg1
    obtain⟨aon,capn,hv1⟩:∃x y,v1=.slice x (k+1) y:=by
     obtain⟨x,y,e⟩:=hown1.toT.form
     exact⟨x,y,by rw[e,List.length_append,HLK.out];rfl⟩
    subst hv1
    have qD:∀(g:Nat),(Value.slice aov k capv).ownBlock=some g→_:=fun g hg=>zK HW5.out.ow hg
    have hm:=wT hg1 qD HW5.out.ms lF
    have hz:=wT hg1 qD HW5.out.zs lF
    have n14:=cc 14 hm
    have fn14:=zB hm 14
    have hs2:=zF (j:=14) hm (.slice aon (k+1) capn)
    simp only[zP]at hs2
    have HW7:Hid (WtAt w w.heap.size (w.heap.size+1) a b (.slice aon (k+1) capn) (es'++[ex]) (w6.setCell ⟨w.heap.size,14,none⟩ (.slice aon (k+1) capn))):=zA ⟨hs2,(Below.heap_setCell _ _ _ _ (fun e=>by have e':w.heap.size+1=w.heap.size:=e;omega)).trans hz,hown1.keep (fun g hg=>by
     obtain⟨cs,hcs⟩:=zK hown1 hg
     exact Below.heap_setCell _ _ _ _ (fun e=>by rw[show g=w.heap.size from e,hm]at hcs;exact zH lF hcs)),zM hb1 (Nat.le_refl _) 14 _,Nat.le_refl _,by omega⟩
    have HR7:=zA ((HR5.out.snoc HAB.out HI5.out).keep (w':=w6.setCell ⟨w.heap.size,14,none⟩ (.slice aon (k+1) capn)) (fun g cs fr hg=>(Below.heap_setCell _ _ _ _ (fun e=>by have h:=yT hg1 qD hg lF;rw[show g=w.heap.size from e,hm]at h;exact zH lF h)).trans ((yT hg1 qD hg lF).trans hg.symm)))
    clear hs2 hown1 hb1 hg1 qD hm hz)
   exact⟨⟨k+1,by omega,rfl,aon,capn,es'++[ex],HW7.out,by rw[HTK.out];exact HR7.out⟩,by simp[intOf];omega⟩
  ·obtain rfl:k=es.length:=by omega
   rw[List.take_length]at hrp
   have HWF:=zA hw
   have hx9:=yL hw.zs (Qtk 5 (a:Int) (b:Int) (.slice aov es.length capv))
   have HX9:=zA hx9
   have HB9:=zA (show Below w.heap.size w (wr.setRow (w.heap.size+1) (Qtk 5 (a:Int) (b:Int) (.slice aov es.length capv)))from((Off.of_below (F:=fun _=>False) hw.be).setRow (w.heap.size+1) (.inr (Nat.le_succ _)) _).below (fun _ _ h=>h))
   have HO9:=zA (hw.ow.keep (w':=wr.setRow (w.heap.size+1) (Qtk 5 (a:Int) (b:Int) (.slice aov es.length capv))) (fun g hg=>by
    obtain⟨cs,hcs⟩:=zK hw.ow hg
    exact yH _ _ _ _ (fun e=>by rw[e,hw.zs]at hcs;exact zH lF hcs)))
   have HP9:=zA (hrp.keep (w':=wr.setRow (w.heap.size+1) (Qtk 5 (a:Int) (b:Int) (.slice aov es.length capv))) (fun g cs fr hg=>yH _ _ _ _ (fun e=>by rw[e,hw.zs]at hg;exact zH lF hg)))
   clear hw hx9 hlt hk hrp
   go_wp2_with (first
    | refine zI rfl 115 (.tmp 2) w.heap.size (Qtk 5 (a:Int) (b:Int) (.slice aov es.length capv)) 115 (0,0) _ rfl rfl HWF.out.ms underlying115 rfl lE ?_
    | refine zR rfl 115 (.tmp 4) (.tmp 33) (w.heap.size+1) Qnn (Qtk 5 (a:Int) (b:Int) (.slice aov es.length capv)) 115 rfl rfl rfl rfl HWF.out.zs lE rfl lE ?_)
   generalize wr.setRow (w.heap.size+1) (Qtk 5 (a:Int) (b:Int) (.slice aov es.length capv))=Z at *
   have m0:=cc 0 HX9.out
   have m1:=cc 1 HX9.out
   have m2:=cc 2 HX9.out
   have m3:=cc 3 HX9.out
   have m4:=cc 4 HX9.out
   have m5:=cc 5 HX9.out
   have m6:=cc 6 HX9.out
   have m7:=cc 7 HX9.out
   have m8:=cc 8 HX9.out
   have m9:=cc 9 HX9.out
   have m10:=cc 10 HX9.out
   have m11:=cc 11 HX9.out
   have m12:=cc 12 HX9.out
   have m13:=cc 13 HX9.out
   have m14:=cc 14 HX9.out
   have m15:=cc 15 HX9.out
   exact bodyPost_ret (v:=.agg (Qtk 5 (a:Int) (b:Int) (.slice aov es.length capv))) (by simp[results,results277,go_sem,m0,m1,m2,m3,m4,m5,m6,m7,m8,m9,m10,m11,m12,m13,m14,m15]) rfl ⟨_,_,es',rfl,HO9.out,HP9.out,HB9.out⟩
end
end Go.Proofs.YtodlmbfbfaofcaaGreat
