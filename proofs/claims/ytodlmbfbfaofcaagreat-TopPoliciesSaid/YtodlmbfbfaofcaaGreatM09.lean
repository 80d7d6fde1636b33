/- TopPolicies, part 9. -/
import Derived.Test.YtodlmbfbfaofcaaGreatM01
import Derived.Test.YtodlmbfbfaofcaaGreatM02
import Derived.Test.YtodlmbfbfaofcaaGreatM04
import Derived.Test.YtodlmbfbfaofcaaGreatM08
open Go.Proofs.Tryz
namespace Go.Proofs.YtodlmbfbfaofcaaGreat
set_option linter.unusedVariables false
set_option linter.unusedSimpArgs false
set_option maxRecDepth 100000
set_option maxHeartbeats 1000000
section
open Go.RowKit Rw Rh
theorem bump_full (F:Nat→Prop) (s:Nat) (size:Int) (bs:List Int) (used upto:Int) (inc:Nat) (es:List Pl.Ev) (w:World) (h:StAt F w s size bs used upto inc es) (hl:bs.length≤900000) (hs:0≤size) (hs':size≤16384) (hi:inc<1099511627776)
  (hf:size<bs.length+(Pl.frame (2::Pl.vint (inc+1))).length) :
  Calls prog 212 #[Qp s] w fun e w'=>e=.returned (.tuple (Qi 0 7))∧Below w.heap.size w w':=by
 have b1:Below w.heap.size w (w.alloc (.cells (Qo 0) 41)):=bn _ _
 have hx:=heap_alloc_new w (.cells (Qo 0) 41)
 have hslt:=h.lt
 have h1:=h.below b1
 obtain⟨d,v,_,_,_,c3,_,_,_⟩:=h1.cells
 have HT:=zA (tG 2 (inc+1) (w.alloc (.cells (Qo 0) 41)) lD)
 have hv6:=Pl.vint_len6 (n:=inc+1) lD
 have HW:=zA (fun (W:World) (hW:Below (w.alloc (.cells (Qo 0) 41)).heap.size (w.alloc (.cells (Qo 0) 41)) W) (v':Value) (hv':BytesC W v' (2::Pl.vint (inc+1)))=>wX F s size bs (2::Pl.vint (inc+1)) used upto inc es v' W (h1.below hW) hl hs hs' hv' (by simp;omega) hf)
 have HB:=zA b1
 have HX:=zA hx
 have a1:(inc:Int)<1099511627776:=by omega
 have e1:(inc:Int)+1=((inc+1:Nat):Int):=by omega
 clear h b1 hx h1 hf hv6
 generalize hi1:((inc+1:Nat):Int)=inc1 at *
 generalize inc+1=incN at *
 go_enter_defers func212,ntmps212
 go_wp2_with fail
 refine(xW (by simp[a1])).mono ?_
 rintro e w' ⟨rfl,rfl⟩
 go_wp2_with fail
 refine HT.out.mono ?_
 rintro e w2 ⟨v2,rfl,O2,b2⟩
 have x2:=(b2.block _ (gsi.1 HX.out).1).trans HX.out
 have HX2:=zA x2
 have HB2:=zA (HB.out.trans (b2.mono HB.out.size))
 have HW2:=zA (HW.out w2 b2 v2 O2.toT.toC)
 clear O2 b2 x2 HT HW
 go_wp2_with fail
 refine HW2.out.mono ?_
 rintro e w3 ⟨rfl,b3⟩
 have x3:=(b3.block _ (gsi.1 HX2.out).1).trans HX2.out
 have HB3:=zA (HB2.out.trans (b3.mono HB2.out.size))
 have HX3:=zA x3
 clear b3 x3 HW2
 go_wp2_with fail
 refine leaves_cons (f:=283) (args:=#[Qp w.heap.size]) (by simp) (by simp[go_sem]) ?_
 have hlt:=(gsi.1 HX3.out).1
 refine(wO ⟨w.heap.size,0,none⟩ 7 0 [] _ (zE HX3.out rfl) (zB HX3.out 0)).mono ?_
 rintro e u' w'' ⟨rfl,rfl,rfl⟩
 have hz:=zM (HB3.out.alloc HB3.out.size (.cells (Qo 7) 444)) (Nat.le_refl _) 0 (.int .i64 7)
 have cz:((w3.alloc (.cells (Qo 7) 444)).setCell ⟨w.heap.size,0,none⟩ (.int .i64 7)).cell? ⟨w.heap.size,0,none⟩=some (.int .i64 7):=World.cell?_setCell_same _ _ _ ((World.cell?_alloc_lt _ _ _ hlt).trans (zE HX3.out rfl))
 generalize (w3.alloc (.cells (Qo 7) 444)).setCell ⟨w.heap.size,0,none⟩ (.int .i64 7)=Z at *
 simp[Leaves,settle,results,results212,go_sem,cz]
 exact hz
theorem next_old (F:Nat→Prop) (s:Nat) (size:Int) (bs:List Int) (used upto inc:Int) (es:List Pl.Ev) (w:World) (h:StAt F w s size bs used upto inc es) (h0:0≤used) (h1:used<upto) (h2:upto≤96) :
  Calls prog 306 #[Qp s] w fun e w'=>e=.returned (.tuple (Qi (used+1) 0))∧StAt F w' s size bs (used+1) upto inc es∧Off F w w':=by
 have b1:Below w.heap.size w (w.alloc (.cells (Qo 0) 41)):=bn _ _
 have hx:=heap_alloc_new w (.cells (Qo 0) 41)
 have hslt:=h.lt
 have S1:=h.below (b1.drew)
 obtain⟨d,v,c0,c1,c2,c3,c4,fz,hr,hd,ho,hv⟩:=S1.cells
 have f1:=fz 1
 have ee:(used == upto)=false:=by simp;omega
 have S2:=StAt.set (used':=used+1) (upto':=upto) (inc':=inc) S1.1 hr hd ho hv 1 (used+1) (fun i hi=>by
  rcases i with _ | _ | _ | _ | _ | i
  ·rfl
  ·rfl
  ·rfl
  ·rfl
  ·rfl
  ·omega)
 have hsw:s≠w.heap.size:=by omega
 have x4:=(Below.heap_setCell (w.alloc (.cells (Qo 0) 41)).drew ⟨s,1,none⟩ (.int .i64 (used+1)) w.heap.size (fun e=>hsw e.symm)).trans hx
 have HS2:=zA S2
 have HX4:=zA x4
 have HO:=zA (((Off.of_below (F:=F) b1.drew).set (a:=⟨s,1,none⟩) (.inl h.1) (.int .i64 (used+1))).set (a:=⟨w.heap.size,0,none⟩) (.inr (Nat.le_refl _)) (.int .i64 0))
 have k4:=World.cell?_setCell_same (w.alloc (.cells (Qo 0) 41)).drew ⟨s,1,none⟩ (.int .i64 (used+1)) c1
 have d4:=cc 0 x4
 have g4:=zB x4 0
 have a1:used+1≤9223372036854775807:=by omega
 have a2 : -9223372036854775808≤used+1:=by omega
 clear h b1 hx S1 hr hd ho hv S2 x4 fz c0 c3 c4
 go_enter_defers func306,ntmps306
 go_wp2_with fail
 refine zD (fun w'=>w'.cell? ⟨s,1,none⟩=some (.int .i64 used)∧w'.cell? ⟨s,2,none⟩=some (.int .i64 upto)) 99 lE ⟨c1,c2⟩ (fun qB=>?_)
 refine xV 0 7 rfl ?_
 refine xV 1 8 rfl ?_
 refine xV 2 9 rfl ?_
 refine xV 3 10 rfl ?_
 refine xV 4 11 rfl ?_
 refine xV 5 12 rfl ?_
 refine xV 6 13 rfl ?_
 refine xV 7 14 rfl ?_
 clear qB
 refine t1 8 rfl (fun K hK=>?_)
 go_simp
 refine hK.out _ _ (fun _=>⟨c1,c2⟩) (fun _=>?_)
 clear hK K
 try simp only[zP]
 refine wd ?_
 generalize (w.alloc (.cells (Qo 0) 41)).drew=W0 at *
 go_wp2_with fail
 refine leaves_cons (f:=283) (args:=#[Qp w.heap.size]) (by simp) (by simp[go_sem]) ?_
 refine(wA _ _).mono ?_
 rintro e u' w'' ⟨rfl,rfl,rfl⟩
 have S5:=HS2.out.other HX4.out lF 0 (.int .i64 0)
 have O5:=HO.out
 have cz:=World.cell?_setCell_same (W0.setCell ⟨s,1,none⟩ (.int .i64 (used+1))) ⟨w.heap.size,0,none⟩ (.int .i64 0) d4
 generalize (W0.setCell ⟨s,1,none⟩ (.int .i64 (used+1))).setCell ⟨w.heap.size,0,none⟩ (.int .i64 0)=Z at *
 simp[Leaves,settle,results,results306,go_sem,cz]
 exact⟨S5,O5⟩
theorem min_run (x y:Int) (W:World):Sem.run prog (Builtin.min_ #[3,3] 3 (Qi x y)) W=.ok (.int .i64 (min x y)) W:=by
 unfold Builtin.min_
 simp[Builtin.min2]
 split<;>omega
theorem next_new (F:Nat→Prop) (s:Nat) (size:Int) (bs:List Int) (u m:Nat) (inc:Int) (es:List Pl.Ev) (w:World) (h:StAt F w s size bs u u inc es) (hin:∀g,F g→g<w.heap.size) (hu:u<96) (hm:m=min (u+8) 96) (hl:bs.length≤900000) (hs:0≤size) (hs':size≤16384) (hf:(bs.length:Int)+(Pl.frame (1::Pl.vint m)).length≤size) :
  Calls prog 306 #[Qp s] w fun e w'=>e=.returned (.tuple (Qi ((u:Int)+1) 0))∧StAt (fun g=>F g∨w.heap.size≤g) w' s size (bs++Pl.frame (1::Pl.vint m)) ((u:Int)+1) m inc es∧Off F w w':=by
 have b1:Below w.heap.size w (w.alloc (.cells (Qo 0) 41)):=bn _ _
 have hx:=heap_alloc_new w (.cells (Qo 0) 41)
 have hslt:=h.lt
 have S1:=h.below (b1.drew)
 have hFs:=h.1
 obtain⟨d,v,c0,c1,c2,c3,c4,fz,hr,hd,ho,hv⟩:=S1.cells
 have ee:((u:Int) == (u:Int))=true:=by simp
 have em:∀W,Sem.run prog (Builtin.min_ #[3,3] 3 (Qi ((u:Int)+8) 96)) W=.ok (.int .i64 m) W:=fun W=>by rw[min_run,show min ((u:Int)+8) 96=(m:Int)from by omega]
 have em2:(u:Int)<m:=by omega
 have a0:(u:Int)+8≤9223372036854775807:=by omega
 have HT:=zA (tG 1 m (w.alloc (.cells (Qo 0) 41)).drew lD)
 have hv6:=Pl.vint_len6 (n:=m) lD
 have HW:=zA (fun (W:World) (hW:Below (w.alloc (.cells (Qo 0) 41)).drew.heap.size (w.alloc (.cells (Qo 0) 41)).drew W) (v':Value) (hv':BytesC W v' (1::Pl.vint m))=>uS F s size bs (1::Pl.vint m) u u inc es v' W (S1.below hW) hl hs hs' hv' (by simp;omega) hf)
 have HB:=zA b1.drew
 have HX:=zA (show(w.alloc (.cells (Qo 0) 41)).drew.heap[w.heap.size]?=some (.cells (Qo 0) 41 (0,0))from hx)
 have HIN:=zA hin
 have HU:=zA hu
 have HM:=zA hm
 clear h b1 hx S1 hr hd ho hv fz c0 c3 c4 hv6 hm hin hf
 go_enter_defers func306,ntmps306
 go_wp2_with fail
 refine zD (fun w'=>w'.cell? ⟨s,1,none⟩=some (.int .i64 u)∧w'.cell? ⟨s,2,none⟩=some (.int .i64 u)) 99 lE ⟨c1,c2⟩ (fun qB=>?_)
 refine xV 0 7 rfl ?_
 refine xV 1 8 rfl ?_
 refine xV 2 9 rfl ?_
 refine xV 3 10 rfl ?_
 refine xV 4 11 rfl ?_
 refine xV 5 12 rfl ?_
 refine xV 6 13 rfl ?_
 refine xV 7 14 rfl ?_
 clear qB
 refine t1 8 rfl (fun K hK=>?_)
 go_simp
 refine hK.out _ _ (fun _=>⟨c1,c2⟩) (fun _=>?_)
 clear hK K
 try simp only[zP]
 refine wd ?_
 generalize (w.alloc (.cells (Qo 0) 41)).drew=W0 at *
 go_wp2_with fail
 refine(xW (by first | (simp;done) | (simp;omega))).mono ?_
 rintro e w' ⟨rfl,rfl⟩
 go_wp2_with fail
 refine HT.out.mono ?_
 rintro e w2 ⟨v2,rfl,O2,b2⟩
 have x2:=(b2.block _ (gsi.1 HX.out).1).trans HX.out
 have HX2:=zA x2
 have HB2:=zA (HB.out.trans (b2.mono HB.out.size))
 have HW2:=zA (HW.out w2 b2 v2 O2.toT.toC)
 clear O2 b2 x2 HT HW
 go_wp2_with fail
 refine HW2.out.mono ?_
 rintro e w3 ⟨rfl,S3,O3⟩
 obtain⟨d3,v3,q0,q1,q2,q3,q4,fz,hr3,hd3,ho3,hv3⟩:=S3.cells
 have x3:=(O3.same w.heap.size (gsi.1 HX2.out).1 (fun hf=>by have:=HIN.out _ hf;omega)).trans HX2.out
 have hs2:=HB2.out.size
 have hsw:s≠w.heap.size:=by omega
 have f1:=fz 1
 have f2:=fz 2
 have S4:=StAt.set (used':=(u:Int)) (upto':=m) (inc':=inc) S3.1 hr3 hd3 ho3 hv3 2 m (fun i hi=>by
  rcases i with _ | _ | _ | _ | _ | i
  ·rfl
  ·rfl
  ·rfl
  ·rfl
  ·rfl
  ·omega)
 obtain⟨d4,v4,p0,p1,p2,p3,p4,gz,hr4,hd4,ho4,hv4⟩:=S4.cells
 have g1:=gz 1
 have S5:=StAt.set (used':=(u:Int)+1) (upto':=m) (inc':=inc) S4.1 hr4 hd4 ho4 hv4 1 ((u:Int)+1) (fun i hi=>by
  rcases i with _ | _ | _ | _ | _ | i
  ·rfl
  ·rfl
  ·rfl
  ·rfl
  ·rfl
  ·omega)
 have x4:=(Below.heap_setCell w3 ⟨s,2,none⟩ (.int .i64 m) w.heap.size (fun e=>hsw e.symm)).trans x3
 have x5:=(Below.heap_setCell (w3.setCell ⟨s,2,none⟩ (.int .i64 m)) ⟨s,1,none⟩ (.int .i64 ((u:Int)+1)) w.heap.size (fun e=>hsw e.symm)).trans x4
 have c5:=cc 0 x5
 have f5:=zB x5 0
 have k5:=World.cell?_setCell_same (w3.setCell ⟨s,2,none⟩ (.int .i64 m)) ⟨s,1,none⟩ (.int .i64 ((u:Int)+1)) p1
 have HX5:=zA x5
 have HS5:=zA S5
 have HO5:=zA (((O3.after HB2.out (G:=F) (fun g _ hg=>hg)).set (a:=⟨s,2,none⟩) (.inl hFs) (.int .i64 m)).set (a:=⟨s,1,none⟩) (.inl hFs) (.int .i64 ((u:Int)+1)))
 have HSZ:=zA hs2
 have a1:(u:Int)+1≤9223372036854775807:=by omega
 have a2 : -9223372036854775808≤(u:Int)+1:=by omega
 clear S3 O3 q0 q1 q3 q4 fz hr3 hd3 ho3 hv3 x3 S4 S5 x4 x5 p0 p2 p3 p4 gz hr4 hd4 ho4 hv4 HW2 c1 c2 em a0
 go_wp2_with fail
 refine leaves_cons (f:=283) (args:=#[Qp w.heap.size]) (by simp) (by simp[go_sem]) ?_
 refine(wA _ _).mono ?_
 rintro e u' w'' ⟨rfl,rfl,rfl⟩
 have S6:=(HS5.out.mono (fun g hg=>hg.imp id (fun h=>Nat.le_trans HSZ.out h))).other HX5.out lF 0 (.int .i64 0)
 have O6:=HO5.out.set (a:=⟨w.heap.size,0,none⟩) (.inr (Nat.le_refl _)) (.int .i64 0)
 have cz:=World.cell?_setCell_same ((w3.setCell ⟨s,2,none⟩ (.int .i64 m)).setCell ⟨s,1,none⟩ (.int .i64 ((u:Int)+1))) ⟨w.heap.size,0,none⟩ (.int .i64 0) c5
 generalize ((w3.setCell ⟨s,2,none⟩ (.int .i64 m)).setCell ⟨s,1,none⟩ (.int .i64 ((u:Int)+1))).setCell ⟨w.heap.size,0,none⟩ (.int .i64 0)=Z at *
 simp[Leaves,settle,results,results306,go_sem,cz]
 exact⟨S6,O6⟩
theorem next_room (F:Nat→Prop) (s:Nat) (size:Int) (bs:List Int) (u m:Nat) (inc:Int) (es:List Pl.Ev) (w:World) (h:StAt F w s size bs u u inc es) (hin:∀g,F g→g<w.heap.size) (hu:u<96) (hm:m=min (u+8) 96) (hl:bs.length≤900000) (hs:0≤size) (hs':size≤16384) (hf:size<bs.length+(Pl.frame (1::Pl.vint m)).length) :
  Calls prog 306 #[Qp s] w fun e w'=>e=.returned (.tuple (Qi 0 7))∧Below w.heap.size w w':=by
 have b1:Below w.heap.size w (w.alloc (.cells (Qo 0) 41)):=bn _ _
 have hx:=heap_alloc_new w (.cells (Qo 0) 41)
 have hslt:=h.lt
 have S1:=h.below (b1.drew)
 have hFs:=h.1
 obtain⟨d,v,c0,c1,c2,c3,c4,fz,hr,hd,ho,hv⟩:=S1.cells
 have ee:((u:Int) == (u:Int))=true:=by simp
 have em:∀W,Sem.run prog (Builtin.min_ #[3,3] 3 (Qi ((u:Int)+8) 96)) W=.ok (.int .i64 m) W:=fun W=>by rw[min_run,show min ((u:Int)+8) 96=(m:Int)from by omega]
 have em2:(u:Int)<m:=by omega
 have a0:(u:Int)+8≤9223372036854775807:=by omega
 have HT:=zA (tG 1 m (w.alloc (.cells (Qo 0) 41)).drew lD)
 have hv6:=Pl.vint_len6 (n:=m) lD
 have HW:=zA (fun (W:World) (hW:Below (w.alloc (.cells (Qo 0) 41)).drew.heap.size (w.alloc (.cells (Qo 0) 41)).drew W) (v':Value) (hv':BytesC W v' (1::Pl.vint m))=>wX F s size bs (1::Pl.vint m) u u inc es v' W (S1.below hW) hl hs hs' hv' (by simp;omega) hf)
 have HB:=zA b1.drew
 have HX:=zA (show(w.alloc (.cells (Qo 0) 41)).drew.heap[w.heap.size]?=some (.cells (Qo 0) 41 (0,0))from hx)
 have HIN:=zA hin
 have HU:=zA hu
 have HM:=zA hm
 clear h b1 hx S1 hr hd ho hv fz c0 c3 c4 hv6 hm hin hf
 go_enter_defers func306,ntmps306
 go_wp2_with fail
 refine zD (fun w'=>w'.cell? ⟨s,1,none⟩=some (.int .i64 u)∧w'.cell? ⟨s,2,none⟩=some (.int .i64 u)) 99 lE ⟨c1,c2⟩ (fun qB=>?_)
 refine xV 0 7 rfl ?_
 refine xV 1 8 rfl ?_
 refine xV 2 9 rfl ?_
 refine xV 3 10 rfl ?_
 refine xV 4 11 rfl ?_
 refine xV 5 12 rfl ?_
 refine xV 6 13 rfl ?_
 refine xV 7 14 rfl ?_
 clear qB
 refine t1 8 rfl (fun K hK=>?_)
 go_simp
 refine hK.out _ _ (fun _=>⟨c1,c2⟩) (fun _=>?_)
 clear hK K
 try simp only[zP]
 refine wd ?_
 generalize (w.alloc (.cells (Qo 0) 41)).drew=W0 at *
 go_wp2_with fail
 refine(xW (by first | (simp;done) | (simp;omega))).mono ?_
 rintro e w' ⟨rfl,rfl⟩
 go_wp2_with fail
 refine HT.out.mono ?_
 rintro e w2 ⟨v2,rfl,O2,b2⟩
 have x2:=(b2.block _ (gsi.1 HX.out).1).trans HX.out
 have HX2:=zA x2
 have HB2:=zA (HB.out.trans (b2.mono HB.out.size))
 have HW2:=zA (HW.out w2 b2 v2 O2.toT.toC)
 clear O2 b2 x2 HT HW
 go_wp2_with fail
 refine HW2.out.mono ?_
 rintro e w3 ⟨rfl,b3⟩
 have x3:=(b3.block _ (gsi.1 HX2.out).1).trans HX2.out
 have HB3:=zA (HB2.out.trans (b3.mono HB2.out.size))
 have HX3:=zA x3
 clear b3 x3 HW2
 go_wp2_with fail
 refine leaves_cons (f:=283) (args:=#[Qp w.heap.size]) (by simp) (by simp[go_sem]) ?_
 have hlt:=(gsi.1 HX3.out).1
 refine(wO ⟨w.heap.size,0,none⟩ 7 0 [] _ (zE HX3.out rfl) (zB HX3.out 0)).mono ?_
 rintro e u' w'' ⟨rfl,rfl,rfl⟩
 have hz:=zM (HB3.out.alloc HB3.out.size (.cells (Qo 7) 444)) (Nat.le_refl _) 0 (.int .i64 7)
 have cz:((w3.alloc (.cells (Qo 7) 444)).setCell ⟨w.heap.size,0,none⟩ (.int .i64 7)).cell? ⟨w.heap.size,0,none⟩=some (.int .i64 7):=World.cell?_setCell_same _ _ _ ((World.cell?_alloc_lt _ _ _ hlt).trans (zE HX3.out rfl))
 generalize (w3.alloc (.cells (Qo 7) 444)).setCell ⟨w.heap.size,0,none⟩ (.int .i64 7)=Z at *
 simp[Leaves,settle,results,results306,go_sem,cz]
 exact hz
namespace Pl
def may (n s:Int):Bool:=decide (0≤n)&&(decide (n<8)&&(decide (1≤s)&&decide (s≤96)))
end Pl
theorem may_any (n s:Int) (w:World):Calls prog 263 #[.agg (Qi n s)] w fun e w'=>e=.returned (.bool (Pl.may n s))∧Below w.heap.size w w':=by
 have HX:=zA (fun x=>bn w x)
 by_cases c0:0≤n
 ·have d0:=decide_eq_true c0
  by_cases c1:n<8
  ·have d1:=decide_eq_true c1
   by_cases c2:1≤s
   ·have d2:=decide_eq_true c2
    by_cases c3:s≤96
    ·have d3:=decide_eq_true c3
     have HM:Hid (Pl.may n s=true):=zA (by simp[Pl.may, *])
     go_enter func263,ntmps263
     go_wp2_with fail
     go_ret
     exact⟨congrArg (fun b=>Ending.returned (.bool b)) HM.out.symm,HX.out _⟩
    ·have d3:=decide_eq_false c3
     exact nC
   ·have d2:=decide_eq_false c2
    exact nC
  ·have d1:=decide_eq_false c1
   exact nC
 ·have d0:=decide_eq_false c0
  exact nC
def OpAt (w:World) (o:Nat) (O:Nat→Nat→Bool):Prop:=w.rowIs o 226 784 (fun j=>.bool (O (j / 98) (j%98)))
theorem OpAt.lt {w:World} {o:Nat} {O:Nat→Nat→Bool} (h:OpAt w o O):o<w.heap.size:=World.rowIs.lt h
theorem OpAt.below {w w':World} {o:Nat} {O:Nat→Nat→Bool} (h:OpAt w o O) (hb:Below w.heap.size w w'):OpAt w' o O:=World.rowIs.of_block h (hb.block o h.lt)
theorem OpAt.keep {w w':World} {o:Nat} {O:Nat→Nat→Bool} (h:OpAt w o O) (hb:w'.heap[o]?=w.heap[o]?):OpAt w' o O:=World.rowIs.of_block h hb
theorem OpAt.cell {w:World} {o n s:Nat} {O:Nat→Nat→Bool} (h:OpAt w o O) (hn:n<8) (hs:s<98):w.cell? ⟨o,n*98+s,none⟩=some (.bool (O n s)):=by
 have:=World.rowIs.cell h (i:=n*98+s) lD
 rw[show(n*98+s) / 98=n from by omega,show(n*98+s)%98=s from by omega]at this
 exact this
def Pl.put1 (O:Nat→Nat→Bool) (n s:Nat):Nat→Nat→Bool:=fun a b=>if a=n∧b=s then true else O a b
theorem OpAt.put {w:World} {o n s:Nat} {O:Nat→Nat→Bool} (h:OpAt w o O) (hn:n<8) (hs:s<98):OpAt (w.setCell ⟨o,n*98+s,none⟩ (.bool true)) o (Pl.put1 O n s):=by
 refine(World.rowIs.set h (n*98+s) _).congr (fun i hi=>?_)
 unfold Pl.put1
 by_cases e:i=n*98+s
 ·rw[if_pos e,if_pos (by omega)]
 ·rw[if_neg e,if_neg (by omega)]
theorem put_ok (o n s:Nat) (O:Nat→Nat→Bool) (w:World) (h:OpAt w o O) (hn:n<8) (hs:s<98) :
  Calls prog 206 #[Qp o,.agg (Qi n s)] w fun e w'=>e=.returned (.tuple #[])∧OpAt w' o (Pl.put1 O n s)∧Off (· = o) w w':=by
 have b1:Below w.heap.size w (w.alloc (.cells (Qi n s) 45)):=bn _ _
 have hx:=heap_alloc_new w (.cells (Qi n s) 45)
 have x0:=zE (w:=(w.alloc (.cells (Qi n s) 45)).drew) (j:=0) hx rfl
 have x1:=zE (w:=(w.alloc (.cells (Qi n s) 45)).drew) (j:=1) hx rfl
 have H1:=h.below b1.drew
 have c0:=H1.cell hn hs
 have f0:=World.rowIs.frozen H1 (n*98+s)
 have HP:=zA (H1.put hn hs)
 have HO:=zA ((Off.of_below (F:=(· = o)) b1.drew).set (a:=⟨o,n*98+s,none⟩) (.inl rfl) (.bool true))
 have hn':(n:Int)<8:=by omega
 have hs':(s:Int)<98:=by omega
 have hne:o≠w.heap.size:=by have:=h.lt;omega
 clear h b1 hx H1
 go_enter func206,ntmps206
 go_wp2_with fail
 refine zD (fun w'=>w'.cell? ⟨w.heap.size,0,none⟩=some (.int .i64 n)∧w'.cell? ⟨w.heap.size,1,none⟩=some (.int .i64 s)) 99 lE ⟨x0,x1⟩ (fun qB=>?_)
 refine tkd 0 4 rfl ?_
 refine tkd 1 5 rfl ?_
 refine tkd 2 6 rfl ?_
 refine tkd 3 7 rfl ?_
 refine tkd 4 8 rfl ?_
 refine tkd 5 9 rfl ?_
 refine tkd 6 10 rfl ?_
 refine tkd 7 11 rfl ?_
 generalize (w.alloc (.cells (Qi n s) 45)).drew=W0 at *
 refine t1 8 rfl (fun K hK=>?_)
 go_simp
 refine hK.out _ _ (fun _=>⟨(World.cell?_setCell_other _ _ _ _ (fun e=>hne (congrArg Addr.block e))).trans x0,(World.cell?_setCell_other _ _ _ _ (fun e=>hne (congrArg Addr.block e))).trans x1⟩) (fun _=>?_)
 clear hK K
 refine wd ?_
 go_wp2_with fail
 exact yG results206 ⟨rfl,HP.out,HO.out⟩
def DotsC (w:World) (v:Value) (ds:List (Nat×Nat)):Prop:=
 ∃ao cap,v=.slice ao ds.length cap∧(ao=none→ds=[]∧cap=0)∧∀i (h:i<ds.length),∃g off,ao=some ⟨g,off,none⟩∧g<w.heap.size∧w.cell? ⟨g,off+i*2,none⟩=some (.int .i64 (ds[i]).1)∧w.cell? ⟨g,off+i*2+1,none⟩=some (.int .i64 (ds[i]).2)
def DotsT (w:World) (v:Value) (ds:List (Nat×Nat)):Prop:=
 ∃ao cap,v=.slice ao ds.length cap∧(ao=none→ds=[]∧cap=0)∧∀i (h:i<ds.length),∃g off cs fr,ao=some ⟨g,off,none⟩∧w.heap[g]?=some (Obj.cells cs 45 fr)∧cs[off+i*2]?=some (.int .i64 (ds[i]).1)∧cs[off+i*2+1]?=some (.int .i64 (ds[i]).2)
theorem DotsT.toC {w:World} {v:Value} {ds:List (Nat×Nat)} (h:DotsT w v ds):DotsC w v ds:=by
 obtain⟨ao,cap,h1,h2,h3⟩:=h
 refine⟨ao,cap,h1,h2,fun i hi=>?_⟩
 obtain⟨g,off,cs,fr,e,hg,c0,c1⟩:=h3 i hi
 exact⟨g,off,e,(gsi.1 hg).1,by simp[World.cell?,hg,c0],by simp[World.cell?,hg,c1]⟩
theorem DotsC.below {w w':World} {v:Value} {ds:List (Nat×Nat)} (h:DotsC w v ds) (hb:Below w.heap.size w w'):DotsC w' v ds:=by
 obtain⟨ao,cap,h1,h2,h3⟩:=h
 refine⟨ao,cap,h1,h2,fun i hi=>?_⟩
 obtain⟨g,off,e,hg,c0,c1⟩:=h3 i hi
 exact⟨g,off,e,Nat.lt_of_lt_of_le hg hb.size,(hb.cell (p:=⟨g,off+i*2,none⟩) hg).trans c0,(hb.cell (p:=⟨g,off+i*2+1,none⟩) hg).trans c1⟩
theorem DotsT.keep {w w':World} {v:Value} {ds:List (Nat×Nat)} (h:DotsT w v ds) (k:∀(g:Nat) (cs:Array Value) (fr:Nat×Nat),w.heap[g]?=some (Obj.cells cs 45 fr)→w'.heap[g]?=w.heap[g]?):DotsT w' v ds:=by
 obtain⟨ao,cap,h1,h2,h3⟩:=h
 refine⟨ao,cap,h1,h2,fun i hi=>?_⟩
 obtain⟨g,off,cs,fr,e,hg,c0,c1⟩:=h3 i hi
 exact⟨g,off,cs,fr,e,(k g cs fr hg).trans hg,c0,c1⟩
theorem DotsT.below {w w':World} {v:Value} {ds:List (Nat×Nat)} (h:DotsT w v ds) (hb:Below w.heap.size w w'):DotsT w' v ds:=h.keep (fun g cs fr hg=>hb.block g (gsi.1 hg).1)
theorem vE (w:World):DotsT w (.slice none 0 0) []:=⟨none,0,rfl,fun _=>⟨rfl,rfl⟩,fun i hi=>absurd hi (by simp)⟩
theorem each_first (v a:Value) (f:Nat) (ds:List (Nat×Nat)) (I:Nat→World→Prop) (w:World) (h0:I 0 w) (hl:ds.length≤1000000000) (hD:∀k W,I k W→DotsC W v ds) (hA:∀k W W',I k W→Below W.heap.size W W'→I k W')
  (hcf:∀(x:Value) (W:World),Sem.run prog (callFunc f #[a,x]) W=.ok (.enter f #[a,x]) W)
  (hC:∀k (hk:k<ds.length) W,I k W→Calls prog f #[a,.agg (Qi (ds[k]).1 (ds[k]).2)] W fun e w'=>e=.returned (.tuple #[])∧I (k+1) w') :
  Calls prog 207 #[v,.func (.func f) #[a] #[]] w fun e w'=>e=.returned (.tuple #[])∧I ds.length w':=by
 exact oO
structure Beh (w0:World) where
 w:World
 b:Below w0.heap.size w0 w
instance (w0:World):Nonempty (Beh w0):=⟨⟨w0,Below.refl _ _⟩⟩
theorem zS {P:Program} {id:Nat} {Q:Exit→Act→World→Prop} {a:Act} {w0 w:World} {l:List Oper} (hm:P.follows .mixedOrders=true) (hB:Region.lexB .any l.toArray=true) (hb:Below w0.heap.size w0 w)
  (h:wpQuiet P l.toArray (fun w'=>∃p:Beh w0,w'=p.w) (fun a'=>∀w',(∃p:Beh w0,w'=p.w)→Q .normal a' w') l a):(Code.region id l.toArray true).wp P Q a w:=
 wp_region_quiet (C:=fun w'=>∃p:Beh w0,w'=p.w) hm hB ⟨⟨_,hb.drew⟩,rfl⟩ (by simpa using h)
theorem Calls.beh_of {P:Program} {f:FuncId} {args:Array Value} {w0:World} {p:Beh w0} {v:Value} (h:Calls P f args p.w fun e w'=>e=.returned v∧Below p.w.heap.size p.w w'):Calls P f args p.w fun e w''=>e=.returned v∧∃q:Beh w0,w''=q.w:=
 h.mono fun _ w' ⟨he,hb⟩=>⟨he,⟨w',p.b.trans (hb.mono p.b.size)⟩,rfl⟩
theorem Calls.beh_same {P:Program} {f:FuncId} {args:Array Value} {w0:World} {p:Beh w0} {v:Value} (h:Calls P f args p.w fun e w'=>e=.returned v∧p.w=w'):Calls P f args p.w fun e w''=>e=.returned v∧∃q:Beh w0,w''=q.w:=
 h.mono fun _ w' ⟨he,hb⟩=>⟨he,p,hb.symm⟩
theorem Beh.cell {w0:World} (p:Beh w0) {a:Addr} {v:Value} (h:w0.cell? a=some v):p.w.cell? a=some v:=by
 have hlt:a.block<w0.heap.size:=by
  rcases Nat.lt_or_ge a.block w0.heap.size with h' | h'
  ·exact h'
  ·simp[World.cell?,Array.getElem?_eq_none h']at h
 exact(p.b.cell hlt).trans h
def Pl.cmp (a b c d:Int):Int:=if a=c then b - d else a - c
theorem compare_any (a b c d:Int) (w:World) (ha:0≤a∧a≤1000) (hb:0≤b∧b≤1000) (hc:0≤c∧c≤1000) (hd:0≤d∧d≤1000):Calls prog 271 #[.agg (Qi a b),.agg (Qi c d)] w fun e w'=>e=.returned (.int .i64 (Pl.cmp a b c d))∧Below w.heap.size w w':=by
 obtain⟨a1,a2⟩:=ha
 obtain⟨b1,b2⟩:=hb
 obtain⟨c1,c2⟩:=hc
 obtain⟨d1,d2⟩:=hd
 have e1 : -9223372036854775808≤a - c:=by omega
 have e2:a - c≤9223372036854775807:=by omega
 have e3 : -9223372036854775808≤b - d:=by omega
 have e4:b - d≤9223372036854775807:=by omega
 have HX:=zA (fun x y=>((bn w x).alloc (by simp) y))
 by_cases h:a=c
 ·have h':(a != c)=false:=by simp[h]
  have HH:=zA (show Pl.cmp a b c d=b - d from if_pos h)
  exact mQ
 ·have h':(a != c)=true:=by simp[h]
  have HH:=zA (show Pl.cmp a b c d=a - c from if_neg h)
  exact mQ
def IntsC (w:World) (v:Value) (xs:List Int):Prop:=
 ∃ao cap,v=.slice ao xs.length cap∧(ao=none→xs=[]∧cap=0)∧∀i (h:i<xs.length),∃g off,ao=some ⟨g,off,none⟩∧g<w.heap.size∧w.cell? ⟨g,off+i,none⟩=some (.int .i64 xs[i])
theorem IntsC.below {w w':World} {v:Value} {xs:List Int} (h:IntsC w v xs) (hb:Below w.heap.size w w'):IntsC w' v xs:=by
 obtain⟨ao,cap,h1,h2,h3⟩:=h
 refine⟨ao,cap,h1,h2,fun i hi=>?_⟩
 obtain⟨g,off,e,hg,c0⟩:=h3 i hi
 exact⟨g,off,e,Nat.lt_of_lt_of_le hg hb.size,(hb.cell (p:=⟨g,off+i,none⟩) hg).trans c0⟩
theorem idx_none (v:Value) (f:Nat) (cb:Array Value) (xs:List Int) (w:World) (hl:xs.length≤1000000) (hx:IntsC w v xs)
  (hcf:∀(x:Value) (W:World),Sem.run prog (callFunc f (#[x]++cb)) W=.ok (.enter f (#[x]++cb)) W)
  (hC:∀k (hk:k<xs.length) W,Below w.heap.size w W→Calls prog f (#[.int .i64 xs[k]]++cb) W fun e w'=>e=.returned (.bool false)∧Below W.heap.size W w') :
  Calls prog 298 #[v,.func (.func f) #[] cb] w fun e w'=>e=.returned (.int .i64 (-1))∧Below w.heap.size w w':=by
 have HX:=zA hx
 obtain⟨ao,cap,rfl,_⟩:=hx
 have HC:=zA hC
 clear hC
 go_enter func298,ntmps298
 go_wp2_with fail
 go_loopw [8] (fun i wr=>∃(k:Nat),k≤xs.length∧i=.int .i64 k∧Below w.heap.size w wr) (fun i _=>xs.length - (intOf i).toNat)
 case atStart=>exact⟨0,by omega,rfl,Below.refl _ _⟩
 case round=>
  obtain⟨k,hk,rfl,hI⟩:=hrel
  have HI:=zA hI
  by_cases hlt:k<xs.length
  ·obtain⟨ao',cap',hv,_,h3⟩:=HX.out.below hI
   cases hv
   obtain⟨g,off,rfl,hg,c0⟩:=h3 k hlt
   have HC2:=zA (HC.out k hlt wr hI)
   clear h3 hI
   generalize (xs[k]:Int)=n at *
   exact nX
  ·obtain rfl:k=xs.length:=by omega
   clear hI hlt
   go_wp2_with fail
   go_ret
   exact⟨rfl,HI.out⟩
namespace Pl
def Before (a b:Nat×Nat):Prop:=a.1<b.1∨a.1=b.1∧a.2<b.2
structure Closed (O:Nat→Nat→Bool) (U:Nat→Nat) (M:List (Nat×Nat)):Prop where
 upto:∀n,n<8→U n≤96
 all:∀n s,n<8→1≤s→s≤U n→O n s=true
 may:∀d∈M,d.1<8∧U d.1+2≤d.2∧d.2≤96∧O d.1 d.2=true
 ord:M.Pairwise Before
 has:∀n s,O n s=true→n<8∧1≤s∧s≤96∧(s≤U n∨(n,s)∈M)
theorem wR (B:Nat):∀(M:List (Nat×Nat)) (a:Nat),M.Pairwise Before→(∀d∈M,d.1<8∧1≤d.2∧d.2≤96∧a≤d.1*96+d.2∧d.1*96+d.2≤B)→M.length≤B+1 - a
 | [],a,_,_=>by simp
 | d::M,a,hp,hm=>by
  have hd:=hm d (by simp)
  obtain⟨h1,h2⟩:=List.pairwise_cons.1 hp
  have:=wR B M (d.1*96+d.2+1) h2 (fun e he=>by
   have h3:=hm e (by simp[he])
   have h4:=h1 e he
   refine⟨h3.1,h3.2.1,h3.2.2.1,?_,h3.2.2.2.2⟩
   rcases h4 with h4 | ⟨h4,h5⟩<;>omega)
  simp only[List.length_cons]
  omega
theorem Closed.len {O:Nat→Nat→Bool} {U:Nat→Nat} {M:List (Nat×Nat)} (h:Closed O U M):M.length≤768:=by
 have:=wR 768 M 1 h.ord (fun d hd=>by have:=h.may d hd;omega)
 omega
abbrev setv (U:Nat→Nat) (m:Value):Value:=.agg #[.int .i64 (U 0),.int .i64 (U 1),.int .i64 (U 2),.int .i64 (U 3),.int .i64 (U 4),.int .i64 (U 5),.int .i64 (U 6),.int .i64 (U 7),m]
end Pl
def SetV (w:World) (v:Value) (O:Nat→Nat→Bool) (U:Nat→Nat) (M:List (Nat×Nat)):Prop:=∃m,v=Pl.setv U m∧DotsT w m M∧Pl.Closed O U M
theorem SetV.below {w w':World} {v:Value} {O:Nat→Nat→Bool} {U:Nat→Nat} {M:List (Nat×Nat)} (h:SetV w v O U M) (hb:Below w.heap.size w w'):SetV w' v O U M:=by
 obtain⟨m,h1,h2,h3⟩:=h;exact⟨m,h1,h2.below hb,h3⟩
theorem SetV.keep {w w':World} {v:Value} {O:Nat→Nat→Bool} {U:Nat→Nat} {M:List (Nat×Nat)} (h:SetV w v O U M) (k:∀(g:Nat) (cs:Array Value) (fr:Nat×Nat),w.heap[g]?=some (Obj.cells cs 45 fr)→w'.heap[g]?=w.heap[g]?):SetV w' v O U M:=by
 obtain⟨m,h1,h2,h3⟩:=h;exact⟨m,h1,h2.keep k,h3⟩
theorem off_any (n:Int) (w:World) (h0:0≤n) (h1:n≤96):Calls prog 270 (Qo n) w fun e w'=>e=.returned (.bool false)∧Below w.heap.size w w':=by
 have HX:=zA (Below.refl w.heap.size w)
 have d0:decide (n<0)=false:=decide_eq_false lD
 have d1:decide (96<n)=false:=decide_eq_false lD
 go_enter func270,ntmps270
 go_wp2_with fail
 go_ret
 exact⟨rfl,HX.out⟩
theorem any_none (v:Value) (xs:List Int) (w:World) (hl:xs.length≤1000000) (hx:IntsC w v xs) (hin:∀k (hk:k<xs.length),0≤xs[k]∧xs[k]≤96) :
  Calls prog 269 #[v,Qm 270] w fun e w'=>e=.returned (.bool false)∧Below w.heap.size w w':=by
 have HC:=zA (idx_none v 270 #[] xs w hl hx (fun x W=>by kernel_rfl) (fun k hk W _=>off_any _ W (hin k hk).1 (hin k hk).2))
 obtain⟨ao,cap,rfl,_⟩:=hx
 go_enter func269,ntmps269
 go_wp2_with fail
 refine HC.out.mono ?_
 rintro e w1 ⟨rfl,b1⟩
 have HB:=zA b1
 clear b1 HC
 go_wp2_with fail
 go_ret
 exact⟨rfl,HB.out⟩
theorem uC (v:Value) (O:Nat→Nat→Bool) (U:Nat→Nat) (M:List (Nat×Nat)) (w:World) (h:SetV w v O U M) :
  Calls prog 183 #[v] w fun e w'=>e=.returned (.bool true)∧Below w.heap.size w w':=by
 obtain⟨m,rfl,hd,hc⟩:=h
 have hlen:=hc.len
 obtain⟨ao,cap,rfl,pT⟩:=hd.toC
 clear pT
 have b1:Below w.heap.size w (w.alloc (.cells (Qu U ao M.length cap) 60)):=bn _ _
 have hx:=heap_alloc_new w (.cells (Qu U ao M.length cap) 60)
 have HD:=zA (fun (W:World) (hW:Below (w.alloc (.cells (Qu U ao M.length cap) 60)).heap.size (w.alloc (.cells (Qu U ao M.length cap) 60)) W)=>((hd.below b1).below hW).toC)
 have hints:IntsC (w.alloc (.cells (Qu U ao M.length cap) 60)) (.slice (some ⟨w.heap.size,0,none⟩) 8 8) [(U 0:Int),(U 1:Int),(U 2:Int),(U 3:Int),(U 4:Int),(U 5:Int),(U 6:Int),(U 7:Int)]:=by
  refine⟨_,_,rfl,(fun e=>by cases e),fun i hi=>⟨_,_,rfl,(gsi.1 hx).1,?_⟩⟩
  match i,hi with
  | 0,_=>exact zE (j:=0+0) hx rfl
  | 1,_=>exact zE (j:=0+1) hx rfl
  | 2,_=>exact zE (j:=0+2) hx rfl
  | 3,_=>exact zE (j:=0+3) hx rfl
  | 4,_=>exact zE (j:=0+4) hx rfl
  | 5,_=>exact zE (j:=0+5) hx rfl
  | 6,_=>exact zE (j:=0+6) hx rfl
  | 7,_=>exact zE (j:=0+7) hx rfl
  | i+8,hi=>exact absurd hi (by simp)
 have HA:=zA (any_none _ _ _ (by simp) hints (fun k hk=>by
  match k,hk with
  | 0,_=>exact⟨Int.natCast_nonneg _,by have:=hc.upto 0 lF;show(U 0:Int)≤96;omega⟩
  | 1,_=>exact⟨Int.natCast_nonneg _,by have:=hc.upto 1 lF;show(U 1:Int)≤96;omega⟩
  | 2,_=>exact⟨Int.natCast_nonneg _,by have:=hc.upto 2 lF;show(U 2:Int)≤96;omega⟩
  | 3,_=>exact⟨Int.natCast_nonneg _,by have:=hc.upto 3 lF;show(U 3:Int)≤96;omega⟩
  | 4,_=>exact⟨Int.natCast_nonneg _,by have:=hc.upto 4 lF;show(U 4:Int)≤96;omega⟩
  | 5,_=>exact⟨Int.natCast_nonneg _,by have:=hc.upto 5 lF;show(U 5:Int)≤96;omega⟩
  | 6,_=>exact⟨Int.natCast_nonneg _,by have:=hc.upto 6 lF;show(U 6:Int)≤96;omega⟩
  | 7,_=>exact⟨Int.natCast_nonneg _,by have:=hc.upto 7 lF;show(U 7:Int)≤96;omega⟩
  | i+8,hi=>exact absurd hi (by simp)))
 have HM:=zA hc.may
 have HORD:=zA hc.ord
 have HX:=zA hx
 have HB1:=zA b1
 have H60:=zA (fun (W:World) (hW:Below (w.alloc (.cells (Qu U ao M.length cap) 60)).heap.size (w.alloc (.cells (Qu U ao M.length cap) 60)) W)=>(hW.block w.heap.size (gsi.1 hx).1).trans hx)
 clear hd hc b1 hx hints
 have e768:decide (768<(M.length:Int))=false:=decide_eq_false lD
 go_enter func183,ntmps183
 go_wp2_with fail
 generalize hW0:w.alloc (.cells (Qu U ao M.length cap) 60)=W0 at *
 clear hW0
 refine HA.out.mono ?_
 rintro e w1 ⟨rfl,b2⟩
 have HB2:=zA b2
 have x1:=H60.out _ b2
 have c8:=cc 8 x1
 clear b2 HA x1 HX
 go_wp2_with fail
 clear c8
 have HL:=zA hlen
 go_loopw [17] (fun i wr=>∃(k:Nat),k≤M.length∧i=.int .i64 k∧Below W0.heap.size W0 wr) (fun i _=>M.length - (intOf i).toNat)
 case atStart=>exact⟨0,by omega,rfl,HB2.out⟩
 case round=>
  obtain⟨k,hk,rfl,hI⟩:=hrel
  have HI:=zA hI
  by_cases hlt:k<M.length
  ·obtain⟨ao',cap',hv,_,h3⟩:=HD.out wr hI
   cases hv
   obtain⟨g,off,rfl,hg,c0,c1⟩:=h3 k hlt
   have pN:=HM.out _ (List.getElem_mem hlt)
   have x1:=H60.out _ hI
   have hH:=(gsi.1 x1).1
   have pU:0<k→∃p q:Nat,wr.cell? ⟨g,off+(k - 1)*2,none⟩=some (.int .i64 p)∧wr.cell? ⟨g,off+(k - 1)*2+1,none⟩=some (.int .i64 q)∧p<8∧q≤96∧Pl.cmp p q (M[k]).1 (M[k]).2<0:=fun hk0=>by
    obtain⟨g',off',e',hg',d0,d1⟩:=h3 (k - 1) lD
    cases e'
    have hm2:=HM.out _ (List.getElem_mem (show k - 1<M.length by omega))
    have ho:=List.pairwise_iff_getElem.1 HORD.out (k - 1) k lD hlt lD
    refine⟨_,_,d0,d1,hm2.1,hm2.2.2.1,?_⟩
    unfold Pl.cmp
    rcases ho with ho | ⟨ho,ho'⟩
    ·rw[if_neg (by omega)];omega
    ·rw[if_pos (by omega)];omega
   clear h3 hI
   obtain⟨n1,n2,n3,n4⟩:=pN
   have hu:∃u:Nat,u=U (M[k]).1∧wr.cell? ⟨w.heap.size,(M[k]).1,none⟩=some (.int .i64 u):=by
    refine⟨_,rfl,?_⟩
    match (M[k]).1,n1 with
    | 0,_=>exact cc 0 x1
    | 1,_=>exact cc 1 x1
    | 2,_=>exact cc 2 x1
    | 3,_=>exact cc 3 x1
    | 4,_=>exact cc 4 x1
    | 5,_=>exact cc 5 x1
    | 6,_=>exact cc 6 x1
    | 7,_=>exact cc 7 x1
    | i+8,hi=>omega
   obtain⟨u,hu,cu⟩:=hu
   rw[←hu]at n2
   have c8:=cc 8 x1
   clear x1 n4 hu
   generalize (M[k]).1=n at *
   generalize (M[k]).2=s at *
   have bw:Below wr.heap.size wr (wr.alloc (.cells (Qi n s) 45)):=bn _ _
   have hy:=heap_alloc_new wr (.cells (Qi n s) 45)
   have f0:∀p:Beh (wr.alloc (.cells (Qi n s) 45)),p.w.cell? ⟨wr.heap.size,0,none⟩=some (.int .i64 n):=fun p=>p.cell (cc 0 hy)
   have f1:∀p:Beh (wr.alloc (.cells (Qi n s) 45)),p.w.cell? ⟨wr.heap.size,1,none⟩=some (.int .i64 s):=fun p=>p.cell (cc 1 hy)
   have fu:∀p:Beh (wr.alloc (.cells (Qi n s) 45)),p.w.cell? ⟨w.heap.size,n,none⟩=some (.int .i64 u):=fun p=>p.cell ((bw.cell (p:=⟨w.heap.size,n,none⟩) hH).trans cu)
   have f8:∀p:Beh (wr.alloc (.cells (Qi n s) 45)),p.w.cell? ⟨w.heap.size,8,none⟩=some (.slice (some ⟨g,off,none⟩) M.length cap):=fun p=>p.cell ((bw.cell (p:=⟨w.heap.size,8,none⟩) hH).trans c8)
   have HMY:=zA (fun W:World=>(may_any n s W).mono (R':=fun e w'=>e=.returned (.bool true)∧Below W.heap.size W w') (fun e w' ⟨he,hb⟩=>⟨by rw[he,show Pl.may n s=true from by simp[Pl.may];omega],hb⟩))
   have HBW:=zA (HI.out.trans (bw.mono HI.out.size))
   have g1:(n:Int)<8:=by omega
   have g2:decide ((s:Int) - u<2)=false:=decide_eq_false lD
   have g3:IntKind.i64.wrap ((s:Int) - u)=(s:Int) - u:=by rw[IntKind.wrap_i64];omega
   have HBV:=zA bw
   have HBX:=zA (Below.refl (wr.alloc (.cells (Qi n s) 45)).heap.size (wr.alloc (.cells (Qi n s) 45)))
   have HN3:=zA n3
   have HN1:=zA n1
   clear bw hy cu c8 n1 n2 n3
   rcases Nat.eq_zero_or_pos k with hk0 | hk0
   ·have ek:decide (0<k)=false:=decide_eq_false lD
    clear hk0 pU
    go_wp2_with fail
    refine zS lE lE HBX.out ?_
    repeat (go_big_quiet_step (exact Calls.beh_of (HMY.out _)))
    exact nS
   ·have ek:decide (0<k)=true:=decide_eq_true lD
    obtain⟨p1,p2,d0,d1,q1,q2,q3⟩:=pU hk0
    have hgw:=hg
    have e0:∀p:Beh (wr.alloc (.cells (Qi n s) 45)),p.w.cell? ⟨g,off+(k - 1)*2,none⟩=some (.int .i64 p1):=fun p=>p.cell ((HBV.out.cell (p:=⟨g,off+(k - 1)*2,none⟩) hg).trans d0)
    have e1:∀p:Beh (wr.alloc (.cells (Qi n s) 45)),p.w.cell? ⟨g,off+(k - 1)*2+1,none⟩=some (.int .i64 p2):=fun p=>p.cell ((HBV.out.cell (p:=⟨g,off+(k - 1)*2+1,none⟩) hg).trans d1)
    have HCM:=zA (fun W:World=>compare_any p1 p2 n s W lD lD (by have:=HN1.out;omega) (by have:=HN3.out;omega))
    have g5:IntKind.i64.wrap ((k:Int) - 1)=((k - 1:Nat):Int):=by rw[IntKind.wrap_i64];omega
    have g6:((k - 1:Nat):Int)<M.length:=by omega
    have g7:decide (0≤Pl.cmp p1 p2 n s)=false:=decide_eq_false lD
    have HK1:=zA hk0
    clear hk0 pU q1 q2 q3 d0 d1
    generalize k - 1=k1 at *
    generalize Pl.cmp p1 p2 n s=cm at *
    go_wp2_with fail
    refine zS lE lE HBX.out ?_
    repeat (go_big_quiet_step (first | exact Calls.beh_of (HMY.out _) | exact Calls.beh_of (HCM.out _)))
    exact nS
  ·obtain rfl:k=M.length:=by omega
   clear hI hlt
   go_wp2_with fail
   go_ret
   exact⟨rfl,HB1.out.trans (HI.out.mono HB1.out.size)⟩
theorem OpAt.congr {w:World} {o:Nat} {O O':Nat→Nat→Bool} (h:OpAt w o O) (k:∀n s,n<8→s<98→O n s=O' n s):OpAt w o O':=
 World.rowIs.congr h (fun i hi=>by rw[k (i / 98) (i%98) (by omega) (by omega)])
theorem OpAt.no45 {w:World} {o:Nat} {O:Nat→Nat→Bool} (h:OpAt w o O) {g:Nat} {cs:Array Value} {fr:Nat×Nat} (hg:w.heap[g]?=some (Obj.cells cs 45 fr)):g≠o:=by
 intro e
 obtain⟨c,hc,_⟩:=h
 rw[e,hc]at hg;cases hg
theorem index54_at (cs:Array Value) (v:Value) (n:Nat) (hn:n<8) (hv:cs[n]?=some v) (W:World):Sem.run prog (Instr.index 54 (.agg cs) (.int .i64 n)) W=.ok v W:=by
 have hn':(n:Int)<8:=by omega
 unfold Instr.index
 go_simp
theorem index54 (U:Nat→Nat) (n:Nat) (hn:n<8) (W:World):Sem.run prog (Instr.index 54 (.agg #[.int .i64 (U 0),.int .i64 (U 1),.int .i64 (U 2),.int .i64 (U 3),.int .i64 (U 4),.int .i64 (U 5),.int .i64 (U 6),.int .i64 (U 7)]) (.int .i64 n)) W=.ok (.int .i64 (U n)) W:=
 index54_at _ _ n hn (by
  match n,hn with
  | 0,_=>rfl
  | 1,_=>rfl
  | 2,_=>rfl
  | 3,_=>rfl
  | 4,_=>rfl
  | 5,_=>rfl
  | 6,_=>rfl
  | 7,_=>rfl
  | i+8,hi=>omega) W
theorem lay_ok (o:Nat) (v:Value) (O:Nat→Nat→Bool) (U:Nat→Nat) (M:List (Nat×Nat)) (w:World) (h:SetV w v O U M) (ho:OpAt w o (fun _ _=>false)) :
  Calls prog 123 #[Qp o,v] w fun e w'=>e=.returned (.tuple #[])∧OpAt w' o O∧Off (· = o) w w':=by
 have hbelow:=fun x=>bn w (.cells x 60)
 have HR:=zA (fun x=>uC v O U M _ (h.below (hbelow x)))
 have HB:=zA hbelow
 have HV:=zA h
 have HO:=zA ho
 obtain⟨m,rfl,hd,hc⟩:=h
 obtain⟨ao,cap,rfl,_⟩:=hd.toC
 have HC:=zA hc
 have HV2:=zA hd
 have hx:=heap_alloc_new w (.cells (Qu U ao M.length cap) 60)
 have HX:=zA hx
 clear hbelow hd hc hx ho
 go_enter func123,ntmps123
 go_wp2_with fail
 refine(HR.out _).mono ?_
 rintro e w1 ⟨rfl,b1⟩
 have HB1:=zA ((HB.out _).trans (b1.mono (HB.out _).size))
 have x1:=(b1.block _ (gsi.1 HX.out).1).trans HX.out
 have c0:=cc 0 x1
 have c1:=cc 1 x1
 have c2:=cc 2 x1
 have c3:=cc 3 x1
 have c4:=cc 4 x1
 have c5:=cc 5 x1
 have c6:=cc 6 x1
 have c7:=cc 7 x1
 have HX1:=zA x1
 clear b1 HR HX x1
 go_wp2_with fail
 clear c0 c1 c2 c3 c4 c5 c6 c7
 have O1:=HO.out.below HB1.out
 have F1:Off (· = o) w1 w1:=.refl _ _
 go_loopw [12] (fun i wr=>∃(n:Nat),n≤8∧i=.int .i64 n∧OpAt wr o (fun a b=>decide (a<n∧1≤b∧b≤U a))∧Off (· = o) w1 wr) (fun i _=>8 - (intOf i).toNat)
 case atStart=>exact⟨0,by omega,rfl,O1.congr (fun n s _ _=>by simp),F1⟩
 case round=>
  obtain⟨n,hn,rfl,hO,hF⟩:=hrel
  clear O1 F1
  have HOn:=zA hO
  have HFn:=zA hF
  clear hO hF
  by_cases hlt:n<8
  ·have hidx:=index54 U n hlt
   have HU:=zA (HC.out.upto n hlt)
   generalize hu:U n=u at *
   have HUE:=zA hu
   have g8:(n:Int)<8:=by omega
   clear hu
   go_wp2_with fail
   clear hidx
   have HLT:=zA hlt
   go_loopw [17] (fun i wr=>∃(q:Nat),q≤u∧i=.int .i64 q∧OpAt wr o (fun a b=>decide ((a<n∧1≤b∧b≤U a)∨(a=n∧1≤b∧b≤q)))∧Off (· = o) w1 wr) (fun i _=>u - (intOf i).toNat)
   case atStart=>exact⟨0,by omega,rfl,HOn.out.congr (fun a b _ _=>decide_eq_decide.2 lD),HFn.out⟩
   case round=>
    obtain⟨q,hq,rfl,hO,hF⟩:=hrel
    have HOq:=zA hO
    have HFq:=zA hF
    clear hO hF
    by_cases hql:q<u
    ·have qV:=zA (put_ok o n (q+1) _ _ HOq.out HLT.out (by have:=HU.out;omega))
     have a1:(q:Int)+1≤9223372036854775807:=by have:=HU.out;omega
     have a2:((q:Int)+1)=((q+1:Nat):Int):=by omega
     have HA2:=zA a2
     clear a2
     go_wp2_with fail
     rw[HA2.out]
     refine qV.out.mono ?_
     rintro e w5 ⟨rfl,O5,F5⟩
     have HO5:=zA O5
     have HF5:=zA (HFq.out.trans F5)
     clear O5 F5
     go_wp2_with fail
     refine⟨⟨q+1,by omega,by rw[HA2.out],HO5.out.congr (fun a b _ _=>?_),HF5.out⟩,by simp[intOf];omega⟩
     unfold Pl.put1
     by_cases e:a=n∧b=q+1
     ·rw[if_pos e];symm;exact decide_eq_true lD
     ·rw[if_neg e];exact decide_eq_decide.2 lD
    ·obtain rfl:q=u:=by omega
     go_wp2_with fail
     refine⟨⟨n+1,by omega,rfl,HOq.out.congr (fun a b _ _=>decide_eq_decide.2 ?_),HFq.out⟩,by simp[intOf];omega⟩
     have:=HUE.out
     constructor
     ·rintro(h | ⟨h,h'⟩)
      ·omega
      ·subst h;omega
     ·intro h
      by_cases e:a=n
      ·subst e;omega
      ·omega
  ·obtain rfl:n=8:=by omega
   clear hn hlt
   have hlt:w.heap.size≠o:=by have:=HO.out.lt;omega
   have x8:=(HFn.out.same w.heap.size (gsi.1 HX1.out).1 hlt).trans HX1.out
   have c8:=cc 8 x8
   clear hlt x8
   go_wp2_with fail
   refine(each_first (.slice ao M.length cap) (Qp o) 206 M (fun k W=>OpAt W o (fun a b=>decide ((a<8∧1≤b∧b≤U a)∨(a,b)∈M.take k))∧Off (· = o) w1 W) wr ⟨HOn.out.congr (fun a b _ _=>decide_eq_decide.2 (by simp)),HFn.out⟩ (by have:=HC.out.len;omega) ?_ ?_ (fun x W=>by kernel_rfl) ?_).mono ?_
   ·rintro k W ⟨hO,hF⟩
    exact(((HV2.out.below HB1.out).keep (fun g cs fr hg=>hF.same g (gsi.1 hg).1 ((HO.out.below HB1.out).no45 hg)))).toC
   ·rintro k W W' ⟨hO,hF⟩ hb
    exact⟨hO.below hb,hF.trans (.of_below hb)⟩
   ·rintro k hk W ⟨hO,hF⟩
    have hm:=HC.out.may _ (List.getElem_mem hk)
    refine(put_ok o (M[k]).1 (M[k]).2 _ W hO hm.1 lD).mono ?_
    rintro e W' ⟨rfl,hO',hF'⟩
    refine⟨rfl,hO'.congr (fun a b _ _=>?_),hF.trans hF'⟩
    unfold Pl.put1
    rw[List.take_succ_eq_append_getElem hk]
    by_cases e:a=(M[k]).1∧b=(M[k]).2
    ·rw[if_pos e];symm;refine decide_eq_true (.inr (List.mem_append.2 (.inr ?_)))
     rw[List.mem_singleton];exact Prod.ext e.1 e.2
    ·rw[if_neg e]
     refine decide_eq_decide.2 ⟨fun h=>h.imp id (fun h=>List.mem_append.2 (.inl h)),fun h=>h.imp id (fun h=>?_)⟩
     rcases List.mem_append.1 h with h | h
     ·exact h
     ·rw[List.mem_singleton]at h
      exact absurd ⟨congrArg Prod.fst h,congrArg Prod.snd h⟩ e
   ·rintro e w' ⟨rfl,hO,hF⟩
    have HOO:=zA hO
    have HFF:=zA hF
    clear hO hF
    go_wp2_with fail
    refine yG results123 ⟨rfl,HOO.out.congr (fun a b ha _=>?_),HFF.out.after HB1.out (fun g _ h=>h)⟩
    rw[List.take_length]
    cases hO:O a b with
    | true=>
     obtain⟨_,h1,_,h2⟩:=HC.out.has a b hO
     exact decide_eq_true (h2.imp (fun h=>⟨ha,h1,h⟩) id)
    | false=>
     refine decide_eq_false ?_
     rintro(⟨_,h1,h2⟩ | h)
     ·rw[HC.out.all a b ha h1 h2]at hO;cases hO
     ·rw[(HC.out.may _ h).2.2.2]at hO;cases hO
end
end Go.Proofs.YtodlmbfbfaofcaaGreat
