/- TopLoads, part 7. -/
import Derived.Test.YtodlmbfbfaofcaaGreatM01
import Derived.Test.YtodlmbfbfaofcaaGreatM03
import Derived.Test.YtodlmbfbfaofcaaGreatM06
open Go.Proofs.Tryz
namespace Go.Proofs.YtodlmbfbfaofcaaGreat
set_option linter.unusedVariables false
set_option linter.unusedSimpArgs false
set_option maxRecDepth 100000
section
open Go.RowKit Rw
instance:Coe Pl.Ev (Array Value):=⟨fun e=>#[.int .i64 e.node,.int .i64 e.seq,.int .i64 e.time,.int .i64 e.kind,.int .i64 e.work,.int .i64 e.value,.int .i64 e.mn,.int .i64 e.mx,.int .i64 e.goal,.int .i64 e.slack,.int .i64 e.up,.int .i64 e.down,.int .i64 e.cool,.slice none 0 0]⟩
inductive Rh where
 | Qhl (W:World) (g:Nat) (e:Pl.Ev)
 | Qhe (W:World) (g o:Nat) (e:Pl.Ev)
 | Qhu0 (W:World) (g:Nat) (U:Nat→Nat) (s:Value)
 | Qhu5 (W:World) (g:Nat) (U:Nat→Nat) (s:Value)
 | Qhz (W:World) (g:Nat)
open Rh
instance (W:World) (g:Nat) (e:Pl.Ev):CoeDep Rh (Qhl W g e) World:=⟨((((((((((((((W.setCell ⟨g,0,none⟩ (.int .i64 e.node)).setCell ⟨g,1,none⟩ (.int .i64 e.seq)).setCell ⟨g,2,none⟩ (.int .i64 e.time)).setCell ⟨g,3,none⟩ (.int .i64 e.kind)).setCell ⟨g,4,none⟩ (.int .i64 e.work)).setCell ⟨g,5,none⟩ (.int .i64 e.value)).setCell ⟨g,6,none⟩ (.int .i64 e.mn)).setCell ⟨g,7,none⟩ (.int .i64 e.mx)).setCell ⟨g,8,none⟩ (.int .i64 e.goal)).setCell ⟨g,9,none⟩ (.int .i64 e.slack)).setCell ⟨g,10,none⟩ (.int .i64 e.up)).setCell ⟨g,11,none⟩ (.int .i64 e.down)).setCell ⟨g,12,none⟩ (.int .i64 e.cool)).setCell ⟨g,13,none⟩ (.slice none 0 0))⟩
instance (W:World) (g o:Nat) (e:Pl.Ev):CoeDep Rh (Qhe W g o e) World:=⟨((((((((((((((W.setCell ⟨g,o,none⟩ (.int .i64 e.node)).setCell ⟨g,o+1,none⟩ (.int .i64 e.seq)).setCell ⟨g,o+2,none⟩ (.int .i64 e.time)).setCell ⟨g,o+3,none⟩ (.int .i64 e.kind)).setCell ⟨g,o+4,none⟩ (.int .i64 e.work)).setCell ⟨g,o+5,none⟩ (.int .i64 e.value)).setCell ⟨g,o+6,none⟩ (.int .i64 e.mn)).setCell ⟨g,o+7,none⟩ (.int .i64 e.mx)).setCell ⟨g,o+8,none⟩ (.int .i64 e.goal)).setCell ⟨g,o+9,none⟩ (.int .i64 e.slack)).setCell ⟨g,o+10,none⟩ (.int .i64 e.up)).setCell ⟨g,o+11,none⟩ (.int .i64 e.down)).setCell ⟨g,o+12,none⟩ (.int .i64 e.cool)).setCell ⟨g,o+13,none⟩ (.slice none 0 0))⟩
instance (W:World) (g:Nat) (U:Nat→Nat) (s:Value):CoeDep Rh (Qhu0 W g U s) World:=⟨(((((((((W.setCell ⟨g,0,none⟩ (.int .i64 (U 0))).setCell ⟨g,1,none⟩ (.int .i64 (U 1))).setCell ⟨g,2,none⟩ (.int .i64 (U 2))).setCell ⟨g,3,none⟩ (.int .i64 (U 3))).setCell ⟨g,4,none⟩ (.int .i64 (U 4))).setCell ⟨g,5,none⟩ (.int .i64 (U 5))).setCell ⟨g,6,none⟩ (.int .i64 (U 6))).setCell ⟨g,7,none⟩ (.int .i64 (U 7))).setCell ⟨g,8,none⟩ (s))⟩
instance (W:World) (g:Nat) (U:Nat→Nat) (s:Value):CoeDep Rh (Qhu5 W g U s) World:=⟨(((((((((W.setCell ⟨g,5,none⟩ (.int .i64 (U 0))).setCell ⟨g,6,none⟩ (.int .i64 (U 1))).setCell ⟨g,7,none⟩ (.int .i64 (U 2))).setCell ⟨g,8,none⟩ (.int .i64 (U 3))).setCell ⟨g,9,none⟩ (.int .i64 (U 4))).setCell ⟨g,10,none⟩ (.int .i64 (U 5))).setCell ⟨g,11,none⟩ (.int .i64 (U 6))).setCell ⟨g,12,none⟩ (.int .i64 (U 7))).setCell ⟨g,13,none⟩ (s))⟩
instance (W:World) (g:Nat):CoeDep Rh (Qhz W g) World:=⟨(((((((((W.setCell ⟨g,0,none⟩ (.int .i64 0)).setCell ⟨g,1,none⟩ (.int .i64 0)).setCell ⟨g,2,none⟩ (.int .i64 0)).setCell ⟨g,3,none⟩ (.int .i64 0)).setCell ⟨g,4,none⟩ (.int .i64 0)).setCell ⟨g,5,none⟩ (.int .i64 0)).setCell ⟨g,6,none⟩ (.int .i64 0)).setCell ⟨g,7,none⟩ (.int .i64 0)).setCell ⟨g,8,none⟩ (.slice none 0 0))⟩
end
section
open Go.RowKit Rw Rh
theorem StAt.cells {F:Nat→Prop} {w:World} {s:Nat} {size:Int} {bs:List Int} {used upto inc:Int} {es:List Pl.Ev} (h:StAt F w s size bs used upto inc es):∃d v,w.cell? ⟨s,0,none⟩=some (.pointer (some ⟨d,0,none⟩))∧w.cell? ⟨s,1,none⟩=some (.int .i64 used)∧w.cell? ⟨s,2,none⟩=some (.int .i64 upto)∧w.cell? ⟨s,3,none⟩=some (.int .i64 inc)∧w.cell? ⟨s,4,none⟩=some v∧(∀j,w.frozen? ⟨s,j,none⟩=false)∧
  w.rowIs s 410 5 (stc d used upto inc v)∧DkAt F w d size bs∧w.ownsRow 0 175 14 v es.length (Pl.evs es)∧(∀g,v.ownBlock=some g→F g):=by
 obtain⟨h1,d,v,h2,h3,h4,h5⟩:=h
 exact⟨d,v,h2.cell (i:=0) (by decide),h2.cell (i:=1) (by decide),h2.cell (i:=2) (by decide),h2.cell (i:=3) (by decide),h2.cell (i:=4) (by decide),h2.frozen,h2,h3,h4,h5⟩
theorem open_ok (F:Nat→Prop) (d:Nat) (size:Int) (w:World) (h:DkAt F w d size []) :
  Calls prog 210 #[Qp d] w fun e w'=>∃s,e=.returned (.tuple #[Qp s,.int .i64 0])∧w.heap.size≤s∧StAt (fun g=>F g∨w.heap.size≤g) w' s size [] 0 0 0 []∧Below w.heap.size w w':=by
 have b1:Below w.heap.size w (w.alloc (.cells (Qo 0) 41)):=bn _ _
 have hx:=heap_alloc_new w (.cells (Qo 0) 41)
 have HM:=zA (lmend_none F d size _ (h.below b1))
 have HH:=zA h
 have HB:=zA b1
 have HX:=zA hx
 clear h b1 hx
 go_enter_defers func210,ntmps210
 go_wp2_with fail
 refine HM.out.mono ?_
 rintro e w2 ⟨rfl,b2⟩
 have x2:=(b2.block _ (gsi.1 HX.out).1).trans HX.out
 have hb2:=HB.out.trans (b2.mono HB.out.size)
 have b3:Below w2.heap.size w2 (w2.alloc (.cells #[Qp d,.int .i64 0,.int .i64 0,.int .i64 0,.slice none 0 0] 410)):=bn _ _
 have hb3:=hb2.trans (b3.mono hb2.size)
 have hs2:=hb2.size
 have HB3:=zA hb3
 have HX3:=zA ((b3.block _ (gsi.1 x2).1).trans x2)
 have HS3:=zA (heap_alloc_new w2 (.cells #[Qp d,.int .i64 0,.int .i64 0,.int .i64 0,.slice none 0 0] 410))
 have HR:=zA (tT F d size _ (HH.out.below hb3))
 clear b2 hb2 b3 hb3 x2 HM
 go_wp2_with fail
 refine HR.out.mono ?_
 rintro e w4 ⟨rfl,b4⟩
 have x4:=(b4.block _ (gsi.1 HX3.out).1).trans HX3.out
 have s4:=(b4.block _ (gsi.1 HS3.out).1).trans HS3.out
 have HB4:=zA (HB3.out.trans (b4.mono HB3.out.size))
 have HX4:=zA x4
 have HS4:=zA s4
 clear b4 x4 s4 HR
 go_wp2_with fail
 go_loopw [25] (fun i wr=>i=.int .i64 0∧wr=w4) (fun _ _=>0)
 case atStart=>exact⟨rfl,rfl⟩
 case round=>
  obtain⟨rfl,rfl⟩:=hrel
  have c1:=cc 1 HS4.out
  have c2:=cc 2 HS4.out
  have g1:=zB HS4.out 1
  have c0:=cc 0 HX4.out
  have g0:=zB HX4.out 0
  go_wp2_with fail
  refine leaves_cons (f:=283) (args:=#[Qp w.heap.size]) (by simp) (by simp[go_sem]) ?_
  refine(wC _ _).mono ?_
  rintro e u' w'' ⟨rfl,rfl,rfl⟩
  have hws:w.heap.size≠w2.heap.size:=fun e=>by
   have h1:=HS4.out
   rw[←e,HX4.out]at h1;cases h1
  have hr:wr.rowIs w2.heap.size 410 5 (stc d 0 0 0 (.slice none 0 0)):=⟨_,HS4.out,rfl,fun i hi=>by
   rcases i with _ | _ | _ | _ | _ | i
   ·rfl
   ·rfl
   ·rfl
   ·rfl
   ·rfl
   ·omega⟩
  have D4:=HH.out.below HB4.out
  have S1:StAt (fun g=>F g∨w.heap.size≤g) (wr.setCell ⟨w2.heap.size,1,none⟩ (.int .i64 0)) w2.heap.size size [] 0 0 0 []:=
   StAt.set (.inr hs2) hr (D4.mono (fun g hg=>.inl hg)) ⟨rfl,.inl ⟨rfl,rfl⟩⟩ (fun g hg=>by cases hg) 1 0 (fun i hi=>by
    rcases i with _ | _ | _ | _ | _ | i
    ·rfl
    ·rfl
    ·rfl
    ·rfl
    ·rfl
    ·omega)
  have x5:=(Below.heap_setCell wr ⟨w2.heap.size,1,none⟩ (.int .i64 0) w.heap.size hws).trans HX4.out
  have S2:=S1.other x5 (by decide) 0 (.int .i64 0)
  have b5:=zP (zP HB4.out hs2 1 (.int .i64 0)) (Nat.le_refl _) 0 (.int .i64 0)
  have cz:=World.cell?_setCell_same (wr.setCell ⟨w2.heap.size,1,none⟩ (.int .i64 0)) ⟨w.heap.size,0,none⟩ (.int .i64 0) (zF x5 rfl)
  generalize (wr.setCell ⟨w2.heap.size,1,none⟩ (.int .i64 0)).setCell ⟨w.heap.size,0,none⟩ (.int .i64 0)=Z at *
  simp[Leaves,settle,results,results210,go_sem,cz]
  exact⟨hs2,S2,b5⟩
theorem bump_ok (F:Nat→Prop) (s:Nat) (size:Int) (bs:List Int) (used upto:Int) (inc:Nat) (es:List Pl.Ev) (w:World) (h:StAt F w s size bs used upto inc es) (hin:∀g,F g→g<w.heap.size) (hl:bs.length≤900000) (hs:0≤size) (hs':size≤16384) (hi:inc<1099511627776)
  (hf:(bs.length:Int)+(Pl.frame (2::Pl.vint (inc+1))).length≤size) :
  Calls prog 212 #[Qp s] w fun e w'=>e=.returned (.tuple (Qi ((inc+1:Nat):Int) 0))∧StAt (fun g=>F g∨w.heap.size≤g) w' s size (bs++Pl.frame (2::Pl.vint (inc+1))) used upto ((inc+1:Nat):Int) es∧Off F w w':=by
 have b1:Below w.heap.size w (w.alloc (.cells (Qo 0) 41)):=bn _ _
 have hx:=heap_alloc_new w (.cells (Qo 0) 41)
 have hslt:=h.lt
 have h1:=h.below b1
 obtain⟨d,v,_,_,_,c3,_,_,_⟩:=h1.cells
 have HT:=zA (tA 2 (inc+1) (w.alloc (.cells (Qo 0) 41)) (by omega))
 have hv6:=Pl.vint_len6 (n:=inc+1) (by omega)
 have HW:=zA (fun (W:World) (hW:Below (w.alloc (.cells (Qo 0) 41)).heap.size (w.alloc (.cells (Qo 0) 41)) W) (v':Value) (hv':BytesC W v' (2::Pl.vint (inc+1)))=>uQ F s size bs (2::Pl.vint (inc+1)) used upto inc es v' W (h1.below hW) hl hs hs' hv' (by simp;omega) hf)
 have HB:=zA b1
 have HX:=zA hx
 have hFs:=h.1
 have a1:(inc:Int)<1099511627776:=by omega
 have e1:(inc:Int)+1=((inc+1:Nat):Int):=by omega
 clear h b1 hx h1 hf hv6
 generalize hi1:((inc+1:Nat):Int)=inc1 at *
 generalize inc+1=incN at *
 go_enter_defers func212,ntmps212
 go_wp2_with fail
 refine(xZ (by simp[a1])).mono ?_
 rintro e w' ⟨rfl,rfl⟩
 go_wp2_with fail
 refine HT.out.mono ?_
 rintro e w2 ⟨v2,rfl,O2,b2⟩
 have x2:=(b2.block _ (gsi.1 HX.out).1).trans HX.out
 have HX2:=zA x2
 have HB2:=zA (HB.out.trans (b2.mono HB.out.size))
 have HW2:=zA (HW.out w2 b2 v2 O2.toT.toC)
 have hnF:Hid (∀g,F g→g=w.heap.size→g=w.heap.size):=zA (fun _ _ h=>h)
 clear O2 b2 x2 HT HW
 go_wp2_with fail
 refine HW2.out.mono ?_
 rintro e w3 ⟨rfl,S3,O3⟩
 obtain⟨d3,v3,q0,q1,q2,q3,q4,fz,hr3,hd3,ho3,hv3⟩:=S3.cells
 have f3:=fz 3
 have x3:=(O3.same w.heap.size (gsi.1 HX2.out).1 (fun hf=>by have:=hin _ hf;omega)).trans HX2.out
 have hs2:=HB2.out.size
 have hsw:s≠w.heap.size:=by omega
 have S4:=StAt.set (used':=used) (upto':=upto) (inc':=inc1) S3.1 hr3 hd3 ho3 hv3 3 inc1 (fun i hi=>by
  rcases i with _ | _ | _ | _ | _ | i
  ·rfl
  ·rfl
  ·rfl
  ·rfl
  ·rfl
  ·omega)
 have x4:=(Below.heap_setCell w3 ⟨s,3,none⟩ (.int .i64 inc1) w.heap.size (fun e=>hsw e.symm)).trans x3
 have c4:=cc 0 x4
 have f4:=zB x4 0
 have k4:=World.cell?_setCell_same w3 ⟨s,3,none⟩ (.int .i64 inc1) q3
 have HX4:=zA x4
 have HS4:=zA S4
 have HO3:=zA ((O3.after HB2.out (G:=F) (fun g _ hg=>hg)).set (a:=⟨s,3,none⟩) (.inl hFs) (.int .i64 inc1))
 have HSZ:=zA hs2
 clear S3 O3 q0 q1 q2 q4 fz hr3 hd3 ho3 hv3 x3 S4 x4 HW2 c3
 go_wp2_with fail
 refine leaves_cons (f:=283) (args:=#[Qp w.heap.size]) (by simp) (by simp[go_sem]) ?_
 refine(wC _ _).mono ?_
 rintro e u' w'' ⟨rfl,rfl,rfl⟩
 have S5:=(HS4.out.mono (fun g hg=>hg.imp id (fun h=>Nat.le_trans HSZ.out h))).other HX4.out (by decide) 0 (.int .i64 0)
 have O5:=HO3.out.set (a:=⟨w.heap.size,0,none⟩) (.inr (Nat.le_refl _)) (.int .i64 0)
 have cz:=World.cell?_setCell_same (w3.setCell ⟨s,3,none⟩ (.int .i64 inc1)) ⟨w.heap.size,0,none⟩ (.int .i64 0) c4
 generalize (w3.setCell ⟨s,3,none⟩ (.int .i64 inc1)).setCell ⟨w.heap.size,0,none⟩ (.int .i64 0)=Z at *
 simp[Leaves,settle,results,results212,go_sem,cz]
 exact⟨S5,O5⟩
theorem bump_full (F:Nat→Prop) (s:Nat) (size:Int) (bs:List Int) (used upto:Int) (inc:Nat) (es:List Pl.Ev) (w:World) (h:StAt F w s size bs used upto inc es) (hl:bs.length≤900000) (hs:0≤size) (hs':size≤16384) (hi:inc<1099511627776)
  (hf:size<bs.length+(Pl.frame (2::Pl.vint (inc+1))).length) :
  Calls prog 212 #[Qp s] w fun e w'=>e=.returned (.tuple (Qi 0 7))∧Below w.heap.size w w':=by
 have b1:Below w.heap.size w (w.alloc (.cells (Qo 0) 41)):=bn _ _
 have hx:=heap_alloc_new w (.cells (Qo 0) 41)
 have hslt:=h.lt
 have h1:=h.below b1
 obtain⟨d,v,_,_,_,c3,_,_,_⟩:=h1.cells
 have HT:=zA (tA 2 (inc+1) (w.alloc (.cells (Qo 0) 41)) (by omega))
 have hv6:=Pl.vint_len6 (n:=inc+1) (by omega)
 have HW:=zA (fun (W:World) (hW:Below (w.alloc (.cells (Qo 0) 41)).heap.size (w.alloc (.cells (Qo 0) 41)) W) (v':Value) (hv':BytesC W v' (2::Pl.vint (inc+1)))=>vB F s size bs (2::Pl.vint (inc+1)) used upto inc es v' W (h1.below hW) hl hs hs' hv' (by simp;omega) hf)
 have HB:=zA b1
 have HX:=zA hx
 have a1:(inc:Int)<1099511627776:=by omega
 have e1:(inc:Int)+1=((inc+1:Nat):Int):=by omega
 clear h b1 hx h1 hf hv6
 generalize hi1:((inc+1:Nat):Int)=inc1 at *
 generalize inc+1=incN at *
 go_enter_defers func212,ntmps212
 go_wp2_with fail
 refine(xZ (by simp[a1])).mono ?_
 rintro e w' ⟨rfl,rfl⟩
 go_wp2_with fail
 refine HT.out.mono ?_
 rintro e w2 ⟨v2,rfl,O2,b2⟩
 have x2:=(b2.block _ (gsi.1 HX.out).1).trans HX.out
 have HX2:=zA x2
 have HB2:=zA (HB.out.trans (b2.mono HB.out.size))
 have HW2:=zA (HW.out w2 b2 v2 O2.toT.toC)
 clear O2 b2 x2 HT HW
 go_wp2_with fail
 refine HW2.out.mono ?_
 rintro e w3 ⟨rfl,b3⟩
 have x3:=(b3.block _ (gsi.1 HX2.out).1).trans HX2.out
 have HB3:=zA (HB2.out.trans (b3.mono HB2.out.size))
 have HX3:=zA x3
 clear b3 x3 HW2
 go_wp2_with fail
 refine leaves_cons (f:=283) (args:=#[Qp w.heap.size]) (by simp) (by simp[go_sem]) ?_
 have hlt:=(gsi.1 HX3.out).1
 refine(wT ⟨w.heap.size,0,none⟩ 7 0 [] _ (zF HX3.out rfl) (zB HX3.out 0)).mono ?_
 rintro e u' w'' ⟨rfl,rfl,rfl⟩
 have hz:=zP (HB3.out.alloc HB3.out.size (.cells (Qo 7) 444)) (Nat.le_refl _) 0 (.int .i64 7)
 have cz:((w3.alloc (.cells (Qo 7) 444)).setCell ⟨w.heap.size,0,none⟩ (.int .i64 7)).cell? ⟨w.heap.size,0,none⟩=some (.int .i64 7):=World.cell?_setCell_same _ _ _ ((World.cell?_alloc_lt _ _ _ hlt).trans (zF HX3.out rfl))
 generalize (w3.alloc (.cells (Qo 7) 444)).setCell ⟨w.heap.size,0,none⟩ (.int .i64 7)=Z at *
 simp[Leaves,settle,results,results212,go_sem,cz]
 exact hz
theorem next_old (F:Nat→Prop) (s:Nat) (size:Int) (bs:List Int) (used upto inc:Int) (es:List Pl.Ev) (w:World) (h:StAt F w s size bs used upto inc es) (h0:0≤used) (h1:used<upto) (h2:upto≤96) :
  Calls prog 306 #[Qp s] w fun e w'=>e=.returned (.tuple (Qi (used+1) 0))∧StAt F w' s size bs (used+1) upto inc es∧Off F w w':=by
 have b1:Below w.heap.size w (w.alloc (.cells (Qo 0) 41)):=bn _ _
 have hx:=heap_alloc_new w (.cells (Qo 0) 41)
 have hslt:=h.lt
 have S1:=h.below (b1.drew)
 obtain⟨d,v,c0,c1,c2,c3,c4,fz,hr,hd,ho,hv⟩:=S1.cells
 have f1:=fz 1
 have ee:(used == upto)=false:=by simp;omega
 have S2:=StAt.set (used':=used+1) (upto':=upto) (inc':=inc) S1.1 hr hd ho hv 1 (used+1) (fun i hi=>by
  rcases i with _ | _ | _ | _ | _ | i
  ·rfl
  ·rfl
  ·rfl
  ·rfl
  ·rfl
  ·omega)
 have hsw:s≠w.heap.size:=by omega
 have x4:=(Below.heap_setCell (w.alloc (.cells (Qo 0) 41)).drew ⟨s,1,none⟩ (.int .i64 (used+1)) w.heap.size (fun e=>hsw e.symm)).trans hx
 have HS2:=zA S2
 have HX4:=zA x4
 have HO:=zA (((Off.of_below (F:=F) b1.drew).set (a:=⟨s,1,none⟩) (.inl h.1) (.int .i64 (used+1))).set (a:=⟨w.heap.size,0,none⟩) (.inr (Nat.le_refl _)) (.int .i64 0))
 have k4:=World.cell?_setCell_same (w.alloc (.cells (Qo 0) 41)).drew ⟨s,1,none⟩ (.int .i64 (used+1)) c1
 have d4:=cc 0 x4
 have g4:=zB x4 0
 have a1:used+1≤9223372036854775807:=by omega
 have a2 : -9223372036854775808≤used+1:=by omega
 clear h b1 hx S1 hr hd ho hv S2 x4 fz c0 c3 c4
 go_enter_defers func306,ntmps306
 go_wp2_with fail
 refine zD (fun w'=>w'.cell? ⟨s,1,none⟩=some (.int .i64 used)∧w'.cell? ⟨s,2,none⟩=some (.int .i64 upto)) 99 (by kernel_rfl) ⟨c1,c2⟩ (fun rV=>?_)
 refine xY 0 7 rfl ?_
 refine xY 1 8 rfl ?_
 refine xY 2 9 rfl ?_
 refine xY 3 10 rfl ?_
 refine xY 4 11 rfl ?_
 refine xY 5 12 rfl ?_
 refine xY 6 13 rfl ?_
 refine xY 7 14 rfl ?_
 clear rV
 refine t1 8 rfl (fun K hK=>?_)
 go_simp
 refine hK.out _ _ (fun _=>⟨c1,c2⟩) (fun _=>?_)
 clear hK K
 try simp only[zN]
 refine wd ?_
 generalize (w.alloc (.cells (Qo 0) 41)).drew=W0 at *
 go_wp2_with fail
 refine leaves_cons (f:=283) (args:=#[Qp w.heap.size]) (by simp) (by simp[go_sem]) ?_
 refine(wC _ _).mono ?_
 rintro e u' w'' ⟨rfl,rfl,rfl⟩
 have S5:=HS2.out.other HX4.out (by decide) 0 (.int .i64 0)
 have O5:=HO.out
 have cz:=World.cell?_setCell_same (W0.setCell ⟨s,1,none⟩ (.int .i64 (used+1))) ⟨w.heap.size,0,none⟩ (.int .i64 0) d4
 generalize (W0.setCell ⟨s,1,none⟩ (.int .i64 (used+1))).setCell ⟨w.heap.size,0,none⟩ (.int .i64 0)=Z at *
 simp[Leaves,settle,results,results306,go_sem,cz]
 exact⟨S5,O5⟩
theorem min_run (x y:Int) (W:World):Sem.run prog (Builtin.min_ #[3,3] 3 (Qi x y)) W=.ok (.int .i64 (min x y)) W:=by
 unfold Builtin.min_
 simp[Builtin.min2]
 split<;>omega
theorem next_new (F:Nat→Prop) (s:Nat) (size:Int) (bs:List Int) (u m:Nat) (inc:Int) (es:List Pl.Ev) (w:World) (h:StAt F w s size bs u u inc es) (hin:∀g,F g→g<w.heap.size) (hu:u<96) (hm:m=min (u+8) 96) (hl:bs.length≤900000) (hs:0≤size) (hs':size≤16384) (hf:(bs.length:Int)+(Pl.frame (1::Pl.vint m)).length≤size) :
  Calls prog 306 #[Qp s] w fun e w'=>e=.returned (.tuple (Qi ((u:Int)+1) 0))∧StAt (fun g=>F g∨w.heap.size≤g) w' s size (bs++Pl.frame (1::Pl.vint m)) ((u:Int)+1) m inc es∧Off F w w':=by
 have b1:Below w.heap.size w (w.alloc (.cells (Qo 0) 41)):=bn _ _
 have hx:=heap_alloc_new w (.cells (Qo 0) 41)
 have hslt:=h.lt
 have S1:=h.below (b1.drew)
 have hFs:=h.1
 obtain⟨d,v,c0,c1,c2,c3,c4,fz,hr,hd,ho,hv⟩:=S1.cells
 have ee:((u:Int) == (u:Int))=true:=by simp
 have em:∀W,Sem.run prog (Builtin.min_ #[3,3] 3 (Qi ((u:Int)+8) 96)) W=.ok (.int .i64 m) W:=fun W=>by rw[min_run,show min ((u:Int)+8) 96=(m:Int)from by omega]
 have em2:(u:Int)<m:=by omega
 have a0:(u:Int)+8≤9223372036854775807:=by omega
 have HT:=zA (tA 1 m (w.alloc (.cells (Qo 0) 41)).drew (by omega))
 have hv6:=Pl.vint_len6 (n:=m) (by omega)
 have HW:=zA (fun (W:World) (hW:Below (w.alloc (.cells (Qo 0) 41)).drew.heap.size (w.alloc (.cells (Qo 0) 41)).drew W) (v':Value) (hv':BytesC W v' (1::Pl.vint m))=>uQ F s size bs (1::Pl.vint m) u u inc es v' W (S1.below hW) hl hs hs' hv' (by simp;omega) hf)
 have HB:=zA b1.drew
 have HX:=zA (show(w.alloc (.cells (Qo 0) 41)).drew.heap[w.heap.size]?=some (.cells (Qo 0) 41 (0,0))from hx)
 have HIN:=zA hin
 have HU:=zA hu
 have HM:=zA hm
 clear h b1 hx S1 hr hd ho hv fz c0 c3 c4 hv6 hm hin hf
 go_enter_defers func306,ntmps306
 go_wp2_with fail
 refine zD (fun w'=>w'.cell? ⟨s,1,none⟩=some (.int .i64 u)∧w'.cell? ⟨s,2,none⟩=some (.int .i64 u)) 99 (by kernel_rfl) ⟨c1,c2⟩ (fun rV=>?_)
 refine xY 0 7 rfl ?_
 refine xY 1 8 rfl ?_
 refine xY 2 9 rfl ?_
 refine xY 3 10 rfl ?_
 refine xY 4 11 rfl ?_
 refine xY 5 12 rfl ?_
 refine xY 6 13 rfl ?_
 refine xY 7 14 rfl ?_
 clear rV
 refine t1 8 rfl (fun K hK=>?_)
 go_simp
 refine hK.out _ _ (fun _=>⟨c1,c2⟩) (fun _=>?_)
 clear hK K
 try simp only[zN]
 refine wd ?_
 generalize (w.alloc (.cells (Qo 0) 41)).drew=W0 at *
 go_wp2_with fail
 refine(xZ (by first | (simp;done) | (simp;omega))).mono ?_
 rintro e w' ⟨rfl,rfl⟩
 go_wp2_with fail
 refine HT.out.mono ?_
 rintro e w2 ⟨v2,rfl,O2,b2⟩
 have x2:=(b2.block _ (gsi.1 HX.out).1).trans HX.out
 have HX2:=zA x2
 have HB2:=zA (HB.out.trans (b2.mono HB.out.size))
 have HW2:=zA (HW.out w2 b2 v2 O2.toT.toC)
 clear O2 b2 x2 HT HW
 go_wp2_with fail
 refine HW2.out.mono ?_
 rintro e w3 ⟨rfl,S3,O3⟩
 obtain⟨d3,v3,q0,q1,q2,q3,q4,fz,hr3,hd3,ho3,hv3⟩:=S3.cells
 have x3:=(O3.same w.heap.size (gsi.1 HX2.out).1 (fun hf=>by have:=HIN.out _ hf;omega)).trans HX2.out
 have hs2:=HB2.out.size
 have hsw:s≠w.heap.size:=by omega
 have f1:=fz 1
 have f2:=fz 2
 have S4:=StAt.set (used':=(u:Int)) (upto':=m) (inc':=inc) S3.1 hr3 hd3 ho3 hv3 2 m (fun i hi=>by
  rcases i with _ | _ | _ | _ | _ | i
  ·rfl
  ·rfl
  ·rfl
  ·rfl
  ·rfl
  ·omega)
 obtain⟨d4,v4,p0,p1,p2,p3,p4,gz,hr4,hd4,ho4,hv4⟩:=S4.cells
 have g1:=gz 1
 have S5:=StAt.set (used':=(u:Int)+1) (upto':=m) (inc':=inc) S4.1 hr4 hd4 ho4 hv4 1 ((u:Int)+1) (fun i hi=>by
  rcases i with _ | _ | _ | _ | _ | i
  ·rfl
  ·rfl
  ·rfl
  ·rfl
  ·rfl
  ·omega)
 have x4:=(Below.heap_setCell w3 ⟨s,2,none⟩ (.int .i64 m) w.heap.size (fun e=>hsw e.symm)).trans x3
 have x5:=(Below.heap_setCell (w3.setCell ⟨s,2,none⟩ (.int .i64 m)) ⟨s,1,none⟩ (.int .i64 ((u:Int)+1)) w.heap.size (fun e=>hsw e.symm)).trans x4
 have c5:=cc 0 x5
 have f5:=zB x5 0
 have k5:=World.cell?_setCell_same (w3.setCell ⟨s,2,none⟩ (.int .i64 m)) ⟨s,1,none⟩ (.int .i64 ((u:Int)+1)) p1
 have HX5:=zA x5
 have HS5:=zA S5
 have HO5:=zA (((O3.after HB2.out (G:=F) (fun g _ hg=>hg)).set (a:=⟨s,2,none⟩) (.inl hFs) (.int .i64 m)).set (a:=⟨s,1,none⟩) (.inl hFs) (.int .i64 ((u:Int)+1)))
 have HSZ:=zA hs2
 have a1:(u:Int)+1≤9223372036854775807:=by omega
 have a2 : -9223372036854775808≤(u:Int)+1:=by omega
 clear S3 O3 q0 q1 q3 q4 fz hr3 hd3 ho3 hv3 x3 S4 S5 x4 x5 p0 p2 p3 p4 gz hr4 hd4 ho4 hv4 HW2 c1 c2 em a0
 go_wp2_with fail
 refine leaves_cons (f:=283) (args:=#[Qp w.heap.size]) (by simp) (by simp[go_sem]) ?_
 refine(wC _ _).mono ?_
 rintro e u' w'' ⟨rfl,rfl,rfl⟩
 have S6:=(HS5.out.mono (fun g hg=>hg.imp id (fun h=>Nat.le_trans HSZ.out h))).other HX5.out (by decide) 0 (.int .i64 0)
 have O6:=HO5.out.set (a:=⟨w.heap.size,0,none⟩) (.inr (Nat.le_refl _)) (.int .i64 0)
 have cz:=World.cell?_setCell_same ((w3.setCell ⟨s,2,none⟩ (.int .i64 m)).setCell ⟨s,1,none⟩ (.int .i64 ((u:Int)+1))) ⟨w.heap.size,0,none⟩ (.int .i64 0) c5
 generalize ((w3.setCell ⟨s,2,none⟩ (.int .i64 m)).setCell ⟨s,1,none⟩ (.int .i64 ((u:Int)+1))).setCell ⟨w.heap.size,0,none⟩ (.int .i64 0)=Z at *
 simp[Leaves,settle,results,results306,go_sem,cz]
 exact⟨S6,O6⟩
theorem next_room (F:Nat→Prop) (s:Nat) (size:Int) (bs:List Int) (u m:Nat) (inc:Int) (es:List Pl.Ev) (w:World) (h:StAt F w s size bs u u inc es) (hin:∀g,F g→g<w.heap.size) (hu:u<96) (hm:m=min (u+8) 96) (hl:bs.length≤900000) (hs:0≤size) (hs':size≤16384) (hf:size<bs.length+(Pl.frame (1::Pl.vint m)).length) :
  Calls prog 306 #[Qp s] w fun e w'=>e=.returned (.tuple (Qi 0 7))∧Below w.heap.size w w':=by
 have b1:Below w.heap.size w (w.alloc (.cells (Qo 0) 41)):=bn _ _
 have hx:=heap_alloc_new w (.cells (Qo 0) 41)
 have hslt:=h.lt
 have S1:=h.below (b1.drew)
 have hFs:=h.1
 obtain⟨d,v,c0,c1,c2,c3,c4,fz,hr,hd,ho,hv⟩:=S1.cells
 have ee:((u:Int) == (u:Int))=true:=by simp
 have em:∀W,Sem.run prog (Builtin.min_ #[3,3] 3 (Qi ((u:Int)+8) 96)) W=.ok (.int .i64 m) W:=fun W=>by rw[min_run,show min ((u:Int)+8) 96=(m:Int)from by omega]
 have em2:(u:Int)<m:=by omega
 have a0:(u:Int)+8≤9223372036854775807:=by omega
 have HT:=zA (tA 1 m (w.alloc (.cells (Qo 0) 41)).drew (by omega))
 have hv6:=Pl.vint_len6 (n:=m) (by omega)
 have HW:=zA (fun (W:World) (hW:Below (w.alloc (.cells (Qo 0) 41)).drew.heap.size (w.alloc (.cells (Qo 0) 41)).drew W) (v':Value) (hv':BytesC W v' (1::Pl.vint m))=>vB F s size bs (1::Pl.vint m) u u inc es v' W (S1.below hW) hl hs hs' hv' (by simp;omega) hf)
 have HB:=zA b1.drew
 have HX:=zA (show(w.alloc (.cells (Qo 0) 41)).drew.heap[w.heap.size]?=some (.cells (Qo 0) 41 (0,0))from hx)
 have HIN:=zA hin
 have HU:=zA hu
 have HM:=zA hm
 clear h b1 hx S1 hr hd ho hv fz c0 c3 c4 hv6 hm hin hf
 go_enter_defers func306,ntmps306
 go_wp2_with fail
 refine zD (fun w'=>w'.cell? ⟨s,1,none⟩=some (.int .i64 u)∧w'.cell? ⟨s,2,none⟩=some (.int .i64 u)) 99 (by kernel_rfl) ⟨c1,c2⟩ (fun rV=>?_)
 refine xY 0 7 rfl ?_
 refine xY 1 8 rfl ?_
 refine xY 2 9 rfl ?_
 refine xY 3 10 rfl ?_
 refine xY 4 11 rfl ?_
 refine xY 5 12 rfl ?_
 refine xY 6 13 rfl ?_
 refine xY 7 14 rfl ?_
 clear rV
 refine t1 8 rfl (fun K hK=>?_)
 go_simp
 refine hK.out _ _ (fun _=>⟨c1,c2⟩) (fun _=>?_)
 clear hK K
 try simp only[zN]
 refine wd ?_
 generalize (w.alloc (.cells (Qo 0) 41)).drew=W0 at *
 go_wp2_with fail
 refine(xZ (by first | (simp;done) | (simp;omega))).mono ?_
 rintro e w' ⟨rfl,rfl⟩
 go_wp2_with fail
 refine HT.out.mono ?_
 rintro e w2 ⟨v2,rfl,O2,b2⟩
 have x2:=(b2.block _ (gsi.1 HX.out).1).trans HX.out
 have HX2:=zA x2
 have HB2:=zA (HB.out.trans (b2.mono HB.out.size))
 have HW2:=zA (HW.out w2 b2 v2 O2.toT.toC)
 clear O2 b2 x2 HT HW
 go_wp2_with fail
 refine HW2.out.mono ?_
 rintro e w3 ⟨rfl,b3⟩
 have x3:=(b3.block _ (gsi.1 HX2.out).1).trans HX2.out
 have HB3:=zA (HB2.out.trans (b3.mono HB2.out.size))
 have HX3:=zA x3
 clear b3 x3 HW2
 go_wp2_with fail
 refine leaves_cons (f:=283) (args:=#[Qp w.heap.size]) (by simp) (by simp[go_sem]) ?_
 have hlt:=(gsi.1 HX3.out).1
 refine(wT ⟨w.heap.size,0,none⟩ 7 0 [] _ (zF HX3.out rfl) (zB HX3.out 0)).mono ?_
 rintro e u' w'' ⟨rfl,rfl,rfl⟩
 have hz:=zP (HB3.out.alloc HB3.out.size (.cells (Qo 7) 444)) (Nat.le_refl _) 0 (.int .i64 7)
 have cz:((w3.alloc (.cells (Qo 7) 444)).setCell ⟨w.heap.size,0,none⟩ (.int .i64 7)).cell? ⟨w.heap.size,0,none⟩=some (.int .i64 7):=World.cell?_setCell_same _ _ _ ((World.cell?_alloc_lt _ _ _ hlt).trans (zF HX3.out rfl))
 generalize (w3.alloc (.cells (Qo 7) 444)).setCell ⟨w.heap.size,0,none⟩ (.int .i64 7)=Z at *
 simp[Leaves,settle,results,results306,go_sem,cz]
 exact hz
namespace Pl
def may (n s:Int):Bool:=decide (0≤n)&&(decide (n<8)&&(decide (1≤s)&&decide (s≤96)))
end Pl
theorem may_any (n s:Int) (w:World):Calls prog 263 #[.agg (Qi n s)] w fun e w'=>e=.returned (.bool (Pl.may n s))∧Below w.heap.size w w':=by
 have HX:=zA (fun x=>bn w x)
 by_cases c0:0≤n
 ·have d0:=decide_eq_true c0
  by_cases c1:n<8
  ·have d1:=decide_eq_true c1
   by_cases c2:1≤s
   ·have d2:=decide_eq_true c2
    by_cases c3:s≤96
    ·have d3:=decide_eq_true c3
     have HM:Hid (Pl.may n s=true):=zA (by simp[Pl.may, *])
     go_enter func263,ntmps263
     go_wp2_with fail
     go_ret
     exact⟨congrArg (fun b=>Ending.returned (.bool b)) HM.out.symm,HX.out _⟩
    ·have d3:=decide_eq_false c3
     have HM:Hid (Pl.may n s=false):=zA (by simp[Pl.may, *])
     go_enter func263,ntmps263
     go_wp2_with fail
     go_ret
     exact⟨congrArg (fun b=>Ending.returned (.bool b)) HM.out.symm,HX.out _⟩
   ·have d2:=decide_eq_false c2
    have HM:Hid (Pl.may n s=false):=zA (by simp[Pl.may, *])
    go_enter func263,ntmps263
    go_wp2_with fail
    go_ret
    exact⟨congrArg (fun b=>Ending.returned (.bool b)) HM.out.symm,HX.out _⟩
  ·have d1:=decide_eq_false c1
   have HM:Hid (Pl.may n s=false):=zA (by simp[Pl.may, *])
   go_enter func263,ntmps263
   go_wp2_with fail
   go_ret
   exact⟨congrArg (fun b=>Ending.returned (.bool b)) HM.out.symm,HX.out _⟩
 ·have d0:=decide_eq_false c0
  have HM:Hid (Pl.may n s=false):=zA (by simp[Pl.may, *])
  go_enter func263,ntmps263
  go_wp2_with fail
  go_ret
  exact⟨congrArg (fun b=>Ending.returned (.bool b)) HM.out.symm,HX.out _⟩
def OpAt (w:World) (o:Nat) (O:Nat→Nat→Bool):Prop:=w.rowIs o 226 784 (fun j=>.bool (O (j / 98) (j%98)))
theorem OpAt.lt {w:World} {o:Nat} {O:Nat→Nat→Bool} (h:OpAt w o O):o<w.heap.size:=World.rowIs.lt h
theorem OpAt.below {w w':World} {o:Nat} {O:Nat→Nat→Bool} (h:OpAt w o O) (hb:Below w.heap.size w w'):OpAt w' o O:=World.rowIs.of_block h (hb.block o h.lt)
theorem OpAt.keep {w w':World} {o:Nat} {O:Nat→Nat→Bool} (h:OpAt w o O) (hb:w'.heap[o]?=w.heap[o]?):OpAt w' o O:=World.rowIs.of_block h hb
theorem OpAt.cell {w:World} {o n s:Nat} {O:Nat→Nat→Bool} (h:OpAt w o O) (hn:n<8) (hs:s<98):w.cell? ⟨o,n*98+s,none⟩=some (.bool (O n s)):=by
 have:=World.rowIs.cell h (i:=n*98+s) (by omega)
 rw[show(n*98+s) / 98=n from by omega,show(n*98+s)%98=s from by omega]at this
 exact this
def Pl.put1 (O:Nat→Nat→Bool) (n s:Nat):Nat→Nat→Bool:=fun a b=>if a=n∧b=s then true else O a b
theorem OpAt.put {w:World} {o n s:Nat} {O:Nat→Nat→Bool} (h:OpAt w o O) (hn:n<8) (hs:s<98):OpAt (w.setCell ⟨o,n*98+s,none⟩ (.bool true)) o (Pl.put1 O n s):=by
 refine(World.rowIs.set h (n*98+s) _).congr (fun i hi=>?_)
 unfold Pl.put1
 by_cases e:i=n*98+s
 ·rw[if_pos e,if_pos (by omega)]
 ·rw[if_neg e,if_neg (by omega)]
theorem put_ok (o n s:Nat) (O:Nat→Nat→Bool) (w:World) (h:OpAt w o O) (hn:n<8) (hs:s<98) :
  Calls prog 206 #[Qp o,.agg (Qi n s)] w fun e w'=>e=.returned (.tuple #[])∧OpAt w' o (Pl.put1 O n s)∧Off (· = o) w w':=by
 have b1:Below w.heap.size w (w.alloc (.cells (Qi n s) 45)):=bn _ _
 have hx:=heap_alloc_new w (.cells (Qi n s) 45)
 have x0:=zF (w:=(w.alloc (.cells (Qi n s) 45)).drew) (j:=0) hx rfl
 have x1:=zF (w:=(w.alloc (.cells (Qi n s) 45)).drew) (j:=1) hx rfl
 have H1:=h.below b1.drew
 have c0:=H1.cell hn hs
 have f0:=World.rowIs.frozen H1 (n*98+s)
 have HP:=zA (H1.put hn hs)
 have HO:=zA ((Off.of_below (F:=(· = o)) b1.drew).set (a:=⟨o,n*98+s,none⟩) (.inl rfl) (.bool true))
 have hn':(n:Int)<8:=by omega
 have hs':(s:Int)<98:=by omega
 have hne:o≠w.heap.size:=by have:=h.lt;omega
 clear h b1 hx H1
 go_enter func206,ntmps206
 go_wp2_with fail
 refine zD (fun w'=>w'.cell? ⟨w.heap.size,0,none⟩=some (.int .i64 n)∧w'.cell? ⟨w.heap.size,1,none⟩=some (.int .i64 s)) 99 (by kernel_rfl) ⟨x0,x1⟩ (fun rV=>?_)
 refine tkd 0 4 rfl ?_
 refine tkd 1 5 rfl ?_
 refine tkd 2 6 rfl ?_
 refine tkd 3 7 rfl ?_
 refine tkd 4 8 rfl ?_
 refine tkd 5 9 rfl ?_
 refine tkd 6 10 rfl ?_
 refine tkd 7 11 rfl ?_
 generalize (w.alloc (.cells (Qi n s) 45)).drew=W0 at *
 refine t1 8 rfl (fun K hK=>?_)
 go_simp
 refine hK.out _ _ (fun _=>⟨(World.cell?_setCell_other _ _ _ _ (fun e=>hne (congrArg Addr.block e))).trans x0,(World.cell?_setCell_other _ _ _ _ (fun e=>hne (congrArg Addr.block e))).trans x1⟩) (fun _=>?_)
 clear hK K
 refine wd ?_
 go_wp2_with fail
 exact yD results206 ⟨rfl,HP.out,HO.out⟩
def DotsC (w:World) (v:Value) (ds:List (Nat×Nat)):Prop:=
 ∃ao cap,v=.slice ao ds.length cap∧(ao=none→ds=[]∧cap=0)∧∀i (h:i<ds.length),∃g off,ao=some ⟨g,off,none⟩∧g<w.heap.size∧w.cell? ⟨g,off+i*2,none⟩=some (.int .i64 (ds[i]).1)∧w.cell? ⟨g,off+i*2+1,none⟩=some (.int .i64 (ds[i]).2)
def DotsT (w:World) (v:Value) (ds:List (Nat×Nat)):Prop:=
 ∃ao cap,v=.slice ao ds.length cap∧(ao=none→ds=[]∧cap=0)∧∀i (h:i<ds.length),∃g off cs fr,ao=some ⟨g,off,none⟩∧w.heap[g]?=some (Obj.cells cs 45 fr)∧cs[off+i*2]?=some (.int .i64 (ds[i]).1)∧cs[off+i*2+1]?=some (.int .i64 (ds[i]).2)
theorem DotsT.toC {w:World} {v:Value} {ds:List (Nat×Nat)} (h:DotsT w v ds):DotsC w v ds:=by
 obtain⟨ao,cap,h1,h2,h3⟩:=h
 refine⟨ao,cap,h1,h2,fun i hi=>?_⟩
 obtain⟨g,off,cs,fr,e,hg,c0,c1⟩:=h3 i hi
 exact⟨g,off,e,(gsi.1 hg).1,by simp[World.cell?,hg,c0],by simp[World.cell?,hg,c1]⟩
theorem DotsC.below {w w':World} {v:Value} {ds:List (Nat×Nat)} (h:DotsC w v ds) (hb:Below w.heap.size w w'):DotsC w' v ds:=by
 obtain⟨ao,cap,h1,h2,h3⟩:=h
 refine⟨ao,cap,h1,h2,fun i hi=>?_⟩
 obtain⟨g,off,e,hg,c0,c1⟩:=h3 i hi
 exact⟨g,off,e,Nat.lt_of_lt_of_le hg hb.size,(hb.cell (p:=⟨g,off+i*2,none⟩) hg).trans c0,(hb.cell (p:=⟨g,off+i*2+1,none⟩) hg).trans c1⟩
theorem DotsT.keep {w w':World} {v:Value} {ds:List (Nat×Nat)} (h:DotsT w v ds) (k:∀(g:Nat) (cs:Array Value) (fr:Nat×Nat),w.heap[g]?=some (Obj.cells cs 45 fr)→w'.heap[g]?=w.heap[g]?):DotsT w' v ds:=by
 obtain⟨ao,cap,h1,h2,h3⟩:=h
 refine⟨ao,cap,h1,h2,fun i hi=>?_⟩
 obtain⟨g,off,cs,fr,e,hg,c0,c1⟩:=h3 i hi
 exact⟨g,off,cs,fr,e,(k g cs fr hg).trans hg,c0,c1⟩
theorem DotsT.below {w w':World} {v:Value} {ds:List (Nat×Nat)} (h:DotsT w v ds) (hb:Below w.heap.size w w'):DotsT w' v ds:=h.keep (fun g cs fr hg=>hb.block g (gsi.1 hg).1)
theorem dots_nil (w:World):DotsT w (.slice none 0 0) []:=⟨none,0,rfl,fun _=>⟨rfl,rfl⟩,fun i hi=>absurd hi (by simp)⟩
theorem each_first (v a:Value) (f:Nat) (ds:List (Nat×Nat)) (I:Nat→World→Prop) (w:World) (h0:I 0 w) (hl:ds.length≤1000000000) (hD:∀k W,I k W→DotsC W v ds) (hA:∀k W W',I k W→Below W.heap.size W W'→I k W')
  (hcf:∀(x:Value) (W:World),Sem.run prog (callFunc f #[a,x]) W=.ok (.enter f #[a,x]) W)
  (hC:∀k (hk:k<ds.length) W,I k W→Calls prog f #[a,.agg (Qi (ds[k]).1 (ds[k]).2)] W fun e w'=>e=.returned (.tuple #[])∧I (k+1) w') :
  Calls prog 207 #[v,.func (.func f) #[a] #[]] w fun e w'=>e=.returned (.tuple #[])∧I ds.length w':=by
 obtain⟨ao,cap,hv,_⟩:=hD 0 w h0
 have HD:=zA hD
 have HA:=zA hA
 have HC:=zA hC
 have HI:=zA h0
 subst hv
 clear hD hA hC h0
 go_enter func207,ntmps207
 go_wp2_with fail
 go_loopw [8] (fun i wr=>∃(k:Nat),k≤ds.length∧i=.int .i64 k∧I k wr) (fun i _=>ds.length - (intOf i).toNat)
 case atStart=>exact⟨0,by omega,rfl,HI.out⟩
 case round=>
  obtain⟨k,hk,rfl,hI⟩:=hrel
  by_cases hlt:k<ds.length
  ·obtain⟨ao',cap',hv,_,h3⟩:=HD.out k wr hI
   cases hv
   obtain⟨g,off,rfl,hg,c0,c1⟩:=h3 k hlt
   have HI2:=zA (HC.out k hlt _ (HA.out k wr (wr.alloc (.cells (Qi (ds[k]).1 (ds[k]).2) 45)) hI (bn _ _)))
   clear h3 hI HI
   generalize ((ds[k]).1:Int)=n at *
   generalize ((ds[k]).2:Int)=s at *
   go_wp2_with fail
   refine HI2.out.mono ?_
   rintro e w5 ⟨rfl,I5⟩
   have HI5:=zA I5
   clear I5 HI2
   go_wp2_with fail
   exact⟨⟨k+1,by omega,rfl,HI5.out⟩,by simp[intOf];omega⟩
  ·obtain rfl:k=ds.length:=by omega
   have HI2:=zA hI
   clear hI HI hlt
   go_wp2_with fail
   exact yD results207 ⟨rfl,HI2.out⟩
end
end Go.Proofs.YtodlmbfbfaofcaaGreat
