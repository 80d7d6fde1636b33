/- TopPolicies, part 8. -/
import Derived.Test.YtodlmbfbfaofcaaGreatM01
import Derived.Test.YtodlmbfbfaofcaaGreatM02
import Derived.Test.YtodlmbfbfaofcaaGreatM04
import Derived.Test.YtodlmbfbfaofcaaGreatM07
open Go.Proofs.Tryz
namespace Go.Proofs.YtodlmbfbfaofcaaGreat
set_option linter.unusedVariables false
set_option linter.unusedSimpArgs false
set_option maxRecDepth 100000
section
open Go.RowKit Rw
theorem info356:(prog.info? 356).map (fun i=>(i.zero,i.size,i.bytes))=some (some (.agg #[.int .i64 0,.nilFunc]),2,16):=by kernel_rfl
theorem own_form {w:World} {b T size n:Nat} {v:Value} {xs:List Value} (h:w.ownsRow b T size v n xs) (hn:0<n):∃g cp,v=.slice (some ⟨g,0,none⟩) n cp:=by
 rcases h.2 with⟨_,h0⟩ | ⟨g,cp,cur,e,_⟩
 ·omega
 ·exact⟨g,cp,e⟩
theorem wait_ok (F:Nat→Prop) (d o:Nat) (size:Int) (bs ys:List Int) (vo:Value) (w:World) (h:DkAt F w d size bs) (ho:w.heap[o]?=some (.cells #[vo] 55 (0,0))) (hy:Bs w vo ys) :
  Calls prog 145 #[Qp d,.int .i64 ys.length,.func (.func 146) #[] #[Qp o]] w fun e w'=>e=.returned (.int .i64 0)∧DkW w' d size bs ys∧Off (· = d) w w':=by
 obtain⟨i0,hi,z0,z1,z2⟩:=info_parts info356
 obtain⟨ao,cap,c0,c1,c2,fz,hb⟩:=h.cells
 have hd:=h.lt
 have HH:=zA h
 have HO:=zA ho
 have HY:=zA hy
 have b1:Below w.heap.size w (w.alloc (.cells #[.int .i64 ys.length,.func (.func 146) #[] #[Qp o]] 356)):=bn _ _
 have HB:=zA b1
 have qK:=zA (World.news_of_block (heap_alloc_new w (.cells #[.int .i64 ys.length,.func (.func 146) #[] #[Qp o]] 356)))
 have hone:∀u∈([.int .i64 ys.length,.func (.func 146) #[] #[Qp o]]:List Value),u.oneCell'=true:=by
  intro u hu
  simp at hu
  rcases hu with rfl | rfl<;>rfl
 have H1:=zA hone
 have qC:(w.alloc (.cells #[.int .i64 ys.length,.func (.func 146) #[] #[Qp o]] 356)).ownsRow w.heap.size 356 2 (.slice none 0 0) 0 []:=⟨rfl,.inl ⟨rfl,rfl⟩⟩
 have HW:=zA qC
 have f2:=fz 2
 have hsz:w.heap.size≤(w.alloc (.cells #[.int .i64 ys.length,.func (.func 146) #[] #[Qp o]] 356)).heap.size:=b1.size
 have HSZ:=zA hsz
 clear h ho hy b1 hone qC hb fz hsz c0 c1
 have hsf:∀(a:Addr) (f:Fn) (x y:Array Value) (W:World),(store a (.func f x y)).run prog W=stored prog W a (.func f x y) .plain:=fun a f x y W=>run_store _ _ _ _ _ rfl
 go_enter func145,ntmps145
 go_wp2_with (at_builtin;refine wpList_append_own _ rfl (.tmp 11) (.tmp 15) 242 rfl w.heap.size 356 i0 (.agg #[.int .i64 0,.nilFunc]) 2 16 underlying242 hi z0 z1 z2 rfl lF (.slice none 0 0) 0 [] rfl HW.out ⟨w.heap.size,0,none⟩ 1 1 [.int .i64 ys.length,.func (.func 146) #[] #[Qp o]] rfl rfl qK.out H1.out (by unfold maxLen;omega) lD HSZ.out ?_;intro v2 w2 pR hgrow2 hat2;obtain⟨gz,cz,rfl⟩:=own_form pR (Nat.succ_pos 0);have HB2:=zA (HB.out.grown hgrow2 HSZ.out (fun k hk=>by cases hk));have d2:=(HB2.out.cell (p:=⟨d,2,none⟩) hd).trans c2;have g2:=(HB2.out.frozen (p:=⟨d,2,none⟩) hd).trans f2;have HOW:=zA pR;clear pR hgrow2 hat2 HW)
 go_ret
 refine⟨rfl,?_,?_⟩
 ·obtain⟨hF,v,hr,hb,_⟩:=HH.out
  rcases HOW.out.2 with⟨_,h0⟩ | ⟨g,cp,cur,hvz,hbg,hg,hc,hm,hs,ht⟩
  ·cases h0
  ·cases hvz
   have hgd:gz≠d:=by omega
   have k5:KeepB w2 (w2.setCell ⟨d,2,none⟩ (.slice (some ⟨gz,0,none⟩) 1 cz)):=fun x cs fr hx=>Below.heap_setCell _ _ _ _ (fun e=>by
    obtain⟨c,hc,_⟩:=hr.of_block (HB2.out.block d hd)
    rw[show x=d from e,hc]at hx;cases hx)
   have hod:o≠d:=fun e=>by
    obtain⟨c,hc,_⟩:=hr
    rw[←e,HO.out]at hc;cases hc
   have hol:=(gsi.1 HO.out).1
   have hh:∀i,i<2→cur[i]?=([.int .i64 ys.length,.func (.func 146) #[] #[Qp o]]:List Value)[i]?:=fun i hi=>by
    have:=congrArg (fun l=>l[i]?) ht
    simp only[List.getElem?_take,List.nil_append]at this
    rw[if_pos (by omega)]at this
    rw[←Array.getElem?_toList];exact this
   have h0:=hh 0 lF
   have h1:=hh 1 lF
   refine⟨v,gz,cz,o,cur,vo,((hr.of_block (HB2.out.block d hd)).set 2 _).congr (fun i hi=>?_),(hb.below HB2.out).keep k5,(Below.heap_setCell _ _ _ _ hgd).trans hg,h0,h1,(Below.heap_setCell _ _ _ _ hod).trans ((HB2.out.block o hol).trans HO.out),(HY.out.below HB2.out).keep k5⟩
   rcases i with _ | _ | _ | i
   ·rfl
   ·rfl
   ·rfl
   ·omega
 ·exact(Off.of_below (F:=(· = d)) HB2.out).set (a:=⟨d,2,none⟩) (.inl rfl) _
theorem append_full (F:Nat→Prop) (d:Nat) (size:Int) (bs ys:List Int) (v:Value) (w:World) (h:DkAt F w d size bs) (hl:bs.length≤1000000) (hs:0≤size) (hs':size≤16384) (hv:BytesC w v ys) (hf:size<bs.length+ys.length) :
  Calls prog 80 #[Qp d,v] w fun e w'=>e=.returned (.int .i64 7)∧Below w.heap.size w w':=by
 obtain⟨ao,cap,rfl⟩:=hv.form
 have HR:=zA (room0 F d size bs w h hl hs hs')
 clear h hv
 have hx:(ys.length:Int)>size - (bs.length:Int):=by omega
 generalize size - (bs.length:Int)=room at *
 go_enter func80,ntmps80
 go_wp2_with fail
 refine HR.out.mono ?_
 rintro e w1 ⟨rfl,b1⟩
 have HB:=zA b1
 clear b1
 go_wp2_with fail
 go_ret
 exact⟨rfl,HB.out⟩
theorem append_ok (F:Nat→Prop) (d:Nat) (size:Int) (bs ys:List Int) (v:Value) (w:World) (h:DkAt F w d size bs) (hl:bs.length≤1000000) (hs:0≤size) (hs':size≤16384) (hv:BytesC w v ys) (hf:(bs.length:Int)+ys.length≤size) :
  Calls prog 80 #[Qp d,v] w fun e w'=>e=.returned (.int .i64 0)∧DkW w' d size bs ys∧Off (· = d) w w':=by
 obtain⟨ao,cap,rfl⟩:=hv.form
 have HR:=zA (room0 F d size bs w h hl hs hs')
 have HH:=zA h
 have HV:=zA hv
 have hyl:ys.length≤16384:=by omega
 clear h hv
 have hx:¬(ys.length:Int)>size - (bs.length:Int):=by omega
 obtain⟨room,hr⟩:∃room,room=size - (bs.length:Int):=⟨_,rfl⟩
 rw[←hr]at hx HR
 clear hr
 go_enter func80,ntmps80
 go_wp2_with fail
 refine HR.out.mono ?_
 rintro e w1 ⟨rfl,b1⟩
 have HC:=zA (xI _ ys w1 (HV.out.below b1) lD)
 have HB:=zA b1
 clear b1 HR HV
 have hmf:∀(fn:Fn) (first cap:Array Value) (w:World),(Instr.makeFunc fn first cap).run prog w=.ok (.func fn first cap) w:=fun _ _ _ _=>rfl
 go_wp2_with fail
 refine HC.out.mono ?_
 rintro e w2 ⟨v2,rfl,O2,b2⟩
 obtain⟨ao2,cp2,hv2⟩:=O2.form
 subst hv2
 have bX:Below w2.heap.size w2 (w2.alloc (.cells #[.slice ao2 ys.length cp2] 55)):=bn _ _
 have qF:=(HB.out.trans (b2.mono HB.out.size)).trans (bX.mono (Nat.le_trans HB.out.size b2.size))
 have HALL:=zA qF
 have HWT:=zA (wait_ok F d w2.heap.size size bs ys _ _ (HH.out.below qF) (heap_alloc_new w2 (.cells #[.slice ao2 ys.length cp2] 55)) (O2.bs.below bX))
 clear O2 b2 bX qF HC HB
 go_wp2_with fail
 refine HWT.out.mono ?_
 rintro e w3 ⟨rfl,W3,F3⟩
 have HW3:=zA W3
 have HF3:=zA (F3.after (G:=(· = d)) HALL.out (fun g hg hf=>hf))
 clear W3 F3 HWT
 go_wp2_with fail
 go_ret
 exact⟨rfl,HW3.out,HF3.out⟩
theorem crash1 (F:Nat→Prop) (d:Nat) (size:Int) (bs ys:List Int) (w:World) (h:DkW w d size bs ys) (hF:F d) (hl:bs.length+ys.length≤1000000) (h0:0<ys.length) :
  Calls prog 81 #[Qp d,.int .i64 ys.length] w fun e w'=>e=.returned (.tuple #[])∧DkAt (fun g=>F g∨w.heap.size≤g) w' d size (bs++ys)∧Off (· = d) w w':=by
 have HA:=zA (after1 d size bs ys w h hl h0)
 obtain⟨v,g,cap,o,cs,vo,hr,_⟩:=id h
 have hd:=hr.lt
 have HR:=zA hr
 have hmx:max (ys.length:Int) 0=ys.length:=by omega
 clear h hr
 go_enter func81,ntmps81
 go_wp2_with fail
 refine HA.out.mono ?_
 rintro e w2 ⟨v2,rfl,O2,b2⟩
 obtain⟨ao2,cp2,hv2⟩:=O2.form
 rw[List.length_append]at hv2
 subst hv2
 have r2:=HR.out.of_block (b2.block d hd)
 have d1:=r2.cell (i:=1) lF
 have d2:=r2.cell (i:=2) lF
 have g1:=r2.frozen 1
 have g2:=r2.frozen 2
 have HR2:=zA r2
 have HO2:=zA O2
 have HB2:=zA b2
 simp only[dkc]at d1 d2
 clear O2 b2 r2 HA
 go_wp2_with fail
 have no5:∀cs fr,w2.heap[d]?≠some (Obj.cells cs 5 fr):=fun cs fr e=>by
  obtain⟨c,hc,_⟩:=HR2.out
  rw[hc]at e;cases e
 have hk:KeepB w2 ((w2.setCell ⟨d,1,none⟩ (.slice ao2 (bs.length+ys.length) cp2)).setCell ⟨d,2,none⟩ (.slice none 0 0)):=fun x cs fr hx=>by
  have hne:x≠d:=fun e=>no5 cs fr (by rw[←e];exact hx)
  rw[Below.heap_setCell _ _ _ _ hne,Below.heap_setCell _ _ _ _ hne]
 refine yG results81 ⟨rfl,⟨.inl hF,.slice ao2 (bs.length+ys.length) cp2,((HR2.out.set 1 _).set 2 _).congr (fun i hi=>?_),HO2.out.toT.keep hk,fun g _ hg=>.inr (HO2.out.lt g hg).1⟩,((Off.of_below (F:=(· = d)) HB2.out).set (a:=⟨d,1,none⟩) (.inl rfl) _).set (a:=⟨d,2,none⟩) (.inl rfl) _⟩
 rcases i with _ | _ | _ | i
 ·rfl
 ·rfl
 ·rfl
 ·omega
theorem sync1 (F:Nat→Prop) (d:Nat) (size:Int) (bs ys:List Int) (w:World) (h:DkW w d size bs ys) (hF:F d) (hl:bs.length+ys.length≤1000000) (h0:0<ys.length) :
  Calls prog 370 #[Qp d] w fun e w'=>e=.returned (.int .i64 0)∧DkAt (fun g=>F g∨w.heap.size≤g) w' d size (bs++ys)∧Off (· = d) w w':=by
 have HW:=zA (waiting1 d size bs ys w h lD)
 have HC:=zA (fun (W:World) (hW:Below w.heap.size w W)=>crash1 F d size bs ys W (h.below hW) hF hl h0)
 clear h
 go_enter func370,ntmps370
 go_wp2_with fail
 refine HW.out.mono ?_
 rintro e w1 ⟨rfl,b1⟩
 have HB:=zA b1
 clear b1 HW
 go_wp2_with fail
 refine(HC.out w1 HB.out).mono ?_
 rintro e w2 ⟨rfl,D2,O2⟩
 have HD2:=zA D2
 have HO2:=zA O2
 clear D2 O2 HC
 go_wp2_with fail
 go_ret
 exact⟨rfl,HD2.out.mono (fun g hg=>hg.imp id (fun h=>Nat.le_trans HB.out.size h)),HO2.out.after HB.out (fun g _ hg=>hg)⟩
theorem lmust_ok (w:World):Calls prog 368 (Qo 0) w fun e w'=>e=.returned (.tuple #[])∧w=w':=by
 go_enter func368,ntmps368
 go_wp2_with fail
 exact yG results368 ⟨rfl,rfl⟩
theorem lmust_bad (x:Int) (hx:(x != 0)=true) (w:World):Calls prog 368 (Qo x) w fun e w'=>e=.panicked [{v:=.iface 478 (.agg (Qo x)),recovered:=false}]∧w=w':=by
 go_enter func368,ntmps368
 go_wp2_with fail
 exact⟨rfl,rfl,rfl⟩
theorem tQ (ad:Addr) (w:World):Calls prog 330 #[.pointer (some ad)] w fun e w'=>e=.returned (.tuple #[])∧w=w':=by
 have qU:∀w,(binOp BinOp.eql 88 (.pointer (some ad)) (.pointer none)).run prog w=.ok (.bool false) w:=fun _=>by kernel_rfl
 go_enter func330,ntmps330
 go_wp2_with fail
 exact yG results330 ⟨rfl,rfl⟩
theorem sG (g:Nat) (v:Value) (bs:List Int) (w:World) (hg:w.heap[g]?=some (.cells #[v] 55 (0,0))) (hv:BytesC w v bs) (hl:bs.length≤4096) :
  Calls prog 332 #[.slice (some ⟨g,0,none⟩) 1 1] w fun e w'=>∃v',e=.returned v'∧OwnB w.heap.size w' v' (Pl.frame bs)∧Below w.heap.size w w':=by
 obtain⟨ao,cap,rfl⟩:=hv.form
 have c0:=cc 0 hg
 have HP:=zA (tJ _ bs w hv hl)
 have hfl:(Pl.frame bs).length≤4200:=by have:=Pl.vint_len6 (n:=bs.length) lD;unfold Pl.frame Pl.fhead;simp[Pl.sum4];omega
 have HFL:=zA hfl
 clear hv hg hfl
 go_enter func332,ntmps332
 go_wp2_with fail
 go_loopw [2,9] (fun x i wr=>(x=.slice none 0 0∧i=.int .i64 0∧wr=w)∨(i=.int .i64 1∧OwnB w.heap.size wr x (Pl.frame bs)∧Below w.heap.size w wr)) (fun _ i _=>1 - (intOf i).toNat)
 case atStart=>exact .inl ⟨rfl,rfl,rfl⟩
 case round=>
  rcases hrel with⟨rfl,rfl,rfl⟩ | ⟨rfl,O2,b2⟩
  ·go_wp2_with fail
   refine HP.out.mono ?_
   rintro e w1 ⟨v1,rfl,O1,b1⟩
   have HO:=zA O1.toT.toC
   have HB:=zA b1
   have HN:=zA (xO wr.heap.size w1)
   clear O1 b1 HP
   go_wp2_with fail
   refine(lmust_ok _).mono ?_
   rintro e w' ⟨rfl,rfl⟩
   go_wp2_with (at_builtin;refine xF rfl (.tmp 20) (.tmp 21) rfl rfl HN.out rfl HO.out (by have:=HFL.out;simp;omega) HB.out HB.out.size ?_;intro v3 w3 hown3 hb3 hg3)
   exact⟨.inr ⟨rfl,hown3,hb3⟩,by simp[intOf]⟩
  ·have HO2:=zA O2
   have HB2:=zA b2
   clear O2 b2
   go_wp2_with fail
   go_ret
   exact⟨_,rfl,HO2.out,HB2.out⟩
theorem lwrite_full (F:Nat→Prop) (d:Nat) (size:Int) (bs ys:List Int) (v:Value) (w:World) (h:DkAt F w d size bs) (hl:bs.length≤1000000) (hs:0≤size) (hs':size≤16384) (hv:BytesC w v ys) (hy:ys.length≤4096) (hf:size<bs.length+(Pl.frame ys).length) :
  Calls prog 336 #[Qp d,v] w fun e w'=>e=.returned (.int .i64 7)∧Below w.heap.size w w':=by
 obtain⟨ao,cap,rfl⟩:=hv.form
 have b1:Below w.heap.size w (w.alloc (.cells (Qo 0) 41)):=bn _ _
 have b2:Below w.heap.size w ((w.alloc (.cells (Qo 0) 41)).alloc (.cells #[.slice ao ys.length cap] 55)):=b1.alloc b1.size _
 have hx:=heap_alloc_new (w.alloc (.cells (Qo 0) 41)) (.cells #[.slice ao ys.length cap] 55)
 rw[show(w.alloc (.cells (Qo 0) 41)).heap.size=w.heap.size+1 from by simp]at hx
 have he:((w.alloc (.cells (Qo 0) 41)).alloc (.cells #[.slice ao ys.length cap] 55)).heap[w.heap.size]?=some (.cells (Qo 0) 41 (0,0)):=(Below.heap_alloc _ _ _ (by simp)).trans (heap_alloc_new w _)
 have hsz:((w.alloc (.cells (Qo 0) 41)).alloc (.cells #[.slice ao ys.length cap] 55)).heap.size=w.heap.size+2:=by simp
 have HF:=zA (sG (w.heap.size+1) _ ys _ hx (hv.below b2) hy)
 have HA:=zA (fun (W:World) (hW:Below w.heap.size w W) (v':Value) (hv':BytesC W v' (Pl.frame ys))=>append_full F d size bs (Pl.frame ys) v' W (h.below hW) hl hs hs' hv' hf)
 have HB:=zA b2
 have HE:=zA he
 have HSZ:=zA hsz
 clear h hv b1 b2 hx he hsz
 go_enter_defers func336,ntmps336
 go_wp2_with fail
 refine(tQ _ _).mono ?_
 rintro e w' ⟨rfl,rfl⟩
 go_wp2_with fail
 refine HF.out.mono ?_
 rintro e w3 ⟨v3,rfl,O3,b3⟩
 have e3:=(b3.block w.heap.size (by rw[HSZ.out];omega)).trans HE.out
 have hb3:=HB.out.trans (b3.mono HB.out.size)
 have HB3:=zA hb3
 have HE3:=zA e3
 have HA3:=zA (HA.out w3 hb3 v3 O3.toT.toC)
 clear O3 b3 e3 hb3 HF HA
 go_wp2_with fail
 refine HA3.out.mono ?_
 rintro e w4 ⟨rfl,b4⟩
 have e4:=(b4.block w.heap.size (gsi.1 HE3.out).1).trans HE3.out
 have HB4:=zA (HB3.out.trans (b4.mono HB3.out.size))
 have HE4:=zA e4
 clear b4 e4 HA3
 go_wp2_with fail
 refine(lmust_bad 7 (by rfl) _).mono ?_
 rintro e w' ⟨rfl,rfl⟩
 go_wp2_with fail
 refine leaves_cons (f:=329) (args:=#[Qp w.heap.size]) (by simp) (by simp[go_sem]) ?_
 have hlt:=(gsi.1 HE4.out).1
 refine(log_caught ⟨w.heap.size,0,none⟩ 7 0 [] _ (zE HE4.out rfl) (zB HE4.out 0)).mono ?_
 rintro e u' w'' ⟨rfl,rfl,rfl⟩
 have hz:=zM (HB4.out.alloc HB4.out.size (.cells (Qo 7) 478)) (Nat.le_refl _) 0 (.int .i64 7)
 have cz:((w4.alloc (.cells (Qo 7) 478)).setCell ⟨w.heap.size,0,none⟩ (.int .i64 7)).cell? ⟨w.heap.size,0,none⟩=some (.int .i64 7):=World.cell?_setCell_same _ _ _ ((World.cell?_alloc_lt _ _ _ hlt).trans (zE HE4.out rfl))
 generalize (w4.alloc (.cells (Qo 7) 478)).setCell ⟨w.heap.size,0,none⟩ (.int .i64 7)=Z at *
 simp[Leaves,settle,results,results336,go_sem,cz]
 exact hz
theorem lwrite_ok (F:Nat→Prop) (d:Nat) (size:Int) (bs ys:List Int) (v:Value) (w:World) (h:DkAt F w d size bs) (hl:bs.length≤900000) (hs:0≤size) (hs':size≤16384) (hv:BytesC w v ys) (hy:ys.length≤4096) (hf:(bs.length:Int)+(Pl.frame ys).length≤size) :
  Calls prog 336 #[Qp d,v] w fun e w'=>e=.returned (.int .i64 0)∧DkAt (fun g=>F g∨w.heap.size≤g) w' d size (bs++Pl.frame ys)∧Off (· = d) w w':=by
 obtain⟨ao,cap,rfl⟩:=hv.form
 have hd:=h.lt
 have hFd:=h.1
 have b1:Below w.heap.size w (w.alloc (.cells (Qo 0) 41)):=bn _ _
 have b2:Below w.heap.size w ((w.alloc (.cells (Qo 0) 41)).alloc (.cells #[.slice ao ys.length cap] 55)):=b1.alloc b1.size _
 have hx:=heap_alloc_new (w.alloc (.cells (Qo 0) 41)) (.cells #[.slice ao ys.length cap] 55)
 rw[show(w.alloc (.cells (Qo 0) 41)).heap.size=w.heap.size+1 from by simp]at hx
 have he:((w.alloc (.cells (Qo 0) 41)).alloc (.cells #[.slice ao ys.length cap] 55)).heap[w.heap.size]?=some (.cells (Qo 0) 41 (0,0)):=(Below.heap_alloc _ _ _ (by simp)).trans (heap_alloc_new w _)
 have hsz:((w.alloc (.cells (Qo 0) 41)).alloc (.cells #[.slice ao ys.length cap] 55)).heap.size=w.heap.size+2:=by simp
 have HF:=zA (sG (w.heap.size+1) _ ys _ hx (hv.below b2) hy)
 have h0:0<(Pl.frame ys).length:=by unfold Pl.frame Pl.fhead;simp
 have HA:=zA (fun (W:World) (hW:Below w.heap.size w W) (v':Value) (hv':BytesC W v' (Pl.frame ys))=>append_ok F d size bs (Pl.frame ys) v' W (h.below hW) lD hs hs' hv' hf)
 have HS:=zA (fun (W:World) (hW:DkW W d size bs (Pl.frame ys))=>sync1 F d size bs (Pl.frame ys) W hW hFd lD h0)
 have HB:=zA b2
 have HE:=zA he
 have HSZ:=zA hsz
 clear h hv b1 b2 hx he hsz h0 hf
 go_enter_defers func336,ntmps336
 go_wp2_with fail
 refine(tQ _ _).mono ?_
 rintro e w' ⟨rfl,rfl⟩
 go_wp2_with fail
 refine HF.out.mono ?_
 rintro e w3 ⟨v3,rfl,O3,b3⟩
 have e3:=(b3.block w.heap.size (by rw[HSZ.out];omega)).trans HE.out
 have hb3:=HB.out.trans (b3.mono HB.out.size)
 have HB3:=zA hb3
 have HE3:=zA e3
 have HA3:=zA (HA.out w3 hb3 v3 O3.toT.toC)
 clear O3 b3 e3 hb3 HF HA
 go_wp2_with fail
 refine HA3.out.mono ?_
 rintro e w4 ⟨rfl,W4,O4⟩
 have e4:=(O4.same w.heap.size (gsi.1 HE3.out).1 lD).trans HE3.out
 have hO4:=O4.after (G:=(· = d)) HB3.out (fun g _ hg=>hg)
 have HO4:=zA hO4
 have HE4:=zA e4
 have HS4:=zA (HS.out w4 W4)
 clear W4 O4 hO4 e4 HA3 HS
 go_wp2_with fail
 refine(lmust_ok _).mono ?_
 rintro e w' ⟨rfl,rfl⟩
 go_wp2_with fail
 refine HS4.out.mono ?_
 rintro e w5 ⟨rfl,D5,O5⟩
 have e5:=(O5.same w.heap.size (gsi.1 HE4.out).1 lD).trans HE4.out
 have c5:=cc 0 e5
 have f5:=zB e5 0
 have HD5:=zA D5
 have HO5:=zA (HO4.out.trans O5)
 have HS5:=zA HO4.out.size
 have HE5:=zA e5
 clear D5 O5 e5 HS4
 go_wp2_with fail
 refine leaves_cons (f:=329) (args:=#[Qp w.heap.size]) (by simp) (by simp[go_sem]) ?_
 refine(log_idle _ _).mono ?_
 rintro e u' w'' ⟨rfl,rfl,rfl⟩
 have cz:=World.cell?_setCell_same w5 ⟨w.heap.size,0,none⟩ (.int .i64 0) c5
 have oz:=HO5.out.set (a:=⟨w.heap.size,0,none⟩) (.inr (Nat.le_refl _)) (.int .i64 0)
 have dz:DkAt (fun g=>F g∨w.heap.size≤g) (w5.setCell ⟨w.heap.size,0,none⟩ (.int .i64 0)) d size (bs++Pl.frame ys):=by
  exact(HD5.out.mono (fun g hg=>hg.imp id (fun h=>Nat.le_trans HS5.out h))).set lD (fun cs fr e=>by rw[HE5.out]at e;cases e) _ _
 generalize w5.setCell ⟨w.heap.size,0,none⟩ (.int .i64 0)=Z at *
 simp[Leaves,settle,results,results336,go_sem,cz]
 exact⟨dz,oz⟩
theorem read_none (ao:Option Addr) (cap:Nat) (w:World):Calls prog 175 #[.slice ao 0 cap] w fun e w'=>e=.panicked [{v:=.iface 386 (.agg (Qo 3)),recovered:=false}]∧w=w':=by
 go_enter func175,ntmps175
 go_wp2_with fail
 refine(fmust_false _ _).mono ?_
 rintro e w' ⟨rfl,rfl⟩
 go_wp2_with fail
 exact zT rfl ⟨rfl,rfl⟩
theorem fall_none (ao:Option Addr) (cap:Nat) (w:World):Calls prog 235 #[.slice ao 0 cap] w fun e w'=>e=.returned (.tuple #[.slice none 0 0,.int .i64 0])∧Below w.heap.size w w':=by
 have b1:Below w.heap.size w (w.alloc (.cells (Qo 0) 41)):=bn _ _
 have hx:=heap_alloc_new w (.cells (Qo 0) 41)
 have HB:=zA b1
 have HX:=zA hx
 clear b1 hx
 go_enter_defers func235,ntmps235
 go_wp2_with fail
 go_loopw [2,3] (fun x n wr=>x=.slice none 0 0∧n=.int .i64 0∧wr=w.alloc (.cells (Qo 0) 41)) (fun _ _ _=>0)
 case atStart=>exact⟨rfl,rfl,rfl⟩
 case round=>
  obtain⟨rfl,rfl,rfl⟩:=hrel
  go_wp2_with fail
  all_goals
   refine(read_none _ _ _).mono ?_
   rintro e w' ⟨rfl,rfl⟩
   go_wp2_with fail
   have hc:=cc 0 HX.out
   have hf:=zB HX.out 0
   refine leaves_cons (f:=174) (args:=#[Qp w.heap.size]) (by simp) (by simp[go_sem]) ?_
   refine(rU ⟨w.heap.size,0,none⟩ 3 0 [] _ hc hf).mono ?_
   rintro e u' w'' ⟨rfl,rfl,rfl⟩
   have b2:=zM (HB.out.alloc HB.out.size (.cells (Qo 3) 386)) (Nat.le_refl _) 0 (.int .i64 3)
   generalize ((w.alloc (.cells (Qo 0) 41)).alloc (.cells (Qo 3) 386)).setCell ⟨w.heap.size,0,none⟩ (.int .i64 3)=Z at *
   simp[Leaves,settle,results,results235,go_sem]
   exact b2
theorem sB (F:Nat→Prop) (d:Nat) (size:Int) (w:World) (h:DkAt F w d size []):Calls prog 141 #[Qp d] w fun e w'=>e=.returned (.tuple #[.slice none 0 0,.bool false])∧Below w.heap.size w w':=by
 have HR:=zA (read0 F d size [] w h (by simp))
 clear h
 go_enter func141,ntmps141
 go_wp2_with fail
 refine HR.out.mono ?_
 rintro e w1 ⟨v1,rfl,O1,b1⟩
 obtain⟨ao,cap,hv⟩:=O1.form
 rw[List.length_nil]at hv
 subst hv
 have HB:=zA b1
 clear O1 b1 HR
 go_wp2_with fail
 refine(fall_none ao cap w1).mono ?_
 rintro e w2 ⟨rfl,b2⟩
 have HB2:=zA (HB.out.trans (b2.mono HB.out.size))
 clear b2 HB
 go_wp2_with fail
 exact bodyPost_ret (v:=.tuple #[.slice none 0 0,.bool false]) (by simp[results,results141,go_sem]) rfl ⟨rfl,HB2.out⟩
theorem lmend_none (F:Nat→Prop) (d:Nat) (size:Int) (w:World) (h:DkAt F w d size []):Calls prog 284 #[Qp d] w fun e w'=>e=.returned (.int .i64 0)∧Below w.heap.size w w':=by
 have b1:Below w.heap.size w (w.alloc (.cells (Qo 0) 41)):=bn _ _
 have hx:=heap_alloc_new w (.cells (Qo 0) 41)
 have HR:=zA (sB F d size _ (h.below b1))
 have HB:=zA b1
 have HX:=zA hx
 clear h b1 hx
 go_enter_defers func284,ntmps284
 go_wp2_with fail
 refine(tQ _ _).mono ?_
 rintro e w' ⟨rfl,rfl⟩
 go_wp2_with fail
 refine HR.out.mono ?_
 rintro e w2 ⟨rfl,b2⟩
 have x2:=(b2.block _ (gsi.1 HX.out).1).trans HX.out
 have c2:=cc 0 x2
 have f2:=zB x2 0
 have HB2:=zA (HB.out.trans (b2.mono HB.out.size))
 clear b2 HR x2
 go_wp2_with fail
 refine leaves_cons (f:=329) (args:=#[Qp w.heap.size]) (by simp) (by simp[go_sem]) ?_
 refine(log_idle _ _).mono ?_
 rintro e u' w'' ⟨rfl,rfl,rfl⟩
 have cz:=World.cell?_setCell_same w2 ⟨w.heap.size,0,none⟩ (.int .i64 0) c2
 have bz:=zM HB2.out (Nat.le_refl _) 0 (.int .i64 0)
 generalize w2.setCell ⟨w.heap.size,0,none⟩ (.int .i64 0)=Z at *
 simp[Leaves,settle,results,results284,go_sem,cz]
 exact bz
theorem xW {b:Bool} {x:Int} {w:World} (h:b=true):Calls prog 286 #[.bool b,.int .i64 x] w fun e w'=>e=.returned (.tuple #[])∧w=w':=by
 subst h
 go_enter func286,ntmps286
 go_wp2_with fail
 exact yG results286 ⟨rfl,rfl⟩
theorem smust_f {b:Bool} {x:Int} {w:World} (h:b=false):Calls prog 286 #[.bool b,.int .i64 x] w fun e w'=>e=.panicked [{v:=.iface 444 (.agg (Qo x)),recovered:=false}]∧w=w':=by
 subst h
 go_enter func286,ntmps286
 go_wp2_with fail
 exact⟨rfl,rfl,rfl⟩
theorem tG (k:Int) (n:Nat) (w:World) (hn:n≤1099511627776):Calls prog 288 #[.int .u8 k,.int .i64 n] w fun e w'=>∃v',e=.returned v'∧OwnB w.heap.size w' v' (k::Pl.vint n)∧Below w.heap.size w w':=by
 have b1:Below w.heap.size w (w.alloc (.cells #[.int .u8 k] 5)):=bn _ _
 have HP:=zA (xZ _ [k] n _ (xJ w k) (by simp) hn)
 have HB:=zA b1
 clear b1
 go_enter func288,ntmps288
 go_wp2_with fail
 refine HP.out.mono ?_
 rintro e w1 ⟨v1,rfl,O1,b1⟩
 have HO:=zA (O1.mono HB.out.size)
 have HB1:=zA (HB.out.trans (b1.mono HB.out.size))
 clear O1 b1 HP
 go_wp2_with fail
 refine(xW (by rfl)).mono ?_
 rintro e w' ⟨rfl,rfl⟩
 go_wp2_with fail
 go_ret
 exact⟨_,rfl,HO.out,HB1.out⟩
namespace Pl
structure Ev where
 node:Int
 seq:Int
 time:Int
 kind:Int
 work:Int
 value:Int
 mn:Int
 mx:Int
 goal:Int
 slack:Int
 up:Int
 down:Int
 cool:Int
 ro:Option Addr:=none
 rn:Nat:=0
 rc:Nat:=0
 rm:List (Nat×Nat):=[]
def Ev.cells (e:Ev):List Value:=[.int .i64 e.node,.int .i64 e.seq,.int .i64 e.time,.int .i64 e.kind,.int .i64 e.work,.int .i64 e.value,.int .i64 e.mn,.int .i64 e.mx,.int .i64 e.goal,.int .i64 e.slack,.int .i64 e.up,.int .i64 e.down,.int .i64 e.cool,.slice e.ro e.rn e.rc]
def evs (es:List Ev):List Value:=es.flatMap Ev.cells
end Pl
abbrev stc (d:Nat) (used upto inc:Int) (v:Value):Nat→Value:=fun j=>if j=0 then .pointer (some ⟨d,0,none⟩)else if j=1 then .int .i64 used else if j=2 then .int .i64 upto else if j=3 then .int .i64 inc else v
def StAt (F:Nat→Prop) (w:World) (s:Nat) (size:Int) (bs:List Int) (used upto inc:Int) (es:List Pl.Ev):Prop:=
 F s∧∃d v,w.rowIs s 410 5 (stc d used upto inc v)∧DkAt F w d size bs∧w.ownsRow 0 175 14 v es.length (Pl.evs es)∧∀g,v.ownBlock=some g→F g
theorem StAt.mono {F G:Nat→Prop} {w:World} {s:Nat} {size:Int} {bs:List Int} {used upto inc:Int} {es:List Pl.Ev} (h:StAt F w s size bs used upto inc es) (k:∀g,F g→G g):StAt G w s size bs used upto inc es:=by
 obtain⟨h1,d,v,h2,h3,h4,h5⟩:=h;exact⟨k s h1,d,v,h2,h3.mono k,h4,fun g hg=>k g (h5 g hg)⟩
theorem StAt.keep {F:Nat→Prop} {w w':World} {s:Nat} {size:Int} {bs:List Int} {used upto inc:Int} {es:List Pl.Ev} (h:StAt F w s size bs used upto inc es) (k:∀g,F g→w'.heap[g]?=w.heap[g]?):StAt F w' s size bs used upto inc es:=by
 obtain⟨h1,d,v,h2,h3,h4,h5⟩:=h;exact⟨h1,d,v,h2.of_block (k s h1),h3.keep k,xG h4 (fun g hg=>k g (h5 g hg)),h5⟩
theorem StAt.lt {F:Nat→Prop} {w:World} {s:Nat} {size:Int} {bs:List Int} {used upto inc:Int} {es:List Pl.Ev} (h:StAt F w s size bs used upto inc es):s<w.heap.size:=by obtain⟨_,d,v,h2,_⟩:=h;exact h2.lt
theorem StAt.below {F:Nat→Prop} {w w':World} {s:Nat} {size:Int} {bs:List Int} {used upto inc:Int} {es:List Pl.Ev} (h:StAt F w s size bs used upto inc es) (hb:Below w.heap.size w w'):StAt F w' s size bs used upto inc es:=by
 obtain⟨h1,d,v,h2,h3,h4,h5⟩:=h;exact⟨h1,d,v,h2.of_block (hb.block s h2.lt),h3.below hb,xG h4 (fun g hg=>hb.block g (h4.lt g hg).2),h5⟩
theorem StAt.set {F:Nat→Prop} {w:World} {s d:Nat} {size:Int} {bs:List Int} {used upto inc used' upto' inc':Int} {v:Value} {es:List Pl.Ev} (hF:F s) (hr:w.rowIs s 410 5 (stc d used upto inc v)) (hd:DkAt F w d size bs) (ho:w.ownsRow 0 175 14 v es.length (Pl.evs es)) (hv:∀g,v.ownBlock=some g→F g)
  (j:Nat) (x:Int) (hx:∀i,i<5→(if i=j then .int .i64 x else stc d used upto inc v i)=stc d used' upto' inc' v i):StAt F (w.setCell ⟨s,j,none⟩ (.int .i64 x)) s size bs used' upto' inc' es:=by
 obtain⟨c,hc,hcs⟩:=hr
 have hr:w.rowIs s 410 5 (stc d used upto inc v):=⟨c,hc,hcs⟩
 have n5:∀cs fr,w.heap[s]?≠some (Obj.cells cs 5 fr):=fun cs fr e=>by rw[hc]at e;cases e
 refine⟨hF,d,v,(hr.set j _).congr hx,?_,xG ho (fun g hg=>Below.heap_setCell _ _ _ _ (fun e=>?_)),hv⟩
 ·exact hd.set (fun e=>by
   obtain⟨_,v',⟨c',hc',_⟩,_⟩:=hd
   rw[←e,hc]at hc';cases hc') n5 _ _
 ·obtain⟨cs,hcs'⟩:=zK ho hg
  rw[show g=s from e,hc]at hcs';cases hcs'
theorem StAt.inside {F:Nat→Prop} {w:World} {s:Nat} {size:Int} {bs:List Int} {used upto inc:Int} {es:List Pl.Ev} (h:StAt F w s size bs used upto inc es):StAt (fun g=>F g∧g<w.heap.size) w s size bs used upto inc es:=by
 obtain⟨h1,d,v,h2,h3,h4,h5⟩:=h;exact⟨⟨h1,h2.lt⟩,d,v,h2,h3.inside,h4,fun g hg=>⟨h5 g hg,(h4.lt g hg).2⟩⟩
theorem StAt.other {F:Nat→Prop} {w:World} {s R:Nat} {size:Int} {bs:List Int} {used upto inc:Int} {es:List Pl.Ev} (h:StAt F w s size bs used upto inc es) {t:TypeId} {cs:Array Value} {fr:Nat×Nat} (hR:w.heap[R]?=some (.cells cs t fr)) (ht:t≠410∧t≠244∧t≠5∧t≠175) (j:Nat) (u:Value):StAt F (w.setCell ⟨R,j,none⟩ u) s size bs used upto inc es:=by
 obtain⟨h1,d,v,h2,h3,h4,h5⟩:=h
 obtain⟨c,hc,_⟩:=id h2
 obtain⟨_,v',⟨c',hc',_⟩,_⟩:=id h3
 refine⟨h1,d,v,h2.of_block (Below.heap_setCell _ _ _ _ (fun e=>?_)),h3.set (fun e=>?_) (fun cs' fr' e=>?_) _ _,xG h4 (fun g hg=>Below.heap_setCell _ _ _ _ (fun e=>?_)),h5⟩
 ·rw[show s=R from e,hR]at hc;cases hc;exact ht.1 rfl
 ·rw[←e,hR]at hc';cases hc';exact ht.2.1 rfl
 ·rw[hR]at e;cases e;exact ht.2.2.1 rfl
 ·obtain⟨x,hx⟩:=zK h4 hg
  rw[show g=R from e,hR]at hx;cases hx;exact ht.2.2.2 rfl
theorem wX (F:Nat→Prop) (s:Nat) (size:Int) (bs ys:List Int) (used upto inc:Int) (es:List Pl.Ev) (v:Value) (w:World) (h:StAt F w s size bs used upto inc es) (hl:bs.length≤900000) (hs:0≤size) (hs':size≤16384) (hv:BytesC w v ys) (hy:ys.length≤4096) (hf:size<bs.length+(Pl.frame ys).length) :
  Calls prog 287 #[Qp s,v] w fun e w'=>e=.panicked [{v:=.iface 444 (.agg (Qo 7)),recovered:=false}]∧Below w.heap.size w w':=by
 obtain⟨ao,cap,rfl⟩:=hv.form
 obtain⟨h1,d,u,hr,hd,_,_⟩:=h
 have c0:=hr.cell (i:=0) lF
 simp only[stc,if_true]at c0
 have HW:=zA (lwrite_full F d size bs ys _ w hd lD hs hs' hv hy hf)
 clear hr hd hv hf
 go_enter func287,ntmps287
 go_wp2_with fail
 refine HW.out.mono ?_
 rintro e w1 ⟨rfl,b1⟩
 have HB:=zA b1
 clear b1
 go_wp2_with fail
 refine(smust_f (by rfl)).mono ?_
 rintro e w' ⟨rfl,rfl⟩
 go_wp2_with fail
 exact⟨rfl,rfl,HB.out⟩
theorem uS (F:Nat→Prop) (s:Nat) (size:Int) (bs ys:List Int) (used upto inc:Int) (es:List Pl.Ev) (v:Value) (w:World) (h:StAt F w s size bs used upto inc es) (hl:bs.length≤900000) (hs:0≤size) (hs':size≤16384) (hv:BytesC w v ys) (hy:ys.length≤4096) (hf:(bs.length:Int)+(Pl.frame ys).length≤size) :
  Calls prog 287 #[Qp s,v] w fun e w'=>e=.returned (.tuple #[])∧StAt (fun g=>F g∨w.heap.size≤g) w' s size (bs++Pl.frame ys) used upto inc es∧Off F w w':=by
 obtain⟨ao,cap,rfl⟩:=hv.form
 obtain⟨h1,d,u,hr,hd,ho,hu⟩:=h
 have c0:=hr.cell (i:=0) lF
 simp only[stc,if_true]at c0
 have HW:=zA (lwrite_ok F d size bs ys _ w hd hl hs hs' hv hy hf)
 have HR:=zA hr
 have HD:=zA hd
 have HO:=zA ho
 clear hr hd hv hf ho
 go_enter func287,ntmps287
 go_wp2_with fail
 refine HW.out.mono ?_
 rintro e w1 ⟨rfl,D1,O1⟩
 have HD1:=zA D1
 have HO1:=zA O1
 clear D1 O1 HW
 go_wp2_with fail
 refine(xW (by rfl)).mono ?_
 rintro e w' ⟨rfl,rfl⟩
 go_wp2_with fail
 have hdb:∃c,w.heap[d]?=some (.cells c 244 (0,0)):=by
  obtain⟨_,v',⟨c,hc,_⟩,_⟩:=HD.out
  exact⟨c,hc⟩
 obtain⟨cd,hcd⟩:=hdb
 refine yG results287 ⟨rfl,⟨.inl h1,d,u,HR.out.of_block (HO1.out.same s HR.out.lt (fun e=>?_)),HD1.out,xG HO.out (fun g hg=>HO1.out.same g (HO.out.lt g hg).2 (fun e=>?_)),fun g hg=>.inl (hu g hg)⟩,HO1.out.mono (fun g _ hg=>by rw[show g=d from hg];exact HD.out.1)⟩
 ·obtain⟨c,hc,_⟩:=HR.out
  rw[show s=d from e,hcd]at hc;cases hc
 ·obtain⟨cs,hcs⟩:=zK HO.out hg
  rw[show g=d from e,hcd]at hcs;cases hcs
end
section
open Go.RowKit Rw
instance:Coe Pl.Ev (Array Value):=⟨fun e=>#[.int .i64 e.node,.int .i64 e.seq,.int .i64 e.time,.int .i64 e.kind,.int .i64 e.work,.int .i64 e.value,.int .i64 e.mn,.int .i64 e.mx,.int .i64 e.goal,.int .i64 e.slack,.int .i64 e.up,.int .i64 e.down,.int .i64 e.cool,.slice e.ro e.rn e.rc]⟩
inductive Rh where
 | Qhl (W:World) (g:Nat) (e:Pl.Ev)
 | Qhe (W:World) (g o:Nat) (e:Pl.Ev)
 | Qhu0 (W:World) (g:Nat) (U:Nat→Nat) (s:Value)
 | Qhu5 (W:World) (g:Nat) (U:Nat→Nat) (s:Value)
 | Qhz (W:World) (g:Nat)
open Rh
instance (W:World) (g:Nat) (e:Pl.Ev):CoeDep Rh (Qhl W g e) World:=⟨((((((((((((((W.setCell ⟨g,0,none⟩ (.int .i64 e.node)).setCell ⟨g,1,none⟩ (.int .i64 e.seq)).setCell ⟨g,2,none⟩ (.int .i64 e.time)).setCell ⟨g,3,none⟩ (.int .i64 e.kind)).setCell ⟨g,4,none⟩ (.int .i64 e.work)).setCell ⟨g,5,none⟩ (.int .i64 e.value)).setCell ⟨g,6,none⟩ (.int .i64 e.mn)).setCell ⟨g,7,none⟩ (.int .i64 e.mx)).setCell ⟨g,8,none⟩ (.int .i64 e.goal)).setCell ⟨g,9,none⟩ (.int .i64 e.slack)).setCell ⟨g,10,none⟩ (.int .i64 e.up)).setCell ⟨g,11,none⟩ (.int .i64 e.down)).setCell ⟨g,12,none⟩ (.int .i64 e.cool)).setCell ⟨g,13,none⟩ (.slice e.ro e.rn e.rc))⟩
instance (W:World) (g o:Nat) (e:Pl.Ev):CoeDep Rh (Qhe W g o e) World:=⟨((((((((((((((W.setCell ⟨g,o,none⟩ (.int .i64 e.node)).setCell ⟨g,o+1,none⟩ (.int .i64 e.seq)).setCell ⟨g,o+2,none⟩ (.int .i64 e.time)).setCell ⟨g,o+3,none⟩ (.int .i64 e.kind)).setCell ⟨g,o+4,none⟩ (.int .i64 e.work)).setCell ⟨g,o+5,none⟩ (.int .i64 e.value)).setCell ⟨g,o+6,none⟩ (.int .i64 e.mn)).setCell ⟨g,o+7,none⟩ (.int .i64 e.mx)).setCell ⟨g,o+8,none⟩ (.int .i64 e.goal)).setCell ⟨g,o+9,none⟩ (.int .i64 e.slack)).setCell ⟨g,o+10,none⟩ (.int .i64 e.up)).setCell ⟨g,o+11,none⟩ (.int .i64 e.down)).setCell ⟨g,o+12,none⟩ (.int .i64 e.cool)).setCell ⟨g,o+13,none⟩ (.slice e.ro e.rn e.rc))⟩
instance (W:World) (g:Nat) (U:Nat→Nat) (s:Value):CoeDep Rh (Qhu0 W g U s) World:=⟨(((((((((W.setCell ⟨g,0,none⟩ (.int .i64 (U 0))).setCell ⟨g,1,none⟩ (.int .i64 (U 1))).setCell ⟨g,2,none⟩ (.int .i64 (U 2))).setCell ⟨g,3,none⟩ (.int .i64 (U 3))).setCell ⟨g,4,none⟩ (.int .i64 (U 4))).setCell ⟨g,5,none⟩ (.int .i64 (U 5))).setCell ⟨g,6,none⟩ (.int .i64 (U 6))).setCell ⟨g,7,none⟩ (.int .i64 (U 7))).setCell ⟨g,8,none⟩ (s))⟩
instance (W:World) (g:Nat) (U:Nat→Nat) (s:Value):CoeDep Rh (Qhu5 W g U s) World:=⟨(((((((((W.setCell ⟨g,5,none⟩ (.int .i64 (U 0))).setCell ⟨g,6,none⟩ (.int .i64 (U 1))).setCell ⟨g,7,none⟩ (.int .i64 (U 2))).setCell ⟨g,8,none⟩ (.int .i64 (U 3))).setCell ⟨g,9,none⟩ (.int .i64 (U 4))).setCell ⟨g,10,none⟩ (.int .i64 (U 5))).setCell ⟨g,11,none⟩ (.int .i64 (U 6))).setCell ⟨g,12,none⟩ (.int .i64 (U 7))).setCell ⟨g,13,none⟩ (s))⟩
instance (W:World) (g:Nat):CoeDep Rh (Qhz W g) World:=⟨(((((((((W.setCell ⟨g,0,none⟩ (.int .i64 0)).setCell ⟨g,1,none⟩ (.int .i64 0)).setCell ⟨g,2,none⟩ (.int .i64 0)).setCell ⟨g,3,none⟩ (.int .i64 0)).setCell ⟨g,4,none⟩ (.int .i64 0)).setCell ⟨g,5,none⟩ (.int .i64 0)).setCell ⟨g,6,none⟩ (.int .i64 0)).setCell ⟨g,7,none⟩ (.int .i64 0)).setCell ⟨g,8,none⟩ (.slice none 0 0))⟩
end
section
open Go.RowKit Rw Rh
theorem StAt.cells {F:Nat→Prop} {w:World} {s:Nat} {size:Int} {bs:List Int} {used upto inc:Int} {es:List Pl.Ev} (h:StAt F w s size bs used upto inc es):∃d v,w.cell? ⟨s,0,none⟩=some (.pointer (some ⟨d,0,none⟩))∧w.cell? ⟨s,1,none⟩=some (.int .i64 used)∧w.cell? ⟨s,2,none⟩=some (.int .i64 upto)∧w.cell? ⟨s,3,none⟩=some (.int .i64 inc)∧w.cell? ⟨s,4,none⟩=some v∧(∀j,w.frozen? ⟨s,j,none⟩=false)∧
  w.rowIs s 410 5 (stc d used upto inc v)∧DkAt F w d size bs∧w.ownsRow 0 175 14 v es.length (Pl.evs es)∧(∀g,v.ownBlock=some g→F g):=by
 obtain⟨h1,d,v,h2,h3,h4,h5⟩:=h
 exact⟨d,v,h2.cell (i:=0) lF,h2.cell (i:=1) lF,h2.cell (i:=2) lF,h2.cell (i:=3) lF,h2.cell (i:=4) lF,h2.frozen,h2,h3,h4,h5⟩
theorem open_ok (F:Nat→Prop) (d:Nat) (size:Int) (w:World) (h:DkAt F w d size []) :
  Calls prog 210 #[Qp d] w fun e w'=>∃s,e=.returned (.tuple #[Qp s,.int .i64 0])∧w.heap.size≤s∧StAt (fun g=>F g∨w.heap.size≤g) w' s size [] 0 0 0 []∧Below w.heap.size w w':=by
 have b1:Below w.heap.size w (w.alloc (.cells (Qo 0) 41)):=bn _ _
 have hx:=heap_alloc_new w (.cells (Qo 0) 41)
 have HM:=zA (lmend_none F d size _ (h.below b1))
 have HH:=zA h
 have HB:=zA b1
 have HX:=zA hx
 clear h b1 hx
 go_enter_defers func210,ntmps210
 go_wp2_with fail
 refine HM.out.mono ?_
 rintro e w2 ⟨rfl,b2⟩
 have x2:=(b2.block _ (gsi.1 HX.out).1).trans HX.out
 have hb2:=HB.out.trans (b2.mono HB.out.size)
 have b3:Below w2.heap.size w2 (w2.alloc (.cells #[Qp d,.int .i64 0,.int .i64 0,.int .i64 0,.slice none 0 0] 410)):=bn _ _
 have hb3:=hb2.trans (b3.mono hb2.size)
 have hs2:=hb2.size
 have HB3:=zA hb3
 have HX3:=zA ((b3.block _ (gsi.1 x2).1).trans x2)
 have HS3:=zA (heap_alloc_new w2 (.cells #[Qp d,.int .i64 0,.int .i64 0,.int .i64 0,.slice none 0 0] 410))
 have HR:=zA (sB F d size _ (HH.out.below hb3))
 clear b2 hb2 b3 hb3 x2 HM
 go_wp2_with fail
 refine HR.out.mono ?_
 rintro e w4 ⟨rfl,b4⟩
 have x4:=(b4.block _ (gsi.1 HX3.out).1).trans HX3.out
 have s4:=(b4.block _ (gsi.1 HS3.out).1).trans HS3.out
 have HB4:=zA (HB3.out.trans (b4.mono HB3.out.size))
 have HX4:=zA x4
 have HS4:=zA s4
 clear b4 x4 s4 HR
 go_wp2_with fail
 go_loopw [25] (fun i wr=>i=.int .i64 0∧wr=w4) (fun _ _=>0)
 case atStart=>exact⟨rfl,rfl⟩
 case round=>
  obtain⟨rfl,rfl⟩:=hrel
  have c1:=cc 1 HS4.out
  have c2:=cc 2 HS4.out
  have g1:=zB HS4.out 1
  have c0:=cc 0 HX4.out
  have g0:=zB HX4.out 0
  go_wp2_with fail
  refine leaves_cons (f:=283) (args:=#[Qp w.heap.size]) (by simp) (by simp[go_sem]) ?_
  refine(wA _ _).mono ?_
  rintro e u' w'' ⟨rfl,rfl,rfl⟩
  have hws:w.heap.size≠w2.heap.size:=fun e=>by
   have h1:=HS4.out
   rw[←e,HX4.out]at h1;cases h1
  have hr:wr.rowIs w2.heap.size 410 5 (stc d 0 0 0 (.slice none 0 0)):=⟨_,HS4.out,rfl,fun i hi=>by
   rcases i with _ | _ | _ | _ | _ | i
   ·rfl
   ·rfl
   ·rfl
   ·rfl
   ·rfl
   ·omega⟩
  have D4:=HH.out.below HB4.out
  have S1:StAt (fun g=>F g∨w.heap.size≤g) (wr.setCell ⟨w2.heap.size,1,none⟩ (.int .i64 0)) w2.heap.size size [] 0 0 0 []:=
   StAt.set (.inr hs2) hr (D4.mono (fun g hg=>.inl hg)) ⟨rfl,.inl ⟨rfl,rfl⟩⟩ (fun g hg=>by cases hg) 1 0 (fun i hi=>by
    rcases i with _ | _ | _ | _ | _ | i
    ·rfl
    ·rfl
    ·rfl
    ·rfl
    ·rfl
    ·omega)
  have x5:=(Below.heap_setCell wr ⟨w2.heap.size,1,none⟩ (.int .i64 0) w.heap.size hws).trans HX4.out
  have S2:=S1.other x5 lF 0 (.int .i64 0)
  have b5:=zM (zM HB4.out hs2 1 (.int .i64 0)) (Nat.le_refl _) 0 (.int .i64 0)
  have cz:=World.cell?_setCell_same (wr.setCell ⟨w2.heap.size,1,none⟩ (.int .i64 0)) ⟨w.heap.size,0,none⟩ (.int .i64 0) (zE x5 rfl)
  generalize (wr.setCell ⟨w2.heap.size,1,none⟩ (.int .i64 0)).setCell ⟨w.heap.size,0,none⟩ (.int .i64 0)=Z at *
  simp[Leaves,settle,results,results210,go_sem,cz]
  exact⟨hs2,S2,b5⟩
theorem bump_ok (F:Nat→Prop) (s:Nat) (size:Int) (bs:List Int) (used upto:Int) (inc:Nat) (es:List Pl.Ev) (w:World) (h:StAt F w s size bs used upto inc es) (hin:∀g,F g→g<w.heap.size) (hl:bs.length≤900000) (hs:0≤size) (hs':size≤16384) (hi:inc<1099511627776)
  (hf:(bs.length:Int)+(Pl.frame (2::Pl.vint (inc+1))).length≤size) :
  Calls prog 212 #[Qp s] w fun e w'=>e=.returned (.tuple (Qi ((inc+1:Nat):Int) 0))∧StAt (fun g=>F g∨w.heap.size≤g) w' s size (bs++Pl.frame (2::Pl.vint (inc+1))) used upto ((inc+1:Nat):Int) es∧Off F w w':=by
 have b1:Below w.heap.size w (w.alloc (.cells (Qo 0) 41)):=bn _ _
 have hx:=heap_alloc_new w (.cells (Qo 0) 41)
 have hslt:=h.lt
 have h1:=h.below b1
 obtain⟨d,v,_,_,_,c3,_,_,_⟩:=h1.cells
 have HT:=zA (tG 2 (inc+1) (w.alloc (.cells (Qo 0) 41)) lD)
 have hv6:=Pl.vint_len6 (n:=inc+1) lD
 have HW:=zA (fun (W:World) (hW:Below (w.alloc (.cells (Qo 0) 41)).heap.size (w.alloc (.cells (Qo 0) 41)) W) (v':Value) (hv':BytesC W v' (2::Pl.vint (inc+1)))=>uS F s size bs (2::Pl.vint (inc+1)) used upto inc es v' W (h1.below hW) hl hs hs' hv' (by simp;omega) hf)
 have HB:=zA b1
 have HX:=zA hx
 have hFs:=h.1
 have a1:(inc:Int)<1099511627776:=by omega
 have e1:(inc:Int)+1=((inc+1:Nat):Int):=by omega
 clear h b1 hx h1 hf hv6
 generalize hi1:((inc+1:Nat):Int)=inc1 at *
 generalize inc+1=incN at *
 go_enter_defers func212,ntmps212
 go_wp2_with fail
 refine(xW (by simp[a1])).mono ?_
 rintro e w' ⟨rfl,rfl⟩
 go_wp2_with fail
 refine HT.out.mono ?_
 rintro e w2 ⟨v2,rfl,O2,b2⟩
 have x2:=(b2.block _ (gsi.1 HX.out).1).trans HX.out
 have HX2:=zA x2
 have HB2:=zA (HB.out.trans (b2.mono HB.out.size))
 have HW2:=zA (HW.out w2 b2 v2 O2.toT.toC)
 have hnF:Hid (∀g,F g→g=w.heap.size→g=w.heap.size):=zA (fun _ _ h=>h)
 clear O2 b2 x2 HT HW
 go_wp2_with fail
 refine HW2.out.mono ?_
 rintro e w3 ⟨rfl,S3,O3⟩
 obtain⟨d3,v3,q0,q1,q2,q3,q4,fz,hr3,hd3,ho3,hv3⟩:=S3.cells
 have f3:=fz 3
 have x3:=(O3.same w.heap.size (gsi.1 HX2.out).1 (fun hf=>by have:=hin _ hf;omega)).trans HX2.out
 have hs2:=HB2.out.size
 have hsw:s≠w.heap.size:=by omega
 have S4:=StAt.set (used':=used) (upto':=upto) (inc':=inc1) S3.1 hr3 hd3 ho3 hv3 3 inc1 (fun i hi=>by
  rcases i with _ | _ | _ | _ | _ | i
  ·rfl
  ·rfl
  ·rfl
  ·rfl
  ·rfl
  ·omega)
 have x4:=(Below.heap_setCell w3 ⟨s,3,none⟩ (.int .i64 inc1) w.heap.size (fun e=>hsw e.symm)).trans x3
 have c4:=cc 0 x4
 have f4:=zB x4 0
 have k4:=World.cell?_setCell_same w3 ⟨s,3,none⟩ (.int .i64 inc1) q3
 have HX4:=zA x4
 have HS4:=zA S4
 have HO3:=zA ((O3.after HB2.out (G:=F) (fun g _ hg=>hg)).set (a:=⟨s,3,none⟩) (.inl hFs) (.int .i64 inc1))
 have HSZ:=zA hs2
 clear S3 O3 q0 q1 q2 q4 fz hr3 hd3 ho3 hv3 x3 S4 x4 HW2 c3
 go_wp2_with fail
 refine leaves_cons (f:=283) (args:=#[Qp w.heap.size]) (by simp) (by simp[go_sem]) ?_
 refine(wA _ _).mono ?_
 rintro e u' w'' ⟨rfl,rfl,rfl⟩
 have S5:=(HS4.out.mono (fun g hg=>hg.imp id (fun h=>Nat.le_trans HSZ.out h))).other HX4.out lF 0 (.int .i64 0)
 have O5:=HO3.out.set (a:=⟨w.heap.size,0,none⟩) (.inr (Nat.le_refl _)) (.int .i64 0)
 have cz:=World.cell?_setCell_same (w3.setCell ⟨s,3,none⟩ (.int .i64 inc1)) ⟨w.heap.size,0,none⟩ (.int .i64 0) c4
 generalize (w3.setCell ⟨s,3,none⟩ (.int .i64 inc1)).setCell ⟨w.heap.size,0,none⟩ (.int .i64 0)=Z at *
 simp[Leaves,settle,results,results212,go_sem,cz]
 exact⟨S5,O5⟩
end
end Go.Proofs.YtodlmbfbfaofcaaGreat
