/- TopLoads, part 6. -/
import Derived.Test.YtodlmbfbfaofcaaGreatM01
import Derived.Test.YtodlmbfbfaofcaaGreatM03
import Derived.Test.YtodlmbfbfaofcaaGreatM05
open Go.Proofs.Tryz
namespace Go.Proofs.YtodlmbfbfaofcaaGreat
set_option linter.unusedVariables false
set_option linter.unusedSimpArgs false
set_option maxRecDepth 100000
section
open Go.RowKit Rw
theorem DkW.cells {w:World} {d:Nat} {size:Int} {bs ys:List Int} (h:DkW w d size bs ys):∃ao cap g cp o ya yc,w.cell? ⟨d,0,none⟩=some (.int .i64 size)∧w.cell? ⟨d,1,none⟩=some (.slice ao bs.length cap)∧w.cell? ⟨d,2,none⟩=some (.slice (some ⟨g,0,none⟩) 1 cp)∧(∀j,w.frozen? ⟨d,j,none⟩=false)∧BytesC w (.slice ao bs.length cap) bs∧
  w.cell? ⟨g,0,none⟩=some (.int .i64 ys.length)∧w.cell? ⟨g,1,none⟩=some (.func (.func 146) #[] #[Qp o])∧w.cell? ⟨o,0,none⟩=some (.slice ya ys.length yc)∧Bs w (.slice ya ys.length yc) ys∧d<w.heap.size∧g<w.heap.size∧o<w.heap.size:=by
 obtain⟨v,g,cap,o,cs,vo,h1,h2,h3,h4,h5,h6,h7⟩:=h
 obtain⟨ao,cp,rfl⟩:=h2.toC.form
 obtain⟨ya,yc,rfl⟩:=h7.1.toC.form
 exact⟨ao,cp,g,cap,o,ya,yc,h1.cell (i:=0) (by decide),h1.cell (i:=1) (by decide),h1.cell (i:=2) (by decide),h1.frozen,h2.toC,zF h3 h4,zF h3 h5,zF h6 rfl,h7,h1.lt,(gsi.1 h3).1,(gsi.1 h6).1⟩
theorem waiting1 (d:Nat) (size:Int) (bs ys:List Int) (w:World) (h:DkW w d size bs ys) (hy:ys.length≤1000000):Calls prog 302 #[Qp d] w fun e w'=>e=.returned (.int .i64 ys.length)∧Below w.heap.size w w':=by
 obtain⟨ao,cap,g,cp,o,ya,yc,c0,c1,c2,_,_,c3,c4,_,_,hd,hg,_⟩:=h.cells
 clear h
 have HX:=zA (fun x=>bn w x)
 have hsf:∀(a:Addr) (f:Fn) (x y:Array Value) (W:World),(store a (.func f x y)).run prog W=stored prog W a (.func f x y) .plain:=fun a f x y W=>run_store _ _ _ _ _ rfl
 go_enter func302,ntmps302
 go_wp2_with fail
 go_loopw [2,12] (fun s i wr=>(s=.int .i64 0∧i=.int .i64 0∧wr=w)∨(s=.int .i64 ys.length∧i=.int .i64 1∧Below w.heap.size w wr)) (fun _ i _=>1 - (intOf i).toNat)
 case atStart=>exact .inl ⟨rfl,rfl,rfl⟩
 case round=>
  rcases hrel with⟨rfl,rfl,rfl⟩ | ⟨rfl,rfl,hb⟩
  ·go_wp2_with fail
   exact⟨.inr ⟨rfl,rfl,HX.out _⟩,by simp[intOf]⟩
  ·have HB:=zA hb
   clear hb
   go_wp2_with fail
   go_ret
   exact⟨rfl,HB.out⟩
theorem append1 (o n:Nat) (v:Value) (bs ys:List Int) (base:Nat) (ya:Option Addr) (yc:Nat) (w:World) (hO:OwnB base w v bs) (hn:n=ys.length) (c0:w.cell? ⟨o,0,none⟩=some (.slice ya ys.length yc)) (hy:Bs w (.slice ya ys.length yc) ys) (hl:bs.length+ys.length≤1000000) (hb:base≤w.heap.size) :
  Calls prog 146 #[v,.int .i64 n,Qp o] w fun e w'=>∃v',e=.returned v'∧OwnB base w' v' (bs++ys)∧Below base w w':=by
 subst hn
 obtain⟨ao,cap,rfl⟩:=hO.form
 have hcap:ys.length≤yc:=by obtain⟨_,_,_,_,e,h1,_⟩:=hy;cases e;exact h1
 have hcap':(ys.length:Int)≤yc:=by omega
 have HO:=zA hO
 have HY:=zA hy.1.toC
 have HR:=zA (Below.refl base w)
 clear hO hy
 go_enter func146,ntmps146
 go_wp2_with (at_builtin;refine xJ rfl (.tmp 6) (.tmp 9) rfl rfl HO.out rfl HY.out (by omega) HR.out hb ?_;intro v3 w3 hown3 hb3 hg3)
 go_ret
 exact⟨v3,rfl,hown3,hb3⟩
theorem after1 (d:Nat) (size:Int) (bs ys:List Int) (w:World) (h:DkW w d size bs ys) (hl:bs.length+ys.length≤1000000) (h0:0<ys.length):Calls prog 147 #[Qp d,.int .i64 ys.length] w fun e w'=>∃v',e=.returned v'∧OwnB w.heap.size w' v' (bs++ys)∧Below w.heap.size w w':=by
 obtain⟨ao,cap,g,cp,o,ya,yc,c0,c1,c2,_,hb,c3,c4,c5,hy,hd,hg,ho⟩:=h.cells
 have HC:=zA (xM _ _ w hb (by omega))
 have HY:=zA hy
 have h0':(0:Int)<ys.length:=by omega
 clear h hb hy
 have hsf:∀(a:Addr) (f:Fn) (x y:Array Value) (W:World),(store a (.func f x y)).run prog W=stored prog W a (.func f x y) .plain:=fun a f x y W=>run_store _ _ _ _ _ rfl
 go_enter func147,ntmps147
 go_wp2_with fail
 refine HC.out.mono ?_
 rintro e w1 ⟨v1,rfl,O1,b1⟩
 have d2:=(b1.cell (p:=⟨d,2,none⟩) hd).trans c2
 have d3:=(b1.cell (p:=⟨g,0,none⟩) hg).trans c3
 have d4:=(b1.cell (p:=⟨g,1,none⟩) hg).trans c4
 have d5:=(b1.cell (p:=⟨o,0,none⟩) ho).trans c5
 have ho1:o<w1.heap.size:=Nat.lt_of_lt_of_le ho b1.size
 have HY1:=zA (HY.out.below b1)
 have HO:=zA O1
 have HB:=zA b1
 clear O1 b1 HC HY c0 c1 c2 c3 c4 c5
 have HD:=zA (And.intro d2 (And.intro d3 (And.intro d4 d5)))
 go_wp2_with fail
 go_loopw [1,5,19] (fun m x i wr=>(m=.int .i64 ys.length∧x=v1∧i=.int .i64 0∧wr=w1)∨(i=.int .i64 1∧OwnB w.heap.size wr x (bs++ys)∧Below w.heap.size w wr)) (fun _ _ i _=>1 - (intOf i).toNat)
 case atStart=>exact .inl ⟨rfl,rfl,rfl,rfl⟩
 case round=>
  rcases hrel with⟨rfl,rfl,rfl,rfl⟩ | ⟨rfl,O2,b2⟩
  ·have bX:Below wr.heap.size wr (wr.alloc (.cells #[.int .i64 ys.length,.func (.func 146) #[] #[Qp o]] 356)):=bn _ _
   have HAP:=zA (append1 o ys.length _ bs ys w.heap.size ya yc _ (HO.out.below bX) rfl ((bX.cell (p:=⟨o,0,none⟩) ho1).trans d5) (HY1.out.below bX) hl (Nat.le_trans HB.out.size bX.size))
   have HBX:=zA (HB.out.trans (bX.mono HB.out.size))
   obtain⟨ao1,cp1,hv1⟩:=HO.out.form
   subst hv1
   clear bX
   go_wp2_with fail
   refine HAP.out.mono ?_
   rintro e w5 ⟨v5,rfl,O5,b5⟩
   have HO5:=zA O5
   have HB5:=zA (HBX.out.trans b5)
   clear O5 b5 HAP
   go_wp2_with fail
   exact⟨.inr ⟨rfl,HO5.out,HB5.out⟩,by simp[intOf]⟩
  ·have HO2:=zA O2
   have HB2:=zA b2
   clear O2 b2 HO HB
   go_wp2_with fail
   go_ret
   exact⟨_,rfl,HO2.out,HB2.out⟩
theorem info356:(prog.info? 356).map (fun i=>(i.zero,i.size,i.bytes))=some (some (.agg #[.int .i64 0,.nilFunc]),2,16):=by kernel_rfl
theorem own_form {w:World} {b T size n:Nat} {v:Value} {xs:List Value} (h:w.ownsRow b T size v n xs) (hn:0<n):∃g cp,v=.slice (some ⟨g,0,none⟩) n cp:=by
 rcases h.2 with⟨_,h0⟩ | ⟨g,cp,cur,e,_⟩
 ·omega
 ·exact⟨g,cp,e⟩
theorem wait_ok (F:Nat→Prop) (d o:Nat) (size:Int) (bs ys:List Int) (vo:Value) (w:World) (h:DkAt F w d size bs) (ho:w.heap[o]?=some (.cells #[vo] 55 (0,0))) (hy:Bs w vo ys) :
  Calls prog 145 #[Qp d,.int .i64 ys.length,.func (.func 146) #[] #[Qp o]] w fun e w'=>e=.returned (.int .i64 0)∧DkW w' d size bs ys∧Off (· = d) w w':=by
 obtain⟨i0,hi,z0,z1,z2⟩:=info_parts info356
 obtain⟨ao,cap,c0,c1,c2,fz,hb⟩:=h.cells
 have hd:=h.lt
 have HH:=zA h
 have HO:=zA ho
 have HY:=zA hy
 have b1:Below w.heap.size w (w.alloc (.cells #[.int .i64 ys.length,.func (.func 146) #[] #[Qp o]] 356)):=bn _ _
 have HB:=zA b1
 have rW:=zA (World.news_of_block (heap_alloc_new w (.cells #[.int .i64 ys.length,.func (.func 146) #[] #[Qp o]] 356)))
 have hone:∀u∈([.int .i64 ys.length,.func (.func 146) #[] #[Qp o]]:List Value),u.oneCell'=true:=by
  intro u hu
  simp at hu
  rcases hu with rfl | rfl<;>rfl
 have H1:=zA hone
 have rX:(w.alloc (.cells #[.int .i64 ys.length,.func (.func 146) #[] #[Qp o]] 356)).ownsRow w.heap.size 356 2 (.slice none 0 0) 0 []:=⟨rfl,.inl ⟨rfl,rfl⟩⟩
 have HW:=zA rX
 have f2:=fz 2
 have hsz:w.heap.size≤(w.alloc (.cells #[.int .i64 ys.length,.func (.func 146) #[] #[Qp o]] 356)).heap.size:=b1.size
 have HSZ:=zA hsz
 clear h ho hy b1 hone rX hb fz hsz c0 c1
 have hsf:∀(a:Addr) (f:Fn) (x y:Array Value) (W:World),(store a (.func f x y)).run prog W=stored prog W a (.func f x y) .plain:=fun a f x y W=>run_store _ _ _ _ _ rfl
 go_enter func145,ntmps145
 go_wp2_with (at_builtin;refine wpList_append_own _ rfl (.tmp 11) (.tmp 15) 242 rfl w.heap.size 356 i0 (.agg #[.int .i64 0,.nilFunc]) 2 16 underlying242 hi z0 z1 z2 rfl (by decide) (.slice none 0 0) 0 [] rfl HW.out ⟨w.heap.size,0,none⟩ 1 1 [.int .i64 ys.length,.func (.func 146) #[] #[Qp o]] rfl rfl rW.out H1.out (by unfold maxLen;omega) (by omega) HSZ.out ?_;intro v2 w2 pI hgrow2 hat2;obtain⟨gz,cz,rfl⟩:=own_form pI (Nat.succ_pos 0);have HB2:=zA (HB.out.grown hgrow2 HSZ.out (fun k hk=>by cases hk));have d2:=(HB2.out.cell (p:=⟨d,2,none⟩) hd).trans c2;have g2:=(HB2.out.frozen (p:=⟨d,2,none⟩) hd).trans f2;have HOW:=zA pI;clear pI hgrow2 hat2 HW)
 go_ret
 refine⟨rfl,?_,?_⟩
 ·obtain⟨hF,v,hr,hb,_⟩:=HH.out
  rcases HOW.out.2 with⟨_,h0⟩ | ⟨g,cp,cur,hvz,hbg,hg,hc,hm,hs,ht⟩
  ·cases h0
  ·cases hvz
   have hgd:gz≠d:=by omega
   have k5:KeepB w2 (w2.setCell ⟨d,2,none⟩ (.slice (some ⟨gz,0,none⟩) 1 cz)):=fun x cs fr hx=>Below.heap_setCell _ _ _ _ (fun e=>by
    obtain⟨c,hc,_⟩:=hr.of_block (HB2.out.block d hd)
    rw[show x=d from e,hc]at hx;cases hx)
   have hod:o≠d:=fun e=>by
    obtain⟨c,hc,_⟩:=hr
    rw[←e,HO.out]at hc;cases hc
   have hol:=(gsi.1 HO.out).1
   have hh:∀i,i<2→cur[i]?=([.int .i64 ys.length,.func (.func 146) #[] #[Qp o]]:List Value)[i]?:=fun i hi=>by
    have:=congrArg (fun l=>l[i]?) ht
    simp only[List.getElem?_take,List.nil_append]at this
    rw[if_pos (by omega)]at this
    rw[←Array.getElem?_toList];exact this
   have h0:=hh 0 (by decide)
   have h1:=hh 1 (by decide)
   refine⟨v,gz,cz,o,cur,vo,((hr.of_block (HB2.out.block d hd)).set 2 _).congr (fun i hi=>?_),(hb.below HB2.out).keep k5,(Below.heap_setCell _ _ _ _ hgd).trans hg,h0,h1,(Below.heap_setCell _ _ _ _ hod).trans ((HB2.out.block o hol).trans HO.out),(HY.out.below HB2.out).keep k5⟩
   rcases i with _ | _ | _ | i
   ·rfl
   ·rfl
   ·rfl
   ·omega
 ·exact(Off.of_below (F:=(· = d)) HB2.out).set (a:=⟨d,2,none⟩) (.inl rfl) _
theorem append_full (F:Nat→Prop) (d:Nat) (size:Int) (bs ys:List Int) (v:Value) (w:World) (h:DkAt F w d size bs) (hl:bs.length≤1000000) (hs:0≤size) (hs':size≤16384) (hv:BytesC w v ys) (hf:size<bs.length+ys.length) :
  Calls prog 80 #[Qp d,v] w fun e w'=>e=.returned (.int .i64 7)∧Below w.heap.size w w':=by
 obtain⟨ao,cap,rfl⟩:=hv.form
 have HR:=zA (room0 F d size bs w h hl hs hs')
 clear h hv
 have hx:(ys.length:Int)>size - (bs.length:Int):=by omega
 generalize size - (bs.length:Int)=room at *
 go_enter func80,ntmps80
 go_wp2_with fail
 refine HR.out.mono ?_
 rintro e w1 ⟨rfl,b1⟩
 have HB:=zA b1
 clear b1
 go_wp2_with fail
 go_ret
 exact⟨rfl,HB.out⟩
theorem append_ok (F:Nat→Prop) (d:Nat) (size:Int) (bs ys:List Int) (v:Value) (w:World) (h:DkAt F w d size bs) (hl:bs.length≤1000000) (hs:0≤size) (hs':size≤16384) (hv:BytesC w v ys) (hf:(bs.length:Int)+ys.length≤size) :
  Calls prog 80 #[Qp d,v] w fun e w'=>e=.returned (.int .i64 0)∧DkW w' d size bs ys∧Off (· = d) w w':=by
 obtain⟨ao,cap,rfl⟩:=hv.form
 have HR:=zA (room0 F d size bs w h hl hs hs')
 have HH:=zA h
 have HV:=zA hv
 have hyl:ys.length≤16384:=by omega
 clear h hv
 have hx:¬(ys.length:Int)>size - (bs.length:Int):=by omega
 obtain⟨room,hr⟩:∃room,room=size - (bs.length:Int):=⟨_,rfl⟩
 rw[←hr]at hx HR
 clear hr
 go_enter func80,ntmps80
 go_wp2_with fail
 refine HR.out.mono ?_
 rintro e w1 ⟨rfl,b1⟩
 have HC:=zA (xM _ ys w1 (HV.out.below b1) (by omega))
 have HB:=zA b1
 clear b1 HR HV
 have hmf:∀(fn:Fn) (first cap:Array Value) (w:World),(Instr.makeFunc fn first cap).run prog w=.ok (.func fn first cap) w:=fun _ _ _ _=>rfl
 go_wp2_with fail
 refine HC.out.mono ?_
 rintro e w2 ⟨v2,rfl,O2,b2⟩
 obtain⟨ao2,cp2,hv2⟩:=O2.form
 subst hv2
 have bX:Below w2.heap.size w2 (w2.alloc (.cells #[.slice ao2 ys.length cp2] 55)):=bn _ _
 have rY:=(HB.out.trans (b2.mono HB.out.size)).trans (bX.mono (Nat.le_trans HB.out.size b2.size))
 have HALL:=zA rY
 have HWT:=zA (wait_ok F d w2.heap.size size bs ys _ _ (HH.out.below rY) (heap_alloc_new w2 (.cells #[.slice ao2 ys.length cp2] 55)) (O2.bs.below bX))
 clear O2 b2 bX rY HC HB
 go_wp2_with fail
 refine HWT.out.mono ?_
 rintro e w3 ⟨rfl,W3,F3⟩
 have HW3:=zA W3
 have HF3:=zA (F3.after (G:=(· = d)) HALL.out (fun g hg hf=>hf))
 clear W3 F3 HWT
 go_wp2_with fail
 go_ret
 exact⟨rfl,HW3.out,HF3.out⟩
theorem crash1 (F:Nat→Prop) (d:Nat) (size:Int) (bs ys:List Int) (w:World) (h:DkW w d size bs ys) (hF:F d) (hl:bs.length+ys.length≤1000000) (h0:0<ys.length) :
  Calls prog 81 #[Qp d,.int .i64 ys.length] w fun e w'=>e=.returned (.tuple #[])∧DkAt (fun g=>F g∨w.heap.size≤g) w' d size (bs++ys)∧Off (· = d) w w':=by
 have HA:=zA (after1 d size bs ys w h hl h0)
 obtain⟨v,g,cap,o,cs,vo,hr,_⟩:=id h
 have hd:=hr.lt
 have HR:=zA hr
 have hmx:max (ys.length:Int) 0=ys.length:=by omega
 clear h hr
 go_enter func81,ntmps81
 go_wp2_with fail
 refine HA.out.mono ?_
 rintro e w2 ⟨v2,rfl,O2,b2⟩
 obtain⟨ao2,cp2,hv2⟩:=O2.form
 rw[List.length_append]at hv2
 subst hv2
 have r2:=HR.out.of_block (b2.block d hd)
 have d1:=r2.cell (i:=1) (by decide)
 have d2:=r2.cell (i:=2) (by decide)
 have g1:=r2.frozen 1
 have g2:=r2.frozen 2
 have HR2:=zA r2
 have HO2:=zA O2
 have HB2:=zA b2
 simp only[dkc]at d1 d2
 clear O2 b2 r2 HA
 go_wp2_with fail
 have no5:∀cs fr,w2.heap[d]?≠some (Obj.cells cs 5 fr):=fun cs fr e=>by
  obtain⟨c,hc,_⟩:=HR2.out
  rw[hc]at e;cases e
 have hk:KeepB w2 ((w2.setCell ⟨d,1,none⟩ (.slice ao2 (bs.length+ys.length) cp2)).setCell ⟨d,2,none⟩ (.slice none 0 0)):=fun x cs fr hx=>by
  have hne:x≠d:=fun e=>no5 cs fr (by rw[←e];exact hx)
  rw[Below.heap_setCell _ _ _ _ hne,Below.heap_setCell _ _ _ _ hne]
 refine yD results81 ⟨rfl,⟨.inl hF,.slice ao2 (bs.length+ys.length) cp2,((HR2.out.set 1 _).set 2 _).congr (fun i hi=>?_),HO2.out.toT.keep hk,fun g _ hg=>.inr (HO2.out.lt g hg).1⟩,((Off.of_below (F:=(· = d)) HB2.out).set (a:=⟨d,1,none⟩) (.inl rfl) _).set (a:=⟨d,2,none⟩) (.inl rfl) _⟩
 rcases i with _ | _ | _ | i
 ·rfl
 ·rfl
 ·rfl
 ·omega
theorem sync1 (F:Nat→Prop) (d:Nat) (size:Int) (bs ys:List Int) (w:World) (h:DkW w d size bs ys) (hF:F d) (hl:bs.length+ys.length≤1000000) (h0:0<ys.length) :
  Calls prog 370 #[Qp d] w fun e w'=>e=.returned (.int .i64 0)∧DkAt (fun g=>F g∨w.heap.size≤g) w' d size (bs++ys)∧Off (· = d) w w':=by
 have HW:=zA (waiting1 d size bs ys w h (by omega))
 have HC:=zA (fun (W:World) (hW:Below w.heap.size w W)=>crash1 F d size bs ys W (h.below hW) hF hl h0)
 clear h
 go_enter func370,ntmps370
 go_wp2_with fail
 refine HW.out.mono ?_
 rintro e w1 ⟨rfl,b1⟩
 have HB:=zA b1
 clear b1 HW
 go_wp2_with fail
 refine(HC.out w1 HB.out).mono ?_
 rintro e w2 ⟨rfl,D2,O2⟩
 have HD2:=zA D2
 have HO2:=zA O2
 clear D2 O2 HC
 go_wp2_with fail
 go_ret
 exact⟨rfl,HD2.out.mono (fun g hg=>hg.imp id (fun h=>Nat.le_trans HB.out.size h)),HO2.out.after HB.out (fun g _ hg=>hg)⟩
theorem lmust_ok (w:World):Calls prog 368 (Qo 0) w fun e w'=>e=.returned (.tuple #[])∧w=w':=by
 go_enter func368,ntmps368
 go_wp2_with fail
 exact yD results368 ⟨rfl,rfl⟩
theorem lmust_bad (x:Int) (hx:(x != 0)=true) (w:World):Calls prog 368 (Qo x) w fun e w'=>e=.panicked [{v:=.iface 478 (.agg (Qo x)),recovered:=false}]∧w=w':=by
 go_enter func368,ntmps368
 go_wp2_with fail
 exact⟨rfl,rfl,rfl⟩
theorem tI (ad:Addr) (w:World):Calls prog 330 #[.pointer (some ad)] w fun e w'=>e=.returned (.tuple #[])∧w=w':=by
 have qP:∀w,(binOp BinOp.eql 88 (.pointer (some ad)) (.pointer none)).run prog w=.ok (.bool false) w:=fun _=>by kernel_rfl
 go_enter func330,ntmps330
 go_wp2_with fail
 exact yD results330 ⟨rfl,rfl⟩
theorem tZ (g:Nat) (v:Value) (bs:List Int) (w:World) (hg:w.heap[g]?=some (.cells #[v] 55 (0,0))) (hv:BytesC w v bs) (hl:bs.length≤4096) :
  Calls prog 332 #[.slice (some ⟨g,0,none⟩) 1 1] w fun e w'=>∃v',e=.returned v'∧OwnB w.heap.size w' v' (Pl.frame bs)∧Below w.heap.size w w':=by
 obtain⟨ao,cap,rfl⟩:=hv.form
 have c0:=cc 0 hg
 have HP:=zA (tE _ bs w hv hl)
 have hfl:(Pl.frame bs).length≤4200:=by have:=Pl.vint_len6 (n:=bs.length) (by omega);unfold Pl.frame Pl.fhead;simp[Pl.sum4];omega
 have HFL:=zA hfl
 clear hv hg hfl
 go_enter func332,ntmps332
 go_wp2_with fail
 go_loopw [2,9] (fun x i wr=>(x=.slice none 0 0∧i=.int .i64 0∧wr=w)∨(i=.int .i64 1∧OwnB w.heap.size wr x (Pl.frame bs)∧Below w.heap.size w wr)) (fun _ i _=>1 - (intOf i).toNat)
 case atStart=>exact .inl ⟨rfl,rfl,rfl⟩
 case round=>
  rcases hrel with⟨rfl,rfl,rfl⟩ | ⟨rfl,O2,b2⟩
  ·go_wp2_with fail
   refine HP.out.mono ?_
   rintro e w1 ⟨v1,rfl,O1,b1⟩
   have HO:=zA O1.toT.toC
   have HB:=zA b1
   have HN:=zA (xS wr.heap.size w1)
   clear O1 b1 HP
   go_wp2_with fail
   refine(lmust_ok _).mono ?_
   rintro e w' ⟨rfl,rfl⟩
   go_wp2_with (at_builtin;refine xJ rfl (.tmp 20) (.tmp 21) rfl rfl HN.out rfl HO.out (by have:=HFL.out;simp;omega) HB.out HB.out.size ?_;intro v3 w3 hown3 hb3 hg3)
   exact⟨.inr ⟨rfl,hown3,hb3⟩,by simp[intOf]⟩
  ·have HO2:=zA O2
   have HB2:=zA b2
   clear O2 b2
   go_wp2_with fail
   go_ret
   exact⟨_,rfl,HO2.out,HB2.out⟩
theorem lwrite_full (F:Nat→Prop) (d:Nat) (size:Int) (bs ys:List Int) (v:Value) (w:World) (h:DkAt F w d size bs) (hl:bs.length≤1000000) (hs:0≤size) (hs':size≤16384) (hv:BytesC w v ys) (hy:ys.length≤4096) (hf:size<bs.length+(Pl.frame ys).length) :
  Calls prog 336 #[Qp d,v] w fun e w'=>e=.returned (.int .i64 7)∧Below w.heap.size w w':=by
 obtain⟨ao,cap,rfl⟩:=hv.form
 have b1:Below w.heap.size w (w.alloc (.cells (Qo 0) 41)):=bn _ _
 have b2:Below w.heap.size w ((w.alloc (.cells (Qo 0) 41)).alloc (.cells #[.slice ao ys.length cap] 55)):=b1.alloc b1.size _
 have hx:=heap_alloc_new (w.alloc (.cells (Qo 0) 41)) (.cells #[.slice ao ys.length cap] 55)
 rw[show(w.alloc (.cells (Qo 0) 41)).heap.size=w.heap.size+1 from by simp]at hx
 have he:((w.alloc (.cells (Qo 0) 41)).alloc (.cells #[.slice ao ys.length cap] 55)).heap[w.heap.size]?=some (.cells (Qo 0) 41 (0,0)):=(Below.heap_alloc _ _ _ (by simp)).trans (heap_alloc_new w _)
 have hsz:((w.alloc (.cells (Qo 0) 41)).alloc (.cells #[.slice ao ys.length cap] 55)).heap.size=w.heap.size+2:=by simp
 have HF:=zA (tZ (w.heap.size+1) _ ys _ hx (hv.below b2) hy)
 have HA:=zA (fun (W:World) (hW:Below w.heap.size w W) (v':Value) (hv':BytesC W v' (Pl.frame ys))=>append_full F d size bs (Pl.frame ys) v' W (h.below hW) hl hs hs' hv' hf)
 have HB:=zA b2
 have HE:=zA he
 have HSZ:=zA hsz
 clear h hv b1 b2 hx he hsz
 go_enter_defers func336,ntmps336
 go_wp2_with fail
 refine(tI _ _).mono ?_
 rintro e w' ⟨rfl,rfl⟩
 go_wp2_with fail
 refine HF.out.mono ?_
 rintro e w3 ⟨v3,rfl,O3,b3⟩
 have e3:=(b3.block w.heap.size (by rw[HSZ.out];omega)).trans HE.out
 have hb3:=HB.out.trans (b3.mono HB.out.size)
 have HB3:=zA hb3
 have HE3:=zA e3
 have HA3:=zA (HA.out w3 hb3 v3 O3.toT.toC)
 clear O3 b3 e3 hb3 HF HA
 go_wp2_with fail
 refine HA3.out.mono ?_
 rintro e w4 ⟨rfl,b4⟩
 have e4:=(b4.block w.heap.size (gsi.1 HE3.out).1).trans HE3.out
 have HB4:=zA (HB3.out.trans (b4.mono HB3.out.size))
 have HE4:=zA e4
 clear b4 e4 HA3
 go_wp2_with fail
 refine(lmust_bad 7 (by rfl) _).mono ?_
 rintro e w' ⟨rfl,rfl⟩
 go_wp2_with fail
 refine leaves_cons (f:=329) (args:=#[Qp w.heap.size]) (by simp) (by simp[go_sem]) ?_
 have hlt:=(gsi.1 HE4.out).1
 refine(log_caught ⟨w.heap.size,0,none⟩ 7 0 [] _ (zF HE4.out rfl) (zB HE4.out 0)).mono ?_
 rintro e u' w'' ⟨rfl,rfl,rfl⟩
 have hz:=zP (HB4.out.alloc HB4.out.size (.cells (Qo 7) 478)) (Nat.le_refl _) 0 (.int .i64 7)
 have cz:((w4.alloc (.cells (Qo 7) 478)).setCell ⟨w.heap.size,0,none⟩ (.int .i64 7)).cell? ⟨w.heap.size,0,none⟩=some (.int .i64 7):=World.cell?_setCell_same _ _ _ ((World.cell?_alloc_lt _ _ _ hlt).trans (zF HE4.out rfl))
 generalize (w4.alloc (.cells (Qo 7) 478)).setCell ⟨w.heap.size,0,none⟩ (.int .i64 7)=Z at *
 simp[Leaves,settle,results,results336,go_sem,cz]
 exact hz
theorem lwrite_ok (F:Nat→Prop) (d:Nat) (size:Int) (bs ys:List Int) (v:Value) (w:World) (h:DkAt F w d size bs) (hl:bs.length≤900000) (hs:0≤size) (hs':size≤16384) (hv:BytesC w v ys) (hy:ys.length≤4096) (hf:(bs.length:Int)+(Pl.frame ys).length≤size) :
  Calls prog 336 #[Qp d,v] w fun e w'=>e=.returned (.int .i64 0)∧DkAt (fun g=>F g∨w.heap.size≤g) w' d size (bs++Pl.frame ys)∧Off (· = d) w w':=by
 obtain⟨ao,cap,rfl⟩:=hv.form
 have hd:=h.lt
 have hFd:=h.1
 have b1:Below w.heap.size w (w.alloc (.cells (Qo 0) 41)):=bn _ _
 have b2:Below w.heap.size w ((w.alloc (.cells (Qo 0) 41)).alloc (.cells #[.slice ao ys.length cap] 55)):=b1.alloc b1.size _
 have hx:=heap_alloc_new (w.alloc (.cells (Qo 0) 41)) (.cells #[.slice ao ys.length cap] 55)
 rw[show(w.alloc (.cells (Qo 0) 41)).heap.size=w.heap.size+1 from by simp]at hx
 have he:((w.alloc (.cells (Qo 0) 41)).alloc (.cells #[.slice ao ys.length cap] 55)).heap[w.heap.size]?=some (.cells (Qo 0) 41 (0,0)):=(Below.heap_alloc _ _ _ (by simp)).trans (heap_alloc_new w _)
 have hsz:((w.alloc (.cells (Qo 0) 41)).alloc (.cells #[.slice ao ys.length cap] 55)).heap.size=w.heap.size+2:=by simp
 have HF:=zA (tZ (w.heap.size+1) _ ys _ hx (hv.below b2) hy)
 have h0:0<(Pl.frame ys).length:=by unfold Pl.frame Pl.fhead;simp
 have HA:=zA (fun (W:World) (hW:Below w.heap.size w W) (v':Value) (hv':BytesC W v' (Pl.frame ys))=>append_ok F d size bs (Pl.frame ys) v' W (h.below hW) (by omega) hs hs' hv' hf)
 have HS:=zA (fun (W:World) (hW:DkW W d size bs (Pl.frame ys))=>sync1 F d size bs (Pl.frame ys) W hW hFd (by omega) h0)
 have HB:=zA b2
 have HE:=zA he
 have HSZ:=zA hsz
 clear h hv b1 b2 hx he hsz h0 hf
 go_enter_defers func336,ntmps336
 go_wp2_with fail
 refine(tI _ _).mono ?_
 rintro e w' ⟨rfl,rfl⟩
 go_wp2_with fail
 refine HF.out.mono ?_
 rintro e w3 ⟨v3,rfl,O3,b3⟩
 have e3:=(b3.block w.heap.size (by rw[HSZ.out];omega)).trans HE.out
 have hb3:=HB.out.trans (b3.mono HB.out.size)
 have HB3:=zA hb3
 have HE3:=zA e3
 have HA3:=zA (HA.out w3 hb3 v3 O3.toT.toC)
 clear O3 b3 e3 hb3 HF HA
 go_wp2_with fail
 refine HA3.out.mono ?_
 rintro e w4 ⟨rfl,W4,O4⟩
 have e4:=(O4.same w.heap.size (gsi.1 HE3.out).1 (by omega)).trans HE3.out
 have hO4:=O4.after (G:=(· = d)) HB3.out (fun g _ hg=>hg)
 have HO4:=zA hO4
 have HE4:=zA e4
 have HS4:=zA (HS.out w4 W4)
 clear W4 O4 hO4 e4 HA3 HS
 go_wp2_with fail
 refine(lmust_ok _).mono ?_
 rintro e w' ⟨rfl,rfl⟩
 go_wp2_with fail
 refine HS4.out.mono ?_
 rintro e w5 ⟨rfl,D5,O5⟩
 have e5:=(O5.same w.heap.size (gsi.1 HE4.out).1 (by omega)).trans HE4.out
 have c5:=cc 0 e5
 have f5:=zB e5 0
 have HD5:=zA D5
 have HO5:=zA (HO4.out.trans O5)
 have HS5:=zA HO4.out.size
 have HE5:=zA e5
 clear D5 O5 e5 HS4
 go_wp2_with fail
 refine leaves_cons (f:=329) (args:=#[Qp w.heap.size]) (by simp) (by simp[go_sem]) ?_
 refine(log_idle _ _).mono ?_
 rintro e u' w'' ⟨rfl,rfl,rfl⟩
 have cz:=World.cell?_setCell_same w5 ⟨w.heap.size,0,none⟩ (.int .i64 0) c5
 have oz:=HO5.out.set (a:=⟨w.heap.size,0,none⟩) (.inr (Nat.le_refl _)) (.int .i64 0)
 have dz:DkAt (fun g=>F g∨w.heap.size≤g) (w5.setCell ⟨w.heap.size,0,none⟩ (.int .i64 0)) d size (bs++Pl.frame ys):=by
  exact(HD5.out.mono (fun g hg=>hg.imp id (fun h=>Nat.le_trans HS5.out h))).set (by omega) (fun cs fr e=>by rw[HE5.out]at e;cases e) _ _
 generalize w5.setCell ⟨w.heap.size,0,none⟩ (.int .i64 0)=Z at *
 simp[Leaves,settle,results,results336,go_sem,cz]
 exact⟨dz,oz⟩
theorem read_none (ao:Option Addr) (cap:Nat) (w:World):Calls prog 175 #[.slice ao 0 cap] w fun e w'=>e=.panicked [{v:=.iface 386 (.agg (Qo 3)),recovered:=false}]∧w=w':=by
 go_enter func175,ntmps175
 go_wp2_with fail
 refine(fmust_false _ _).mono ?_
 rintro e w' ⟨rfl,rfl⟩
 go_wp2_with fail
 exact zW rfl ⟨rfl,rfl⟩
theorem fall_none (ao:Option Addr) (cap:Nat) (w:World):Calls prog 235 #[.slice ao 0 cap] w fun e w'=>e=.returned (.tuple #[.slice none 0 0,.int .i64 0])∧Below w.heap.size w w':=by
 have b1:Below w.heap.size w (w.alloc (.cells (Qo 0) 41)):=bn _ _
 have hx:=heap_alloc_new w (.cells (Qo 0) 41)
 have HB:=zA b1
 have HX:=zA hx
 clear b1 hx
 go_enter_defers func235,ntmps235
 go_wp2_with fail
 go_loopw [2,3] (fun x n wr=>x=.slice none 0 0∧n=.int .i64 0∧wr=w.alloc (.cells (Qo 0) 41)) (fun _ _ _=>0)
 case atStart=>exact⟨rfl,rfl,rfl⟩
 case round=>
  obtain⟨rfl,rfl,rfl⟩:=hrel
  go_wp2_with fail
  all_goals
   refine(read_none _ _ _).mono ?_
   rintro e w' ⟨rfl,rfl⟩
   go_wp2_with fail
   have hc:=cc 0 HX.out
   have hf:=zB HX.out 0
   refine leaves_cons (f:=174) (args:=#[Qp w.heap.size]) (by simp) (by simp[go_sem]) ?_
   refine(rM ⟨w.heap.size,0,none⟩ 3 0 [] _ hc hf).mono ?_
   rintro e u' w'' ⟨rfl,rfl,rfl⟩
   have b2:=zP (HB.out.alloc HB.out.size (.cells (Qo 3) 386)) (Nat.le_refl _) 0 (.int .i64 3)
   generalize ((w.alloc (.cells (Qo 0) 41)).alloc (.cells (Qo 3) 386)).setCell ⟨w.heap.size,0,none⟩ (.int .i64 3)=Z at *
   simp[Leaves,settle,results,results235,go_sem]
   exact b2
theorem tT (F:Nat→Prop) (d:Nat) (size:Int) (w:World) (h:DkAt F w d size []):Calls prog 141 #[Qp d] w fun e w'=>e=.returned (.tuple #[.slice none 0 0,.bool false])∧Below w.heap.size w w':=by
 have HR:=zA (read0 F d size [] w h (by simp))
 clear h
 go_enter func141,ntmps141
 go_wp2_with fail
 refine HR.out.mono ?_
 rintro e w1 ⟨v1,rfl,O1,b1⟩
 obtain⟨ao,cap,hv⟩:=O1.form
 rw[List.length_nil]at hv
 subst hv
 have HB:=zA b1
 clear O1 b1 HR
 go_wp2_with fail
 refine(fall_none ao cap w1).mono ?_
 rintro e w2 ⟨rfl,b2⟩
 have HB2:=zA (HB.out.trans (b2.mono HB.out.size))
 clear b2 HB
 go_wp2_with fail
 exact bodyPost_ret (v:=.tuple #[.slice none 0 0,.bool false]) (by simp[results,results141,go_sem]) rfl ⟨rfl,HB2.out⟩
theorem lmend_none (F:Nat→Prop) (d:Nat) (size:Int) (w:World) (h:DkAt F w d size []):Calls prog 284 #[Qp d] w fun e w'=>e=.returned (.int .i64 0)∧Below w.heap.size w w':=by
 have b1:Below w.heap.size w (w.alloc (.cells (Qo 0) 41)):=bn _ _
 have hx:=heap_alloc_new w (.cells (Qo 0) 41)
 have HR:=zA (tT F d size _ (h.below b1))
 have HB:=zA b1
 have HX:=zA hx
 clear h b1 hx
 go_enter_defers func284,ntmps284
 go_wp2_with fail
 refine(tI _ _).mono ?_
 rintro e w' ⟨rfl,rfl⟩
 go_wp2_with fail
 refine HR.out.mono ?_
 rintro e w2 ⟨rfl,b2⟩
 have x2:=(b2.block _ (gsi.1 HX.out).1).trans HX.out
 have c2:=cc 0 x2
 have f2:=zB x2 0
 have HB2:=zA (HB.out.trans (b2.mono HB.out.size))
 clear b2 HR x2
 go_wp2_with fail
 refine leaves_cons (f:=329) (args:=#[Qp w.heap.size]) (by simp) (by simp[go_sem]) ?_
 refine(log_idle _ _).mono ?_
 rintro e u' w'' ⟨rfl,rfl,rfl⟩
 have cz:=World.cell?_setCell_same w2 ⟨w.heap.size,0,none⟩ (.int .i64 0) c2
 have bz:=zP HB2.out (Nat.le_refl _) 0 (.int .i64 0)
 generalize w2.setCell ⟨w.heap.size,0,none⟩ (.int .i64 0)=Z at *
 simp[Leaves,settle,results,results284,go_sem,cz]
 exact bz
theorem xZ {b:Bool} {x:Int} {w:World} (h:b=true):Calls prog 286 #[.bool b,.int .i64 x] w fun e w'=>e=.returned (.tuple #[])∧w=w':=by
 subst h
 go_enter func286,ntmps286
 go_wp2_with fail
 exact yD results286 ⟨rfl,rfl⟩
theorem smust_f {b:Bool} {x:Int} {w:World} (h:b=false):Calls prog 286 #[.bool b,.int .i64 x] w fun e w'=>e=.panicked [{v:=.iface 444 (.agg (Qo x)),recovered:=false}]∧w=w':=by
 subst h
 go_enter func286,ntmps286
 go_wp2_with fail
 exact⟨rfl,rfl,rfl⟩
theorem tA (k:Int) (n:Nat) (w:World) (hn:n≤1099511627776):Calls prog 288 #[.int .u8 k,.int .i64 n] w fun e w'=>∃v',e=.returned v'∧OwnB w.heap.size w' v' (k::Pl.vint n)∧Below w.heap.size w w':=by
 have b1:Below w.heap.size w (w.alloc (.cells #[.int .u8 k] 5)):=bn _ _
 have HP:=zA (wB _ [k] n _ (xN w k) (by simp) hn)
 have HB:=zA b1
 clear b1
 go_enter func288,ntmps288
 go_wp2_with fail
 refine HP.out.mono ?_
 rintro e w1 ⟨v1,rfl,O1,b1⟩
 have HO:=zA (O1.mono HB.out.size)
 have HB1:=zA (HB.out.trans (b1.mono HB.out.size))
 clear O1 b1 HP
 go_wp2_with fail
 refine(xZ (by rfl)).mono ?_
 rintro e w' ⟨rfl,rfl⟩
 go_wp2_with fail
 go_ret
 exact⟨_,rfl,HO.out,HB1.out⟩
namespace Pl
structure Ev where
 node:Int
 seq:Int
 time:Int
 kind:Int
 work:Int
 value:Int
 mn:Int
 mx:Int
 goal:Int
 slack:Int
 up:Int
 down:Int
 cool:Int
def Ev.cells (e:Ev):List Value:=[.int .i64 e.node,.int .i64 e.seq,.int .i64 e.time,.int .i64 e.kind,.int .i64 e.work,.int .i64 e.value,.int .i64 e.mn,.int .i64 e.mx,.int .i64 e.goal,.int .i64 e.slack,.int .i64 e.up,.int .i64 e.down,.int .i64 e.cool,.slice none 0 0]
def evs (es:List Ev):List Value:=es.flatMap Ev.cells
end Pl
abbrev stc (d:Nat) (used upto inc:Int) (v:Value):Nat→Value:=fun j=>if j=0 then .pointer (some ⟨d,0,none⟩)else if j=1 then .int .i64 used else if j=2 then .int .i64 upto else if j=3 then .int .i64 inc else v
def StAt (F:Nat→Prop) (w:World) (s:Nat) (size:Int) (bs:List Int) (used upto inc:Int) (es:List Pl.Ev):Prop:=
 F s∧∃d v,w.rowIs s 410 5 (stc d used upto inc v)∧DkAt F w d size bs∧w.ownsRow 0 175 14 v es.length (Pl.evs es)∧∀g,v.ownBlock=some g→F g
theorem StAt.mono {F G:Nat→Prop} {w:World} {s:Nat} {size:Int} {bs:List Int} {used upto inc:Int} {es:List Pl.Ev} (h:StAt F w s size bs used upto inc es) (k:∀g,F g→G g):StAt G w s size bs used upto inc es:=by
 obtain⟨h1,d,v,h2,h3,h4,h5⟩:=h;exact⟨k s h1,d,v,h2,h3.mono k,h4,fun g hg=>k g (h5 g hg)⟩
theorem StAt.keep {F:Nat→Prop} {w w':World} {s:Nat} {size:Int} {bs:List Int} {used upto inc:Int} {es:List Pl.Ev} (h:StAt F w s size bs used upto inc es) (k:∀g,F g→w'.heap[g]?=w.heap[g]?):StAt F w' s size bs used upto inc es:=by
 obtain⟨h1,d,v,h2,h3,h4,h5⟩:=h;exact⟨h1,d,v,h2.of_block (k s h1),h3.keep k,xK h4 (fun g hg=>k g (h5 g hg)),h5⟩
theorem StAt.lt {F:Nat→Prop} {w:World} {s:Nat} {size:Int} {bs:List Int} {used upto inc:Int} {es:List Pl.Ev} (h:StAt F w s size bs used upto inc es):s<w.heap.size:=by obtain⟨_,d,v,h2,_⟩:=h;exact h2.lt
theorem StAt.below {F:Nat→Prop} {w w':World} {s:Nat} {size:Int} {bs:List Int} {used upto inc:Int} {es:List Pl.Ev} (h:StAt F w s size bs used upto inc es) (hb:Below w.heap.size w w'):StAt F w' s size bs used upto inc es:=by
 obtain⟨h1,d,v,h2,h3,h4,h5⟩:=h;exact⟨h1,d,v,h2.of_block (hb.block s h2.lt),h3.below hb,xK h4 (fun g hg=>hb.block g (h4.lt g hg).2),h5⟩
theorem StAt.set {F:Nat→Prop} {w:World} {s d:Nat} {size:Int} {bs:List Int} {used upto inc used' upto' inc':Int} {v:Value} {es:List Pl.Ev} (hF:F s) (hr:w.rowIs s 410 5 (stc d used upto inc v)) (hd:DkAt F w d size bs) (ho:w.ownsRow 0 175 14 v es.length (Pl.evs es)) (hv:∀g,v.ownBlock=some g→F g)
  (j:Nat) (x:Int) (hx:∀i,i<5→(if i=j then .int .i64 x else stc d used upto inc v i)=stc d used' upto' inc' v i):StAt F (w.setCell ⟨s,j,none⟩ (.int .i64 x)) s size bs used' upto' inc' es:=by
 obtain⟨c,hc,hcs⟩:=hr
 have hr:w.rowIs s 410 5 (stc d used upto inc v):=⟨c,hc,hcs⟩
 have n5:∀cs fr,w.heap[s]?≠some (Obj.cells cs 5 fr):=fun cs fr e=>by rw[hc]at e;cases e
 refine⟨hF,d,v,(hr.set j _).congr hx,?_,xK ho (fun g hg=>Below.heap_setCell _ _ _ _ (fun e=>?_)),hv⟩
 ·exact hd.set (fun e=>by
   obtain⟨_,v',⟨c',hc',_⟩,_⟩:=hd
   rw[←e,hc]at hc';cases hc') n5 _ _
 ·obtain⟨cs,hcs'⟩:=zK ho hg
  rw[show g=s from e,hc]at hcs';cases hcs'
theorem StAt.inside {F:Nat→Prop} {w:World} {s:Nat} {size:Int} {bs:List Int} {used upto inc:Int} {es:List Pl.Ev} (h:StAt F w s size bs used upto inc es):StAt (fun g=>F g∧g<w.heap.size) w s size bs used upto inc es:=by
 obtain⟨h1,d,v,h2,h3,h4,h5⟩:=h;exact⟨⟨h1,h2.lt⟩,d,v,h2,h3.inside,h4,fun g hg=>⟨h5 g hg,(h4.lt g hg).2⟩⟩
theorem StAt.other {F:Nat→Prop} {w:World} {s R:Nat} {size:Int} {bs:List Int} {used upto inc:Int} {es:List Pl.Ev} (h:StAt F w s size bs used upto inc es) {t:TypeId} {cs:Array Value} {fr:Nat×Nat} (hR:w.heap[R]?=some (.cells cs t fr)) (ht:t≠410∧t≠244∧t≠5∧t≠175) (j:Nat) (u:Value):StAt F (w.setCell ⟨R,j,none⟩ u) s size bs used upto inc es:=by
 obtain⟨h1,d,v,h2,h3,h4,h5⟩:=h
 obtain⟨c,hc,_⟩:=id h2
 obtain⟨_,v',⟨c',hc',_⟩,_⟩:=id h3
 refine⟨h1,d,v,h2.of_block (Below.heap_setCell _ _ _ _ (fun e=>?_)),h3.set (fun e=>?_) (fun cs' fr' e=>?_) _ _,xK h4 (fun g hg=>Below.heap_setCell _ _ _ _ (fun e=>?_)),h5⟩
 ·rw[show s=R from e,hR]at hc;cases hc;exact ht.1 rfl
 ·rw[←e,hR]at hc';cases hc';exact ht.2.1 rfl
 ·rw[hR]at e;cases e;exact ht.2.2.1 rfl
 ·obtain⟨x,hx⟩:=zK h4 hg
  rw[show g=R from e,hR]at hx;cases hx;exact ht.2.2.2 rfl
theorem vB (F:Nat→Prop) (s:Nat) (size:Int) (bs ys:List Int) (used upto inc:Int) (es:List Pl.Ev) (v:Value) (w:World) (h:StAt F w s size bs used upto inc es) (hl:bs.length≤900000) (hs:0≤size) (hs':size≤16384) (hv:BytesC w v ys) (hy:ys.length≤4096) (hf:size<bs.length+(Pl.frame ys).length) :
  Calls prog 287 #[Qp s,v] w fun e w'=>e=.panicked [{v:=.iface 444 (.agg (Qo 7)),recovered:=false}]∧Below w.heap.size w w':=by
 obtain⟨ao,cap,rfl⟩:=hv.form
 obtain⟨h1,d,u,hr,hd,_,_⟩:=h
 have c0:=hr.cell (i:=0) (by decide)
 simp only[stc,if_true]at c0
 have HW:=zA (lwrite_full F d size bs ys _ w hd (by omega) hs hs' hv hy hf)
 clear hr hd hv hf
 go_enter func287,ntmps287
 go_wp2_with fail
 refine HW.out.mono ?_
 rintro e w1 ⟨rfl,b1⟩
 have HB:=zA b1
 clear b1
 go_wp2_with fail
 refine(smust_f (by rfl)).mono ?_
 rintro e w' ⟨rfl,rfl⟩
 go_wp2_with fail
 exact⟨rfl,rfl,HB.out⟩
theorem uQ (F:Nat→Prop) (s:Nat) (size:Int) (bs ys:List Int) (used upto inc:Int) (es:List Pl.Ev) (v:Value) (w:World) (h:StAt F w s size bs used upto inc es) (hl:bs.length≤900000) (hs:0≤size) (hs':size≤16384) (hv:BytesC w v ys) (hy:ys.length≤4096) (hf:(bs.length:Int)+(Pl.frame ys).length≤size) :
  Calls prog 287 #[Qp s,v] w fun e w'=>e=.returned (.tuple #[])∧StAt (fun g=>F g∨w.heap.size≤g) w' s size (bs++Pl.frame ys) used upto inc es∧Off F w w':=by
 obtain⟨ao,cap,rfl⟩:=hv.form
 obtain⟨h1,d,u,hr,hd,ho,hu⟩:=h
 have c0:=hr.cell (i:=0) (by decide)
 simp only[stc,if_true]at c0
 have HW:=zA (lwrite_ok F d size bs ys _ w hd hl hs hs' hv hy hf)
 have HR:=zA hr
 have HD:=zA hd
 have HO:=zA ho
 clear hr hd hv hf ho
 go_enter func287,ntmps287
 go_wp2_with fail
 refine HW.out.mono ?_
 rintro e w1 ⟨rfl,D1,O1⟩
 have HD1:=zA D1
 have HO1:=zA O1
 clear D1 O1 HW
 go_wp2_with fail
 refine(xZ (by rfl)).mono ?_
 rintro e w' ⟨rfl,rfl⟩
 go_wp2_with fail
 have hdb:∃c,w.heap[d]?=some (.cells c 244 (0,0)):=by
  obtain⟨_,v',⟨c,hc,_⟩,_⟩:=HD.out
  exact⟨c,hc⟩
 obtain⟨cd,hcd⟩:=hdb
 refine yD results287 ⟨rfl,⟨.inl h1,d,u,HR.out.of_block (HO1.out.same s HR.out.lt (fun e=>?_)),HD1.out,xK HO.out (fun g hg=>HO1.out.same g (HO.out.lt g hg).2 (fun e=>?_)),fun g hg=>.inl (hu g hg)⟩,HO1.out.mono (fun g _ hg=>by rw[show g=d from hg];exact HD.out.1)⟩
 ·obtain⟨c,hc,_⟩:=HR.out
  rw[show s=d from e,hcd]at hc;cases hc
 ·obtain⟨cs,hcs⟩:=zK HO.out hg
  rw[show g=d from e,hcd]at hcs;cases hcs
end
end Go.Proofs.YtodlmbfbfaofcaaGreat
