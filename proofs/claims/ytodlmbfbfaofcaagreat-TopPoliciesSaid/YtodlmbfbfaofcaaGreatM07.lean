/- TopPolicies, part 7. -/
import Derived.Test.YtodlmbfbfaofcaaGreatM01
import Derived.Test.YtodlmbfbfaofcaaGreatM02
import Derived.Test.YtodlmbfbfaofcaaGreatM04
import Derived.Test.YtodlmbfbfaofcaaGreatM06
open Go.Proofs.Tryz
namespace Go.Proofs.YtodlmbfbfaofcaaGreat
set_option linter.unusedVariables false
set_option linter.unusedSimpArgs false
set_option maxRecDepth 100000
set_option maxHeartbeats 1000000
section
open Go.RowKit Rw
namespace Pl
def crcStep (y:Int):Int:=bits BinOp.xor IntKind.u32 (y / 2) (bits BinOp.and IntKind.u32 3988292384 (-bits BinOp.and IntKind.u32 y 1%4294967296))
def it (f:Int→Int):Nat→Int→Int
 | 0,x=>x
 | k+1,x=>f (it f k x)
def crcEat (r c:Int):Int:=it crcStep 8 (bits BinOp.xor IntKind.u32 r (c%4294967296))
def crc (bs:List Int):Int:=bits BinOp.xor IntKind.u32 (bs.foldl crcEat (bits BinOp.xor IntKind.u32 0 4294967295)) 4294967295
end Pl
theorem ret_u32 {a b:Int} (h:a=b):Ending.returned (.int .u32 a)=.returned (.int .u32 b):=by rw[h]
theorem eat_any (r c:Int) (w:World):Calls prog 345 #[.int .u32 r,.int .u8 c] w fun e w'=>e=.returned (.int .u32 (Pl.crcEat r c))∧w=w':=by
 have HE:Hid (Pl.crcEat r c=Pl.it Pl.crcStep 8 (bits BinOp.xor IntKind.u32 r (c%4294967296))):=zA rfl
 have HS:Hid (∀k x,Pl.it Pl.crcStep (k+1) x=bits BinOp.xor IntKind.u32 (Pl.it Pl.crcStep k x / 2) (bits BinOp.and IntKind.u32 3988292384 (-bits BinOp.and IntKind.u32 (Pl.it Pl.crcStep k x) 1%4294967296))):=zA (fun _ _=>rfl)
 go_enter func345,ntmps345
 go_wp2_with fail
 generalize bits BinOp.xor IntKind.u32 r (c%4294967296)=x0 at *
 go_loopw [0,10] (fun x i wr=>∃(k:Nat) (y:Int),k≤8∧i=.int .i64 k∧x=.int .u32 y∧w=wr∧y=Pl.it Pl.crcStep k x0) (fun _ i _=>8 - (intOf i).toNat)
 case atStart=>exact⟨0,_,by omega,rfl,rfl,rfl,rfl⟩
 case round=>
  obtain⟨k,y,hk,rfl,rfl,rfl,hy⟩:=hrel
  have HY:=zA hy
  clear hy
  by_cases hlt:k<8
  ·have hlt':(k:Int)<8:=by omega
   go_wp2_with fail
   exact⟨⟨k+1,_,by omega,rfl,rfl,trivial,by rw[HS.out,←HY.out]⟩,by simp[intOf];omega⟩
  ·obtain rfl:k=8:=by omega
   go_wp2_with fail
   go_ret
   exact⟨ret_u32 (by rw[HE.out];exact HY.out),rfl⟩
theorem more_any (v:Value) (bs:List Int) (w:World) (h:BytesC w v bs) (hl:bs.length≤1000000):Calls prog 303 #[.int .u32 0,v] w fun e w'=>e=.returned (.int .u32 (Pl.crc bs))∧w=w':=by
 have HE:Hid (Pl.crc bs=bits BinOp.xor IntKind.u32 (bs.foldl Pl.crcEat (bits BinOp.xor IntKind.u32 0 4294967295)) 4294967295):=zA rfl
 obtain⟨ao,cap,rfl,h0,h1⟩:=h
 have H1:=zA h1
 clear h1 h0
 go_enter func303,ntmps303
 go_wp2_with fail
 have HX:Hid (bits BinOp.xor IntKind.u32 0 4294967295=bits BinOp.xor IntKind.u32 0 4294967295):=zA rfl
 go_loopw [5,12] (fun x i wr=>∃(k:Nat),k≤bs.length∧i=.int .i64 k∧x=.int .u32 ((bs.take k).foldl Pl.crcEat (bits BinOp.xor IntKind.u32 0 4294967295))∧w=wr) (fun _ i _=>bs.length - (intOf i).toNat)
 case atStart=>exact⟨0,by omega,rfl,by simp,rfl⟩
 case round=>
  obtain⟨k,hk,rfl,rfl,rfl⟩:=hrel
  by_cases hlt:k<bs.length
  ·obtain⟨g,off,rfl,hg,c0⟩:=H1.out k hlt
   have ht:(bs.take (k+1)).foldl Pl.crcEat (bits BinOp.xor IntKind.u32 0 4294967295)=Pl.crcEat ((bs.take k).foldl Pl.crcEat (bits BinOp.xor IntKind.u32 0 4294967295)) bs[k]:=by
    rw[List.take_add_one,List.getElem?_eq_getElem hlt,List.foldl_append];rfl
   have HT:=zA ht
   clear ht
   generalize (bs.take k).foldl Pl.crcEat (bits BinOp.xor IntKind.u32 0 4294967295)=y at *
   generalize bs[k]=c at *
   go_wp2_with fail
   refine(eat_any _ _ _).mono ?_
   rintro e w' ⟨rfl,rfl⟩
   go_wp2_with fail
   exact⟨⟨k+1,by omega,rfl,by rw[HT.out],trivial⟩,by simp[intOf];omega⟩
  ·obtain rfl:k=bs.length:=by omega
   rw[List.take_length]
   generalize bs.foldl Pl.crcEat (bits BinOp.xor IntKind.u32 0 4294967295)=y at *
   go_wp2_with fail
   go_ret
   exact⟨ret_u32 HE.out.symm,rfl⟩
theorem crc_any (v:Value) (bs:List Int) (w:World) (h:BytesC w v bs) (hl:bs.length≤1000000):Calls prog 238 #[v] w fun e w'=>e=.returned (.int .u32 (Pl.crc bs))∧w=w':=by
 obtain⟨ao,cap,hv⟩:=h.form
 have HM:=zA (more_any v bs w h hl)
 subst hv
 clear h
 go_enter func238,ntmps238
 go_wp2_with fail
 refine HM.out.mono ?_
 rintro e w' ⟨rfl,rfl⟩
 go_wp2_with fail
 go_ret
 exact⟨rfl,rfl⟩
namespace Pl
def sum4 (s:Int):List Int:=[s / 16777216%256,s / 65536%256,s / 256%256,s%256]
end Pl
theorem fsum_any (v:Value) (bs:List Int) (w:World) (h:BytesC w v bs) (hl:bs.length≤1000000) :
  Calls prog 143 #[v] w fun e w'=>∃v',e=.returned v'∧OwnB w.heap.size w' v' (Pl.sum4 (Pl.crc bs))∧Below w.heap.size w w':=by
 obtain⟨ao,cap,hv⟩:=h.form
 have HM:=zA (crc_any v bs w h hl)
 have HS:Hid (Pl.sum4 (Pl.crc bs)=[Pl.crc bs / 16777216%256,Pl.crc bs / 65536%256,Pl.crc bs / 256%256,Pl.crc bs%256]):=zA rfl
 subst hv
 clear h
 go_enter func143,ntmps143
 go_wp2_with fail
 refine HM.out.mono ?_
 rintro e w' ⟨rfl,rfl⟩
 clear HM
 generalize hcc:Pl.crc bs=c at *
 have HCC:=zA hcc
 clear hcc
 go_wp2_with fail
 go_loopw [4,5] (fun x i wr=>∃(k:Nat),k≤4∧i=.int .i64 (24 - 8*(k:Int))∧OwnB w.heap.size wr x ((Pl.sum4 c).take k)∧Below w.heap.size w wr) (fun _ i _=>(intOf i+8).toNat)
 case atStart=>exact⟨0,by omega,rfl,xO _ _,Below.refl _ _⟩
 case round=>
  obtain⟨k,hk,rfl,O2,b2⟩:=hrel
  have BX:∀b:Int,Below wr.heap.size wr (wr.alloc (.cells #[.int .u8 b] 5)):=fun b=>bn _ _
  have HX:=zA BX
  have HO2:=zA O2
  have HB2:=zA b2
  have HSZ:=zA (fun b=>Nat.le_trans b2.size (BX b).size)
  clear O2 b2 BX
  have hk5:k=0∨k=1∨k=2∨k=3∨k=4:=by omega
  rcases hk5 with rfl | rfl | rfl | rfl | rfl
  ·go_wp2_with (at_builtin;refine xF rfl (.tmp 12) (.tmp 17) rfl rfl (HO2.out.below (HX.out _)) rfl (xJ wr _) (by simp[Pl.sum4]) (HB2.out.trans ((HX.out _).mono HB2.out.size)) (HSZ.out _) ?_;intro v3 w3 hown3 hb3 hg3)
   exact⟨⟨1,by omega,rfl,hown3,hb3⟩,by simp[intOf]⟩
  ·go_wp2_with (at_builtin;refine xF rfl (.tmp 12) (.tmp 17) rfl rfl (HO2.out.below (HX.out _)) rfl (xJ wr _) (by simp[Pl.sum4]) (HB2.out.trans ((HX.out _).mono HB2.out.size)) (HSZ.out _) ?_;intro v3 w3 hown3 hb3 hg3)
   exact⟨⟨2,by omega,rfl,hown3,hb3⟩,by simp[intOf]⟩
  ·go_wp2_with (at_builtin;refine xF rfl (.tmp 12) (.tmp 17) rfl rfl (HO2.out.below (HX.out _)) rfl (xJ wr _) (by simp[Pl.sum4]) (HB2.out.trans ((HX.out _).mono HB2.out.size)) (HSZ.out _) ?_;intro v3 w3 hown3 hb3 hg3)
   exact⟨⟨3,by omega,rfl,hown3,hb3⟩,by simp[intOf]⟩
  ·go_wp2_with (at_builtin;refine xF rfl (.tmp 12) (.tmp 17) rfl rfl (HO2.out.below (HX.out _)) rfl (xJ wr _) (by simp[Pl.sum4]) (HB2.out.trans ((HX.out _).mono HB2.out.size)) (HSZ.out _) ?_;intro v3 w3 hown3 hb3 hg3)
   exact⟨⟨4,by omega,rfl,hown3,hb3⟩,by simp[intOf]⟩
  ·go_wp2_with fail
   go_ret
   exact⟨_,rfl,by rw[HCC.out];exact HO2.out,HB2.out⟩
namespace Pl
def fhead (bs:List Int):List Int:=[1]++vint bs.length++bs
def frame (bs:List Int):List Int:=fhead bs++sum4 (crc (fhead bs))
end Pl
theorem tJ (v:Value) (bs:List Int) (w:World) (h:BytesC w v bs) (hl:bs.length≤4096) :
  Calls prog 79 #[v] w fun e w'=>∃v',e=.returned (.tuple #[v',.int .i64 0])∧OwnB w.heap.size w' v' (Pl.frame bs)∧Below w.heap.size w w':=by
 obtain⟨ao,cap,hv⟩:=h.form
 subst hv
 have b1:Below w.heap.size w (w.alloc (.cells #[.int .u8 1] 5)):=bn _ _
 have HP:=zA (xZ _ [1] bs.length _ (xJ w 1) (by simp) lD)
 have HB:=zA b1
 have HH:=zA h
 have hv6:=Pl.vint_len6 (n:=bs.length) lD
 have HV6:=zA hv6
 clear h b1 hv6
 go_enter func79,ntmps79
 go_wp2_with fail
 refine HP.out.mono ?_
 rintro e w2 ⟨v2,rfl,O2,b2⟩
 have hs1:w.heap.size≤(w.alloc (.cells #[.int .u8 1] 5)).heap.size:=HB.out.size
 have HO2:=zA (O2.mono hs1)
 have HB2:=zA (HB.out.trans (b2.mono hs1))
 clear O2 b2 HP HB hs1
 go_wp2_with (at_builtin;refine xF rfl (.tmp 19) (.tmp 20) rfl rfl HO2.out rfl (HH.out.below HB2.out) (by have:=HV6.out;simp;omega) HB2.out HB2.out.size ?_;intro v3 w3 hown3 hb3 hg3;have HO3:Hid (OwnB w.heap.size w3 v3 (Pl.fhead bs)):=zA hown3;have HB3:=zA hb3;clear hown3 hb3 hg3)
 have hfl:(Pl.fhead bs).length≤5000:=by have:=HV6.out;unfold Pl.fhead;simp;omega
 refine(fsum_any _ _ _ HO3.out.toT.toC lD).mono ?_
 rintro e w4 ⟨v4,rfl,O4,b4⟩
 have HO4:=zA O4.toT.toC
 have HB4:=zA (HB3.out.trans (b4.mono HB3.out.size))
 have HO5:=zA (HO3.out.below b4)
 clear O4 b4
 go_wp2_with (at_builtin;refine xF rfl (.tmp 22) (.tmp 24) rfl rfl HO5.out rfl HO4.out (by simp[Pl.sum4];omega) HB4.out HB4.out.size ?_;intro v5 w5 hown5 hb5 hg5)
 exact bodyPost_ret (v:=.tuple #[v5,.int .i64 0]) (by simp[results,results79,go_sem]) rfl ⟨v5,rfl,hown5,hb5⟩
theorem equal_ok (va vb:Value) (bs:List Int) (w:World) (ha:BytesC w va bs) (hb:BytesC w vb bs) (hl:bs.length≤1000000) :
  Calls prog 266 #[va,vb] w fun e w'=>e=.returned (.bool true)∧Below w.heap.size w w':=by
 obtain⟨ao,ca,rfl,_,h1⟩:=ha
 obtain⟨bo,cb,rfl,_,h2⟩:=hb
 have H1:=zA h1
 have H2:=zA h2
 clear h1 h2
 go_enter func266,ntmps266
 go_wp2_with fail
 go_loopw [13] (fun i wr=>∃(k:Nat),k≤bs.length∧i=.int .i64 k∧Below w.heap.size w wr) (fun i _=>bs.length - (intOf i).toNat)
 case atStart=>exact⟨0,by omega,rfl,Below.refl _ _⟩
 case round=>
  obtain⟨k,hk,rfl,hbw⟩:=hrel
  by_cases hlt:k<bs.length
  ·obtain⟨g,off,rfl,hg,c0⟩:=H1.out k hlt
   obtain⟨q,ofq,rfl,hq,d0⟩:=H2.out k hlt
   have c1:=(hbw.cell (p:=⟨g,off+k,none⟩) hg).trans c0
   have d1:=(hbw.cell (p:=⟨q,ofq+k,none⟩) hq).trans d0
   have HBW:=zA hbw
   have e0:(bs[k] != bs[k])=false:=by simp
   clear c0 d0 hbw
   generalize bs[k]=c at *
   go_wp2_with fail
   go_quiet (fail)
   go_wp2_with fail
   exact⟨⟨k+1,by omega,rfl,below_drewN HBW.out _⟩,by simp[intOf];omega⟩
  ·obtain rfl:k=bs.length:=by omega
   have HBW:=zA hbw
   clear hbw
   go_wp2_with fail
   go_ret
   exact⟨rfl,HBW.out⟩
theorem zT {P:Program} {fn:Func} {R:Ending→World→Prop} {ch:List PanicEntry} {a:Act} {w:World} (hd:a.defers=[]) (h:R (.panicked ch) w):bodyPost P fn R (.panic ch) a w:=by
 simp[bodyPost,hd,h]
theorem fmust_true (x:Int) (w:World):Calls prog 265 #[.bool true,.int .i64 x] w fun e w'=>e=.returned (.tuple #[])∧w=w':=by
 go_enter func265,ntmps265
 go_wp2_with fail
 exact yG results265 ⟨rfl,rfl⟩
theorem vI {b:Bool} {x:Int} {w:World} (h:b=true):Calls prog 265 #[.bool b,.int .i64 x] w fun e w'=>e=.returned (.tuple #[])∧w=w':=by subst h;exact fmust_true x w
theorem fmust_false (x:Int) (w:World):Calls prog 265 #[.bool false,.int .i64 x] w fun e w'=>e=.panicked [{v:=.iface 386 (.agg (Qo x)),recovered:=false}]∧w=w':=by
 go_enter func265,ntmps265
 go_wp2_with fail
 exact zT rfl ⟨rfl,rfl⟩
theorem slot_cell {w:World} {g off n cap:Nat} {x:Int} {xs:List Int} (h:Bs w (.slice (some ⟨g,off,none⟩) n cap) (x::xs)):w.cell? ⟨g,off,none⟩=some (.int .u8 x):=by
 obtain⟨⟨ao,c,e,_,h1⟩,_⟩:=h
 cases e
 obtain⟨g',off',cs,fr,h2,h3,h4⟩:=h1 0 (by simp)
 cases h2
 simp only[World.cell?,h3];simpa using h4
theorem Bs.at {w:World} {v:Value} {x:Int} {xs:List Int} (h:Bs w v (x::xs)):∃g off cap,v=.slice (some ⟨g,off,none⟩) (xs.length+1) cap∧xs.length+1≤cap∧cap≤maxLen:=by
 obtain⟨⟨ao,c,e,_,h1⟩,ao2,n2,c2,e2,hn,hm⟩:=h
 obtain⟨g,off,cs,fr,h2,_,_⟩:=h1 0 (by simp)
 subst h2;rw[e]at e2;cases e2
 exact⟨g,off,c,e,by simpa using hn,hm⟩
theorem Bs.cut {w:World} {g off n cap:Nat} {xs ys:List Int} (h:Bs w (.slice (some ⟨g,off,none⟩) n cap) (xs++ys)) (hc:¬cap=xs.length):Bs w (.slice (some ⟨g,off+xs.length,none⟩) ys.length (cap - xs.length)) ys:=by
 have:=h.drop
 unfold cutAt at this
 rw[if_neg hc,Option.map_some,Go.WideShapes.add_plain]at this
 exact this
theorem read_core (A bs T rest:List Int) (g off cap p q n:Nat) (w:World) (hA:A=Pl.vint bs.length) (hT:T=Pl.sum4 (Pl.crc ([1]++A++bs))) (hp:p=1+A.length) (hq:q=p+bs.length) (hn:n=q+4+rest.length)
  (h:Bs w (.slice (some ⟨g,off,none⟩) n cap) (1::(A++(bs++(T++rest))))) (hl:bs.length≤4096) (hr:rest.length≤900000) (hcn:n≤cap) (hcm:cap≤maxLen) :
  Calls prog 175 #[.slice (some ⟨g,off,none⟩) n cap] w fun e w'=>∃v',e=.returned (.tuple #[v',.int .i64 (q+4:Nat)])∧Bs w' v' bs∧Below w.heap.size w w':=by
 have hv6:A.length≤6:=by rw[hA];exact Pl.vint_len6 lD
 have hT4:T.length=4:=by rw[hT];rfl
 have c0:=slot_cell h
 have B1:Bs w (.slice (some ⟨g,off+1,none⟩) (n - 1) (cap - 1)) (A++(bs++(T++rest))):=by
  have:=(show Bs w (.slice (some ⟨g,off,none⟩) n cap) ([1]++(A++(bs++(T++rest))))from h).cut (by simp;omega)
  rw[show(A++(bs++(T++rest))).length=n - 1 from by simp[hT4];omega]at this
  exact this
 have B2:Bs w (.slice (some ⟨g,off+p,none⟩) bs.length (cap - p)) bs:=by
  have:=((show Bs w (.slice (some ⟨g,off,none⟩) n cap) (([1]++A)++(bs++(T++rest)))from by simpa using h).cut (by simp;omega)).take
  rw[show([1]++A:List Int).length=p from by simp;omega]at this
  exact this
 have B3:Bs w (.slice (some ⟨g,off+q,none⟩) 4 (cap - q)) T:=by
  have:=((show Bs w (.slice (some ⟨g,off,none⟩) n cap) (([1]++A++bs)++(T++rest))from by simpa using h).cut (by simp;omega)).take
  rw[show([1]++A++bs:List Int).length=q from by simp;omega,hT4]at this
  exact this
 have B4:Bs w (.slice (some ⟨g,off,none⟩) q cap) ([1]++A++bs):=by
  have:=(show Bs w (.slice (some ⟨g,off,none⟩) n cap) (([1]++A++bs)++(T++rest))from by simpa using h).take
  rw[show([1]++A++bs:List Int).length=q from by simp;omega]at this
  exact this
 have hml:(bs++(T++rest)).length+p=n:=by simp[hT4];omega
 have HB1:=zA B1
 have HB2x:=zA B2
 have HB3:=zA B3
 have HB4:=zA B4
 have HT:=zA hT
 have HA:=zA hA
 have hL:=hl
 have HNW:=zA (uU _ _ w B1.1.toC (by simp[hT4];omega))
 obtain⟨m,hm⟩:∃m:Nat,m=(bs++(T++rest)).length:=⟨_,rfl⟩
 have hmp:n=p+m:=by omega
 have hmL:m=bs.length+4+rest.length:=by rw[hm];simp[hT4];omega
 have HI:=zA (fun (W:World) (r:Nat) (R:RdAt W r (A++(bs++(T++rest))))=>vO r bs.length (bs++(T++rest)) W (by rw[←hA];exact R) lD)
 have HLf:=zA (fun (W:World) (r:Nat) (R:RdAt W r (bs++(T++rest)))=>vH r _ W R)
 rw[←hm]at HLf
 have hcap1:¬cap=1:=by omega
 have d0:decide ((0:Int)<n)=true:=decide_eq_true lD
 have d6:decide ((bs.length:Int)≤4096)=true:=decide_eq_true lD
 have d8:decide ((bs.length:Int)+4≤m)=true:=decide_eq_true lD
 have e7:(n:Int) - (m:Int)=(p:Int):=by omega
 have e9:(p:Int)+(bs.length:Int)=(q:Int):=by omega
 have a1:(1:Int)≤n:=by omega
 have a2:(n:Int)≤1000000:=by omega
 have a3:(m:Int)≤1000000:=by omega
 have a4:(q:Int)≤1000000:=by omega
 have a5:(p:Int)≤1000000:=by omega
 have a6:(bs.length:Int)≤1000000:=by omega
 have HP:=zA hp
 have HQ:=zA hq
 have HN:=zA hn
 clear h B1 B2 B3 B4 hT hA hcm hp hq hn hml hm hmp hmL hv6 hT4 hl hL hr
 go_enter func175,ntmps175
 go_wp2_with fail
 refine(vI (by first | (simp;done) | (simp;omega))).mono ?_
 rintro e w' ⟨rfl,rfl⟩
 go_wp2_with fail
 refine(vI (by rfl)).mono ?_
 rintro e w' ⟨rfl,rfl⟩
 go_wp2_with fail
 refine HNW.out.mono ?_
 rintro e w1 ⟨r,rfl,hr1,R1,b1⟩
 have HB:=zA b1
 have HI1:=zA (HI.out _ _ R1)
 have HR1:=zA hr1
 clear R1 b1 hr1 HNW HI
 go_wp2_with fail
 refine HI1.out.mono ?_
 rintro e w2 ⟨rfl,R2,O2⟩
 have hb2:=O2.since HB.out (by rintro g rfl;exact HR1.out)
 have HB2:=zA hb2
 have HE2:=zA (uW r _ w2 R2)
 have HL2:=zA (HLf.out w2 r R2)
 clear R2 O2 hb2 HI1 HB HLf
 go_wp2_with fail
 refine HE2.out.mono ?_
 rintro e w' ⟨rfl,rfl⟩
 go_wp2_with fail
 refine HE2.out.mono ?_
 rintro e w' ⟨rfl,rfl⟩
 go_wp2_with fail
 refine(vI (by rfl)).mono ?_
 rintro e w' ⟨rfl,rfl⟩
 go_wp2_with fail
 refine(vI (by first | (simp;done) | (simp;omega))).mono ?_
 rintro e w' ⟨rfl,rfl⟩
 go_wp2_with fail
 refine HL2.out.mono ?_
 rintro e w' ⟨rfl,rfl⟩
 go_wp2_with fail
 refine HL2.out.mono ?_
 rintro e w' ⟨rfl,rfl⟩
 go_wp2_with fail
 refine(vI (by first | (simp;done) | (simp;omega))).mono ?_
 rintro e w' ⟨rfl,rfl⟩
 go_wp2_with fail
 have hc1:¬cap=q:=by have:=HN.out;omega
 obtain⟨q4,hq4⟩:∃q4:Nat,q4=q+4:=⟨_,rfl⟩
 have hwr:IntKind.i64.wrap ((q:Int)+4)=(q4:Int):=by
  rw[hq4];simp[IntKind.wrap,IntKind.bits,IntKind.signed];omega
 have hc2:(q4:Int)≤cap:=by have:=HN.out;omega
 have hc6:(q:Int)≤q4:=by omega
 have H34:=zA (show Bs w2 (.slice (some ⟨g,off+q,none⟩) (q4 - q) (cap - q)) T from by rw[show q4 - q=4 from by omega];exact HB3.out.below HB2.out)
 have HQ4:=zA hq4
 clear hq4
 have hc3:¬cap=p:=by have:=HN.out;have:=HQ.out;omega
 have hc4:(p:Int)≤q:=by have:=HQ.out;omega
 have hc5:(q:Int)≤cap:=by have:=HN.out;omega
 clear d0 d6 d8 e7 c0
 refine zD (fun _=>True) 99 lE trivial (fun qB=>?_)
 refine tkd 0 45 rfl ?_
 refine tkd 1 46 rfl ?_
 refine tkd 2 47 rfl ?_
 refine yE (i:=3) 48 (v:=.int .i64 q4) rfl lE lE lE lE lE (fun _ _ _ h=>h) (Or.inl ⟨by rfl,?ha4⟩) (by assumption) ?ra4
 case ha4=>intro w hSw;(try dsimp only at hSw);go_simp;first | done | exact hwr
 simp only[zP]
 refine tkd 4 49 rfl ?_
 refine tkd 5 50 rfl ?_
 refine tkd 6 51 rfl ?_
 refine tkd 7 52 rfl ?_
 clear qB hwr
 refine t1 8 rfl (fun K hK=>?_)
 go_simp
 have hfl:([1]++A++bs:List Int).length≤1000000:=by have:=HQ.out;have:=HP.out;simp;omega
 refine(fsum_any _ _ _ (HB4.out.below (HB2.out.drew)).1.toC hfl).mono ?_
 rintro e w4 ⟨v4,rfl,O4,b4⟩
 have HO4:=zA (show BytesC w4 v4 T from by rw[HT.out];exact O4.toT.toC)
 have HB4':=zA (HB2.out.drew.trans (b4.mono HB2.out.size))
 have H35:=zA ((H34.out.below (Below.refl _ w2).drew).below b4)
 clear O4 b4 hfl
 refine hK.out _ _ (fun _=>trivial) (fun _=>?_)
 clear hK K
 try simp only[zP]
 refine t1 9 rfl (fun K hK=>?_)
 go_simp
 refine(equal_ok _ _ T _ H35.out.1.toC HO4.out (by rw[HT.out];show 4≤1000000;decide)).mono ?_
 rintro e w5 ⟨rfl,b5⟩
 have HB5:=zA (HB4'.out.trans (b5.mono HB4'.out.size))
 clear b5
 refine hK.out _ _ (fun _=>trivial) (fun _=>?_)
 clear hK K
 try simp only[zP]
 refine t1 10 rfl (fun K hK=>?_)
 go_simp
 refine(vI (by rfl)).mono ?_
 rintro e w' ⟨rfl,rfl⟩
 refine hK.out _ _ (fun _=>trivial) (fun _=>?_)
 clear hK K
 try simp only[zP]
 refine wd ?_
 go_wp2_with fail
 have hqp:q - p=bs.length:=by have:=HQ.out;omega
 refine bodyPost_ret (v:=.tuple #[.slice (some ⟨g,off+p,none⟩) (q - p) (cap - p),.int .i64 ((q+4:Nat):Int)]) (by simp[results,results175,go_sem]) rfl ⟨_,rfl,?_,HB5.out⟩
 rw[hqp]
 exact HB2x.out.below HB5.out
theorem read_ok (v:Value) (bs rest:List Int) (w:World) (h:Bs w v (Pl.frame bs++rest)) (hl:bs.length≤4096) (hr:rest.length≤900000) :
  Calls prog 175 #[v] w fun e w'=>∃v',e=.returned (.tuple #[v',.int .i64 ((Pl.frame bs).length:Nat)])∧Bs w' v' bs∧Below w.heap.size w w':=by
 have e0:Pl.frame bs++rest=1::(Pl.vint bs.length++(bs++(Pl.sum4 (Pl.crc ([1]++Pl.vint bs.length++bs))++rest))):=by unfold Pl.frame Pl.fhead;simp
 rw[e0]at h
 have hfl:(Pl.frame bs).length=1+(Pl.vint bs.length).length+bs.length+4:=by unfold Pl.frame Pl.fhead;simp[Pl.sum4];omega
 obtain⟨g,off,cap,hv,hcn,hcm⟩:=h.at
 subst hv
 rw[hfl]
 exact read_core (Pl.vint bs.length) bs _ rest g off cap _ _ _ w rfl rfl rfl rfl (by simp[Pl.sum4];omega) h hl hr hcn hcm
theorem zV {P:Program} {fn:Func} {tmps tmps':Array Value} {R:Ending→World→Prop} (h:results fn tmps=results fn tmps'):∀(ds:List Deferred) (u:FrameMode) (w:World),Leaves P fn tmps R ds u w→Leaves P fn tmps' R ds u w
 | [],.returning,w,⟨v,h1,h2⟩=>⟨v,h ▸ h1,h2⟩
 | [],.panicking _,w,h1=>h1
 | [],.run,w,h1=>h1
 | d::ds,u,w,⟨h1,fv,cap,f,args,h2,h3,h4⟩=>⟨h1,fv,cap,f,args,h2,h3,h4.mono (fun e u' w' h5=>by
   cases e with
   | returned v=>exact zV h ds _ w' h5
   | panicked c=>exact zV h ds _ w' h5
   | outgrown=>exact h5)⟩
theorem bytes_zero (w:World) (ad:Addr) (cap:Nat):BytesC w (.slice (some ad) 0 cap) []:=⟨some ad,cap,rfl,(fun e=>by cases e),fun i hi=>absurd hi (by simp)⟩
theorem getD_put (tmps : Array Value) {d i : Nat} (v : Value) (h : d ≠ i) : (tmps.setIfInBounds d v).getD i undef = tmps.getD i undef := by
  simp [Array.getD_eq_getD_getElem?, Array.getElem?_setIfInBounds_ne h]
theorem rV (v:Value) (bs:List Int) (w:World) (h:Bs w v (Pl.frame bs)) (hl:bs.length≤4096) :
  Calls prog 105 #[v] w fun e w'=>∃v1 v2,e=.returned (.tuple #[v1,v2,.int .i64 0])∧OwnB w.heap.size w' v1 bs∧OwnB w.heap.size w' v2 []∧Below w.heap.size w w':=by
 have e0:Pl.frame bs=1::(Pl.vint bs.length++(bs++(Pl.sum4 (Pl.crc ([1]++Pl.vint bs.length++bs))))):=by unfold Pl.frame Pl.fhead;simp
 obtain⟨g,off,cap,hv,hcn,hcm⟩:=(show Bs w v (1::_)from e0 ▸ h).at
 have hn0:(Pl.vint bs.length++(bs++(Pl.sum4 (Pl.crc ([1]++Pl.vint bs.length++bs))))).length+1=(Pl.frame bs).length:=by rw[e0];rfl
 rw[hn0]at hv hcn
 subst hv
 have hfl:(Pl.frame bs).length≤4200:=by have:=Pl.vint_len6 (n:=bs.length) lD;rw[e0];simp[Pl.sum4];omega
 have b1:Below w.heap.size w (w.alloc (.cells (Qo 0) 41)):=bn _ _
 have HR:=zA (read_ok _ bs [] _ (by rw[List.append_nil];exact h.below b1) hl (by simp))
 have HB:=zA b1
 have hx:=heap_alloc_new w (.cells (Qo 0) 41)
 have HX:=zA hx
 generalize (Pl.frame bs).length=n at *
 clear h e0 hn0 hx b1 hcm
 obtain⟨sAd,hsAd⟩:∃sAd:Addr,(if cap=n then(some ⟨g,off,none⟩:Option Addr)else some ⟨g,off+n,none⟩)=some sAd:=by
  by_cases hc:cap=n
  ·exact⟨_,if_pos hc⟩
  ·exact⟨_,if_neg hc⟩
 go_enter_defers func105,ntmps105
 go_wp2_with fail
 refine HR.out.mono ?_
 rintro e w1 ⟨v1,rfl,B1,b1⟩
 obtain⟨ao1,cp1,hv1⟩:=B1.1.toC.form
 subst hv1
 have hz:=(gsi.1 HX.out).1
 have x1:=(b1.block _ hz).trans HX.out
 have HX1:=zA x1
 have HB1:=zA (HB.out.trans (b1.mono HB.out.size))
 have HC1:=zA B1.1.toC
 clear B1 b1 x1 HR hz
 have hc2:(n:Int)≤n:=Int.le_refl _
 have hc3:(n:Int)≤cap:=by omega
 go_wp2_with fail
 refine zD (fun _=>True) 99 lE trivial (fun qB=>?_)
 refine tkd 0 12 rfl ?_ (hQ:=(fun _ a _ h=>zV (by simp[results,results105,Act.put,getD_put]) _ _ _ h))
 refine tkd 2 14 rfl ?_ (hQ:=(fun _ a _ h=>zV (by simp[results,results105,Act.put,getD_put]) _ _ _ h))
 refine tkd 3 15 rfl ?_ (hQ:=(fun _ a _ h=>zV (by simp[results,results105,Act.put,getD_put]) _ _ _ h))
 refine yE (i:=4) 16 (v:=.slice (some sAd) 0 (cap - n)) rfl lE lE lE lE lE (fun _ a _ h=>zV (by simp[results,results105,Act.put,getD_put]) _ _ _ h) (Or.inl ⟨by rfl,?ha4⟩) (by assumption) ?ra4
 case ha4=>intro w hSw;(try dsimp only at hSw);go_simp;done
 simp only[zP]
 clear qB
 refine t1 1 rfl (fun K hK=>?_)
 go_simp
 refine(xI _ bs _ (HC1.out.below (Below.refl _ w1).drew) lD).mono ?_
 rintro e w2 ⟨v2,rfl,O2,b2⟩
 have HX2:=zA ((b2.block _ (gsi.1 HX1.out).1).trans HX1.out)
 have HB2:=zA (HB1.out.drew.trans (b2.mono HB1.out.size))
 have HO2:=zA (O2.mono HB1.out.size)
 clear O2 b2
 refine hK.out _ _ (fun _=>trivial) (fun _=>?_)
 clear hK K
 try simp only[zP]
 refine t1 5 rfl (fun K hK=>?_)
 go_simp
 refine(xI _ [] _ (bytes_zero w2 sAd (cap - n)) (by simp)).mono ?_
 rintro e w3 ⟨v3,rfl,O3,b3⟩
 have x3:=(b3.block _ (gsi.1 HX2.out).1).trans HX2.out
 have HB3:=zA (HB2.out.trans (b3.mono HB2.out.size))
 have HO3:=zA (O3.mono HB2.out.size)
 have HO2':=zA (HO2.out.below b3)
 have c3:=cc 0 x3
 have f3:=zB x3 0
 have HX3:=zA x3
 clear O3 b3 x3
 refine hK.out _ _ (fun _=>trivial) (fun _=>?_)
 clear hK K
 try simp only[zP]
 refine t1 6 rfl (fun K hK=>?_)
 go_simp
 refine hK.out _ _ (fun _=>trivial) (fun _=>?_)
 clear hK K
 try simp only[zP]
 refine t1 7 rfl (fun K hK=>?_)
 go_simp
 refine hK.out _ _ (fun _=>trivial) (fun _=>?_)
 clear hK K
 try simp only[zP]
 refine t1 8 rfl (fun K hK=>?_)
 go_simp
 refine hK.out _ _ (fun _=>trivial) (fun _=>?_)
 clear hK K
 try simp only[zP]
 refine wd ?_
 go_wp2_with fail
 refine leaves_cons (f:=174) (args:=#[Qp w.heap.size]) (by simp) (by simp[go_sem]) ?_
 refine(frame_idle _ _).mono ?_
 rintro e u' w'' ⟨rfl,rfl,rfl⟩
 have c4:=World.cell?_setCell_same w3 ⟨w.heap.size,0,none⟩ (.int .i64 0) c3
 have k4:KeepB w3 (w3.setCell ⟨w.heap.size,0,none⟩ (.int .i64 0)):=fun g' cs fr hg=>Below.heap_setCell _ _ _ _ (fun e=>by
  rw[show g'=w.heap.size from e,HX3.out]at hg;cases hg)
 have b4:Below w.heap.size w (w3.setCell ⟨w.heap.size,0,none⟩ (.int .i64 0)):=⟨HB3.out.os,HB3.out.tape,HB3.out.output,by simpa[World.setCell]using HB3.out.size,fun i hi=>(Below.heap_setCell _ _ _ _ (by show i≠w.heap.size;omega)).trans (HB3.out.block i hi)⟩
 have r1:=HO2'.out.keep k4
 have r2:=HO3.out.keep k4
 generalize w3.setCell ⟨w.heap.size,0,none⟩ (.int .i64 0)=Z at *
 simp[Leaves,settle,results,results105,go_sem,c4]
 exact⟨_,_,⟨rfl,rfl⟩,r1,r2,b4⟩
end
section
open Go.RowKit Rw
section
variable {P:Program} {ops:Array Oper} {Q:Exit→Act→World→Prop} {S:World→Prop} {L fuel:Nat} {listed:Array Bool} {a:Act} {w:World} {v:Value} {oi:Oper}
theorem tkq (i d:Nat) {a':Act} (hi:ops[i]?=some oi) (ha:∀w,S w→(execOp a.eval oi).run P w=.ok (.value v) w) (h:wpL P .any ops Q S L fuel (listed.setIfInBounds i true) a' w)
  (he:a.put (some d) v=a':=by first | (simp only[pt,List.set];done) | (simp only[pt,List.set];exact rfl))
  (hg:Region.wanted oi (yielded ops a.tmps)=true:=by rfl) (hb:okB ops listed i d=true:=by kernel_rfl) (hw:(waitsFor .any ops L i&&i != L)=true:=by kernel_rfl) (hS:S w:=by assumption)
  (hQ:∀c a w,Q (.panic c) (a.put oi.dst v) w→Q (.panic c) a w:=by exact fun _ a _ h=>zV (by simp[results,results12,results306,results49,results309,results8,results16,results105,results148,Act.put,getD_put]) _ _ _ h):wpL P .any ops Q S L (fuel+1) listed a w:=
 tk i d hi ha h he hg hb hw hS hQ
theorem zX (i d:Nat) {a':Act} (hi:ops[i]?=some oi) (h:wpL P .any ops Q S L fuel (listed.setIfInBounds i true) a' w)
  (ha:∀w,S w→(execOp a.eval oi).run P w=.ok (.value v) w:=by intro wS hSw;clear hSw;go_simp;(try with_reducible rfl))
  (he:a.put (some d) v=a':=by first | (simp only[pt,List.set];done) | (simp only[pt,List.set];exact rfl))
  (hg:Region.wanted oi (yielded ops a.tmps)=true:=by rfl) (hb:okB ops listed i d=true:=by kernel_rfl) (hw:(waitsFor .any ops L i&&i != L)=true:=by kernel_rfl) (hS:S w:=by assumption)
  (hQ:∀c a w,Q (.panic c) (a.put oi.dst v) w→Q (.panic c) a w:=by exact fun _ a _ h=>zV (by simp[results,results12,results306,results49,results309,results8,results16,results105,results148,Act.put,getD_put]) _ _ _ h):wpL P .any ops Q S L (fuel+1) listed a w:=
 tk i d hi ha h he hg hb hw hS hQ
theorem xV (i d:Nat) {a':Act} (hi:ops[i]?=some oi) (h:wpL P .any ops Q S L fuel (listed.setIfInBounds i true) a' w)
  (ha:∀w,S w→(execOp a.eval oi).run P w=.ok (.value v) w:=by intro w hSw;(try dsimp only at hSw);go_simp;(try with_reducible rfl))
  (he:a.put (some d) v=a':=by first | (simp only[pt,List.set];done) | (simp only[pt,List.set];exact rfl))
  (hg:Region.wanted oi (yielded ops a.tmps)=true:=by rfl) (hb:okB ops listed i d=true:=by kernel_rfl) (hw:(waitsFor .any ops L i&&i != L)=true:=by kernel_rfl) (hS:S w:=by assumption)
  (hQ:∀c a w,Q (.panic c) (a.put oi.dst v) w→Q (.panic c) a w:=by exact fun _ a _ h=>zV (by simp[results,results12,results306,results49,results309,results8,results16,results105,results148,Act.put,getD_put]) _ _ _ h):wpL P .any ops Q S L (fuel+1) listed a w:=
 tk i d hi ha h he hg hb hw hS hQ
end
end
section
open Go.RowKit Rw
theorem zM {B:Nat} {a w:World} {g:Nat} (h:Below B a w) (hg:B≤g) (j:Nat) (v:Value):Below B a (w.setCell ⟨g,j,none⟩ v):=
 ⟨h.os,h.tape,h.output,by simpa[World.setCell]using h.size,fun i hi=>(Below.heap_setCell _ _ _ _ (by show i≠g;omega)).trans (h.block i hi)⟩
abbrev dkc (size:Int) (v u:Value):Nat→Value:=fun j=>if j=0 then .int .i64 size else if j=1 then v else u
def DkAt (F:Nat→Prop) (w:World) (d:Nat) (size:Int) (bs:List Int):Prop:=F d∧∃v,w.rowIs d 244 3 (dkc size v (.slice none 0 0))∧BytesT w v bs∧∀g,bs≠[]→v.ownBlock=some g→F g
def DkW (w:World) (d:Nat) (size:Int) (bs ys:List Int):Prop:=∃v g cap o cs vo,w.rowIs d 244 3 (dkc size v (.slice (some ⟨g,0,none⟩) 1 cap))∧BytesT w v bs∧
 w.heap[g]?=some (.cells cs 356 (0,0))∧cs[0]?=some (.int .i64 ys.length)∧cs[1]?=some (.func (.func 146) #[] #[Qp o])∧w.heap[o]?=some (.cells #[vo] 55 (0,0))∧Bs w vo ys
theorem DkAt.mono {F G:Nat→Prop} {w:World} {d:Nat} {size:Int} {bs:List Int} (h:DkAt F w d size bs) (k:∀g,F g→G g):DkAt G w d size bs:=by
 obtain⟨h1,v,h2,h3,h4⟩:=h;exact⟨k d h1,v,h2,h3,fun g hb hg=>k g (h4 g hb hg)⟩
theorem BytesT.own {w w':World} {v:Value} {bs:List Int} (h:BytesT w v bs) (k:∀g,bs≠[]→v.ownBlock=some g→w'.heap[g]?=w.heap[g]?):BytesT w' v bs:=by
 obtain⟨ao,cap,rfl,h0,h⟩:=h
 refine⟨ao,cap,rfl,h0,fun i hi=>?_⟩
 obtain⟨g,off,cs,fr,h1,h2,h3⟩:=h i hi
 exact⟨g,off,cs,fr,h1,(k g (fun e=>by subst e;simp at hi) (by rw[h1];rfl)).trans h2,h3⟩
theorem DkAt.keep {F:Nat→Prop} {w w':World} {d:Nat} {size:Int} {bs:List Int} (h:DkAt F w d size bs) (k:∀g,F g→w'.heap[g]?=w.heap[g]?):DkAt F w' d size bs:=by
 obtain⟨h1,v,h2,h3,h4⟩:=h;exact⟨h1,v,h2.of_block (k d h1),h3.own (fun g hb hg=>k g (h4 g hb hg)),h4⟩
theorem DkAt.lt {F:Nat→Prop} {w:World} {d:Nat} {size:Int} {bs:List Int} (h:DkAt F w d size bs):d<w.heap.size:=by obtain⟨_,v,h2,_⟩:=h;exact h2.lt
theorem DkAt.below {F:Nat→Prop} {w w':World} {d:Nat} {size:Int} {bs:List Int} (h:DkAt F w d size bs) (hb:Below w.heap.size w w'):DkAt F w' d size bs:=by
 obtain⟨h1,v,h2,h3,h4⟩:=h;exact⟨h1,v,h2.of_block (hb.block d h2.lt),h3.below hb,h4⟩
theorem DkW.below {w w':World} {d:Nat} {size:Int} {bs ys:List Int} (h:DkW w d size bs ys) (hb:Below w.heap.size w w'):DkW w' d size bs ys:=by
 obtain⟨v,g,cap,o,cs,vo,h1,h2,h3,h4,h5,h6,h7⟩:=h
 exact⟨v,g,cap,o,cs,vo,h1.of_block (hb.block d h1.lt),h2.below hb,(hb.block g (gsi.1 h3).1).trans h3,h4,h5,(hb.block o (gsi.1 h6).1).trans h6,h7.below hb⟩
theorem DkAt.cells {F:Nat→Prop} {w:World} {d:Nat} {size:Int} {bs:List Int} (h:DkAt F w d size bs):∃ao cap,w.cell? ⟨d,0,none⟩=some (.int .i64 size)∧w.cell? ⟨d,1,none⟩=some (.slice ao bs.length cap)∧w.cell? ⟨d,2,none⟩=some (.slice none 0 0)∧(∀j,w.frozen? ⟨d,j,none⟩=false)∧BytesC w (.slice ao bs.length cap) bs:=by
 obtain⟨_,v,h2,h3,_⟩:=h
 obtain⟨ao,cap,rfl⟩:=h3.toC.form
 exact⟨ao,cap,h2.cell (i:=0) lF,h2.cell (i:=1) lF,h2.cell (i:=2) lF,h2.frozen,h3.toC⟩
theorem DkAt.set {F:Nat→Prop} {w:World} {d R:Nat} {size:Int} {bs:List Int} (h:DkAt F w d size bs) (hne:R≠d) (h5:∀cs fr,w.heap[R]?≠some (Obj.cells cs 5 fr)) (j:Nat) (u:Value):DkAt F (w.setCell ⟨R,j,none⟩ u) d size bs:=by
 obtain⟨h1,v,h2,h3,h4⟩:=h
 exact⟨h1,v,h2.of_block (Below.heap_setCell _ _ _ _ (fun e=>hne e.symm)),h3.keep (fun g cs fr hg=>Below.heap_setCell _ _ _ _ (fun e=>h5 cs fr (by rw[show g=R from e]at hg;exact hg))),h4⟩
theorem DkAt.inside {F:Nat→Prop} {w:World} {d:Nat} {size:Int} {bs:List Int} (h:DkAt F w d size bs):DkAt (fun g=>F g∧g<w.heap.size) w d size bs:=by
 obtain⟨h1,v,h2,h3,h4⟩:=h
 refine⟨⟨h1,h2.lt⟩,v,h2,h3,fun g hb hg=>⟨h4 g hb hg,?_⟩⟩
 obtain⟨ao,cap,rfl,_,hc⟩:=h3
 obtain⟨g',off,cs,fr,e,hg',_⟩:=hc 0 (List.length_pos_iff.2 hb)
 subst e
 have:g'=g:=by simpa[Value.ownBlock]using hg
 exact this ▸ (gsi.1 hg').1
theorem waiting0 (F:Nat→Prop) (d:Nat) (size:Int) (bs:List Int) (w:World) (h:DkAt F w d size bs):Calls prog 302 #[Qp d] w fun e w'=>e=.returned (.int .i64 0)∧w=w':=by
 obtain⟨ao,cap,c0,c1,c2,_,_⟩:=h.cells
 clear h
 go_enter func302,ntmps302
 go_wp2_with fail
 go_loopw [2,12] (fun s i wr=>s=.int .i64 0∧i=.int .i64 0∧w=wr) (fun _ _ _=>0)
 case atStart=>exact⟨rfl,rfl,rfl⟩
 case round=>
  obtain⟨rfl,rfl,rfl⟩:=hrel
  go_wp2_with fail
  go_ret
  exact⟨rfl,rfl⟩
theorem after0 (F:Nat→Prop) (d:Nat) (size n:Int) (bs:List Int) (w:World) (h:DkAt F w d size bs) (hl:bs.length≤1000000):Calls prog 147 #[Qp d,.int .i64 n] w fun e w'=>∃v',e=.returned v'∧OwnB w.heap.size w' v' bs∧Below w.heap.size w w':=by
 obtain⟨ao,cap,c0,c1,c2,_,hb⟩:=h.cells
 have HC:=zA (xI _ _ w hb lD)
 have HH:=zA (fun W (hW:Below w.heap.size w W)=>(h.below hW).cells)
 have hd:=h.lt
 clear h hb
 go_enter func147,ntmps147
 go_wp2_with fail
 refine HC.out.mono ?_
 rintro e w1 ⟨v1,rfl,O1,b1⟩
 have c3:=(b1.cell (p:=⟨d,2,none⟩) hd).trans c2
 have HO:=zA O1
 have HB:=zA b1
 clear O1 b1 HC HH c0 c1 c2
 go_wp2_with fail
 go_loopw [1,5,19] (fun m x i wr=>m=.int .i64 n∧x=v1∧i=.int .i64 0∧w1=wr) (fun _ _ _ _=>0)
 case atStart=>exact⟨rfl,rfl,rfl,rfl⟩
 case round=>
  obtain⟨rfl,rfl,rfl,rfl⟩:=hrel
  go_wp2_with fail
  go_ret
  exact⟨_,rfl,HO.out,HB.out⟩
theorem read0 (F:Nat→Prop) (d:Nat) (size:Int) (bs:List Int) (w:World) (h:DkAt F w d size bs) (hl:bs.length≤1000000):Calls prog 234 #[Qp d] w fun e w'=>∃v',e=.returned v'∧OwnB w.heap.size w' v' bs∧Below w.heap.size w w':=by
 have HW:=zA (waiting0 F d size bs w h)
 have HA:=zA (after0 F d size 0 bs w h hl)
 clear h
 go_enter func234,ntmps234
 go_wp2_with fail
 refine HW.out.mono ?_
 rintro e w' ⟨rfl,rfl⟩
 go_wp2_with fail
 refine HA.out.mono ?_
 rintro e w1 ⟨v1,rfl,O1,b1⟩
 go_wp2_with fail
 go_ret
 exact⟨_,rfl,O1,b1⟩
theorem room0 (F:Nat→Prop) (d:Nat) (size:Int) (bs:List Int) (w:World) (h:DkAt F w d size bs) (hl:bs.length≤1000000) (hs:0≤size) (hs':size≤16384):Calls prog 144 #[Qp d] w fun e w'=>e=.returned (.int .i64 (size - bs.length))∧Below w.heap.size w w':=by
 obtain⟨ao,cap,c0,c1,c2,_,hb⟩:=h.cells
 have HR:=zA (read0 F d size bs w.drew (h.below (Below.refl _ w).drew) hl)
 have hd:=h.lt
 have k1 : -9223372036854775808≤size - (bs.length:Int):=by omega
 have k2:size - (bs.length:Int)≤9223372036854775807:=by omega
 have HK:=zA (show IntKind.i64.wrap (size - (bs.length:Int))=size - (bs.length:Int)from by simp[IntKind.wrap,IntKind.bits,IntKind.signed];omega)
 clear h hb c1 c2
 go_enter func144,ntmps144
 go_wp2_with fail
 refine zD (fun w'=>w'.cell? ⟨d,0,none⟩=some (.int .i64 size)) 99 lE c0 (fun qB=>?_)
 refine tkd 0 5 rfl ?_
 refine tkd 1 6 rfl ?_
 refine tkd 2 7 rfl ?_
 refine tkd 3 8 rfl ?_
 refine tkd 4 9 rfl ?_
 refine t1 5 rfl (fun K hK=>?_)
 go_simp
 refine HR.out.mono ?_
 rintro e w1 ⟨v1,rfl,O1,b1⟩
 obtain⟨ao1,cp1,hv1⟩:=O1.form
 subst hv1
 have HB:=zA ((Below.refl w.heap.size w).drew.trans b1)
 have c3:=(b1.cell (p:=⟨d,0,none⟩) hd).trans qB
 clear O1 b1
 refine hK.out _ _ (fun _=>c3) (fun _=>?_)
 clear hK K
 try simp only[zP]
 refine t1 6 rfl (fun K hK=>?_)
 go_simp
 refine hK.out _ _ (fun _=>c3) (fun _=>?_)
 clear hK K
 try simp only[zP]
 refine t1 7 rfl (fun K hK=>?_)
 go_simp
 refine hK.out _ _ (fun _=>c3) (fun _=>?_)
 clear hK K
 try simp only[zP]
 refine t1 8 rfl (fun K hK=>?_)
 go_simp
 refine hK.out _ _ (fun _=>c3) (fun _=>?_)
 clear hK K
 try simp only[zP]
 refine wd ?_
 go_wp2_with fail
 go_ret
 exact⟨congrArg (fun x=>Ending.returned (.int .i64 x)) HK.out,HB.out⟩
theorem DkW.cells {w:World} {d:Nat} {size:Int} {bs ys:List Int} (h:DkW w d size bs ys):∃ao cap g cp o ya yc,w.cell? ⟨d,0,none⟩=some (.int .i64 size)∧w.cell? ⟨d,1,none⟩=some (.slice ao bs.length cap)∧w.cell? ⟨d,2,none⟩=some (.slice (some ⟨g,0,none⟩) 1 cp)∧(∀j,w.frozen? ⟨d,j,none⟩=false)∧BytesC w (.slice ao bs.length cap) bs∧
  w.cell? ⟨g,0,none⟩=some (.int .i64 ys.length)∧w.cell? ⟨g,1,none⟩=some (.func (.func 146) #[] #[Qp o])∧w.cell? ⟨o,0,none⟩=some (.slice ya ys.length yc)∧Bs w (.slice ya ys.length yc) ys∧d<w.heap.size∧g<w.heap.size∧o<w.heap.size:=by
 obtain⟨v,g,cap,o,cs,vo,h1,h2,h3,h4,h5,h6,h7⟩:=h
 obtain⟨ao,cp,rfl⟩:=h2.toC.form
 obtain⟨ya,yc,rfl⟩:=h7.1.toC.form
 exact⟨ao,cp,g,cap,o,ya,yc,h1.cell (i:=0) lF,h1.cell (i:=1) lF,h1.cell (i:=2) lF,h1.frozen,h2.toC,zE h3 h4,zE h3 h5,zE h6 rfl,h7,h1.lt,(gsi.1 h3).1,(gsi.1 h6).1⟩
theorem waiting1 (d:Nat) (size:Int) (bs ys:List Int) (w:World) (h:DkW w d size bs ys) (hy:ys.length≤1000000):Calls prog 302 #[Qp d] w fun e w'=>e=.returned (.int .i64 ys.length)∧Below w.heap.size w w':=by
 obtain⟨ao,cap,g,cp,o,ya,yc,c0,c1,c2,_,_,c3,c4,_,_,hd,hg,_⟩:=h.cells
 clear h
 have HX:=zA (fun x=>bn w x)
 have hsf:∀(a:Addr) (f:Fn) (x y:Array Value) (W:World),(store a (.func f x y)).run prog W=stored prog W a (.func f x y) .plain:=fun a f x y W=>run_store _ _ _ _ _ rfl
 go_enter func302,ntmps302
 go_wp2_with fail
 go_loopw [2,12] (fun s i wr=>(s=.int .i64 0∧i=.int .i64 0∧wr=w)∨(s=.int .i64 ys.length∧i=.int .i64 1∧Below w.heap.size w wr)) (fun _ i _=>1 - (intOf i).toNat)
 case atStart=>exact .inl ⟨rfl,rfl,rfl⟩
 case round=>
  rcases hrel with⟨rfl,rfl,rfl⟩ | ⟨rfl,rfl,hb⟩
  ·go_wp2_with fail
   exact⟨.inr ⟨rfl,rfl,HX.out _⟩,by simp[intOf]⟩
  ·have HB:=zA hb
   clear hb
   go_wp2_with fail
   go_ret
   exact⟨rfl,HB.out⟩
theorem append1 (o n:Nat) (v:Value) (bs ys:List Int) (base:Nat) (ya:Option Addr) (yc:Nat) (w:World) (hO:OwnB base w v bs) (hn:n=ys.length) (c0:w.cell? ⟨o,0,none⟩=some (.slice ya ys.length yc)) (hy:Bs w (.slice ya ys.length yc) ys) (hl:bs.length+ys.length≤1000000) (hb:base≤w.heap.size) :
  Calls prog 146 #[v,.int .i64 n,Qp o] w fun e w'=>∃v',e=.returned v'∧OwnB base w' v' (bs++ys)∧Below base w w':=by
 subst hn
 obtain⟨ao,cap,rfl⟩:=hO.form
 have hcap:ys.length≤yc:=by obtain⟨_,_,_,_,e,h1,_⟩:=hy;cases e;exact h1
 have hcap':(ys.length:Int)≤yc:=by omega
 have HO:=zA hO
 have HY:=zA hy.1.toC
 have HR:=zA (Below.refl base w)
 clear hO hy
 go_enter func146,ntmps146
 go_wp2_with (at_builtin;refine xF rfl (.tmp 6) (.tmp 9) rfl rfl HO.out rfl HY.out lD HR.out hb ?_;intro v3 w3 hown3 hb3 hg3)
 go_ret
 exact⟨v3,rfl,hown3,hb3⟩
theorem after1 (d:Nat) (size:Int) (bs ys:List Int) (w:World) (h:DkW w d size bs ys) (hl:bs.length+ys.length≤1000000) (h0:0<ys.length):Calls prog 147 #[Qp d,.int .i64 ys.length] w fun e w'=>∃v',e=.returned v'∧OwnB w.heap.size w' v' (bs++ys)∧Below w.heap.size w w':=by
 obtain⟨ao,cap,g,cp,o,ya,yc,c0,c1,c2,_,hb,c3,c4,c5,hy,hd,hg,ho⟩:=h.cells
 have HC:=zA (xI _ _ w hb lD)
 have HY:=zA hy
 have h0':(0:Int)<ys.length:=by omega
 clear h hb hy
 have hsf:∀(a:Addr) (f:Fn) (x y:Array Value) (W:World),(store a (.func f x y)).run prog W=stored prog W a (.func f x y) .plain:=fun a f x y W=>run_store _ _ _ _ _ rfl
 go_enter func147,ntmps147
 go_wp2_with fail
 refine HC.out.mono ?_
 rintro e w1 ⟨v1,rfl,O1,b1⟩
 have d2:=(b1.cell (p:=⟨d,2,none⟩) hd).trans c2
 have d3:=(b1.cell (p:=⟨g,0,none⟩) hg).trans c3
 have d4:=(b1.cell (p:=⟨g,1,none⟩) hg).trans c4
 have d5:=(b1.cell (p:=⟨o,0,none⟩) ho).trans c5
 have ho1:o<w1.heap.size:=Nat.lt_of_lt_of_le ho b1.size
 have HY1:=zA (HY.out.below b1)
 have HO:=zA O1
 have HB:=zA b1
 clear O1 b1 HC HY c0 c1 c2 c3 c4 c5
 have HD:=zA (And.intro d2 (And.intro d3 (And.intro d4 d5)))
 go_wp2_with fail
 go_loopw [1,5,19] (fun m x i wr=>(m=.int .i64 ys.length∧x=v1∧i=.int .i64 0∧wr=w1)∨(i=.int .i64 1∧OwnB w.heap.size wr x (bs++ys)∧Below w.heap.size w wr)) (fun _ _ i _=>1 - (intOf i).toNat)
 case atStart=>exact .inl ⟨rfl,rfl,rfl,rfl⟩
 case round=>
  rcases hrel with⟨rfl,rfl,rfl,rfl⟩ | ⟨rfl,O2,b2⟩
  ·have bX:Below wr.heap.size wr (wr.alloc (.cells #[.int .i64 ys.length,.func (.func 146) #[] #[Qp o]] 356)):=bn _ _
   have HAP:=zA (append1 o ys.length _ bs ys w.heap.size ya yc _ (HO.out.below bX) rfl ((bX.cell (p:=⟨o,0,none⟩) ho1).trans d5) (HY1.out.below bX) hl (Nat.le_trans HB.out.size bX.size))
   have HBX:=zA (HB.out.trans (bX.mono HB.out.size))
   obtain⟨ao1,cp1,hv1⟩:=HO.out.form
   subst hv1
   clear bX
   go_wp2_with fail
   refine HAP.out.mono ?_
   rintro e w5 ⟨v5,rfl,O5,b5⟩
   have HO5:=zA O5
   have HB5:=zA (HBX.out.trans b5)
   clear O5 b5 HAP
   go_wp2_with fail
   exact⟨.inr ⟨rfl,HO5.out,HB5.out⟩,by simp[intOf]⟩
  ·have HO2:=zA O2
   have HB2:=zA b2
   clear O2 b2 HO HB
   go_wp2_with fail
   go_ret
   exact⟨_,rfl,HO2.out,HB2.out⟩
end
end Go.Proofs.YtodlmbfbfaofcaaGreat
