/- TopLoads, part 36. -/
import Derived.Test.YtodlmbfbfaofcaaGreatM01
import Derived.Test.YtodlmbfbfaofcaaGreatM07
import Derived.Test.YtodlmbfbfaofcaaGreatM35
open Go.Proofs.Tryz
namespace Go.Proofs.YtodlmbfbfaofcaaGreat
set_option linter.unusedVariables false
set_option linter.unusedSimpArgs false
set_option maxRecDepth 100000
set_option maxHeartbeats 1000000
section
open Go.RowKit Rw Rh
theorem rot_up2 (f:Nat→Pl.Ev) (a k:Nat) (h:a≤k):swp (rot f a 1 (k - a)) k (k+1)=rot f a 1 (k+1 - a):=by
 have:=rot_up f a (k - a)
 rw[show a+(k - a)=k from by omega]at this
 rw[this,show k - a+1=k+1 - a from by omega]
theorem sM (f:Nat→Pl.Ev) (m p:Nat) (h:p+1≤m):swp (rot f (p+1) (m - (p+1)) 1) (p+1) p=rot f p (m - p) 1:=by
 have:=rot_down f (p+1) (m - (p+1)) (by omega)
 rw[Nat.add_sub_cancel]at this
 rw[this,show m - (p+1)+1=m - p from by omega]
theorem symone_ok (g cap n a b:Nat) (f:Nat→Pl.Ev) (w:World) (h:EvFn w g n f) (hab:a+1<b) (hb:b≤n) (hn:n≤1000) (hlt:∀j,a+1≤j→j<b→(f a).seq<(f j).seq) :
  Calls prog 367 #[.slice (some ⟨g,0,none⟩) n cap,.int .i64 a,.int .i64 ((a:Int)+1),.int .i64 b,(Qm 261)] w fun r w'=>r=.returned (.tuple #[])∧EvFn w' g n (rot f a 1 (b - a - 1))∧Off (· = g) w w':=by
 have H:=zA h
 have HAB:=zA hab
 have HBN:=zA hb
 have HN:=zA hn
 have HLT:=zA hlt
 have g0:(((a:Int)+1 - a) == 1)=true:=by simp;omega
 have g1:IntKind.i64.wrap ((a:Int)+1 - a)=1:=by rw[IntKind.wrap_i64];omega
 clear h hab hb hn hlt
 go_enter func367,ntmps367
 go_wp2_with fail
 go_loopw [10,11] (fun i j wr=>∃(p:Nat),a+1≤p∧p≤b∧i=.int .i64 p∧j=.int .i64 b∧EvFn wr g n f∧Below w.heap.size w wr) (fun i j _=>b - (intOf i).toNat)
 case atStart=>exact⟨a+1,by omega,by have:=HAB.out;omega,rfl,rfl,H.out,Below.refl _ _⟩
 case round=>
  obtain⟨p,hp,hpb,rfl,rfl,hr,hbl⟩:=hrel
  have HR:=zA hr
  have HBL:=zA hbl
  have HP:=zA hp
  have HPB:=zA hpb
  clear hr hbl hp hpb g0 g1
  by_cases hlt:p<b
  ·have:=HBN.out
   have:=HN.out
   obtain⟨c,hc⟩:∃c:Nat,c=(p+b) / 2:=⟨_,rfl⟩
   have w1:IntKind.i64.wrap ((p:Int)+b)=(p:Int)+b:=by rw[IntKind.wrap_i64];omega
   have w2:IntKind.u64.wrap ((p:Int)+b)=(p:Int)+b:=by rw[IntKind.wrap_u64];omega
   have w3:((p:Int)+b) / 2=(c:Int):=by omega
   have w5:(c:Int)≤9223372036854775807:=by omega
   have HC1:=zA (show p≤c by omega)
   have HC2:=zA (show c<b by omega)
   clear hc
   have HPL:=zA hlt
   clear hlt
   go_wp2_with fail
   clear w1 w2 w3 w5
   have HI:=zA (show c<n by have:=HC2.out;have:=HBN.out;omega)
   have HJ:=zA (show a<n by have:=HAB.out;have:=HBN.out;omega)
   have HGT:=zA (HLT.out c (by have:=HC1.out;have:=HP.out;omega) HC2.out)
   have x1:(c:Int)<n:=by have:=HI.out;omega
   have x2:(a:Int)<n:=by have:=HJ.out;omega
   refine zD (fun W=>EvFn W g n f) 99 (by kernel_rfl) (HR.out.keep rfl) (fun rV=>?_)
   have HBR:=zA (show Below wr.heap.size wr wr.drew from(Below.refl _ _).drew)
   refine tkp 0 40 rfl ?_
   refine tkp 1 41 rfl ?_
   refine tkp 2 42 rfl ?_
   refine tkp 3 43 rfl ?_
   refine tk 4 44 rfl (by intro wS hSw;obtain⟨y0,y1,y2,y3,y4,y5,y6,y7,y8,y9,y10,y11,y12,y13⟩:=yX hSw (i:=c) HI.out;clear hSw;go_simp;(try with_reducible rfl)) ?_
   refine tkp 5 45 rfl ?_
   refine tkp 6 46 rfl ?_
   refine tkp 7 47 rfl ?_
   refine tk 8 48 rfl (by intro wS hSw;obtain⟨y0,y1,y2,y3,y4,y5,y6,y7,y8,y9,y10,y11,y12,y13⟩:=yX hSw (i:=a) HJ.out;clear hSw;go_simp;(try with_reducible rfl)) ?_
   clear rV
   refine t1 9 rfl (fun K hK=>?_)
   go_simp
   refine(vF (f (c)) (f (a)) wr.drew HGT.out).mono ?_
   rintro x wc ⟨rfl,hbc⟩
   have HRC:=zA ((HR.out.keep (w':=wr.drew) rfl).below hbc)
   have HBC:=zA (HBR.out.trans hbc)
   clear hbc
   refine hK.out _ _ (fun _=>HRC.out) (fun _=>?_)
   clear hK K
   try simp only[zN]
   refine t1 10 rfl (fun K hK=>?_)
   go_simp
   refine hK.out _ _ (fun _=>HRC.out) (fun _=>?_)
   clear hK K
   try simp only[zN]
   refine wd ?_
   clear HBR
   clear x1 x2
   have w4:IntKind.i64.wrap ((c:Int)+1)=(c:Int)+1:=by rw[IntKind.wrap_i64];have:=HI.out;have:=HN.out;omega
   go_wp2_with fail
   refine⟨⟨c+1,by have:=HC1.out;have:=HP.out;omega,HC2.out,rfl,rfl,HRC.out,HBL.out.trans (HBC.out.mono HBL.out.size)⟩,by simp[intOf];have:=HC1.out;have:=HPL.out;omega⟩
  ·obtain rfl:p=b:=by have:=HPB.out;omega
   clear hlt HPB
   go_wp2_with fail
   go_loopw [13] (fun i wr=>∃(k:Nat),a≤k∧k+1≤p∧i=.int .i64 k∧EvFn wr g n (rot f a 1 (k - a))∧Off (· = g) w wr) (fun i _=>p - (intOf i).toNat)
   case atStart=>exact⟨a,Nat.le_refl _,by have:=HAB.out;omega,rfl,by rw[Nat.sub_self,rot_none];exact HR.out,Off.of_below HBL.out⟩
   case round=>
    clear HBL HR
    obtain⟨k,hk,hkp,rfl,hr,ho⟩:=hrel
    have HR:=zA hr
    have HO:=zA ho
    have HK:=zA hk
    have HKP:=zA hkp
    have w1:IntKind.i64.wrap ((p:Int) - 1)=((p - 1:Nat):Int):=by rw[IntKind.wrap_i64];have:=HBN.out;have:=HN.out;omega
    clear hr ho hk hkp
    by_cases hlt:k<p - 1
    ·have HKL:=zA hlt
     have b1:IntKind.i64.wrap ((k:Int)+1)=(k:Int)+1:=by rw[IntKind.wrap_i64];have:=HBN.out;have:=HN.out;omega
     go_wp2_with fail
     clear w1 hlt
     have a5:((k:Int)+1).toNat=k+1:=by omega
     have a6:(k:Int)<n:=by have:=HBN.out;have:=HKP.out;omega
     have a7:(k:Int)+1<n:=by have:=HBN.out;have:=HKL.out;omega
     have a9:(0:Int)≤(k:Int)+1:=by omega
     have HI:=zA (show k<n by omega)
     have HJ:=zA (show k+1<n by omega)
     have HNE:=zA (show k≠k+1 by omega)
     obtain⟨F,hFF⟩:∃F,F=rot f a 1 (k - a):=⟨_,rfl⟩
     rw[←hFF]at HR
     have HFF:=zA hFF
     clear hFF
     refine wD (fun W=>EvFn W g n F) (fun i=> !(i == 15||i == 17)) (by kernel_rfl) (HR.out.keep rfl) (fun rV=>?_)
     have HOd:=zA (show Off (· = g) w wr.drew from⟨HO.out.size,HO.out.same,HO.out.rest⟩)
     clear HR HO
     generalize wr.drew=Wd at *
     refine tf 0 61 rfl ?_
     refine tf 1 62 rfl ?_
     refine tf 2 63 rfl ?_
     refine tf 3 64 rfl ?_
     refine tf 4 65 rfl ?_
     refine tf 5 66 rfl ?_
     refine tf 6 67 rfl ?_
     refine tf 7 68 rfl ?_
     refine tf 8 69 rfl ?_
     refine tkk 9 70 rfl (by intro wS hSw;obtain⟨y0,y1,y2,y3,y4,y5,y6,y7,y8,y9,y10,y11,y12,y13⟩:=yX hSw (i:=(k+1)) HJ.out;clear hSw;go_simp;(try with_reducible rfl)) ?_
     refine tf 10 71 rfl ?_
     refine tf 11 72 rfl ?_
     refine tf 12 73 rfl ?_
     refine tkk 13 74 rfl (by intro wS hSw;obtain⟨y0,y1,y2,y3,y4,y5,y6,y7,y8,y9,y10,y11,y12,y13⟩:=yX hSw (i:=k) HI.out;clear hSw;go_simp;(try with_reducible rfl)) ?_
     refine tf 14 75 rfl ?_
     obtain⟨y0,y1,y2,y3,y4,y5,y6,y7,y8,y9,y10,y11,y12,y13⟩:=yX rV (i:=k) HI.out
     have fz:=EvFn.frozen rV
     refine xI (i:=15) (by kernel_rfl) rfl (fun K hK=>?_)
     go_simp
     refine hK.out _ _ (fun h=>absurd h (by decide)) (fun _=>?_)
     clear hK K
     try simp only[zN]
     have hz1:=EvFn.put rV (i:=k) HI.out (F (k+1))
     have hst:Wd.setCells g (k*14) (kEv.enc (F (k+1)))=(Qhe Wd g (k*14) ((F (k+1))):World):=rfl
     have ho1:=Off.setCells HOd.out g (k*14) (kEv.enc (F (k+1))) rfl
     rw[hst]at hz1 ho1
     clear hst rV y0 y1 y2 y3 y4 y5 y6 y7 y8 y9 y10 y11 y12 y13 fz
     generalize (Qhe Wd g (k*14) ((F (k+1))):World)=Z1 at *
     have HZ1:=zA hz1
     have HO1:=zA ho1
     clear hz1 ho1
     refine xI (i:=16) (by kernel_rfl) rfl (fun K hK=>?_)
     go_simp
     refine hK.out _ _ (fun _ h=>h) (fun _=>?_)
     clear hK K
     try simp only[zN]
     obtain⟨y0,y1,y2,y3,y4,y5,y6,y7,y8,y9,y10,y11,y12,y13⟩:=yX HZ1.out (i:=(k+1)) HJ.out
     have fz:=EvFn.frozen HZ1.out
     refine xI (i:=17) (by kernel_rfl) rfl (fun K hK=>?_)
     go_simp
     refine hK.out _ _ (fun h=>absurd h (by decide)) (fun _=>?_)
     clear hK K
     try simp only[zN]
     have hz2:=EvFn.put HZ1.out (i:=(k+1)) HJ.out (F k)
     have hst:Z1.setCells g ((k+1)*14) (kEv.enc (F k))=(Qhe Z1 g ((k+1)*14) (F k):World):=rfl
     have ho2:=Off.setCells HO1.out g ((k+1)*14) (kEv.enc (F k)) rfl
     rw[hst]at hz2 ho2
     rw[wG _ _ _ HNE.out]at hz2
     clear hst y0 y1 y2 y3 y4 y5 y6 y7 y8 y9 y10 y11 y12 y13 fz
     generalize (Qhe Z1 g ((k+1)*14) (F k):World)=Z2 at *
     have HZ2:=zA hz2
     have HO2:=zA ho2
     clear hz2 ho2
     refine vX (by kernel_rfl) ?_ _
     go_wp2_with fail
     refine⟨⟨k+1,by have:=HK.out;omega,by have:=HKL.out;omega,rfl,?_,HO2.out⟩,by simp[intOf];have:=HKL.out;omega⟩
     rw[←rot_up2 f a k HK.out,←HFF.out]
     exact HZ2.out
    ·obtain rfl:k=p - 1:=by have:=HKP.out;omega
     clear hlt
     go_wp2_with fail
     refine bodyPost_ret (v:=.tuple #[]) (by simp[results,results367,go_sem]) rfl ⟨rfl,?_,HO.out⟩
     rw[show p - a - 1=p - 1 - a from by omega]
     exact HR.out
theorem symlast_ok (g cap n a m:Nat) (f:Nat→Pl.Ev) (w:World) (h:EvFn w g n f) (hab:a+1<m) (hb:m+1≤n) (hn:n≤1000) (hlt:∀j,a≤j→j<m→(f j).seq<(f m).seq) :
  Calls prog 367 #[.slice (some ⟨g,0,none⟩) n cap,.int .i64 a,.int .i64 m,.int .i64 ((m:Int)+1),(Qm 261)] w fun r w'=>r=.returned (.tuple #[])∧EvFn w' g n (rot f a (m - a) 1)∧Off (· = g) w w':=by
 have H:=zA h
 have HAB:=zA hab
 have HBN:=zA hb
 have HN:=zA hn
 have HLT:=zA hlt
 have g1:IntKind.i64.wrap ((m:Int) - a)=((m - a:Nat):Int):=by rw[IntKind.wrap_i64];omega
 have g0:(((m - a:Nat):Int) == 1)=false:=by simp;omega
 have g3:IntKind.i64.wrap ((m:Int)+1 - m)=1:=by rw[IntKind.wrap_i64];omega
 clear h hab hb hn hlt
 go_enter func367,ntmps367
 go_wp2_with fail
 go_loopw [14,15] (fun i j wr=>∃(p:Nat),a≤p∧p≤m∧i=.int .i64 a∧j=.int .i64 p∧EvFn wr g n f∧Below w.heap.size w wr) (fun i j _=>(intOf j).toNat)
 case atStart=>exact⟨m,by have:=HAB.out;omega,Nat.le_refl _,rfl,rfl,H.out,Below.refl _ _⟩
 case round=>
  obtain⟨p,hp,hpb,rfl,rfl,hr,hbl⟩:=hrel
  have HR:=zA hr
  have HBL:=zA hbl
  have HP:=zA hp
  have HPB:=zA hpb
  clear hr hbl hp hpb g0 g1 g3
  by_cases hlt:a<p
  ·have:=HBN.out
   have:=HN.out
   have:=HPB.out
   obtain⟨c,hc⟩:∃c:Nat,c=(a+p) / 2:=⟨_,rfl⟩
   have w1:IntKind.i64.wrap ((a:Int)+p)=(a:Int)+p:=by rw[IntKind.wrap_i64];omega
   have w2:IntKind.u64.wrap ((a:Int)+p)=(a:Int)+p:=by rw[IntKind.wrap_u64];omega
   have w3:((a:Int)+p) / 2=(c:Int):=by omega
   have w5:(c:Int)≤9223372036854775807:=by omega
   have HC1:=zA (show a≤c by omega)
   have HC2:=zA (show c<p by omega)
   clear hc
   have HPL:=zA hlt
   clear hlt
   go_wp2_with fail
   clear w1 w2 w3 w5
   have HI:=zA (show m<n by omega)
   have HJ:=zA (show c<n by have:=HC2.out;omega)
   have HGT:=zA (HLT.out c HC1.out (by have:=HC2.out;omega))
   have x1:(m:Int)<n:=by have:=HI.out;omega
   have x2:(c:Int)<n:=by have:=HJ.out;omega
   refine zD (fun W=>EvFn W g n f) 99 (by kernel_rfl) (HR.out.keep rfl) (fun rV=>?_)
   have HBR:=zA (show Below wr.heap.size wr wr.drew from(Below.refl _ _).drew)
   refine tkp 0 92 rfl ?_
   refine tkp 1 93 rfl ?_
   refine tkp 2 94 rfl ?_
   refine tkp 3 95 rfl ?_
   refine tk 4 96 rfl (by intro wS hSw;obtain⟨y0,y1,y2,y3,y4,y5,y6,y7,y8,y9,y10,y11,y12,y13⟩:=yX hSw (i:=m) HI.out;clear hSw;go_simp;(try with_reducible rfl)) ?_
   refine tkp 5 97 rfl ?_
   refine tkp 6 98 rfl ?_
   refine tkp 7 99 rfl ?_
   refine tk 8 100 rfl (by intro wS hSw;obtain⟨y0,y1,y2,y3,y4,y5,y6,y7,y8,y9,y10,y11,y12,y13⟩:=yX hSw (i:=c) HJ.out;clear hSw;go_simp;(try with_reducible rfl)) ?_
   clear rV
   refine t1 9 rfl (fun K hK=>?_)
   go_simp
   refine(vF (f (m)) (f (c)) wr.drew HGT.out).mono ?_
   rintro x wc ⟨rfl,hbc⟩
   have HRC:=zA ((HR.out.keep (w':=wr.drew) rfl).below hbc)
   have HBC:=zA (HBR.out.trans hbc)
   clear hbc
   refine hK.out _ _ (fun _=>HRC.out) (fun _=>?_)
   clear hK K
   try simp only[zN]
   refine t1 10 rfl (fun K hK=>?_)
   go_simp
   refine hK.out _ _ (fun _=>HRC.out) (fun _=>?_)
   clear hK K
   try simp only[zN]
   refine t1 11 rfl (fun K hK=>?_)
   go_simp
   refine hK.out _ _ (fun _=>HRC.out) (fun _=>?_)
   clear hK K
   try simp only[zN]
   refine wd ?_
   clear HBR
   clear x1 x2
   go_wp2_with fail
   refine⟨⟨c,HC1.out,by have:=HC2.out;omega,rfl,rfl,HRC.out,HBL.out.trans (HBC.out.mono HBL.out.size)⟩,by simp[intOf];have:=HC2.out;omega⟩
  ·obtain rfl:a=p:=by have:=HP.out;omega
   clear hlt HP HPB
   go_wp2_with fail
   go_loopw [17] (fun i wr=>∃(k:Nat),a≤k∧k≤m∧i=.int .i64 k∧EvFn wr g n (rot f k (m - k) 1)∧Off (· = g) w wr) (fun i _=>(intOf i).toNat)
   case atStart=>exact⟨m,by have:=HAB.out;omega,Nat.le_refl _,rfl,by rw[Nat.sub_self,sL];exact HR.out,Off.of_below HBL.out⟩
   case round=>
    clear HBL HR
    obtain⟨k,hk,hkp,rfl,hr,ho⟩:=hrel
    have HR:=zA hr
    have HO:=zA ho
    have HK:=zA hk
    have HKP:=zA hkp
    clear hr ho hk hkp
    by_cases hlt:a<k
    ·obtain⟨p,rfl⟩:∃p,k=p+1:=⟨k - 1,by omega⟩
     have b1:IntKind.i64.wrap (p:Int)=(p:Int):=by rw[IntKind.wrap_i64];have:=HBN.out;have:=HN.out;have:=HKP.out;omega
     have b2:(a:Int)<(p:Int)+1:=by omega
     have HKL:=zA hlt
     go_wp2_with fail
     clear hlt b2
     have a5:((p:Int)+1).toNat=p+1:=by omega
     have a6:(p:Int)<n:=by have:=HBN.out;have:=HKP.out;omega
     have a7:(p:Int)+1<n:=by have:=HBN.out;have:=HKP.out;omega
     have a9:(0:Int)≤(p:Int)+1:=by omega
     have HI:=zA (show p+1<n by omega)
     have HJ:=zA (show p<n by omega)
     have HNE:=zA (show p+1≠p by omega)
     obtain⟨F,hFF⟩:∃F,F=rot f (p+1) (m - (p+1)) 1:=⟨_,rfl⟩
     rw[←hFF]at HR
     have HFF:=zA hFF
     clear hFF
     refine wD (fun W=>EvFn W g n F) (fun i=> !(i == 15||i == 17)) (by kernel_rfl) (HR.out.keep rfl) (fun rV=>?_)
     have HOd:=zA (show Off (· = g) w wr.drew from⟨HO.out.size,HO.out.same,HO.out.rest⟩)
     clear HR HO
     generalize wr.drew=Wd at *
     refine tf 0 113 rfl ?_
     refine tf 1 114 rfl ?_
     refine tf 2 115 rfl ?_
     refine tf 3 116 rfl ?_
     refine tf 4 117 rfl ?_
     refine tf 5 118 rfl ?_
     refine tf 6 119 rfl ?_
     refine tf 7 120 rfl ?_
     refine tf 8 121 rfl ?_
     refine tkk 9 122 rfl (by intro wS hSw;obtain⟨y0,y1,y2,y3,y4,y5,y6,y7,y8,y9,y10,y11,y12,y13⟩:=yX hSw (i:=p) HJ.out;clear hSw;go_simp;(try with_reducible rfl)) ?_
     refine tf 10 123 rfl ?_
     refine tf 11 124 rfl ?_
     refine tf 12 125 rfl ?_
     refine tkk 13 126 rfl (by intro wS hSw;obtain⟨y0,y1,y2,y3,y4,y5,y6,y7,y8,y9,y10,y11,y12,y13⟩:=yX hSw (i:=(p+1)) HI.out;clear hSw;go_simp;(try with_reducible rfl)) ?_
     refine tf 14 127 rfl ?_
     obtain⟨y0,y1,y2,y3,y4,y5,y6,y7,y8,y9,y10,y11,y12,y13⟩:=yX rV (i:=(p+1)) HI.out
     have fz:=EvFn.frozen rV
     refine xI (i:=15) (by kernel_rfl) rfl (fun K hK=>?_)
     go_simp
     refine hK.out _ _ (fun h=>absurd h (by decide)) (fun _=>?_)
     clear hK K
     try simp only[zN]
     have hz1:=EvFn.put rV (i:=(p+1)) HI.out (F p)
     have hst:Wd.setCells g ((p+1)*14) (kEv.enc (F p))=(Qhe Wd g ((p+1)*14) (F p):World):=rfl
     have ho1:=Off.setCells HOd.out g ((p+1)*14) (kEv.enc (F p)) rfl
     rw[hst]at hz1 ho1
     clear hst rV y0 y1 y2 y3 y4 y5 y6 y7 y8 y9 y10 y11 y12 y13 fz
     generalize (Qhe Wd g ((p+1)*14) (F p):World)=Z1 at *
     have HZ1:=zA hz1
     have HO1:=zA ho1
     clear hz1 ho1
     refine xI (i:=16) (by kernel_rfl) rfl (fun K hK=>?_)
     go_simp
     refine hK.out _ _ (fun _ h=>h) (fun _=>?_)
     clear hK K
     try simp only[zN]
     obtain⟨y0,y1,y2,y3,y4,y5,y6,y7,y8,y9,y10,y11,y12,y13⟩:=yX HZ1.out (i:=p) HJ.out
     have fz:=EvFn.frozen HZ1.out
     refine xI (i:=17) (by kernel_rfl) rfl (fun K hK=>?_)
     go_simp
     refine hK.out _ _ (fun h=>absurd h (by decide)) (fun _=>?_)
     clear hK K
     try simp only[zN]
     have hz2:=EvFn.put HZ1.out (i:=p) HJ.out (F (p+1))
     have hst:Z1.setCells g (p*14) (kEv.enc (F (p+1)))=(Qhe Z1 g (p*14) ((F (p+1))):World):=rfl
     have ho2:=Off.setCells HO1.out g (p*14) (kEv.enc (F (p+1))) rfl
     rw[hst]at hz2 ho2
     rw[wG _ _ _ HNE.out]at hz2
     clear hst y0 y1 y2 y3 y4 y5 y6 y7 y8 y9 y10 y11 y12 y13 fz
     generalize (Qhe Z1 g (p*14) ((F (p+1))):World)=Z2 at *
     have HZ2:=zA hz2
     have HO2:=zA ho2
     clear hz2 ho2
     refine vX (by kernel_rfl) ?_ _
     go_wp2_with fail
     refine⟨⟨p,by have:=HKL.out;omega,by have:=HKP.out;omega,rfl,?_,HO2.out⟩,by simp[intOf]⟩
     rw[←sM f m p HKP.out,←HFF.out]
     exact HZ2.out
    ·obtain rfl:a=k:=by have:=HK.out;omega
     clear hlt
     go_wp2_with fail
     exact bodyPost_ret (v:=.tuple #[]) (by simp[results,results367,go_sem]) rfl ⟨rfl,HR.out,HO.out⟩
end
end Go.Proofs.YtodlmbfbfaofcaaGreat
