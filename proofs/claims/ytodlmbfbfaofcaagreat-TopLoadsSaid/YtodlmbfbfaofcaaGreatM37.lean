/- TopLoads, part 37. -/
import Derived.Test.YtodlmbfbfaofcaaGreatM01
import Derived.Test.YtodlmbfbfaofcaaGreatM07
import Derived.Test.YtodlmbfbfaofcaaGreatM35
import Derived.Test.YtodlmbfbfaofcaaGreatM36
open Go.Proofs.Tryz
namespace Go.Proofs.YtodlmbfbfaofcaaGreat
set_option linter.unusedVariables false
set_option linter.unusedSimpArgs false
set_option maxRecDepth 100000
set_option maxHeartbeats 1000000
section
open Go.RowKit Rw Rh
def SymMerges (N:Nat):Prop:=∀(g cap n a m b:Nat) (f:Nat→Pl.Ev) (w:World),b - a≤N→EvFn w g n f→a<m→m<b→b≤n→n≤1000→(∀i j,a≤i→i<m→m≤j→j<b→(f i).seq<(f j).seq)→
  Calls prog 367 #[.slice (some ⟨g,0,none⟩) n cap,.int .i64 a,.int .i64 m,.int .i64 b,(Qm 261)] w fun r w'=>r=.returned (.tuple #[])∧EvFn w' g n (rot f a (m - a) (b - m))∧Off (· = g) w w'
theorem symlow_ok (N g cap n a m b:Nat) (f:Nat→Pl.Ev) (w:World) (ih:SymMerges N) (mid:Nat) (hmid:mid=(a+b) / 2) (hcase:m≤mid) (hsz:b - a≤N+1) (h:EvFn w g n f) (ha:a+1<m) (hb2:m+1<b) (hb:b≤n) (hn:n≤1000) (hlt:∀i j,a≤i→i<m→m≤j→j<b→(f i).seq<(f j).seq) :
  Calls prog 367 #[.slice (some ⟨g,0,none⟩) n cap,.int .i64 a,.int .i64 m,.int .i64 b,(Qm 261)] w fun r w'=>r=.returned (.tuple #[])∧EvFn w' g n (rot f a (m - a) (b - m))∧Off (· = g) w w':=by
 have IH:=zA ih
 have HSZ:=zA hsz
 have H:=zA h
 have HAM:=zA (show a<m by omega)
 have HMB:=zA (show m<b by omega)
 have HBIG:=zA (show a+4≤b by omega)
 have HBN:=zA hb
 have HN:=zA hn
 have HLT:=zA hlt
 have g1:IntKind.i64.wrap ((m:Int) - a)=((m - a:Nat):Int):=by rw[IntKind.wrap_i64];omega
 have g0:(((m - a:Nat):Int) == 1)=false:=by simp;omega
 have g3:IntKind.i64.wrap ((b:Int) - m)=((b - m:Nat):Int):=by rw[IntKind.wrap_i64];omega
 have g2:(((b - m:Nat):Int) == 1)=false:=by simp;omega
 have w1:IntKind.i64.wrap ((a:Int)+b)=(a:Int)+b:=by rw[IntKind.wrap_i64];omega
 have w2:IntKind.u64.wrap ((a:Int)+b)=(a:Int)+b:=by rw[IntKind.wrap_u64];omega
 have w3:((a:Int)+b) / 2=(mid:Int):=by omega
 have w5:(mid:Int)≤9223372036854775807:=by omega
 have w8:IntKind.i64.wrap ((mid:Int)+m)=(mid:Int)+m:=by rw[IntKind.wrap_i64];omega
 obtain⟨pp,hpp⟩:∃pp:Nat,pp+1=mid+m:=⟨mid+m - 1,by omega⟩
 have w9:IntKind.i64.wrap ((mid:Int)+m - 1)=(pp:Int):=by rw[IntKind.wrap_i64];omega
 have h1:=hb
 have h2:=hn
 clear h hsz hlt ih hn
 have hm:=hcase
 go_enter func367,ntmps367
 have g4:¬(mid:Int)<m:=by omega
 obtain⟨e,he⟩:∃e:Nat,e=mid+m - a:=⟨_,rfl⟩
 have HE:=zA he
 have w7:(mid:Int)+m - a=(e:Int):=by omega
 have w7b:(e:Int)≤9223372036854775807:=by omega
 have HR0:=zA (show a<m from HAM.out)
 have g5:(m:Int)<e:=by omega
 have g6:(mid:Int)<e:=by omega
 have g7:(a:Int)<m:=by omega
 have HME:=zA (show m<e by omega)
 have HEB:=zA (show e≤b by omega)
 have HSEQ:=zA (show ∀c,a≤c→c<m→(f c).seq<(f (pp - c)).seq from fun c h1 h2=>HLT.out c (pp - c) h1 h2 (by omega) (by omega))
 have HPC:=zA (show ∀c,a≤c→c<m→c≤pp∧pp - c<n∧c<n from fun c h1 h2=>by omega)
 have HPP:=zA hpp
 have pN:=zA hmid
 clear hm ha hb2 hmid hpp h1 h2 he hcase
 go_wp2_with fail
 go_loopw [20,21] (fun i j wr=>∃(q:Nat),a≤q∧q≤m∧i=.int .i64 a∧j=.int .i64 q∧EvFn wr g n f∧Below w.heap.size w wr) (fun i j _=>(intOf j).toNat)
 case atStart=>exact⟨m,Nat.le_of_lt HR0.out,Nat.le_refl _,rfl,rfl,H.out,Below.refl _ _⟩
 case round=>
  obtain⟨q,hq1,hq2,rfl,rfl,hr,hbl⟩:=hrel
  have HR:=zA hr
  have HBL:=zA hbl
  have HP:=zA hq1
  have HPB:=zA hq2
  clear hr hbl hq1 hq2
  by_cases hlt:a<q
  ·clear g4 g5 g6 g7 w7 w7b
   have:=HBN.out
   have:=HN.out
   have:=(HPC.out a (Nat.le_refl _) HR0.out).2.2
   have:=HPB.out
   have:=HMB.out
   have:=HAM.out
   have hmn:=pN.out
   obtain⟨c,hc⟩:∃c:Nat,c=(a+q) / 2:=⟨_,rfl⟩
   have w1:IntKind.i64.wrap ((a:Int)+q)=(a:Int)+q:=by rw[IntKind.wrap_i64];omega
   have w2:IntKind.u64.wrap ((a:Int)+q)=(a:Int)+q:=by rw[IntKind.wrap_u64];omega
   have w3:((a:Int)+q) / 2=(c:Int):=by omega
   have w5:(c:Int)≤9223372036854775807:=by omega
   have HC1:=zA (show a≤c by omega)
   have HC2:=zA (show c<q by omega)
   clear hc
   have hx:=HPC.out c HC1.out (by have:=HC2.out;omega)
   have HI:=zA hx.2.1
   have HJ:=zA hx.2.2
   have HGT:=zA (HSEQ.out c HC1.out (by have:=HC2.out;omega))
   have x1:((pp - c:Nat):Int)<n:=by omega
   have x2:(c:Int)<n:=by omega
   have x3:IntKind.i64.wrap ((pp:Int) - c)=((pp - c:Nat):Int):=by rw[IntKind.wrap_i64];have:=HPP.out;omega
   clear hx hmn
   go_wp2_with fail
   clear w1 w2 w3 w5 hlt
   refine zD (fun W=>EvFn W g n f) 99 (by kernel_rfl) (HR.out.keep rfl) (fun rV=>?_)
   have HBR:=zA (show Below wr.heap.size wr wr.drew from(Below.refl _ _).drew)
   refine tkp 0 158 rfl ?_
   refine tkp 1 159 rfl ?_
   refine tkp 2 160 rfl ?_
   refine tkp 3 161 rfl ?_
   refine tkp 4 162 rfl ?_
   refine tkp 5 163 rfl ?_
   refine tk 6 164 rfl (by intro wS hSw;obtain⟨y0,y1,y2,y3,y4,y5,y6,y7,y8,y9,y10,y11,y12,y13⟩:=yX hSw (i:=(pp - c)) HI.out;clear hSw;go_simp;(try with_reducible rfl)) ?_
   refine tkp 7 165 rfl ?_
   refine tkp 8 166 rfl ?_
   refine tkp 9 167 rfl ?_
   refine tk 10 168 rfl (by intro wS hSw;obtain⟨y0,y1,y2,y3,y4,y5,y6,y7,y8,y9,y10,y11,y12,y13⟩:=yX hSw (i:=c) HJ.out;clear hSw;go_simp;(try with_reducible rfl)) ?_
   clear rV
   refine t1 11 rfl (fun K hK=>?_)
   go_simp
   refine(vF (f ((pp - c))) (f (c)) wr.drew HGT.out).mono ?_
   rintro x wc ⟨rfl,hbc⟩
   have HRC:=zA ((HR.out.keep (w':=wr.drew) rfl).below hbc)
   have HBC:=zA (HBR.out.trans hbc)
   clear hbc
   refine hK.out _ _ (fun _=>HRC.out) (fun _=>?_)
   clear hK K
   try simp only[zN]
   refine t1 12 rfl (fun K hK=>?_)
   go_simp
   refine hK.out _ _ (fun _=>HRC.out) (fun _=>?_)
   clear hK K
   try simp only[zN]
   refine t1 13 rfl (fun K hK=>?_)
   go_simp
   refine hK.out _ _ (fun _=>HRC.out) (fun _=>?_)
   clear hK K
   try simp only[zN]
   refine wd ?_
   clear HBR
   clear x1 x2 x3
   go_wp2_with fail
   refine⟨⟨c,HC1.out,by have:=HC2.out;omega,rfl,rfl,HRC.out,HBL.out.trans (HBC.out.mono HBL.out.size)⟩,by simp[intOf];have:=HC2.out;omega⟩
  ·obtain rfl:a=q:=by have:=HP.out;omega
   clear hlt HP HPB
   have HO:=zA (Off.of_below (F:=(· = g)) HBL.out)
   clear HBL
   by_cases heb:e<b
   ·have HEB2:=zA heb
    go_wp2_with fail
    refine(vH g cap n a m e (Qm 261) f wr HR.out HAM.out HME.out (by have:=HEB.out;have:=HBN.out;omega) HN.out).mono ?_
    rintro x w1 ⟨rfl,h1,h2⟩
    have HR1:=zA h1
    have HO1:=zA (HO.out.trans h2)
    clear h1 h2
    go_wp2_with fail
    refine(IH.out g cap n mid e b (rot f a (m - a) (e - m)) w1 (by have:=pN.out;have:=HSZ.out;have:=HAM.out;have:=HMB.out;have:=HBIG.out;omega) HR1.out (by have:=HE.out;have:=HAM.out;have:=pN.out;omega) HEB2.out HBN.out HN.out (fun i j h1 h2 h3 h4=>?_)).mono ?_
    ·have:=HE.out;have:=HAM.out;have:=HME.out;have:=pN.out;have:=HBIG.out
     unfold rot
     rw[if_neg (by omega),if_pos (by omega),if_neg (by omega),if_neg (by omega)]
     exact HLT.out _ _ (by omega) (by omega) (by omega) (by omega)
    ·rintro x w2 ⟨rfl,h1,h2⟩
     have HR2:=zA h1
     have HO2:=zA (HO1.out.trans h2)
     clear h1 h2 HR1 HO1 HR
     go_wp2_with fail
     refine yD results367 ⟨rfl,?_,HO2.out⟩
     have:=HE.out;have:=HAM.out;have:=HME.out;have:=pN.out;have:=HEB2.out;have:=HBIG.out
     have hl:=rot_left f a (m - a) (e - m) (b - e)
     rw[show a+(e - m)=mid from by omega,show e - m+(b - e)=b - m from by omega]at hl
     rw[←hl,show m - a=e - mid from by omega]
     have hz:=HR2.out
     rw[show m - a=e - mid from by omega]at hz
     exact hz
   ·have heb2:e=b:=by have:=HEB.out;omega
    clear heb
    subst heb2
    go_wp2_with fail
    refine(vH g cap n a m e (Qm 261) f wr HR.out HAM.out HME.out (by have:=HEB.out;have:=HBN.out;omega) HN.out).mono ?_
    rintro x w1 ⟨rfl,h1,h2⟩
    have HR1:=zA h1
    have HO1:=zA (HO.out.trans h2)
    clear h1 h2
    go_wp2_with fail
    refine yD results367 ⟨rfl,?_,HO1.out⟩
    exact HR1.out
theorem symhigh_ok (N g cap n a m b:Nat) (f:Nat→Pl.Ev) (w:World) (ih:SymMerges N) (mid:Nat) (hmid:mid=(a+b) / 2) (hcase:mid<m) (hsz:b - a≤N+1) (h:EvFn w g n f) (ha:a+1<m) (hb2:m+1<b) (hb:b≤n) (hn:n≤1000) (hlt:∀i j,a≤i→i<m→m≤j→j<b→(f i).seq<(f j).seq) :
  Calls prog 367 #[.slice (some ⟨g,0,none⟩) n cap,.int .i64 a,.int .i64 m,.int .i64 b,(Qm 261)] w fun r w'=>r=.returned (.tuple #[])∧EvFn w' g n (rot f a (m - a) (b - m))∧Off (· = g) w w':=by
 have IH:=zA ih
 have HSZ:=zA hsz
 have H:=zA h
 have HAM:=zA (show a<m by omega)
 have HMB:=zA (show m<b by omega)
 have HBIG:=zA (show a+4≤b by omega)
 have HBN:=zA hb
 have HN:=zA hn
 have HLT:=zA hlt
 have g1:IntKind.i64.wrap ((m:Int) - a)=((m - a:Nat):Int):=by rw[IntKind.wrap_i64];omega
 have g0:(((m - a:Nat):Int) == 1)=false:=by simp;omega
 have g3:IntKind.i64.wrap ((b:Int) - m)=((b - m:Nat):Int):=by rw[IntKind.wrap_i64];omega
 have g2:(((b - m:Nat):Int) == 1)=false:=by simp;omega
 have w1:IntKind.i64.wrap ((a:Int)+b)=(a:Int)+b:=by rw[IntKind.wrap_i64];omega
 have w2:IntKind.u64.wrap ((a:Int)+b)=(a:Int)+b:=by rw[IntKind.wrap_u64];omega
 have w3:((a:Int)+b) / 2=(mid:Int):=by omega
 have w5:(mid:Int)≤9223372036854775807:=by omega
 have w8:IntKind.i64.wrap ((mid:Int)+m)=(mid:Int)+m:=by rw[IntKind.wrap_i64];omega
 obtain⟨pp,hpp⟩:∃pp:Nat,pp+1=mid+m:=⟨mid+m - 1,by omega⟩
 have w9:IntKind.i64.wrap ((mid:Int)+m - 1)=(pp:Int):=by rw[IntKind.wrap_i64];omega
 have h1:=hb
 have h2:=hn
 clear h hsz hlt ih hn
 have hm:=hcase
 go_enter func367,ntmps367
 have g4:(mid:Int)<m:=by omega
 obtain⟨s,hs⟩:∃s:Nat,s=mid+m - b:=⟨_,rfl⟩
 have HS:=zA hs
 have w6:(mid:Int)+m - b=(s:Int):=by omega
 have w6b:(s:Int)≤9223372036854775807:=by omega
 have w7:(mid:Int)+m - s=(b:Int):=by omega
 have w7b:(b:Int)≤9223372036854775807:=by omega
 have HR0:=zA (show s<mid by omega)
 have g5:(m:Int)<b:=by omega
 have g6:(mid:Int)<b:=by omega
 have g7:(s:Int)<m:=by omega
 have g8:(s:Int)<mid:=by omega
 have HAS:=zA (show a≤s by omega)
 have HSM:=zA (show s<m by omega)
 have HSEQ:=zA (show ∀c,s≤c→c<mid→(f c).seq<(f (pp - c)).seq from fun c h1 h2=>HLT.out c (pp - c) (by omega) (by omega) (by omega) (by omega))
 have HPC:=zA (show ∀c,s≤c→c<mid→c≤pp∧pp - c<n∧c<n from fun c h1 h2=>by omega)
 have HPP:=zA hpp
 have pN:=zA hmid
 clear hm ha hb2 hmid hpp h1 h2 hs hcase
 go_wp2_with fail
 go_loopw [20,21] (fun i j wr=>∃(q:Nat),s≤q∧q≤mid∧i=.int .i64 s∧j=.int .i64 q∧EvFn wr g n f∧Below w.heap.size w wr) (fun i j _=>(intOf j).toNat)
 case atStart=>exact⟨mid,Nat.le_of_lt HR0.out,Nat.le_refl _,rfl,rfl,H.out,Below.refl _ _⟩
 case round=>
  obtain⟨q,hq1,hq2,rfl,rfl,hr,hbl⟩:=hrel
  have HR:=zA hr
  have HBL:=zA hbl
  have HP:=zA hq1
  have HPB:=zA hq2
  clear hr hbl hq1 hq2
  by_cases hlt:s<q
  ·clear g4 g5 g6 g7 g8 w6 w6b w7 w7b
   have:=HBN.out
   have:=HN.out
   have:=(HPC.out s (Nat.le_refl _) HR0.out).2.2
   have:=HPB.out
   have:=HMB.out
   have:=HAM.out
   have hmn:=pN.out
   obtain⟨c,hc⟩:∃c:Nat,c=(s+q) / 2:=⟨_,rfl⟩
   have w1:IntKind.i64.wrap ((s:Int)+q)=(s:Int)+q:=by rw[IntKind.wrap_i64];omega
   have w2:IntKind.u64.wrap ((s:Int)+q)=(s:Int)+q:=by rw[IntKind.wrap_u64];omega
   have w3:((s:Int)+q) / 2=(c:Int):=by omega
   have w5:(c:Int)≤9223372036854775807:=by omega
   have HC1:=zA (show s≤c by omega)
   have HC2:=zA (show c<q by omega)
   clear hc
   have hx:=HPC.out c HC1.out (by have:=HC2.out;omega)
   have HI:=zA hx.2.1
   have HJ:=zA hx.2.2
   have HGT:=zA (HSEQ.out c HC1.out (by have:=HC2.out;omega))
   have x1:((pp - c:Nat):Int)<n:=by omega
   have x2:(c:Int)<n:=by omega
   have x3:IntKind.i64.wrap ((pp:Int) - c)=((pp - c:Nat):Int):=by rw[IntKind.wrap_i64];have:=HPP.out;omega
   clear hx hmn
   go_wp2_with fail
   clear w1 w2 w3 w5 hlt
   refine zD (fun W=>EvFn W g n f) 99 (by kernel_rfl) (HR.out.keep rfl) (fun rV=>?_)
   have HBR:=zA (show Below wr.heap.size wr wr.drew from(Below.refl _ _).drew)
   refine tkp 0 158 rfl ?_
   refine tkp 1 159 rfl ?_
   refine tkp 2 160 rfl ?_
   refine tkp 3 161 rfl ?_
   refine tkp 4 162 rfl ?_
   refine tkp 5 163 rfl ?_
   refine tk 6 164 rfl (by intro wS hSw;obtain⟨y0,y1,y2,y3,y4,y5,y6,y7,y8,y9,y10,y11,y12,y13⟩:=yX hSw (i:=(pp - c)) HI.out;clear hSw;go_simp;(try with_reducible rfl)) ?_
   refine tkp 7 165 rfl ?_
   refine tkp 8 166 rfl ?_
   refine tkp 9 167 rfl ?_
   refine tk 10 168 rfl (by intro wS hSw;obtain⟨y0,y1,y2,y3,y4,y5,y6,y7,y8,y9,y10,y11,y12,y13⟩:=yX hSw (i:=c) HJ.out;clear hSw;go_simp;(try with_reducible rfl)) ?_
   clear rV
   refine t1 11 rfl (fun K hK=>?_)
   go_simp
   refine(vF (f ((pp - c))) (f (c)) wr.drew HGT.out).mono ?_
   rintro x wc ⟨rfl,hbc⟩
   have HRC:=zA ((HR.out.keep (w':=wr.drew) rfl).below hbc)
   have HBC:=zA (HBR.out.trans hbc)
   clear hbc
   refine hK.out _ _ (fun _=>HRC.out) (fun _=>?_)
   clear hK K
   try simp only[zN]
   refine t1 12 rfl (fun K hK=>?_)
   go_simp
   refine hK.out _ _ (fun _=>HRC.out) (fun _=>?_)
   clear hK K
   try simp only[zN]
   refine t1 13 rfl (fun K hK=>?_)
   go_simp
   refine hK.out _ _ (fun _=>HRC.out) (fun _=>?_)
   clear hK K
   try simp only[zN]
   refine wd ?_
   clear HBR
   clear x1 x2 x3
   go_wp2_with fail
   refine⟨⟨c,HC1.out,by have:=HC2.out;omega,rfl,rfl,HRC.out,HBL.out.trans (HBC.out.mono HBL.out.size)⟩,by simp[intOf];have:=HC2.out;omega⟩
  ·obtain rfl:s=q:=by have:=HP.out;omega
   clear hlt HP HPB
   have HO:=zA (Off.of_below (F:=(· = g)) HBL.out)
   clear HBL
   by_cases has:a<s
   ·have HAS2:=zA has
    have g9:(a:Int)<s:=by omega
    go_wp2_with fail
    refine(vH g cap n s m b (Qm 261) f wr HR.out HSM.out HMB.out HBN.out HN.out).mono ?_
    rintro x w1 ⟨rfl,h1,h2⟩
    have HR1:=zA h1
    have HO1:=zA (HO.out.trans h2)
    clear h1 h2
    go_wp2_with fail
    refine(IH.out g cap n a s mid (rot f s (m - s) (b - m)) w1 (by have:=pN.out;have:=HSZ.out;have:=HAM.out;have:=HMB.out;have:=HBIG.out;omega) HR1.out HAS2.out HR0.out (by have:=pN.out;have:=HBN.out;have:=HBIG.out;omega) HN.out (fun i j h1 h2 h3 h4=>?_)).mono ?_
    ·have:=HS.out;have:=HAM.out;have:=HMB.out;have:=pN.out;have:=HAS.out;have:=HSM.out;have:=HBIG.out
     unfold rot
     rw[if_neg (by omega),if_neg (by omega),if_pos (by omega)]
     exact HLT.out _ _ (by omega) (by omega) (by omega) (by omega)
    ·rintro x w2 ⟨rfl,h1,h2⟩
     have HR2:=zA h1
     have HO2:=zA (HO1.out.trans h2)
     clear h1 h2 HR1 HO1 HR
     go_wp2_with fail
     refine yD results367 ⟨rfl,?_,HO2.out⟩
     have:=HS.out;have:=HAM.out;have:=HMB.out;have:=pN.out;have:=HAS.out;have:=HSM.out;have:=HBIG.out
     have hl:=rot_right f a (m - s) (b - m) (s - a)
     rw[show a+(s - a)=s from by omega,show s - a+(m - s)=m - a from by omega]at hl
     rw[←hl]
     have hz:=HR2.out
     rw[show mid - s=b - m from by omega]at hz
     exact hz
   ·obtain rfl:a=s:=by have:=HAS.out;omega
    clear has
    go_wp2_with fail
    refine(vH g cap n a m b (Qm 261) f wr HR.out HSM.out HMB.out HBN.out HN.out).mono ?_
    rintro x w1 ⟨rfl,h1,h2⟩
    have HR1:=zA h1
    have HO1:=zA (HO.out.trans h2)
    clear h1 h2
    go_wp2_with fail
    exact yD results367 ⟨rfl,HR1.out,HO1.out⟩
theorem wA:∀N,SymMerges N
 | 0=>fun g cap n a m b f w h1 _ h2 h3=>by omega
 | N+1=>fun g cap n a m b f w hsz h ham hmb hb hn hlt=>by
  by_cases h1:m=a+1
  ·subst h1
   have:=symone_ok g cap n a b f w h hmb hb hn (fun j h1 h2=>hlt a j (Nat.le_refl _) (by omega) h1 h2)
   rw[show a+1 - a=1 from by omega,show b - (a+1)=b - a - 1 from by omega]
   exact this
  ·by_cases h2:b=m+1
   ·subst h2
    have:=symlast_ok g cap n a m f w h (by omega) hb hn (fun j h1 h2=>hlt j m h1 h2 (Nat.le_refl _) (by omega))
    rw[show m+1 - m=1 from by omega]
    exact this
   ·by_cases h3:m≤(a+b) / 2
    ·exact symlow_ok N g cap n a m b f w (wA N) _ rfl h3 hsz h (by omega) (by omega) hb hn hlt
    ·exact symhigh_ok N g cap n a m b f w (wA N) _ rfl (by omega) hsz h (by omega) (by omega) hb hn hlt
def rev (f:Nat→Pl.Ev) (a b:Nat):Nat→Pl.Ev:=fun k=>if a≤k∧k<b then f (a+b - 1 - k)else f k
theorem rev_one (f:Nat→Pl.Ev) (a:Nat):rev f a (a+1)=f:=by
 funext x
 unfold rev
 (repeat' split)<;>first | omega | rfl | (congr 1;omega)
theorem rev_none (f:Nat→Pl.Ev) (a b:Nat) (h:b≤a+1):rev f a b=f:=by
 funext x
 unfold rev
 (repeat' split)<;>first | omega | rfl | (congr 1;omega)
theorem rev_more (f:Nat→Pl.Ev) (a i:Nat) (h:a≤i):rot (rev f a i) a (i - a) 1=rev f a (i+1):=by
 funext x
 unfold rot rev
 (try simp only[])
 (repeat' split)<;>first | omega | rfl | (congr 1;omega)
theorem uM (g cap n a b:Nat) (f:Nat→Pl.Ev) (w:World) (h:EvFn w g n f) (hb:b≤n) (ha:a≤n) (hn:n≤1000) (hlt:∀i j,a≤i→i<j→j<b→(f i).seq<(f j).seq) :
  Calls prog 366 #[.slice (some ⟨g,0,none⟩) n cap,.int .i64 a,.int .i64 b,(Qm 261)] w fun r w'=>r=.returned (.tuple #[])∧EvFn w' g n (rev f a b)∧Off (· = g) w w':=by
 have H:=zA h
 have HA:=zA ha
 have HBN:=zA hb
 have HN:=zA hn
 have HLT:=zA hlt
 have w1:IntKind.i64.wrap ((a:Int)+1)=(a:Int)+1:=by rw[IntKind.wrap_i64];omega
 clear h ha hb hn hlt
 go_enter func366,ntmps366
 go_wp2_with fail
 go_loopw [8] (fun i wr=>∃(p:Nat),a+1≤p∧(p≤b∨p=a+1)∧i=.int .i64 p∧EvFn wr g n (rev f a p)∧Off (· = g) w wr) (fun i _=>b - (intOf i).toNat)
 case atStart=>exact⟨a+1,Nat.le_refl _,.inr rfl,rfl,by rw[rev_one];exact H.out,Off.refl _ _⟩
 case round=>
  obtain⟨i,hi,hib,rfl,hr,ho⟩:=hrel
  have HR:=zA hr
  have HO:=zA ho
  have HIA:=zA hi
  have HIB:=zA hib
  clear hr ho hib
  by_cases hlt:i<b
  ·have HIL:=zA hlt
   go_wp2_with fail
   clear hlt hi
   have HM:=zA (show b - (intOf (.int .i64 ((i:Int)+1))).toNat<b - (intOf (.int .i64 i)).toNat by have:=HIL.out;simp[intOf];omega)
   go_loopw [9] (fun j wr=>∃(k:Nat),a≤k∧k≤i∧j=.int .i64 k∧EvFn wr g n (rot (rev f a i) k (i - k) 1)∧Off (· = g) w wr) (fun i _=>(intOf i).toNat)
   case atStart=>exact⟨i,by have:=HIA.out;omega,Nat.le_refl _,rfl,by rw[Nat.sub_self,sL];exact HR.out,HO.out⟩
   case round=>
    clear HR HO
    obtain⟨k,hk,hkp,rfl,hr,ho⟩:=hrel
    have HR:=zA hr
    have HO:=zA ho
    have HK:=zA hk
    have HKP:=zA hkp
    clear hr ho hk hkp
    by_cases hlt:a<k
    ·obtain⟨p,rfl⟩:∃p,k=p+1:=⟨k - 1,by omega⟩
     have HKL:=zA hlt
     have b1:IntKind.i64.wrap (p:Int)=(p:Int):=by rw[IntKind.wrap_i64];have:=HBN.out;have:=HN.out;have:=HKP.out;have:=HIL.out;omega
     have b2:(a:Int)<(p:Int)+1:=by omega
     have a5:((p:Int)+1).toNat=p+1:=by omega
     have a6:(p:Int)<n:=by have:=HBN.out;have:=HKP.out;have:=HIL.out;omega
     have a7:(p:Int)+1<n:=by have:=HBN.out;have:=HKP.out;have:=HIL.out;omega
     have a9:(0:Int)≤(p:Int)+1:=by omega
     have HI:=zA (show p+1<n by omega)
     have HJ:=zA (show p<n by omega)
     have HNE:=zA (show p+1≠p by omega)
     have hgt:(rot (rev f a i) (p+1) (i - (p+1)) 1 (p)).seq<(rot (rev f a i) (p+1) (i - (p+1)) 1 (p+1)).seq:=by
      have:=HKP.out;have:=HIL.out;have:=HIA.out
      unfold rot rev
      rw[if_neg (by omega),if_neg (by omega),if_pos (by omega),if_pos (by omega),if_neg (by omega)]
      exact HLT.out _ _ (by omega) (by omega) (by omega)
     obtain⟨F,hFF⟩:∃F,F=rot (rev f a i) (p+1) (i - (p+1)) 1:=⟨_,rfl⟩
     rw[←hFF]at HR hgt
     have HFF:=zA hFF
     have HGT:=zA hgt
     clear hFF hgt hlt
     go_wp2_with fail
     refine zD (fun W=>EvFn W g n F) 99 (by kernel_rfl) (HR.out.keep rfl) (fun rV=>?_)
     have HBR:=zA (show Below wr.heap.size wr wr.drew from(Below.refl _ _).drew)
     refine tkp 0 18 rfl ?_
     refine tkp 1 19 rfl ?_
     refine tkp 2 20 rfl ?_
     refine tkp 3 21 rfl ?_
     refine tkp 4 22 rfl ?_
     refine tkp 5 23 rfl ?_
     refine tkp 6 24 rfl ?_
     refine tkp 7 25 rfl ?_
     refine tk 8 26 rfl (by intro wS hSw;obtain⟨y0,y1,y2,y3,y4,y5,y6,y7,y8,y9,y10,y11,y12,y13⟩:=yX hSw (i:=p+1) HI.out;clear hSw;go_simp;(try with_reducible rfl)) ?_
     refine tkp 9 27 rfl ?_
     refine tkp 10 28 rfl ?_
     refine tkp 11 29 rfl ?_
     refine tkp 12 30 rfl ?_
     refine tk 13 31 rfl (by intro wS hSw;obtain⟨y0,y1,y2,y3,y4,y5,y6,y7,y8,y9,y10,y11,y12,y13⟩:=yX hSw (i:=p) HJ.out;clear hSw;go_simp;(try with_reducible rfl)) ?_
     clear rV
     refine t1 14 rfl (fun K hK=>?_)
     go_simp
     refine(vF (F (p+1)) (F (p)) wr.drew HGT.out).mono ?_
     rintro x wc ⟨rfl,hbc⟩
     have HRC:=zA ((HR.out.keep (w':=wr.drew) rfl).below hbc)
     have HBC:=zA (HBR.out.trans hbc)
     clear hbc
     refine hK.out _ _ (fun _=>HRC.out) (fun _=>?_)
     clear hK K
     try simp only[zN]
     refine t1 15 rfl (fun K hK=>?_)
     go_simp
     refine hK.out _ _ (fun _=>HRC.out) (fun _=>?_)
     clear hK K
     try simp only[zN]
     refine t1 16 rfl (fun K hK=>?_)
     go_simp
     refine hK.out _ _ (fun _=>HRC.out) (fun _=>?_)
     clear hK K
     try simp only[zN]
     refine wd ?_
     clear HBR
     have HO3:=zA (HO.out.trans (Off.of_below (F:=(· = g)) HBC.out))
     clear HR HO HBC
     have HR:=HRC
     have HO:=HO3
     clear HRC HO3
     go_wp2_with fail
     refine wD (fun W=>EvFn W g n F) (fun i=> !(i == 15||i == 17)) (by kernel_rfl) (HR.out.keep rfl) (fun rV=>?_)
     have HOd:=zA (show Off (· = g) w wc.drew from⟨HO.out.size,HO.out.same,HO.out.rest⟩)
     clear HR HO
     generalize wc.drew=Wd at *
     refine tf 0 37 rfl ?_
     refine tf 1 38 rfl ?_
     refine tf 2 39 rfl ?_
     refine tf 3 40 rfl ?_
     refine tf 4 41 rfl ?_
     refine tf 5 42 rfl ?_
     refine tf 6 43 rfl ?_
     refine tf 7 44 rfl ?_
     refine tf 8 45 rfl ?_
     refine tkk 9 46 rfl (by intro wS hSw;obtain⟨y0,y1,y2,y3,y4,y5,y6,y7,y8,y9,y10,y11,y12,y13⟩:=yX hSw (i:=p) HJ.out;clear hSw;go_simp;(try with_reducible rfl)) ?_
     refine tf 10 47 rfl ?_
     refine tf 11 48 rfl ?_
     refine tf 12 49 rfl ?_
     refine tkk 13 50 rfl (by intro wS hSw;obtain⟨y0,y1,y2,y3,y4,y5,y6,y7,y8,y9,y10,y11,y12,y13⟩:=yX hSw (i:=(p+1)) HI.out;clear hSw;go_simp;(try with_reducible rfl)) ?_
     refine tf 14 51 rfl ?_
     obtain⟨y0,y1,y2,y3,y4,y5,y6,y7,y8,y9,y10,y11,y12,y13⟩:=yX rV (i:=(p+1)) HI.out
     have fz:=EvFn.frozen rV
     refine xI (i:=15) (by kernel_rfl) rfl (fun K hK=>?_)
     go_simp
     refine hK.out _ _ (fun h=>absurd h (by decide)) (fun _=>?_)
     clear hK K
     try simp only[zN]
     have hz1:=EvFn.put rV (i:=(p+1)) HI.out (F p)
     have hst:Wd.setCells g ((p+1)*14) (kEv.enc (F p))=(Qhe Wd g ((p+1)*14) (F p):World):=rfl
     have ho1:=Off.setCells HOd.out g ((p+1)*14) (kEv.enc (F p)) rfl
     rw[hst]at hz1 ho1
     clear hst rV y0 y1 y2 y3 y4 y5 y6 y7 y8 y9 y10 y11 y12 y13 fz
     generalize (Qhe Wd g ((p+1)*14) (F p):World)=Z1 at *
     have HZ1:=zA hz1
     have HO1:=zA ho1
     clear hz1 ho1
     refine xI (i:=16) (by kernel_rfl) rfl (fun K hK=>?_)
     go_simp
     refine hK.out _ _ (fun _ h=>h) (fun _=>?_)
     clear hK K
     try simp only[zN]
     obtain⟨y0,y1,y2,y3,y4,y5,y6,y7,y8,y9,y10,y11,y12,y13⟩:=yX HZ1.out (i:=p) HJ.out
     have fz:=EvFn.frozen HZ1.out
     refine xI (i:=17) (by kernel_rfl) rfl (fun K hK=>?_)
     go_simp
     refine hK.out _ _ (fun h=>absurd h (by decide)) (fun _=>?_)
     clear hK K
     try simp only[zN]
     have hz2:=EvFn.put HZ1.out (i:=p) HJ.out (F (p+1))
     have hst:Z1.setCells g (p*14) (kEv.enc (F (p+1)))=(Qhe Z1 g (p*14) ((F (p+1))):World):=rfl
     have ho2:=Off.setCells HO1.out g (p*14) (kEv.enc (F (p+1))) rfl
     rw[hst]at hz2 ho2
     rw[wG _ _ _ HNE.out]at hz2
     clear hst y0 y1 y2 y3 y4 y5 y6 y7 y8 y9 y10 y11 y12 y13 fz
     generalize (Qhe Z1 g (p*14) ((F (p+1))):World)=Z2 at *
     have HZ2:=zA hz2
     have HO2:=zA ho2
     clear hz2 ho2
     refine vX (by kernel_rfl) ?_ _
     go_wp2_with fail
     refine⟨⟨p,by have:=HKL.out;omega,by have:=HKP.out;omega,rfl,?_,HO2.out⟩,by simp[intOf]⟩
     rw[←sM (rev f a i) i p HKP.out,←HFF.out]
     exact HZ2.out
    ·obtain rfl:a=k:=by have:=HK.out;omega
     have g1:¬(a:Int)<a:=by omega
     have hz:=HR.out
     rw[rev_more f a i (by have:=HIA.out;omega)]at hz
     have HZ:=zA hz
     have b1:IntKind.i64.wrap ((i:Int)+1)=(i:Int)+1:=by rw[IntKind.wrap_i64];have:=HBN.out;have:=HN.out;have:=HIL.out;omega
     clear hlt hz
     go_wp2_with fail
     refine zD (fun _=>True) 99 (by kernel_rfl) trivial (fun rV=>?_)
     refine tkp 0 18 rfl ?_
     refine tkp 1 19 rfl ?_
     refine tkp 2 20 rfl ?_
     refine tkp 3 21 rfl ?_
     refine yB (i:=4) 22 (v:=undef) rfl (by kernel_rfl) (by kernel_rfl) (by kernel_rfl) (by kernel_rfl) (by kernel_rfl) (fun _ _ _ h=>h) (Or.inr ⟨by rfl,rfl⟩) (by assumption) ?_
     simp only[zN]
     refine yB (i:=5) 23 (v:=undef) rfl (by kernel_rfl) (by kernel_rfl) (by kernel_rfl) (by kernel_rfl) (by kernel_rfl) (fun _ _ _ h=>h) (Or.inr ⟨by rfl,rfl⟩) (by assumption) ?_
     simp only[zN]
     refine yB (i:=6) 24 (v:=undef) rfl (by kernel_rfl) (by kernel_rfl) (by kernel_rfl) (by kernel_rfl) (by kernel_rfl) (fun _ _ _ h=>h) (Or.inr ⟨by rfl,rfl⟩) (by assumption) ?_
     simp only[zN]
     refine yB (i:=7) 25 (v:=undef) rfl (by kernel_rfl) (by kernel_rfl) (by kernel_rfl) (by kernel_rfl) (by kernel_rfl) (fun _ _ _ h=>h) (Or.inr ⟨by rfl,rfl⟩) (by assumption) ?_
     simp only[zN]
     refine yB (i:=8) 26 (v:=undef) rfl (by kernel_rfl) (by kernel_rfl) (by kernel_rfl) (by kernel_rfl) (by kernel_rfl) (fun _ _ _ h=>h) (Or.inr ⟨by rfl,rfl⟩) (by assumption) ?_
     simp only[zN]
     refine yB (i:=9) 27 (v:=undef) rfl (by kernel_rfl) (by kernel_rfl) (by kernel_rfl) (by kernel_rfl) (by kernel_rfl) (fun _ _ _ h=>h) (Or.inr ⟨by rfl,rfl⟩) (by assumption) ?_
     simp only[zN]
     refine yB (i:=10) 28 (v:=undef) rfl (by kernel_rfl) (by kernel_rfl) (by kernel_rfl) (by kernel_rfl) (by kernel_rfl) (fun _ _ _ h=>h) (Or.inr ⟨by rfl,rfl⟩) (by assumption) ?_
     simp only[zN]
     refine yB (i:=11) 29 (v:=undef) rfl (by kernel_rfl) (by kernel_rfl) (by kernel_rfl) (by kernel_rfl) (by kernel_rfl) (fun _ _ _ h=>h) (Or.inr ⟨by rfl,rfl⟩) (by assumption) ?_
     simp only[zN]
     refine yB (i:=12) 30 (v:=undef) rfl (by kernel_rfl) (by kernel_rfl) (by kernel_rfl) (by kernel_rfl) (by kernel_rfl) (fun _ _ _ h=>h) (Or.inr ⟨by rfl,rfl⟩) (by assumption) ?_
     simp only[zN]
     refine yB (i:=13) 31 (v:=undef) rfl (by kernel_rfl) (by kernel_rfl) (by kernel_rfl) (by kernel_rfl) (by kernel_rfl) (fun _ _ _ h=>h) (Or.inr ⟨by rfl,rfl⟩) (by assumption) ?_
     simp only[zN]
     refine yB (i:=14) 32 (v:=undef) rfl (by kernel_rfl) (by kernel_rfl) (by kernel_rfl) (by kernel_rfl) (by kernel_rfl) (fun _ _ _ h=>h) (Or.inr ⟨by rfl,rfl⟩) (by assumption) ?_
     simp only[zN]
     refine yB (i:=15) 33 (v:=undef) rfl (by kernel_rfl) (by kernel_rfl) (by kernel_rfl) (by kernel_rfl) (by kernel_rfl) (fun _ _ _ h=>h) (Or.inr ⟨by rfl,rfl⟩) (by assumption) ?_
     simp only[zN]
     refine tkp 16 34 rfl ?_
     refine wd ?_
     go_wp2_with fail
     exact⟨⟨i+1,by have:=HIA.out;omega,.inl (by have:=HIL.out;omega),rfl,HZ.out.keep rfl,HO.out.trans (Off.of_below (Below.refl _ _).drew)⟩,HM.out⟩
  ·go_wp2_with fail
   refine yD results366 ⟨rfl,?_,HO.out⟩
   rcases HIB.out with h | h
   ·obtain rfl:i=b:=by omega
    exact HR.out
   ·have hz:=HR.out
    rw[h,rev_one]at hz
    rw[rev_none f a b (by omega)]
    exact hz
end
end Go.Proofs.YtodlmbfbfaofcaaGreat
