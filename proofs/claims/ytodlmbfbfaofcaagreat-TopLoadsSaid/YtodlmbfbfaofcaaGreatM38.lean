/- TopLoads, part 38. -/
import Derived.Test.YtodlmbfbfaofcaaGreatM01
import Derived.Test.YtodlmbfbfaofcaaGreatM03
import Derived.Test.YtodlmbfbfaofcaaGreatM07
import Derived.Test.YtodlmbfbfaofcaaGreatM37
open Go.Proofs.Tryz
namespace Go.Proofs.YtodlmbfbfaofcaaGreat
set_option linter.unusedVariables false
set_option linter.unusedSimpArgs false
set_option maxRecDepth 100000
set_option maxHeartbeats 1000000
section
open Go.RowKit Rw Rh
def SB (B n:Nat) (f:Nat→Pl.Ev):Nat→Pl.Ev:=fun k=>if k / B*B+B≤n then f (k / B*B+(k / B*B+B) - 1 - k)else f (k / B*B+n - 1 - k)
def Up (n:Nat) (f:Nat→Pl.Ev):Prop:=∀i j,i<j→j<n→(f i).seq<(f j).seq
theorem sb_ins (n a:Nat) (f:Nat→Pl.Ev) (h:a%20=0) (ha:a+20≤n) (k:Nat) (hk:k<n):rev (fun k=>if k<a then SB 20 n f k else f k) a (a+20) k=if k<a+20 then SB 20 n f k else f k:=by
 unfold rev SB
 (try simp only[])
 (repeat' split)<;>first | omega | rfl | (congr 1;omega)
theorem sb_end (n a:Nat) (f:Nat→Pl.Ev) (h:a%20=0) (ha:n<a+20) (k:Nat) (hk:k<n):rev (fun k=>if k<a then SB 20 n f k else f k) a n k=SB 20 n f k:=by
 unfold rev SB
 (try simp only[])
 (repeat' split)<;>first | omega | rfl | (congr 1;omega)
theorem sb_mix20 (n a:Nat) (f:Nat→Pl.Ev) (h:a%40=0) (ha:a+40≤n) (k:Nat) (hk:k<n):rot (fun k=>if k<a then SB 40 n f k else SB 20 n f k) a (a+20 - a) (a+40 - (a+20)) k=if k<a+40 then SB 40 n f k else SB 20 n f k:=by
 unfold rot SB
 (try simp only[])
 (repeat' split)<;>first | omega | rfl | (congr 1;omega)
theorem sb_last20 (n a:Nat) (f:Nat→Pl.Ev) (h:a%40=0) (ha:a+20<n) (hb:n<a+40) (k:Nat) (hk:k<n):rot (fun k=>if k<a then SB 40 n f k else SB 20 n f k) a (a+20 - a) (n - (a+20)) k=SB 40 n f k:=by
 unfold rot SB
 (try simp only[])
 (repeat' split)<;>first | omega | rfl | (congr 1;omega)
theorem sb_none20 (n a:Nat) (f:Nat→Pl.Ev) (h:a%40=0) (ha:n≤a+20) (k:Nat) (hk:k<n):(fun k=>if k<a then SB 40 n f k else SB 20 n f k) k=SB 40 n f k:=by
 unfold SB
 (try simp only[])
 (repeat' split)<;>first | omega | rfl | (congr 1;omega)
theorem sb_up20 (n a:Nat) (f:Nat→Pl.Ev) (hf:Up n f) (h:a%40=0) (e:Nat) (he:e≤n) (he2:e≤a+40) (i j:Nat) (h1:a≤i) (h2:i<a+20) (h3:a+20≤j) (h4:j<e):((fun k=>if k<a then SB 40 n f k else SB 20 n f k) i).seq<((fun k=>if k<a then SB 40 n f k else SB 20 n f k) j).seq:=by
 have e1:∃x,(fun k=>if k<a then SB 40 n f k else SB 20 n f k) i=f x∧x<a+20:=by
  unfold SB
  (try simp only[])
  (repeat' split)<;>first | omega | exact⟨_,rfl,by omega⟩
 have e2:∃y,(fun k=>if k<a then SB 40 n f k else SB 20 n f k) j=f y∧a+20≤y∧y<n:=by
  unfold SB
  (try simp only[])
  (repeat' split)<;>first | omega | exact⟨_,rfl,by omega,by omega⟩
 obtain⟨x,hx,hx2⟩:=e1
 obtain⟨y,hy,hy2,hy3⟩:=e2
 rw[hx,hy]
 exact hf x y (by omega) hy3
theorem sb_mix40 (n a:Nat) (f:Nat→Pl.Ev) (h:a%80=0) (ha:a+80≤n) (k:Nat) (hk:k<n):rot (fun k=>if k<a then SB 80 n f k else SB 40 n f k) a (a+40 - a) (a+80 - (a+40)) k=if k<a+80 then SB 80 n f k else SB 40 n f k:=by
 unfold rot SB
 (try simp only[])
 (repeat' split)<;>first | omega | rfl | (congr 1;omega)
theorem sb_last40 (n a:Nat) (f:Nat→Pl.Ev) (h:a%80=0) (ha:a+40<n) (hb:n<a+80) (k:Nat) (hk:k<n):rot (fun k=>if k<a then SB 80 n f k else SB 40 n f k) a (a+40 - a) (n - (a+40)) k=SB 80 n f k:=by
 unfold rot SB
 (try simp only[])
 (repeat' split)<;>first | omega | rfl | (congr 1;omega)
theorem sb_none40 (n a:Nat) (f:Nat→Pl.Ev) (h:a%80=0) (ha:n≤a+40) (k:Nat) (hk:k<n):(fun k=>if k<a then SB 80 n f k else SB 40 n f k) k=SB 80 n f k:=by
 unfold SB
 (try simp only[])
 (repeat' split)<;>first | omega | rfl | (congr 1;omega)
theorem sb_up40 (n a:Nat) (f:Nat→Pl.Ev) (hf:Up n f) (h:a%80=0) (e:Nat) (he:e≤n) (he2:e≤a+80) (i j:Nat) (h1:a≤i) (h2:i<a+40) (h3:a+40≤j) (h4:j<e):((fun k=>if k<a then SB 80 n f k else SB 40 n f k) i).seq<((fun k=>if k<a then SB 80 n f k else SB 40 n f k) j).seq:=by
 have e1:∃x,(fun k=>if k<a then SB 80 n f k else SB 40 n f k) i=f x∧x<a+40:=by
  unfold SB
  (try simp only[])
  (repeat' split)<;>first | omega | exact⟨_,rfl,by omega⟩
 have e2:∃y,(fun k=>if k<a then SB 80 n f k else SB 40 n f k) j=f y∧a+40≤y∧y<n:=by
  unfold SB
  (try simp only[])
  (repeat' split)<;>first | omega | exact⟨_,rfl,by omega,by omega⟩
 obtain⟨x,hx,hx2⟩:=e1
 obtain⟨y,hy,hy2,hy3⟩:=e2
 rw[hx,hy]
 exact hf x y (by omega) hy3
theorem sb_done (B n:Nat) (f:Nat→Pl.Ev) (h:B=20∨B=40∨B=80) (hn:n≤B) (k:Nat) (hk:k<n):SB B n f k=f (n - 1 - k):=by
 rcases h with rfl | rfl | rfl
 all_goals
  unfold SB
  (repeat' split)<;>first | omega | rfl | (congr 1;omega)
theorem stable_ok (g cap n:Nat) (f:Nat→Pl.Ev) (w:World) (h:EvFn w g n f) (hn:n≤80) (hup:Up n f) :
  Calls prog 323 #[.slice (some ⟨g,0,none⟩) n cap,.int .i64 n,(Qm 261)] w fun r w'=>r=.returned (.tuple #[])∧EvFn w' g n (fun k=>f (n - 1 - k))∧Off (· = g) w w':=by
 have H:=zA h
 have HN:=zA hn
 have HUP:=zA hup
 clear h hup
 go_enter func323,ntmps323
 go_wp2_with fail
 go_loopw [7,8] (fun i j wr=>∃(a:Nat),a%20=0∧a≤n∧i=.int .i64 a∧j=.int .i64 ((a:Int)+20)∧EvFn wr g n (fun k=>if k<a then SB 20 n f k else f k)∧Off (· = g) w wr) (fun i _ _=>100 - (intOf i).toNat)
 case atStart=>exact⟨0,rfl,by omega,rfl,rfl,H.out.congr (fun i hi=>by rw[if_neg (by omega)]),Off.refl _ _⟩
 case round=>
  obtain⟨a,ham,han,rfl,rfl,hr,ho⟩:=hrel
  have HR:=zA hr
  have HO:=zA ho
  have HAM:=zA ham
  have HAN:=zA han
  clear hr ho ham
  have b1:IntKind.i64.wrap ((a:Int)+20)=(a:Int)+20:=by rw[IntKind.wrap_i64];omega
  have b2:IntKind.i64.wrap ((a:Int)+20+20)=(a:Int)+20+20:=by rw[IntKind.wrap_i64];omega
  clear han
  by_cases hlt:a+20≤n
  ·have HAL:=zA hlt
   have g2:(a:Int)+20≤n:=by omega
   clear hlt
   go_wp2_with fail
   refine(uM g cap n a (a+20) _ wr HR.out HAL.out HAN.out (by omega) (fun i j h1 h2 h3=>by
    show((fun k=>if k<a then SB 20 n f k else f k) i).seq<((fun k=>if k<a then SB 20 n f k else f k) j).seq
    simp only[show ¬i<a by omega,show ¬j<a by omega,if_false]
    exact HUP.out i j h2 (by have:=HAL.out;omega))).mono ?_
   rintro x w1 ⟨rfl,h1,h2⟩
   have HR1:=zA (h1.congr (fun i hi=>sb_ins n a f HAM.out HAL.out i hi))
   have HO1:=zA (HO.out.trans h2)
   clear h1 h2 HR HO
   go_wp2_with fail
   exact⟨⟨a+20,by have:=HAM.out;omega,HAL.out,rfl,rfl,HR1.out,HO1.out⟩,by simp[intOf];have:=HAL.out;omega⟩
  ·have HAL:=zA hlt
   have g2:¬(a:Int)+20≤n:=by omega
   clear hlt
   go_wp2_with fail
   refine(uM g cap n a n _ wr HR.out (Nat.le_refl _) HAN.out (by omega) (fun i j h1 h2 h3=>by
    show((fun k=>if k<a then SB 20 n f k else f k) i).seq<((fun k=>if k<a then SB 20 n f k else f k) j).seq
    simp only[show ¬i<a by omega,show ¬j<a by omega,if_false]
    exact HUP.out i j h2 h3)).mono ?_
   rintro x w1 ⟨rfl,h1,h2⟩
   have HR1:=zA (h1.congr (fun i hi=>sb_end n a f HAM.out (by have:=HAL.out;omega) i hi))
   have HO1:=zA (HO.out.trans h2)
   clear h1 h2 HR HO HAM HAN HAL g2 b1 b2
   go_wp2_with fail
   go_loopw [6] (fun i wr=>∃(B:Nat),(B=20∨B=40∨B=80)∧i=.int .i64 B∧EvFn wr g n (SB B n f)∧Off (· = g) w wr) (fun i _=>100 - (intOf i).toNat)
   case atStart=>exact⟨20,.inl rfl,rfl,HR1.out,HO1.out⟩
   case round=>
    clear HR1 HO1
    obtain⟨B,hB,rfl,hr,ho⟩:=hrel
    have HR:=zA hr
    have HO:=zA ho
    clear hr ho
    by_cases hB1:B<n
    ·rcases hB with rfl | rfl | rfl
     ·simp only[show(((20:Nat):Int))=20 from rfl]at *
      have g1:(20:Int)<n:=by omega
      have HB1:=zA hB1
      clear hB1
      go_wp2_with fail
      clear g1
      have HM:=zA (show 100 - (intOf (.int .i64 40)).toNat<100 - (intOf (.int .i64 20)).toNat by decide)
      go_loopw [7,8] (fun i j wr=>∃(a:Nat),a%40=0∧a≤n∧i=.int .i64 a∧j=.int .i64 ((a:Int)+40)∧EvFn wr g n (fun k=>if k<a then SB 40 n f k else SB 20 n f k)∧Off (· = g) w wr) (fun i _ _=>100 - (intOf i).toNat)
      case atStart=>exact⟨0,rfl,by omega,rfl,rfl,HR.out.congr (fun i hi=>by rw[if_neg (by omega)]),HO.out⟩
      case round=>
       clear HR HO
       obtain⟨a,ham,han,rfl,rfl,hr,ho⟩:=hrel
       have HR:=zA hr
       have HO:=zA ho
       have HAM:=zA ham
       have HAN:=zA han
       clear hr ho ham han
       have b1:IntKind.i64.wrap ((a:Int)+20)=(a:Int)+20:=by rw[IntKind.wrap_i64];have:=HAN.out;have:=HN.out;omega
       have b2:IntKind.i64.wrap ((a:Int)+40)=(a:Int)+40:=by rw[IntKind.wrap_i64];have:=HAN.out;have:=HN.out;omega
       have b3:IntKind.i64.wrap ((a:Int)+40+40)=(a:Int)+40+40:=by rw[IntKind.wrap_i64];have:=HAN.out;have:=HN.out;omega
       by_cases hlt:a+40≤n
       ·have HAL:=zA hlt
        have g2:(a:Int)+40≤n:=by omega
        clear hlt
        go_wp2_with fail
        refine(wA _ g cap n a (a+20) (a+40) _ wr (Nat.le_refl _) HR.out (by omega) (by omega) HAL.out (by have:=HN.out;omega) (fun i j h1 h2 h3 h4=>sb_up20 n a f HUP.out HAM.out _ HAL.out (Nat.le_refl _) i j h1 h2 h3 h4)).mono ?_
        rintro x w1 ⟨rfl,h1,h2⟩
        have HR1:=zA (h1.congr (fun i hi=>sb_mix20 n a f HAM.out HAL.out i hi))
        have HO1:=zA (HO.out.trans h2)
        clear h1 h2 HR HO
        go_wp2_with fail
        exact⟨⟨a+40,by have:=HAM.out;omega,HAL.out,rfl,rfl,HR1.out,HO1.out⟩,by simp[intOf];have:=HAL.out;have:=HN.out;omega⟩
       ·have HAL:=zA hlt
        have g2:¬(a:Int)+40≤n:=by omega
        clear hlt
        by_cases hm:a+20<n
        ·have HMM:=zA hm
         have g3:(a:Int)+20<n:=by omega
         clear hm
         go_wp2_with fail
         refine(wA _ g cap n a (a+20) n _ wr (Nat.le_refl _) HR.out (by omega) HMM.out (Nat.le_refl _) (by have:=HN.out;omega) (fun i j h1 h2 h3 h4=>sb_up20 n a f HUP.out HAM.out _ (Nat.le_refl _) (by have:=HAL.out;omega) i j h1 h2 h3 h4)).mono ?_
         rintro x w1 ⟨rfl,h1,h2⟩
         have HR1:=zA (h1.congr (fun i hi=>sb_last20 n a f HAM.out HMM.out (by have:=HAL.out;omega) i hi))
         have HO1:=zA (HO.out.trans h2)
         clear h1 h2 HR HO
         go_wp2_with fail
         exact⟨⟨40,by omega,rfl,HR1.out,HO1.out⟩,HM.out⟩
        ·have HMM:=zA hm
         have g3:¬(a:Int)+20<n:=by omega
         clear hm
         go_wp2_with fail
         exact⟨⟨40,by omega,rfl,HR.out.congr (fun i hi=>sb_none20 n a f HAM.out (by have:=HMM.out;omega) i hi),HO.out⟩,HM.out⟩
     ·simp only[show(((40:Nat):Int))=40 from rfl]at *
      have g1:(40:Int)<n:=by omega
      have HB1:=zA hB1
      clear hB1
      go_wp2_with fail
      clear g1
      have HM:=zA (show 100 - (intOf (.int .i64 80)).toNat<100 - (intOf (.int .i64 40)).toNat by decide)
      go_loopw [7,8] (fun i j wr=>∃(a:Nat),a%80=0∧a≤n∧i=.int .i64 a∧j=.int .i64 ((a:Int)+80)∧EvFn wr g n (fun k=>if k<a then SB 80 n f k else SB 40 n f k)∧Off (· = g) w wr) (fun i _ _=>100 - (intOf i).toNat)
      case atStart=>exact⟨0,rfl,by omega,rfl,rfl,HR.out.congr (fun i hi=>by rw[if_neg (by omega)]),HO.out⟩
      case round=>
       clear HR HO
       obtain⟨a,ham,han,rfl,rfl,hr,ho⟩:=hrel
       have HR:=zA hr
       have HO:=zA ho
       have HAM:=zA ham
       have HAN:=zA han
       clear hr ho ham han
       have b1:IntKind.i64.wrap ((a:Int)+40)=(a:Int)+40:=by rw[IntKind.wrap_i64];have:=HAN.out;have:=HN.out;omega
       have b2:IntKind.i64.wrap ((a:Int)+80)=(a:Int)+80:=by rw[IntKind.wrap_i64];have:=HAN.out;have:=HN.out;omega
       have b3:IntKind.i64.wrap ((a:Int)+80+80)=(a:Int)+80+80:=by rw[IntKind.wrap_i64];have:=HAN.out;have:=HN.out;omega
       by_cases hlt:a+80≤n
       ·have HAL:=zA hlt
        have g2:(a:Int)+80≤n:=by omega
        clear hlt
        go_wp2_with fail
        refine(wA _ g cap n a (a+40) (a+80) _ wr (Nat.le_refl _) HR.out (by omega) (by omega) HAL.out (by have:=HN.out;omega) (fun i j h1 h2 h3 h4=>sb_up40 n a f HUP.out HAM.out _ HAL.out (Nat.le_refl _) i j h1 h2 h3 h4)).mono ?_
        rintro x w1 ⟨rfl,h1,h2⟩
        have HR1:=zA (h1.congr (fun i hi=>sb_mix40 n a f HAM.out HAL.out i hi))
        have HO1:=zA (HO.out.trans h2)
        clear h1 h2 HR HO
        go_wp2_with fail
        exact⟨⟨a+80,by have:=HAM.out;omega,HAL.out,rfl,rfl,HR1.out,HO1.out⟩,by simp[intOf];have:=HAL.out;have:=HN.out;omega⟩
       ·have HAL:=zA hlt
        have g2:¬(a:Int)+80≤n:=by omega
        clear hlt
        by_cases hm:a+40<n
        ·have HMM:=zA hm
         have g3:(a:Int)+40<n:=by omega
         clear hm
         go_wp2_with fail
         refine(wA _ g cap n a (a+40) n _ wr (Nat.le_refl _) HR.out (by omega) HMM.out (Nat.le_refl _) (by have:=HN.out;omega) (fun i j h1 h2 h3 h4=>sb_up40 n a f HUP.out HAM.out _ (Nat.le_refl _) (by have:=HAL.out;omega) i j h1 h2 h3 h4)).mono ?_
         rintro x w1 ⟨rfl,h1,h2⟩
         have HR1:=zA (h1.congr (fun i hi=>sb_last40 n a f HAM.out HMM.out (by have:=HAL.out;omega) i hi))
         have HO1:=zA (HO.out.trans h2)
         clear h1 h2 HR HO
         go_wp2_with fail
         exact⟨⟨80,by omega,rfl,HR1.out,HO1.out⟩,HM.out⟩
        ·have HMM:=zA hm
         have g3:¬(a:Int)+40<n:=by omega
         clear hm
         go_wp2_with fail
         exact⟨⟨80,by omega,rfl,HR.out.congr (fun i hi=>sb_none40 n a f HAM.out (by have:=HMM.out;omega) i hi),HO.out⟩,HM.out⟩
     ·omega
    ·have HBD:=zA hB
     have g1:¬(B:Int)<n:=by omega
     have HB2:=zA (show n≤B by omega)
     clear hB hB1
     go_wp2_with fail
     exact yD results323 ⟨rfl,HR.out.congr (fun k hk=>sb_done B n f HBD.out HB2.out k hk),HO.out⟩
instance:Inhabited Pl.Ev:=⟨⟨0,0,0,0,0,0,0,0,0,0,0,0,0⟩⟩
theorem sI (w:World):Calls prog 366 #[.slice none 0 0,.int .i64 0,.int .i64 0,(Qm 261)] w fun r w'=>r=.returned (.tuple #[])∧w=w':=by
 go_enter func366,ntmps366
 go_wp2_with fail
 go_loopw [8] (fun i wr=>i=.int .i64 1∧w=wr) (fun i _=>0)
 case atStart=>exact⟨rfl,rfl⟩
 case round=>
  obtain⟨rfl,rfl⟩:=hrel
  go_wp2_with fail
  exact yD results366 ⟨rfl,rfl⟩
theorem rP (w:World):Calls prog 323 #[.slice none 0 0,.int .i64 0,(Qm 261)] w fun r w'=>r=.returned (.tuple #[])∧w=w':=by
 go_enter func323,ntmps323
 go_wp2_with fail
 go_loopw [7,8] (fun i j wr=>i=.int .i64 0∧j=.int .i64 20∧w=wr) (fun i _ _=>0)
 case atStart=>exact⟨rfl,rfl,rfl⟩
 case round=>
  obtain⟨rfl,rfl,rfl⟩:=hrel
  go_wp2_with fail
  refine(sI w).mono ?_
  rintro x w1 ⟨rfl,rfl⟩
  go_wp2_with fail
  go_loopw [6] (fun i wr=>i=.int .i64 20∧w=wr) (fun i _=>0)
  case atStart=>exact⟨rfl,rfl⟩
  case round=>
   obtain⟨rfl,rfl⟩:=hrel
   go_wp2_with fail
   exact yD results323 ⟨rfl,rfl⟩
theorem evsort_nil (w:World):Calls prog 262 #[.slice none 0 0,(Qm 261)] w fun r w'=>r=.returned (.tuple #[])∧w=w':=by
 go_enter func262,ntmps262
 go_wp2_with fail
 refine(rP w).mono ?_
 rintro x w1 ⟨rfl,rfl⟩
 go_wp2_with fail
 exact yD results262 ⟨rfl,rfl⟩
theorem evsort_core (g cap n:Nat) (f:Nat→Pl.Ev) (w:World) (h:EvFn w g n f) (hn:n≤80) (hup:Up n f) :
  Calls prog 262 #[.slice (some ⟨g,0,none⟩) n cap,(Qm 261)] w fun r w'=>r=.returned (.tuple #[])∧EvFn w' g n (fun k=>f (n - 1 - k))∧Off (· = g) w w':=by
 have HS:=zA (stable_ok g cap n f w h hn hup)
 clear h hn hup
 go_enter func262,ntmps262
 go_wp2_with fail
 refine HS.out.mono ?_
 rintro x w1 ⟨rfl,h1,h2⟩
 have H1:=zA h1
 have H2:=zA h2
 clear h1 h2 HS
 go_wp2_with fail
 exact yD results262 ⟨rfl,H1.out,H2.out⟩
def evAt (l:List Pl.Ev) (i:Nat):Pl.Ev:=(l[i]?).getD default
theorem vK {l:List Pl.Ev} {i:Nat} (h:i<l.length):evAt l i=l[i]:=by unfold evAt;rw[List.getElem?_eq_getElem h];rfl
theorem evFn_of {w:World} {base g cap:Nat} {l:List Pl.Ev} (h:OwnR kEv base w (.slice (some ⟨g,0,none⟩) l.length cap) l):EvFn w g l.length (evAt l):=by
 obtain⟨_,h | ⟨g',cap',cur,hv,hb,hg,_,hcm,hcs,ht⟩⟩:=h
 ·cases h.1
 ·cases hv
  refine⟨cur,hg,?_,fun i hi j hj=>?_⟩
  ·have h1:=congrArg List.length ht
   rw[List.length_take,kEv.encs_length]at h1
   have:cur.toList.length=cur.size:=by simp
   have hk:kEv.k=14:=rfl
   rw[hk]at h1
   omega
  ·have hlt:i*14+j<l.length*kEv.k:=by rw[show kEv.k=14 from rfl];omega
   have h2:(kEv.encs l)[i*14+j]?=cur.toList[i*14+j]?:=by
    rw[←ht,List.getElem?_take,if_pos hlt]
   rw[vK hi,←kEv.encs_get l i j hi hj]
   rw[show i*kEv.k+j=i*14+j from rfl,h2]
   simp
theorem EvFn.row {w:World} {g cap n:Nat} {f:Nat→Pl.Ev} (l:List Pl.Ev) (h:EvFn w g n f) (hl:l.length≤n) (hf:∀i (h:i<l.length),f i=l[i]):RowT kEv w (.slice (some ⟨g,0,none⟩) l.length cap) l:=by
 obtain⟨cs,hg,hs,hc⟩:=h
 refine⟨_,cap,rfl,(fun e=>by cases e),fun i hi=>⟨g,0,cs,(0,0),rfl,hg,fun j hj=>?_⟩⟩
 have:=hc i (by omega) j hj
 rw[hf i hi]at this
 rw[Nat.zero_add]
 exact this
theorem evsort_ok (g cap base:Nat) (l:List Pl.Ev) (w:World) (h:OwnR kEv base w (.slice (some ⟨g,0,none⟩) l.length cap) l) (hn:l.length≤80) (hup:l.Pairwise (fun a b=>a.seq<b.seq)) :
  Calls prog 262 #[.slice (some ⟨g,0,none⟩) l.length cap,(Qm 261)] w fun r w'=>r=.returned (.tuple #[])∧EvFn w' g l.length (evAt l.reverse)∧Off (· = g) w w':=by
 refine(evsort_core g cap l.length (evAt l) w (evFn_of h) hn (fun i j hij hj=>?_)).mono ?_
 ·rw[vK (by omega),vK hj]
  exact List.pairwise_iff_getElem.1 hup i j (by omega) hj hij
 ·rintro x w1 ⟨rfl,h1,h2⟩
  refine⟨rfl,h1.congr (fun i hi=>?_),h2⟩
  rw[vK (show l.length - 1 - i<l.length by omega),vK (by simpa using hi),List.getElem_reverse]
namespace Pl
def smps (es:List Ev) (work node:Int):List Ev:=es.filter (fun e=>e.kind == 1&&e.work == work&&e.node == node)
theorem smps_succ (es:List Ev) (work node:Int) (k:Nat) (h:k<es.length):smps (es.take (k+1)) work node=smps (es.take k) work node++smps [es[k]] work node:=by
 unfold smps
 rw[List.take_succ_eq_append_getElem h,List.filter_append]
theorem smps_len (es:List Ev) (work node:Int):(smps es work node).length≤es.length:=List.length_filter_le _ _
end Pl
theorem wof_ok (v:Value) (es:List Pl.Ev) (work node:Int) (size:Nat) (w:World) (h:RowC kEv w v es) (hn:es.length≤1000) (hs:(Pl.smps es work node).length≤80) (hup:(Pl.smps es work node).Pairwise (fun a b=>a.seq<b.seq)) :
  Calls prog 170 #[v,.int .i64 work,.int .i64 node,.int .i64 size] w fun r w'=>∃v',r=.returned v'∧RowT kEv w' v' ((Pl.smps es work node).reverse.take size)∧Below w.heap.size w w':=by
 obtain⟨ao,cap,rfl⟩:=h.form
 have HR:=zA h
 have HLE:=zA hn
 have HS:=zA hs
 have HUP:=zA hup
 clear h hn hs hup
 go_enter func170,ntmps170
 go_wp2_with fail
 go_loopw [9,15] (fun u i wr=>∃(k:Nat),k≤es.length∧i=.int .i64 k∧OwnR kEv w.heap.size wr u (Pl.smps (es.take k) work node)∧Below w.heap.size w wr) (fun _ i _=>es.length - (intOf i).toNat)
 case atStart=>exact⟨0,by omega,rfl,yH _ _ _,Below.refl _ _⟩
 case round=>
  obtain⟨k,hk,rfl,ho,hb⟩:=hrel
  by_cases hlt:k<es.length
  ·obtain⟨g,off,cap',e1,hg,c0,c1,c2,c3,c4,c5,c6,c7,c8,c9,c10,c11,c12,c13⟩:=xX (HR.out.below hb) hlt
   cases e1
   have a1:(k:Int)+1≤9223372036854775807:=by have:=HLE.out;omega
   have b2:=bn wr (.cells (es[k]) 175)
   have HNX:=zA (Pl.smps_succ es work node k hlt)
   have HLK:=zA (show(Pl.smps (es.take k) work node).length≤k from Nat.le_trans (Pl.smps_len _ _ _) (by rw[List.length_take];omega))
   have HBA:=zA (hb.trans (b2.mono hb.size))
   have HO:=zA (ho.below b2)
   have rW:=heap_alloc_new wr (.cells (es[k]) 175)
   clear b2 ho hb
   generalize es[k]=ev at *
   have d0:=cc 0 rW
   have d1:=cc 1 rW
   have d2:=cc 2 rW
   have d3:=cc 3 rW
   have d4:=cc 4 rW
   have d5:=cc 5 rW
   have d6:=cc 6 rW
   have d7:=cc 7 rW
   have d8:=cc 8 rW
   have d9:=cc 9 rW
   have d10:=cc 10 rW
   have d11:=cc 11 rW
   have d12:=cc 12 rW
   have d13:=cc 13 rW
   have qI:=zA rW
   clear rW
   cases hk1:(ev.kind == 1)with
   | false=>
    have pY:=zA (show Pl.smps [ev] work node=[] by simp[Pl.smps,hk1])
    go_wp2_with fail
    exact⟨⟨k+1,by omega,rfl,by rw[HNX.out,pY.out,List.append_nil];exact HO.out,HBA.out⟩,by simp[intOf];omega⟩
   | true=>
    cases hk2:(ev.work == work)with
    | false=>
     have pY:=zA (show Pl.smps [ev] work node=[] by simp[Pl.smps,hk2])
     go_wp2_with fail
     exact⟨⟨k+1,by omega,rfl,by rw[HNX.out,pY.out,List.append_nil];exact HO.out,HBA.out⟩,by simp[intOf];omega⟩
    | true=>
     cases hk3:(ev.node == node)with
     | false=>
      have pY:=zA (show Pl.smps [ev] work node=[] by simp[Pl.smps,hk3])
      go_wp2_with fail
      exact⟨⟨k+1,by omega,rfl,by rw[HNX.out,pY.out,List.append_nil];exact HO.out,HBA.out⟩,by simp[intOf];omega⟩
     | true=>
      have Hone:=zA (show Pl.smps [ev] work node=[ev] by simp[Pl.smps,hk1,hk2,hk3])
      go_wp2_with fail
      have hid:(wr.alloc (.cells ev 175)).setCell ⟨wr.heap.size,13,none⟩ (.slice none 0 0)=wr.alloc (.cells ev 175):=zL qI.out (j:=13) (v:=.slice none 0 0) rfl
      have fz:=zB qI.out 13
      clear qI
      generalize wr.alloc (.cells ev 175)=W2 at *
      refine(xL W2).mono ?_
      rintro x w2 ⟨rfl,rfl⟩
      have b8:=bn W2 (.cells (eva ev) 175)
      have HO8:=zA (HO.out.below b8)
      have HB8:=zA (HBA.out.trans (b8.mono HBA.out.size))
      have qC:=zA (yJ kEv W2 [ev] (eva ev) 1 rfl (by simp[Rk.encs,kEv]))
      clear b8
      go_wp2_with (
       at_builtin
       refine yT kEv rfl (.tmp 39) (.tmp 41) rfl rfl HO8.out rfl qC.out (by have:=HLK.out;have:=HLE.out;simp;omega) HB8.out HB8.out.size ?_
       intro v1 w1 hown1 hb1 hg0
       have HV1:=zA hown1
       have HBV:=zA hb1
       clear hown1 hb1 hg0)
      exact⟨⟨k+1,by omega,rfl,by rw[HNX.out,Hone.out];exact HV1.out,HBV.out⟩,by simp[intOf];omega⟩
  ·obtain rfl:k=es.length:=by omega
   rw[List.take_length]at ho
   have HO:=zA ho
   have HB:=zA hb
   clear hlt hk ho hb
   go_wp2_with fail
   rcases id HO.out.2 with⟨rfl,h0⟩ | ⟨g,cap',cur,rfl,hbg,hg,_,hcm,hcs,htk⟩
   ·have hnil:Pl.smps es work node=[]:=List.eq_nil_of_length_eq_zero h0
    refine(evsort_nil wr).mono ?_
    rintro x w2 ⟨rfl,rfl⟩
    have hw:Pl.within size 0 0=0:=by unfold Pl.within;(repeat' split)<;>omega
    go_wp2_with fail
    refine(within_any _ _ _ _).mono ?_
    rintro x w2 ⟨rfl,rfl⟩
    rw[hw]
    go_wp2_with fail
    go_ret
    refine⟨_,rfl,?_,HB.out⟩
    rw[hnil]
    simpa using uD kEv wr
   ·clear hg hcm hcs htk
    have HBG:=zA hbg
    clear hbg
    refine(evsort_ok g cap' w.heap.size _ wr HO.out HS.out HUP.out).mono ?_
    rintro x w2 ⟨rfl,hev,qZ⟩
    have HEV:=zA hev
    have HB2:=zA (qZ.since HB.out (fun q hq=>by rw[hq];exact HBG.out))
    clear hev qZ HO HUP
    generalize hS:Pl.smps es work node=S at *
    have HSS:=zA hS
    clear hS
    obtain⟨m,hm⟩:∃m,m=min size S.length:=⟨_,rfl⟩
    have hw:Pl.within size 0 S.length=(m:Int):=by unfold Pl.within;(repeat' split)<;>omega
    have hm2:(m:Int)≤S.length:=by omega
    go_wp2_with fail
    refine(within_any _ _ _ _).mono ?_
    rintro x w3 ⟨rfl,rfl⟩
    rw[hw]
    clear hw
    go_wp2_with fail
    go_ret
    refine⟨_,rfl,?_,HB2.out⟩
    rw[HSS.out]
    have hlen:(S.reverse.take size).length=min size S.length:=by rw[List.length_take,List.length_reverse]
    have rZ:=EvFn.row (cap:=cap') (S.reverse.take size) HEV.out (by rw[hlen];omega) (fun i hi=>by
     rw[hlen]at hi
     rw[vK (by rw[List.length_reverse];omega),List.getElem_take])
    rw[hlen]at rZ
    exact rZ
theorem tadd_ok (t:Nat) (sum:Int) (n:Nat) (x:Int) (w:World) (h:w.heap[t]?=some (.cells (Qi sum n) 177 (0,0))) (hn:n≤1000) :
  Calls prog 98 #[Qp t,.int .i64 x] w fun r w'=>r=.returned (.tuple #[])∧w'.heap[t]?=some (.cells (Qi (Pl.add sum x) ((n+1:Nat):Int)) 177 (0,0))∧Off (· = t) w w':=by
 have H:=zA h
 have c0:=cc 0 h
 have c1:=cc 1 h
 have hn1:(n:Int)≤1000:=by omega
 clear h hn
 go_enter func98,ntmps98
 go_wp2_with fail
 refine(add_any _ _ _).mono ?_
 rintro r w1 ⟨rfl,b1⟩
 have h1:=(b1.block _ (gsi.1 H.out).1).trans H.out
 have HO:=zA (Off.of_below (F:=(· = t)) b1)
 have H1:=zA h1
 clear c0 c1 b1
 have c0:=cc 0 h1
 have c1:=cc 1 h1
 have f0:=zB h1 0
 have f1:=zB h1 1
 clear h1
 go_wp2_with fail
 have hz:=xA [.int .i64 (Pl.add sum x),.int .i64 ((n:Int)+1)] H1.out rfl
 have ho:=Off.setCells HO.out t 0 [.int .i64 (Pl.add sum x),.int .i64 ((n:Int)+1)] rfl
 exact yD results98 ⟨rfl,hz,ho⟩
namespace Pl
def sumOf (l:List Ev):Int:=l.foldl (fun s e=>add s e.value) 0
theorem sumOf_succ (l:List Ev) (k:Nat) (h:k<l.length):sumOf (l.take (k+1))=add (sumOf (l.take k)) (l[k]).value:=by
 unfold sumOf
 rw[List.take_succ_eq_append_getElem h,List.foldl_append];rfl
def lastOf (es:List Ev) (work node:Int) (size:Nat):List Ev:=(smps es work node).reverse.take size
def meanOf (l:List Ev):Int:=ceilQ (sumOf l) l.length
def hasOf (l:List Ev):Bool:=ceilE (l.length:Int) == 0
def loadStep (es:List Ev) (work:Int) (size:Nat) (a:Int×Nat) (node:Nat):Int×Nat:=if hasOf (lastOf es work node size)then(add a.1 (meanOf (lastOf es work node size)),a.2+1)else a
def loadOf (es:List Ev) (work:Int) (size k:Nat):Int×Nat:=(List.range k).foldl (loadStep es work size) (0,0)
theorem loadOf_succ (es:List Ev) (work:Int) (size k:Nat):loadOf es work size (k+1)=loadStep es work size (loadOf es work size k) k:=by
 unfold loadOf
 rw[List.range_succ,List.foldl_append];rfl
theorem loadOf_le (es:List Ev) (work:Int) (size:Nat):∀k,(loadOf es work size k).2≤k
 | 0=>Nat.le_refl _
 | k+1=>by
  rw[loadOf_succ]
  have:=loadOf_le es work size k
  unfold loadStep
  split<;>(try simp only[])<;>omega
end Pl
theorem mean_ok (v:Value) (es:List Pl.Ev) (work node:Int) (size:Nat) (w:World) (h:RowC kEv w v es) (hn:es.length≤1000) (hs:(Pl.smps es work node).length≤80) (hup:(Pl.smps es work node).Pairwise (fun a b=>a.seq<b.seq)) :
  Calls prog 99 #[v,.int .i64 work,.int .i64 node,.int .i64 size] w fun r w'=>r=.returned (.tuple #[.int .i64 (Pl.meanOf (Pl.lastOf es work node size)),.bool (Pl.hasOf (Pl.lastOf es work node size))])∧Below w.heap.size w w':=by
 have b1:=bn w (.cells (Qi 0 0) 177)
 have HOF:=zA (wof_ok v es work node size _ (h.below b1) hn hs hup)
 have HX:=zA (heap_alloc_new w (.cells (Qi 0 0) 177))
 have HB:=zA b1
 have HL:=zA (show(Pl.lastOf es work node size).length≤80 by unfold Pl.lastOf;rw[List.length_take,List.length_reverse];omega)
 obtain⟨ao,cap,rfl⟩:=h.form
 clear h hn hs hup b1
 go_enter func99,ntmps99
 go_wp2_with fail
 generalize w.alloc (.cells (Qi 0 0) 177)=W at *
 refine HOF.out.mono ?_
 rintro x w1 ⟨v1,rfl,hr,b1⟩
 change RowT kEv w1 v1 (Pl.lastOf es work node size)at hr
 generalize hl:Pl.lastOf es work node size=l at *
 have HLL:=zA hl
 clear hl
 obtain⟨ao1,cap1,rfl⟩:=hr.form
 have HR:=zA hr
 have HX1:=zA ((b1.block _ (gsi.1 HX.out).1).trans HX.out)
 have HB1:=zA (HB.out.trans (b1.mono HB.out.size))
 have HW1:=zA (show w.heap.size<w1.heap.size from Nat.lt_of_lt_of_le (gsi.1 HX.out).1 b1.size)
 clear hr b1 HOF HX HB
 go_wp2_with fail
 go_loopw [21] (fun i wr=>∃(k:Nat),k≤l.length∧i=.int .i64 k∧wr.heap[w.heap.size]?=some (.cells (Qi (Pl.sumOf (l.take k)) k) 177 (0,0))∧Off (· = w.heap.size) w1 wr) (fun i _=>l.length - (intOf i).toNat)
 case atStart=>exact⟨0,by omega,rfl,HX1.out,Off.refl _ _⟩
 case round=>
  obtain⟨k,hk,rfl,hx,ho⟩:=hrel
  by_cases hlt:k<l.length
  ·obtain⟨g,off,cap',e1,hg,c0,c1,c2,c3,c4,c5,c6,c7,c8,c9,c10,c11,c12,c13⟩:=xX (RowT.keep (w':=wr) HR.out (fun g cs fr hg=>ho.same g (gsi.1 hg).1 (fun e=>by
    rw[show g=w.heap.size from e,HX1.out]at hg;exact zI (by decide) hg))).toC hlt
   cases e1
   have a1:(k:Int)+1≤9223372036854775807:=by have:=HL.out;omega
   have b2:=bn wr (.cells (l[k]) 175)
   have rW:=heap_alloc_new wr (.cells (l[k]) 175)
   have hx2:=(b2.block _ (gsi.1 hx).1).trans hx
   have HADD:=zA (tadd_ok w.heap.size _ k (l[k]).value _ hx2 (by have:=HL.out;omega))
   have HSU:=zA (Pl.sumOf_succ l k hlt)
   have HOA:=zA (ho.trans (Off.of_below b2))
   clear b2 hx hx2 ho
   generalize l[k]=ev at *
   have d0:=cc 0 rW
   have d1:=cc 1 rW
   have d2:=cc 2 rW
   have d3:=cc 3 rW
   have d4:=cc 4 rW
   have d5:=cc 5 rW
   have d6:=cc 6 rW
   have d7:=cc 7 rW
   have d8:=cc 8 rW
   have d9:=cc 9 rW
   have d10:=cc 10 rW
   have d11:=cc 11 rW
   have d12:=cc 12 rW
   have d13:=cc 13 rW
   clear rW
   go_wp2_with fail
   generalize wr.alloc (.cells ev 175)=W2 at *
   refine HADD.out.mono ?_
   rintro x w3 ⟨rfl,hx3,o3⟩
   have HX3:=zA hx3
   have HO3:=zA (HOA.out.trans o3)
   clear hx3 o3 HADD
   go_wp2_with fail
   exact⟨⟨k+1,by omega,rfl,by rw[HSU.out];exact HX3.out,HO3.out⟩,by simp[intOf];omega⟩
  ·obtain rfl:k=l.length:=by omega
   rw[List.take_length]at hx
   have HBE:=zA (ho.since HB1.out (fun q hq=>Nat.le_of_eq hq.symm))
   have c0:=cc 0 hx
   have c1:=cc 1 hx
   clear hx ho hlt hk
   go_wp2_with fail
   refine(ceil_any _ _ _).mono ?_
   rintro x w3 ⟨rfl,rfl⟩
   go_wp2_with fail
   exact bodyPost_ret (v:=.tuple #[.int .i64 (Pl.ceilQ (Pl.sumOf l) l.length),.bool (Pl.ceilE l.length == 0)]) (by simp[results,results99,go_sem]) rfl ⟨by rw[HLL.out];rfl,HBE.out⟩
theorem load_ok (v:Value) (es:List Pl.Ev) (work:Int) (size:Nat) (w:World) (h:RowT kEv w v es) (hz:1≤size∧size≤16) (hn:es.length≤1000) (hs:∀node:Nat,node<8→(Pl.smps es work node).length≤80∧(Pl.smps es work node).Pairwise (fun a b=>a.seq<b.seq)) :
  Calls prog 42 #[v,.int .i64 work,.int .i64 size] w fun r w'=>r=.returned (.tuple (Qj (Pl.loadOf es work size 8).1 (Pl.loadOf es work size 8).2 0))∧Below w.heap.size w w':=by
 have hw:Pl.within size 1 16=size:=by unfold Pl.within;rw[if_neg (by omega),if_neg (by omega)]
 have hne:(((size:Int)) != size)=false:=by simp
 have HX:=zA (heap_alloc_new w (.cells (Qi 0 0) 177))
 have HB:=zA (bn w (.cells (Qi 0 0) 177))
 have HR:=zA (h.below (bn w (.cells (Qi 0 0) 177)))
 have HN:=zA hn
 have HS:=zA hs
 obtain⟨ao,cap,rfl⟩:=h.form
 clear h hn hs hz
 go_enter func42,ntmps42
 go_wp2_with fail
 refine(within_any _ _ _ _).mono ?_
 rintro x w1 ⟨rfl,rfl⟩
 rw[hw]
 clear hw
 go_wp2_with fail
 generalize hW:w.alloc (.cells (Qi 0 0) 177)=W at *
 clear hW hne
 go_loopw [19] (fun i wr=>∃(k:Nat),k≤8∧i=.int .i64 k∧wr.heap[w.heap.size]?=some (.cells (Qi (Pl.loadOf es work size k).1 (Pl.loadOf es work size k).2) 177 (0,0))∧Off (· = w.heap.size) W wr) (fun i _=>8 - (intOf i).toNat)
 case atStart=>exact⟨0,by omega,rfl,HX.out,Off.refl _ _⟩
 case round=>
  obtain⟨k,hk,rfl,hx,ho⟩:=hrel
  by_cases hlt:k<8
  ·have a1:(k:Int)<8:=by omega
   have HBW:=zA (ho.since HB.out (fun q hq=>Nat.le_of_eq hq.symm))
   have pG:=zA (mean_ok (.slice ao es.length cap) es work k size wr (RowT.keep (w':=wr) HR.out (fun g cs fr hg=>ho.same g (gsi.1 hg).1 (fun e=>by
    rw[show g=w.heap.size from e,HX.out]at hg;exact zI (by decide) hg))).toC HN.out (HS.out k hlt).1 (HS.out k hlt).2)
   have HSTEP:=zA (Pl.loadOf_succ es work size k)
   have HLE:=zA (Pl.loadOf_le es work size k)
   have HXX:=zA hx
   have HOO:=zA ho
   clear hx ho
   go_wp2_with fail
   refine pG.out.mono ?_
   rintro x w3 ⟨rfl,b3⟩
   have HX3:=zA ((b3.block _ (gsi.1 HXX.out).1).trans HXX.out)
   have HO3:=zA (HOO.out.trans (Off.of_below b3))
   clear b3 pG
   cases hhas:Pl.hasOf (Pl.lastOf es work k size)with
   | false=>
    go_wp2_with fail
    exact⟨⟨k+1,by omega,rfl,by rw[HSTEP.out];unfold Pl.loadStep;rw[hhas];exact HX3.out,HO3.out⟩,by simp[intOf];omega⟩
   | true=>
    go_wp2_with fail
    refine(tadd_ok w.heap.size _ _ _ w3 HX3.out (by have:=HLE.out;omega)).mono ?_
    rintro x w4 ⟨rfl,hx4,o4⟩
    have HX4:=zA hx4
    have HO4:=zA (HO3.out.trans o4)
    clear hx4 o4
    go_wp2_with fail
    exact⟨⟨k+1,by omega,rfl,by rw[HSTEP.out];unfold Pl.loadStep;rw[hhas];exact HX4.out,HO4.out⟩,by simp[intOf];omega⟩
  ·obtain rfl:k=8:=by omega
   have HBX:=zA (ho.since HB.out (fun q hq=>Nat.le_of_eq hq.symm))
   have c0:=cc 0 hx
   have c1:=cc 1 hx
   clear hx ho hlt hk
   go_wp2_with fail
   generalize hl1:(Pl.loadOf es work size 8).1=L1 at *
   generalize hl2:(Pl.loadOf es work size 8).2=L2 at *
   have HL1:=zA hl1
   have HL2:=zA hl2
   clear hl1 hl2
   refine zD (fun W'=>W'.cell? ⟨w.heap.size,0,none⟩=some (.int .i64 L1)∧W'.cell? ⟨w.heap.size,1,none⟩=some (.int .i64 L2)) 99 (by kernel_rfl) ⟨c0,c1⟩ (fun rV=>?_)
   refine tkp 0 35 rfl ?_
   refine tk 1 36 rfl (by intro wS hSw;have f1:=hSw.1;have f2:=hSw.2;clear hSw;go_simp;(try with_reducible rfl)) ?_
   refine tkp 2 37 rfl ?_
   refine tk 3 38 rfl (by intro wS hSw;have f1:=hSw.1;have f2:=hSw.2;clear hSw;go_simp;(try with_reducible rfl)) ?_
   refine tkp 4 6 rfl ?_
   refine tkp 5 7 rfl ?_
   refine tkp 6 8 rfl ?_
   refine wd ?_
   clear rV c0 c1
   go_wp2_with fail
   exact bodyPost_ret (v:=.tuple (Qj L1 (L2:Int) 0)) (by simp[results,results42,go_sem]) rfl ⟨by rw[HL1.out,HL2.out],HBX.out.trans ((Below.refl _ _).drew.mono HBX.out.size)⟩
end
end Go.Proofs.YtodlmbfbfaofcaaGreat
