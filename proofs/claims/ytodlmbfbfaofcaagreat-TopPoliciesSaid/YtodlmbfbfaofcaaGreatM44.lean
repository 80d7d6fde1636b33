/- TopPolicies, part 44. -/
import Derived.Test.YtodlmbfbfaofcaaGreatM43
open Go.Proofs.Tryz
namespace Go.Proofs.YtodlmbfbfaofcaaGreat
set_option linter.unusedVariables false
set_option linter.unusedSimpArgs false
set_option maxRecDepth 100000
set_option maxHeartbeats 16000000
section
open Go.RowKit Rw Rh
def OpsW (w:World) (la:Option Addr) (ln:Nat):Prop:=∀i,i<ln→∃g off,la=some ⟨g,off,none⟩∧g<w.heap.size∧∃K A B C q0 q1 q2 q3 q4 q5 q6:Int,w.rangeAt g (off+i*11) [.int .i64 K,.int .i64 A,.int .i64 B,.int .i64 C,.int .i64 q0,.int .i64 q1,.int .i64 q2,.int .i64 q3,.int .i64 q4,.int .i64 q5,.int .i64 q6]
def opO (K A C q0 q1 q2 q3 q4 q5 q6:Int):Nat→Int:=fun j=>match j with
 | 0=>K | 1=>A | 2=>0 | 3=>C | 4=>q0 | 5=>q1 | 6=>q2 | 7=>q3 | 8=>q4 | 9=>q5 | 10=>q6 | _=>0
theorem vL {P:Program} {op:Oper} {a:Act} {w:World} {K:Act→World→Prop} {Q:Exit→Act→World→Prop} (ty:TypeId) (x y:Operand) (ho:op.op=.store ty x y) (hd:op.dst=none) (b o:Nat) (cells:Array Value) (hx:a.eval x=.pointer (some ⟨b,o,none⟩)) (hy:a.eval y=.agg cells)
  (ht:w.there b o cells.size) (hi:(P.info? ty).map (·.size)=some cells.size) (h1:cells.all (·.oneCell')=true) (h:K a (w.setCells b o cells.toList)):op.wp P a w K Q:=
 wp_store_mid ty x y ho b o cells hx hy ht hi h1 (by rw[hd];exact h)
theorem run_inc {o:Oper} {a:Act} {w:World} (x:Operand) (ho:o.op=.binOp .add 3 x (.const (.int .i64 1)) 3) {X:Int} (hx:a.eval x=.int .i64 X) (h:0≤X∧X+1≤9223372036854775807):(execOp a.eval o).run prog w=.ok (.value (.int .i64 (X+1))) w:=by
 have h1:IntKind.i64.wrap (X+1)=X+1:=by rw[IntKind.wrap_i64];omega
 have h2:a.eval (.const (.int .i64 1))=.int .i64 1:=rfl
 simp[execOp,ho,hx,h2,binOp,eqGuard,Op.intArith,h1,Result.andThen]
section
variable {w2 wr w':World} {W P X:Nat} {wc:Wc} {d r:Nat→Value} {size:Int} {k wn:Nat} {F:Nat→Nat→Prop} {p:Nat→AgP} {c:Nat→Cf} {L E M:Nat→List Pl.Ev} {O:Nat→Nat→Int} (h:Smp w2 wr W P X wc d r size k wn F p c L E M O)
include h
theorem Smp.stored {a:Nat} (ha:a<8) (K A C q0 q1 q2 q3 q4 q5 q6:Int) (ev:Pl.Ev)
  (hw:w'=(wr.setCells X (a*11) [.int .i64 K,.int .i64 A,.int .i64 0,.int .i64 C,.int .i64 q0,.int .i64 q1,.int .i64 q2,.int .i64 q3,.int .i64 q4,.int .i64 q5,.int .i64 q6]).setCell ⟨X+1,a,none⟩ (.int .i64 ((M a).length+1))) :
  Smp w2 w' W P X wc d r size k wn F p c L E (put1 M a (M a++[ev])) (put1 O a (opO K A C q0 q1 q2 q3 q4 q5 q6)):=by
 have hlt:=h.last.lt
 have o1:∀(w0:World) vs,Off (fun g=>g=X∨g=X+1) w0 (w0.setCells X (a*11) vs):=fun w0 vs=>(yQ _ _ _).mono (fun g _ e=>.inl e)
 have o2:∀w0:World,Off (fun g=>g=X∨g=X+1) w0 (w0.setCell ⟨X+1,a,none⟩ (.int .i64 ((M a).length+1))):=fun w0=>(Off.refl _ w0).set (F:=fun g=>g=X∨g=X+1) (a:=⟨X+1,a,none⟩) (.inl (.inr rfl)) _
 subst hw
 refine h.wrote ((o1 _ _).trans (o2 _)) (Lasts.of ((h.last.ob.put ha (opO K A C q0 q1 q2 q3 q4 q5 q6)).keep ?_) (TbAt.put (h.last.tb.keep ((yQ _ _ _).same _ hlt.2 lD)) a ha _) ev)
 exact((Off.refl (fun g=>g=X+1) _).set (F:=fun g=>g=X+1) (a:=⟨X+1,a,none⟩) (.inl rfl) _).same X (Nat.lt_of_lt_of_le hlt.1 (o1 _ _).size) lD
theorem Smp.call (hr:∀i,i<wc.n→r i=.pointer (some ⟨(p i).a,0,none⟩)) (hk:k≤90) {K:Int} (hK:K=10∨K=11) (A C q0 q1 q2 q3 q4 q5 q6:Int) :
  Calls prog 8 #[Qp W,.agg (Qk K A 0 C q0 q1 q2 q3 q4 q5 q6)] wr fun x w'=>∃F',Off (fun g=>∃i,i<wc.n∧(F i g∨(p i).has g)) wr w'∧((∃e:Int,(e == 0)=false∧x=.returned (.int .i64 e)∧Smp w2 w' W P X wc d r size (k+1) wn F' p c L E M O)∨(∃(a:Nat) (ev:Pl.Ev) (E':Nat→List Pl.Ev),x=.returned (.int .i64 0)∧A=a∧a<wc.n∧Smp w2 w' W P X wc d r size (k+1) wn F' p c (put1 L a (L a++[ev])) E' M O∧Word (L a++[ev]) (opO K A C q0 q1 q2 q3 q4 q5 q6))):=by
 have fin:∀(Q:Nat→Pl.Ev→Prop),(∀a ev eh,a<wc.n→Q a ev→eh.abs=ev.abs→Words (L a++[ev]) (addE (E a) ev eh)∧Word (L a++[ev]) (opO K A C q0 q1 q2 q3 q4 q5 q6))→∀x w',StepI W P wc d r size k wn F p c L E A Q wr x w'→∃F',Off (fun g=>∃i,i<wc.n∧(F i g∨(p i).has g)) wr w'∧((∃e:Int,(e == 0)=false∧x=.returned (.int .i64 e)∧Smp w2 w' W P X wc d r size (k+1) wn F' p c L E M O)∨(∃(a:Nat) (ev:Pl.Ev) (E':Nat→List Pl.Ev),x=.returned (.int .i64 0)∧A=a∧a<wc.n∧Smp w2 w' W P X wc d r size (k+1) wn F' p c (put1 L a (L a++[ev])) E' M O∧Word (L a++[ev]) (opO K A C q0 q1 q2 q3 q4 q5 q6))):=by
  rintro Q hQ x w' ⟨F',⟨ho,hF⟩,hw,(⟨e,⟨he,_⟩,rfl,hR⟩ | ⟨a,ev,eh,rfl,rfl,ha,hq,hn,hab,hR⟩)⟩
  ·exact⟨F',ho,.inl ⟨e,by simpa using he,rfl,h.did ho hF hw hR h.words (Nat.le_succ_of_le h.tot)⟩⟩
  ·obtain⟨h1,h2⟩:=hQ a ev eh ha hq hab
   refine⟨F',ho,.inr ⟨a,ev,_,rfl,rfl,ha,h.did ho hF hw hR (fun i hi=>?_) (by rw[flatE_put1 _ _ _ _ ha];exact Nat.succ_le_succ h.tot),h2⟩⟩
   by_cases hia:i=a
   ·subst hia
    rw[zQ,zQ]
    exact h1
   ·rw[zO _ _ hia,zO _ _ hia]
    exact h.words i hi
 rcases hK with rfl | rfl
 ·refine(Ring.set h.wd hr h.ring hk A 0 C q0 q1 q2 q3 q4 q5 q6).mono (fin (fun a=>SetP (c a) (L a) (E a) 0 q0 q1 q2 q3 q4 q5 q6) ?_)
  rintro a ev eh ha ⟨_,s',rfl⟩ hab
  refine⟨(h.words a ha).step ((h.ring.ag a ha).eok) ⟨show(2:Int)≠1 by decide,rfl⟩ rfl rfl hab,?_⟩
  unfold Word
  rw[Pl.lastL_snoc]
  exact⟨fun _=>⟨_,List.mem_singleton.2 rfl,rfl,rfl,rfl,rfl,rfl,rfl,rfl,rfl⟩,fun h=>absurd rfl h⟩
 ·refine(Ring.del h.wd hr h.ring hk (fun i hi=>Nat.lt_of_le_of_lt (h.words i hi).len lD) A 0 C q0 q1 q2 q3 q4 q5 q6).mono (fin (fun a=>DelP (c a) (L a) (E a) 0) ?_)
  rintro a ev eh ha ⟨_,s',rfl⟩ hab
  refine⟨(h.words a ha).step ((h.ring.ag a ha).eok) ⟨show(3:Int)≠1 by decide,rfl⟩ rfl rfl hab,?_⟩
  unfold Word
  rw[Pl.lastL_snoc]
  refine⟨fun h=>absurd (show(11:Int)=10 from h) lF,fun _ e he=>?_⟩
  cases List.mem_singleton.1 he
  show(3:Int)≠2
  decide
end
theorem pol_walk (nodes disk nd0 mtu win kp salt seed c0 c1 c2:Int) (la:Option Addr) (ln lc:Nat) (w:World) (hin:OpsW w la ln) (hl:(ln:Int)≤9223372036854775807) :
  Calls prog 4 #[.agg (Qc nodes disk nd0 mtu win kp salt seed c0 c1 c2),.slice la ln lc] w fun e w'=>e=.returned (.bool true)∧Below w.heap.size w w':=by
 have b1:=bn w (.cells (Qc nodes disk nd0 mtu win kp salt seed c0 c1 c2) 28)
 have hx:=heap_alloc_new w (.cells (Qc nodes disk nd0 mtu win kp salt seed c0 c1 c2) 28)
 have HX:=zA hx
 have HB:=zA b1
 have HIN:=zA hin
 have HL:=zA hl
 clear b1 hx hin hl
 go_enter func4,ntmps4
 go_wp2_with fail
 generalize World.alloc w (.cells (Qc nodes disk nd0 mtu win kp salt seed c0 c1 c2) 28)=w1 at *
 refine(awake_ok w1).mono ?_
 rintro e w2 ⟨rfl,hb⟩
 have HX2:=zA (zC HX.out hb)
 have HB2:=zA (HB.out.trans (hb.mono HB.out.size))
 clear hb HX HB
 go_wp2_with (refine zI rfl 28 (.tmp 2) w.heap.size (Qc nodes disk nd0 mtu win kp salt seed c0 c1 c2) 28 (0,0) _ rfl rfl HX2.out underlying28 rfl lE ?_)
 refine(made_any nodes disk nd0 mtu win kp salt seed c0 c1 c2 la ln lc 60 w2 HL.out).mono ?_
 rintro e w3 (⟨⟨v,rfl⟩,hb⟩ | ⟨W,rfl,h1,P,wc,d,r,F,p,c,wn,h2,h3,h4,h5,h6,h7,hb,hfr⟩)
 ·have HB3:=zA (HB2.out.trans (hb.mono HB2.out.size))
  clear hb
  go_wp2_with fail
  go_ret
  exact⟨rfl,HB3.out⟩
 ·have b4:=(bn w3 (.cells (Array.replicate 88 (.int .i64 0)) 53))
  have b5:=b4.alloc b4.size (.cells (Array.replicate 8 (.int .i64 0)) 54)
  have hX:=zC (heap_alloc_new w3 (.cells (Array.replicate 88 (.int .i64 0)) 53)) (bn _ (.cells (Array.replicate 8 (.int .i64 0)) 54))
  have hY:=heap_alloc_new (w3.alloc (.cells (Array.replicate 88 (.int .i64 0)) 53)) (.cells (Array.replicate 8 (.int .i64 0)) 54)
  rw[show(w3.alloc (.cells (Array.replicate 88 (.int .i64 0)) 53)).heap.size=w3.heap.size+1 from zG _ _]at hY
  have HS0:=zA (Smp.start (w2:=w2) h5 h7 hb hfr b5 ⟨⟨_,hX,fun i hi j hj=>by rw[Array.getElem?_replicate,if_pos (by omega)]⟩,⟨_,hY,fun i hi=>by rw[Array.getElem?_replicate,if_pos hi];rfl⟩⟩)
  have HN:=zA (And.intro h1 (And.intro h2 (And.intro h3 (And.intro h4 h6))))
  clear h1 h2 h3 h4 h5 h6 h7 hb hfr b4 b5 hX hY
  go_wp2_with fail
  generalize hV:World.alloc (World.alloc w3 (Obj.cells _ 53)) (Obj.cells _ 54)=w4
  have HS1:=zA (show Smp w2 w4 W P w3.heap.size wc d r disk 0 wn F p c (fun _=>[]) (fun _=>[]) (fun _=>[]) (fun _ _=>0)from by rw[←hV];exact HS0.out)
  clear hV HS0
  have HM3:=zA (show w2.heap.size≤w3.heap.size from HS1.out.lm)
  go_loopw [29] (fun i wr=>∃(k:Nat) (F:Nat→Nat→Prop) (L E:Nat→List Pl.Ev) (O:Nat→Nat→Int),k≤ln∧i=.int .i64 k∧Smp w2 wr W P w3.heap.size wc d r disk k wn F p c L E L O∧∀i,Word (L i) (O i)) (fun i _=>ln - (intOf i).toNat)
  case atStart=>exact⟨0,F,_,_,_,Nat.zero_le _,rfl,HS1.out,fun i=>⟨fun h=>absurd (show(0:Int)=10 from h) lF,fun _ e he=>absurd he (by simp[Pl.lastL])⟩⟩
  case round=>
   obtain⟨k,F,L,E,O,hk,rfl,hS,hWO⟩:=hrel
   clear HS1
   by_cases hlt:k<ln
   ·have hbw:=HB2.out.trans (hS.below.mono HB2.out.size)
    obtain⟨g,off,hla,hg,K,A,B,C,q0,q1,q2,q3,q4,q5,q6,hr0⟩:=HIN.out k hlt
    subst hla
    have hrg:∀j u,[.int .i64 K,.int .i64 A,.int .i64 B,.int .i64 C,.int .i64 q0,.int .i64 q1,.int .i64 q2,.int .i64 q3,.int .i64 q4,.int .i64 q5,.int .i64 q6][j]?=some u→wr.cell? ⟨g,off+k*11+j,none⟩=some u:=fun j u hu=>(World.cell?_of_block (a:=⟨g,off+k*11+j,none⟩) (hbw.block g hg)).trans (hr0 j u hu)
    have hji:(k:Int)<ln:=by omega
    have h0:¬(k:Int)<0:=by omega
    have hS60:=HN.out.1
    have a1:(k:Int)+1≤9223372036854775807:=by omega
    have x0:wr.cell? ⟨g,off+k*11,none⟩=some (.int .i64 K):=hrg 0 _ rfl
    have x1:wr.cell? ⟨g,off+k*11+1,none⟩=some (.int .i64 A):=hrg 1 _ rfl
    have x2:wr.cell? ⟨g,off+k*11+2,none⟩=some (.int .i64 B):=hrg 2 _ rfl
    have x3:wr.cell? ⟨g,off+k*11+3,none⟩=some (.int .i64 C):=hrg 3 _ rfl
    have x4:wr.cell? ⟨g,off+k*11+4,none⟩=some (.int .i64 q0):=hrg 4 _ rfl
    have x5:wr.cell? ⟨g,off+k*11+5,none⟩=some (.int .i64 q1):=hrg 5 _ rfl
    have x6:wr.cell? ⟨g,off+k*11+6,none⟩=some (.int .i64 q2):=hrg 6 _ rfl
    have x7:wr.cell? ⟨g,off+k*11+7,none⟩=some (.int .i64 q3):=hrg 7 _ rfl
    have x8:wr.cell? ⟨g,off+k*11+8,none⟩=some (.int .i64 q4):=hrg 8 _ rfl
    have x9:wr.cell? ⟨g,off+k*11+9,none⟩=some (.int .i64 q5):=hrg 9 _ rfl
    have x10:wr.cell? ⟨g,off+k*11+10,none⟩=some (.int .i64 q6):=hrg 10 _ rfl
    have b5:=bn wr (.cells (Qk K A B C q0 q1 q2 q3 q4 q5 q6) 40)
    have o5:=heap_alloc_new wr (.cells (Qk K A B C q0 q1 q2 q3 q4 q5 q6) 40)
    have z0:=cc 0 o5
    have HO5:=zA o5
    have HB5:=zA b5
    have HK:=zA (And.intro hlt hk)
    have HS:=zA hS
    have HWO:=zA hWO
    clear hbw hr0 hrg b5 o5 hS hk hS60 hWO
    by_cases hK:K=10∨K=11
    ·have nK:(K != 10&&K != 11)=false:=by rcases hK with rfl | rfl<;>rfl
     clear nK
     have hKB:=hK
     have HKK:=zA hK
     clear hK hlt
     have f2:=zB HO5.out 2
     have z2:=cc 2 HO5.out
     have HO6:=zA (heap_alloc_new wr (.cells (Qk K A 0 C q0 q1 q2 q3 q4 q5 q6) 40))
     have HB6:=zA (bn wr (.cells (Qk K A 0 C q0 q1 q2 q3 q4 q5 q6) 40))
     rcases hKB with hKB | hKB
     case' inl=>
      have n10:(K != 10)=false:=by rw[hKB];rfl
      have m10:(K == 10)=true:=by rw[hKB];rfl
      clear hKB
      go_upto_region 12 with(refine zJ rfl 40 (.tmp 10) (.tmp 32) Qkl (Qk K A B C q0 q1 q2 q3 q4 q5 q6) rfl rfl _ rfl rfl rfl lE rfl lE rfl ?_)
      clear n10 m10
     case' inr=>
      have n10:(K != 10)=true:=by rw[hKB];rfl
      have m10:(K == 10)=false:=by rw[hKB];rfl
      have n11:(K != 11)=false:=by rw[hKB];rfl
      have m11:(K == 11)=true:=by rw[hKB];rfl
      clear hKB
      go_upto_region 12 with(refine zJ rfl 40 (.tmp 10) (.tmp 32) Qkl (Qk K A B C q0 q1 q2 q3 q4 q5 q6) rfl rfl _ rfl rfl rfl lE rfl lE rfl ?_)
      clear n10 m10 n11 m11
     all_goals
      go_wp2_with (refine zI rfl 40 (.tmp 10) wr.heap.size (Qk K A 0 C q0 q1 q2 q3 q4 q5 q6) 40 (0,0) _ rfl rfl HO6.out underlying40 rfl lE ?_)
      generalize World.alloc wr (.cells (Qk K A 0 C q0 q1 q2 q3 q4 q5 q6) 40)=w5 at *
      refine((HS.out.pass HB6.out (Nat.le_refl _)).call HN.out.2.2.2.2 (by have:=HN.out.1;have:=HK.out;omega) HKK.out A C q0 q1 q2 q3 q4 q5 q6).mono ?_
      rintro e w6 ⟨F',ho,(⟨e,e0,rfl,hS6⟩ | ⟨a,ev,E',rfl,rfl,ha,hS6,hWd⟩)⟩
      ·have HS6:=zA hS6
       clear ho hS6 HS HB5 HO5 HB6 HO6 z0 z2 f2
       go_wp2_with fail
       exact⟨⟨k+1,F',L,E,O,HK.out.1,rfl,HS6.out,HWO.out⟩,by simp[intOf];have:=HK.out;omega⟩
      ·have hn8:=HS.out.wd.n1
       have ha8:a<8:=by omega
       have htl:=(HS.out.ring.ag a ha).len
       have hO6:=(ho.same _ (gsi.1 HO6.out).1 (fun ⟨i,hi,hg⟩=>by have:=HS.out.ring.lt hi _ hg;omega)).trans HO6.out
       have HO7:=zA hO6
       have HS6:=zA hS6
       have HW6:=zA (show ∀i,Word (put1 L a (L a++[ev]) i) (put1 O a (opO K (a:Int) C q0 q1 q2 q3 q4 q5 q6) i)from fun i=>by
        by_cases hia:i=a
        ·subst hia
         rw[zQ,zQ]
         exact hWd
        ·rw[zO _ _ hia,zO _ _ hia]
         exact HWO.out i)
       have HT:=zA (And.intro ha8 htl)
       have HLT:=zA HS.out.last.lt
       have a0:¬(a:Int)<0:=by omega
       have a8:(a:Int)<8:=by omega
       have HIC:=zA (show 0≤((L a).length:Int)∧((L a).length:Int)+1≤9223372036854775807 by have:=HK.out;have:=HN.out.1;omega)
       clear ho HS HB5 HO5 HB6 HO6 z0 z2 f2 hO6 hS6 htl hWd hn8 ha ha8
       go_wp2_with fail
       have HSV:=zA (HS6.out.pass (Below.refl _ _).drew (Nat.le_refl _))
       refine zD (fun W'=>W'.heap[wr.heap.size]?=some (.cells (Qk K (a:Int) 0 C q0 q1 q2 q3 q4 q5 q6) 40 (0,0))) 99 lE (show w6.drew.heap[wr.heap.size]?=_ from HO7.out) (fun qB=>?_)
       generalize w6.drew=V at *
       refine tkp 0 46 rfl ?_
       refine tk 1 47 rfl kA ?_
       refine tkp 2 48 rfl ?_
       refine tk 3 49 rfl kA ?_
       refine tl 4 50 rfl 40 (.tmp 10) wr.heap.size rfl rfl (fun wS hSw=>hSw) underlying40 ?_
       refine tkp 5 51 rfl ?_
       refine tk 6 52 rfl kA ?_
       refine tkp 7 53 rfl ?_
       refine tkp 10 56 rfl ?_
       refine t2 8 11 rfl rfl (fun Kk hK=>?_) (fun Kk hK=>?_)
       ·have xt:=HSV.out.last.time HT.out.1
        go_simp
        refine hK.out _ _ (fun _=>qB) (fun _=>?_)
        clear hK Kk
        try simp only[pt,List.set]
        clear xt
        refine tk 9 55 rfl (fun wS _=>run_inc (.tmp 54) rfl rfl HIC.out) ?_
        refine t1 11 rfl (fun Kk hK=>?_)
        rw[if_pos (by rfl)]
        refine vL 40 (.tmp 56) (.tmp 50) rfl rfl w3.heap.size (a*11) (Qk K (a:Int) 0 C q0 q1 q2 q3 q4 q5 q6) rfl rfl (HSV.out.last.ob.there HT.out.1) lE lE ?_
        have hH8:(V.setCells w3.heap.size (a*11) [.int .i64 K,.int .i64 a,.int .i64 0,.int .i64 C,.int .i64 q0,.int .i64 q1,.int .i64 q2,.int .i64 q3,.int .i64 q4,.int .i64 q5,.int .i64 q6]).heap[wr.heap.size]?=_:=((yQ _ _ _).same wr.heap.size (gsi.1 qB).1 (by have:=HLT.out;omega)).trans qB
        refine hK.out _ _ (fun _=>hH8) (fun _=>?_)
        clear hK Kk
        try simp only[pt,List.set]
        exact oQ
       ·rw[if_pos (by rfl)]
        refine vL 40 (.tmp 56) (.tmp 50) rfl rfl w3.heap.size (a*11) (Qk K (a:Int) 0 C q0 q1 q2 q3 q4 q5 q6) rfl rfl (HSV.out.last.ob.there HT.out.1) lE lE ?_
        have hH8:(V.setCells w3.heap.size (a*11) [.int .i64 K,.int .i64 a,.int .i64 0,.int .i64 C,.int .i64 q0,.int .i64 q1,.int .i64 q2,.int .i64 q3,.int .i64 q4,.int .i64 q5,.int .i64 q6]).heap[wr.heap.size]?=_:=((yQ _ _ _).same wr.heap.size (gsi.1 qB).1 (by have:=HLT.out;omega)).trans qB
        refine hK.out _ _ (fun _=>hH8) (fun _=>?_)
        clear hK Kk
        try simp only[pt,List.set]
        refine t1 8 rfl (fun Kk hK=>?_)
        have xt:=((HSV.out.last.tb.keep ((yQ [.int .i64 K,.int .i64 a,.int .i64 0,.int .i64 C,.int .i64 q0,.int .i64 q1,.int .i64 q2,.int .i64 q3,.int .i64 q4,.int .i64 q5,.int .i64 q6] (a*11) V).same (w3.heap.size+1) HSV.out.last.lt.2 (Nat.succ_ne_self _))).cell HT.out.1).1
        go_simp
        refine hK.out _ _ (fun _=>hH8) (fun _=>?_)
        clear hK Kk
        try simp only[pt,List.set]
        clear xt
        refine tk 9 55 rfl (fun wS _=>run_inc (.tmp 54) rfl rfl HIC.out) ?_
        exact oQ
    ·have n10:(K == 10)=false:=by simp;omega
     have m10:(K != 10)=true:=by simp;omega
     have n11:(K == 11)=false:=by simp;omega
     have m11:(K != 11)=true:=by simp;omega
     clear hlt
     go_wp2_with (refine zJ rfl 40 (.tmp 10) (.tmp 32) Qkl (Qk K A B C q0 q1 q2 q3 q4 q5 q6) rfl rfl _ rfl rfl rfl lE rfl lE rfl ?_)
     exact⟨⟨k+1,F,L,E,O,HK.out.1,rfl,HS.out.pass HB5.out (Nat.le_succ _),HWO.out⟩,by simp[intOf];have:=HK.out;omega⟩
   ·obtain rfl:k=ln:=by omega
    obtain⟨x,hx,hM⟩:=hS.met
    have hlot:=hS.lot (by have:=HN.out.1;omega)
    have HM:=zA hM
    have HP:=zA (And.intro hlot.1 (And.intro hlot.2 (And.intro hS.words (And.intro hS.owns (And.intro (fun i hi=>(show r i=.pointer (some ⟨(x i).p.a,0,none⟩)from by rw[hx i hi];exact HN.out.2.2.2.2 i hi)) hWO)))))
    have HC:=zA (show ∀V,Below w2.heap.size w2 V→V.heap[w.heap.size]?=some (.cells (Qc nodes disk nd0 mtu win kp salt seed c0 c1 c2) 28 (0,0))from fun V hV=>(hV.block _ (gsi.1 HX2.out).1).trans HX2.out)
    clear hx hM hlot hS hk hlt HIN hWO
    go_wp2_with fail
    go_loopw [59] (fun i wr=>∃(t:Nat) (E':Nat→List Pl.Ev),t≤2∧i=.int .i64 t∧Met w2 wr W P w3.heap.size wc d r wn (ringAl L E wc.n) x E' L O∧Pl.Col (ringAl L E wc.n) wc.n (absE E) t 0 E') (fun i _=>2 - (intOf i).toNat)
    case atStart=>exact⟨0,absE E,by omega,rfl,HM.out,Pl.Col.start HP.out.2.1⟩
    case round=>
     obtain⟨t,E',ht,rfl,hM,hcol⟩:=hrel
     clear HM
     by_cases htl:t<2
     ·have t1:(t:Int)<2:=by omega
      have t2:(t:Int)+1≤9223372036854775807:=by omega
      have y0:=cc 0 (HC.out wr hM.below)
      rw[←HN.out.2.1]at y0
      have HT:=zA (And.intro htl ht)
      have HM:=zA hM
      have HCOL:=zA hcol
      clear hM hcol ht htl
      go_wp2_with fail
      clear y0
      go_loopw [63] (fun i wr=>∃(j:Nat) (E':Nat→List Pl.Ev),j≤wc.n∧i=.int .i64 j∧Met w2 wr W P w3.heap.size wc d r wn (ringAl L E wc.n) x E' L O∧Pl.Col (ringAl L E wc.n) wc.n (absE E) t j E') (fun i _=>wc.n - (intOf i).toNat)
      case atStart=>exact⟨0,E',Nat.zero_le _,rfl,HM.out,HCOL.out⟩
      case round=>
       obtain⟨j,E2,hj,rfl,hM,hcol⟩:=hrel
       clear HM HCOL
       have hn1:=hM.wd.n1
       by_cases hjl:j<wc.n
       ·have j1:(j:Int)<(wc.n:Int):=by omega
        have j2:(j:Int)+1≤9223372036854775807:=by omega
        have qF:∀e∈(ringAl L E wc.n).ev,∃i,i<wc.n∧e∈absE E i:=fun e he=>Pl.mem_flatE.1 he
        have hcall:Calls prog 8 #[Qp W,.agg (Qki 15 0 (j:Int))] wr fun e w'=>(∃z:Int,e=.returned (.int .i64 z))∧∃E3,Met w2 w' W P w3.heap.size wc d r wn (ringAl L E wc.n) x E3 L O∧Pl.Col (ringAl L E wc.n) wc.n (absE E) t (j+1) E3:=by
         by_cases hj0:j=0
         ·subst hj0
          refine(meet_self hM.wd 0 (x 0).p.a hjl (HP.out.2.2.2.2.1 0 hjl) 0 0 0 0 0 0 0 0).mono ?_
          rintro e w' ⟨hz,hb⟩
          exact⟨hz,E2,hM.pass hb,hcol.self hjl qF⟩
         ·refine(RingM.meet hM.wd HP.out.2.2.2.2.1 hM.ring HP.out.1 (fun i hi=>(hcol.part i hi).1) (a:=0) (b:=j) lD hjl lD 0 0 0 0 0 0 0 0).mono ?_
          rintro e w' ⟨rfl,ho,hw,E3,hR,hs⟩
          exact⟨⟨0,rfl⟩,E3,hM.did ho hw hR,hcol.step hjl hj0 hs qF⟩
        have pM:=zA hcall
        have HJ:=zA hjl
        clear hM hcol hcall hj qF hn1 hjl
        go_wp2_with fail
        refine pM.out.mono ?_
        rintro e w' ⟨⟨z,rfl⟩,E3,hM3,hc3⟩
        have HM3x:=zA (And.intro hM3 hc3)
        clear hM3 hc3 pM
        go_wp2_with fail
        exact⟨⟨j+1,E3,HJ.out,rfl,HM3x.out⟩,by simp[intOf];have:=HJ.out;omega⟩
       ·obtain rfl:j=wc.n:=by omega
        have hc2:=hcol.next (fun e he=>Pl.mem_flatE.1 he)
        have HM2:=zA (And.intro hM hc2)
        clear hM hcol hc2 hj hjl hn1
        go_wp2_with fail
        exact⟨⟨t+1,E2,HT.out.1,rfl,HM2.out⟩,by simp[intOf];have:=HT.out;omega⟩
     ·obtain rfl:t=2:=by omega
      have y0:=cc 0 (HC.out wr hM.below)
      rw[←HN.out.2.1]at y0
      have HM:=zA (And.intro hM hcol)
      clear hM hcol ht htl
      go_wp2_with fail
      clear y0
      generalize wr=wz at *
      have hmz:=HM.out.1
      have HQ:=zA (show ∀i:Nat,i<wc.n→∀V,Below wz.heap.size wz V→_ from fun i hi V hV=>Met.query (hmz.pass hV) HP.out.1 HM.out.2 HP.out.2.2.1 (fun i _=>HP.out.2.2.2.2.2 i) HP.out.2.2.2.1 i hi)
      have HAG:=zA (show ∀i:Nat,i<wc.n→∀V,Below wz.heap.size wz V→Calls prog 9 #[Qp W,.int .i64 i] V fun e w'=>e=.returned (Qp ((x i).p.a))∧V=w' from fun i hi V hV=>by
       have h:=uR W P wc d r i V (hmz.wd.below hV) hi
       rw[HP.out.2.2.2.2.1 i hi]at h
       exact h)
      have HTB:=zA (fun V (hV:Below wz.heap.size wz V)=>hmz.last.below hV)
      have HCC:=zA (fun V (hV:Below wz.heap.size wz V)=>HC.out V (hmz.below.trans (hV.mono hmz.below.size)))
      have HBW:=zA (HB2.out.trans (hmz.below.mono HB2.out.size))
      have HNN:=zA (And.intro hmz.wd.n1 HN.out.2.1)
      clear hmz HM HP HC HX2 HB2 HN HL HM3
      generalize w3.heap.size=X at *
      go_loopw [12,74] (fun b i wr=>∃j:Nat,j≤wc.n∧i=.int .i64 j∧Below wz.heap.size wz wr∧((b=.int .i64 (-1)∧∀i,i<j→O i 0≠10)∨∃bn:Nat,b=.int .i64 bn∧Best j L O bn)) (fun _ i _=>wc.n - (intOf i).toNat)
      case atStart=>exact⟨0,Nat.zero_le _,rfl,Below.refl _ _,.inl ⟨rfl,fun i hi=>by omega⟩⟩
      case round=>
       obtain⟨j,hj,rfl,hb,hbest⟩:=hrel
       have hn1:=HNN.out.1
       by_cases hjl:j<wc.n
       ·have j1:(j:Int)<(wc.n:Int):=by omega
        have j2:(j:Int)+1≤9223372036854775807:=by omega
        have j0:¬(j:Int)<0:=by omega
        have j8:(j:Int)<8:=by omega
        have hlt:=HTB.out wr hb
        have xk:=hlt.cell (i:=j) (j:=0) lD lD
        have xt:=hlt.time (i:=j) lD
        rw[Nat.add_zero]at xk
        have HJ:=zA hjl
        have HBJ:=zA hb
        by_cases h10:O j 0=10
        ·rcases hbest with⟨rfl,hno⟩ | ⟨bn,rfl,hbn⟩
         ·have HBST:=zA (show Best (j+1) L O j from⟨Nat.lt_succ_self _,h10,fun i hi hi10=>by
           by_cases hij:i=j
           ·subst hij;exact .inr ⟨rfl,Nat.le_refl _⟩
           ·exact absurd hi10 (hno i lD)⟩)
          rw[h10]at xk
          clear hb hj hjl hn1 hno h10 hlt
          exact nN
         ·have xb:=hlt.time (i:=bn) (by have:=hbn.1;omega)
          have b0:¬(bn:Int)<0:=by omega
          have b8:(bn:Int)<8:=by have:=hbn.1;omega
          rw[h10]at xk
          by_cases hge:(L bn).length≤(L j).length
          ·have HBST:=zA (show Best (j+1) L O j from⟨Nat.lt_succ_self _,h10,fun i hi hi10=>by
            by_cases hij:i=j
            ·subst hij;exact .inr ⟨rfl,Nat.le_refl _⟩
            ·have:=hbn.2.2 i lD hi10
             omega⟩)
           have hd:decide (((L j).length:Int) ≥ ((L bn).length:Int))=true:=by simp;omega
           have hd2:((L bn).length:Int)≤((L j).length:Int):=by omega
           clear hb hj hjl hn1 h10 hlt hbn hge
           exact nN
          ·have HBST:=zA (show Best (j+1) L O bn from⟨by have:=hbn.1;omega,hbn.2.1,fun i hi hi10=>by
            by_cases hij:i=j
            ·subst hij;exact .inl lD
            ·exact hbn.2.2 i lD hi10⟩)
           have HD1:=zA (show decide ((bn:Int)<0)=false from decide_eq_false lD)
           have HD2:=zA (show decide ((L bn).length≤(L j).length)=false from decide_eq_false hge)
           clear hb hj hjl hn1 h10 hlt hbn hge
           go_wp2_with fail
           go_quiet (fail)
           simp only[HD1.out,HD2.out,Bool.or_false]
           clear xt xb xk b0 b8
           go_wp2_with fail
           refine⟨?_,?_⟩
           ·(repeat apply Exists.intro)
            exact⟨⟨j+1,HJ.out,rfl,below_drewN HBJ.out _,.inr ⟨bn,rfl,HBST.out⟩⟩,rfl⟩
           ·simp[intOf];have:=HJ.out;omega
        ·have e10:(O j 0 == 10)=false:=by simpa using h10
         have HBST:=zA (show ∀b:Value,(b=.int .i64 (-1)∧∀i,i<j→O i 0≠10)∨(∃bn:Nat,b=.int .i64 bn∧Best j L O bn)→(b=.int .i64 (-1)∧∀i,i<j+1→O i 0≠10)∨∃bn:Nat,b=.int .i64 bn∧Best (j+1) L O bn from fun b hb=>by
          rcases hb with⟨e,hno⟩ | ⟨bn,e,hbn⟩
          ·exact .inl ⟨e,fun i hi=>by
            by_cases hij:i=j
            ·subst hij;exact h10
            ·exact hno i lD⟩
          ·exact .inr ⟨bn,e,by have:=hbn.1;omega,hbn.2.1,fun i hi hi10=>by
            by_cases hij:i=j
            ·subst hij;exact absurd hi10 h10
            ·exact hbn.2.2 i lD hi10⟩)
         have HBO:=zA hbest
         clear hb hj hjl hn1 h10 hlt hbest xt
         go_wp2_with fail
         go_quiet (fail)
         go_wp2_with fail
         refine⟨?_,?_⟩
         ·(repeat apply Exists.intro)
          exact⟨⟨j+1,HJ.out,rfl,below_drewN HBJ.out _,HBST.out _ HBO.out⟩,rfl⟩
         ·simp[intOf];have:=HJ.out;omega
       ·obtain rfl:j=wc.n:=by omega
        have y0:=cc 0 (HCC.out wr hb)
        rw[←HNN.out.2]at y0
        have HB:=zA (And.intro hb hbest)
        clear hb hbest hj hjl hn1
        rcases HB.out.2 with⟨rfl,hno⟩ | ⟨bn,rfl,hbn⟩
        ·have HNO:=zA hno
         clear hno
         have HBB:=zA HB.out.1
         clear HB
         go_wp2_with fail
         clear y0
         go_loopw [99] (fun i wr=>∃j:Nat,j≤wc.n∧i=.int .i64 j∧Below wz.heap.size wz wr) (fun i _=>wc.n - (intOf i).toNat)
         case atStart=>exact⟨0,Nat.zero_le _,rfl,HBB.out⟩
         case round=>
          obtain⟨j,hj,rfl,hb⟩:=hrel
          clear HBB
          have hn1:=HNN.out.1
          by_cases hjl:j<wc.n
          ·have j1:(j:Int)<(wc.n:Int):=by omega
           have j2:(j:Int)+1≤9223372036854775807:=by omega
           have HJ:=zA hjl
           have HBL:=zA hb
           clear hb hj hjl hn1
           go_wp2_with fail
           refine(HAG.out j HJ.out wr HBL.out).mono ?_
           rintro e w' ⟨rfl,rfl⟩
           go_wp2_with fail
           refine(HQ.out j HJ.out wr HBL.out).mono ?_
           rintro e wq ⟨hbq,ld,nd,ak,(⟨hn0,rfl⟩ | ⟨b',sq,hb',rfl⟩)⟩
           ·clear hn0
            have bq:=bn wq (.cells (Qb false 0 0 0 0 0 0 0 0 0 ld nd ak) 47)
            have hxq:=heap_alloc_new wq (.cells (Qb false 0 0 0 0 0 0 0 0 0 ld nd ak) 47)
            have v0:=cc 0 hxq
            have HBQ:=zA (HBL.out.trans ((hbq.trans (bq.mono hbq.size)).mono HBL.out.size))
            clear hbq bq hxq
            go_wp2_with (refine zJ rfl 47 (.tmp 15) (.tmp 107) (Qbm false) (Qb false 0 0 0 0 0 0 0 0 0 ld nd ak) rfl rfl _ rfl rfl rfl lE rfl lE rfl ?_)
            exact nR
           ·exact absurd hb'.2.1 (HNO.out b' hb'.1)
          ·obtain rfl:j=wc.n:=by omega
           exact mF
        ·have HNO:=zA hbn
         clear hbn
         have HBB:=zA HB.out.1
         clear HB
         go_wp2_with fail
         clear y0
         go_loopw [99] (fun i wr=>∃j:Nat,j≤wc.n∧i=.int .i64 j∧Below wz.heap.size wz wr) (fun i _=>wc.n - (intOf i).toNat)
         case atStart=>exact⟨0,Nat.zero_le _,rfl,HBB.out⟩
         case round=>
          obtain⟨j,hj,rfl,hb⟩:=hrel
          clear HBB
          have hn1:=HNN.out.1
          by_cases hjl:j<wc.n
          ·have j1:(j:Int)<(wc.n:Int):=by omega
           have j2:(j:Int)+1≤9223372036854775807:=by omega
           have HJ:=zA hjl
           have HBL:=zA hb
           clear hb hj hjl hn1
           go_wp2_with fail
           refine(HAG.out j HJ.out wr HBL.out).mono ?_
           rintro e w' ⟨rfl,rfl⟩
           go_wp2_with fail
           refine(HQ.out j HJ.out wr HBL.out).mono ?_
           rintro e wq ⟨hbq,ld,nd,ak,(⟨hn0,rfl⟩ | ⟨b',sq,hb',rfl⟩)⟩
           ·exact absurd HNO.out.2.1 (hn0 bn HNO.out.1)
           ·cases hb'.one HNO.out
            clear hb'
            have bq:=(Below.refl _ wq).alloc (Nat.le_refl _) (.cells (Qb true (bn:Int) sq (O bn 4) (O bn 5) (O bn 6) (O bn 7) (O bn 8) (O bn 9) (O bn 10) ld nd ak) 47)
            have hxq:=heap_alloc_new wq (.cells (Qb true (bn:Int) sq (O bn 4) (O bn 5) (O bn 6) (O bn 7) (O bn 8) (O bn 9) (O bn 10) ld nd ak) 47)
            have v0:=cc 0 hxq
            have v1:=cc 1 hxq
            have v2:=cc 2 hxq
            have v3:=cc 3 hxq
            have v4:=cc 4 hxq
            have v5:=cc 5 hxq
            have v6:=cc 6 hxq
            have v7:=cc 7 hxq
            have v8:=cc 8 hxq
            have v9:=cc 9 hxq
            have hl:=HTB.out _ (HBL.out.trans ((hbq.trans (bq.mono hbq.size)).mono HBL.out.size))
            have hb8:bn<8:=by have:=HNO.out.1;have:=HNN.out.1;omega
            have y4:=hl.cell (i:=bn) (j:=4) hb8 lD
            have y5:=hl.cell (i:=bn) (j:=5) hb8 lD
            have y6:=hl.cell (i:=bn) (j:=6) hb8 lD
            have y7:=hl.cell (i:=bn) (j:=7) hb8 lD
            have y8:=hl.cell (i:=bn) (j:=8) hb8 lD
            have y9:=hl.cell (i:=bn) (j:=9) hb8 lD
            have y10:=hl.cell (i:=bn) (j:=10) hb8 lD
            have b0:¬(bn:Int)<0:=by omega
            have b8:(bn:Int)<8:=by omega
            have b9:(bn:Int) ≥ 0:=by omega
            clear hl hb8
            have HBQ:=zA (HBL.out.trans ((hbq.trans (bq.mono hbq.size)).mono HBL.out.size))
            clear hbq bq hxq
            go_wp2_with (refine zJ rfl 47 (.tmp 15) (.tmp 107) (Qbm false) (Qb true (bn:Int) sq (O bn 4) (O bn 5) (O bn 6) (O bn 7) (O bn 8) (O bn 9) (O bn 10) ld nd ak) rfl rfl _ rfl rfl rfl lE rfl lE rfl ?_)
            exact nR
          ·obtain rfl:j=wc.n:=by omega
           exact mF
end
section
open Go.ChangeShapes Go.WideShapes Go.Deep Go.RowKit Rw Rh
section
variable {H:Type} {enc:TypeId×Value→H} {P:Program} {w:World} {base:Nat} {spare:Nat→Bool} {held:Bool} {fuel:Nat} {t:TypeId} {cs:List Value} {x:DataW H×List MemPlace}
theorem wE {fs:Array Field} (ht:P.underlying t=some (.struct fs)) (h:DataW.trod enc P w base spare held fuel t cs=some x) {i:Nat} {f:Field} (hi:fs[i]?=some f) :
  ∃(n:Nat) (y:DataW H×List MemPlace),DataW.trod enc P w base spare held n f.type ((cs.drop f.offset).take (P.cellsOf f.type))=some y:=by
 obtain⟨xs,n,_,_,_,hlen,hf⟩:=DataW.trod_struct ht h
 have hlt:i<xs.length:=by rw[hlen];exact(gsi.1 hi).1
 exact⟨n,xs[i],by rw[hf i f hi,List.getElem?_eq_getElem hlt]⟩
theorem yA {fs:Array Field} {k:IntKind} (ht:P.underlying t=some (.struct fs)) (h:DataW.trod enc P w base spare held fuel t cs=some x) {i:Nat} {f:Field} (hi:fs[i]?=some f)
  (he:P.underlying f.type=some (.int k)) (hc:P.cellsOf f.type=1):∃n,cs[f.offset]?=some (.int k n)∧(Lit.int k n).wf=true:=by
 obtain⟨m,y,hy⟩:=wE ht h hi
 obtain⟨n,e,_,wn⟩:=DataW.trod_int he hy
 refine⟨n,?_,wn⟩
 rw[hc]at e
 have h0:((cs.drop f.offset).take 1)[0]?=some (.int k n):=by rw[e];rfl
 rw[List.getElem?_take,if_pos (by decide),List.getElem?_drop]at h0
 simpa using h0
end
theorem list11 {α:Type} {l:List α} {a b c d e f g h i j k:α} (hl:l.length=11) (h0:l[0]?=some a) (h1:l[1]?=some b) (h2:l[2]?=some c) (h3:l[3]?=some d) (h4:l[4]?=some e) (h5:l[5]?=some f) (h6:l[6]?=some g) (h7:l[7]?=some h) (h8:l[8]?=some i) (h9:l[9]?=some j) (h10:l[10]?=some k):l=[a,b,c,d,e,f,g,h,i,j,k]:=by
 match l,hl with
 | [_,_,_,_,_,_,_,_,_,_,_],_=>simp at h0 h1 h2 h3 h4 h5 h6 h7 h8 h9 h10;simp[*]
theorem yW:prog.cellsOf 3=1:=by kernel_rfl
theorem cells22:prog.cellsOf 22=1:=by kernel_rfl
theorem cells28:prog.cellsOf 28=11:=by kernel_rfl
theorem cells40:prog.cellsOf 40=11:=by kernel_rfl
theorem yP {α:Type} {l:List α} {a n k:Nat} {x:α} (h:((l.drop a).take n)[k]?=some x):l[a+k]?=some x:=by
 rw[List.getElem?_take]at h
 split at h
 ·rwa [List.getElem?_drop]at h
 ·cases h
section
variable {H:Type} {enc:TypeId×Value→H} {w:World} {base:Nat} {spare:Nat→Bool} {held:Bool} {fuel:Nat} {cs:List Value} {x:DataW H×List MemPlace}
theorem conf_cells (h:DataW.trod enc prog w base spare held fuel 28 cs=some x) (hl:cs.length=11):∃a b c d e f g i j k l:Int,cs=[.int .i64 a,.int .i64 b,.int .i64 c,.int .i64 d,.int .i64 e,.int .i64 f,.int .u64 g,.int .u64 i,.int .i64 j,.int .i64 k,.int .i64 l]:=by
 obtain⟨n0,e0,_⟩:=yA underlying28 h (i:=0) rfl underlying3 yW
 obtain⟨n1,e1,_⟩:=yA underlying28 h (i:=1) rfl underlying3 yW
 obtain⟨m,y,hy⟩:=wE underlying28 h (i:=2) rfl
 obtain⟨n2,e2,_⟩:=yA underlying26 hy (i:=0) rfl underlying3 yW
 obtain⟨n3,e3,_⟩:=yA underlying26 hy (i:=1) rfl underlying3 yW
 obtain⟨n4,e4,_⟩:=yA underlying26 hy (i:=2) rfl underlying3 yW
 obtain⟨n5,e5,_⟩:=yA underlying26 hy (i:=3) rfl underlying3 yW
 obtain⟨n6,e6,_⟩:=yA underlying26 hy (i:=4) rfl underlying22 cells22
 obtain⟨n7,e7,_⟩:=yA underlying26 hy (i:=5) rfl underlying22 cells22
 obtain⟨m2,y2,hy2⟩:=wE underlying26 hy (i:=6) rfl
 obtain⟨n8,e8,_⟩:=yA underlying24 hy2 (i:=0) rfl underlying3 yW
 obtain⟨n9,e9,_⟩:=yA underlying24 hy2 (i:=1) rfl underlying3 yW
 obtain⟨n10,e10,_⟩:=yA underlying24 hy2 (i:=2) rfl underlying3 yW
 exact⟨n0,n1,n2,n3,n4,n5,n6,n7,n8,n9,n10,list11 hl e0 e1 (yP e2) (yP e3) (yP e4) (yP e5) (yP e6) (yP e7) (yP (yP e8)) (yP (yP e9)) (yP (yP e10))⟩
theorem op_cells (h:DataW.trod enc prog w base spare held fuel 40 cs=some x):∃a b c d e f g i j k l:Int,∀(m:Nat) (u:Value),[Value.int .i64 a,.int .i64 b,.int .i64 c,.int .i64 d,.int .i64 e,.int .i64 f,.int .i64 g,.int .i64 i,.int .i64 j,.int .i64 k,.int .i64 l][m]?=some u→cs[m]?=some u:=by
 obtain⟨n0,e0,_⟩:=yA underlying40 h (i:=0) rfl underlying3 yW
 obtain⟨n1,e1,_⟩:=yA underlying40 h (i:=1) rfl underlying3 yW
 obtain⟨n2,e2,_⟩:=yA underlying40 h (i:=2) rfl underlying3 yW
 obtain⟨n3,e3,_⟩:=yA underlying40 h (i:=3) rfl underlying3 yW
 obtain⟨m,y,hy⟩:=wE underlying40 h (i:=4) rfl
 obtain⟨n4,e4,_⟩:=yA underlying38 hy (i:=0) rfl underlying3 yW
 obtain⟨n5,e5,_⟩:=yA underlying38 hy (i:=1) rfl underlying3 yW
 obtain⟨n6,e6,_⟩:=yA underlying38 hy (i:=2) rfl underlying3 yW
 obtain⟨n7,e7,_⟩:=yA underlying38 hy (i:=3) rfl underlying3 yW
 obtain⟨n8,e8,_⟩:=yA underlying38 hy (i:=4) rfl underlying3 yW
 obtain⟨n9,e9,_⟩:=yA underlying38 hy (i:=5) rfl underlying3 yW
 obtain⟨n10,e10,_⟩:=yA underlying38 hy (i:=6) rfl underlying3 yW
 refine⟨n0,n1,n2,n3,n4,n5,n6,n7,n8,n9,n10,fun m u hu=>?_⟩
 match m,hu with
 | 0,hu=>cases hu;exact e0
 | 1,hu=>cases hu;exact e1
 | 2,hu=>cases hu;exact e2
 | 3,hu=>cases hu;exact e3
 | 4,hu=>cases hu;exact yP e4
 | 5,hu=>cases hu;exact yP e5
 | 6,hu=>cases hu;exact yP e6
 | 7,hu=>cases hu;exact yP e7
 | 8,hu=>cases hu;exact yP e8
 | 9,hu=>cases hu;exact yP e9
 | 10,hu=>cases hu;exact yP e10
end
def IsConf (v:Value):Prop:=∃a b c d e f g i j k l:Int,v=.agg (Qc a b c d e f g i j k l)
theorem open_conf {H:Type} {enc:TypeId×Value→H} {W:World} {base:Nat} {v:Value} {d:DataW H} {q:List MemPlace} (hv:Value.okWide prog W .any base 28 v)
  (h:DataW.Trod enc prog W 0 (fun _=>true) true 28 v d q):IsConf v:=by
 obtain⟨cs,rfl,hsz⟩:=okWide_struct underlying28 hv
 obtain⟨fuel,hf⟩:=h
 obtain⟨l⟩:=cs
 have hf':DataW.trod enc prog W 0 (fun _=>true) true fuel 28 l=some (d,q):=by simpa[Value.cells]using hf
 obtain⟨xs,n,_,_,hl,_⟩:=DataW.trod_struct underlying28 hf'
 obtain⟨a,b,c,d,e,f,g,i,j,k,m,rfl⟩:=conf_cells hf' (hl.trans cells28)
 exact⟨a,b,c,d,e,f,g,i,j,k,m,rfl⟩
def IsOps (w:World) (v:Value):Prop:=∃la ln lc,v=.slice la ln lc∧(ln:Int)≤9223372036854775807∧OpsW w la ln
theorem open_ops {H:Type} {enc:TypeId×Value→H} {W:World} {base:Nat} {v:Value} {d:DataW H} {q:List MemPlace} (hv:Value.okWide prog W .any base 29 v)
  (h:DataW.Trod enc prog W 0 (fun _=>true) true 29 v d q):IsOps W v:=by
 obtain⟨a,len,cap,rfl⟩:=okWide_slice underlying29 hv
 obtain⟨fuel,hf⟩:=h
 rcases open_slice underlying29 hf with⟨h0,_⟩ | ⟨a',len',cap',m,n,D,Pl,hcs,hb,hl,hm,hmm,hx,hi⟩
 ·simp[Value.cells]at h0
  obtain⟨rfl,rfl,rfl⟩:=h0
  exact⟨none,0,0,rfl,by decide,fun i hi=>absurd hi lD⟩
 ·simp[Value.cells]at hcs
  obtain⟨rfl,rfl,rfl⟩:=hcs
  have hml:len≤m:=by rw[hmm];simp;omega
  have key:∀i,i<len→∃b0 b1 b2 b3 b4 b5 b6 b7 b8 b9 b10:Int,∀(j:Nat) (u:Value),[Value.int .i64 b0,.int .i64 b1,.int .i64 b2,.int .i64 b3,.int .i64 b4,.int .i64 b5,.int .i64 b6,.int .i64 b7,.int .i64 b8,.int .i64 b9,.int .i64 b10][j]?=some u→W.cell? ((a'.add (i*11)).add j)=some u:=fun i hil=>by
   obtain⟨cs',hc,ht'⟩:=hi i lD
   rw[cells40]at hc
   obtain⟨_,hcl,hat⟩:=World.cells?_some hc
   obtain⟨b0,b1,b2,b3,b4,b5,b6,b7,b8,b9,b10,pJ⟩:=op_cells ht'
   refine⟨b0,b1,b2,b3,b4,b5,b6,b7,b8,b9,b10,fun j u hu=>?_⟩
   have hj:j<11:=by
    rcases Nat.lt_or_ge j 11 with h | h
    ·exact h
    ·rw[List.getElem?_eq_none (by simpa using h)]at hu;cases hu
   exact(hat j lD).trans (pJ j u hu)
  by_cases hz:len=0
  ·subst hz
   exact⟨_,0,cap,rfl,by decide,fun i hi=>absurd hi lD⟩
  obtain⟨b,off,spot⟩:=a'
  obtain⟨x0,x1,x2,x3,x4,x5,x6,x7,x8,x9,x10,hk0⟩:=key 0 lD
  have h0:=hk0 0 _ rfl
  have hspot:spot=none:=by simpa[Addr.add]using World.cell?_spot h0
  subst hspot
  have hadd:∀(i j:Nat),((⟨b,off,none⟩:Addr).add (i*11)).add j=⟨b,off+i*11+j,none⟩:=fun i j=>by rw[Go.WideShapes.add_plain,Go.WideShapes.add_plain]
  have hblk:b<W.heap.size:=by
   rw[hadd]at h0
   exact World.block_lt_of_cell? _ _ h0
  refine⟨_,_,_,rfl,by unfold maxLen at hm;omega,fun i hil=>?_⟩
  obtain⟨b0,b1,b2,b3,b4,b5,b6,b7,b8,b9,b10,pJ⟩:=key i hil
  refine⟨b,off,rfl,hblk,b0,b1,b2,b3,b4,b5,b6,b7,b8,b9,b10,fun j u hu=>?_⟩
  rw[←hadd]
  exact pJ j u hu
end
end Go.Proofs.YtodlmbfbfaofcaaGreat
