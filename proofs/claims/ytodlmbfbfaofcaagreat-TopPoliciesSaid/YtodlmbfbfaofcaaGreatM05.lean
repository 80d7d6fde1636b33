/- TopPolicies, part 5. -/
import Derived.Test.YtodlmbfbfaofcaaGreatM01
import Derived.Test.YtodlmbfbfaofcaaGreatM02
import Derived.Test.YtodlmbfbfaofcaaGreatM04
open Go.Proofs.Tryz
namespace Go.Proofs.YtodlmbfbfaofcaaGreat
set_option linter.unusedVariables false
set_option linter.unusedSimpArgs false
set_option maxRecDepth 100000
set_option maxHeartbeats 2000000
section
open Go.RowKit Rw
namespace Mem
namespace Pl
def within (n lo hi:Int):Int:=if hi<n then hi else if n<lo then lo else n
def inB (n lo hi:Int):Bool:=within n lo hi == n
theorem inB_iff (n lo hi:Int):inB n lo hi=true↔lo≤n∧n≤hi:=by
 unfold inB within;rw[beq_iff_eq];(repeat' split)<;>omega
def may (node st inc:Int):Bool:=inB node 0 7&&(inB st 1 4&&inB inc 0 1099511627776)
def cmp (s i s' i':Int):Int:=if i'<i then 1 else if i<i' then -1 else if s'<s then 1 else if s<s' then -1 else 0
def there (st:Int):Bool:=st == 1||st == 2
end Pl
theorem ret_int {k:IntKind} {a b:Int} (h:a=b):Ending.returned (.int k a)=.returned (.int k b):=by rw[h]
theorem within_any (n lo hi:Int) (w:World):Calls prog 95 (Qj n lo hi) w fun e w'=>e=.returned (.int .i64 (Pl.within n lo hi))∧w'=w:=by
 exact mD
theorem may_any (node st inc:Int) (w:World):Calls prog 274 #[.agg (Qj node st inc)] w fun e w'=>e=.returned (.bool (Pl.may node st inc))∧Below w.heap.size w w':=by
 have hm:Pl.may node st inc=(Pl.inB node 0 7&&(Pl.inB st 1 4&&Pl.inB inc 0 1099511627776)):=rfl
 cases h0:(Pl.within node 0 7 == node)
 ·have hm:Pl.may node st inc=false:=by rw[hm];unfold Pl.inB;rw[h0];rfl
  exact nH
 ·cases h1:(Pl.within st 1 4 == st)
  ·have hm:Pl.may node st inc=false:=by rw[hm];unfold Pl.inB;rw[h0,h1];rfl
   exact nH
  ·have hm:Pl.may node st inc=(Pl.within inc 0 1099511627776 == inc):=by rw[hm];unfold Pl.inB;rw[h0,h1];rfl
   exact nH
theorem cmp_any (n s i n' s' i':Int) (w:World):Calls prog 275 #[.agg (Qj n s i),.agg (Qj n' s' i')] w fun e w'=>e=.returned (.int .i64 (Pl.cmp s i s' i'))∧Below w.heap.size w w':=by
 have H:Hid (Pl.cmp s i s' i'=if i'<i then 1 else if i<i' then -1 else if s'<s then 1 else if s<s' then -1 else 0):=rfl
 go_enter func275,ntmps275
 go_wp2
 all_goals go_ret
 all_goals
  refine⟨ret_int ?_,(bn _ _).alloc (by simp) _⟩
  rw[H.out]
  (repeat' split)<;>omega
namespace Pl
structure Tab where
 known:Nat→Bool
 st:Nat→Int
 inc:Nat→Int
def Tab.none:Tab:=⟨fun _=>false,fun _=>0,fun _=>0⟩
def Tab.set (T:Tab) (k:Nat) (s i:Int):Tab:=⟨fun j=>if j=k then true else T.known j,fun j=>if j=k then s else T.st j,fun j=>if j=k then i else T.inc j⟩
def Tab.news (T:Tab) (k:Nat) (s i:Int):Bool:= !(T.known k&&decide (cmp s i (T.st k) (T.inc k)≤0))
end Pl
structure TabAt (w:World) (B:Nat) (sf:Int) (T:Pl.Tab):Prop where
 lt:B<w.heap.size
 own:w.cell? ⟨B,0,none⟩=some (.int .i64 sf)
 kn:∀k,k<8→w.cell? ⟨B,1+k,none⟩=some (.bool (T.known k))
 no:∀k,k<8→w.cell? ⟨B,9+k*3,none⟩=some (.int .i64 (if T.known k then k else 0))
 st:∀k,k<8→w.cell? ⟨B,9+k*3+1,none⟩=some (.int .i64 (T.st k))
 inc:∀k,k<8→w.cell? ⟨B,9+k*3+2,none⟩=some (.int .i64 (T.inc k))
 fr:∀o,w.frozen? ⟨B,o,none⟩=false
 ty:∃cs f,w.heap[B]?=some (.cells cs 403 f)
structure Turned (w w':World) (B:Nat):Prop where
 size:w.heap.size≤w'.heap.size
 same:∀i,i<w.heap.size→i≠B→w'.heap[i]?=w.heap[i]?
 rest:w'.os=w.os∧w'.tape=w.tape∧w'.output=w.output
theorem Turned.of_below {w w':World} {B:Nat} (h:Below w.heap.size w w'):Turned w w' B:=⟨h.size,fun i hi _=>h.block i hi,h.os,h.tape,h.output⟩
theorem Turned.below {w0 w w':World} {B:Nat} (t:Turned w w' B) (h0:Below w0.heap.size w0 w) (hB:w0.heap.size≤B):Below w0.heap.size w0 w':=by
 have hs:=h0.size
 refine⟨t.rest.1.trans h0.os,t.rest.2.1.trans h0.tape,t.rest.2.2.trans h0.output,Nat.le_trans hs t.size,?_⟩
 intro i hi
 exact(t.same i lD lD).trans (h0.block i hi)
theorem TabAt.kept {w w':World} {B:Nat} {sf:Int} {T:Pl.Tab} (h:TabAt w B sf T) (hs:w.heap.size≤w'.heap.size) (h1:w'.heap[B]?=w.heap[B]?):TabAt w' B sf T:=
 ⟨Nat.lt_of_lt_of_le h.lt hs,(World.cell?_of_block h1).trans h.own,fun k hk=>(World.cell?_of_block h1).trans (h.kn k hk),fun k hk=>(World.cell?_of_block h1).trans (h.no k hk),
  fun k hk=>(World.cell?_of_block h1).trans (h.st k hk),fun k hk=>(World.cell?_of_block h1).trans (h.inc k hk),fun o=>(World.frozen?_of_block h1).trans (h.fr o),by obtain⟨cs,f,h2⟩:=h.ty;exact⟨cs,f,h1.trans h2⟩⟩
theorem TabAt.below {w w':World} {B:Nat} {sf:Int} {T:Pl.Tab} (h:TabAt w B sf T) (hb:Below w.heap.size w w'):TabAt w' B sf T:=h.kept hb.size (hb.block B h.lt)
theorem hear_arg (B:Nat) (n s i:Int) (w:World) (h:Pl.may n s i=false):Calls prog 196 #[Qp B,.agg (Qj n s i)] w fun e w'=>e=.returned (.tuple #[.bool false,.int .i64 2])∧Below w.heap.size w w':=by
 go_enter func196,ntmps196
 go_wp2_with fail
 refine(may_any n s i _).mono ?_
 rintro e w1 ⟨rfl,b1⟩
 rw[h]
 have b0:Below w.heap.size w ((w.alloc (.cells (Qj n s i) 212)).alloc (.cells (Qj n s i) 399)):=(bn _ _).alloc (by simp) _
 have HB:=zA (b0.trans (b1.mono b0.size))
 clear b0 b1
 go_wp2_with fail
 refine bodyPost_ret (v:=.tuple #[.bool false,.int .i64 2]) (by simp[results,results196,go_sem]) rfl ⟨rfl,HB.out⟩
structure HearAt (w W:World) (B:Nat) (k s i:Int):Prop where
 b0:W.cell? ⟨w.heap.size+1,0,none⟩=some (.int .i64 k)
 b1:W.cell? ⟨w.heap.size+1,1,none⟩=some (.int .i64 s)
 b2:W.cell? ⟨w.heap.size+1,2,none⟩=some (.int .i64 i)
 bel:Below w.heap.size w W
 sz:w.heap.size+2≤W.heap.size
theorem HearAt.below {w W W':World} {B:Nat} {k s i:Int} (h:HearAt w W B k s i) (hb:Below W.heap.size W W'):HearAt w W' B k s i:=
 ⟨(hb.cell (p:=⟨w.heap.size+1,0,none⟩) h.sz).trans h.b0,(hb.cell (p:=⟨w.heap.size+1,1,none⟩) h.sz).trans h.b1,(hb.cell (p:=⟨w.heap.size+1,2,none⟩) h.sz).trans h.b2,h.bel.trans (hb.mono h.bel.size),Nat.le_trans h.sz hb.size⟩
theorem rT (w:World) (B:Nat) (k s i:Int):HearAt w ((w.alloc (.cells (Qj k s i) 212)).alloc (.cells (Qj k s i) 399)) B k s i:=by
 refine⟨?_,?_,?_,(bn _ _).alloc (by simp) _,by simp⟩<;>simp[World.cell?_alloc_at]
theorem tab_set {W:World} {B k:Nat} {s i sf:Int} {T:Pl.Tab} (hk:k<8) (h:TabAt W B sf T) :
  TabAt ((((W.setCell ⟨B,1+k,none⟩ (.bool true)).setCell ⟨B,9+k*3,none⟩ (.int .i64 k)).setCell ⟨B,9+k*3+1,none⟩ (.int .i64 s)).setCell ⟨B,9+k*3+2,none⟩ (.int .i64 i)).drew B sf (T.set k s i)∧
  Turned W ((((W.setCell ⟨B,1+k,none⟩ (.bool true)).setCell ⟨B,9+k*3,none⟩ (.int .i64 k)).setCell ⟨B,9+k*3+1,none⟩ (.int .i64 s)).setCell ⟨B,9+k*3+2,none⟩ (.int .i64 i)).drew B:=by
 have sz:((((W.setCell ⟨B,1+k,none⟩ (.bool true)).setCell ⟨B,9+k*3,none⟩ (.int .i64 k)).setCell ⟨B,9+k*3+1,none⟩ (.int .i64 s)).setCell ⟨B,9+k*3+2,none⟩ (.int .i64 i)).drew.heap.size=W.heap.size:=by simp[World.setCell]
 have cl:∀o,((((W.setCell ⟨B,1+k,none⟩ (.bool true)).setCell ⟨B,9+k*3,none⟩ (.int .i64 k)).setCell ⟨B,9+k*3+1,none⟩ (.int .i64 s)).setCell ⟨B,9+k*3+2,none⟩ (.int .i64 i)).drew.cell? ⟨B,o,none⟩ =
   if o=1+k then some (.bool true)else if o=9+k*3 then some (.int .i64 k)else if o=9+k*3+1 then some (.int .i64 s)else if o=9+k*3+2 then some (.int .i64 i)else W.cell? ⟨B,o,none⟩:=by
  intro o
  have c0:=h.no k hk
  have c1:=h.st k hk
  have c2:=h.inc k hk
  have k0:=h.kn k hk
  show((((W.setCell ⟨B,1+k,none⟩ (.bool true)).setCell ⟨B,9+k*3,none⟩ (.int .i64 k)).setCell ⟨B,9+k*3+1,none⟩ (.int .i64 s)).setCell ⟨B,9+k*3+2,none⟩ (.int .i64 i)).cell? ⟨B,o,none⟩=_
  by_cases h3:o=9+k*3+2
  ·subst h3
   rw[if_neg (by omega),if_neg (by omega),if_neg (by omega),if_pos rfl]
   exact World.cell?_setCell_same _ _ _ (by rw[World.cell?_setCell_other _ _ _ _ (by simp),World.cell?_setCell_other _ _ _ _ (by simp),World.cell?_setCell_other _ _ _ _ (by simp<;>omega)];exact c2)
  ·rw[World.cell?_setCell_other _ _ _ _ (by simp<;>omega)]
   by_cases h2:o=9+k*3+1
   ·subst h2
    rw[if_neg (by omega),if_neg (by omega),if_pos rfl]
    exact World.cell?_setCell_same _ _ _ (by rw[World.cell?_setCell_other _ _ _ _ (by simp),World.cell?_setCell_other _ _ _ _ (by simp<;>omega)];exact c1)
   ·rw[World.cell?_setCell_other _ _ _ _ (by simp<;>omega)]
    by_cases h1:o=9+k*3
    ·subst h1
     rw[if_neg (by omega),if_pos rfl]
     exact World.cell?_setCell_same _ _ _ (by rw[World.cell?_setCell_other _ _ _ _ (by simp<;>omega)];exact c0)
    ·rw[World.cell?_setCell_other _ _ _ _ (by simp<;>omega)]
     by_cases h0:o=1+k
     ·subst h0
      rw[if_pos rfl]
      exact World.cell?_setCell_same _ _ _ k0
     ·rw[World.cell?_setCell_other _ _ _ _ (by simp<;>omega),if_neg h0,if_neg h1,if_neg h2,if_neg h3]
 obtain⟨cs,f,hty⟩:=h.ty
 refine⟨⟨by rw[sz];exact h.lt,?_,?_,?_,?_,?_,?_,⟨_,f,zF (zF (zF (zF hty _) _) _) _⟩⟩,⟨by rw[sz];exact Nat.le_refl _,?_,rfl,rfl,rfl⟩⟩
 ·rw[cl,if_neg (by omega),if_neg (by omega),if_neg (by omega),if_neg (by omega)];exact h.own
 ·intro j hj
  rw[cl]
  unfold Pl.Tab.set
  by_cases e:j=k
  ·subst e;rw[if_pos rfl];simp
  ·rw[if_neg (by omega),if_neg (by omega),if_neg (by omega),if_neg (by omega)];simp only[if_neg e];exact h.kn j hj
 ·intro j hj
  rw[cl]
  unfold Pl.Tab.set
  by_cases e:j=k
  ·subst e;rw[if_neg (by omega),if_pos rfl];simp
  ·rw[if_neg (by omega),if_neg (by omega),if_neg (by omega),if_neg (by omega)];simp only[if_neg e];exact h.no j hj
 ·intro j hj
  rw[cl]
  unfold Pl.Tab.set
  by_cases e:j=k
  ·subst e;rw[if_neg (by omega),if_neg (by omega),if_pos rfl];simp
  ·rw[if_neg (by omega),if_neg (by omega),if_neg (by omega),if_neg (by omega)];simp only[if_neg e];exact h.st j hj
 ·intro j hj
  rw[cl]
  unfold Pl.Tab.set
  by_cases e:j=k
  ·subst e;rw[if_neg (by omega),if_neg (by omega),if_neg (by omega),if_pos rfl];simp
  ·rw[if_neg (by omega),if_neg (by omega),if_neg (by omega),if_neg (by omega)];simp only[if_neg e];exact h.inc j hj
 ·intro o
  exact((World.frozen?_setCell _ _ _ _).trans ((World.frozen?_setCell _ _ _ _).trans ((World.frozen?_setCell _ _ _ _).trans (World.frozen?_setCell _ _ _ _)))).trans (h.fr o)
 ·intro x hx hne
  exact(Below.heap_setCell _ _ _ _ hne).trans ((Below.heap_setCell _ _ _ _ hne).trans ((Below.heap_setCell _ _ _ _ hne).trans (Below.heap_setCell _ _ _ _ hne)))
theorem Turned.of_hear {w W W':World} {B:Nat} {k s i:Int} (h:HearAt w W B k s i) (t:Turned W W' B):Turned w W' B:=
 ⟨Nat.le_trans h.bel.size t.size,fun j hj hne=>(t.same j (Nat.lt_of_lt_of_le hj h.bel.size) hne).trans (h.bel.block j hj),t.rest.1.trans h.bel.os,t.rest.2.1.trans h.bel.tape,t.rest.2.2.trans h.bel.output⟩
theorem hear_fresh (B k:Nat) (s i sf:Int) (T:Pl.Tab) (w:World) (hk:k<8) (h:TabAt w B sf T) (pN:Pl.may k s i=true) (qK:T.known k=false) :
  Calls prog 196 #[Qp B,.agg (Qj k s i)] w fun e w'=>e=.returned (.tuple #[.bool true,.int .i64 0])∧TabAt w' B sf (T.set k s i)∧Turned w w' B:=by
 have a0:(k:Int)<8:=by omega
 have HH:=zA h
 have HN:=zA qK
 clear h qK
 go_enter func196,ntmps196
 go_wp2_with fail
 refine(may_any k s i _).mono ?_
 rintro e w1 ⟨rfl,b1⟩
 rw[pN]
 have A:=(rT w B k s i).below b1
 have k0:=(A.bel.cell (p:=⟨B,1+k,none⟩) HH.out.lt).trans (HH.out.kn k hk)
 rw[HN.out]at k0
 have HA:=zA A
 obtain⟨y0,y1,y2,_,_⟩:=id A
 clear A b1
 go_wp2_with fail
 go_quiet (fail)
 go_wp2_with fail
 have HA3:=zA (HA.out.below (below_drewN (Below.refl _ _) nq))
 clear k0 y0 y1 y2 HA
 generalize w1.drewN nq=W at *
 exact oV
theorem hear_old (B k:Nat) (s i sf:Int) (T:Pl.Tab) (w:World) (hk:k<8) (h:TabAt w B sf T) (pN:Pl.may k s i=true) (hold:T.known k=true) (hc:decide (Pl.cmp s i (T.st k) (T.inc k)≤0)=true) :
  Calls prog 196 #[Qp B,.agg (Qj k s i)] w fun e w'=>e=.returned (.tuple #[.bool false,.int .i64 0])∧Below w.heap.size w w':=by
 have a0:(k:Int)<8:=by omega
 have HH:=zA h
 have HN:=zA hold
 have HC:=zA hc
 clear h hold hc
 go_enter func196,ntmps196
 go_wp2_with fail
 refine(may_any k s i _).mono ?_
 rintro e w1 ⟨rfl,b1⟩
 rw[pN]
 have A:=(rT w B k s i).below b1
 have k0:=(A.bel.cell (p:=⟨B,1+k,none⟩) HH.out.lt).trans (HH.out.kn k hk)
 rw[HN.out]at k0
 have HA:=zA A
 obtain⟨y0,y1,y2,_,_⟩:=id A
 have c0:=(A.bel.cell (p:=⟨B,9+k*3,none⟩) HH.out.lt).trans (HH.out.no k hk)
 rw[HN.out,if_pos rfl]at c0
 have c1:=(A.bel.cell (p:=⟨B,9+k*3+1,none⟩) HH.out.lt).trans (HH.out.st k hk)
 have c2:=(A.bel.cell (p:=⟨B,9+k*3+2,none⟩) HH.out.lt).trans (HH.out.inc k hk)
 have hBW:=Nat.lt_of_lt_of_le HH.out.lt A.bel.size
 have hsW:=A.sz
 clear A b1
 go_wp2_with fail
 refine zD (fun w'=>w'.cell? ⟨B,1+k,none⟩=some (.bool true)∧w'.cell? ⟨B,9+k*3,none⟩=some (.int .i64 k)∧w'.cell? ⟨B,9+k*3+1,none⟩=some (.int .i64 (T.st k))∧w'.cell? ⟨B,9+k*3+2,none⟩=some (.int .i64 (T.inc k))∧w'.cell? ⟨w.heap.size+1,0,none⟩=some (.int .i64 k)∧w'.cell? ⟨w.heap.size+1,1,none⟩=some (.int .i64 s)∧w'.cell? ⟨w.heap.size+1,2,none⟩=some (.int .i64 i)) 99 lE ⟨k0,c0,c1,c2,y0,y1,y2⟩ (fun qB=>?_)
 refine tkd 0 16 rfl ?_
 refine tkd 1 17 rfl ?_
 refine tkd 2 18 rfl ?_
 refine tkd 3 19 rfl ?_
 refine tkd 4 20 rfl ?_
 refine tkd 5 21 rfl ?_
 refine tkd 6 22 rfl ?_
 refine tkd 7 23 rfl ?_
 refine tkd 8 24 rfl ?_
 refine tkd 9 25 rfl ?_
 refine tkd 10 26 rfl ?_
 refine tkd 11 27 rfl ?_
 refine tkd 12 28 rfl ?_
 refine tkd 13 29 rfl ?_
 refine tkd 14 30 rfl ?_
 refine tkd 15 31 rfl ?_
 refine t1 16 rfl (fun K hK=>?_)
 go_simp
 refine(cmp_any k s i k (T.st k) (T.inc k) _).mono ?_
 rintro e w2 ⟨rfl,b2⟩
 have b2':Below w1.heap.size w1.drew w2:=b2
 have HA3:=zA (HA.out.below (((Below.refl w1.heap.size w1).drew).trans b2'))
 have q0:=(b2'.cell (p:=⟨B,1+k,none⟩) hBW).trans k0
 have q1:=(b2'.cell (p:=⟨B,9+k*3,none⟩) hBW).trans c0
 have q2:=(b2'.cell (p:=⟨B,9+k*3+1,none⟩) hBW).trans c1
 have q3:=(b2'.cell (p:=⟨B,9+k*3+2,none⟩) hBW).trans c2
 have q4:=HA3.out.b0
 have q5:=HA3.out.b1
 have q6:=HA3.out.b2
 clear k0 c0 c1 c2 y0 y1 y2 b2 b2' HA qB hBW hsW
 refine hK.out _ _ (fun _=>⟨q0,q1,q2,q3,q4,q5,q6⟩) (fun _=>?rk0)
 clear hK K
 try simp only[zP]
 have hc:=HC.out
 generalize Pl.cmp s i (T.st k) (T.inc k)=cc at *
 refine t1 17 rfl (fun K hK=>?_)
 go_simp
 refine hK.out _ _ (fun _=>⟨q0,q1,q2,q3,q4,q5,q6⟩) (fun _=>?rk17)
 clear hK K
 try simp only[zP]
 refine t1 18 rfl (fun K hK=>?_)
 go_simp
 refine hK.out _ _ (fun _=>⟨q0,q1,q2,q3,q4,q5,q6⟩) (fun _=>?rk18)
 clear hK K
 try simp only[zP]
 refine t1 19 rfl (fun K hK=>?_)
 go_simp
 refine hK.out _ _ (fun _=>⟨q0,q1,q2,q3,q4,q5,q6⟩) (fun _=>?rk19)
 clear hK K
 try simp only[zP]
 clear q0 q1 q2 q3 q4 q5 q6 hc
 refine wd ?_
 go_wp2_with fail
 exact bodyPost_ret (v:=.tuple #[.bool false,.int .i64 0]) (by simp[results,results196,go_sem]) rfl ⟨rfl,HA3.out.bel⟩
theorem hear_new (B k:Nat) (s i sf:Int) (T:Pl.Tab) (w:World) (hk:k<8) (h:TabAt w B sf T) (pN:Pl.may k s i=true) (hold:T.known k=true) (hc:decide (Pl.cmp s i (T.st k) (T.inc k)≤0)=false) :
  Calls prog 196 #[Qp B,.agg (Qj k s i)] w fun e w'=>e=.returned (.tuple #[.bool true,.int .i64 0])∧TabAt w' B sf (T.set k s i)∧Turned w w' B:=by
 have a0:(k:Int)<8:=by omega
 have HH:=zA h
 have HN:=zA hold
 have HC:=zA hc
 clear h hold hc
 go_enter func196,ntmps196
 go_wp2_with fail
 refine(may_any k s i _).mono ?_
 rintro e w1 ⟨rfl,b1⟩
 rw[pN]
 have A:=(rT w B k s i).below b1
 have k0:=(A.bel.cell (p:=⟨B,1+k,none⟩) HH.out.lt).trans (HH.out.kn k hk)
 rw[HN.out]at k0
 have HA:=zA A
 obtain⟨y0,y1,y2,_,_⟩:=id A
 have c0:=(A.bel.cell (p:=⟨B,9+k*3,none⟩) HH.out.lt).trans (HH.out.no k hk)
 rw[HN.out,if_pos rfl]at c0
 have c1:=(A.bel.cell (p:=⟨B,9+k*3+1,none⟩) HH.out.lt).trans (HH.out.st k hk)
 have c2:=(A.bel.cell (p:=⟨B,9+k*3+2,none⟩) HH.out.lt).trans (HH.out.inc k hk)
 have hBW:=Nat.lt_of_lt_of_le HH.out.lt A.bel.size
 have hsW:=A.sz
 clear A b1
 go_wp2_with fail
 refine zD (fun w'=>w'.cell? ⟨B,1+k,none⟩=some (.bool true)∧w'.cell? ⟨B,9+k*3,none⟩=some (.int .i64 k)∧w'.cell? ⟨B,9+k*3+1,none⟩=some (.int .i64 (T.st k))∧w'.cell? ⟨B,9+k*3+2,none⟩=some (.int .i64 (T.inc k))∧w'.cell? ⟨w.heap.size+1,0,none⟩=some (.int .i64 k)∧w'.cell? ⟨w.heap.size+1,1,none⟩=some (.int .i64 s)∧w'.cell? ⟨w.heap.size+1,2,none⟩=some (.int .i64 i)) 99 lE ⟨k0,c0,c1,c2,y0,y1,y2⟩ (fun qB=>?_)
 refine tkd 0 16 rfl ?_
 refine tkd 1 17 rfl ?_
 refine tkd 2 18 rfl ?_
 refine tkd 3 19 rfl ?_
 refine tkd 4 20 rfl ?_
 refine tkd 5 21 rfl ?_
 refine tkd 6 22 rfl ?_
 refine tkd 7 23 rfl ?_
 refine tkd 8 24 rfl ?_
 refine tkd 9 25 rfl ?_
 refine tkd 10 26 rfl ?_
 refine tkd 11 27 rfl ?_
 refine tkd 12 28 rfl ?_
 refine tkd 13 29 rfl ?_
 refine tkd 14 30 rfl ?_
 refine tkd 15 31 rfl ?_
 refine t1 16 rfl (fun K hK=>?_)
 go_simp
 refine(cmp_any k s i k (T.st k) (T.inc k) _).mono ?_
 rintro e w2 ⟨rfl,b2⟩
 have b2':Below w1.heap.size w1.drew w2:=b2
 have HA3:=zA (HA.out.below (((Below.refl w1.heap.size w1).drew).trans b2'))
 have q0:=(b2'.cell (p:=⟨B,1+k,none⟩) hBW).trans k0
 have q1:=(b2'.cell (p:=⟨B,9+k*3,none⟩) hBW).trans c0
 have q2:=(b2'.cell (p:=⟨B,9+k*3+1,none⟩) hBW).trans c1
 have q3:=(b2'.cell (p:=⟨B,9+k*3+2,none⟩) hBW).trans c2
 have q4:=HA3.out.b0
 have q5:=HA3.out.b1
 have q6:=HA3.out.b2
 clear k0 c0 c1 c2 y0 y1 y2 b2 b2' HA qB hBW hsW
 refine hK.out _ _ (fun _=>⟨q0,q1,q2,q3,q4,q5,q6⟩) (fun _=>?rk0)
 clear hK K
 try simp only[zP]
 have hc:=HC.out
 generalize Pl.cmp s i (T.st k) (T.inc k)=cc at *
 refine t1 17 rfl (fun K hK=>?_)
 go_simp
 refine hK.out _ _ (fun _=>⟨q0,q1,q2,q3,q4,q5,q6⟩) (fun _=>?rk17)
 clear hK K
 try simp only[zP]
 refine t1 18 rfl (fun K hK=>?_)
 go_simp
 refine hK.out _ _ (fun _=>⟨q0,q1,q2,q3,q4,q5,q6⟩) (fun _=>?rk18)
 clear hK K
 try simp only[zP]
 refine t1 19 rfl (fun K hK=>?_)
 go_simp
 refine hK.out _ _ (fun _=>⟨q0,q1,q2,q3,q4,q5,q6⟩) (fun _=>?rk19)
 clear hK K
 try simp only[zP]
 clear q0 q1 q2 q3 q4 q5 q6 hc
 refine wd ?_
 go_wp2_with fail
 generalize w2=W at *
 exact oV
end Mem
namespace Mem
namespace Pl
def Tab.said (T:Tab) (n s i:Int):Bool:=may n s i&&T.news n.toNat s i
def Tab.hear (T:Tab) (n s i:Int):Tab:=if T.said n s i=true then T.set n.toNat s i else T
def err (n s i:Int):Int:=if may n s i=true then 0 else 2
end Pl
theorem hear_any (B:Nat) (n s i sf:Int) (T:Pl.Tab) (w:World) (h:TabAt w B sf T) :
  Calls prog 196 #[Qp B,.agg (Qj n s i)] w fun e w'=>e=.returned (.tuple #[.bool (T.said n s i),.int .i64 (Pl.err n s i)])∧TabAt w' B sf (T.hear n s i)∧Turned w w' B:=by
 cases hm:Pl.may n s i with
 | false=>
  have h1:T.said n s i=false:=by unfold Pl.Tab.said;rw[hm];rfl
  refine(hear_arg B n s i w hm).mono ?_
  rintro e w' ⟨rfl,hb⟩
  rw[h1,show Pl.err n s i=2 from by unfold Pl.err;rw[hm];rfl,show T.hear n s i=T from by unfold Pl.Tab.hear;rw[h1];rfl]
  exact⟨rfl,h.below hb,Turned.of_below hb⟩
 | true=>
  have hm':=hm
  unfold Pl.may at hm'
  simp only[Bool.and_eq_true]at hm'
  obtain⟨x0,x7⟩:=(Pl.inB_iff _ _ _).1 hm'.1
  obtain⟨k,rfl⟩:=Int.eq_ofNat_of_zero_le x0
  have hk:k<8:=by omega
  have h1:T.said k s i=T.news k s i:=by unfold Pl.Tab.said;rw[hm];rfl
  rw[show Pl.err k s i=0 from by unfold Pl.err;rw[hm];rfl]
  have hear:∀b,T.news k s i=b→(T.said k s i=b∧T.hear k s i=if b=true then T.set k s i else T):=fun b hb=>by
   refine⟨h1.trans hb,?_⟩
   unfold Pl.Tab.hear;rw[h1,hb];rfl
  cases hkn:T.known k with
  | false=>
   obtain⟨q1,q2⟩:=hear true (by unfold Pl.Tab.news;rw[hkn];rfl)
   rw[q1,q2]
   exact hear_fresh B k s i sf T w hk h hm hkn
  | true=>
   cases hc:decide (Pl.cmp s i (T.st k) (T.inc k)≤0)with
   | true=>
    obtain⟨q1,q2⟩:=hear false (by unfold Pl.Tab.news;rw[hkn,hc];rfl)
    rw[q1,q2]
    refine(hear_old B k s i sf T w hk h hm hkn hc).mono ?_
    rintro e w' ⟨rfl,hb⟩
    exact⟨rfl,h.below hb,Turned.of_below hb⟩
   | false=>
    obtain⟨q1,q2⟩:=hear true (by unfold Pl.Tab.news;rw[hkn,hc];rfl)
    rw[q1,q2]
    exact hear_new B k s i sf T w hk h hm hkn hc
theorem tab_fresh (w:World) (sf:Int):TabAt (w.alloc (.cells #[.int .i64 sf,.bool false,.bool false,.bool false,.bool false,.bool false,.bool false,.bool false,.bool false,
  .int .i64 0,.int .i64 0,.int .i64 0,.int .i64 0,.int .i64 0,.int .i64 0,.int .i64 0,.int .i64 0,.int .i64 0,.int .i64 0,.int .i64 0,.int .i64 0,
  .int .i64 0,.int .i64 0,.int .i64 0,.int .i64 0,.int .i64 0,.int .i64 0,.int .i64 0,.int .i64 0,.int .i64 0,.int .i64 0,.int .i64 0,.int .i64 0] 403)) w.heap.size sf Pl.Tab.none:=by
 have key:∀k,k<8→k=0∨k=1∨k=2∨k=3∨k=4∨k=5∨k=6∨k=7:=fun k hk=>by omega
 refine⟨by simp,?_,fun k hk=>?_,fun k hk=>?_,fun k hk=>?_,fun k hk=>?_,fun o=>by simp,⟨_,_,heap_alloc_new _ _⟩⟩
 ·rw[World.cell?_alloc_at _ _ _ _ rfl];rfl
 all_goals
  rw[World.cell?_alloc_at _ _ _ _ rfl]
  rcases key k hk with rfl | rfl | rfl | rfl | rfl | rfl | rfl | rfl<;>rfl
theorem new_ok (sf inc:Int) (w:World) (hm:Pl.may sf 1 inc=true) :
  Calls prog 291 (Qi sf inc) w fun e w'=>e=.returned (.tuple #[Qp w.heap.size,.int .i64 0])∧TabAt w' w.heap.size sf (Pl.Tab.none.hear sf 1 inc)∧Below w.heap.size w w':=by
 have A:=tab_fresh w sf
 have hb:Below w.heap.size w (w.alloc (.cells #[.int .i64 sf,.bool false,.bool false,.bool false,.bool false,.bool false,.bool false,.bool false,.bool false,
  .int .i64 0,.int .i64 0,.int .i64 0,.int .i64 0,.int .i64 0,.int .i64 0,.int .i64 0,.int .i64 0,.int .i64 0,.int .i64 0,.int .i64 0,.int .i64 0,
  .int .i64 0,.int .i64 0,.int .i64 0,.int .i64 0,.int .i64 0,.int .i64 0,.int .i64 0,.int .i64 0,.int .i64 0,.int .i64 0,.int .i64 0,.int .i64 0] 403)):=bn _ _
 have HA:=zA A
 have HB:=zA hb
 clear A hb
 go_enter func291,ntmps291
 go_wp2_with fail
 refine(hear_any w.heap.size sf 1 inc sf Pl.Tab.none _ HA.out).mono ?_
 rintro e w1 ⟨rfl,A1,t1⟩
 rw[show Pl.err sf 1 inc=0 from by unfold Pl.err;rw[hm];rfl]
 have HA1:=zA A1
 have HB1:=zA (t1.below HB.out (Nat.le_refl _))
 clear A1 t1 HA HB
 go_wp2_with fail
 refine bodyPost_ret (v:=.tuple #[Qp w.heap.size,.int .i64 0]) (by simp[results,results291,go_sem]) rfl ⟨rfl,HA1.out,HB1.out⟩
namespace Pl
def Tab.ks (T:Tab) (j:Nat):List Nat:=(List.range j).filter T.known
def Tab.word (T:Tab) (k:Nat):List Value:=[.int .i64 k,.int .i64 (T.st k),.int .i64 (T.inc k)]
def Tab.words (T:Tab) (j:Nat):List Value:=(T.ks j).flatMap T.word
theorem Tab.ks_yes {T:Tab} {j:Nat} (h:T.known j=true):T.ks (j+1)=T.ks j++[j]:=by unfold Tab.ks;rw[List.range_succ,List.filter_append];simp[h]
theorem Tab.ks_no {T:Tab} {j:Nat} (h:T.known j=false):T.ks (j+1)=T.ks j:=by unfold Tab.ks;rw[List.range_succ,List.filter_append];simp[h]
theorem Tab.ks_len (T:Tab) (j:Nat):(T.ks j).length≤j:=by unfold Tab.ks;exact Nat.le_trans (List.length_filter_le _ _) (by simp)
end Pl
theorem info29:(prog.info? 212).map (fun i=>(i.zero,i.size,i.bytes))=some (some (.agg (Qj 0 0 0)),3,24):=by kernel_rfl
theorem far2 {w w1:World} {o1 o2:Obj} {row:Option Nat} (hg:((w.alloc o1).alloc o2).grownBy w1 row) {c:Nat} (hc:c<w.heap.size) (hne:some c≠row):w1.heap[c]?=w.heap[c]?:=
 (hg.block c (by simp;omega) hne).trans ((Below.heap_alloc _ _ _ (by simp;omega)).trans (Below.heap_alloc _ _ _ hc))
theorem own_slice {w:World} {base T size n:Nat} {v:Value} {xs:List Value} (h:w.ownsRow base T size v (n+1) xs):∃g cap,v=.slice (some ⟨g,0,none⟩) (n+1) cap:=by
 rcases h.2 with⟨_,h0⟩ | ⟨g,cap,cur,e,_⟩
 ·omega
 ·exact⟨g,cap,e⟩
theorem own_shape {w:World} {base T size n:Nat} {v:Value} {xs:List Value} (h:w.ownsRow base T size v n xs):∃ao cap,v=.slice ao n cap:=by
 rcases h.2 with⟨rfl,h0⟩ | ⟨g,cap,cur,e,_⟩
 ·exact⟨none,0,by rw[h0]⟩
 ·exact⟨_,cap,e⟩
theorem ownsRow_base {w:World} {b b' T size n:Nat} {v:Value} {xs:List Value} (h:w.ownsRow b T size v n xs) (hb:b'≤b):w.ownsRow b' T size v n xs:=
 ⟨h.1,h.2.imp id (fun ⟨g,cap,cur,e,h1,rest⟩=>⟨g,cap,cur,e,by omega,rest⟩)⟩
theorem cb_all (c n:Nat) (a s i:Int) (v:Value) (xs:List Value) (w:World) (hn:n≤1000) (hc:c<w.heap.size) (cv:w.cell? ⟨c,0,none⟩=some v) (fv:w.frozen? ⟨c,0,none⟩=false) (ho:w.ownsRow (c+1) 212 3 v n xs) :
  Calls prog 317 #[.agg (Qj a s i),Qp c] w fun e w'=>e=.returned (.tuple #[])∧Below c w w'∧∃v',w'.cell? ⟨c,0,none⟩=some v'∧w'.frozen? ⟨c,0,none⟩=false∧w'.ownsRow (c+1) 212 3 v' (n+1) (xs++[.int .i64 a,.int .i64 s,.int .i64 i]):=by
 obtain⟨i0,hi,hz0,hz1,hz2⟩:=info_parts info29
 have hne:some c≠v.ownBlock:=fun e=>by have:=ho.lt c e.symm;omega
 have hlt:∀g,v.ownBlock=some g→c+1≤g:=fun g hg=>(ho.lt g hg).1
 have qK:((w.alloc (.cells (Qj a s i) 399)).alloc (.cells (Qj a s i) 212)).heap[w.heap.size+1]?=some (.cells (Qj a s i) 212):=by
  have:=heap_alloc_new (w.alloc (.cells (Qj a s i) 399)) (.cells (Qj a s i) 212)
  simpa using this
 have qP:=zA (World.news_of_block qK)
 have OWN2:=zA (World.ownsRow.alloc (World.ownsRow.alloc ho (.cells (Qj a s i) 399)) (.cells (Qj a s i) 212))
 have HNE:=zA hne
 have HLT:=zA hlt
 have CV:=zA cv
 have FV:=zA fv
 clear ho hne hlt qK
 go_enter func317,ntmps317
 go_wp2_with (at_builtin;refine wpList_append_own _ rfl (.tmp 3) (.tmp 5) 113 rfl (c+1) 212 i0 (.agg (Qj 0 0 0)) 3 24 underlying113 hi hz0 hz1 hz2 rfl lF v n xs rfl OWN2.out ⟨w.heap.size+1,0,none⟩ 1 1 [.int .i64 a,.int .i64 s,.int .i64 i] rfl rfl qP.out (by simp[Value.oneCell']) (by unfold maxLen;omega) lD (by simp;omega) ?_;intro v1 w1 hown1 hgrow1 hat1;obtain⟨g1,cp1,hv1⟩:=own_slice hown1;subst hv1;have hblk:=far2 hgrow1 hc HNE.out;have pc:w1.cell? ⟨c,0,none⟩=_:=(World.cell?_of_block hblk).trans CV.out;have pf:w1.frozen? ⟨c,0,none⟩=_:=(World.frozen?_of_block hblk).trans FV.out;have HOW:=zA hown1;have HGR:=zA hgrow1;clear hown1 hgrow1 hat1 hblk)
 refine yG results317 ⟨rfl,?_,_,World.cell?_setCell_same _ _ _ pc,?_,ownsRow_setCell_below HOW.out (by show c<c+1;omega) _⟩
 ·exact((((Below.refl c w).alloc lD _).alloc (by simp;omega) _).grown HGR.out (by simp;omega) (fun g hg=>by have:=HLT.out g hg;omega)).setCell (by exact Nat.le_refl c) _
 ·rw[World.frozen?_setCell];exact pf
theorem walk_all (B c:Nat) (sf:Int) (T:Pl.Tab) (w:World) (h:TabAt w B sf T) (hBc:B<c) (hc:c<w.heap.size) (cv:w.cell? ⟨c,0,none⟩=some (.slice none 0 0)) (fv:w.frozen? ⟨c,0,none⟩=false) :
  Calls prog 316 #[Qp B,.func (.func 317) #[] #[Qp c]] w fun e w'=>e=.returned (.tuple #[])∧Below c w w'∧∃v',w'.cell? ⟨c,0,none⟩=some v'∧w'.frozen? ⟨c,0,none⟩=false∧w'.ownsRow (c+1) 212 3 v' (T.ks 8).length (T.words 8):=by
 have kn0:w.cell? ⟨B,1,none⟩=some (.bool (T.known 0)):=h.kn 0 lF
 have kn1:w.cell? ⟨B,2,none⟩=some (.bool (T.known 1)):=h.kn 1 lF
 have kn2:w.cell? ⟨B,3,none⟩=some (.bool (T.known 2)):=h.kn 2 lF
 have kn3:w.cell? ⟨B,4,none⟩=some (.bool (T.known 3)):=h.kn 3 lF
 have kn4:w.cell? ⟨B,5,none⟩=some (.bool (T.known 4)):=h.kn 4 lF
 have kn5:w.cell? ⟨B,6,none⟩=some (.bool (T.known 5)):=h.kn 5 lF
 have kn6:w.cell? ⟨B,7,none⟩=some (.bool (T.known 6)):=h.kn 6 lF
 have kn7:w.cell? ⟨B,8,none⟩=some (.bool (T.known 7)):=h.kn 7 lF
 have HH:=zA h
 have CV:=zA cv
 have FV:=zA fv
 clear h cv fv
 go_enter func316,ntmps316
 go_wp2_with fail
 clear kn0 kn1 kn2 kn3 kn4 kn5 kn6 kn7
 go_loopw [12,4,5] (fun i x y wr=>∃(j:Nat) (v:Value),j≤8∧i=.int .i64 j∧Below c w wr∧wr.cell? ⟨c,0,none⟩=some v∧wr.frozen? ⟨c,0,none⟩=false∧wr.ownsRow (c+1) 212 3 v (T.ks j).length (T.words j)) (fun i _ _ _=>8 - (intOf i).toNat)
 case atStart=>exact⟨0,.slice none 0 0,by decide,rfl,Below.refl _ _,CV.out,FV.out,⟨rfl,.inl ⟨rfl,rfl⟩⟩⟩
 case round=>
  obtain⟨j,v,hj,rfl,bel,cv,fv,own⟩:=hrel
  by_cases hj8:j<8
  ·have BEL:=zA bel
   have CV2:=zA cv
   have FV2:=zA fv
   have OWN:=zA own
   clear bel cv fv own
   have hidx:∀w,(Instr.index 400 (.agg #[Value.bool (T.known 0),Value.bool (T.known 1),Value.bool (T.known 2),Value.bool (T.known 3),Value.bool (T.known 4),Value.bool (T.known 5),Value.bool (T.known 6),Value.bool (T.known 7)]) (.int .i64 j)).run prog w=.ok (.bool (T.known j)) w:=by
    have:j=0∨j=1∨j=2∨j=3∨j=4∨j=5∨j=6∨j=7:=by omega
    rcases this with rfl | rfl | rfl | rfl | rfl | rfl | rfl | rfl<;>intro w<;>rfl
   have a0:(j:Int)<8:=by omega
   cases hkn:T.known j
   ·rw[hkn]at hidx
    have HKN:=zA hkn
    clear hkn
    go_wp2_with fail
    all_goals exact⟨⟨j+1,v,by omega,rfl,BEL.out,CV2.out,FV2.out,by unfold Pl.Tab.words;rw[Pl.Tab.ks_no HKN.out];exact OWN.out⟩,by simp[intOf];omega⟩
   ·rw[hkn]at hidx
    have HA:=HH.out
    have c0:=(BEL.out.cell (p:=⟨B,9+j*3,none⟩) hBc).trans (HA.no j hj8)
    rw[hkn,if_pos rfl]at c0
    have c1:=(BEL.out.cell (p:=⟨B,9+j*3+1,none⟩) hBc).trans (HA.st j hj8)
    have c2:=(BEL.out.cell (p:=⟨B,9+j*3+2,none⟩) hBc).trans (HA.inc j hj8)
    have HKN:=zA hkn
    clear hkn HA
    go_wp2_with fail
    refine(cb_all c (T.ks j).length j (T.st j) (T.inc j) v (T.words j) _ (by have:=T.ks_len j;omega) (Nat.lt_of_lt_of_le hc BEL.out.size) CV2.out FV2.out OWN.out).mono ?_
    rintro e w2 ⟨rfl,b2,v2,cv2,fv2,own2⟩
    have BEL2:=zA (BEL.out.trans b2)
    have CV3:=zA cv2
    have FV3:=zA fv2
    have OWN3:=zA own2
    clear b2 cv2 fv2 own2 c0 c1 c2
    go_wp2_with fail
    all_goals refine⟨⟨j+1,v2,by omega,rfl,BEL2.out,CV3.out,FV3.out,?_⟩,by simp[intOf];omega⟩
    all_goals (unfold Pl.Tab.words;rw[Pl.Tab.ks_yes HKN.out,List.flatMap_append,List.length_append];exact OWN3.out)
  ·obtain rfl:j=8:=by omega
   have BEL:=zA bel
   have CV2:=zA cv
   have FV2:=zA fv
   have OWN:=zA own
   clear bel cv fv own hj8
   go_wp2_with fail
   exact yG results316 ⟨rfl,BEL.out,_,CV2.out,FV2.out,OWN.out⟩
theorem all_any (B:Nat) (sf:Int) (T:Pl.Tab) (w:World) (h:TabAt w B sf T) :
  Calls prog 254 #[Qp B] w fun e w'=>∃v',e=.returned v'∧Below w.heap.size w w'∧w'.ownsRow w.heap.size 212 3 v' (T.ks 8).length (T.words 8):=by
 have hmf:∀(fn:Fn) (first cap:Array Value) (w:World),(Instr.makeFunc fn first cap).run prog w=.ok (.func fn first cap) w:=fun _ _ _ _=>rfl
 have hb:Below w.heap.size w (w.alloc (.cells #[.slice none 0 0] 113)):=bn _ _
 have W:=walk_all B w.heap.size sf T (w.alloc (.cells #[.slice none 0 0] 113)) (h.below hb) h.lt (by simp) (by rw[World.cell?_alloc_at _ _ _ _ rfl];rfl) (by simp)
 have HW:=zA W
 have HB:=zA hb
 clear h W hb
 go_enter func254,ntmps254
 go_wp2_with fail
 refine HW.out.mono ?_
 rintro e w2 ⟨rfl,b2,v2,cv2,fv2,own2⟩
 obtain⟨ao,cap,rfl⟩:=own_shape own2
 have hsz:w.heap.size≤w2.heap.size:=(HB.out.trans b2).size
 have HB2:=zA ((HB.out.trans b2).setCell (p:=⟨w.heap.size,0,none⟩) (Nat.le_refl _) (.slice ao (T.ks 8).length cap))
 have OWN2:=zA (ownsRow_base (ownsRow_setCell_below own2 (a:=⟨w.heap.size,0,none⟩) (by show w.heap.size<w.heap.size+1;omega) (.slice ao (T.ks 8).length cap)) (Nat.le_succ _))
 clear HW b2 own2 HB
 go_wp2_with fail
 have c2:(w2.setCell ⟨w.heap.size,0,none⟩ (.slice ao (T.ks 8).length cap)).cell? ⟨w.heap.size,0,none⟩=some (.slice ao (T.ks 8).length cap):=World.cell?_setCell_same _ _ _ cv2
 exact bodyPost_ret (v:=.slice ao (T.ks 8).length cap) (by simp[results,results254,go_sem,c2]) rfl ⟨_,rfl,HB2.out,OWN2.out⟩
end Mem
end
section
open Go.RowKit Rw
section
variable {P:Program} {ops:Array Oper} {Q:Exit→Act→World→Prop} {S:World→Prop} {L fuel:Nat} {listed:Array Bool} {a:Act} {w:World} {v:Value} {oi:Oper} {B:Nat→Bool}
theorem run_ld {o:Oper} (t:TypeId) (pl:Operand) (g:Nat) {c:Array Value} {t0:TypeId} {fr:Nat×Nat} {d:TypeDesc} (ho:o.op=.load t pl) (hp:a.eval pl=.pointer (some ⟨g,0,none⟩)) (hg:w.heap[g]?=some (.cells c t0 fr)) (hu:P.underlying t=some d)
  (hd:(match d with | .struct _ | .array _ _=>true | _=>false)=true) (hs:(P.info? t).map (·.size)=some c.size):(execOp a.eval o).run P w=.ok (.value (.agg c)) w:=by
 have qH:(Instr.loadAt t (Qp g)).run P w=.ok (.agg c) w:=by
  simp only[Instr.loadAt,Instr.sureAddr,Sem.run_bind,Sem.run_pure,Result.andThen]
  exact run_loadVar_row w g t0 t c fr d hg hu hd hs
 simp[execOp,ho,hp,qH,Result.andThen]
theorem tl (i d:Nat) {a':Act} (hi:ops[i]?=some oi) (t:TypeId) (pl:Operand) (g:Nat) {c:Array Value} {t0:TypeId} {fr:Nat×Nat} {dd:TypeDesc} (ho:oi.op=.load t pl) (hp:a.eval pl=.pointer (some ⟨g,0,none⟩))
  (hx:∀w,S w→w.heap[g]?=some (.cells c t0 fr)) (hu:P.underlying t=some dd) (h:wpL P .any ops Q S L fuel (listed.setIfInBounds i true) a' w)
  (he:a.put (some d) (.agg c)=a':=by first | (simp only[pt,List.set];done) | (simp only[pt,List.set];exact rfl))
  (hd:(match dd with | .struct _ | .array _ _=>true | _=>false)=true:=by rfl) (hs:(P.info? t).map (·.size)=some c.size:=by kernel_rfl)
  (hg:Region.wanted oi (yielded ops a.tmps)=true:=by rfl) (hb:okB ops listed i d=true:=by kernel_rfl) (hw:(waitsFor .any ops L i&&i != L)=true:=by kernel_rfl) (hS:S w:=by assumption)
  (hQ:∀c' a w,Q (.panic c') (a.put oi.dst (.agg c)) w→Q (.panic c') a w:=by exact fun _ _ _ h=>h):wpL P .any ops Q S L (fuel+1) listed a w:=
 tk i d hi (fun w hS=>run_ld t pl g ho hp (hx w hS) hu hd hs) h he hg hb hw hS hQ
theorem t2 (i j:Nat) {o o':Oper} (ho:ops[i]?=some o) (ho':ops[j]?=some o') (h:∀K':Act→World→Prop,Shut (∀a w,(i≠L→S w)→((i≠L→S w)→wpL P .any ops Q S L fuel (listed.setIfInBounds i true) a w)→K' a w)→if Region.wanted o (yielded ops a.tmps)=true then Oper.wp P o a w K' Q else K' (a.put o.dst undef) w)
  (h':∀K':Act→World→Prop,Shut (∀a w,(j≠L→S w)→((j≠L→S w)→wpL P .any ops Q S L fuel (listed.setIfInBounds j true) a w)→K' a w)→if Region.wanted o' (yielded ops a.tmps)=true then Oper.wp P o' a w K' Q else K' (a.put o'.dst undef) w)
  (hr:Region.ready .any ops listed=[i,j]:=by kernel_rfl):wpL P .any ops Q S L (fuel+1) listed a w:=by
 refine⟨fun h0=>(by rw[h0]at hr;cases hr),fun k hk=>?_⟩
 rw[hr]at hk
 rcases List.mem_cons.1 hk with rfl | hk
 ·exact wpOp_step ho (fun K' hK=>h K' (fun a w hS hW=>hK a w ⟨hS,hW hS⟩))
 ·cases List.mem_singleton.1 hk
  exact wpOp_step ho' (fun K' hK=>h' K' (fun a w hS hW=>hK a w ⟨hS,hW hS⟩))
theorem yS {o:Oper} {K:Act→World→Prop} (t:TypeId) (pl vl:Operand) (g:Nat) {c c':Array Value} {t0:TypeId} (ho:o.op=.store t pl vl) (hd:o.dst=none) (hp:a.eval pl=.pointer (some ⟨g,0,none⟩)) (hv:a.eval vl=.agg c') (hg:w.heap[g]?=some (.cells c t0 (0,0)))
  (hi:(P.info? t).map (·.size)=some c'.size) (hs:c.size=c'.size) (h1:c'.all (·.oneCell')=true) (h:K a (w.setRow g c')):Oper.wp P o a w K Q:=by
 have qH:(Instr.storeAt t (Qp g) (.agg c')).run P w=.ok () (w.setRow g c'):=by
  exact mU
 unfold Oper.wp
 simp[execOp,ho,hp,hv,qH,Result.andThen]
 simpa[hd,Oper.upon,Act.put]using h
end
end
section
open Go.RowKit Rw
namespace Pl
def vint (n:Nat):List Int:=if h:n<128 then[(n:Int)]else((n%128+128:Nat):Int)::vint (n / 128)
termination_by n
decreasing_by omega
theorem vint_small {n:Nat} (h:n<128):vint n=[(n:Int)]:=by rw[vint,dif_pos h]
theorem vint_big {n:Nat} (h:¬n<128):vint n=((n%128+128:Nat):Int)::vint (n / 128):=by rw[vint,dif_neg h]
theorem vint_len:∀(k n:Nat),n<128^k→(vint n).length≤k∨k=0
 | 0,n,h=>.inr rfl
 | k+1,n,h=>by
  by_cases hn:n<128
  ·rw[vint_small hn];exact .inl (by simp)
  ·rw[vint_big hn,List.length_cons]
   have h2:n / 128<128^k:=by rw[Nat.pow_succ]at h;exact Nat.div_lt_of_lt_mul lD
   rcases vint_len k _ h2 with h3 | rfl
   ·exact .inl lD
   ·simp at h;omega
theorem vint_len6 {n:Nat} (h:n≤1099511627776):(vint n).length≤6:=by
 rcases vint_len 6 n (Nat.lt_of_le_of_lt h lF)with h | h
 ·exact h
 ·cases h
end Pl
theorem or128 (m:Nat):bits BinOp.or IntKind.u8 ((m:Int)%256) 128=((m%128+128:Nat):Int):=by
 have h:∀x:Fin 256,bits BinOp.or IntKind.u8 ((x.val:Nat):Int) 128=((x.val%128+128:Nat):Int):=by decide +kernel
 have h2:=h ⟨m%256,Nat.mod_lt _ lF⟩
 simp only at h2
 rw[show((m:Int)%256)=((m%256:Nat):Int)from by omega,h2]
 congr 1;omega
theorem xZ (v:Value) (bs:List Int) (n:Nat) (w:World) (h:BytesC w v bs) (hl:bs.length≤1000000) (hn:n≤1099511627776) :
  Calls prog 77 #[v,.int .i64 n] w fun e w'=>∃v',e=.returned (.tuple #[v',.int .i64 0])∧OwnB w.heap.size w' v' (bs++Pl.vint n)∧Below w.heap.size w w':=by
 have HC:=zA (xI v bs w h lD)
 have HL6:=zA (Pl.vint_len6 hn)
 obtain⟨ao,cap,hv⟩:=h.form
 subst hv
 clear h
 go_enter func77,ntmps77
 go_wp2_with fail
 refine HC.out.mono ?_
 rintro e w1 ⟨v1,rfl,O1,b1⟩
 have HO1:=zA O1
 have HB1:=zA b1
 clear O1 b1 HC
 go_wp2_with fail
 go_loopw [1,6] (fun i x wr=>∃(m:Nat) (pre:List Int),i=.int .i64 m∧m≤n∧OwnB w.heap.size wr x (bs++pre)∧pre++Pl.vint m=Pl.vint n∧Below w.heap.size w wr) (fun i _ _=>(intOf i).toNat)
 case atStart=>exact⟨n,[],rfl,Nat.le_refl _,by rw[List.append_nil];exact HO1.out,rfl,HB1.out⟩
 case round=>
  obtain⟨m,pre,rfl,hm,O2,heq,b2⟩:=hrel
  clear HO1 HB1
  have hpl:pre.length+(Pl.vint m).length≤6:=by have:=congrArg List.length heq;rw[List.length_append]at this;have:=HL6.out;omega
  have HO2:=zA O2
  have HB2:=zA b2
  have HE:=zA heq
  clear O2 b2 heq
  have hsz:w.heap.size≤(wr.alloc (.cells #[.int .u8 0] 5)).heap.size:=by have:=HB2.out.size;simp;omega
  have BX:∀b:Int,Below wr.heap.size wr (wr.alloc (.cells #[.int .u8 b] 5)):=fun b=>bn _ _
  have HX:=zA BX
  have HSZ:=zA (fun b=>Nat.le_trans HB2.out.size (BX b).size)
  clear BX hsz
  by_cases hb:m<128
  ·have hb':(m:Int)<128:=by omega
   go_wp2_with (at_builtin;refine xF rfl (.tmp 25) (.tmp 28) rfl rfl (HO2.out.below (HX.out _)) rfl (xJ wr _) (by simp;omega) (HB2.out.trans ((HX.out _).mono HB2.out.size)) (HSZ.out _) ?_;intro v3 w3 hown3 hb3 hg3)
   refine bodyPost_ret (v:=.tuple #[v3,.int .i64 0]) (by simp[results,results77,go_sem]) rfl ⟨v3,rfl,?_,hb3⟩
   rw[List.append_assoc,←Pl.vint_small hb,HE.out]at hown3
   exact hown3
  ·have hb':¬(m:Int)<128:=by omega
   go_wp2_with (at_builtin;refine xF rfl (.tmp 19) (.tmp 23) rfl rfl (HO2.out.below (HX.out _)) rfl (xJ wr _) (by simp;omega) (HB2.out.trans ((HX.out _).mono HB2.out.size)) (HSZ.out _) ?_;intro v3 w3 hown3 hb3 hg3)
   rw[or128]at hown3
   rw[List.append_assoc]at hown3
   refine⟨⟨m / 128,pre++[((m%128+128:Nat):Int)],by simp,by omega,hown3,?_,hb3⟩,by simp[intOf];omega⟩
   rw[List.append_assoc,←HE.out,Pl.vint_big hb];rfl
end
end Go.Proofs.YtodlmbfbfaofcaaGreat
