/- TopLoads, part 46. -/
import Derived.Test.YtodlmbfbfaofcaaGreatM01
import Derived.Test.YtodlmbfbfaofcaaGreatM03
import Derived.Test.YtodlmbfbfaofcaaGreatM07
import Derived.Test.YtodlmbfbfaofcaaGreatM23
import Derived.Test.YtodlmbfbfaofcaaGreatM26
import Derived.Test.YtodlmbfbfaofcaaGreatM34
import Derived.Test.YtodlmbfbfaofcaaGreatM39
import Derived.Test.YtodlmbfbfaofcaaGreatM42
import Derived.Test.YtodlmbfbfaofcaaGreatM43
import Derived.Test.YtodlmbfbfaofcaaGreatM44
import Derived.Test.YtodlmbfbfaofcaaGreatM45
open Go.Proofs.Tryz
namespace Go.Proofs.YtodlmbfbfaofcaaGreat
set_option linter.unusedVariables false
set_option linter.unusedSimpArgs false
set_option maxRecDepth 100000
set_option maxHeartbeats 2000000
section
open Go.RowKit Rw Rh
namespace Pl
def flatE (E:Nat→List Ev) (n:Nat):List Ev:=(List.range n).flatMap E
theorem mem_flatE {E:Nat→List Ev} {n:Nat} {e:Ev}:e∈flatE E n↔∃i,i<n∧e∈E i:=by
 unfold flatE
 simp[List.mem_flatMap]
theorem flatE_succ (E:Nat→List Ev) (n:Nat):flatE E (n+1)=flatE E n++E n:=by
 unfold flatE
 rw[List.range_succ,List.flatMap_append];simp
theorem flatE_congr {E E':Nat→List Ev} {n:Nat} (h:∀i,i<n→E i=E' i):flatE E n=flatE E' n:=by
 induction n with
 | zero=>rfl
 | succ n ih=>rw[flatE_succ,flatE_succ,ih (fun i hi=>h i (by omega)),h n (by omega)]
end Pl
theorem flatE_put1 (E:Nat→List Pl.Ev) (n a:Nat) (e:Pl.Ev) (ha:a<n):(Pl.flatE (put1 E a (E a++[e])) n).length=(Pl.flatE E n).length+1:=by
 induction n with
 | zero=>omega
 | succ n ih=>
  rw[Pl.flatE_succ,Pl.flatE_succ,List.length_append,List.length_append]
  by_cases h:a=n
  ·subst h
   rw[zQ,Pl.flatE_congr (E':=E) (fun i hi=>zO _ _ (by omega)),List.length_append]
   simp;omega
  ·rw[zO _ _ (by omega),ih (by omega)];omega
namespace Pl
theorem flatE_none (n:Nat):flatE (fun _=>[]) n=[]:=by
 unfold flatE;simp
theorem flatE_nodup {E:Nat→List Ev}:∀n:Nat,(∀i,i<n→(E i).Pairwise (fun a b=>a.seq<b.seq)∧∀e∈E i,e.node=(i:Int)∧0≤e.seq)→((flatE E n).map Ev.at).Nodup
 | 0,_=>List.nodup_nil
 | n+1,h=>by
  rw[flatE_succ,List.map_append]
  obtain⟨h1,h2⟩:=h n (by omega)
  refine List.nodup_append.2 ⟨flatE_nodup n (fun i hi=>h i (by omega)),List.pairwise_map.2 ((List.Pairwise.and_mem.1 h1).imp (fun {a b} hab e=>?_)),fun x hx y hy e=>?_⟩
  ·obtain⟨ha,hb,hlt⟩:=hab
   have h3:=(h2 a ha).2
   have h4:a.seq.toNat=b.seq.toNat:=congrArg Prod.snd e
   omega
  ·obtain⟨a,ha,rfl⟩:=List.mem_map.1 hx
   obtain⟨b,hb,rfl⟩:=List.mem_map.1 hy
   obtain⟨i,hi,ha'⟩:=mem_flatE.1 ha
   have h3:=((h i (by omega)).2 a ha').1
   have h4:=(h2 b hb).1
   have h5:a.node.toNat=b.node.toNat:=congrArg Prod.fst e
   omega
theorem codes_smps (es:List Ev) (h:∀e∈es,e.Ok∧e.kind=1):(codes es).length≤36*es.length:=by
 induction es with
 | nil=>simp[codes]
 | cons e l ih=>
  have h1:=ih (fun x hx=>h x (List.mem_cons_of_mem _ hx))
  obtain⟨h2,h3⟩:=h e List.mem_cons_self
  have h4:=vints_len e.nums h2.small
  have h5:e.nums.length=6:=by unfold Ev.nums;rw[if_pos h3];rfl
  have h6:codes (e::l)=vints e.nums++codes l:=by unfold codes;rw[List.flatMap_cons]
  rw[h6,List.length_append,List.length_cons]
  omega
structure Col (all:List Ev) (n:Nat) (E0:Nat→List Ev) (t j:Nat) (E:Nat→List Ev):Prop where
 part:∀i,i<n→Subs all (E i)∧∀e∈E0 i,e∈E i
 one:∀i,i<n→i<j∨1≤t→∀e∈E0 i,e∈E 0
 two:1≤t→∀i,i<n→i<j∨2≤t→∀e∈all,e∈E i
def Same (E E':Nat→List Ev) (n a b:Nat) (all:List Ev):Prop:=
 (∀i,i≠a→i≠b→E' i=E i)∧(Subs all (E' a)∧∀e,e∈E' a↔e∈E a∨e∈E b)∧Subs all (E' b)∧∀e,e∈E' b↔e∈E a∨e∈E b
theorem Col.start {all:List Ev} {n:Nat} {E0:Nat→List Ev} (h:∀i,i<n→Subs all (E0 i)):Col all n E0 0 0 E0:=
 ⟨fun i hi=>⟨h i hi,fun e he=>he⟩,fun i _ h=>by omega,fun h=>by omega⟩
theorem Col.self {all:List Ev} {n t:Nat} {E0 E:Nat→List Ev} (h:Col all n E0 t 0 E) (hn:0<n) (rY:∀e∈all,∃i,i<n∧e∈E0 i):Col all n E0 t 1 E:=
 ⟨h.part,fun i hi hj e he=>by
  rcases hj with hj | hj
  ·cases(show i=0 by omega);exact(h.part 0 hi).2 e he
  ·exact h.one i hi (.inr hj) e he,fun ht i hi hj e he=>by
  rcases hj with hj | hj
  ·cases(show i=0 by omega)
   obtain⟨k,hk,hek⟩:=rY e he
   exact h.one k hk (.inr ht) e hek
  ·exact h.two ht i hi (.inr hj) e he⟩
theorem Col.step {all:List Ev} {n t j:Nat} {E0 E E':Nat→List Ev} (h:Col all n E0 t j E) (hj:j<n) (h0:j≠0) (hs:Same E E' n 0 j all) (rY:∀e∈all,∃i,i<n∧e∈E0 i):Col all n E0 t (j+1) E':=by
 obtain⟨s1,⟨s2,s3⟩,s4,s5⟩:=hs
 have up:∀i,i<n→∀e∈E i,e∈E' i:=fun i hi e he=>by
  by_cases i0:i=0
  ·subst i0;exact(s3 e).2 (.inl he)
  by_cases ij:i=j
  ·subst ij;exact(s5 e).2 (.inr he)
  rw[s1 i i0 ij];exact he
 refine⟨fun i hi=>⟨?_,fun e he=>up i hi e ((h.part i hi).2 e he)⟩,fun i hi hij e he=>?_,fun ht i hi hij e he=>?_⟩
 ·by_cases i0:i=0
  ·subst i0;exact s2
  by_cases ij:i=j
  ·subst ij;exact s4
  rw[s1 i i0 ij];exact(h.part i hi).1
 ·by_cases ij:i=j
  ·subst ij;exact(s3 e).2 (.inr ((h.part i hi).2 e he))
  ·exact up 0 (by omega) e (h.one i hi (by omega) e he)
 ·by_cases ij:i=j
  ·subst ij
   obtain⟨k,hk,hek⟩:=rY e he
   exact(s5 e).2 (.inl (h.one k hk (.inr ht) e hek))
  ·exact up i hi e (h.two ht i hi (by omega) e he)
theorem Col.next {all:List Ev} {n t:Nat} {E0 E:Nat→List Ev} (h:Col all n E0 t n E) (rY:∀e∈all,∃i,i<n∧e∈E0 i):Col all n E0 (t+1) 0 E:=
 ⟨h.part,fun i hi _ e he=>h.one i hi (.inl hi) e he,fun _ i hi hij e he=>by
  by_cases ht:1≤t
  ·exact h.two ht i hi (.inl hi) e he
  ·omega⟩
theorem Col.done {all:List Ev} {n:Nat} {E0 E:Nat→List Ev} (h:Col all n E0 2 0 E) (hl:Lot all) {i:Nat} (hi:i<n):(E i).Perm all:=
 (List.perm_ext_iff_of_nodup (nodup_at (h.part i hi).1.1) (nodup_at hl.nd)).2 fun e=>⟨(h.part i hi).1.2 e,h.two (by omega) i hi (.inr (by omega)) e⟩
theorem smps_one {E0:Nat→List Ev} {n:Nat} {l:List Ev} {work:Int} {node:Nat} (hp:l.Perm (flatE E0 n)) (hE:∀i,i<n→(E0 i).Pairwise (fun a b=>a.seq<b.seq)∧∀e∈E0 i,e.node=(i:Int)∧0≤e.seq) (ho:(smps l work node).Pairwise (fun a b=>a.seq<b.seq)) :
  smps l work node=if node<n then smps (E0 node) work node else[]:=by
 have hnd:=nodup_at (flatE_nodup n hE)
 split
 ·rename_i hn
  refine List.Perm.eq_of_pairwise (le:=fun a b=>a.seq<b.seq) (fun a b _ _ ha hb=>by omega) ho ((hE node hn).1.filter _) ((List.perm_ext_iff_of_nodup ((hp.nodup_iff.2 hnd).filter _) (List.Pairwise.imp (fun {a b} hab e=>by subst e;omega) ((hE node hn).1.filter _))).2 fun e=>?_)
  rw[List.mem_filter,List.mem_filter,hp.mem_iff,mem_flatE]
  constructor
  ·rintro⟨⟨i,hi,he⟩,hc⟩
   have h1:=((hE i hi).2 e he).1
   have h2:e.node=(node:Int):=by simp at hc;exact hc.2
   have h3:i=node:=by omega
   subst h3
   exact⟨he,hc⟩
  ·rintro⟨he,hc⟩
   exact⟨⟨node,hn,he⟩,hc⟩
 ·rename_i hn
  refine List.filter_eq_nil_iff.2 fun e he hc=>?_
  obtain⟨i,hi,he'⟩:=mem_flatE.1 (hp.mem_iff.1 he)
  have h1:=((hE i hi).2 e he').1
  simp at hc
  omega
theorem tV (f:Nat→List Int) (W n:Nat):∀m,n≤m→(∀i,n≤i→i<m→f i=[])→lawOf f W m=lawOf f W n
 | 0,h,_=>by cases(show n=0 by omega);rfl
 | m+1,h,hf=>by
  by_cases e:n=m+1
  ·subst e;rfl
  ·rw[lawOf_succ,tV f W n m (by omega) (fun i h1 h2=>hf i h1 (by omega))]
   unfold lawStep lastN
   rw[hf m (by omega) (by omega)]
   rw[if_pos (by simp)]
def tab (E:Nat→List Ev) (n i:Nat):List Int:=if i / 8<n then(smps (E (i / 8)) ((i%8:Nat):Int) ((i / 8:Nat):Int)).map (·.value)else[]
theorem tab_at (E:Nat→List Ev) (n a b:Nat) (hb:b<8):tab E n (a*8+b)=if a<n then(smps (E a) (b:Int) (a:Int)).map (·.value)else[]:=by
 unfold tab
 rw[show(a*8+b) / 8=a by omega,show(a*8+b)%8=b by omega]
theorem tab_none (n i:Nat):tab (fun _=>[]) n i=[]:=by
 unfold tab smps;simp
end Pl
theorem tab_put (E:Nat→List Pl.Ev) (n a b:Nat) (e:Pl.Ev) (ha:a<n) (hb:b<8) (hk:e.kind=1) (hw:e.work=(b:Int)) (hn:e.node=(a:Int)) :
  Pl.tab (put1 E a (E a++[e])) n=put1 (Pl.tab E n) (a*8+b) (Pl.tab E n (a*8+b)++[e.value]):=by
 funext i
 by_cases hi:i=a*8+b
 ·subst hi
  rw[zQ,Pl.tab_at _ _ _ _ hb,Pl.tab_at _ _ _ _ hb,if_pos ha,if_pos ha,zQ]
  unfold Pl.smps
  rw[List.filter_append,List.map_append]
  simp[hk,hw,hn]
 ·rw[zO _ _ hi]
  unfold Pl.tab
  by_cases hia:i / 8=a
  ·rw[hia,zQ]
   have h1:¬e.work=((i%8:Nat):Int):=by rw[hw];omega
   have h2:Pl.smps (E a++[e]) ((i%8:Nat):Int) (a:Int)=Pl.smps (E a) ((i%8:Nat):Int) (a:Int):=by
    unfold Pl.smps
    rw[List.filter_append,List.filter_cons_of_neg (by simp only[Bool.and_eq_true,beq_iff_eq,not_and];intro h;exact absurd h.2 h1),List.filter_nil,List.append_nil]
   rw[h2]
  ·rw[zO _ _ hia]
namespace Pl
theorem load_law {E0:Nat→List Ev} {n W:Nat} {l:List Ev} (work:Nat) (hp:l.Perm (flatE E0 n)) (hE:∀i,i<n→(E0 i).Pairwise (fun a b=>a.seq<b.seq)∧∀e∈E0 i,e.node=(i:Int)∧0≤e.seq) (ho:∀node:Nat,(smps l (work:Int) node).Pairwise (fun a b=>a.seq<b.seq)) (hW:W≤1000) (hn:n≤8) (hw:work<8)
  (hv:∀i,i<n→∀e∈E0 i,0≤e.value∧e.value≤1099511627776):loadOf l (work:Int) W 8=lawOf (fun nd=>tab E0 n (nd*8+work)) W n:=by
 have hf:∀node,node<8→tab E0 n (node*8+work)=(smps l (work:Int) node).map (·.value):=fun node _=>by
  rw[tab_at _ _ _ _ hw,smps_one (work:=(work:Int)) (node:=node) hp hE (ho node)]
  split<;>rfl
 have h1:=law_eq l (work:Int) (fun nd=>tab E0 n (nd*8+work)) W hW hf (fun node _ v hv'=>by
  rw[tab_at _ _ _ _ hw]at hv'
  split at hv'
  ·rename_i hlt
   obtain⟨e,he,rfl⟩:=List.mem_map.1 hv'
   exact hv node hlt e (List.mem_filter.1 he).1
  ·cases hv') 8 (Nat.le_refl _)
 rw[h1.1]
 exact tV _ W n 8 hn (fun i h1 h2=>by rw[tab_at _ _ _ _ hw,if_neg (by omega)])
end Pl
structure RingM (w:World) (W P n wn:Nat) (x:Nat→AgD) (E:Nat→List Pl.Ev):Prop where
 ag:∀i,i<n→∃cl,(x i).At w (E i) cl
 cn:∀i,i<n→(x i).c.n=i∧(x i).c.win=wn
 sep:∀i j,i<n→j<n→i≠j→∀g,(x i).all g→¬(x j).all g
 wp:∀i,i<n→∀g,(x i).all g→g≠W∧g≠P
theorem RingM.keep {w w':World} {W P n wn:Nat} {x:Nat→AgD} {E:Nat→List Pl.Ev} (h:RingM w W P n wn x E) (hs:w.heap.size≤w'.heap.size) (hk:∀i,i<n→∀g,(x i).all g→w'.heap[g]?=w.heap[g]?):RingM w' W P n wn x E:=
 ⟨fun i hi=>by obtain⟨cl,h1⟩:=h.ag i hi;exact⟨cl,h1.keep hs (hk i hi)⟩,h.cn,h.sep,h.wp⟩
theorem RingM.lt {w:World} {W P n wn:Nat} {x:Nat→AgD} {E:Nat→List Pl.Ev} (h:RingM w W P n wn x E) {i:Nat} (hi:i<n) {g:Nat} (hg:(x i).all g):g<w.heap.size:=by
 obtain⟨cl,h1⟩:=h.ag i hi;exact h1.lt hg
theorem RingM.below {w w':World} {W P n wn:Nat} {x:Nat→AgD} {E:Nat→List Pl.Ev} (h:RingM w W P n wn x E) (hb:Below w.heap.size w w'):RingM w' W P n wn x E:=h.keep hb.size (fun i hi g hg=>hb.block g (h.lt hi hg))
theorem Ring.toM {w:World} {W P n:Nat} {size:Int} {k wn:Nat} {F:Nat→Nat→Prop} {p:Nat→AgP} {c:Nat→Cf} {E:Nat→List Pl.Ev} (h:Ring w W P n size k wn F p c E):∃x,(∀i,i<n→(x i).p=p i∧∀g,(x i).all g→F i g∨(p i).has g)∧RingM w W P n wn x E:=by
 have h1:∀i,∃y:AgD,i<n→(y.p=p i∧y.c=c i∧y.F=F i)∧∃cl,y.At w (E i) cl:=fun i=>by
  by_cases hi:i<n
  ·obtain⟨bs,u,m,cl,h2,_⟩:=(h.ag i hi).st
   exact⟨⟨p i,c i,F i,size,bs,u,m,E i⟩,fun _=>⟨⟨rfl,rfl,rfl⟩,cl,h2⟩⟩
  ·exact⟨⟨p i,c i,F i,size,[],0,0,[]⟩,fun hi'=>absurd hi' hi⟩
 obtain⟨x,hx⟩:=Classical.skolem.1 h1
 have he:∀i,i<n→∀g,(x i).all g↔(F i g∨(p i).has g):=fun i hi g=>by
  obtain⟨e1,_,e3⟩:=(hx i hi).1
  unfold AgD.all
  rw[e1,e3]
 refine⟨x,fun i hi=>⟨(hx i hi).1.1,fun g hg=>(he i hi g).1 hg⟩,fun i hi=>(hx i hi).2,fun i hi=>by rw[(hx i hi).1.2.1];exact h.cn i hi,fun i j hi hj hij g hg hg'=>h.sep i j hi hj hij g ((he i hi g).1 hg) ((he j hj g).1 hg'),fun i hi g hg=>h.wp i hi g ((he i hi g).1 hg)⟩
theorem Ring.oks {w:World} {W P n:Nat} {size:Int} {k wn:Nat} {F:Nat→Nat→Prop} {p:Nat→AgP} {c:Nat→Cf} {E:Nat→List Pl.Ev} (h:Ring w W P n size k wn F p c E) {i:Nat} (hi:i<n):∀e∈E i,e.Ok:=by
 obtain⟨bs,u,m,cl,h2,_⟩:=(h.ag i hi).st
 exact h2.go.ok
theorem Ring.facts {w:World} {W P n:Nat} {size:Int} {k wn:Nat} {F:Nat→Nat→Prop} {p:Nat→AgP} {c:Nat→Cf} {E:Nat→List Pl.Ev} (h:Ring w W P n size k wn F p c E):∀i,i<n→(E i).Pairwise (fun a b=>a.seq<b.seq)∧∀e∈E i,e.node=(i:Int)∧0≤e.seq:=fun i hi=>
 ⟨(h.ag i hi).ord,fun e he=>⟨by rw[(h.ag i hi).own e he,(h.cn i hi).1],by
  obtain⟨n,s,hd⟩:=(h.oks hi e he).dot
  rw[hd.seq];omega⟩⟩
theorem Ring.lot {w:World} {W P n:Nat} {size:Int} {k wn:Nat} {F:Nat→Nat→Prop} {p:Nat→AgP} {c:Nat→Cf} {E:Nat→List Pl.Ev} (h:Ring w W P n size k wn F p c E) (hl:(Pl.flatE E n).length≤80) (hc:(Pl.codes (Pl.flatE E n)).length≤3000):Pl.Lot (Pl.flatE E n)∧∀i,i<n→Pl.Subs (Pl.flatE E n) (E i):=by
 refine⟨⟨Pl.flatE_nodup n h.facts,hl,hc,fun e he=>?_⟩,fun i hi=>⟨?_,fun e he=>Pl.mem_flatE.2 ⟨i,hi,he⟩⟩⟩
 ·obtain⟨i,hi,he'⟩:=Pl.mem_flatE.1 he
  exact h.oks hi e he'
 ·refine List.pairwise_map.2 ((List.Pairwise.and_mem.1 (h.facts i hi).1).imp (fun {a b} hab e=>?_))
  obtain⟨ha,hb,hlt⟩:=hab
  have h3:=((h.facts i hi).2 a ha).2
  have h4:a.seq.toNat=b.seq.toNat:=congrArg Prod.snd e
  omega
theorem meet_self {w:World} {W P:Nat} {wc:Wc} {d r:Nat→Value} (h:WdAt w W P wc d r) (a pa:Nat) (ha:a<wc.n) (hr:r a=.pointer (some ⟨pa,0,none⟩)) (C q0 q1 q2 q3 q4 q5 q6:Int) :
  Calls prog 8 #[Qp W,.agg (Qk 15 (a:Int) (a:Int) C q0 q1 q2 q3 q4 q5 q6)] w fun x w'=>(∃e:Int,x=.returned (.int .i64 e))∧Below w.heap.size w w':=by
 refine(do_15 W a a C q0 q1 q2 q3 q4 q5 q6 (fun _=>False) (fun w1=>Below w.heap.size w w1) w (fun W' hb hs=>(wmeet_same W P wc d r a C q0 q1 q2 q3 q4 q5 q6 pa W' (h.below hb) ha hr).mono ?_)).mono ?_
 ·rintro x w1 ⟨rfl,hb2⟩
  exact⟨⟨hb2.size,fun g h1 h2=>hb2.block g (by omega)⟩,.inr ⟨2,by decide,rfl,hb.trans (hb2.mono hb.size)⟩⟩
 ·rintro x w' ⟨w1,ho,⟨_,hf⟩ | ⟨e,he,rfl,hb⟩⟩
  ·exact hf.elim
  ·exact⟨⟨e,rfl⟩,ho.two hb (fun g e=>by have e':g=w.heap.size+1:=e;omega)⟩
theorem RingM.meet {w:World} {W P:Nat} {wc:Wc} {d r:Nat→Value} {wn:Nat} {x:Nat→AgD} {E:Nat→List Pl.Ev} (h:WdAt w W P wc d r) (hr:∀i,i<wc.n→r i=.pointer (some ⟨(x i).p.a,0,none⟩)) (hR:RingM w W P wc.n wn x E) {all:List Pl.Ev} (hl:Pl.Lot all) (hp:∀i,i<wc.n→Pl.Subs all (E i)) {a b:Nat} (ha:a<wc.n) (hb:b<wc.n) (hab:a≠b) (C q0 q1 q2 q3 q4 q5 q6:Int) :
  Calls prog 8 #[Qp W,.agg (Qk 15 (a:Int) (b:Int) C q0 q1 q2 q3 q4 q5 q6)] w fun e w'=>e=.returned (.int .i64 0)∧Off (fun g=>∃i,i<wc.n∧(x i).all g) w w'∧WdAt w' W P wc d r∧∃E',RingM w' W P wc.n wn x E'∧Pl.Same E E' wc.n a b all:=by
 have hca:=(hR.cn a ha).1
 have hcb:=(hR.cn b hb).1
 have hbk:∀g,((x a).bk g∨(x b).bk g)→∃i,i<wc.n∧(x i).all g:=fun g hg=>hg.elim (fun h=>⟨a,ha,AgD.bk_all h⟩) (fun h=>⟨b,hb,AgD.bk_all h⟩)
 refine(do_15 W a b C q0 q1 q2 q3 q4 q5 q6 (fun w1=>Off (fun g=>(x a).bk g∨(x b).bk g) w w1∧∃Ea Eb ca cb,(x a).At w1 Ea ca∧(x b).At w1 Eb cb∧(Pl.Subs all Ea∧∀e,e∈Ea↔e∈E a∨e∈E b)∧Pl.Subs all Eb∧∀e,e∈Eb↔e∈E a∨e∈E b) (fun _=>False) w (fun W' hw hs=>?_)).mono ?_
 ·have hR':=hR.below hw
  have hm:=wmeet_ok W P wc d r C q0 q1 q2 q3 q4 q5 q6 all (x a) (x b) (E a) (E b) W' (h.below hw) (by rw[hca];exact ha) (by rw[hcb];exact hb) (by rw[hca];exact hr a ha) (by rw[hcb];exact hr b hb) ⟨⟨fun g hg=>hR'.lt ha hg,fun g hg=>hR'.lt hb hg⟩,hR.sep a b ha hb hab,by rw[hca,hcb];exact hab,hl,hp a ha,hp b hb⟩ (hR'.ag a ha) (hR'.ag b hb) (fun g hg=>hg.elim (hR.wp a ha g) (hR.wp b hb g))
  rw[hca,hcb]at hm
  refine hm.mono ?_
  rintro e w1 ⟨rfl,ho,hx⟩
  refine⟨⟨ho.size,fun g h1 h2=>ho.same g (by omega) (fun hf=>?_)⟩,.inl ⟨rfl,ho.after hw (fun g _ h=>h),hx⟩⟩
  obtain⟨i,hi,hg⟩:=hbk g hf
  have:=hR.lt hi hg
  omega
 ·rintro e w' ⟨w1,ho,⟨rfl,ho1,Ea,Eb,ca,cb,hxa,hxb,hpa,hpb⟩ | ⟨_,_,_,hf⟩⟩
  ·have hlt:∀i,i<wc.n→∀g,(x i).all g→w'.heap[g]?=w1.heap[g]?:=fun i hi g hg=>ho.same g (Nat.lt_of_lt_of_le (hR.lt hi hg) ho1.size) (fun e=>by have e':g=w.heap.size+1:=e;have:=hR.lt hi hg;omega)
   have ho2:Off (fun g=>∃i,i<wc.n∧(x i).all g) w w':=(ho1.mono (fun g _=>hbk g)).comp ho (fun g hg e=>by have e':g=w.heap.size+1:=e;omega)
   refine⟨rfl,ho2,h.off ho2 (fun g ⟨i,hi,hg⟩=>hR.wp i hi g hg),put1 (put1 E a Ea) b Eb,⟨fun i hi=>?_,hR.cn,hR.sep,hR.wp⟩,fun i h1 h2=>by rw[zO _ _ h2,zO _ _ h1],?_,?_⟩
   ·by_cases hib:i=b
    ·subst hib;rw[zQ];exact⟨cb,hxb.keep ho.size (hlt i hi)⟩
    rw[zO _ _ hib]
    by_cases hia:i=a
    ·subst hia;rw[zQ];exact⟨ca,hxa.keep ho.size (hlt i hi)⟩
    rw[zO _ _ hia]
    obtain⟨cl,h1⟩:=hR.ag i hi
    refine⟨cl,h1.keep ho2.size (fun g hg=>(hlt i hi g hg).trans (ho1.same g (hR.lt hi hg) (fun hf=>?_)))⟩
    rcases hf with hf | hf
    ·exact hR.sep i a hi ha hia g hg (AgD.bk_all hf)
    ·exact hR.sep i b hi hb hib g hg (AgD.bk_all hf)
   ·rw[zO _ _ hab,zQ];exact hpa
   ·rw[zQ];exact hpb
  ·exact hf.elim
def cells64 (v:Nat→Value):Array Value:=((List.range 64).map v).toArray
theorem xE (v:Nat→Value) {i:Nat} (hi:i<64):(cells64 v)[i]?=some (v i):=by
 unfold cells64
 rw[List.getElem?_toArray,List.getElem?_map,List.getElem?_range hi];rfl
theorem cells64_set (v:Nat→Value) {i:Nat} (hi:i<64) (u:Value):(cells64 v).setIfInBounds i u=cells64 (put1 v i u):=by
 apply Array.ext_getElem?
 intro j
 by_cases hj:j<64
 ·rw[xE _ hj]
  by_cases e:i=j
  ·subst e
   rw[zQ,Array.getElem?_setIfInBounds_self_of_lt (by unfold cells64;simpa using hi)]
  ·rw[zO _ _ (Ne.symm e),Array.getElem?_setIfInBounds_ne e,xE _ hj]
 ·rw[Array.getElem?_eq_none (by unfold cells64;simp;omega),Array.getElem?_eq_none (by unfold cells64;simp;omega)]
structure LastAt (w:World) (L:Nat) (v:Nat→Value) (f:Nat→List Int):Prop where
 blk:w.heap[L]?=some (.cells (cells64 v) 36 (0,0))
 own:∀i,i<64→OwnR kInt (L+1) w (v i) (f i)
 sep:∀i j,i<64→j<64→i≠j→∀g,(v i).ownBlock=some g→(v j).ownBlock≠some g
def foot (L:Nat) (v:Nat→Value) (g:Nat):Prop:=g=L∨∃i,i<64∧(v i).ownBlock=some g
theorem LastAt.lt {w:World} {L:Nat} {v:Nat→Value} {f:Nat→List Int} (h:LastAt w L v f) {g:Nat} (hg:foot L v g):L≤g∧g<w.heap.size:=by
 rcases hg with rfl | ⟨i,hi,hg⟩
 ·exact⟨Nat.le_refl _,(gsi.1 h.blk).1⟩
 ·have:=(h.own i hi).lt g hg;omega
theorem LastAt.keep {w w':World} {L:Nat} {v:Nat→Value} {f:Nat→List Int} (h:LastAt w L v f) (k:∀g,foot L v g→w'.heap[g]?=w.heap[g]?):LastAt w' L v f:=
 ⟨(k L (.inl rfl)).trans h.blk,fun i hi=>(h.own i hi).keep (fun g hg=>k g (.inr ⟨i,hi,hg⟩)),h.sep⟩
theorem LastAt.below {w w':World} {L:Nat} {v:Nat→Value} {f:Nat→List Int} (h:LastAt w L v f) (hb:Below w.heap.size w w'):LastAt w' L v f:=h.keep (fun g hg=>hb.block g (h.lt hg).2)
theorem LastAt.cell {w:World} {L:Nat} {v:Nat→Value} {f:Nat→List Int} (h:LastAt w L v f) {i:Nat} (hi:i<64):w.cell? ⟨L,i,none⟩=some (v i):=zF h.blk (xE v hi)
theorem LastAt.start (w:World):LastAt (w.alloc (.cells (cells64 (fun _=>.slice none 0 0)) 36)) w.heap.size (fun _=>.slice none 0 0) (fun _=>[]):=
 ⟨heap_alloc_new w _,fun i hi=>yH kInt _ _,fun i j _ _ _ g hg=>by cases hg⟩
theorem LastAt.more {w w1:World} {L:Nat} {v:Nat→Value} {f:Nat→List Int} (h:LastAt w L v f) {i:Nat} (hi:i<64) {u:Value} {xs:List Int} (ho:OwnR kInt (L+1) w1 u xs) (hg:w.grownBy w1 (v i).ownBlock) (hp:∀g,u.ownBlock=some g→(v i).ownBlock=some g∨g=w.heap.size) :
  LastAt (w1.setCell ⟨L,i,none⟩ u) L (put1 v i u) (put1 f i xs)∧Off (foot L v) w (w1.setCell ⟨L,i,none⟩ u)∧∀g,foot L (put1 v i u) g→foot L v g∨w.heap.size≤g:=by
 have hL:=h.lt (.inl rfl)
 have hne:∀j,j<64→∀g,(v j).ownBlock=some g→g≠L:=fun j hj g e=>by have:=((h.own j hj).lt g e).1;omega
 have hL1:w1.heap[L]?=some (.cells (cells64 v) 36 (0,0)):=(hg.block L hL.2 (fun e=>hne i hi L e.symm rfl)).trans h.blk
 have hs:=zG (j:=i) hL1 u
 rw[cells64_set v hi u]at hs
 have hof:Off (fun g=>g=L) w1 (w1.setCell ⟨L,i,none⟩ u):=(Off.refl (fun g=>g=L) w1).set (F:=fun g=>g=L) (a:=⟨L,i,none⟩) (.inl rfl) u
 have hof1:Off (foot L v) w w1:=⟨hg.size,fun g h1 h2=>hg.block g h1 (fun e=>h2 (.inr ⟨i,hi,e.symm⟩)),hg.os,hg.tape,hg.output⟩
 have hq:∀g,u.ownBlock=some g→g≠L:=fun g e=>by have:=(ho.lt g e).1;omega
 refine⟨⟨hs,fun j hj=>?_,fun j k hj hk hjk g e=>?_⟩,hof1.trans (hof.mono (fun g _ e=>.inl e)),fun g hg'=>?_⟩
 ·by_cases e:j=i
  ·subst e
   rw[zQ,zQ]
   exact ho.keep (fun g hg=>hof.same g (ho.lt g hg).2 (hq g hg))
  ·rw[zO _ _ e,zO _ _ e]
   exact(h.own j hj).keep (fun g hg'=>(hof.same g (Nat.lt_of_lt_of_le ((h.own j hj).lt g hg').2 hg.size) (hne j hj g hg')).trans (hg.block g ((h.own j hj).lt g hg').2 (fun e2=>h.sep j i hj hi e g hg' e2.symm)))
 ·by_cases ej:j=i
  ·subst ej
   rw[zQ]at e
   rw[zO _ _ (Ne.symm hjk)]
   intro e2
   rcases hp g e with h1 | h1
   ·exact h.sep j k hj hk hjk g h1 e2
   ·have:=((h.own k hk).lt g e2).2;omega
  ·rw[zO _ _ ej]at e
   by_cases ek:k=i
   ·subst ek
    rw[zQ]
    intro e2
    rcases hp g e2 with h1 | h1
    ·exact h.sep j k hj hk hjk g e h1
    ·have:=((h.own j hj).lt g e).2;omega
   ·rw[zO _ _ ek]
    exact h.sep j k hj hk hjk g e
 ·rcases hg' with rfl | ⟨j,hj,e⟩
  ·exact .inl (.inl rfl)
  ·by_cases ej:j=i
   ·subst ej
    rw[zQ]at e
    rcases hp g e with h1 | h1
    ·exact .inl (.inr ⟨j,hj,h1⟩)
    ·exact .inr (by omega)
   ·rw[zO _ _ ej]at e
    exact .inl (.inr ⟨j,hj,e⟩)
end
section
open Go.RowKit Rw Rh
structure Smp (w2 wr:World) (W P L:Nat) (wc:Wc) (d r:Nat→Value) (size:Int) (k wn:Nat) (F:Nat→Nat→Prop) (p:Nat→AgP) (c:Nat→Cf) (E:Nat→List Pl.Ev) (v:Nat→Value) (T:Nat→List Int):Prop where
 wd:WdAt wr W P wc d r
 ring:Ring wr W P wc.n size k wn F p c E
 last:LastAt wr L v T
 one:∀i,i<wc.n→∀e∈E i,e.kind=1∧0≤e.value∧e.value≤1099511627776
 tot:(Pl.flatE E wc.n).length≤k
 apart:∀g,foot L v g→(∀i,i<wc.n→¬(F i g∨(p i).has g))∧g≠W∧g≠P
 new:∀i,i<wc.n→∀g,F i g∨(p i).has g→w2.heap.size≤g
 lm:w2.heap.size≤L
 below:Below w2.heap.size w2 wr
section
variable {w2 wr w':World} {W P L:Nat} {wc:Wc} {d r:Nat→Value} {size:Int} {k wn:Nat} {F:Nat→Nat→Prop} {p:Nat→AgP} {c:Nat→Cf} {E:Nat→List Pl.Ev} {v:Nat→Value} {T:Nat→List Int}
theorem Smp.pass (h:Smp w2 wr W P L wc d r size k wn F p c E v T) (hb:Below wr.heap.size wr w') {k':Nat} (hk:k≤k'):Smp w2 w' W P L wc d r size k' wn F p c E v T:=
 ⟨h.wd.below hb,Ring.more (w':=wr) (h.ring.below hb) hk,h.last.below hb,h.one,Nat.le_trans h.tot hk,h.apart,h.new,h.lm,h.below.trans (hb.mono h.below.size)⟩
theorem Smp.did (h:Smp w2 wr W P L wc d r size k wn F p c E v T) {F':Nat→Nat→Prop} {E':Nat→List Pl.Ev} {k':Nat} (ho:Off (fun g=>∃i,i<wc.n∧(F i g∨(p i).has g)) wr w') (hF:∀i g,F' i g→F i g∨wr.heap.size≤g) (hw:WdAt w' W P wc d r) (hR:Ring w' W P wc.n size k' wn F' p c E')
  (h1:∀i,i<wc.n→∀e∈E' i,e.kind=1∧0≤e.value∧e.value≤1099511627776) (ht:(Pl.flatE E' wc.n).length≤k'):Smp w2 w' W P L wc d r size k' wn F' p c E' v T:=
 ⟨hw,hR,h.last.keep (fun g hg=>ho.same g (h.last.lt hg).2 (fun ⟨i,hi,hf⟩=>(h.apart g hg).1 i hi hf)),h1,ht,fun g hg=>⟨fun i hi hf=>by
   rcases hf with hf | hf
   ·rcases hF i g hf with h2 | h2
    ·exact(h.apart g hg).1 i hi (.inl h2)
    ·have:=(h.last.lt hg).2;omega
   ·exact(h.apart g hg).1 i hi (.inr hf),(h.apart g hg).2⟩,fun i hi g hg=>by
   rcases hg with hg | hg
   ·rcases hF i g hg with h2 | h2
    ·exact h.new i hi g (.inl h2)
    ·exact Nat.le_trans h.below.size h2
   ·exact h.new i hi g (.inr hg),h.lm,ho.since h.below (fun g ⟨i,hi,hg⟩=>h.new i hi g hg)⟩
theorem Smp.wrote (h:Smp w2 wr W P L wc d r size k wn F p c E v T) {v':Nat→Value} {T':Nat→List Int} (ho:Off (foot L v) wr w') (hl:LastAt w' L v' T') (hf:∀g,foot L v' g→foot L v g∨wr.heap.size≤g):Smp w2 w' W P L wc d r size k wn F p c E v' T':=
 ⟨h.wd.keep (fun g hg=>ho.same g (hg.elim (fun e=>e ▸ h.wd.lt.1) (fun e=>e ▸ h.wd.lt.2)) (fun hd=>by have h2:=(h.apart g hd).2;exact hg.elim h2.1 h2.2)),
  h.ring.keep ho.size (fun i hi g hg=>ho.same g (h.ring.lt hi g hg) (fun hd=>(h.apart g hd).1 i hi hg)),hl,h.one,h.tot,fun g hg=>by
   rcases hf g hg with h2 | h2
   ·exact h.apart g h2
   ·have h3:=h.wd.lt
    exact⟨fun i hi hi'=>by have:=h.ring.lt hi g hi';omega,by omega,by omega⟩,h.new,h.lm,ho.since h.below (fun g hg=>Nat.le_trans h.lm (h.last.lt hg).1)⟩
theorem Smp.start (hw:WdAt wr W P wc d r) (hR:Ring wr W P wc.n size 0 wn F p c (fun _=>[])) (hb:Below w2.heap.size w2 wr) (hf:∀i,i<wc.n→∀g,F i g∨(p i).has g→w2.heap.size≤g) :
  Smp w2 (wr.alloc (.cells (cells64 (fun _=>.slice none 0 0)) 36)) W P wr.heap.size wc d r size 0 wn F p c (fun _=>[]) (fun _=>.slice none 0 0) (Pl.tab (fun _=>[]) wc.n):=by
 have b1:=bn wr (.cells (cells64 (fun _=>.slice none 0 0)) 36)
 have hl:=LastAt.start wr
 have ht:Pl.tab (fun _=>[]) wc.n=fun _=>[]:=by funext i;exact Pl.tab_none _ _
 refine⟨hw.below b1,hR.below b1,by rw[ht];exact hl,(fun i _ e he=>by cases he),by rw[Pl.flatE_none];simp,fun g hg=>?_,hf,hb.size,hb.trans (b1.mono hb.size)⟩
 have hgl:wr.heap.size≤g:=(hl.lt hg).1
 have h3:=hw.lt
 exact⟨fun i hi hi'=>by have:=hR.lt hi g hi';omega,by omega,by omega⟩
end
structure Met (w2 wr:World) (W P L:Nat) (wc:Wc) (d r:Nat→Value) (wn:Nat) (x:Nat→AgD) (E:Nat→List Pl.Ev) (v:Nat→Value) (T:Nat→List Int):Prop where
 wd:WdAt wr W P wc d r
 ring:RingM wr W P wc.n wn x E
 last:LastAt wr L v T
 apart:∀g,foot L v g→∀i,i<wc.n→¬(x i).all g
 new:∀i,i<wc.n→∀g,(x i).all g→w2.heap.size≤g
 below:Below w2.heap.size w2 wr
section
variable {w2 wr w':World} {W P L:Nat} {wc:Wc} {d r:Nat→Value} {wn:Nat} {x:Nat→AgD} {E:Nat→List Pl.Ev} {v:Nat→Value} {T:Nat→List Int}
theorem Met.pass (h:Met w2 wr W P L wc d r wn x E v T) (hb:Below wr.heap.size wr w'):Met w2 w' W P L wc d r wn x E v T:=
 ⟨h.wd.below hb,h.ring.below hb,h.last.below hb,h.apart,h.new,h.below.trans (hb.mono h.below.size)⟩
theorem Met.did (h:Met w2 wr W P L wc d r wn x E v T) {E':Nat→List Pl.Ev} (ho:Off (fun g=>∃i,i<wc.n∧(x i).all g) wr w') (hw:WdAt w' W P wc d r) (hR:RingM w' W P wc.n wn x E'):Met w2 w' W P L wc d r wn x E' v T:=
 ⟨hw,hR,h.last.keep (fun g hg=>ho.same g (h.last.lt hg).2 (fun ⟨i,hi,hf⟩=>h.apart g hg i hi hf)),h.apart,h.new,ho.since h.below (fun g ⟨i,hi,hg⟩=>h.new i hi g hg)⟩
theorem Smp.met {size:Int} {k:Nat} {F:Nat→Nat→Prop} {p:Nat→AgP} {c:Nat→Cf} (h:Smp w2 wr W P L wc d r size k wn F p c E v T):∃x,(∀i,i<wc.n→(x i).p=p i)∧Met w2 wr W P L wc d r wn x E v T:=by
 obtain⟨x,hx,hm⟩:=h.ring.toM
 exact⟨x,fun i hi=>(hx i hi).1,h.wd,hm,h.last,fun g hg i hi hx'=>(h.apart g hg).1 i hi ((hx i hi).2 g hx'),fun i hi g hg=>h.new i hi g ((hx i hi).2 g hg),h.below⟩
theorem Smp.lot {size:Int} {k:Nat} {F:Nat→Nat→Prop} {p:Nat→AgP} {c:Nat→Cf} (h:Smp w2 wr W P L wc d r size k wn F p c E v T) (hk:k≤60):Pl.Lot (Pl.flatE E wc.n)∧∀i,i<wc.n→Pl.Subs (Pl.flatE E wc.n) (E i):=by
 have ht:=h.tot
 refine h.ring.lot (by omega) ?_
 have h1:=Pl.codes_smps (Pl.flatE E wc.n) (fun e he=>by
  obtain⟨i,hi,he'⟩:=Pl.mem_flatE.1 he
  exact⟨h.ring.oks hi e he',(h.one i hi e he').1⟩)
 omega
end
theorem Met.query {w2 wr:World} {W P L:Nat} {wc:Wc} {d r:Nat→Value} {wn:Nat} {x:Nat→AgD} {E E0:Nat→List Pl.Ev} {v:Nat→Value} {T:Nat→List Int} (h:Met w2 wr W P L wc d r wn x E v T) (hl:Pl.Lot (Pl.flatE E0 wc.n)) (hc:Pl.Col (Pl.flatE E0 wc.n) wc.n E0 2 0 E)
  (hE:∀i,i<wc.n→(E0 i).Pairwise (fun a b=>a.seq<b.seq)∧∀e∈E0 i,e.node=(i:Int)∧0≤e.seq) (h1:∀i,i<wc.n→∀e∈E0 i,e.kind=1∧0≤e.value∧e.value≤1099511627776) (hwn:wn≤16) (i work:Nat) (hi:i<wc.n) (hw:work<8) :
  Calls prog 10 #[Qp ((x i).p.a),.int .i64 work] wr fun e w'=>e=.returned (.tuple #[.agg (Qb false 0 0 0 0 0 0 0 0 0 (Pl.lawOf (fun nd=>Pl.tab E0 wc.n (nd*8+work)) wn wc.n).1 (Pl.lawOf (fun nd=>Pl.tab E0 wc.n (nd*8+work)) wn wc.n).2 0),.int .i64 0])∧Below wr.heap.size wr w':=by
 have hp:=hc.done hl hi
 obtain⟨cl,ha⟩:=h.ring.ag i hi
 have hn:=h.wd.n1
 have hok:∀e∈E i,e.Ok:=fun e he=>hl.ok e (hp.mem_iff.1 he)
 have hk:∀e∈E i,e.kind=1:=fun e he=>by
  obtain⟨j,hj,he'⟩:=Pl.mem_flatE.1 (hp.mem_iff.1 he)
  exact(h1 j hj e he').1
 refine(aquery_none (x i).F (x i).p (x i).c (x i).size (x i).bs (x i).used (x i).upto (x i).own (E i) cl (work:Int) wr ha (zM (by omega) (by omega)) (by rw[hp.length_eq];exact hl.len) ?_).mono ?_
 ·unfold Pl.sets
  refine List.filter_eq_nil_iff.2 fun e he hq=>?_
  have:=hk e he
  simp at hq
  omega
 ·rintro e w' ⟨l,hpl,hord,rfl,hb⟩
  have hlo:∀e∈l,e.Ok:=fun e he=>hok e (hpl.mem_iff.1 he)
  have h2:=Pl.load_law (E0:=E0) (n:=wc.n) (W:=wn) work (hpl.trans hp) hE (fun node=>uB hord hlo (work:Int) node) (by omega) hn.2 hw (fun j hj e he=>(h1 j hj e he).2)
  rw[(h.ring.cn i hi).2,h2]
  exact⟨rfl,hb⟩
end
section
open Go.RowKit Rw Rh
theorem dots_none {O:Nat→Nat→Bool} (h:∀n s,¬O n s=true):Pl.dots O=[]:=by
 unfold Pl.dots
 refine List.flatMap_eq_nil_iff.2 fun n _=>?_
 unfold Pl.row
 refine List.map_eq_nil_iff.2 (List.filter_eq_nil_iff.2 fun s _=>h n s)
theorem rS (b ms mh:Nat) (work:Int) (clock:Int) (w:World) (h:BkC w b ms mh (seenL []) (heldL []) clock) :
  Calls prog 305 #[Qp b,.int .i64 work] w fun r w'=>r=.returned (.tuple #[.slice none 0 0,.int .i64 0])∧Below w.heap.size w w':=by
 have b1:=bn w (.cells (Qo work) 3)
 have b2:=b1.alloc b1.size (.map #[] 0)
 have b3:=b2.alloc b2.size (.cells #[.map (some (w.heap.size+1))] 182)
 have s1:(w.alloc (.cells (Qo work) 3)).heap.size=w.heap.size+1:=zE _ _
 have hm:=rQ (w.alloc (.cells (Qo work) 3))
 have hn:=heap_alloc_new (w.alloc (.cells (Qo work) 3)) (.map #[] 0)
 rw[s1]at hm hn
 have s2:((w.alloc (.cells (Qo work) 3)).alloc (.map #[] 0)).heap.size=w.heap.size+2:=by rw[zE,s1]
 have hm3:=hm.below (bn _ (.cells #[.map (some (w.heap.size+1))] 182))
 have hn3:=zC hn (bn _ (.cells #[.map (some (w.heap.size+1))] 182))
 have hc:=heap_alloc_new ((w.alloc (.cells (Qo work) 3)).alloc (.map #[] 0)) (.cells #[.map (some (w.heap.size+1))] 182)
 rw[s2]at hc
 have HM:=zA hm3
 have HN:=zA hn3
 have HC:=zA hc
 have HB:=zA b3
 have HK:=zA (h.below b3)
 have hq:∀w,(binOp BinOp.eql 111 (Qp b) (.pointer none)).run prog w=.ok (.bool false) w:=fun _=>rfl
 have m1:∀w,Sem.run prog (Instr.makeMap 182 none) w=.ok (.map (some w.heap.size)) (w.alloc (.map #[] 0)):=fun _=>by kernel_rfl
 clear b1 b2 b3 hm hn hm3 hn3 hc h
 go_enter func305,ntmps305
 go_wp2_with fail
 try simp only[s1,s2]
 generalize ((w.alloc (.cells (Qo work) 3)).alloc (.map #[] 0)).alloc (.cells #[.map (some (w.heap.size+1))] 182)=W at *
 refine(sC b ms mh 346 #[Qp w.heap.size,Qp (w.heap.size+2)] (seenL []) [] clock (fun l W'=>Below W.heap.size W W') W HK.out (by simp) (by simp) (fun W' h=>h) (fun l W1 W2 h1 h2=>h1.trans (h2.mono h1.size)) (fun l W1 h1=>HK.out.below h1) (fun x W=>by kernel_rfl) (fun l e W he=>absurd he (by simp))).mono ?_
 rintro r w1 ⟨rfl,l,hp,_,hb⟩
 have c0:=cc 0 (zC HC.out hb)
 have n0:=zC HN.out hb
 have hlen:Sem.run prog (Builtin.len_ #[182] 3 #[.map (some (w.heap.size+1))]) w1=.ok (.int .i64 0) w1:=by
  have hg:(getObj (w.heap.size+1)).run prog w1=.ok (.map #[] 0) w1:=by simp[getObj,Sem.run,n0]
  simp[Builtin.len_,Builtin.lenOf,hg]
  rfl
 have HB1:=zA (HB.out.trans (hb.mono HB.out.size))
 have HS:=zA (bset_ok (w.heap.size+1) [] w1 (HM.out.below hb) (by simp))
 clear hp hb HM HN HC HB HK
 go_wp2_with fail
 refine HS.out.mono ?_
 rintro r w2 ⟨v,O,U,M,rfl,hs,hO,hb⟩
 have hd:=dots_none (O:=O) (fun n s h=>by obtain⟨p,hp,_⟩:=(hO n s).1 h;cases hp)
 have HB2:=zA (HB1.out.trans (hb.mono HB1.out.size))
 have HL:=zA (sP v O U M w2 hs)
 have HD:=zA hd
 clear hs hO hb hd HS HB1 c0 n0 hlen
 go_wp2_with fail
 refine HL.out.mono ?_
 rintro r w3 ⟨v',rfl,⟨_,hb⟩,hn⟩
 obtain rfl:=hn HD.out
 have HB3:=zA (HB2.out.trans (hb.mono HB2.out.size))
 clear hn hb
 go_wp2_with fail
 exact bodyPost_ret (v:=.tuple #[.slice none 0 0,.int .i64 0]) (by simp[results,results305,go_sem]) rfl ⟨rfl,HB3.out⟩
theorem sZ (Fs:Nat→Prop) (p:AgP) (c:Cf) (size:Int) (bs:List Int) (u m:Nat) (clock:Int) (E:Nat) (w:World) (h:AgAt Fs w p c size bs u m [] [] clock) (hE:w.heap[E]?=some (.cells (Qe ((c.n:Int)) 1 1 2 2 0 0 9 10 0 2 1 0) 175 (0,0))) :
  Calls prog 239 #[Qp p.a,Qp E] w fun r w'=>r=.returned (.tuple #[])∧Below w.heap.size w w':=by
 have HA:=zA h
 have HE:=zA hE
 have x3:=cc 3 hE
 have x4:=cc 4 hE
 clear h hE
 go_enter func239,ntmps239
 go_wp2_with fail
 clear x3 x4
 refine zD (fun W'=>W'.heap[E]?=some (.cells (Qe ((c.n:Int)) 1 1 2 2 0 0 9 10 0 2 1 0) 175 (0,0))) 99 (by kernel_rfl) HE.out (fun rV=>?_)
 refine tkp 0 9 rfl ?_
 refine tkp 1 10 rfl ?_
 refine tkp 2 11 rfl ?_
 refine tk 3 12 rfl (by intro wS hSw;have x3:=cc 3 hSw;have x4:=cc 4 hSw;clear hSw;go_simp;(try with_reducible rfl)) ?_
 refine tkp 4 13 rfl ?_
 refine tkp 5 14 rfl ?_
 refine tu 6 15 rfl ?_
 refine tu 7 16 rfl ?_
 refine tu 8 17 rfl ?_
 refine tu 9 18 rfl ?_
 refine tu 10 19 rfl ?_
 refine tu 11 20 rfl ?_
 refine tu 12 21 rfl ?_
 refine tu 13 22 rfl ?_
 refine tu 14 23 rfl ?_
 refine tu 15 24 rfl ?_
 refine tkp 16 25 rfl ?_
 refine wd ?_
 clear rV
 go_wp2_with fail
 refine zD (fun W'=>W'.heap[E]?=some (.cells (Qe ((c.n:Int)) 1 1 2 2 0 0 9 10 0 2 1 0) 175 (0,0))) 99 (by kernel_rfl) HE.out (fun rV=>?_)
 refine tkp 0 28 rfl ?_
 refine tkp 1 29 rfl ?_
 refine tkp 3 31 rfl ?_
 refine tkp 4 32 rfl ?_
 refine tkp 5 33 rfl ?_
 refine tk 6 34 rfl (by intro wS hSw;have x3:=cc 3 hSw;have x4:=cc 4 hSw;clear hSw;go_simp;(try with_reducible rfl)) ?_
 refine t1 2 rfl (fun K hK=>?_)
 go_simp
 refine(vG Fs p c size bs 0 0 [] clock [] u m _ (HA.out.below (Below.refl _ _).drew.drew)).mono ?_
 rintro r w1 ⟨rfl,hw⟩
 subst hw
 refine hK.out _ _ (fun _=>rV) (fun _=>?_)
 clear hK K
 try simp only[pt,List.set]
 refine t1 7 rfl (fun K hK=>?_)
 go_simp
 refine(rS p.b p.ms p.mh 2 clock _ (HA.out.below (Below.refl _ _).drew.drew).go.bk).mono ?_
 rintro r w2 ⟨rfl,hb⟩
 have hb2:=(Below.refl w.heap.size w).drew.drew.trans hb
 have hH2:=zC HE.out hb2
 have HB:=zA hb2
 clear hb hb2
 refine hK.out _ _ (fun _=>hH2) (fun _=>?_)
 clear hK K
 try simp only[pt,List.set]
 clear rV
 have rV:=hH2
 refine tkp 8 36 rfl ?_
 refine tkp 9 37 rfl ?_
 refine t1 10 rfl (fun K hK=>?_)
 go_simp
 refine(got304_ok _ _).mono ?_
 rintro r w3 ⟨rfl,hw⟩
 subst hw
 refine hK.out _ _ (fun _=>rV) (fun _=>?_)
 clear hK K
 try simp only[pt,List.set]
 refine tkp 11 39 rfl ?_
 refine tkp 12 40 rfl ?_
 have f13:=zB hH2 13
 have x13:=cc 13 hH2
 have e13:w2.setCell ⟨E,13,none⟩ (.slice none 0 0)=w2:=zL (j:=13) hH2 rfl
 refine t1 13 rfl (fun K hK=>?_)
 go_simp
 try simp only[e13]
 refine hK.out _ _ (fun _=>hH2) (fun _=>?_)
 clear hK K
 try simp only[pt,List.set]
 refine wd ?_
 clear rV f13 x13 e13
 go_wp2_with fail
 exact yD results239 ⟨rfl,HB.out⟩
end
end Go.Proofs.YtodlmbfbfaofcaaGreat
