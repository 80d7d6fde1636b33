/- TopLoads, part 39. -/
import Derived.Test.YtodlmbfbfaofcaaGreatM01
import Derived.Test.YtodlmbfbfaofcaaGreatM03
import Derived.Test.YtodlmbfbfaofcaaGreatM07
import Derived.Test.YtodlmbfbfaofcaaGreatM34
import Derived.Test.YtodlmbfbfaofcaaGreatM38
open Go.Proofs.Tryz
namespace Go.Proofs.YtodlmbfbfaofcaaGreat
set_option linter.unusedVariables false
set_option linter.unusedSimpArgs false
set_option maxRecDepth 100000
set_option maxHeartbeats 4000000
section
open Go.RowKit Rw Rh
namespace Pl
def lsum (vs:List Int):Int:=vs.foldl (fun s n=>min (s+n) 1099511627776) 0
def lastN (vs:List Int) (W:Nat):List Int:=vs.drop (vs.length - W)
def lawStep (f:Nat→List Int) (W:Nat) (a:Int×Nat) (node:Nat):Int×Nat:=
 if(lastN (f node) W).length=0 then a else(min (a.1+(lsum (lastN (f node) W)+(lastN (f node) W).length - 1).tdiv (lastN (f node) W).length) 1099511627776,a.2+1)
def lawOf (f:Nat→List Int) (W k:Nat):Int×Nat:=(List.range k).foldl (lawStep f W) (0,0)
theorem lawOf_succ (f:Nat→List Int) (W k:Nat):lawOf f W (k+1)=lawStep f W (lawOf f W k) k:=by
 unfold lawOf
 rw[List.range_succ,List.foldl_append];rfl
def isum:List Int→Int
 | []=>0
 | x::l=>x+isum l
theorem isum_append (xs ys:List Int):isum (xs++ys)=isum xs+isum ys:=by
 induction xs with
 | nil=>simp[isum]
 | cons x l ih=>simp[isum,ih];omega
theorem rJ (xs:List Int):isum xs.reverse=isum xs:=by
 induction xs with
 | nil=>rfl
 | cons x l ih=>rw[List.reverse_cons,isum_append,ih];simp[isum];omega
def Small (vs:List Int):Prop:=∀v∈vs,0≤v∧v≤1099511627776
theorem xU {vs:List Int} (h:Small vs):0≤isum vs:=by
 induction vs with
 | nil=>simp[isum]
 | cons x l ih=>
  have h1:=h x (by simp)
  have h2:=ih (fun v hv=>h v (by simp[hv]))
  simp only[isum];omega
theorem lsum_from {vs:List Int} (h:Small vs) (s:Int) (h0:s≤1099511627776):vs.foldl (fun s n=>min (s+n) 1099511627776) s=min (s+isum vs) 1099511627776:=by
 induction vs generalizing s with
 | nil=>simp[isum];omega
 | cons x l ih=>
  have h1:=h x (by simp)
  have h3:=xU (vs:=l) (fun v hv=>h v (by simp[hv]))
  rw[List.foldl_cons,ih (fun v hv=>h v (by simp[hv])) _ (by omega)]
  simp only[isum];omega
theorem tD {vs:List Int} (h:Small vs):lsum vs=min (isum vs) 1099511627776:=by
 unfold lsum
 rw[lsum_from h 0 (by omega)];simp
theorem sY {s v:Int} (hs:0≤s∧s≤1099511627776) (hv:0≤v∧v≤1099511627776):add s v=min (s+v) 1099511627776:=by
 unfold add clamp within
 repeat' split
 all_goals omega
theorem sumOf_from {l:List Ev} (h:Small (l.map (·.value))) (s:Int) (h0:0≤s∧s≤1099511627776):l.foldl (fun s e=>add s e.value) s=min (s+isum (l.map (·.value))) 1099511627776:=by
 induction l generalizing s with
 | nil=>simp[isum];omega
 | cons x l ih=>
  have h1:=h x.value (by simp)
  have h2:Small (l.map (·.value)):=fun v hv=>h v (by rw[List.map_cons];exact List.mem_cons_of_mem _ hv)
  have h3:=xU h2
  rw[List.foldl_cons,sY h0 h1,ih h2 _ (by omega)]
  simp only[List.map_cons,isum];omega
theorem sumOf_eq {l:List Ev} (h:Small (l.map (·.value))):sumOf l=min (isum (l.map (·.value))) 1099511627776:=by
 unfold sumOf
 rw[sumOf_from h 0 (by omega)];simp
theorem cdiv_law {x y:Int} (hx:0≤x) (hy:0<y):cdiv x y=(x+y - 1).tdiv y:=by
 rw[Int.tdiv_eq_ediv_of_nonneg (by omega)]
 unfold cdiv
 have h1:=Int.emod_nonneg (-x) (b:=y) (by omega)
 have h2:=Int.emod_lt_of_pos (-x) hy
 have h3:=Int.mul_ediv_add_emod (-x) y
 have h5:=Int.emod_nonneg (x+y - 1) (b:=y) (by omega)
 have h6:=Int.emod_lt_of_pos (x+y - 1) hy
 have h7:=Int.mul_ediv_add_emod (x+y - 1) y
 generalize (-x) / y=p at *
 generalize (x+y - 1) / y=q at *
 have h8:y*(q+p)=y*q+y*p:=Int.mul_add _ _ _
 have h9:y*(q+p)<y:=by omega
 have h10 : -y<y*(q+p):=by omega
 generalize hz:q+p=z at *
 have hz0:z=0:=by
  rcases Int.lt_trichotomy z 0 with h | h | h
  ·have:y*z≤y*(-1):=Int.mul_le_mul_of_nonneg_left (by omega) (by omega)
   omega
  ·exact h
  ·have:y*1≤y*z:=Int.mul_le_mul_of_nonneg_left (by omega) (by omega)
   omega
 omega
theorem lastN_map (es:List Ev) (work node:Int) (W:Nat):((lastOf es work node W).map (·.value)).reverse=lastN ((smps es work node).map (·.value)) W:=by
 unfold lastOf lastN
 rw[←List.map_reverse,List.reverse_take,List.map_drop,List.reverse_reverse,List.length_map,List.length_reverse]
theorem Small.lastN {vs:List Int} (h:Small vs) (W:Nat):Small (lastN vs W):=fun v hv=>h v (List.mem_of_mem_drop hv)
theorem step_eq (es:List Ev) (work:Int) (f:Nat→List Int) (W node:Nat) (hW:W≤1000) (hf:f node=(smps es work node).map (·.value)) (hs:Small (f node)) (a:Int×Nat) (ha:0≤a.1∧a.1≤1099511627776) :
  loadStep es work W a node=lawStep f W a node∧0≤(lawStep f W a node).1∧(lawStep f W a node).1≤1099511627776:=by
 have h1:=lastN_map es work node W
 rw[←hf]at h1
 have hl:(lastOf es work node W).length=(lastN (f node) W).length:=by rw[←h1];simp
 have hls:(lastN (f node) W).length≤1000:=by unfold lastN;rw[List.length_drop];omega
 have hsm:=hs.lastN W
 have hsv:Small ((lastOf es work node W).map (·.value)):=fun v hv=>hsm v (by rw[←h1];exact List.mem_reverse.2 hv)
 have hsum:sumOf (lastOf es work node W)=lsum (lastN (f node) W):=by
  rw[sumOf_eq hsv,tD hsm,←h1,rJ]
 have hb:0≤lsum (lastN (f node) W)∧lsum (lastN (f node) W)≤1099511627776:=by
  have:=xU hsm
  rw[tD hsm];omega
 unfold loadStep lawStep
 by_cases h0:(lastN (f node) W).length=0
 ·rw[if_pos h0,if_neg (by unfold hasOf ceilE;rw[hl,h0];decide)]
  exact⟨rfl,ha⟩
 ·have hc:clamp (((lastN (f node) W).length:Nat):Int)=(lastN (f node) W).length:=by unfold clamp within;repeat' split;all_goals omega
  have hm:meanOf (lastOf es work node W)=(lsum (lastN (f node) W)+(lastN (f node) W).length - 1).tdiv (lastN (f node) W).length:=by
   unfold meanOf ceilQ
   rw[hl,hc,if_neg (by omega),hsum,←cdiv_law hb.1 (by omega)]
   congr 1
   unfold clamp within;repeat' split
   all_goals omega
  have hq:0≤(lsum (lastN (f node) W)+(lastN (f node) W).length - 1).tdiv (lastN (f node) W).length∧(lsum (lastN (f node) W)+(lastN (f node) W).length - 1).tdiv (lastN (f node) W).length≤1099511627776:=by
   rw[←cdiv_law hb.1 (by omega)]
   unfold cdiv
   have hy:(0:Int)<(lastN (f node) W).length:=by omega
   have h2:=Int.emod_lt_of_pos (-lsum (lastN (f node) W)) hy
   have h1:=Int.emod_nonneg (-lsum (lastN (f node) W)) (b:=((lastN (f node) W).length:Int)) (by omega)
   have h3:=Int.mul_ediv_add_emod (-lsum (lastN (f node) W)) ((lastN (f node) W).length:Int)
   generalize (-lsum (lastN (f node) W)) / ((lastN (f node) W).length:Int)=p at *
   generalize (((lastN (f node) W).length:Nat):Int)=y at *
   constructor
   ·rcases(by omega:0<p∨p≤0)with h | h
    ·have:y*1≤y*p:=Int.mul_le_mul_of_nonneg_left (by omega) (by omega)
     omega
    ·omega
   ·rcases(by omega:p < -1099511627776∨ -1099511627776≤p)with h | h
    ·have:y*p≤y*(-1099511627777):=Int.mul_le_mul_of_nonneg_left (by omega) (by omega)
     omega
    ·omega
  rw[if_neg h0,if_pos (by unfold hasOf ceilE;rw[hl,hc,if_neg (by omega)];rfl),hm,sY ha hq]
  exact⟨rfl,by dsimp only;omega⟩
theorem law_eq (es:List Ev) (work:Int) (f:Nat→List Int) (W:Nat) (hW:W≤1000) (hf:∀node,node<8→f node=(smps es work node).map (·.value)) (hs:∀node,node<8→Small (f node)) :
  ∀k,k≤8→loadOf es work W k=lawOf f W k∧0≤(lawOf f W k).1∧(lawOf f W k).1≤1099511627776
 | 0,_=>⟨rfl,by unfold lawOf;simp⟩
 | k+1,h=>by
  obtain⟨h1,h2⟩:=law_eq es work f W hW hf hs k (by omega)
  obtain⟨h3,h4⟩:=step_eq es work f W k hW (hf k (by omega)) (hs k (by omega)) (lawOf f W k) h2
  rw[lawOf_succ]
  refine⟨?_,h4⟩
  rw[←h3,←h1]
  unfold loadOf
  rw[List.range_succ,List.foldl_append];rfl
end Pl
theorem uB {l:List Pl.Ev} (h:l.Pairwise Pl.EvBefore) (hok:∀e∈l,e.Ok) (work:Int) (node:Nat):(Pl.smps l work node).Pairwise (fun a b=>a.seq<b.seq):=by
 have h1:(Pl.smps l work node).Pairwise Pl.EvBefore:=h.filter _
 refine List.Pairwise.imp_of_mem (fun ha hb hab=>?_) h1
 obtain⟨ha1,ha2⟩:=List.mem_filter.1 ha
 obtain⟨hb1,hb2⟩:=List.mem_filter.1 hb
 simp only[Bool.and_eq_true,beq_iff_eq]at ha2 hb2
 obtain⟨n,q,hd⟩:=(hok _ ha1).dot
 obtain⟨n',q',hd'⟩:=(hok _ hb1).dot
 unfold Pl.EvBefore at hab
 rw[hd.key,hd'.key]at hab
 have e1:=hd.node;have e2:=hd'.node;have e3:=hd.seq;have e4:=hd'.seq
 have e5:=ha2.2;have e6:=hb2.2
 rcases hab with h | ⟨_,h⟩
 ·have h':n<n':=h;omega
 ·have h':q<q':=h;omega
theorem aquery_none (Fs:Nat→Prop) (p:AgP) (c:Cf) (size:Int) (bs:List Int) (used upto:Int) (own es:List Pl.Ev) (clock:Int) (work:Int) (w:World) (h:AgAt Fs w p c size bs used upto own es clock) (hw:Pl.inside work 0 7=true) (hes:es.length≤80) (qM:Pl.sets es work=[]) :
  Calls prog 10 #[Qp p.a,.int .i64 work] w fun r w'=>∃l:List Pl.Ev,l.Perm es∧l.Pairwise Pl.EvBefore∧r=.returned (.tuple #[.agg (Qb false 0 0 0 0 0 0 0 0 0 (Pl.loadOf l work c.win 8).1 (Pl.loadOf l work c.win 8).2 0),.int .i64 0])∧Below w.heap.size w w':=by
 have b1:=bn w (.cells (Qbm false) 47)
 have HX:=zA (heap_alloc_new w (.cells (Qbm false) 47))
 have HB:=zA b1
 have HA:=zA (fun (W:World) (hW:Below w.heap.size w W)=>h.below hW)
 have HW:=zA hw
 have HOK:=zA (And.intro h.go.ok (And.intro hes (And.intro h.ok.win qM)))
 clear b1 h hw hes qM
 go_enter func10,ntmps10
 go_wp2_with fail
 generalize w.alloc (.cells (Qbm false) 47)=W at *
 refine(yZ _ _ _ _).mono ?_
 rintro r w' ⟨rfl,rfl⟩
 rw[HW.out]
 go_wp2_with fail
 refine(sD Fs p c size bs used upto own es clock W (HA.out W HB.out)).mono ?_
 rintro r w1 ⟨v,l,rfl,hp,hord,rX,hb⟩
 obtain⟨aol,capl,rfl⟩:=rX.toT.form
 have b2:=bn w1 (.cells (Qbm false) 47)
 have HT2:=zA (heap_alloc_new w1 (.cells (Qbm false) 47))
 have HB2:=zA (HB.out.trans ((hb.trans (b2.mono hb.size)).mono HB.out.size))
 have HX2:=zA (zC (zC HX.out hb) b2)
 have HR2:=zA (rX.toT.below b2)
 have HP:=zA (And.intro hp hord)
 have hll:l.length=es.length:=hp.length_eq
 have hlo:∀x∈l,x.Ok:=fun x hx=>HOK.out.1 x (hp.mem_iff.1 hx)
 have HL:=zA (And.intro hll hlo)
 have qQ:=zA (show Pl.sets l work=[]from List.perm_nil.1 (by rw[←HOK.out.2.2.2];exact hp.filter _))
 have HTG:=zA (show w.heap.size<w1.heap.size from Nat.lt_of_lt_of_le (gsi.1 HX.out).1 hb.size)
 clear hp hord rX hb b2 hll hlo HX HB
 go_wp2_with fail
 obtain⟨T7,hT7⟩:∃T7,T7=w1.heap.size:=⟨_,rfl⟩
 rw[←hT7]at HT2 HTG ⊢
 clear hT7
 generalize w1.alloc (.cells (Qbm false) 47)=w2 at *
 refine(winner_none _ l work w2 HR2.out.toC (by have:=HL.out.1;have:=HOK.out.2.1;omega) qQ.out).mono ?_
 rintro r w3 ⟨rfl,hb⟩
 have ht3:=zC HT2.out hb
 have HB3:=zA (HB2.out.trans (hb.mono HB2.out.size))
 have HX3:=zA (zC HX2.out hb)
 have HR3:=zA (HR2.out.below hb)
 have f0:=zB ht3 0
 have f1:=zB ht3 1
 have f2:=zB ht3 2
 have f3:=zB ht3 3
 have f4:=zB ht3 4
 have f5:=zB ht3 5
 have f6:=zB ht3 6
 have f7:=zB ht3 7
 have f8:=zB ht3 8
 have f9:=zB ht3 9
 have y0:=cc 0 ht3
 have y1:=cc 1 ht3
 have y2:=cc 2 ht3
 have y3:=cc 3 ht3
 have y4:=cc 4 ht3
 have y5:=cc 5 ht3
 have y6:=cc 6 ht3
 have y7:=cc 7 ht3
 have y8:=cc 8 ht3
 have y9:=cc 9 ht3
 have hs:=zG (j:=0) (zG (j:=2) (zG (j:=1) (zG (j:=9) (zG (j:=8) (zG (j:=7) (zG (j:=6) (zG (j:=5) (zG (j:=4) (zG (j:=3) (ht3) (.int .i64 0)) (.int .i64 0)) (.int .i64 0)) (.int .i64 0)) (.int .i64 0)) (.int .i64 0)) (.int .i64 0)) (.int .i64 0)) (.int .i64 0)) (.bool false)
 simp only[List.setIfInBounds_toArray,List.set_cons_zero,List.set_cons_succ]at hs
 have ho:Off (fun g=>g=T7) w3 (World.setCell (World.setCell (World.setCell (World.setCell (World.setCell (World.setCell (World.setCell (World.setCell (World.setCell (World.setCell w3 ⟨T7,3,none⟩ (.int .i64 0)) ⟨T7,4,none⟩ (.int .i64 0)) ⟨T7,5,none⟩ (.int .i64 0)) ⟨T7,6,none⟩ (.int .i64 0)) ⟨T7,7,none⟩ (.int .i64 0)) ⟨T7,8,none⟩ (.int .i64 0)) ⟨T7,9,none⟩ (.int .i64 0)) ⟨T7,1,none⟩ (.int .i64 0)) ⟨T7,2,none⟩ (.int .i64 0)) ⟨T7,0,none⟩ (.bool false)):=((((((((((Off.refl (fun g=>g=T7) w3).set (a:=⟨T7,3,none⟩) (.inl rfl) (.int .i64 0)).set (a:=⟨T7,4,none⟩) (.inl rfl) (.int .i64 0)).set (a:=⟨T7,5,none⟩) (.inl rfl) (.int .i64 0)).set (a:=⟨T7,6,none⟩) (.inl rfl) (.int .i64 0)).set (a:=⟨T7,7,none⟩) (.inl rfl) (.int .i64 0)).set (a:=⟨T7,8,none⟩) (.inl rfl) (.int .i64 0)).set (a:=⟨T7,9,none⟩) (.inl rfl) (.int .i64 0)).set (a:=⟨T7,1,none⟩) (.inl rfl) (.int .i64 0)).set (a:=⟨T7,2,none⟩) (.inl rfl) (.int .i64 0)).set (a:=⟨T7,0,none⟩) (.inl rfl) (.bool false)
 have HT4:=zA hs
 have HB4:=zA (show Below w.heap.size w (World.setCell (World.setCell (World.setCell (World.setCell (World.setCell (World.setCell (World.setCell (World.setCell (World.setCell (World.setCell w3 ⟨T7,3,none⟩ (.int .i64 0)) ⟨T7,4,none⟩ (.int .i64 0)) ⟨T7,5,none⟩ (.int .i64 0)) ⟨T7,6,none⟩ (.int .i64 0)) ⟨T7,7,none⟩ (.int .i64 0)) ⟨T7,8,none⟩ (.int .i64 0)) ⟨T7,9,none⟩ (.int .i64 0)) ⟨T7,1,none⟩ (.int .i64 0)) ⟨T7,2,none⟩ (.int .i64 0)) ⟨T7,0,none⟩ (.bool false))from ho.since HB3.out (fun g hg=>by have e:g=T7:=hg;rw[e];exact Nat.le_of_lt HTG.out))
 have hne:w.heap.size≠T7:=Nat.ne_of_lt HTG.out
 have HX4:=zA ((ho.same _ (gsi.1 HX3.out).1 hne).trans HX3.out)
 have HR4:=zA (HR3.out.keepG (w':=(World.setCell (World.setCell (World.setCell (World.setCell (World.setCell (World.setCell (World.setCell (World.setCell (World.setCell (World.setCell w3 ⟨T7,3,none⟩ (.int .i64 0)) ⟨T7,4,none⟩ (.int .i64 0)) ⟨T7,5,none⟩ (.int .i64 0)) ⟨T7,6,none⟩ (.int .i64 0)) ⟨T7,7,none⟩ (.int .i64 0)) ⟨T7,8,none⟩ (.int .i64 0)) ⟨T7,9,none⟩ (.int .i64 0)) ⟨T7,1,none⟩ (.int .i64 0)) ⟨T7,2,none⟩ (.int .i64 0)) ⟨T7,0,none⟩ (.bool false))) (fun g hne hg=>ho.same g (by
  obtain⟨g',off,cp,e1,e2,_⟩:=HR3.out.cell (i:=0) (List.length_pos_iff.2 hne)
  rw[e1]at hg;cases hg;exact e2) (fun e=>by
  obtain⟨g',off,cs,fr,e1,e2,_⟩:∃g' off cs fr,aol=some ⟨g',off,none⟩∧w3.heap[g']?=some (Obj.cells cs 175 fr)∧True:=by
   obtain⟨ao',cp',e3,_,e4⟩:=HR3.out
   cases e3
   obtain⟨g',off,cs,fr,e5,e6,_⟩:=e4 0 (List.length_pos_iff.2 hne)
   exact⟨g',off,cs,fr,e5,e6,trivial⟩
  rw[e1]at hg;cases hg
  rw[show g'=T7 from e,ht3]at e2;exact zI (by decide) e2)))
 clear ho hs hb HT2 HX2 HR2 HB2
 have hag:=(HA.out _ HB4.out).ag
 have x2:=cc 2 hag
 clear hag
 go_wp2_with fail
 clear f0 f1 f2 f3 f4 f5 f6 f7 f8 f9 y0 y1 y2 y3 y4 y5 y6 y7 y8 y9 x2
 clear ht3
 generalize (World.setCell (World.setCell (World.setCell (World.setCell (World.setCell (World.setCell (World.setCell (World.setCell (World.setCell (World.setCell w3 ⟨T7,3,none⟩ (.int .i64 0)) ⟨T7,4,none⟩ (.int .i64 0)) ⟨T7,5,none⟩ (.int .i64 0)) ⟨T7,6,none⟩ (.int .i64 0)) ⟨T7,7,none⟩ (.int .i64 0)) ⟨T7,8,none⟩ (.int .i64 0)) ⟨T7,9,none⟩ (.int .i64 0)) ⟨T7,1,none⟩ (.int .i64 0)) ⟨T7,2,none⟩ (.int .i64 0)) ⟨T7,0,none⟩ (.bool false))=w4 at *
 refine(load_ok _ l work c.win w4 HR4.out HOK.out.2.2.1 (by have:=HL.out.1;have:=HOK.out.2.1;omega) (fun node _=>⟨Nat.le_trans (Pl.smps_len _ _ _) (by have:=HL.out.1;have:=HOK.out.2.1;omega),uB HP.out.2 HL.out.2 work node⟩)).mono ?_
 rintro r w5 ⟨rfl,hb⟩
 have HB5:=zA (HB4.out.trans (hb.mono HB4.out.size))
 have HX5:=zA (zC HX4.out hb)
 have ht5:=zC HT4.out hb
 have HPP:=zA (show Pl.loadOf l work c.win 8=Pl.loadOf l work c.win 8 from rfl)
 clear hb HB4 HX4 HT4 HR4 HR3 HX3 HB3 qQ HA HPP
 generalize hL1:(Pl.loadOf l work c.win 8).1=L1 at *
 generalize hL2:(Pl.loadOf l work c.win 8).2=L2 at *
 have HLL:=zA (And.intro hL1 hL2)
 clear hL1 hL2
 have f10:=zB ht5 10
 have f11:=zB ht5 11
 have y10:=cc 10 ht5
 have y11:=cc 11 ht5
 have hs:=zG (j:=11) (zG (j:=10) (ht5) (.int .i64 L1)) (.int .i64 L2)
 simp only[List.setIfInBounds_toArray,List.set_cons_zero,List.set_cons_succ]at hs
 have ho:Off (fun g=>g=T7) w5 (World.setCell (World.setCell w5 ⟨T7,10,none⟩ (.int .i64 L1)) ⟨T7,11,none⟩ (.int .i64 L2)):=((Off.refl (fun g=>g=T7) w5).set (a:=⟨T7,10,none⟩) (.inl rfl) (.int .i64 L1)).set (a:=⟨T7,11,none⟩) (.inl rfl) (.int .i64 L2)
 have HT6:=zA hs
 have HB6:=zA (show Below w.heap.size w (World.setCell (World.setCell w5 ⟨T7,10,none⟩ (.int .i64 L1)) ⟨T7,11,none⟩ (.int .i64 L2))from ho.since HB5.out (fun g hg=>by have e:g=T7:=hg;rw[e];exact Nat.le_of_lt HTG.out))
 have HX6:=zA ((ho.same _ (gsi.1 HX5.out).1 (Nat.ne_of_lt HTG.out)).trans HX5.out)
 have z0:((World.setCell (World.setCell w5 ⟨T7,10,none⟩ (.int .i64 L1)) ⟨T7,11,none⟩ (.int .i64 L2))).cell? ⟨T7,0,none⟩=some (.bool false):=cc 0 HT6.out
 clear ho hs ht5 HX5 HB5
 have HB7:=zA (yE HB6.out (Nat.le_refl _) (Qb false 0 0 0 0 0 0 0 0 0 L1 L2 0))
 have HX7:=zA (yL HX6.out (Qb false 0 0 0 0 0 0 0 0 0 L1 L2 0))
 go_wp2_with (first
  | refine zH rfl 47 (.tmp 7) T7 (Qb false 0 0 0 0 0 0 0 0 0 L1 L2 0) 47 (0,0) _ rfl rfl HT6.out underlying47 rfl (by kernel_rfl) ?_
  | refine zR rfl 47 (.tmp 4) (.tmp 54) w.heap.size (Qbm false) (Qb false 0 0 0 0 0 0 0 0 0 L1 L2 0) 47 rfl rfl rfl rfl HX6.out (by kernel_rfl) rfl (by kernel_rfl) ?_)
 clear f10 f11 y10 y11 z0
 generalize World.setRow (World.setCell (World.setCell w5 ⟨T7,10,none⟩ (.int .i64 L1)) ⟨T7,11,none⟩ (.int .i64 L2)) w.heap.size (Qb false 0 0 0 0 0 0 0 0 0 L1 L2 0)=w7 at *
 have m0:=cc 0 HX7.out
 have m1:=cc 1 HX7.out
 have m2:=cc 2 HX7.out
 have m3:=cc 3 HX7.out
 have m4:=cc 4 HX7.out
 have m5:=cc 5 HX7.out
 have m6:=cc 6 HX7.out
 have m7:=cc 7 HX7.out
 have m8:=cc 8 HX7.out
 have m9:=cc 9 HX7.out
 have m10:=cc 10 HX7.out
 have m11:=cc 11 HX7.out
 have m12:=cc 12 HX7.out
 exact bodyPost_ret (v:=.tuple #[.agg (Qb false 0 0 0 0 0 0 0 0 0 L1 L2 0),.int .i64 0]) (by simp[results,results10,go_sem,m0,m1,m2,m3,m4,m5,m6,m7,m8,m9,m10,m11,m12]) rfl ⟨l,HP.out.1,HP.out.2,by rw[HLL.out.1,HLL.out.2],HB7.out⟩
theorem aquery_one (Fs:Nat→Prop) (p:AgP) (c:Cf) (size:Int) (bs:List Int) (used upto:Int) (own es:List Pl.Ev) (clock:Int) (work:Int) (e:Pl.Ev) (w:World) (h:AgAt Fs w p c size bs used upto own es clock) (hw:Pl.inside work 0 7=true) (hes:es.length≤80) (qM:Pl.sets es work=[e]) (hpol:e.polOk=true) :
  Calls prog 10 #[Qp p.a,.int .i64 work] w fun r w'=>∃l:List Pl.Ev,l.Perm es∧l.Pairwise Pl.EvBefore∧r=.returned (.tuple #[.agg (Qb true e.node e.seq e.mn e.mx e.goal e.slack e.up e.down e.cool (Pl.loadOf l work c.win 8).1 (Pl.loadOf l work c.win 8).2 (Pl.askedQ e (Pl.loadOf l work c.win 8).1)),.int .i64 0])∧Below w.heap.size w w':=by
 have b1:=bn w (.cells (Qbm false) 47)
 have HX:=zA (heap_alloc_new w (.cells (Qbm false) 47))
 have HB:=zA b1
 have HA:=zA (fun (W:World) (hW:Below w.heap.size w W)=>h.below hW)
 have HW:=zA hw
 have HOK:=zA (And.intro h.go.ok (And.intro hes (And.intro h.ok.win qM)))
 have HPOL:=zA hpol
 clear b1 h hw hes qM hpol
 go_enter func10,ntmps10
 go_wp2_with fail
 generalize w.alloc (.cells (Qbm false) 47)=W at *
 refine(yZ _ _ _ _).mono ?_
 rintro r w' ⟨rfl,rfl⟩
 rw[HW.out]
 go_wp2_with fail
 refine(sD Fs p c size bs used upto own es clock W (HA.out W HB.out)).mono ?_
 rintro r w1 ⟨v,l,rfl,hp,hord,rX,hb⟩
 obtain⟨aol,capl,rfl⟩:=rX.toT.form
 have b2:=bn w1 (.cells (Qbm false) 47)
 have HT2:=zA (heap_alloc_new w1 (.cells (Qbm false) 47))
 have HB2:=zA (HB.out.trans ((hb.trans (b2.mono hb.size)).mono HB.out.size))
 have HX2:=zA (zC (zC HX.out hb) b2)
 have HR2:=zA (rX.toT.below b2)
 have HP:=zA (And.intro hp hord)
 have hll:l.length=es.length:=hp.length_eq
 have hlo:∀x∈l,x.Ok:=fun x hx=>HOK.out.1 x (hp.mem_iff.1 hx)
 have HL:=zA (And.intro hll hlo)
 have qQ:=zA (show Pl.sets l work=[e]from List.perm_singleton.1 (by rw[←HOK.out.2.2.2];exact hp.filter _))
 have HTG:=zA (show w.heap.size<w1.heap.size from Nat.lt_of_lt_of_le (gsi.1 HX.out).1 hb.size)
 clear hp hord rX hb b2 hll hlo HX HB
 go_wp2_with fail
 obtain⟨T7,hT7⟩:∃T7,T7=w1.heap.size:=⟨_,rfl⟩
 rw[←hT7]at HT2 HTG ⊢
 clear hT7
 generalize w1.alloc (.cells (Qbm false) 47)=w2 at *
 refine(winner_one _ l work e w2 HR2.out.toC (by have:=HL.out.1;have:=HOK.out.2.1;omega) qQ.out).mono ?_
 rintro r w3 ⟨rfl,hb⟩
 have ht3:=zC HT2.out hb
 have HB3:=zA (HB2.out.trans (hb.mono HB2.out.size))
 have HX3:=zA (zC HX2.out hb)
 have HR3:=zA (HR2.out.below hb)
 have f0:=zB ht3 0
 have f1:=zB ht3 1
 have f2:=zB ht3 2
 have f3:=zB ht3 3
 have f4:=zB ht3 4
 have f5:=zB ht3 5
 have f6:=zB ht3 6
 have f7:=zB ht3 7
 have f8:=zB ht3 8
 have f9:=zB ht3 9
 have y0:=cc 0 ht3
 have y1:=cc 1 ht3
 have y2:=cc 2 ht3
 have y3:=cc 3 ht3
 have y4:=cc 4 ht3
 have y5:=cc 5 ht3
 have y6:=cc 6 ht3
 have y7:=cc 7 ht3
 have y8:=cc 8 ht3
 have y9:=cc 9 ht3
 have hs:=zG (j:=0) (zG (j:=2) (zG (j:=1) (zG (j:=9) (zG (j:=8) (zG (j:=7) (zG (j:=6) (zG (j:=5) (zG (j:=4) (zG (j:=3) (ht3) (.int .i64 e.mn)) (.int .i64 e.mx)) (.int .i64 e.goal)) (.int .i64 e.slack)) (.int .i64 e.up)) (.int .i64 e.down)) (.int .i64 e.cool)) (.int .i64 e.node)) (.int .i64 e.seq)) (.bool true)
 simp only[List.setIfInBounds_toArray,List.set_cons_zero,List.set_cons_succ]at hs
 have ho:Off (fun g=>g=T7) w3 (World.setCell (World.setCell (World.setCell (World.setCell (World.setCell (World.setCell (World.setCell (World.setCell (World.setCell (World.setCell w3 ⟨T7,3,none⟩ (.int .i64 e.mn)) ⟨T7,4,none⟩ (.int .i64 e.mx)) ⟨T7,5,none⟩ (.int .i64 e.goal)) ⟨T7,6,none⟩ (.int .i64 e.slack)) ⟨T7,7,none⟩ (.int .i64 e.up)) ⟨T7,8,none⟩ (.int .i64 e.down)) ⟨T7,9,none⟩ (.int .i64 e.cool)) ⟨T7,1,none⟩ (.int .i64 e.node)) ⟨T7,2,none⟩ (.int .i64 e.seq)) ⟨T7,0,none⟩ (.bool true)):=((((((((((Off.refl (fun g=>g=T7) w3).set (a:=⟨T7,3,none⟩) (.inl rfl) (.int .i64 e.mn)).set (a:=⟨T7,4,none⟩) (.inl rfl) (.int .i64 e.mx)).set (a:=⟨T7,5,none⟩) (.inl rfl) (.int .i64 e.goal)).set (a:=⟨T7,6,none⟩) (.inl rfl) (.int .i64 e.slack)).set (a:=⟨T7,7,none⟩) (.inl rfl) (.int .i64 e.up)).set (a:=⟨T7,8,none⟩) (.inl rfl) (.int .i64 e.down)).set (a:=⟨T7,9,none⟩) (.inl rfl) (.int .i64 e.cool)).set (a:=⟨T7,1,none⟩) (.inl rfl) (.int .i64 e.node)).set (a:=⟨T7,2,none⟩) (.inl rfl) (.int .i64 e.seq)).set (a:=⟨T7,0,none⟩) (.inl rfl) (.bool true)
 have HT4:=zA hs
 have HB4:=zA (show Below w.heap.size w (World.setCell (World.setCell (World.setCell (World.setCell (World.setCell (World.setCell (World.setCell (World.setCell (World.setCell (World.setCell w3 ⟨T7,3,none⟩ (.int .i64 e.mn)) ⟨T7,4,none⟩ (.int .i64 e.mx)) ⟨T7,5,none⟩ (.int .i64 e.goal)) ⟨T7,6,none⟩ (.int .i64 e.slack)) ⟨T7,7,none⟩ (.int .i64 e.up)) ⟨T7,8,none⟩ (.int .i64 e.down)) ⟨T7,9,none⟩ (.int .i64 e.cool)) ⟨T7,1,none⟩ (.int .i64 e.node)) ⟨T7,2,none⟩ (.int .i64 e.seq)) ⟨T7,0,none⟩ (.bool true))from ho.since HB3.out (fun g hg=>by have e:g=T7:=hg;rw[e];exact Nat.le_of_lt HTG.out))
 have hne:w.heap.size≠T7:=Nat.ne_of_lt HTG.out
 have HX4:=zA ((ho.same _ (gsi.1 HX3.out).1 hne).trans HX3.out)
 have HR4:=zA (HR3.out.keepG (w':=(World.setCell (World.setCell (World.setCell (World.setCell (World.setCell (World.setCell (World.setCell (World.setCell (World.setCell (World.setCell w3 ⟨T7,3,none⟩ (.int .i64 e.mn)) ⟨T7,4,none⟩ (.int .i64 e.mx)) ⟨T7,5,none⟩ (.int .i64 e.goal)) ⟨T7,6,none⟩ (.int .i64 e.slack)) ⟨T7,7,none⟩ (.int .i64 e.up)) ⟨T7,8,none⟩ (.int .i64 e.down)) ⟨T7,9,none⟩ (.int .i64 e.cool)) ⟨T7,1,none⟩ (.int .i64 e.node)) ⟨T7,2,none⟩ (.int .i64 e.seq)) ⟨T7,0,none⟩ (.bool true))) (fun g hne hg=>ho.same g (by
  obtain⟨g',off,cp,e1,e2,_⟩:=HR3.out.cell (i:=0) (List.length_pos_iff.2 hne)
  rw[e1]at hg;cases hg;exact e2) (fun e=>by
  obtain⟨g',off,cs,fr,e1,e2,_⟩:∃g' off cs fr,aol=some ⟨g',off,none⟩∧w3.heap[g']?=some (Obj.cells cs 175 fr)∧True:=by
   obtain⟨ao',cp',e3,_,e4⟩:=HR3.out
   cases e3
   obtain⟨g',off,cs,fr,e5,e6,_⟩:=e4 0 (List.length_pos_iff.2 hne)
   exact⟨g',off,cs,fr,e5,e6,trivial⟩
  rw[e1]at hg;cases hg
  rw[show g'=T7 from e,ht3]at e2;exact zI (by decide) e2)))
 clear ho hs hb HT2 HX2 HR2 HB2
 have hag:=(HA.out _ HB4.out).ag
 have x2:=cc 2 hag
 clear hag
 go_wp2_with fail
 clear f0 f1 f2 f3 f4 f5 f6 f7 f8 f9 y0 y1 y2 y3 y4 y5 y6 y7 y8 y9 x2
 clear ht3
 generalize (World.setCell (World.setCell (World.setCell (World.setCell (World.setCell (World.setCell (World.setCell (World.setCell (World.setCell (World.setCell w3 ⟨T7,3,none⟩ (.int .i64 e.mn)) ⟨T7,4,none⟩ (.int .i64 e.mx)) ⟨T7,5,none⟩ (.int .i64 e.goal)) ⟨T7,6,none⟩ (.int .i64 e.slack)) ⟨T7,7,none⟩ (.int .i64 e.up)) ⟨T7,8,none⟩ (.int .i64 e.down)) ⟨T7,9,none⟩ (.int .i64 e.cool)) ⟨T7,1,none⟩ (.int .i64 e.node)) ⟨T7,2,none⟩ (.int .i64 e.seq)) ⟨T7,0,none⟩ (.bool true))=w4 at *
 refine(load_ok _ l work c.win w4 HR4.out HOK.out.2.2.1 (by have:=HL.out.1;have:=HOK.out.2.1;omega) (fun node _=>⟨Nat.le_trans (Pl.smps_len _ _ _) (by have:=HL.out.1;have:=HOK.out.2.1;omega),uB HP.out.2 HL.out.2 work node⟩)).mono ?_
 rintro r w5 ⟨rfl,hb⟩
 have HB5:=zA (HB4.out.trans (hb.mono HB4.out.size))
 have HX5:=zA (zC HX4.out hb)
 have ht5:=zC HT4.out hb
 have HPP:=zA (show Pl.loadOf l work c.win 8=Pl.loadOf l work c.win 8 from rfl)
 clear hb HB4 HX4 HT4 HR4 HR3 HX3 HB3 qQ HA HPP
 generalize hL1:(Pl.loadOf l work c.win 8).1=L1 at *
 generalize hL2:(Pl.loadOf l work c.win 8).2=L2 at *
 have HLL:=zA (And.intro hL1 hL2)
 clear hL1 hL2
 have f10:=zB ht5 10
 have f11:=zB ht5 11
 have y10:=cc 10 ht5
 have y11:=cc 11 ht5
 have hs:=zG (j:=11) (zG (j:=10) (ht5) (.int .i64 L1)) (.int .i64 L2)
 simp only[List.setIfInBounds_toArray,List.set_cons_zero,List.set_cons_succ]at hs
 have ho:Off (fun g=>g=T7) w5 (World.setCell (World.setCell w5 ⟨T7,10,none⟩ (.int .i64 L1)) ⟨T7,11,none⟩ (.int .i64 L2)):=((Off.refl (fun g=>g=T7) w5).set (a:=⟨T7,10,none⟩) (.inl rfl) (.int .i64 L1)).set (a:=⟨T7,11,none⟩) (.inl rfl) (.int .i64 L2)
 have HT6:=zA hs
 have HB6:=zA (show Below w.heap.size w (World.setCell (World.setCell w5 ⟨T7,10,none⟩ (.int .i64 L1)) ⟨T7,11,none⟩ (.int .i64 L2))from ho.since HB5.out (fun g hg=>by have e:g=T7:=hg;rw[e];exact Nat.le_of_lt HTG.out))
 have HX6:=zA ((ho.same _ (gsi.1 HX5.out).1 (Nat.ne_of_lt HTG.out)).trans HX5.out)
 have z0:((World.setCell (World.setCell w5 ⟨T7,10,none⟩ (.int .i64 L1)) ⟨T7,11,none⟩ (.int .i64 L2))).cell? ⟨T7,0,none⟩=some (.bool true):=cc 0 HT6.out
 clear ho hs ht5 HX5 HB5
 have u3:=cc 3 HT6.out
 have u4:=cc 4 HT6.out
 have u5:=cc 5 HT6.out
 have u6:=cc 6 HT6.out
 have u7:=cc 7 HT6.out
 have u8:=cc 8 HT6.out
 have u9:=cc 9 HT6.out
 have u10:=cc 10 HT6.out
 go_wp2_with fail
 clear f10 f11 y10 y11 z0 u3 u4 u5 u6 u7 u8 u9 u10
 generalize (World.setCell (World.setCell w5 ⟨T7,10,none⟩ (.int .i64 L1)) ⟨T7,11,none⟩ (.int .i64 L2))=w6 at *
 refine(asked_ok e L1 w6 HPOL.out).mono ?_
 rintro r w7 ⟨rfl,hb⟩
 have ht7:=zC HT6.out hb
 have HB7:=zA (HB6.out.trans (hb.mono HB6.out.size))
 have HX7:=zA (zC HX6.out hb)
 have f12:=zB ht7 12
 have y12:=cc 12 ht7
 have hs:=zG (j:=12) ht7 (.int .i64 (Pl.askedQ e L1))
 simp only[List.setIfInBounds_toArray,List.set_cons_zero,List.set_cons_succ]at hs
 have ho:Off (fun g=>g=T7) w7 (w7.setCell ⟨T7,12,none⟩ (.int .i64 (Pl.askedQ e L1))):=(Off.refl (fun g=>g=T7) w7).set (a:=⟨T7,12,none⟩) (.inl rfl) _
 have HT8:=zA hs
 have HB8:=zA (show Below w.heap.size w (w7.setCell ⟨T7,12,none⟩ (.int .i64 (Pl.askedQ e L1)))from ho.since HB7.out (fun g hg=>by have e:g=T7:=hg;rw[e];exact Nat.le_of_lt HTG.out))
 have HX8:=zA ((ho.same _ (gsi.1 HX7.out).1 (Nat.ne_of_lt HTG.out)).trans HX7.out)
 clear ho hs ht7 hb HX6 HB6 HT6 HX7 HB7
 have HB9:=zA (yE HB8.out (Nat.le_refl _) (Qb true e.node e.seq e.mn e.mx e.goal e.slack e.up e.down e.cool L1 L2 (Pl.askedQ e L1)))
 have HX9:=zA (yL HX8.out (Qb true e.node e.seq e.mn e.mx e.goal e.slack e.up e.down e.cool L1 L2 (Pl.askedQ e L1)))
 go_wp2_with (first
  | refine zH rfl 47 (.tmp 7) T7 (Qb true e.node e.seq e.mn e.mx e.goal e.slack e.up e.down e.cool L1 L2 (Pl.askedQ e L1)) 47 (0,0) _ rfl rfl HT8.out underlying47 rfl (by kernel_rfl) ?_
  | refine zR rfl 47 (.tmp 4) (.tmp 54) w.heap.size (Qbm false) (Qb true e.node e.seq e.mn e.mx e.goal e.slack e.up e.down e.cool L1 L2 (Pl.askedQ e L1)) 47 rfl rfl rfl rfl HX8.out (by kernel_rfl) rfl (by kernel_rfl) ?_)
 clear f12 y12
 generalize World.setRow (w7.setCell ⟨T7,12,none⟩ (.int .i64 (Pl.askedQ e L1))) w.heap.size (Qb true e.node e.seq e.mn e.mx e.goal e.slack e.up e.down e.cool L1 L2 (Pl.askedQ e L1))=w9 at *
 have m0:=cc 0 HX9.out
 have m1:=cc 1 HX9.out
 have m2:=cc 2 HX9.out
 have m3:=cc 3 HX9.out
 have m4:=cc 4 HX9.out
 have m5:=cc 5 HX9.out
 have m6:=cc 6 HX9.out
 have m7:=cc 7 HX9.out
 have m8:=cc 8 HX9.out
 have m9:=cc 9 HX9.out
 have m10:=cc 10 HX9.out
 have m11:=cc 11 HX9.out
 have m12:=cc 12 HX9.out
 exact bodyPost_ret (v:=.tuple #[.agg (Qb true e.node e.seq e.mn e.mx e.goal e.slack e.up e.down e.cool L1 L2 (Pl.askedQ e L1)),.int .i64 0]) (by simp[results,results10,go_sem,m0,m1,m2,m3,m4,m5,m6,m7,m8,m9,m10,m11,m12]) rfl ⟨l,HP.out.1,HP.out.2,by rw[HLL.out.1,HLL.out.2],HB9.out⟩
end
end Go.Proofs.YtodlmbfbfaofcaaGreat
