/- TopPolicies, part 13. -/
import Derived.Maps.Keyed
import Derived.Maps.RangeRun
import Derived.Test.YtodlmbfbfaofcaaGreatM01
import Derived.Test.YtodlmbfbfaofcaaGreatM02
import Derived.Test.YtodlmbfbfaofcaaGreatM04
import Derived.Test.YtodlmbfbfaofcaaGreatM08
import Derived.Test.YtodlmbfbfaofcaaGreatM12
open Go.Proofs.Tryz
namespace Go.Proofs.YtodlmbfbfaofcaaGreat
set_option linter.unusedVariables false
set_option linter.unusedSimpArgs false
set_option maxRecDepth 100000
set_option maxHeartbeats 2000000
section
open Go.RowKit Rw Rh
def dkey (d:Nat×Nat):Value:=.agg (Qi d.1 d.2)
theorem equal45' (a b c d:Int) (w:World):(Op.equal 45 (.agg (Qi a b)) (.agg (Qi c d))).run prog w=.ok (a == c&&b == d) w:=by
 show(Op.equalIn 10000 45 _ _).run prog w=_
 go_simp
 split
 ·split<;>simp_all
 ·simp_all
theorem equal45 (a b:Nat×Nat) (w:World):(Op.equal 45 (dkey a) (dkey b)).run prog w=.ok (decide (a=b)) w:=by
 unfold dkey
 rw[equal45']
 congr 1
 rw[Bool.eq_iff_iff]
 simp only[Bool.and_eq_true,beq_iff_eq,decide_eq_true_eq,Prod.ext_iff]
 omega
theorem vK (e:Bool) (d:Nat×Nat) (w:World):(Instr.checkKey e 10000 45 (dkey d)).run prog w=.ok () w:=by
 unfold dkey
 cases e<;>kernel_rfl
structure Ents (es:Array MapEntry) (clock:Nat) (l:List ((Nat×Nat)×Value)):Prop where
 fits:es.toList.map (fun e=>(e.key,e.val))=l.map (fun p=>(dkey p.1,p.2))
 born:∀e∈es.toList,e.born<clock
 nodup:(es.toList.map (·.born)).Nodup
 keys:(l.map (·.1)).Nodup
def DmAt (w:World) (b:Nat) (l:List ((Nat×Nat)×Value)):Prop:=∃es clock,w.heap[b]?=some (.map es clock)∧Ents es clock l
theorem DmAt.keep {w w':World} {b:Nat} {l:List ((Nat×Nat)×Value)} (h:DmAt w b l) (k:w'.heap[b]?=w.heap[b]?):DmAt w' b l:=by
 obtain⟨es,c,h1,h2⟩:=h;exact⟨es,c,k.trans h1,h2⟩
theorem DmAt.lt {w:World} {b:Nat} {l:List ((Nat×Nat)×Value)} (h:DmAt w b l):b<w.heap.size:=by
 obtain⟨es,c,h1,h2⟩:=h;exact(gsi.1 h1).1
theorem DmAt.below {w w':World} {b:Nat} {l:List ((Nat×Nat)×Value)} (h:DmAt w b l) (hb:Below w.heap.size w w'):DmAt w' b l:=h.keep (hb.block _ h.lt)
theorem DmAt.cells_ne {w:World} {b:Nat} {l:List ((Nat×Nat)×Value)} (h:DmAt w b l) {g:Nat} {t:TypeId} {cs:Array Value} {fr:Nat×Nat} (hg:w.heap[g]?=some (Obj.cells cs t fr)):g≠b:=fun e=>by
 obtain⟨es,c,h1,h2⟩:=h
 rw[e,h1]at hg;cases hg
theorem rX (w:World):DmAt (w.alloc (.map #[] 0)) w.heap.size []:=⟨#[],0,heap_alloc_new w _,rfl,fun e he=>absurd he (by simp),by simp,by simp⟩
theorem tC (d:Nat×Nat) (w:World):∀(es:List MapEntry) (l:List ((Nat×Nat)×Value)) (i:Nat),es.map (fun e=>(e.key,e.val))=l.map (fun p=>(dkey p.1,p.2))→
  ∃r,(Instr.findAsking 45 (dkey d) es i).run prog w=.ok r w∧((r=none∧∀p∈l,p.1≠d)∨∃k v,r=some (i+k,v)∧l[k]?=some (d,v))
 | [],l,i,h=>by
  have:l=[]:=by simpa using h.symm
  subst this
  exact⟨none,rfl,.inl ⟨rfl,fun p hp=>absurd hp (by simp)⟩⟩
 | e::es,l,i,h=>by
  cases l with
  | nil=>simp at h
  | cons p l=>
   simp only[List.map_cons,List.cons.injEq,Prod.mk.injEq]at h
   obtain⟨⟨hk,hv⟩,ht⟩:=h
   have heq:=equal45 d p.1 w
   by_cases hc:d=p.1
   ·refine⟨some (i,e.val),?_,.inr ⟨0,e.val,rfl,?_⟩⟩
    ·unfold Instr.findAsking
     rw[hk]
     rw[decide_eq_true hc]at heq
     simp[heq]
    ·rw[hv,hc];rfl
   ·obtain⟨r,hr,hcase⟩:=tC d w es l (i+1) ht
    refine⟨r,?_,?_⟩
    ·unfold Instr.findAsking
     rw[hk]
     simp[heq,hc,hr]
    ·rcases hcase with⟨rfl,h1⟩ | ⟨k,v,rfl,h1⟩
     ·exact .inl ⟨rfl,fun q hq=>by
       rcases List.mem_cons.1 hq with rfl | hq
       ·exact fun e=>hc e.symm
       ·exact h1 q hq⟩
     ·exact .inr ⟨k+1,v,by rw[show i+1+k=i+(k+1)from by omega],by simpa using h1⟩
theorem sH (d:Nat×Nat) (w:World) (es:List MapEntry) (l:List ((Nat×Nat)×Value)) (h:es.map (fun e=>(e.key,e.val))=l.map (fun p=>(dkey p.1,p.2))) :
  ∃r,(Instr.findKey 45 (dkey d) es).run prog w=.ok r w∧((r=none∧∀p∈l,p.1≠d)∨∃k v,r=some (k,v)∧l[k]?=some (d,v)):=by
 obtain⟨r,hr,hc⟩:=tC d w es l 0 h
 simp only[Nat.zero_add]at hc
 refine⟨r,?_,hc⟩
 unfold Instr.findKey
 simp only[Sem.run_bind,run_underlying underlying45,Result.andThen]
 cases es with
 | nil=>
  rcases hc with⟨rfl,_⟩ | ⟨k,v,_,hk⟩
  ·rfl
  ·have:l=[]:=by simpa using h.symm
   subst this
   simp at hk
 | cons e es=>exact hr
theorem key_one {l:List ((Nat×Nat)×Value)} (hn:(l.map (·.1)).Nodup) {k:Nat} {d:Nat×Nat} {v u:Value} (hk:l[k]?=some (d,v)) (hu:(d,u)∈l):v=u:=by
 obtain⟨j,hj,e⟩:=List.mem_iff_getElem.1 hu
 obtain⟨hk',e'⟩:=List.getElem?_eq_some_iff.1 hk
 have:=(List.getElem_inj (xs:=l.map (·.1)) (i:=k) (j:=j) (h₀:=by simpa using hk') (h₁:=by simpa using hj) hn).1 (by simp[e,e'])
 subst this
 rw[e]at e'
 exact(Prod.mk.inj e').2.symm
section
variable {T E:TypeId} (hT:prog.underlying T=some (.map 45 E))
include hT
theorem dm_look {w:World} {b:Nat} {l:List ((Nat×Nat)×Value)} (h:DmAt w b l) (d:Nat×Nat) (v:Value) (hv:(d,v)∈l) (c:Bool) :
  (Instr.lookup T (.map (some b)) (dkey d) c).run prog w=.ok (if c then .tuple #[v,.bool true]else v) w:=by
 obtain⟨es,clock,hb,he⟩:=h
 obtain⟨r,hr,hc⟩:=sH d w es.toList l he.fits
 have hg:(getObj b).run prog w=.ok (.map es clock) w:=by simp[getObj,Sem.run,hb]
 unfold Instr.lookup
 rcases hc with⟨rfl,h1⟩ | ⟨k,u,rfl,hk⟩
 ·exact absurd rfl (h1 _ hv)
 ·obtain rfl:=key_one he.keys hk hv
  simp[run_underlying hT,hg,vK,hr]
theorem dm_miss {w:World} {b:Nat} {l:List ((Nat×Nat)×Value)} (h:DmAt w b l) (d:Nat×Nat) (hd:∀p∈l,p.1≠d) (z:Value) (hz:(zeroValue E).run prog w=.ok z w) (c:Bool) :
  (Instr.lookup T (.map (some b)) (dkey d) c).run prog w=.ok (if c then .tuple #[z,.bool false]else z) w:=by
 obtain⟨es,clock,hb,he⟩:=h
 obtain⟨r,hr,hc⟩:=sH d w es.toList l he.fits
 have hg:(getObj b).run prog w=.ok (.map es clock) w:=by simp[getObj,Sem.run,hb]
 unfold Instr.lookup
 rcases hc with⟨rfl,h1⟩ | ⟨k,u,rfl,hk⟩
 ·simp[run_underlying hT,hg,vK,hr,hz]
 ·exact absurd rfl (hd _ (List.mem_of_getElem? hk))
end
def setBlk (w:World) (b:Nat) (o:Obj):World:={w with heap:=w.heap.setIfInBounds b o}
theorem zY (w:World) (b:Nat) (o:Obj) {i:Nat} (h:i≠b):(setBlk w b o).heap[i]?=w.heap[i]?:=by
 unfold setBlk;exact Array.getElem?_setIfInBounds_ne (Ne.symm h)
theorem yI {w:World} {b:Nat} {o':Obj} (h:w.heap[b]?=some o') (o:Obj):(setBlk w b o).heap[b]?=some o:=by
 unfold setBlk;exact Array.getElem?_setIfInBounds_self_of_lt (gsi.1 h).1
theorem wB (w:World) (b:Nat) (o:Obj):(setBlk w b o).heap.size=w.heap.size:=by unfold setBlk;simp
theorem Off.setBlk {F:Nat→Prop} {w w':World} (h:Off F w w') {b:Nat} (hb:F b∨w.heap.size≤b) (o:Obj):Off F w (setBlk w' b o):=
 ⟨by rw[wB];exact h.size,fun g hg hn=>(zY w' b o (fun e=>by subst e;exact hb.elim hn (fun h'=>absurd hg lD))).trans (h.same g hg hn),h.rest⟩
theorem xC {B:Nat} {a w:World} {g:Nat} (h:Below B a w) (hg:B≤g) (o:Obj):Below B a (setBlk w g o):=
 ⟨h.os,h.tape,h.output,by rw[wB];exact h.size,fun i hi=>(zY w g o lD).trans (h.block i hi)⟩
theorem dm_put {T E:TypeId} (hT:prog.underlying T=some (.map 45 E)) {w:World} {b:Nat} {l:List ((Nat×Nat)×Value)} (h:DmAt w b l) (d:Nat×Nat) (hd:∀p∈l,p.1≠d) (v:Value) :
  ∃o,(Instr.mapUpdate T (.map (some b)) (dkey d) v).run prog w=.ok () (setBlk w b o)∧DmAt (setBlk w b o) b (l++[(d,v)]):=by
 obtain⟨es,clock,hb,he⟩:=h
 obtain⟨r,hr,hc⟩:=sH d w es.toList l he.fits
 have hg:(getObj b).run prog w=.ok (.map es clock) w:=by simp[getObj,Sem.run,hb]
 have hs:∀o,(setObj b o).run prog w=.ok () (setBlk w b o):=fun o=>by simp[setObj,Sem.run,hb,setBlk]
 unfold Instr.mapUpdate
 rcases hc with⟨rfl,h1⟩ | ⟨k,u,rfl,hk⟩
 ·refine⟨.map (es.push {key:=dkey d,val:=v,born:=clock}) (clock+1),?_,_,_,yI hb _,?_,?_,?_,?_⟩
  ·simp[run_underlying hT,hg,vK,hr,hs]
  ·rw[Array.toList_push,List.map_append,List.map_append,he.fits];rfl
  ·intro e hm
   rw[Array.toList_push]at hm
   rcases List.mem_append.1 hm with hm | hm
   ·have:=he.born e hm;omega
   ·simp at hm;subst hm;exact Nat.lt_succ_self _
  ·rw[Array.toList_push,List.map_append,List.nodup_append]
   refine⟨he.nodup,by simp,?_⟩
   intro a ha c hc
   simp at hc
   obtain⟨e,hm,rfl⟩:=List.mem_map.1 ha
   have:=he.born e hm
   omega
  ·rw[List.map_append,List.nodup_append]
   refine⟨he.keys,by simp,?_⟩
   intro a ha c hc
   simp at hc
   obtain⟨p,hm,rfl⟩:=List.mem_map.1 ha
   rw[hc];exact hd p hm
 ·exact absurd rfl (hd _ (List.mem_of_getElem? hk))
def ItAt (w:World) (r b:Nat) (l left:List ((Nat×Nat)×Value)):Prop:=∃es clock since seen,w.heap[b]?=some (.map es clock)∧Ents es clock l∧w.heap[r]?=some (.mapIter (some b) since seen clock)∧since=clock∧
 (leftOf es seen).toList.map (fun e=>(e.key,e.val))=left.map (fun p=>(dkey p.1,p.2))
theorem ItAt.keep {w w':World} {r b:Nat} {l left:List ((Nat×Nat)×Value)} (h:ItAt w r b l left) (k:w'.heap[b]?=w.heap[b]?) (k':w'.heap[r]?=w.heap[r]?):ItAt w' r b l left:=by
 obtain⟨es,c,si,se,h1,h2,h3,h4⟩:=h;exact⟨es,c,si,se,k.trans h1,h2,k'.trans h3,h4⟩
theorem ItAt.lt {w:World} {r b:Nat} {l left:List ((Nat×Nat)×Value)} (h:ItAt w r b l left):b<w.heap.size∧r<w.heap.size:=by
 obtain⟨es,c,si,se,h1,h2,h3,h4⟩:=h;exact⟨(gsi.1 h1).1,(gsi.1 h3).1⟩
theorem ItAt.below {w w':World} {r b:Nat} {l left:List ((Nat×Nat)×Value)} (h:ItAt w r b l left) (hb:Below w.heap.size w w'):ItAt w' r b l left:=h.keep (hb.block _ h.lt.1) (hb.block _ h.lt.2)
theorem it_range {T E:TypeId} (hT:prog.underlying T=some (.map 45 E)) {w:World} {b:Nat} {l:List ((Nat×Nat)×Value)} (h:DmAt w b l) :
  ∃o,(Instr.range T (.map (some b))).run prog w=.ok (Qp w.heap.size) (w.alloc o)∧ItAt (w.alloc o) w.heap.size b l l:=by
 obtain⟨es,clock,hb,he⟩:=h
 have hg:(getObj b).run prog w=.ok (.map es clock) w:=by simp[getObj,Sem.run,hb]
 refine⟨.mapIter (some b) clock #[] clock,?_,es,clock,clock,#[],?_,he,heap_alloc_new w _,rfl,?_⟩
 ·unfold Instr.range
  simp[run_underlying hT,hg]
 ·exact((bn _ _).block _ (gsi.1 hb).1).trans hb
 ·rw[←he.fits];unfold leftOf;rw[Array.toList_filter];exact congrArg (List.map (fun e:MapEntry=>(e.key,e.val))) (List.filter_eq_self.2 (fun a _=>(by simp:(!(#[]:Array Nat).contains a.born)=true)))
theorem left_push (es:Array MapEntry) (seen:Array Nat) (hn:(es.toList.map (·.born)).Nodup) (e:MapEntry) (he:e∈(leftOf es seen).toList):∃pre post,(leftOf es seen).toList=pre++e::post∧(leftOf es (seen.push e.born)).toList=pre++post:=by
 obtain⟨pre,post,h⟩:=List.append_of_mem he
 refine⟨pre,post,h,?_⟩
 have h1:(leftOf es (seen.push e.born)).toList=(leftOf es seen).toList.filter (fun x=>x.born != e.born):=by
  unfold leftOf
  rw[Array.toList_filter,Array.toList_filter,List.filter_filter]
  apply List.filter_congr
  intro x _
  rw[Array.contains_push]
  by_cases hx:x.born=e.born
  ·simp[hx]
  ·have:(e.born == x.born)=false:=by simpa using fun h=>hx h.symm
   simp[hx]
   rw[Bool.and_comm];rfl
 have h2:((leftOf es seen).toList.map (·.born)).Nodup:=by
  unfold leftOf
  rw[Array.toList_filter]
  exact(List.filter_sublist.map _).nodup hn
 rw[h1,h]
 rw[h,List.map_append,List.map_cons,List.nodup_append,List.nodup_cons]at h2
 obtain⟨h3,⟨h4,h5⟩,h6⟩:=h2
 rw[List.filter_append,List.filter_cons]
 simp only[bne_self_eq_false,Bool.false_eq_true,if_false]
 congr 1
 ·apply List.filter_eq_self.2
  intro x hx
  have:=h6 x.born (List.mem_map.2 ⟨x,hx,rfl⟩) e.born (by simp)
  simpa using this
 ·apply List.filter_eq_self.2
  intro x hx
  have:x.born≠e.born:=fun hh=>h4 (hh ▸ List.mem_map.2 ⟨x,hx,rfl⟩)
  simpa using this
theorem it_next {w:World} {r b:Nat} {l left:List ((Nat×Nat)×Value)} (h:ItAt w r b l left) (ty:TypeId) :
  (left=[]∧(Instr.next (Qp r) false ty).run prog w=.ok (.tuple #[.bool false]) w)∨
  ∃pre p post w1 o,left=pre++p::post∧(w1=w∨w1=w.drew)∧(Instr.next (Qp r) false ty).run prog w=.ok (.tuple #[.bool true,dkey p.1,p.2]) (setBlk w1 r o)∧ItAt (setBlk w1 r o) r b l (pre++post)∧
   ∀w2:World,w2.heap[b]?=(setBlk w1 r o).heap[b]?→w2.heap[r]?=(setBlk w1 r o).heap[r]?→(Instr.entry (Qp r)).run prog w2=.ok (.tuple #[dkey p.1,p.2]) w2:=by
 obtain⟨es,clock,since,seen,hb,he,hr,rfl,hl⟩:=h
 have hne:b≠r:=fun e=>by rw[e,hr]at hb;cases hb
 rcases run_next_at (P:=prog) w ty r b since since seen es since hr hb he.born (Nat.le_refl _)with⟨h0,qH⟩ | ⟨e,hm,w1,hw1,qH⟩
 ·refine .inl ⟨?_,qH⟩
  have:(leftOf es seen)=#[]:=Array.eq_empty_of_size_eq_zero h0
  rw[this]at hl
  simpa using hl.symm
 ·obtain⟨pre,post,e1,e2⟩:=left_push es seen he.nodup e hm
  rw[e1,List.map_append,List.map_cons]at hl
  obtain⟨lp,lq,rfl,h2,h3⟩:=List.map_eq_append_iff.1 hl.symm
  obtain⟨p,lr,rfl,h4,h5⟩:=List.map_eq_cons_iff.1 h3
  simp only[Prod.mk.injEq]at h4
  have hw1b:w1.heap[b]?=some (.map es since):=by rcases hw1 with rfl | rfl<;>exact hb
  have hw1r:w1.heap[r]?=some (.mapIter (some b) since seen since):=by rcases hw1 with rfl | rfl<;>exact hr
  have hbb:=(zY w1 r (.mapIter (some b) since (seen.push e.born) since) hne).trans hw1b
  have hrr:=yI hw1r (.mapIter (some b) since (seen.push e.born) since)
  have qR:e∈es.toList:=by unfold leftOf at hm;rw[Array.toList_filter]at hm;exact(List.mem_filter.1 hm).1
  refine .inr ⟨lp,p,lr,w1,.mapIter (some b) since (seen.push e.born) since,rfl,hw1,?_,⟨es,since,since,seen.push e.born,hbb,he,hrr,rfl,?_⟩,fun w2 k1 k2=>?_⟩
  ·rw[h4.1,h4.2];exact qH
  ·rw[e2,List.map_append,List.map_append,h2,h5]
  ·rw[h4.1,h4.2];exact run_entry_at w2 r b since seen es since e (k2.trans hrr) (k1.trans hbb) qR he.nodup
end
section
open Go.RowKit Rw Rh
theorem c7 {w:World} {g:Nat} {t:TypeId} {fr:Nat×Nat} {a0 a1 a2 a3 a4 a5 a6:Value} (h:w.heap[g]?=some (.cells #[a0,a1,a2,a3,a4,a5,a6] t fr)):w.cell? ⟨g,0,none⟩=some a0∧w.cell? ⟨g,1,none⟩=some a1∧w.cell? ⟨g,2,none⟩=some a2∧w.cell? ⟨g,3,none⟩=some a3∧w.cell? ⟨g,4,none⟩=some a4∧w.cell? ⟨g,5,none⟩=some a5∧w.cell? ⟨g,6,none⟩=some a6:=
 ⟨cc 0 h,cc 1 h,cc 2 h,cc 3 h,cc 4 h,cc 5 h,cc 6 h⟩
theorem c14 {w:World} {g:Nat} {t:TypeId} {fr:Nat×Nat} {a0 a1 a2 a3 a4 a5 a6 a7 a8 a9 a10 a11 a12 a13:Value} (h:w.heap[g]?=some (.cells #[a0,a1,a2,a3,a4,a5,a6,a7,a8,a9,a10,a11,a12,a13] t fr)):w.cell? ⟨g,0,none⟩=some a0∧w.cell? ⟨g,1,none⟩=some a1∧w.cell? ⟨g,2,none⟩=some a2∧w.cell? ⟨g,3,none⟩=some a3∧w.cell? ⟨g,4,none⟩=some a4∧w.cell? ⟨g,5,none⟩=some a5∧w.cell? ⟨g,6,none⟩=some a6∧w.cell? ⟨g,7,none⟩=some a7∧w.cell? ⟨g,8,none⟩=some a8∧w.cell? ⟨g,9,none⟩=some a9∧w.cell? ⟨g,10,none⟩=some a10∧w.cell? ⟨g,11,none⟩=some a11∧w.cell? ⟨g,12,none⟩=some a12∧w.cell? ⟨g,13,none⟩=some a13:=
 ⟨cc 0 h,cc 1 h,cc 2 h,cc 3 h,cc 4 h,cc 5 h,cc 6 h,cc 7 h,cc 8 h,cc 9 h,cc 10 h,cc 11 h,cc 12 h,cc 13 h⟩
theorem zZ {a b:World} (h:Below a.heap.size a b) {g:Nat} {o:Obj} (hg:a.heap[g]?=some o):b.heap[g]?=some o:=(h.block g (gsi.1 hg).1).trans hg
theorem Off.comp {F G:Nat→Prop} {a b c:World} (h:Off G a b) (k:Off F b c) (hF:∀g,g<a.heap.size→F g→G g):Off G a c:=
 ⟨Nat.le_trans h.size k.size,fun g hg hn=>(k.same g (Nat.lt_of_lt_of_le hg h.size) (fun hf=>hn (hF g hg hf))).trans (h.same g hg hn),⟨k.rest.1.trans h.rest.1,k.rest.2.1.trans h.rest.2.1,k.rest.2.2.trans h.rest.2.2⟩⟩
abbrev evv (e:Pl.Ev):Value:=.agg e
abbrev eva (e:Pl.Ev):Array Value:=#[.int .i64 e.node,.int .i64 e.seq,.int .i64 e.time,.int .i64 e.kind,.int .i64 e.work,.int .i64 e.value,.int .i64 e.mn,.int .i64 e.mx,.int .i64 e.goal,.int .i64 e.slack,.int .i64 e.up,.int .i64 e.down,.int .i64 e.cool,.slice e.ro e.rn e.rc]
namespace Pl
def Ev.still (e:Ev):Bool:=e.mn == 0&&(e.mx == 0&&(e.goal == 0&&(e.slack == 0&&(e.up == 0&&(e.down == 0&&e.cool == 0)))))
def Ev.polOk (e:Ev):Bool:=inside e.mx 0 1000&&(inside e.mn 0 e.mx&&(inside e.goal 1 1073741824&&(inside e.slack 0 100&&(inside e.up 1 1000&&(inside e.down 1 1000&&inside e.cool 0 1000)))))
def Ev.right (e:Ev):Bool:=inside e.time 1 1099511627776&&(inside e.work 0 7&&(if e.kind=1 then e.still&&(inside e.value 0 1099511627776&&e.rn == 0)else if e.kind=2 then e.polOk&&e.value == 0 else if e.kind=3 then e.still&&e.value == 0 else false))
structure Ev.Dot (e:Ev) (n s:Nat):Prop where
 node:e.node=n
 seq:e.seq=s
 n8:n<8
 s1:1≤s
 s96:s≤96
end Pl
theorem tT (w:World):SetV w (.agg (Qv 0 0 0 0 0 0 0 0)) (fun _ _=>false) (fun _=>0) []:=⟨.slice none 0 0,rfl,vE w,⟨fun _ _=>by simp,fun n s h h1 h2=>by simp at h2;omega,fun d hd=>by simp at hd,List.Pairwise.nil,fun n s h=>by simp at h⟩⟩
theorem eql38 (a0 a1 a2 a3 a4 a5 a6:Int) (w:World):(binOp .eql 38 (.agg (Qg a0 a1 a2 a3 a4 a5 a6)) (.agg Qgh)).run prog w=.ok (.bool (a0 == 0&&(a1 == 0&&(a2 == 0&&(a3 == 0&&(a4 == 0&&(a5 == 0&&a6 == 0))))))) w:=by
 have h:(Op.equalIn 10000 38 (.agg (Qg a0 a1 a2 a3 a4 a5 a6)) (.agg Qgh)).run prog w=.ok (a0 == 0&&(a1 == 0&&(a2 == 0&&(a3 == 0&&(a4 == 0&&(a5 == 0&&a6 == 0)))))) w:=by
  go_simp
  repeat' split
  all_goals simp_all
 simp only[binOp]
 simp[Op.equal,Op.maxDepth,h]
theorem uH (mn mx goal slack up down cool:Int) (w:World):Calls prog 100 #[.agg (Qg mn mx goal slack up down cool)] w fun r w'=>r=.returned (.bool (Pl.inside mx 0 1000&&(Pl.inside mn 0 mx&&(Pl.inside goal 1 1073741824&&(Pl.inside slack 0 100&&(Pl.inside up 1 1000&&(Pl.inside down 1 1000&&Pl.inside cool 0 1000)))))))∧Below w.heap.size w w':=by
 have b1:=bn w (.cells (Qg mn mx goal slack up down cool) 38)
 have hx:=heap_alloc_new w (.cells (Qg mn mx goal slack up down cool) 38)
 have HB:=zA b1
 have c0:=cc 0 hx
 have c1:=cc 1 hx
 have c2:=cc 2 hx
 have c3:=cc 3 hx
 have c4:=cc 4 hx
 have c5:=cc 5 hx
 have c6:=cc 6 hx
 clear b1 hx
 go_enter func100,ntmps100
 go_wp2_with fail
 generalize w.alloc (.cells (Qg mn mx goal slack up down cool) 38)=W at *
 refine(yC _ _ _ _).mono ?_
 rintro r w' ⟨rfl,rfl⟩
 rcases h0:Pl.inside mx 0 1000 with _ | _
 ·go_wp2_with fail
  go_ret
  exact⟨by simp only[h0];rfl,HB.out⟩
 go_wp2_with fail
 refine(yC _ _ _ _).mono ?_
 rintro r w' ⟨rfl,rfl⟩
 rcases h1:Pl.inside mn 0 mx with _ | _
 ·go_wp2_with fail
  go_ret
  exact⟨by simp only[h0,h1];rfl,HB.out⟩
 go_wp2_with fail
 refine(yC _ _ _ _).mono ?_
 rintro r w' ⟨rfl,rfl⟩
 rcases h2:Pl.inside goal 1 1073741824 with _ | _
 ·go_wp2_with fail
  go_ret
  exact⟨by simp only[h0,h1,h2];rfl,HB.out⟩
 go_wp2_with fail
 refine(yC _ _ _ _).mono ?_
 rintro r w' ⟨rfl,rfl⟩
 rcases h3:Pl.inside slack 0 100 with _ | _
 ·go_wp2_with fail
  go_ret
  exact⟨by simp only[h0,h1,h2,h3];rfl,HB.out⟩
 go_wp2_with fail
 refine(yC _ _ _ _).mono ?_
 rintro r w' ⟨rfl,rfl⟩
 rcases h4:Pl.inside up 1 1000 with _ | _
 ·go_wp2_with fail
  go_ret
  exact⟨by simp only[h0,h1,h2,h3,h4];rfl,HB.out⟩
 go_wp2_with fail
 refine(yC _ _ _ _).mono ?_
 rintro r w' ⟨rfl,rfl⟩
 rcases h5:Pl.inside down 1 1000 with _ | _
 ·go_wp2_with fail
  go_ret
  exact⟨by simp only[h0,h1,h2,h3,h4,h5];rfl,HB.out⟩
 go_wp2_with fail
 refine(yC _ _ _ _).mono ?_
 rintro r w' ⟨rfl,rfl⟩
 go_wp2_with fail
 go_ret
 exact⟨by simp[h0,h1,h2,h3,h4,h5],HB.out⟩
theorem eql45 (a b c d:Int) (w:World):(binOp .eql 45 (.agg (Qi a b)) (.agg (Qi c d))).run prog w=.ok (.bool (a == c&&b == d)) w:=by
 simp only[binOp]
 simp[equal45']
def Pl.bef (a b c d:Int):Bool:=decide (a<c)||(a == c&&decide (b<d))
theorem sN (a b c d:Int) (w:World):Calls prog 322 #[.agg (Qi a b),.agg (Qi c d)] w fun e w'=>e=.returned (.bool (Pl.bef a b c d))∧Below w.heap.size w w':=by
 have HX:=zA (fun x y=>((bn w x).alloc (by simp) y))
 unfold Pl.bef
 by_cases h:a<c
 ·go_enter func322,ntmps322
  go_wp2_with fail
  go_ret
  exact⟨by simp[h],HX.out _ _⟩
 ·by_cases h2:a=c
  ·subst h2
   go_enter func322,ntmps322
   go_wp2_with fail
   go_ret
   exact⟨by simp,HX.out _ _⟩
  ·have h3:(a == c)=false:=by simp[h2]
   clear h2
   go_enter func322,ntmps322
   go_wp2_with fail
   go_ret
   exact⟨by simp[h,h3],HX.out _ _⟩
structure Pl.Nam (n s:Nat) (ds:List (Nat×Nat)):Prop where
 may:∀d∈ds,d.1<8∧1≤d.2∧d.2≤96∧d≠(n,s)
 ord:ds.Pairwise Pl.Before
 len:ds.length≤96
theorem named_ok (n s:Nat) (v:Value) (ds:List (Nat×Nat)) (w:World) (h:DotsC w v ds) (hn:Pl.Nam n s ds):Calls prog 273 #[.agg (Qi n s),v] w fun r w'=>r=.returned (.bool true)∧Below w.heap.size w w':=by
 have HD:=zA (fun (W:World) (hW:Below w.heap.size w W)=>h.below hW)
 obtain⟨ao,cap,rfl,pT⟩:=h
 clear pT
 have b1:=bn w (.cells (Qi n s) 45)
 have b2:=b1.alloc b1.size (.cells (Qv 0 0 0 0 0 0 0 0) 60)
 have hx:=heap_alloc_new w (.cells (Qi n s) 45)
 have hx2:=((bn _ (.cells (Qv 0 0 0 0 0 0 0 0) 60)).block _ (gsi.1 hx).1).trans hx
 have hy:=heap_alloc_new (w.alloc (.cells (Qi n s) 45)) (.cells (Qv 0 0 0 0 0 0 0 0) 60)
 rw[zG]at hy
 have HB:=zA b2
 have HX:=zA hx2
 have HY:=zA hy
 have HN:=zA hn
 have hl:ds.length≤96:=hn.len
 clear b1 b2 hx hx2 hy hn
 go_enter func273,ntmps273
 go_wp2_with fail
 generalize (w.alloc (.cells (Qi n s) 45)).alloc (.cells (Qv 0 0 0 0 0 0 0 0) 60)=W0 at *
 go_loopw [13] (fun i wr=>∃(k:Nat),k≤ds.length∧i=.int .i64 k∧Below W0.heap.size W0 wr) (fun i _=>ds.length - (intOf i).toNat)
 case atStart=>exact⟨0,by omega,rfl,Below.refl _ _⟩
 case round=>
  obtain⟨k,hk,rfl,hI⟩:=hrel
  have HI:=zA hI
  have HBI:=zA (HB.out.trans (hI.mono HB.out.size))
  by_cases hlt:k<ds.length
  ·obtain⟨ao',cap',hv,_,h3⟩:=HD.out wr HBI.out
   cases hv
   obtain⟨g,off,rfl,hg,c0,c1⟩:=h3 k hlt
   have pN:=HN.out.may _ (List.getElem_mem hlt)
   have x1:=(HI.out.block _ (gsi.1 HX.out).1).trans HX.out
   have y1:=(HI.out.block _ (gsi.1 HY.out).1).trans HY.out
   have pU:0<k→∃p q:Nat,wr.cell? ⟨g,off+(k - 1)*2,none⟩=some (.int .i64 p)∧wr.cell? ⟨g,off+(k - 1)*2+1,none⟩=some (.int .i64 q)∧Pl.bef p q (ds[k]).1 (ds[k]).2=true:=fun hk0=>by
    obtain⟨g',off',e',hg',d0,d1⟩:=h3 (k - 1) lD
    cases e'
    have ho:=List.pairwise_iff_getElem.1 HN.out.ord (k - 1) k lD hlt lD
    refine⟨_,_,d0,d1,?_⟩
    unfold Pl.bef
    rcases ho with ho | ⟨ho,ho'⟩
    ·simp;omega
    ·simp;omega
   have g0:(((ds[k]).1:Int) == (n:Int)&&((ds[k]).2:Int) == (s:Int))=false:=by
    rw[Bool.and_eq_false_iff]
    have hne:=pN.2.2.2
    by_cases h1:(ds[k]).1=n
    ·right
     simp only[beq_eq_false_iff_ne,ne_eq]
     intro h2
     exact hne (Prod.ext h1 lD)
    ·left
     simp only[beq_eq_false_iff_ne,ne_eq]
     omega
   have heq:∀w,(binOp .eql 45 (.agg (Qi (ds[k]).1 (ds[k]).2)) (.agg (Qi n s))).run prog w=.ok (.bool false) w:=fun w=>by rw[eql45,g0]
   clear g0
   have HAD:=zA (fun W:World=>add_ok _ (ds[k]).1 (ds[k]).2 _ _ _ W (tT W) pN.1 ⟨pN.2.1,pN.2.2.1⟩ rfl)
   clear h3 hI pN
   generalize (ds[k]).1=a at *
   generalize (ds[k]).2=b at *
   have bw:Below wr.heap.size wr (wr.alloc (.cells (Qi a b) 45)):=bn _ _
   have hz:=heap_alloc_new wr (.cells (Qi a b) 45)
   have x2:=(bw.block _ (gsi.1 x1).1).trans x1
   have y2:=(bw.block _ (gsi.1 y1).1).trans y1
   have f0:∀p:Beh (wr.alloc (.cells (Qi a b) 45)),p.w.cell? ⟨wr.heap.size,0,none⟩=some (.int .i64 a):=fun p=>p.cell (cc 0 hz)
   have f1:∀p:Beh (wr.alloc (.cells (Qi a b) 45)),p.w.cell? ⟨wr.heap.size,1,none⟩=some (.int .i64 b):=fun p=>p.cell (cc 1 hz)
   have f2:∀p:Beh (wr.alloc (.cells (Qi a b) 45)),p.w.cell? ⟨w.heap.size,0,none⟩=some (.int .i64 n):=fun p=>p.cell (cc 0 x2)
   have f3:∀p:Beh (wr.alloc (.cells (Qi a b) 45)),p.w.cell? ⟨w.heap.size,1,none⟩=some (.int .i64 s):=fun p=>p.cell (cc 1 x2)
   have HBW:=zA (HI.out.trans (bw.mono HI.out.size))
   have HBX:=zA (Below.refl (wr.alloc (.cells (Qi a b) 45)).heap.size (wr.alloc (.cells (Qi a b) 45)))
   have HZ:=zA hz
   have HY2:=zA y2
   rcases Nat.eq_zero_or_pos k with hk0 | hk0
   ·have ek:decide (0<k)=false:=decide_eq_false lD
    clear hk0 pU bw hz x1 y1 x2 y2
    go_wp2_with fail
    refine zS lE lE HBX.out ?_
    repeat (go_big_quiet_step (fail))
    refine wpQuiet_nil ?_
    intro _ hw'
    obtain⟨q,hw''⟩:=hw'
    subst hw''
    clear f2 f3
    exact oR
   ·have ek:decide (0<k)=true:=decide_eq_true lD
    obtain⟨p1,p2,d0,d1,hbf⟩:=pU hk0
    have e0:∀p:Beh (wr.alloc (.cells (Qi a b) 45)),p.w.cell? ⟨g,off+(k - 1)*2,none⟩=some (.int .i64 p1):=fun p=>p.cell ((bw.cell (p:=⟨g,off+(k - 1)*2,none⟩) hg).trans d0)
    have e1:∀p:Beh (wr.alloc (.cells (Qi a b) 45)),p.w.cell? ⟨g,off+(k - 1)*2+1,none⟩=some (.int .i64 p2):=fun p=>p.cell ((bw.cell (p:=⟨g,off+(k - 1)*2+1,none⟩) hg).trans d1)
    have HCM:=zA (fun W:World=>(sN p1 p2 a b W).mono (R':=fun e w'=>e=.returned (.bool true)∧Below W.heap.size W w') (fun e w' ⟨he,hb⟩=>⟨by rw[he,hbf],hb⟩))
    have g5:IntKind.i64.wrap ((k:Int) - 1)=((k - 1:Nat):Int):=by rw[IntKind.wrap_i64];have:=HN.out.len;omega
    have g6:((k - 1:Nat):Int)<ds.length:=by omega
    have HK1:=zA hk0
    clear hk0 pU bw hz x1 y1 x2 y2 d0 d1 hbf
    generalize k - 1=k1 at *
    go_wp2_with fail
    refine zS lE lE HBX.out ?_
    repeat (go_big_quiet_step (exact Calls.beh_of (HCM.out _)))
    refine wpQuiet_nil ?_
    intro _ hw'
    obtain⟨q,hw''⟩:=hw'
    subst hw''
    clear f2 f3 e0 e1
    exact oR
  ·obtain rfl:k=ds.length:=by omega
   clear hI hlt
   go_wp2_with fail
   go_ret
   exact⟨rfl,HBI.out⟩
theorem right_row (n s:Nat) (time kind work value mn mx goal slack up down cool:Int) (ro:Option Addr) (rn rc:Nat) (ds:List (Nat×Nat)) (w:World) (hn:n<8) (hs:1≤s∧s≤96) (hd:DotsC w (.slice ro rn rc) ds) (hN:Pl.Nam n s ds) :
  Calls prog 188 #[.agg (Qy (n:Int) (s:Int) time kind work value mn mx goal slack up down cool (.slice ro rn rc))] w fun r w'=>r=.returned (.bool (Pl.Ev.mk n s time kind work value mn mx goal slack up down cool ro rn rc ds).right)∧Below w.heap.size w w':=by
 have HN:=zA hn
 have HS:=zA hs
 have HD:=zA (fun (W:World) (hW:Below w.heap.size w W)=>hd.below hW)
 have HM:=zA hN
 have hl:(rn:Int)≤96:=by obtain⟨a,b,e,_⟩:=hd;cases e;have:=hN.len;omega
 have heq2:∃b,b=Pl.Ev.still (Pl.Ev.mk n s time kind work value mn mx goal slack up down cool ro rn rc ds)∧∀w,(binOp .eql 38 (.agg (Qg mn mx goal slack up down cool)) (.agg Qgh)).run prog w=.ok (.bool b) w:=⟨_,rfl,fun w=>eql38 _ _ _ _ _ _ _ w⟩
 obtain⟨b,hb,heq3⟩:=heq2
 have hp:∃q,q=Pl.Ev.polOk (Pl.Ev.mk n s time kind work value mn mx goal slack up down cool ro rn rc ds):=⟨_,rfl⟩
 obtain⟨q,hq⟩:=hp
 unfold Pl.Ev.right
 simp only[←hb,←hq]
 unfold Pl.Ev.polOk at hq
 have oD:∃res,res=(Pl.inside time 1 1099511627776&&(Pl.inside work 0 7&&(if kind=1 then b&&(Pl.inside value 0 1099511627776&&rn == 0)else if kind=2 then q&&value == 0 else if kind=3 then b&&value == 0 else false))):=⟨_,rfl⟩
 obtain⟨res,oD⟩:=oD
 rw[←oD]
 have HRE:=zA oD
 have HQ:=zA hq
 clear hn hs hb hq hd hN oD
 have b1:=bn w (.cells (Qy (n:Int) (s:Int) time kind work value mn mx goal slack up down cool (.slice ro rn rc)) 175)
 have hx:=heap_alloc_new w (.cells (Qy (n:Int) (s:Int) time kind work value mn mx goal slack up down cool (.slice ro rn rc)) 175)
 have HB:=zA b1
 have HX:=zA hx
 obtain⟨c0,c1,c2,c3,c4,c5,c6,c7,c8,c9,c10,c11,c12,c13⟩:=c14 hx
 clear b1 hx
 go_enter func188,ntmps188
 go_wp2_with fail
 generalize w.alloc (.cells (Qy (n:Int) (s:Int) time kind work value mn mx goal slack up down cool (.slice ro rn rc)) 175)=W at *
 clear c0 c1 c2 c3 c4 c5 c6 c7 c8 c9 c10 c11 c12 c13
 refine(add_ok _ n s _ _ _ W (tT W) HN.out HS.out rfl).mono ?_
 rintro r w2 ⟨v1,U1,M1,rfl,⟨m1,rfl,hd1,_⟩,b2⟩
 obtain⟨ao1,cap1,rfl,_⟩:=hd1.toC
 have hx2:=zZ b2 HX.out
 have b3:=bn w2 (.cells (Qu U1 ao1 M1.length cap1) 60)
 have hbz:=HB.out.trans ((b2.trans (b3.mono b2.size)).mono HB.out.size)
 have hxz:=zZ b3 hx2
 have HBZ:=zA hbz
 have HXZ:=zA hxz
 obtain⟨c0,c1,c2,c3,c4,c5,c6,c7,c8,c9,c10,c11,c12,c13⟩:=c14 hxz
 clear hd1 b2 b3 hx2 hxz hbz
 go_wp2_with fail
 generalize w2.alloc (.cells (Qu U1 ao1 M1.length cap1) 60)=Z at *
 refine(yC _ _ _ Z).mono ?_
 rintro r w' ⟨rfl,rfl⟩
 rcases ht:Pl.inside time 1 1099511627776 with _ | _
 ·go_wp2_with fail
  go_ret
  exact⟨by rw[HRE.out];simp[ht],HBZ.out⟩
 go_wp2_with fail
 refine(yC _ _ _ Z).mono ?_
 rintro r w' ⟨rfl,rfl⟩
 rcases hw:Pl.inside work 0 7 with _ | _
 ·go_wp2_with fail
  go_ret
  exact⟨by rw[HRE.out];simp[ht,hw],HBZ.out⟩
 have hl2:decide (96<(rn:Int))=false:=decide_eq_false lD
 go_wp2_with fail
 refine(named_ok n s _ ds Z (HD.out Z HBZ.out) HM.out).mono ?_
 rintro r w3 ⟨rfl,b3⟩
 have hx3:=zZ b3 HXZ.out
 have HB3:=zA (HBZ.out.trans (b3.mono HBZ.out.size))
 have HX3:=zA hx3
 clear c0 c1 c2 c3 c4 c5 c6 c7 c8 c9 c10 c11 c12 c13
 obtain⟨c0,c1,c2,c3,c4,c5,c6,c7,c8,c9,c10,c11,c12,c13⟩:=c14 hx3
 clear b3 hx3
 by_cases k1:kind=1
 ·subst k1
  rcases b with _ | _
  ·go_wp2_with fail
   go_ret
   exact⟨by rw[HRE.out];simp[ht,hw],HB3.out⟩
  ·go_wp2_with fail
   refine(yC _ _ _ w3).mono ?_
   rintro r w' ⟨rfl,rfl⟩
   rcases hv:Pl.inside value 0 1099511627776 with _ | _
   ·go_wp2_with fail
    go_ret
    exact⟨by rw[HRE.out];simp[ht,hw,hv],HB3.out⟩
   ·go_wp2_with fail
    go_ret
    exact⟨by rw[HRE.out];simp[ht,hw,hv];rw[Bool.eq_iff_iff];simp,HB3.out⟩
 ·have e1:(kind == 1)=false:=by simp[k1]
  by_cases k2:kind=2
  ·subst k2
   go_wp2_with fail
   refine(uH mn mx goal slack up down cool w3).mono ?_
   rintro r w4 ⟨rfl,b4⟩
   have hx4:=zZ b4 HX3.out
   have HB4:=zA (HB3.out.trans (b4.mono HB3.out.size))
   clear c0 c1 c2 c3 c4 c5 c6 c7 c8 c9 c10 c11 c12 c13
   obtain⟨c0,c1,c2,c3,c4,c5,c6,c7,c8,c9,c10,c11,c12,c13⟩:=c14 hx4
   clear b4 hx4
   rw[←HQ.out]
   rcases q with _ | _
   ·go_wp2_with fail
    go_ret
    exact⟨by rw[HRE.out];simp[ht,hw],HB4.out⟩
   ·go_wp2_with fail
    go_ret
    exact⟨by rw[HRE.out];simp[ht,hw],HB4.out⟩
  ·have e2:(kind == 2)=false:=by simp[k2]
   by_cases k3:kind=3
   ·subst k3
    rcases b with _ | _
    ·go_wp2_with fail
     go_ret
     exact⟨by rw[HRE.out];simp[ht,hw],HB3.out⟩
    ·go_wp2_with fail
     go_ret
     exact⟨by rw[HRE.out];simp[ht,hw],HB3.out⟩
   ·have e3:(kind == 3)=false:=by simp[k3]
    have f1:=k1
    have f2:=k2
    have f3:=k3
    clear k1 k2 k3
    have HF:=zA (And.intro f1 (And.intro f2 f3))
    clear f1 f2 f3
    go_wp2_with fail
    go_ret
    exact⟨by rw[HRE.out];simp[ht,hw,HF.out.1,HF.out.2.1,HF.out.2.2],HB3.out⟩
theorem wZ (e:Pl.Ev) (n s:Nat) (w:World) (hd:e.Dot n s) (hD:DotsC w (.slice e.ro e.rn e.rc) e.rm) (hN:Pl.Nam n s e.rm):Calls prog 188 #[evv e] w fun r w'=>r=.returned (.bool e.right)∧Below w.heap.size w w':=by
 obtain⟨node,seq,time,kind,work,value,mn,mx,goal,slack,up,down,cool,ro,rn,rc,rm⟩:=e
 obtain⟨h1,h2,h3,h4,h5⟩:=hd
 simp only at h1 h2 hD hN
 subst h1 h2
 exact right_row n s time kind work value mn mx goal slack up down cool ro rn rc rm w h3 ⟨h4,h5⟩ hD hN
end
end Go.Proofs.YtodlmbfbfaofcaaGreat
