/- TopLoads, part 3. -/
import Derived.Test.YtodlmbfbfaofcaaGreatM01
import Derived.Test.YtodlmbfbfaofcaaGreatM02
open Go.Proofs.Tryz
namespace Go.Proofs.YtodlmbfbfaofcaaGreat
set_option linter.unusedVariables false
set_option linter.unusedSimpArgs false
set_option maxRecDepth 100000
set_option maxHeartbeats 1000000
section
open Go.RowKit Rw
section
variable {P:Program} {ops:Array Oper} {Q:Exit→Act→World→Prop} {S:World→Prop} {L fuel:Nat} {listed:Array Bool} {a:Act} {w:World} {v:Value} {oi:Oper} {B:Nat→Bool}
theorem run_ld {o:Oper} (t:TypeId) (pl:Operand) (g:Nat) {c:Array Value} {t0:TypeId} {fr:Nat×Nat} {d:TypeDesc} (ho:o.op=.load t pl) (hp:a.eval pl=.pointer (some ⟨g,0,none⟩)) (hg:w.heap[g]?=some (.cells c t0 fr)) (hu:P.underlying t=some d)
  (hd:(match d with | .struct _ | .array _ _=>true | _=>false)=true) (hs:(P.info? t).map (·.size)=some c.size):(execOp a.eval o).run P w=.ok (.value (.agg c)) w:=by
 have qD:(Instr.loadAt t (Qp g)).run P w=.ok (.agg c) w:=by
  simp only[Instr.loadAt,Instr.sureAddr,Sem.run_bind,Sem.run_pure,Result.andThen]
  exact run_loadVar_row w g t0 t c fr d hg hu hd hs
 simp[execOp,ho,hp,qD,Result.andThen]
theorem tl (i d:Nat) {a':Act} (hi:ops[i]?=some oi) (t:TypeId) (pl:Operand) (g:Nat) {c:Array Value} {t0:TypeId} {fr:Nat×Nat} {dd:TypeDesc} (ho:oi.op=.load t pl) (hp:a.eval pl=.pointer (some ⟨g,0,none⟩))
  (hx:∀w,S w→w.heap[g]?=some (.cells c t0 fr)) (hu:P.underlying t=some dd) (h:wpL P .any ops Q S L fuel (listed.setIfInBounds i true) a' w)
  (he:a.put (some d) (.agg c)=a':=by first | (simp only[pt,List.set];done) | (simp only[pt,List.set];exact rfl))
  (hd:(match dd with | .struct _ | .array _ _=>true | _=>false)=true:=by rfl) (hs:(P.info? t).map (·.size)=some c.size:=by kernel_rfl)
  (hg:Region.wanted oi (yielded ops a.tmps)=true:=by rfl) (hb:okB ops listed i d=true:=by kernel_rfl) (hw:(waitsFor .any ops L i&&i != L)=true:=by kernel_rfl) (hS:S w:=by assumption)
  (hQ:∀c' a w,Q (.panic c') (a.put oi.dst (.agg c)) w→Q (.panic c') a w:=by exact fun _ _ _ h=>h):wpL P .any ops Q S L (fuel+1) listed a w:=
 tk i d hi (fun w hS=>run_ld t pl g ho hp (hx w hS) hu hd hs) h he hg hb hw hS hQ
theorem t2 (i j:Nat) {o o':Oper} (ho:ops[i]?=some o) (ho':ops[j]?=some o') (h:∀K':Act→World→Prop,Shut (∀a w,(i≠L→S w)→((i≠L→S w)→wpL P .any ops Q S L fuel (listed.setIfInBounds i true) a w)→K' a w)→if Region.wanted o (yielded ops a.tmps)=true then Oper.wp P o a w K' Q else K' (a.put o.dst undef) w)
  (h':∀K':Act→World→Prop,Shut (∀a w,(j≠L→S w)→((j≠L→S w)→wpL P .any ops Q S L fuel (listed.setIfInBounds j true) a w)→K' a w)→if Region.wanted o' (yielded ops a.tmps)=true then Oper.wp P o' a w K' Q else K' (a.put o'.dst undef) w)
  (hr:Region.ready .any ops listed=[i,j]:=by kernel_rfl):wpL P .any ops Q S L (fuel+1) listed a w:=by
 refine⟨fun h0=>(by rw[h0]at hr;cases hr),fun k hk=>?_⟩
 rw[hr]at hk
 rcases List.mem_cons.1 hk with rfl | hk
 ·exact wpOp_step ho (fun K' hK=>h K' (fun a w hS hW=>hK a w ⟨hS,hW hS⟩))
 ·cases List.mem_singleton.1 hk
  exact wpOp_step ho' (fun K' hK=>h' K' (fun a w hS hW=>hK a w ⟨hS,hW hS⟩))
theorem yG {o:Oper} {K:Act→World→Prop} (t:TypeId) (pl vl:Operand) (g:Nat) {c c':Array Value} {t0:TypeId} (ho:o.op=.store t pl vl) (hd:o.dst=none) (hp:a.eval pl=.pointer (some ⟨g,0,none⟩)) (hv:a.eval vl=.agg c') (hg:w.heap[g]?=some (.cells c t0 (0,0)))
  (hi:(P.info? t).map (·.size)=some c'.size) (hs:c.size=c'.size) (h1:c'.all (·.oneCell')=true) (h:K a (w.setRow g c')):Oper.wp P o a w K Q:=by
 have qD:(Instr.storeAt t (Qp g) (.agg c')).run P w=.ok () (w.setRow g c'):=by
  simp only[Instr.storeAt,Instr.sureAddr,Sem.run_bind,Sem.run_pure,Result.andThen]
  exact run_storeVar_row w g t0 t c c' hg hi hs h1
 unfold Oper.wp
 simp[execOp,ho,hp,hv,qD,Result.andThen]
 simpa[hd,Oper.upon,Act.put]using h
end
end
section
open Go.RowKit Rw
def BytesC (w:World) (v:Value) (bs:List Int):Prop:=
 ∃ao cap,v=.slice ao bs.length cap∧(ao=none→bs=[]∧cap=0)∧∀i (h:i<bs.length),∃g off,ao=some ⟨g,off,none⟩∧g<w.heap.size∧w.cell? ⟨g,off+i,none⟩=some (.int .u8 bs[i])
def BytesT (w:World) (v:Value) (bs:List Int):Prop:=
 ∃ao cap,v=.slice ao bs.length cap∧(ao=none→bs=[]∧cap=0)∧∀i (h:i<bs.length),∃g off cs fr,ao=some ⟨g,off,none⟩∧w.heap[g]?=some (Obj.cells cs 5 fr)∧cs[off+i]?=some (.int .u8 bs[i])
def KeepB (w w':World):Prop:=∀(g:Nat) (cs:Array Value) (fr:Nat×Nat),w.heap[g]?=some (Obj.cells cs 5 fr)→w'.heap[g]?=w.heap[g]?
theorem KeepB.of_below {w w':World} (h:Below w.heap.size w w'):KeepB w w':=fun g cs fr hg=>h.block g (gsi.1 hg).1
theorem KeepB.trans {a b c:World} (h:KeepB a b) (k:KeepB b c):KeepB a c:=fun g cs fr hg=>(k g cs fr ((h g cs fr hg).trans hg)).trans (h g cs fr hg)
theorem BytesT.toC {w:World} {v:Value} {bs:List Int} (h:BytesT w v bs):BytesC w v bs:=by
 obtain⟨ao,cap,rfl,h0,h⟩:=h
 refine⟨ao,cap,rfl,h0,fun i hi=>?_⟩
 obtain⟨g,off,cs,fr,h1,h2,h3⟩:=h i hi
 exact⟨g,off,h1,(gsi.1 h2).1,by simp[World.cell?,h2,h3]⟩
theorem BytesT.keep {w w':World} {v:Value} {bs:List Int} (h:BytesT w v bs) (k:KeepB w w'):BytesT w' v bs:=by
 obtain⟨ao,cap,rfl,h0,h⟩:=h
 refine⟨ao,cap,rfl,h0,fun i hi=>?_⟩
 obtain⟨g,off,cs,fr,h1,h2,h3⟩:=h i hi
 exact⟨g,off,cs,fr,h1,(k g cs fr h2).trans h2,h3⟩
theorem BytesT.below {w w':World} {v:Value} {bs:List Int} (h:BytesT w v bs) (hb:Below w.heap.size w w'):BytesT w' v bs:=h.keep (KeepB.of_below hb)
theorem BytesC.below {w w':World} {v:Value} {bs:List Int} (h:BytesC w v bs) (hb:Below w.heap.size w w'):BytesC w' v bs:=by
 obtain⟨ao,cap,rfl,h0,h⟩:=h
 refine⟨ao,cap,rfl,h0,fun i hi=>?_⟩
 obtain⟨g,off,h1,h2,h3⟩:=h i hi
 exact⟨g,off,h1,Nat.lt_of_lt_of_le h2 hb.size,(hb.cell (p:=⟨g,off+i,none⟩) h2).trans h3⟩
namespace Pl
def u8s (bs:List Int):List Value:=bs.map (fun b=>Value.int .u8 b)
end Pl
theorem bytes_of {w:World} {base:Nat} {v:Value} {bs:List Int} (h:w.ownsRow base 5 1 v bs.length (Pl.u8s bs)):BytesT w v bs:=by
 rcases h.2 with⟨rfl,h0⟩ | ⟨g,cap,cur,rfl,hb,hg,_,_,_,ht⟩
 ·have:bs=[]:=List.eq_nil_of_length_eq_zero h0
  subst this
  exact⟨none,0,rfl,fun _=>⟨rfl,rfl⟩,fun i hi=>absurd hi (by simp)⟩
 ·refine⟨_,cap,rfl,(fun e=>by cases e),fun i hi=>⟨g,0,cur,(0,0),rfl,hg,?_⟩⟩
  have h2:(Pl.u8s bs)[i]?=cur.toList[i]?:=by rw[←ht,List.getElem?_take,if_pos (by omega)]
  rw[Nat.zero_add,←Array.getElem?_toList,←h2]
  unfold Pl.u8s;rw[List.getElem?_map,List.getElem?_eq_getElem hi];rfl
theorem info5:(prog.info? 5).map (fun i=>(i.zero,i.size,i.bytes))=some (some (.int .u8 0),1,1):=by kernel_rfl
theorem xO {P:Program} (w:World) {ops:Array Oper} {rest:List Oper} {o:Oper} {a:Act} {Q:Exit→Act→World→Prop} (hgd:o.guard=none) (s x:Operand) (t:TypeId)
  (ho:o.op=.call {callee:=.builtin .append,args:=#[s,x],argTypes:=#[t,t]})
  (base:Nat) (e:TypeId) (i:TypeInfo) (z:Value) (size bytes:Nat) (ht:P.underlying t=some (.slice e)) (hi:P.info? e=some i) (hz:i.zero=some z)
  (hsize:i.size=size) (hby:i.bytes=bytes) (hzs:z.cells.size=size) (hsz:0<size)
  (v:Value) (n:Nat) (xs:List Value) (hs:a.eval s=v) (rX:w.ownsRow base e size v n xs)
  (ao:Option Addr) (m c:Nat) (news:List Value) (hx:a.eval x=.slice ao m c) (hl:news.length=m*size) (hnone:ao=none→m=0∧c=0)
  (hnews:∀ad,ao=some ad→∀j u,news[j]?=some u→w.cell? (ad.add j)=some u) (h1:∀u∈news,u.oneCell'=true)
  (h63:n+m≤maxLen) (hbytes:(n+m)*bytes≤140737488355328) (qE:base≤w.heap.size)
  (h:∀v' w',w'.ownsRow base e size v' (n+m) (xs++news)→w.grownBy w' v.ownBlock→wpList P ops Q rest (a.put o.dst v') w'):wpList P ops Q (o::rest) a w:=by
 cases ao with
 | some ad=>exact wpList_append_own w hgd s x t ho base e i z size bytes ht hi hz hsize hby hzs hsz v n xs hs rX ad m c news hx hl (hnews ad rfl) h1 h63 hbytes qE (fun v' w' h2 h3 _=>h v' w' h2 h3)
 | none=>
  obtain⟨rfl,rfl⟩:=hnone rfl
  have hnews':news=[]:=List.eq_nil_of_length_eq_zero (by simpa using hl)
  subst hnews'
  refine wpList_plain hgd fun K hK'=>?_
  have qD:=run_append_owned_none (P:=P) w base t o.type e i size ht hi v n xs rX
  unfold Oper.wp
  simp[execOp,ho,resolve,invoke,builtin,hs,hx,qD,Result.andThen]
  exact hK' _ _ (h v w (by simpa using rX) ⟨rfl,rfl,rfl,Nat.le_refl _,fun _ _ _=>rfl⟩)
theorem zK {w:World} {base T size n:Nat} {v:Value} {xs:List Value} {g:Nat} (h:w.ownsRow base T size v n xs) (hg:v.ownBlock=some g):∃cs,w.heap[g]?=some (Obj.cells cs T (0,0)):=by
 rcases h.2 with⟨rfl,_⟩ | ⟨g',cap,cur,rfl,_,hh,_⟩
 ·cases hg
 ·cases hg;exact⟨cur,hh⟩
theorem xK {w w':World} {b T size n:Nat} {v:Value} {xs:List Value} (h:w.ownsRow b T size v n xs) (hb:∀g,v.ownBlock=some g→w'.heap[g]?=w.heap[g]?):w'.ownsRow b T size v n xs:=
 ⟨h.1,h.2.imp id (fun ⟨g,cap,cur,e,h1,h2,rest⟩=>⟨g,cap,cur,e,h1,(hb g (by rw[e];rfl)).trans h2,rest⟩)⟩
def OwnB (base:Nat) (w:World) (v:Value) (bs:List Int):Prop:=w.ownsRow base 5 1 v bs.length (Pl.u8s bs)
theorem OwnB.toT {base:Nat} {w:World} {v:Value} {bs:List Int} (h:OwnB base w v bs):BytesT w v bs:=bytes_of h
theorem OwnB.keep {base:Nat} {w w':World} {v:Value} {bs:List Int} (h:OwnB base w v bs) (k:KeepB w w'):OwnB base w' v bs:=xK h (fun g hg=>by
 obtain⟨cs,hc⟩:=zK h hg
 exact k g cs (0,0) hc)
theorem OwnB.below {base:Nat} {w w':World} {v:Value} {bs:List Int} (h:OwnB base w v bs) (hb:Below w.heap.size w w'):OwnB base w' v bs:=h.keep (KeepB.of_below hb)
theorem OwnB.mono {base c:Nat} {w:World} {v:Value} {bs:List Int} (h:OwnB base w v bs) (hb:c≤base):OwnB c w v bs:=
 ⟨h.1,h.2.imp id (fun ⟨g,cap,cur,e,h1,rest⟩=>⟨g,cap,cur,e,Nat.le_trans hb h1,rest⟩)⟩
def NewB (base:Nat) (v:Value):Prop:=∀g,v.ownBlock=some g→base≤g
theorem OwnB.new {base:Nat} {w:World} {v:Value} {bs:List Int} (h:OwnB base w v bs):NewB base v:=fun g hg=>(h.lt g hg).1
theorem NewB.mono {base c:Nat} {v:Value} (h:NewB base v) (hb:c≤base):NewB c v:=fun g hg=>Nat.le_trans hb (h g hg)
theorem xS (base:Nat) (w:World):OwnB base w (.slice none 0 0) []:=⟨rfl,.inl ⟨rfl,rfl⟩⟩
theorem u8s_one (bs:List Int):∀u∈Pl.u8s bs,u.oneCell'=true:=fun u hu=>by
 unfold Pl.u8s at hu
 obtain⟨b,_,rfl⟩:=List.mem_map.1 hu
 rfl
theorem u8s_len (bs:List Int):(Pl.u8s bs).length=bs.length*1:=by unfold Pl.u8s;simp
theorem BytesC.news {w:World} {ao:Option Addr} {cap:Nat} {bs:List Int} (h:BytesC w (.slice ao bs.length cap) bs):∀ad,ao=some ad→∀j u,(Pl.u8s bs)[j]?=some u→w.cell? (ad.add j)=some u:=fun ad had j u hj=>by
 obtain⟨ao',cap',hv,_,hcb⟩:=h
 cases hv
 unfold Pl.u8s at hj
 rw[List.getElem?_map]at hj
 have hjl:j<bs.length:=by
  rcases Nat.lt_or_ge j bs.length with h' | h'
  ·exact h'
  ·rw[List.getElem?_eq_none h']at hj;cases hj
 rw[List.getElem?_eq_getElem hjl]at hj
 obtain⟨g,off,h1,h2,h3⟩:=hcb j hjl
 rw[had]at h1
 cases h1
 rw[Go.WideShapes.add_plain]
 cases hj
 exact h3
theorem BytesC.none {w:World} {ao:Option Addr} {cap:Nat} {bs:List Int} (h:BytesC w (.slice ao bs.length cap) bs):ao=none→bs.length=0∧cap=0:=fun ha=>by
 obtain⟨ao',cap',hv,hn,_⟩:=h
 cases hv
 obtain⟨h1,h2⟩:=hn ha
 exact⟨by rw[h1];rfl,h2⟩
theorem own_empty (w:World):(w.alloc (.cells #[] 5)).ownsRow w.heap.size 5 1 (.slice (some ⟨w.heap.size,0,none⟩) 0 0) 0 []:=
 ⟨rfl,.inr ⟨w.heap.size,0,#[],rfl,Nat.le_refl _,heap_alloc_new w _,Nat.le_refl _,by decide,rfl,rfl⟩⟩
theorem bytes_nil (w:World):BytesT w (.slice none 0 0) []:=⟨none,0,rfl,fun _=>⟨rfl,rfl⟩,fun i hi=>absurd hi (by simp)⟩
theorem xN (w:World) (b:Int):BytesC (w.alloc (.cells #[.int .u8 b] 5)) (.slice (some ⟨w.heap.size,0,none⟩) 1 1) [b]:=by
 refine⟨_,1,rfl,(fun e=>by cases e),fun i hi=>⟨w.heap.size,0,rfl,by simp,?_⟩⟩
 have:i=0:=by simp at hi;omega
 subst this
 rw[World.cell?_alloc_at _ _ _ _ rfl];rfl
theorem ownsRow_base {w:World} {b c T size n:Nat} {v:Value} {xs:List Value} (h:w.ownsRow b T size v n xs) (hc:c≤b):w.ownsRow c T size v n xs:=
 ⟨h.1,h.2.imp id (fun ⟨g,cap,cur,e,h1,rest⟩=>⟨g,cap,cur,e,Nat.le_trans hc h1,rest⟩)⟩
theorem zF {w:World} {g:Nat} {t:TypeId} {cs:Array Value} {fr:Nat×Nat} (h:w.heap[g]?=some (.cells cs t fr)) {j:Nat} {u:Value} (hu:cs[j]?=some u):w.cell? ⟨g,j,none⟩=some u:=by
 simp only[World.cell?,h];simpa using hu
theorem zB {w:World} {g:Nat} {t:TypeId} {cs:Array Value} (h:w.heap[g]?=some (.cells cs t (0,0))) (j:Nat):w.frozen? ⟨g,j,none⟩=false:=by
 simp[World.frozen?,h]
theorem zG {w:World} {g j:Nat} {t:TypeId} {cs:Array Value} {fr:Nat×Nat} (h:w.heap[g]?=some (.cells cs t fr)) (u:Value):(w.setCell ⟨g,j,none⟩ u).heap[g]?=some (.cells (cs.setIfInBounds j u) t fr):=by
 have hlt:=(gsi.1 h).1
 have hg:=(gsi.1 h).2
 simp[World.setCell,hlt,hg,Array.getElem_modify]
theorem uZ {P:Program} {w:World} {ops:Array Oper} {o:Oper} {a:Act} {K:Act→World→Prop} {Q:Exit→Act→World→Prop} {E:Prop} (hgd:o.guard=none) (s x:Operand) (t:TypeId)
  (ho:o.op=.call {callee:=.builtin .append,args:=#[s,x],argTypes:=#[t,t]})
  (base:Nat) (e:TypeId) (i:TypeInfo) (z:Value) (size bytes:Nat) (ht:P.underlying t=some (.slice e)) (hi:P.info? e=some i) (hz:i.zero=some z)
  (hsize:i.size=size) (hby:i.bytes=bytes) (hzs:z.cells.size=size) (hsz:0<size)
  (v:Value) (n:Nat) (xs:List Value) (hs:a.eval s=v) (rX:w.ownsRow base e size v n xs)
  (ao:Option Addr) (m c:Nat) (news:List Value) (hx:a.eval x=.slice ao m c) (hl:news.length=m*size) (hnone:ao=none→m=0∧c=0)
  (hnews:∀ad,ao=some ad→∀j u,news[j]?=some u→w.cell? (ad.add j)=some u) (h1:∀u∈news,u.oneCell'=true)
  (h63:n+m≤maxLen) (hbytes:(n+m)*bytes≤140737488355328) (qE:base≤w.heap.size)
  (h:∀v' w',w'.ownsRow base e size v' (n+m) (xs++news)→w.grownBy w' v.ownBlock→K (a.put o.dst v') w') :
  if Region.wanted o (yielded ops a.tmps)=true then Oper.wp P o a w K Q else E:=by
 have hw:Region.wanted o (yielded ops a.tmps)=true:=by simp[Region.wanted,hgd]
 rw[if_pos hw]
 cases ao with
 | some ad=>exact wp_append_own w s x t ho base e i z size bytes ht hi hz hsize hby hzs hsz v n xs hs rX ad m c news hx hl (hnews ad rfl) h1 h63 hbytes qE (fun v' w' h2 h3 _=>h v' w' h2 h3)
 | none=>
  obtain⟨rfl,rfl⟩:=hnone rfl
  have hnews':news=[]:=List.eq_nil_of_length_eq_zero (by simpa using hl)
  subst hnews'
  have qD:=run_append_owned_none (P:=P) w base t o.type e i size ht hi v n xs rX
  unfold Oper.wp
  simp[execOp,ho,resolve,invoke,builtin,hs,hx,qD,Result.andThen]
  exact h v w (by simpa using rX) ⟨rfl,rfl,rfl,Nat.le_refl _,fun _ _ _=>rfl⟩
theorem BytesC.form {w:World} {v:Value} {bs:List Int} (h:BytesC w v bs):∃ao cap,v=.slice ao bs.length cap:=by obtain⟨ao,cap,e,_⟩:=h;exact⟨ao,cap,e⟩
theorem OwnB.form {b:Nat} {w:World} {v:Value} {bs:List Int} (h:OwnB b w v bs):∃ao cap,v=.slice ao bs.length cap:=h.toT.toC.form
theorem xJ {w w0:World} {ops:Array Oper} {rest:List Oper} {o:Oper} {a:Act} {Q:Exit→Act→World→Prop} {base:Nat} {v x:Value} {bs ys:List Int} (hgd:o.guard=none) (sl xl:Operand)
  (ho:o.op=.call {callee:=.builtin .append,args:=#[sl,xl],argTypes:=#[55,55]}) (hs:a.eval sl=v) (rX:OwnB base w v bs) (hx:a.eval xl=x) (hc:BytesC w x ys)
  (hl:bs.length+ys.length≤140737488355328) (hb:Below base w0 w) (qE:base≤w.heap.size)
  (h:∀v' w',OwnB base w' v' (bs++ys)→Below base w0 w'→w.grownBy w' v.ownBlock→wpList prog ops Q rest (a.put o.dst v') w'):wpList prog ops Q (o::rest) a w:=by
 obtain⟨i5,hi5,z0,z1,z2⟩:=info_parts info5
 obtain⟨ao,cap,rfl⟩:=hc.form
 refine xO w hgd sl xl 55 ho base 5 i5 (.int .u8 0) 1 1 underlying55 hi5 z0 z1 z2 rfl (by decide) v bs.length (Pl.u8s bs) hs rX ao ys.length cap (Pl.u8s ys) hx (u8s_len ys) hc.none hc.news (u8s_one ys) (by unfold maxLen;omega) (by omega) qE (fun v' w' h1 h2=>?_)
 refine h v' w' ?_ (hb.grown h2 qE (fun k hk=>(rX.lt k hk).1)) h2
 unfold OwnB;rw[List.length_append]
 have:Pl.u8s (bs++ys)=Pl.u8s bs++Pl.u8s ys:=by unfold Pl.u8s;rw[List.map_append]
 rw[this];exact h1
theorem clone_nil (w:World):Calls prog 140 #[.slice none 0 0] w fun e w'=>e=.returned (.slice none 0 0)∧w=w':=by
 have qP:∀w,(binOp BinOp.eql 55 (.slice none 0 0) (.slice none 0 0)).run prog w=.ok (.bool true) w:=fun _=>by kernel_rfl
 go_enter func140,ntmps140
 go_wp2
 go_ret
 exact⟨rfl,rfl⟩
theorem xM (v:Value) (bs:List Int) (w:World) (h:BytesC w v bs) (hn:bs.length≤140737488355328) :
  Calls prog 140 #[v] w fun e w'=>∃v',e=.returned v'∧OwnB w.heap.size w' v' bs∧Below w.heap.size w w':=by
 obtain⟨ao,cap,hv,h0,_⟩:=id h
 cases ao with
 | none=>
  obtain⟨rfl,rfl⟩:=h0 rfl
  subst hv
  refine(clone_nil w).mono ?_
  rintro e w' ⟨rfl,rfl⟩
  exact⟨_,rfl,xS _ _,Below.refl _ _⟩
 | some ad=>
  have b1:Below w.heap.size w (w.alloc (.cells #[] 5)):=(Below.refl _ _).alloc (Nat.le_refl _) _
  have qP:∀w,(binOp BinOp.eql 55 (.slice (some ad) bs.length cap) (.slice none 0 0)).run prog w=.ok (.bool false) w:=fun _=>by kernel_rfl
  have HC:=zA (h.below b1)
  have HO:Hid (OwnB w.heap.size (w.alloc (.cells #[] 5)) (.slice (some ⟨w.heap.size,0,none⟩) 0 0) []):=zA (own_empty w)
  have HB:=zA b1
  subst hv
  clear h b1 h0
  go_enter func140,ntmps140
  go_wp2_with (at_builtin;refine xJ rfl (.tmp 5) (.tmp 6) rfl rfl HO.out rfl HC.out (by simpa using hn) HB.out (by simp) ?_;intro v1 w1 hown1 hb1 hg1)
  go_ret
  exact⟨v1,rfl,hown1,hb1⟩
theorem cc (j:Nat) {w:World} {g:Nat} {t:TypeId} {cs:Array Value} {fr:Nat×Nat} (h:w.heap[g]?=some (.cells cs t fr)) {u:Value} (hu:cs[j]?=some u:=by rfl):w.cell? ⟨g,j,none⟩=some u:=zF h hu
namespace Pl
def vint (n:Nat):List Int:=if h:n<128 then[(n:Int)]else((n%128+128:Nat):Int)::vint (n / 128)
termination_by n
decreasing_by omega
theorem vint_small {n:Nat} (h:n<128):vint n=[(n:Int)]:=by rw[vint,dif_pos h]
theorem vint_big {n:Nat} (h:¬n<128):vint n=((n%128+128:Nat):Int)::vint (n / 128):=by rw[vint,dif_neg h]
theorem vint_len:∀(k n:Nat),n<128^k→(vint n).length≤k∨k=0
 | 0,n,h=>.inr rfl
 | k+1,n,h=>by
  by_cases hn:n<128
  ·rw[vint_small hn];exact .inl (by simp)
  ·rw[vint_big hn,List.length_cons]
   have h2:n / 128<128^k:=by rw[Nat.pow_succ]at h;exact Nat.div_lt_of_lt_mul (by omega)
   rcases vint_len k _ h2 with h3 | rfl
   ·exact .inl (by omega)
   ·simp at h;omega
theorem vint_len6 {n:Nat} (h:n≤1099511627776):(vint n).length≤6:=by
 rcases vint_len 6 n (Nat.lt_of_le_of_lt h (by decide))with h | h
 ·exact h
 ·cases h
end Pl
theorem or128 (m:Nat):bits BinOp.or IntKind.u8 ((m:Int)%256) 128=((m%128+128:Nat):Int):=by
 have h:∀x:Fin 256,bits BinOp.or IntKind.u8 ((x.val:Nat):Int) 128=((x.val%128+128:Nat):Int):=by decide +kernel
 have h2:=h ⟨m%256,Nat.mod_lt _ (by decide)⟩
 simp only at h2
 rw[show((m:Int)%256)=((m%256:Nat):Int)from by omega,h2]
 congr 1;omega
theorem wB (v:Value) (bs:List Int) (n:Nat) (w:World) (h:BytesC w v bs) (hl:bs.length≤1000000) (hn:n≤1099511627776) :
  Calls prog 77 #[v,.int .i64 n] w fun e w'=>∃v',e=.returned (.tuple #[v',.int .i64 0])∧OwnB w.heap.size w' v' (bs++Pl.vint n)∧Below w.heap.size w w':=by
 have HC:=zA (xM v bs w h (by omega))
 have HL6:=zA (Pl.vint_len6 hn)
 obtain⟨ao,cap,hv⟩:=h.form
 subst hv
 clear h
 go_enter func77,ntmps77
 go_wp2_with fail
 refine HC.out.mono ?_
 rintro e w1 ⟨v1,rfl,O1,b1⟩
 have HO1:=zA O1
 have HB1:=zA b1
 clear O1 b1 HC
 go_wp2_with fail
 go_loopw [1,6] (fun i x wr=>∃(m:Nat) (pre:List Int),i=.int .i64 m∧m≤n∧OwnB w.heap.size wr x (bs++pre)∧pre++Pl.vint m=Pl.vint n∧Below w.heap.size w wr) (fun i _ _=>(intOf i).toNat)
 case atStart=>exact⟨n,[],rfl,Nat.le_refl _,by rw[List.append_nil];exact HO1.out,rfl,HB1.out⟩
 case round=>
  obtain⟨m,pre,rfl,hm,O2,heq,b2⟩:=hrel
  clear HO1 HB1
  have hpl:pre.length+(Pl.vint m).length≤6:=by have:=congrArg List.length heq;rw[List.length_append]at this;have:=HL6.out;omega
  have HO2:=zA O2
  have HB2:=zA b2
  have HE:=zA heq
  clear O2 b2 heq
  have hsz:w.heap.size≤(wr.alloc (.cells #[.int .u8 0] 5)).heap.size:=by have:=HB2.out.size;simp;omega
  have BX:∀b:Int,Below wr.heap.size wr (wr.alloc (.cells #[.int .u8 b] 5)):=fun b=>bn _ _
  have HX:=zA BX
  have HSZ:=zA (fun b=>Nat.le_trans HB2.out.size (BX b).size)
  clear BX hsz
  by_cases hb:m<128
  ·have hb':(m:Int)<128:=by omega
   go_wp2_with (at_builtin;refine xJ rfl (.tmp 25) (.tmp 28) rfl rfl (HO2.out.below (HX.out _)) rfl (xN wr _) (by simp;omega) (HB2.out.trans ((HX.out _).mono HB2.out.size)) (HSZ.out _) ?_;intro v3 w3 hown3 hb3 hg3)
   refine bodyPost_ret (v:=.tuple #[v3,.int .i64 0]) (by simp[results,results77,go_sem]) rfl ⟨v3,rfl,?_,hb3⟩
   rw[List.append_assoc,←Pl.vint_small hb,HE.out]at hown3
   exact hown3
  ·have hb':¬(m:Int)<128:=by omega
   go_wp2_with (at_builtin;refine xJ rfl (.tmp 19) (.tmp 23) rfl rfl (HO2.out.below (HX.out _)) rfl (xN wr _) (by simp;omega) (HB2.out.trans ((HX.out _).mono HB2.out.size)) (HSZ.out _) ?_;intro v3 w3 hown3 hb3 hg3)
   rw[or128]at hown3
   rw[List.append_assoc]at hown3
   refine⟨⟨m / 128,pre++[((m%128+128:Nat):Int)],by simp,by omega,hown3,?_,hb3⟩,by simp[intOf];omega⟩
   rw[List.append_assoc,←HE.out,Pl.vint_big hb];rfl
structure Off (F:Nat→Prop) (w w':World):Prop where
 size:w.heap.size≤w'.heap.size
 same:∀g,g<w.heap.size→¬F g→w'.heap[g]?=w.heap[g]?
 rest:w'.os=w.os∧w'.tape=w.tape∧w'.output=w.output
theorem Off.refl (F:Nat→Prop) (w:World):Off F w w:=⟨Nat.le_refl _,fun _ _ _=>rfl,rfl,rfl,rfl⟩
theorem Off.of_below {F:Nat→Prop} {w w':World} (h:Below w.heap.size w w'):Off F w w':=⟨h.size,fun g hg _=>h.block g hg,h.os,h.tape,h.output⟩
theorem Off.trans {F:Nat→Prop} {a b c:World} (h:Off F a b) (k:Off F b c):Off F a c:=
 ⟨Nat.le_trans h.size k.size,fun g hg hf=>(k.same g (Nat.lt_of_lt_of_le hg h.size) hf).trans (h.same g hg hf),k.rest.1.trans h.rest.1,k.rest.2.1.trans h.rest.2.1,k.rest.2.2.trans h.rest.2.2⟩
theorem Off.mono {F G:Nat→Prop} {w w':World} (h:Off F w w') (k:∀g,g<w.heap.size→F g→G g):Off G w w':=⟨h.size,fun g hg hn=>h.same g hg (fun hf=>hn (k g hg hf)),h.rest⟩
theorem Off.set {F:Nat→Prop} {w w':World} (h:Off F w w') {a:Addr} (ha:F a.block∨w.heap.size≤a.block) (v:Value):Off F w (w'.setCell a v):=
 ⟨by simpa[World.setCell]using h.size,fun g hg hn=>(Below.heap_setCell _ _ _ _ (fun e=>by rcases ha with ha | ha;exact hn (e ▸ ha);omega)).trans (h.same g hg hn),h.rest⟩
theorem Off.below {F:Nat→Prop} {w w':World} (h:Off F w w') (hF:∀g,g<w.heap.size→¬F g):Below w.heap.size w w':=⟨h.rest.1,h.rest.2.1,h.rest.2.2,h.size,fun g hg=>h.same g hg (hF g hg)⟩
theorem Off.since {F:Nat→Prop} {w0 w w':World} (h:Off F w w') (hb:Below w0.heap.size w0 w) (hF:∀g,F g→w0.heap.size≤g):Below w0.heap.size w0 w':=by
 have hs:=hb.size
 exact⟨h.rest.1.trans hb.os,h.rest.2.1.trans hb.tape,h.rest.2.2.trans hb.output,Nat.le_trans hs h.size,fun g hg=>(h.same g (by omega) (fun hf=>by have:=hF g hf;omega)).trans (hb.block g hg)⟩
def Bs (w:World) (v:Value) (bs:List Int):Prop:=BytesT w v bs∧∃ao n cap,v=.slice ao n cap∧n≤cap∧cap≤maxLen
theorem OwnB.bs {base:Nat} {w:World} {v:Value} {bs:List Int} (h:OwnB base w v bs):Bs w v bs:=by
 refine⟨h.toT,?_⟩
 rcases h.2 with⟨rfl,h0⟩ | ⟨g,cap,cur,rfl,hb,hg,hc,hm,_⟩
 ·exact⟨none,0,0,rfl,Nat.le_refl _,Nat.zero_le _⟩
 ·exact⟨_,_,cap,rfl,hc,hm⟩
theorem Bs.keep {w w':World} {v:Value} {bs:List Int} (h:Bs w v bs) (k:KeepB w w'):Bs w' v bs:=⟨h.1.keep k,h.2⟩
theorem Bs.below {w w':World} {v:Value} {bs:List Int} (h:Bs w v bs) (hb:Below w.heap.size w w'):Bs w' v bs:=h.keep (KeepB.of_below hb)
def cutAt (ao:Option Addr) (cap n:Nat):Option Addr:=if cap=n then ao else ao.map (fun a=>a.add n)
theorem Bs.take {w:World} {ao:Option Addr} {n cap:Nat} {xs ys:List Int} (h:Bs w (.slice ao n cap) (xs++ys)):Bs w (.slice ao xs.length cap) xs:=by
 obtain⟨⟨ao',cap',e,h0,h1⟩,ao2,n2,cap2,e2,hn,hm⟩:=h
 cases e;cases e2
 rw[List.length_append]at hn
 refine⟨⟨ao,cap,rfl,fun ha=>?_,fun i hi=>?_⟩,ao,_,cap,rfl,by omega,hm⟩
 ·obtain⟨h2,h3⟩:=h0 ha
  exact⟨(List.append_eq_nil_iff.1 h2).1,h3⟩
 ·obtain⟨g,off,cs,fr,h2,h3,h4⟩:=h1 i (by rw[List.length_append];omega)
  exact⟨g,off,cs,fr,h2,h3,by rw[h4,List.getElem_append_left hi]⟩
theorem Bs.drop {w:World} {ao:Option Addr} {n cap:Nat} {xs ys:List Int} (h:Bs w (.slice ao n cap) (xs++ys)):Bs w (.slice (cutAt ao cap xs.length) ys.length (cap - xs.length)) ys:=by
 obtain⟨⟨ao',cap',e,h0,h1⟩,ao2,n2,cap2,e2,hn,hm⟩:=h
 cases e;cases e2
 rw[List.length_append]at hn
 refine⟨⟨_,_,rfl,fun ha=>?_,fun i hi=>?_⟩,_,_,_,rfl,by omega,by omega⟩
 ·have ha':ao=none:=by
   unfold cutAt at ha
   split at ha
   ·exact ha
   ·cases ao with
    | none=>rfl
    | some a=>cases ha
  obtain⟨h2,h3⟩:=h0 ha'
  exact⟨(List.append_eq_nil_iff.1 h2).2,by omega⟩
 ·obtain⟨g,off,cs,fr,h2,h3,h4⟩:=h1 (xs.length+i) (by rw[List.length_append];omega)
  refine⟨g,off+xs.length,cs,fr,?_,h3,?_⟩
  ·unfold cutAt
   rw[if_neg (by omega),h2,Option.map_some,Go.WideShapes.add_plain]
  ·rw[Nat.add_assoc,h4,List.getElem_append_right (by omega)]
   simp
def RdAt (w:World) (r:Nat) (bs:List Int):Prop:=∃v,w.rowIs r 293 2 (fun j=>if j=0 then v else .int .i64 0)∧Bs w v bs
theorem RdAt.lt {w:World} {r:Nat} {bs:List Int} (h:RdAt w r bs):r<w.heap.size:=by obtain⟨v,hr,_⟩:=h;exact hr.lt
theorem RdAt.below {w w':World} {r:Nat} {bs:List Int} (h:RdAt w r bs) (hb:Below w.heap.size w w'):RdAt w' r bs:=by
 obtain⟨v,hr,h1⟩:=h
 exact⟨v,hr.of_block (hb.block r hr.lt),h1.below hb⟩
theorem RdAt.no5 {w:World} {r:Nat} {bs:List Int} (h:RdAt w r bs):∀g cs fr,g=r→w.heap[g]?≠some (Obj.cells cs 5 fr):=by
 rintro g cs fr rfl hg
 obtain⟨v,⟨c,hc,_⟩,_⟩:=h
 rw[hc]at hg;cases hg
theorem RdAt.cells {w:World} {r:Nat} {bs:List Int} (h:RdAt w r bs):∃ao cap,w.cell? ⟨r,0,none⟩=some (.slice ao bs.length cap)∧w.cell? ⟨r,1,none⟩=some (.int .i64 0)∧(∀j,w.frozen? ⟨r,j,none⟩=false)∧Bs w (.slice ao bs.length cap) bs∧bs.length≤cap∧cap≤maxLen∧
  ∀v' bs',Bs w v' bs'→RdAt (w.setCell ⟨r,0,none⟩ v') r bs':=by
 have hno:=h.no5 r
 obtain⟨v,hr,hb⟩:=h
 obtain⟨⟨ao,cap,hv,_⟩,ao2,n2,cap2,hv2,hn,hm⟩:=id hb
 subst hv
 cases hv2
 have c0:=hr.cell (i:=0) (by decide)
 have c1:=hr.cell (i:=1) (by decide)
 simp only[if_true]at c0
 refine⟨ao,cap,c0,c1,hr.frozen,hb,hn,hm,fun v' bs' hb'=>⟨v',(hr.set 0 v').congr (fun i hi=>?_),hb'.keep (fun g cs fr hg=>Below.heap_setCell _ _ _ _ (fun e=>hno cs fr rfl (by rw[show g=r from e]at hg;exact hg)))⟩⟩
 by_cases h0:i=0
 ·simp[h0]
 ·simp[h0]
theorem uS (v:Value) (bs:List Int) (w:World) (h:BytesC w v bs) (hl:bs.length≤1000000) :
  Calls prog 107 #[v] w fun e w'=>∃r,e=.returned (Qp r)∧w.heap.size≤r∧RdAt w' r bs∧Below w.heap.size w w':=by
 have HC:=zA (xM v bs w h (by omega))
 obtain⟨ao,cap,hv⟩:=h.form
 subst hv
 clear h
 go_enter func107,ntmps107
 go_wp2_with fail
 refine HC.out.mono ?_
 rintro e w1 ⟨v1,rfl,O1,b1⟩
 obtain⟨ao1,cap1,hv1⟩:=O1.form
 subst hv1
 go_wp2_with fail
 go_ret
 have b2:Below w1.heap.size w1 (w1.alloc (.cells #[.slice ao1 bs.length cap1,.int .i64 0] 293)):=bn _ _
 refine⟨w1.heap.size,rfl,b1.size,⟨_,⟨_,heap_alloc_new w1 _,rfl,fun i hi=>?_⟩,O1.bs.below b2⟩,b1.trans (b2.mono b1.size)⟩
 rcases i with _ | _ | i
 ·rfl
 ·rfl
 ·omega
theorem rI (r:Nat) (xs ys:List Int) (w:World) (h:RdAt w r (xs++ys)) :
  Calls prog 180 #[Qp r,.int .i64 xs.length] w fun e w'=>∃v',e=.returned v'∧Bs w' v' xs∧RdAt w' r ys∧Off (· = r) w w'∧w'.heap.size=w.heap.size:=by
 obtain⟨ao,cap,c0,c1,fz,hb,hn,hm,qM⟩:=h.cells
 have hno:=h.no5
 have f0:=fz 0
 rw[List.length_append]at c0 hb hn
 have HT:=zA hb.take
 have HD:=zA (qM _ _ hb.drop)
 have HN:=zA hno
 clear h hb qM fz hno
 have a0:¬((xs.length:Int)<0):=by omega
 have a1:¬((xs.length:Int)>((xs.length+ys.length:Nat):Int)):=by omega
 have a2:(xs.length:Int)≤cap:=by omega
 have a3:(xs.length:Int)≤((xs.length+ys.length:Nat):Int):=by omega
 go_enter func180,ntmps180
 go_wp2_with fail
 all_goals
  go_ret
  have hd:=HD.out
  have htt:=HT.out
  have hk:∀v',KeepB w (w.setCell ⟨r,0,none⟩ v'):=fun v' g cs fr hg=>Below.heap_setCell _ _ _ _ (fun e=>HN.out g cs fr e hg)
  have ho:∀v',Off (· = r) w (w.setCell ⟨r,0,none⟩ v'):=fun v'=>(Off.refl (· = r) w).set (a:=⟨r,0,none⟩) (.inl rfl) v'
  have hs:∀v',(w.setCell ⟨r,0,none⟩ v').heap.size=w.heap.size:=fun v'=>by simp[World.setCell]
  unfold cutAt at hd
  first
  | (rw[if_neg (by omega)]at hd;exact⟨_,rfl,htt.keep (hk _),hd,ho _,hs _⟩)
  | (have hcx:cap=xs.length:=by omega
     simp only[hcx,if_true,Nat.sub_self]at hd htt
     exact⟨_,rfl,htt.keep (hk _),hd,ho _,hs _⟩)
end
end Go.Proofs.YtodlmbfbfaofcaaGreat
