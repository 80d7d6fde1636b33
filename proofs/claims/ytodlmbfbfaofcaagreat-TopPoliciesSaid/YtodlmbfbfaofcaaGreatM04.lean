/- TopPolicies, part 4. -/
import Derived.BigQuiet
import Derived.BigRegion
import Derived.Deep.AppendLies
import Derived.Deep.OwnRows
import Derived.Deep.QuietTactic
import Derived.Deep.RegionHeld
import Derived.Deep.RegionHeld3
import Derived.Defers
import Derived.Lib.Hide
import Derived.OrdersHeld
import Derived.ProofKit
import Derived.Recover
import Derived.WalkKit
import Derived.WalkLawsBesides
import Derived.WalkSmall
import Derived.Test.YtodlmbfbfaofcaaGreatM01
import Derived.Test.YtodlmbfbfaofcaaGreatM02
import Derived.Test.YtodlmbfbfaofcaaGreatM03
import Derived.Test.YtodlmbfbfaofcaaGreatRows
open Go.Proofs.Tryz
namespace Go.Proofs.YtodlmbfbfaofcaaGreat
set_option linter.unusedVariables false
set_option linter.unusedSimpArgs false
set_option maxRecDepth 100000
set_option maxHeartbeats 600000
section
open Go.RowKit Rw
theorem ret_int {a b:Int} (h:a=b):Ending.returned (.int .i64 a)=.returned (.int .i64 b):=by rw[h]
theorem ret_two {a b c d:Int} (h:a=b) (h':c=d):Ending.returned (.tuple (Qi a c))=.returned (.tuple (Qi b d)):=by rw[h,h']
theorem within_any (n lo hi:Int) (w:World):Calls prog 95 (Qj n lo hi) w fun e w'=>e=.returned (.int .i64 (Pl.within n lo hi))∧w=w':=by
 exact mD
theorem wN (n:Int) (w:World):Calls prog 172 (Qo n) w fun e w'=>e=.returned (.int .i64 (Pl.clamp n))∧w=w':=by
 go_enter func172,ntmps172
 go_wp2_with fail
 refine(within_any _ _ _ _).mono ?_
 rintro e w' ⟨rfl,rfl⟩
 go_wp2
 go_ret
 exact⟨rfl,rfl⟩
theorem sum_any (a b:Int) (w:World) (ha : -1099511627776≤a) (ha':a≤1099511627776) (hb : -1099511627776≤b) (hb':b≤1099511627776) :
  Calls prog 260 #[.agg (Qi a b)] w fun e w'=>e=.returned (.int .i64 (a+b))∧Below w.heap.size w w':=by
 go_enter func260,ntmps260
 go_wp2
 go_ret
 exact⟨rfl,bn _ _⟩
theorem of_any (f:Nat) (F:Int→Int→Int) (hnum:f=260)
  (hf:∀(x y:Int) (w:World),-1099511627776≤x→x≤1099511627776→ -1099511627776≤y→y≤1099511627776→
   Calls prog f #[.agg (Qi x y)] w fun e w'=>(∃n,e=.returned (.int .i64 n)∧Pl.clamp n=Pl.clamp (F x y))∧Below w.heap.size w w')
  (a b:Int) (w:World) :
  Calls prog 259 #[.int .i64 a,.int .i64 b,.func (.func f) #[] #[]] w fun e w'=>e=.returned (.int .i64 (Pl.clamp (F (Pl.clamp a) (Pl.clamp b))))∧Below w.heap.size w w':=by
 have HF:=zA hf
 clear hf
 have ha:=Pl.clamp_bd a
 have hb:=Pl.clamp_bd b
 subst hnum
 all_goals
  go_enter func259,ntmps259
  go_wp2_with fail
  refine(wN _ _).mono ?_
  rintro e w' ⟨rfl,rfl⟩
  generalize hx:Pl.clamp a=x at *
  have HX:=zA hx
  clear hx
  go_wp2_with fail
  refine(wN _ _).mono ?_
  rintro e w' ⟨rfl,rfl⟩
  generalize hy:Pl.clamp b=y at *
  have HY:=zA hy
  clear hy
  go_wp2_with fail
  refine(HF.out x y _ ha.1 ha.2 hb.1 hb.2).mono ?_
  rintro e w2 ⟨⟨n,rfl,hn⟩,hbel⟩
  have HN:=zA hn
  clear hn
  go_wp2_with fail
  refine(wN _ _).mono ?_
  rintro e w' ⟨rfl,rfl⟩
  go_wp2
  go_ret
  exact⟨ret_int (by rw[HX.out,HY.out];exact HN.out),hbel⟩
theorem add_any (a b:Int) (w:World):Calls prog 169 (Qi a b) w fun e w'=>e=.returned (.int .i64 (Pl.add a b))∧Below w.heap.size w w':=by
 go_enter func169,ntmps169
 go_wp2_with fail
 refine(of_any 260 (· + ·) rfl (fun x y w h1 h2 h3 h4=>(sum_any x y w h1 h2 h3 h4).mono fun e w' h=>⟨⟨_,h.1,rfl⟩,h.2⟩) a b w).mono ?_
 rintro e w' ⟨rfl,hb⟩
 go_wp2
 go_ret
 exact⟨rfl,hb⟩
theorem ceil_any (a b:Int) (w:World):Calls prog 101 (Qi a b) w fun e w'=>e=.returned (.tuple (Qi (Pl.ceilQ a b) (Pl.ceilE b)))∧w=w':=by
 have ha:=Pl.clamp_bd a
 have hb:=Pl.clamp_bd b
 go_enter func101,ntmps101
 go_wp2_with fail
 refine(wN _ _).mono ?_
 rintro e w' ⟨rfl,rfl⟩
 generalize hx:Pl.clamp a=x at *
 have HX:=zA hx
 clear hx
 go_wp2_with fail
 refine(wN _ _).mono ?_
 rintro e w' ⟨rfl,rfl⟩
 generalize hy:Pl.clamp b=y at *
 have HY:=zA hy
 clear hy
 by_cases hy0:y≤0
 ·go_wp2
  go_ret2
  exact⟨ret_two (Pl.ceilQ_neg (by rw[HY.out];exact hy0)).symm (Pl.ceilE_neg (by rw[HY.out];exact hy0)).symm,rfl⟩
 ·have hy1:0<y:=by omega
  have HQ:Hid (Pl.ceilQ a b=Pl.cdiv x y):=by have:=Pl.ceilQ_pos (a:=a) (b:=b) (by rw[HY.out];exact hy1);rw[HX.out,HY.out]at this;exact this
  have HE:Hid (Pl.ceilE b=0):=Pl.ceilE_pos (by rw[HY.out];exact hy1)
  go_wp2
  all_goals go_ret2
  all_goals refine⟨ret_two (Eq.trans ?_ HQ.out.symm) HE.out.symm,rfl⟩
  ·exact Pl.cdiv_up (by assumption) ha.2 hy1 (by assumption)
  ·exact Pl.cdiv_exact (by assumption) hy1 (by assumption)
  ·exact Pl.cdiv_neg (by assumption)
namespace Pl
def inside (n lo hi:Int):Bool:=decide (lo≤n)&&decide (n≤hi)
theorem inside_eq (n lo hi:Int):(within n lo hi == n)=inside n lo hi:=by
 unfold within inside
 rw[Bool.eq_iff_iff]
 simp only[beq_iff_eq,Bool.and_eq_true,decide_eq_true_eq]
 (repeat' split)<;>omega
end Pl
theorem xU (n lo hi:Int) (w:World):Calls prog 37 (Qj n lo hi) w fun e w'=>e=.returned (.bool (Pl.inside n lo hi))∧w=w':=by
 go_enter func37,ntmps37
 exact oS
theorem yZ (n lo hi:Int) (w:World):Calls prog 39 (Qj n lo hi) w fun e w'=>e=.returned (.bool (Pl.inside n lo hi))∧w=w':=by
 go_enter func39,ntmps39
 exact oS
theorem yC (n lo hi:Int) (w:World):Calls prog 171 (Qj n lo hi) w fun e w'=>e=.returned (.bool (Pl.inside n lo hi))∧w=w':=by
 go_enter func171,ntmps171
 exact oS
theorem yM (n lo hi:Int) (w:World):Calls prog 177 (Qj n lo hi) w fun e w'=>e=.returned (.bool (Pl.inside n lo hi))∧w=w':=by
 go_enter func177,ntmps177
 exact oS
theorem vW (n lo hi:Int) (w:World):Calls prog 292 (Qj n lo hi) w fun e w'=>e=.returned (.bool (Pl.inside n lo hi))∧w=w':=by
 go_enter func292,ntmps292
 exact oS
end
section
open Go Go.RowKit Rw
section
variable {P:Program} {ops:Array Oper} {Q:Exit→Act→World→Prop} {md:Region.Mode} {S:World→Prop} {L:Nat}
def wpL (P:Program) (md:Region.Mode) (ops:Array Oper) (Q:Exit→Act→World→Prop) (S:World→Prop) (L:Nat):Nat→Array Bool→Act→World→Prop
 | 0,listed,a,w=>Region.ready md ops listed=[]∧Q .normal a w
 | fuel+1,listed,a,w=>
  (Region.ready md ops listed=[]→Q .normal a w)∧
  ∀i∈Region.ready md ops listed,wpOp P ops Q i (fun a' w'=>(i≠L→S w')∧wpL P md ops Q S L fuel (listed.setIfInBounds i true) a' w') a w
theorem vX:∀(fuel:Nat) (listed:Array Bool) (a:Act) (w:World),wpL P md ops Q S L fuel listed a w→wpAny P md ops Q fuel listed a w
 | 0,_,_,_,h=>h
 | fuel+1,_,_,_,h=>⟨h.1,fun i hi=>wpOp_mono (fun a' w' h'=>vX fuel _ a' w' h'.2) (h.2 i hi)⟩
theorem wpL_first {i:Nat} {oi:Oper} {v:Value} (hi:ops[i]?=some oi) (hsel:∀(j:Nat) (o:Oper) cs b,ops[j]?=some o→o.op≠.select cs b)
  (hiL:i≠L) (hwait:∀o,ops[L]?=some o→∃e∈o.after,Region.binds md e=true∧e.on=i)
  (hQ:∀c a w,Q (.panic c) (a.put oi.dst v) w→Q (.panic c) a w) :
  ∀(fuel:Nat) (listed:Array Bool) (a:Act) (w:World),
   (∀j oj,ops[j]?=some oj→j≠i→listed.getD j true=false→(∀e∈oj.after,Region.binds md e=true→e.on≠i)→oi.apart ops oj=true)→
   i∈Region.ready md ops listed→YieldsIf P ops S oi v a→S w→
   wpL P md ops Q S L fuel (listed.setIfInBounds i true) (a.put oi.dst v) w→wpL P md ops Q S L (fuel+1) listed a w:=by
 intro fuel
 induction fuel with
 | zero=>
  intro listed a w _ hr hy hS H
  refine⟨fun h=>(by rw[h]at hr;cases hr),fun j hj=>?_⟩
  by_cases hji:j=i
  ·subst hji;exact hy.wpOp hi hS ⟨fun _=>hS,H⟩
  ·have:=ready_mono hj hji
   rw[H.1]at this
   cases this
 | succ fuel ih=>
  intro listed a w hfree hr hy hS H
  refine⟨fun h=>(by rw[h]at hr;cases hr),fun j hj=>?_⟩
  by_cases hji:j=i
  ·subst hji;exact hy.wpOp hi hS ⟨fun _=>hS,H⟩
  ·have h1:=H.2 j (ready_mono hj hji)
   obtain⟨hjun,oj,hoj,qF⟩:=mem_ready.1 hj
   have oE:∀e∈oj.after,Region.binds md e=true→e.on≠i:=fun e he hb heq=>by
    exact nZ
   have hjL:j≠L:=fun hjl=>by
    subst hjl
    obtain⟨e,he,hb,hon⟩:=hwait oj hoj
    exact oE e he hb hon
   have h2:=wpOp_putIf hoj (hfree j oj hoj hji hjun oE) (fun cs b=>hsel i oi cs b hi) (fun cs b=>hsel j oj cs b hoj) hQ hy h1
   have hfree':∀k ok,ops[k]?=some ok→k≠i→(listed.setIfInBounds j true).getD k true=false→
     (∀e∈ok.after,Region.binds md e=true→e.on≠i)→oi.apart ops ok=true:=fun k ok hk hki hun hno=>by
    exact mT
   refine wpOp_mono (fun a' w' h3=>⟨h3.2.1,ih (listed.setIfInBounds j true) a' w' hfree' (ready_mono hr (Ne.symm hji)) h3.1 (h3.2.1 hjL) ?_⟩) h2
   rw[Array.setIfInBounds_comm _ _ hji]
   exact h3.2.2
def waitsFor (md:Region.Mode) (ops:Array Oper) (L i:Nat):Bool:=
 match ops[L]? with
 | some o=>o.after.toList.any fun e=>Region.binds md e&&e.on == i
 | none=>true
theorem wpL_take {i:Nat} {oi:Oper} {v:Value} {fuel:Nat} {listed:Array Bool} {a:Act} {w:World} (hi:ops[i]?=some oi)
  (hs:Region.noSelect ops=true) (hw:(waitsFor md ops L i&&i != L)=true) (hf:Region.free md ops listed i=true) (hr:(Region.ready md ops listed).contains i=true)
  (hQ:∀c a w,Q (.panic c) (a.put oi.dst v) w→Q (.panic c) a w) (hy:YieldsIf P ops S oi v a) (hS:S w)
  (h:wpL P md ops Q S L fuel (listed.setIfInBounds i true) (a.put oi.dst v) w):wpL P md ops Q S L (fuel+1) listed a w:=by
 simp only[Bool.and_eq_true,bne_iff_ne]at hw
 refine wpL_first hi (Region.noSelect_spec hs) hw.2 (fun o ho=>?_) hQ fuel listed a w (Region.free_spec hi hf) (by simpa using hr) hy hS h
 have:=hw.1
 simp only[waitsFor,ho,List.any_eq_true,Bool.and_eq_true,beq_iff_eq]at this
 obtain⟨e,he,hb,hon⟩:=this
 exact⟨e,by simpa using he,hb,hon⟩
theorem yE {i:Nat} (d:Nat) {oi:Oper} {v:Value} {fuel:Nat} {listed:Array Bool} {a:Act} {w:World} (hi:ops[i]?=some oi) (hd:((ops[i]?).any fun o=>o.dst == some d)=true)
  (hs:Region.noSelect ops=true) (hw:(waitsFor md ops L i&&i != L)=true) (hf:Region.free md ops listed i=true) (hr:(Region.ready md ops listed).contains i=true)
  (hQ:∀c a w,Q (.panic c) (a.put oi.dst v) w→Q (.panic c) a w) (hy:YieldsIf P ops S oi v a) (hS:S w)
  (h:wpL P md ops Q S L fuel (listed.setIfInBounds i true) (a.put (some d) v) w):wpL P md ops Q S L (fuel+1) listed a w:=by
 have e:oi.dst=some d:=by rw[hi]at hd;simpa using hd
 exact wpL_take hi hs hw hf hr hQ hy hS (by rw[e];exact h)
theorem wpL_one {i:Nat} {o:Oper} {fuel:Nat} {listed:Array Bool} {a:Act} {w:World} (hr:Region.ready md ops listed=[i]) (ho:ops[i]?=some o)
  (h:∀K':Act→World→Prop,Shut (∀a w,(i≠L→S w)→((i≠L→S w)→wpL P md ops Q S L fuel (listed.setIfInBounds i true) a w)→K' a w)→if Region.wanted o (yielded ops a.tmps)=true then Oper.wp P o a w K' Q else K' (a.put o.dst undef) w) :
  wpL P md ops Q S L (fuel+1) listed a w:=by
 exact mJ
theorem wpL_done {listed:Array Bool} {a:Act} {w:World} (hr:Region.ready md ops listed=[]) (h:Q .normal a w) :
  ∀fuel,wpL P md ops Q S L fuel listed a w
 | 0=>⟨hr,h⟩
 | _+1=>⟨fun _=>h,by rw[hr];simp⟩
theorem zD {id:Nat} {a:Act} {w:World} (S:World→Prop) (L:Nat) (hm:P.follows .mixedOrders=true) (hS:S w.drew)
  (h:S w.drew→wpL P .any ops Q S L ops.size (Array.replicate ops.size false) a w.drew):(Code.region id ops true).wp P Q a w:=
 wp_region_any hm (vX _ _ _ _ (h hS))
end
end
section
open Go.RowKit Rw
set_option maxRecDepth 100000
theorem pt {l:List Value} {ds:List Deferred} {d:Nat} {v:Value}:Act.put ⟨l.toArray,ds⟩ (some d) v=⟨(l.set d v).toArray,ds⟩:=by simp[Act.put]
section
variable {P:Program} {ops:Array Oper} {Q:Exit→Act→World→Prop} {S:World→Prop} {L fuel:Nat} {listed:Array Bool} {a:Act} {w:World} {v:Value} {oi:Oper} {B:Nat→Bool}
def okB (ops:Array Oper) (listed:Array Bool) (i d:Nat):Bool:=((ops[i]?).any fun o=>o.dst == some d)&&(Region.noSelect ops&&(Region.free .any ops listed i&&(Region.ready .any ops listed).contains i))
theorem uJ {i d:Nat} (h:okB ops listed i d=true):((ops[i]?).any fun o=>o.dst == some d)=true∧Region.noSelect ops=true∧Region.free .any ops listed i=true∧(Region.ready .any ops listed).contains i=true:=by
 simpa[okB]using h
theorem tk (i d:Nat) {a':Act} (hi:ops[i]?=some oi) (ha:∀w,S w→(execOp a.eval oi).run P w=.ok (.value v) w) (h:wpL P .any ops Q S L fuel (listed.setIfInBounds i true) a' w)
  (he:a.put (some d) v=a':=by first | (simp only[pt,List.set];done) | (simp only[pt,List.set];exact rfl))
  (hg:Region.wanted oi (yielded ops a.tmps)=true:=by rfl) (hb:okB ops listed i d=true:=by kernel_rfl) (hw:(waitsFor .any ops L i&&i != L)=true:=by kernel_rfl) (hS:S w:=by assumption)
  (hQ:∀c a w,Q (.panic c) (a.put oi.dst v) w→Q (.panic c) a w:=by exact fun _ _ _ h=>h):wpL P .any ops Q S L (fuel+1) listed a w:=by
 obtain⟨h1,h2,h3,h4⟩:=uJ hb
 subst he
 exact yE d hi h1 h2 hw h3 h4 hQ (.inl ⟨hg,ha⟩) hS h
theorem tkp (i d:Nat) {a':Act} (hi:ops[i]?=some oi) (h:wpL P .any ops Q S L fuel (listed.setIfInBounds i true) a' w)
  (ha:∀w,S w→(execOp a.eval oi).run P w=.ok (.value v) w:=by intro wS hSw;clear hSw;go_simp;(try with_reducible rfl))
  (he:a.put (some d) v=a':=by first | (simp only[pt,List.set];done) | (simp only[pt,List.set];exact rfl))
  (hg:Region.wanted oi (yielded ops a.tmps)=true:=by rfl) (hb:okB ops listed i d=true:=by kernel_rfl) (hw:(waitsFor .any ops L i&&i != L)=true:=by kernel_rfl) (hS:S w:=by assumption)
  (hQ:∀c a w,Q (.panic c) (a.put oi.dst v) w→Q (.panic c) a w:=by exact fun _ _ _ h=>h):wpL P .any ops Q S L (fuel+1) listed a w:=
 tk i d hi ha h he hg hb hw hS hQ
theorem tu (i d:Nat) {a':Act} (hi:ops[i]?=some oi) (h:wpL P .any ops Q S L fuel (listed.setIfInBounds i true) a' w)
  (he:a.put (some d) undef=a':=by first | (simp only[pt,List.set];done) | (simp only[pt,List.set];exact rfl))
  (hg:Region.wanted oi (yielded ops a.tmps)=false:=by rfl) (hb:okB ops listed i d=true:=by kernel_rfl) (hw:(waitsFor .any ops L i&&i != L)=true:=by kernel_rfl) (hS:S w:=by assumption)
  (hQ:∀c a w,Q (.panic c) (a.put oi.dst undef) w→Q (.panic c) a w:=by exact fun _ _ _ h=>h):wpL P .any ops Q S L (fuel+1) listed a w:=by
 obtain⟨h1,h2,h3,h4⟩:=uJ hb
 subst he
 exact yE d hi h1 h2 hw h3 h4 hQ (.inr ⟨hg,rfl⟩) hS h
theorem tkd (i d:Nat) {a':Act} (hi:ops[i]?=some oi) (h:wpL P .any ops Q S L fuel (listed.setIfInBounds i true) a' w)
  (ha:∀w,S w→(execOp a.eval oi).run P w=.ok (.value v) w:=by intro w hSw;(try dsimp only at hSw);go_simp;(try with_reducible rfl))
  (he:a.put (some d) v=a':=by first | (simp only[pt,List.set];done) | (simp only[pt,List.set];exact rfl))
  (hg:Region.wanted oi (yielded ops a.tmps)=true:=by rfl) (hb:okB ops listed i d=true:=by kernel_rfl) (hw:(waitsFor .any ops L i&&i != L)=true:=by kernel_rfl) (hS:S w:=by assumption)
  (hQ:∀c a w,Q (.panic c) (a.put oi.dst v) w→Q (.panic c) a w:=by exact fun _ _ _ h=>h):wpL P .any ops Q S L (fuel+1) listed a w:=
 tk i d hi ha h he hg hb hw hS hQ
theorem t1 (i:Nat) {o:Oper} (ho:ops[i]?=some o) (h:∀K':Act→World→Prop,Shut (∀a w,(i≠L→S w)→((i≠L→S w)→wpL P .any ops Q S L fuel (listed.setIfInBounds i true) a w)→K' a w)→if Region.wanted o (yielded ops a.tmps)=true then Oper.wp P o a w K' Q else K' (a.put o.dst undef) w)
  (hr:Region.ready .any ops listed=[i]:=by kernel_rfl):wpL P .any ops Q S L (fuel+1) listed a w:=wpL_one hr ho h
theorem wd {listed:Array Bool} {a:Act} {w:World} (h:Q .normal a w) (hr:Region.ready .any ops listed=[]:=by kernel_rfl) {fuel:Nat}:wpL P .any ops Q S L fuel listed a w:=wpL_done hr h fuel
end
end
section
open Go.RowKit Rw
def BytesC (w:World) (v:Value) (bs:List Int):Prop:=
 ∃ao cap,v=.slice ao bs.length cap∧(ao=none→bs=[]∧cap=0)∧∀i (h:i<bs.length),∃g off,ao=some ⟨g,off,none⟩∧g<w.heap.size∧w.cell? ⟨g,off+i,none⟩=some (.int .u8 bs[i])
def BytesT (w:World) (v:Value) (bs:List Int):Prop:=
 ∃ao cap,v=.slice ao bs.length cap∧(ao=none→bs=[]∧cap=0)∧∀i (h:i<bs.length),∃g off cs fr,ao=some ⟨g,off,none⟩∧w.heap[g]?=some (Obj.cells cs 5 fr)∧cs[off+i]?=some (.int .u8 bs[i])
def KeepB (w w':World):Prop:=∀(g:Nat) (cs:Array Value) (fr:Nat×Nat),w.heap[g]?=some (Obj.cells cs 5 fr)→w'.heap[g]?=w.heap[g]?
theorem KeepB.of_below {w w':World} (h:Below w.heap.size w w'):KeepB w w':=fun g cs fr hg=>h.block g (gsi.1 hg).1
theorem BytesT.toC {w:World} {v:Value} {bs:List Int} (h:BytesT w v bs):BytesC w v bs:=by
 obtain⟨ao,cap,rfl,h0,h⟩:=h
 refine⟨ao,cap,rfl,h0,fun i hi=>?_⟩
 obtain⟨g,off,cs,fr,h1,h2,h3⟩:=h i hi
 exact⟨g,off,h1,(gsi.1 h2).1,by simp[World.cell?,h2,h3]⟩
theorem BytesT.keep {w w':World} {v:Value} {bs:List Int} (h:BytesT w v bs) (k:KeepB w w'):BytesT w' v bs:=by
 obtain⟨ao,cap,rfl,h0,h⟩:=h
 refine⟨ao,cap,rfl,h0,fun i hi=>?_⟩
 obtain⟨g,off,cs,fr,h1,h2,h3⟩:=h i hi
 exact⟨g,off,cs,fr,h1,(k g cs fr h2).trans h2,h3⟩
theorem BytesT.below {w w':World} {v:Value} {bs:List Int} (h:BytesT w v bs) (hb:Below w.heap.size w w'):BytesT w' v bs:=h.keep (KeepB.of_below hb)
theorem BytesC.below {w w':World} {v:Value} {bs:List Int} (h:BytesC w v bs) (hb:Below w.heap.size w w'):BytesC w' v bs:=by
 obtain⟨ao,cap,rfl,h0,h⟩:=h
 refine⟨ao,cap,rfl,h0,fun i hi=>?_⟩
 obtain⟨g,off,h1,h2,h3⟩:=h i hi
 exact⟨g,off,h1,Nat.lt_of_lt_of_le h2 hb.size,(hb.cell (p:=⟨g,off+i,none⟩) h2).trans h3⟩
namespace Pl
def u8s (bs:List Int):List Value:=bs.map (fun b=>Value.int .u8 b)
end Pl
theorem bytes_of {w:World} {base:Nat} {v:Value} {bs:List Int} (h:w.ownsRow base 5 1 v bs.length (Pl.u8s bs)):BytesT w v bs:=by
 rcases h.2 with⟨rfl,h0⟩ | ⟨g,cap,cur,rfl,hb,hg,_,_,_,ht⟩
 ·have:bs=[]:=List.eq_nil_of_length_eq_zero h0
  subst this
  exact⟨none,0,rfl,fun _=>⟨rfl,rfl⟩,fun i hi=>absurd hi (by simp)⟩
 ·refine⟨_,cap,rfl,(fun e=>by cases e),fun i hi=>⟨g,0,cur,(0,0),rfl,hg,?_⟩⟩
  have h2:(Pl.u8s bs)[i]?=cur.toList[i]?:=by rw[←ht,List.getElem?_take,if_pos (by omega)]
  rw[Nat.zero_add,←Array.getElem?_toList,←h2]
  unfold Pl.u8s;rw[List.getElem?_map,List.getElem?_eq_getElem hi];rfl
theorem info5:(prog.info? 5).map (fun i=>(i.zero,i.size,i.bytes))=some (some (.int .u8 0),1,1):=by kernel_rfl
theorem xL {P:Program} (w:World) {ops:Array Oper} {rest:List Oper} {o:Oper} {a:Act} {Q:Exit→Act→World→Prop} (hgd:o.guard=none) (s x:Operand) (t:TypeId)
  (ho:o.op=.call {callee:=.builtin .append,args:=#[s,x],argTypes:=#[t,t]})
  (base:Nat) (e:TypeId) (i:TypeInfo) (z:Value) (size bytes:Nat) (ht:P.underlying t=some (.slice e)) (hi:P.info? e=some i) (hz:i.zero=some z)
  (hsize:i.size=size) (hby:i.bytes=bytes) (hzs:z.cells.size=size) (hsz:0<size)
  (v:Value) (n:Nat) (xs:List Value) (hs:a.eval s=v) (qC:w.ownsRow base e size v n xs)
  (ao:Option Addr) (m c:Nat) (news:List Value) (hx:a.eval x=.slice ao m c) (hl:news.length=m*size) (hnone:ao=none→m=0∧c=0)
  (hnews:∀ad,ao=some ad→∀j u,news[j]?=some u→w.cell? (ad.add j)=some u) (h1:∀u∈news,u.oneCell'=true)
  (h63:n+m≤maxLen) (hbytes:(n+m)*bytes≤140737488355328) (qJ:base≤w.heap.size)
  (h:∀v' w',w'.ownsRow base e size v' (n+m) (xs++news)→w.grownBy w' v.ownBlock→wpList P ops Q rest (a.put o.dst v') w'):wpList P ops Q (o::rest) a w:=by
 cases ao with
 | some ad=>exact wpList_append_own w hgd s x t ho base e i z size bytes ht hi hz hsize hby hzs hsz v n xs hs qC ad m c news hx hl (hnews ad rfl) h1 h63 hbytes qJ (fun v' w' h2 h3 _=>h v' w' h2 h3)
 | none=>
  obtain⟨rfl,rfl⟩:=hnone rfl
  have hnews':news=[]:=List.eq_nil_of_length_eq_zero (by simpa using hl)
  subst hnews'
  refine wpList_plain hgd fun K hK'=>?_
  have qH:=run_append_owned_none (P:=P) w base t o.type e i size ht hi v n xs qC
  unfold Oper.wp
  simp[execOp,ho,resolve,invoke,builtin,hs,hx,qH,Result.andThen]
  exact hK' _ _ (h v w (by simpa using qC) ⟨rfl,rfl,rfl,Nat.le_refl _,fun _ _ _=>rfl⟩)
theorem zK {w:World} {base T size n:Nat} {v:Value} {xs:List Value} {g:Nat} (h:w.ownsRow base T size v n xs) (hg:v.ownBlock=some g):∃cs,w.heap[g]?=some (Obj.cells cs T (0,0)):=by
 rcases h.2 with⟨rfl,_⟩ | ⟨g',cap,cur,rfl,_,hh,_⟩
 ·cases hg
 ·cases hg;exact⟨cur,hh⟩
theorem xG {w w':World} {b T size n:Nat} {v:Value} {xs:List Value} (h:w.ownsRow b T size v n xs) (hb:∀g,v.ownBlock=some g→w'.heap[g]?=w.heap[g]?):w'.ownsRow b T size v n xs:=
 ⟨h.1,h.2.imp id (fun ⟨g,cap,cur,e,h1,h2,rest⟩=>⟨g,cap,cur,e,h1,(hb g (by rw[e];rfl)).trans h2,rest⟩)⟩
def OwnB (base:Nat) (w:World) (v:Value) (bs:List Int):Prop:=w.ownsRow base 5 1 v bs.length (Pl.u8s bs)
theorem OwnB.toT {base:Nat} {w:World} {v:Value} {bs:List Int} (h:OwnB base w v bs):BytesT w v bs:=bytes_of h
theorem OwnB.keep {base:Nat} {w w':World} {v:Value} {bs:List Int} (h:OwnB base w v bs) (k:KeepB w w'):OwnB base w' v bs:=xG h (fun g hg=>by
 obtain⟨cs,hc⟩:=zK h hg
 exact k g cs (0,0) hc)
theorem OwnB.below {base:Nat} {w w':World} {v:Value} {bs:List Int} (h:OwnB base w v bs) (hb:Below w.heap.size w w'):OwnB base w' v bs:=h.keep (KeepB.of_below hb)
theorem OwnB.mono {base c:Nat} {w:World} {v:Value} {bs:List Int} (h:OwnB base w v bs) (hb:c≤base):OwnB c w v bs:=
 ⟨h.1,h.2.imp id (fun ⟨g,cap,cur,e,h1,rest⟩=>⟨g,cap,cur,e,Nat.le_trans hb h1,rest⟩)⟩
theorem xO (base:Nat) (w:World):OwnB base w (.slice none 0 0) []:=⟨rfl,.inl ⟨rfl,rfl⟩⟩
theorem u8s_one (bs:List Int):∀u∈Pl.u8s bs,u.oneCell'=true:=fun u hu=>by
 unfold Pl.u8s at hu
 obtain⟨b,_,rfl⟩:=List.mem_map.1 hu
 rfl
theorem u8s_len (bs:List Int):(Pl.u8s bs).length=bs.length*1:=by unfold Pl.u8s;simp
theorem BytesC.news {w:World} {ao:Option Addr} {cap:Nat} {bs:List Int} (h:BytesC w (.slice ao bs.length cap) bs):∀ad,ao=some ad→∀j u,(Pl.u8s bs)[j]?=some u→w.cell? (ad.add j)=some u:=fun ad had j u hj=>by
 obtain⟨ao',cap',hv,_,hcb⟩:=h
 cases hv
 unfold Pl.u8s at hj
 rw[List.getElem?_map]at hj
 have hjl:j<bs.length:=by
  rcases Nat.lt_or_ge j bs.length with h' | h'
  ·exact h'
  ·rw[List.getElem?_eq_none h']at hj;cases hj
 rw[List.getElem?_eq_getElem hjl]at hj
 obtain⟨g,off,h1,h2,h3⟩:=hcb j hjl
 rw[had]at h1
 cases h1
 rw[Go.WideShapes.add_plain]
 cases hj
 exact h3
theorem BytesC.none {w:World} {ao:Option Addr} {cap:Nat} {bs:List Int} (h:BytesC w (.slice ao bs.length cap) bs):ao=none→bs.length=0∧cap=0:=fun ha=>by
 exact mI
theorem own_empty (w:World):(w.alloc (.cells #[] 5)).ownsRow w.heap.size 5 1 (.slice (some ⟨w.heap.size,0,none⟩) 0 0) 0 []:=
 ⟨rfl,.inr ⟨w.heap.size,0,#[],rfl,Nat.le_refl _,heap_alloc_new w _,Nat.le_refl _,by decide,rfl,rfl⟩⟩
theorem bytes_nil (w:World):BytesT w (.slice none 0 0) []:=⟨none,0,rfl,fun _=>⟨rfl,rfl⟩,fun i hi=>absurd hi (by simp)⟩
theorem xJ (w:World) (b:Int):BytesC (w.alloc (.cells #[.int .u8 b] 5)) (.slice (some ⟨w.heap.size,0,none⟩) 1 1) [b]:=by
 refine⟨_,1,rfl,(fun e=>by cases e),fun i hi=>⟨w.heap.size,0,rfl,by simp,?_⟩⟩
 have:i=0:=by simp at hi;omega
 subst this
 rw[World.cell?_alloc_at _ _ _ _ rfl];rfl
theorem ownsRow_base {w:World} {b c T size n:Nat} {v:Value} {xs:List Value} (h:w.ownsRow b T size v n xs) (hc:c≤b):w.ownsRow c T size v n xs:=
 ⟨h.1,h.2.imp id (fun ⟨g,cap,cur,e,h1,rest⟩=>⟨g,cap,cur,e,Nat.le_trans hc h1,rest⟩)⟩
theorem zE {w:World} {g:Nat} {t:TypeId} {cs:Array Value} {fr:Nat×Nat} (h:w.heap[g]?=some (.cells cs t fr)) {j:Nat} {u:Value} (hu:cs[j]?=some u):w.cell? ⟨g,j,none⟩=some u:=by
 simp only[World.cell?,h];simpa using hu
theorem zB {w:World} {g:Nat} {t:TypeId} {cs:Array Value} (h:w.heap[g]?=some (.cells cs t (0,0))) (j:Nat):w.frozen? ⟨g,j,none⟩=false:=by
 simp[World.frozen?,h]
theorem zF {w:World} {g j:Nat} {t:TypeId} {cs:Array Value} {fr:Nat×Nat} (h:w.heap[g]?=some (.cells cs t fr)) (u:Value):(w.setCell ⟨g,j,none⟩ u).heap[g]?=some (.cells (cs.setIfInBounds j u) t fr):=by
 have hlt:=(gsi.1 h).1
 have hg:=(gsi.1 h).2
 simp[World.setCell,hlt,hg,Array.getElem_modify]
theorem tF {P:Program} {w:World} {ops:Array Oper} {o:Oper} {a:Act} {K:Act→World→Prop} {Q:Exit→Act→World→Prop} {E:Prop} (hgd:o.guard=none) (s x:Operand) (t:TypeId)
  (ho:o.op=.call {callee:=.builtin .append,args:=#[s,x],argTypes:=#[t,t]})
  (base:Nat) (e:TypeId) (i:TypeInfo) (z:Value) (size bytes:Nat) (ht:P.underlying t=some (.slice e)) (hi:P.info? e=some i) (hz:i.zero=some z)
  (hsize:i.size=size) (hby:i.bytes=bytes) (hzs:z.cells.size=size) (hsz:0<size)
  (v:Value) (n:Nat) (xs:List Value) (hs:a.eval s=v) (qC:w.ownsRow base e size v n xs)
  (ao:Option Addr) (m c:Nat) (news:List Value) (hx:a.eval x=.slice ao m c) (hl:news.length=m*size) (hnone:ao=none→m=0∧c=0)
  (hnews:∀ad,ao=some ad→∀j u,news[j]?=some u→w.cell? (ad.add j)=some u) (h1:∀u∈news,u.oneCell'=true)
  (h63:n+m≤maxLen) (hbytes:(n+m)*bytes≤140737488355328) (qJ:base≤w.heap.size)
  (h:∀v' w',w'.ownsRow base e size v' (n+m) (xs++news)→w.grownBy w' v.ownBlock→K (a.put o.dst v') w') :
  if Region.wanted o (yielded ops a.tmps)=true then Oper.wp P o a w K Q else E:=by
 have hw:Region.wanted o (yielded ops a.tmps)=true:=by simp[Region.wanted,hgd]
 rw[if_pos hw]
 cases ao with
 | some ad=>exact wp_append_own w s x t ho base e i z size bytes ht hi hz hsize hby hzs hsz v n xs hs qC ad m c news hx hl (hnews ad rfl) h1 h63 hbytes qJ (fun v' w' h2 h3 _=>h v' w' h2 h3)
 | none=>
  obtain⟨rfl,rfl⟩:=hnone rfl
  have hnews':news=[]:=List.eq_nil_of_length_eq_zero (by simpa using hl)
  subst hnews'
  have qH:=run_append_owned_none (P:=P) w base t o.type e i size ht hi v n xs qC
  unfold Oper.wp
  simp[execOp,ho,resolve,invoke,builtin,hs,hx,qH,Result.andThen]
  exact h v w (by simpa using qC) ⟨rfl,rfl,rfl,Nat.le_refl _,fun _ _ _=>rfl⟩
theorem BytesC.form {w:World} {v:Value} {bs:List Int} (h:BytesC w v bs):∃ao cap,v=.slice ao bs.length cap:=by obtain⟨ao,cap,e,_⟩:=h;exact⟨ao,cap,e⟩
theorem OwnB.form {b:Nat} {w:World} {v:Value} {bs:List Int} (h:OwnB b w v bs):∃ao cap,v=.slice ao bs.length cap:=h.toT.toC.form
theorem xF {w w0:World} {ops:Array Oper} {rest:List Oper} {o:Oper} {a:Act} {Q:Exit→Act→World→Prop} {base:Nat} {v x:Value} {bs ys:List Int} (hgd:o.guard=none) (sl xl:Operand)
  (ho:o.op=.call {callee:=.builtin .append,args:=#[sl,xl],argTypes:=#[55,55]}) (hs:a.eval sl=v) (qC:OwnB base w v bs) (hx:a.eval xl=x) (hc:BytesC w x ys)
  (hl:bs.length+ys.length≤140737488355328) (hb:Below base w0 w) (qJ:base≤w.heap.size)
  (h:∀v' w',OwnB base w' v' (bs++ys)→Below base w0 w'→w.grownBy w' v.ownBlock→wpList prog ops Q rest (a.put o.dst v') w'):wpList prog ops Q (o::rest) a w:=by
 obtain⟨i5,hi5,z0,z1,z2⟩:=info_parts info5
 obtain⟨ao,cap,rfl⟩:=hc.form
 refine xL w hgd sl xl 55 ho base 5 i5 (.int .u8 0) 1 1 underlying55 hi5 z0 z1 z2 rfl lF v bs.length (Pl.u8s bs) hs qC ao ys.length cap (Pl.u8s ys) hx (u8s_len ys) hc.none hc.news (u8s_one ys) (by unfold maxLen;omega) lD qJ (fun v' w' h1 h2=>?_)
 refine h v' w' ?_ (hb.grown h2 qJ (fun k hk=>(qC.lt k hk).1)) h2
 unfold OwnB;rw[List.length_append]
 have:Pl.u8s (bs++ys)=Pl.u8s bs++Pl.u8s ys:=by unfold Pl.u8s;rw[List.map_append]
 rw[this];exact h1
theorem clone_nil (w:World):Calls prog 140 #[.slice none 0 0] w fun e w'=>e=.returned (.slice none 0 0)∧w=w':=by
 have qU:∀w,(binOp BinOp.eql 55 (.slice none 0 0) (.slice none 0 0)).run prog w=.ok (.bool true) w:=fun _=>by kernel_rfl
 go_enter func140,ntmps140
 go_wp2
 go_ret
 exact⟨rfl,rfl⟩
theorem xI (v:Value) (bs:List Int) (w:World) (h:BytesC w v bs) (hn:bs.length≤140737488355328) :
  Calls prog 140 #[v] w fun e w'=>∃v',e=.returned v'∧OwnB w.heap.size w' v' bs∧Below w.heap.size w w':=by
 obtain⟨ao,cap,hv,h0,_⟩:=id h
 cases ao with
 | none=>
  obtain⟨rfl,rfl⟩:=h0 rfl
  subst hv
  refine(clone_nil w).mono ?_
  rintro e w' ⟨rfl,rfl⟩
  exact⟨_,rfl,xO _ _,Below.refl _ _⟩
 | some ad=>
  have b1:Below w.heap.size w (w.alloc (.cells #[] 5)):=(Below.refl _ _).alloc (Nat.le_refl _) _
  have qU:∀w,(binOp BinOp.eql 55 (.slice (some ad) bs.length cap) (.slice none 0 0)).run prog w=.ok (.bool false) w:=fun _=>by kernel_rfl
  have HC:=zA (h.below b1)
  have HO:Hid (OwnB w.heap.size (w.alloc (.cells #[] 5)) (.slice (some ⟨w.heap.size,0,none⟩) 0 0) []):=zA (own_empty w)
  have HB:=zA b1
  subst hv
  clear h b1 h0
  go_enter func140,ntmps140
  go_wp2_with (at_builtin;refine xF rfl (.tmp 5) (.tmp 6) rfl rfl HO.out rfl HC.out (by simpa using hn) HB.out (by simp) ?_;intro v1 w1 hown1 hb1 hg1)
  go_ret
  exact⟨v1,rfl,hown1,hb1⟩
theorem cc (j:Nat) {w:World} {g:Nat} {t:TypeId} {cs:Array Value} {fr:Nat×Nat} (h:w.heap[g]?=some (.cells cs t fr)) {u:Value} (hu:cs[j]?=some u:=by rfl):w.cell? ⟨g,j,none⟩=some u:=zE h hu
end
end Go.Proofs.YtodlmbfbfaofcaaGreat
