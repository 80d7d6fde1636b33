/- TopPolicies, part 12. -/
import Derived.Test.YtodlmbfbfaofcaaGreatM01
import Derived.Test.YtodlmbfbfaofcaaGreatM02
import Derived.Test.YtodlmbfbfaofcaaGreatM04
import Derived.Test.YtodlmbfbfaofcaaGreatM08
import Derived.Test.YtodlmbfbfaofcaaGreatM11
open Go.Proofs.Tryz
namespace Go.Proofs.YtodlmbfbfaofcaaGreat
set_option linter.unusedVariables false
set_option linter.unusedSimpArgs false
set_option maxRecDepth 100000
set_option maxHeartbeats 2000000
section
open Go.RowKit Rw Rh
section
variable {P:Program} {ops:Array Oper} {Q:Exit→Act→World→Prop} {md:Region.Mode}
def putAll:List Oper→Nat→(Nat→Value)→Act→Act
 | [],_,_,a=>a
 | o::l,k,x,a=>putAll l (k+1) x (a.put o.dst (x k))
def upd (x:Nat→Value) (i:Nat) (v:Value):Nat→Value:=fun j=>if j=i then v else x j
theorem put_put (a:Act) (d:Option Tmp) (v u:Value):(a.put d v).put d u=a.put d u:=by
 cases d with
 | none=>rfl
 | some d=>simp[Act.put]
theorem put_same (a:Act) (d:Tmp):a.put (some d) (a.tmps.getD d undef)=a:=by
 cases a with
 | mk t ds=>
  simp only[Act.put,Act.mk.injEq,and_true]
  apply Array.ext_getElem?
  intro i
  rw[Array.getElem?_setIfInBounds]
  split
  ·rename_i e
   subst e
   split
   ·rename_i h;simp[h]
   ·rename_i h;rw[Array.getElem?_eq_none (by omega)]
  ·rfl
theorem tW (d:Option Tmp) (v:Value):∀(l:List Oper) (k:Nat) (x:Nat→Value) (a:Act),(∀o∈l,∀e,d=some e→o.dst≠some e)→(putAll l k x a).put d v=putAll l k x (a.put d v)
 | [],_,_,_,_=>rfl
 | o::l,k,x,a,h=>by
  unfold putAll
  rw[tW d v l (k+1) x _ (fun o' ho'=>h o' (by simp[ho'])),Act.put_comm a (x k) v (fun e he hd=>h o (by simp) e hd he)]
theorem uE:∀(l:List Oper) (k:Nat) (x y:Nat→Value) (a:Act),(∀j,k≤j→x j=y j)→putAll l k x a=putAll l k y a
 | [],_,_,_,_,_=>rfl
 | o::l,k,x,y,a,h=>by
  unfold putAll
  rw[h k (Nat.le_refl _),uE l (k+1) x y _ (fun j hj=>h j (by omega))]
def distinctB:List Oper→Bool
 | []=>true
 | o::l=>l.all (fun o'=>o.dst == none||o.dst != o'.dst)&&distinctB l
theorem vM {o:Oper} {l:List Oper} (h:distinctB (o::l)=true):(∀o'∈l,∀e,o.dst=some e→o'.dst≠some e)∧distinctB l=true:=by
 unfold distinctB at h
 rw[Bool.and_eq_true,List.all_eq_true]at h
 refine⟨fun o' ho' e he he'=>?_,h.2⟩
 have:=h.1 o' ho'
 rw[he,he']at this
 simp at this
theorem tV:∀(l:List Oper) (k i:Nat) (x:Nat→Value) (a:Act) (o:Oper) (v:Value),l[i]?=some o→distinctB l=true→(putAll l k x a).put o.dst v=putAll l k (upd x (k+i) v) a
 | [],_,_,_,_,_,_,h,_=>by simp at h
 | o0::l,k,0,x,a,o,v,h,hd=>by
  simp at h
  subst h
  unfold putAll
  rw[tW _ _ _ _ _ _ (vM hd).1,put_put]
  have e:upd x (k+0) v k=v:=by simp[upd]
  rw[e]
  exact uE _ _ _ _ _ (fun j hj=>by unfold upd;rw[if_neg (by omega)])
 | o0::l,k,i+1,x,a,o,v,h,hd=>by
  unfold putAll
  rw[tV l (k+1) i x _ o v (by simpa using h) (vM hd).2]
  have e:upd x (k+(i+1)) v k=x k:=by unfold upd;rw[if_neg (by omega)]
  rw[e,show k+1+i=k+(i+1)from by omega]
theorem uD:∀(l:List Oper) (k:Nat) (x:Nat→Value) (a:Act),(∀i o d,l[i]?=some o→o.dst=some d→x (k+i)=a.tmps.getD d undef)→putAll l k x a=a
 | [],_,_,_,_=>rfl
 | o::l,k,x,a,h=>by
  unfold putAll
  have e:a.put o.dst (x k)=a:=by
   cases hd:o.dst with
   | none=>rfl
   | some d=>
    have:=h 0 o d rfl hd
    rw[Nat.add_zero]at this
    rw[this];exact put_same a d
  rw[e]
  exact uD l (k+1) x a (fun i o' d ho hd=>by rw[show k+1+i=k+(i+1)from by omega];exact h (i+1) o' d (by simpa using ho) hd)
def start (ops:Array Oper) (a:Act):Nat→Value:=fun i=>match ops[i]? with
 | some o=>(match o.dst with
  | some d=>a.tmps.getD d undef
  | none=>undef)
 | none=>undef
theorem putAll_init (a:Act):putAll ops.toList 0 (start ops a) a=a:=
 uD _ _ _ _ (fun i o d ho hd=>by
  rw[Nat.zero_add]
  unfold start
  rw[Array.getElem?_toList]at ho
  rw[ho]
  simp only[hd])
def acyB (ops:Array Oper):Bool:=(List.range ops.size).all fun i=>match ops[i]? with
 | some o=>o.after.toList.all (fun e=>decide (e.on<i))
 | none=>true
theorem acy_spec (h:acyB ops=true) {i:Nat} {o:Oper} (ho:ops[i]?=some o):∀e∈o.after,e.on<i:=fun e he=>by
 unfold acyB at h
 rw[List.all_eq_true]at h
 have:=h i (List.mem_range.2 (gsi.1 ho).1)
 rw[ho]at this
 simp only[List.all_eq_true,decide_eq_true_eq]at this
 exact this e (by simpa using he)
theorem ready_some (hac:acyB ops=true) {listed:Array Bool} (hs:listed.size=ops.size):∀i,i<ops.size→listed.getD i true=false→Region.ready md ops listed≠[]:=by
 intro i
 induction i using Nat.strongRecOn with
 | _ i ih=>
  intro hi hu
  obtain⟨o,ho⟩:∃o,ops[i]?=some o:=⟨ops[i],Array.getElem?_eq_getElem hi⟩
  by_cases qF:∀e∈o.after,Region.binds md e=true→listed.getD e.on false=true
  ·intro e
   have:i∈Region.ready md ops listed:=mem_ready.2 ⟨hu,o,ho,qF⟩
   rw[e]at this;cases this
  ·simp only[Classical.not_forall]at qF
   obtain⟨e,he,hb,hl⟩:=qF
   have hlt:=acy_spec hac ho e he
   refine ih e.on hlt lD ?_
   have:e.on<listed.size:=by omega
   simp[this]at hl ⊢
   simpa using hl
def unl (n:Nat) (listed:Array Bool):List Nat:=(List.range n).filter (fun i=> !listed.getD i true)
theorem unl_set {n i:Nat} {listed:Array Bool} (hs:listed.size=n) (hu:listed.getD i true=false):(unl n (listed.setIfInBounds i true)).length<(unl n listed).length:=by
 have hi:i<n:=by
  exact lA
 have e:unl n (listed.setIfInBounds i true)=(unl n listed).filter (fun j=>j != i):=by
  unfold unl
  rw[List.filter_filter]
  apply List.filter_congr
  intro j _
  by_cases hj:j=i
  ·subst hj
   simp[show j<listed.size by omega]
  ·rw[getD_set_ne true (Ne.symm hj)]
   simp[hj]
 rw[e]
 refine List.length_filter_lt_length_iff_exists.2 ⟨i,?_,by simp⟩
 unfold unl
 rw[List.mem_filter]
 exact⟨List.mem_range.2 hi,by rw[hu];rfl⟩
structure Stand (n:Nat) (V:Nat→Value→World→Prop) (sp:Nat→Option Nat) (C:World→Prop) (listed:Array Bool) (x:Nat→Value) (w:World):Prop where
 c:C w
 v:∀j,(listed.getD j false=true∨n≤j)→(∀i,sp j=some i→listed.getD i true=false)→V j (x j) w
def depB (md:Region.Mode) (o:Oper) (j:Nat):Bool:=o.after.toList.any fun e=>Region.binds md e&&e.on == j
def Owes (P:Program) (ops:Array Oper) (Q:Exit→Act→World→Prop) (md:Region.Mode) (V:Nat→Value→World→Prop) (sp:Nat→Option Nat) (C:World→Prop) (a:Act) (i:Nat):Prop:=
 ∀(x:Nat→Value) (W:World) (o:Oper),ops[i]?=some o→C W→(∀j,(depB md o j=true∨ops.size≤j)→(sp j=none∨sp j=some i)→V j (x j) W)→
  ∀K:Act→World→Prop,Shut (∀v W',V i v W'→C W'→(∀j u,j≠i→sp j≠some i→V j u W→V j u W')→K ((putAll ops.toList 0 x a).put o.dst v) W')→
   if Region.wanted o (yielded ops (putAll ops.toList 0 x a).tmps)=true then Oper.wp P o (putAll ops.toList 0 x a) W K Q else K ((putAll ops.toList 0 x a).put o.dst undef) W
def OwesLast (P:Program) (ops:Array Oper) (Q:Exit→Act→World→Prop) (V:Nat→Value→World→Prop) (sp:Nat→Option Nat) (C:World→Prop) (a:Act) (L:Nat):Prop:=
 ∀(x:Nat→Value) (W:World) (o:Oper),ops[L]?=some o→C W→(∀j,j≠L→(sp j=none∨sp j=some L)→V j (x j) W)→
  ∀K:Act→World→Prop,Shut (∀a' W',Q .normal a' W'→K a' W')→
   if Region.wanted o (yielded ops (putAll ops.toList 0 x a).tmps)=true then Oper.wp P o (putAll ops.toList 0 x a) W K Q else K ((putAll ops.toList 0 x a).put o.dst undef) W
def waitsAllB (md:Region.Mode) (ops:Array Oper) (L:Nat):Bool:=(List.range ops.size).all (fun j=>j == L||match ops[L]? with
 | some o=>o.after.toList.any fun e=>Region.binds md e&&e.on == j
 | none=>false)
theorem stand_deps {V:Nat→Value→World→Prop} {sp:Nat→Option Nat} {C:World→Prop} {listed:Array Bool} {x:Nat→Value} {w:World} (h:Stand ops.size V sp C listed x w) {i:Nat} {o:Oper} (ho:ops[i]?=some o) (hi:i∈Region.ready md ops listed) :
  ∀j,(depB md o j=true∨ops.size≤j)→(sp j=none∨sp j=some i)→V j (x j) w:=by
 obtain⟨hu,o',ho',qF⟩:=mem_ready.1 hi
 rw[ho]at ho'
 cases ho'
 intro j hj hs
 refine h.v j (hj.imp (fun hj=>by
  unfold depB at hj
  rw[List.any_eq_true]at hj
  obtain⟨e,he,hb⟩:=hj
  rw[Bool.and_eq_true,beq_iff_eq]at hb
  rw[←hb.2];exact qF e (by simpa using he) hb.1) id) (fun i' hi'=>?_)
 rcases hs with hs | hs
 ·rw[hs]at hi';cases hi'
 ·rw[hs]at hi';cases hi';exact hu
theorem stand_step {V:Nat→Value→World→Prop} {sp:Nat→Option Nat} {C:World→Prop} {listed:Array Bool} {x:Nat→Value} {w w':World} {n i:Nat} {v:Value} (hsz:listed.size=n) (h:Stand n V sp C listed x w) (hu:listed.getD i true=false) (hv:V i v w') (hc:C w') (hst:∀j u,j≠i→sp j≠some i→V j u w→V j u w'):Stand n V sp C (listed.setIfInBounds i true) (upd x i v) w':=by
 have hin:i<n:=by
  exact lA
 refine⟨hc,fun j hj hsp=>?_⟩
 by_cases e:j=i
 ·subst e;unfold upd;rw[if_pos rfl];exact hv
 ·unfold upd;rw[if_neg e]
  refine hst j _ e (fun hs=>?_) (h.v j (hj.imp (fun hj=>by rw[getD_set_ne false (Ne.symm e)]at hj;exact hj) id) (fun i' hi'=>?_))
  ·have:=hsp i hs
   simp[show i<listed.size by omega]at this
  ·by_cases e':i'=i
   ·subst e';exact hu
   ·have:=hsp i' hi';rw[getD_set_ne true (Ne.symm e')]at this;exact this
theorem wpAny_relL {V:Nat→Value→World→Prop} {sp:Nat→Option Nat} {C:World→Prop} {a:Act} (L:Nat) (hd:distinctB ops.toList=true) (hac:acyB ops=true) (hw:waitsAllB md ops L=true) (hL:L<ops.size)
  (hop:∀i,i<ops.size→i≠L→Owes P ops Q md V sp C a i) (hlast:OwesLast P ops Q V sp C a L) :
  ∀(fuel:Nat) (listed:Array Bool) (x:Nat→Value) (w:World),listed.size=ops.size→listed.getD L true=false→(unl ops.size listed).length≤fuel→Stand ops.size V sp C listed x w→wpAny P md ops Q fuel listed (putAll ops.toList 0 x a) w:=by
 intro fuel
 induction fuel with
 | zero=>
  intro listed x w hs hLu hl h
  have:L∈unl ops.size listed:=by unfold unl;rw[List.mem_filter];exact⟨List.mem_range.2 hL,by rw[hLu];rfl⟩
  have:=List.length_pos_of_mem this
  omega
 | succ fuel ih=>
  intro listed x w hs hLu hl h
  refine⟨fun hr=>absurd hr (ready_some hac hs L hL hLu),fun i hi=>?_⟩
  obtain⟨hu,o,ho,qF⟩:=mem_ready.1 hi
  by_cases hiL:i=L
  ·subst hiL
   have hothers:∀j,j<ops.size→j≠i→listed.getD j false=true:=fun j hj hne=>by
    unfold waitsAllB at hw
    rw[List.all_eq_true]at hw
    have:=hw j (List.mem_range.2 hj)
    rw[ho]at this
    simp only[Bool.or_eq_true,beq_iff_eq,hne,false_or,List.any_eq_true,Bool.and_eq_true]at this
    obtain⟨e,he,hb,hon⟩:=this
    rw[←hon]
    exact qF e (by simpa using he) hb
   refine wpOp_step ho (fun K' hK=>hlast x w o ho h.c (fun j hj hsj=>h.v j ?_ (fun i' hi'=>?_)) K' (fun a' W' hq=>hK _ _ ?_))
   ·rcases Nat.lt_or_ge j ops.size with hlt | hge
    ·exact .inl (hothers j hlt hj)
    ·exact .inr hge
   ·rcases hsj with hsj | hsj
    ·rw[hsj]at hi';cases hi'
    ·rw[hsj]at hi';cases hi';exact hu
   ·have hempty:Region.ready md ops (listed.setIfInBounds i true)=[]:=by
     cases hr:Region.ready md ops (listed.setIfInBounds i true)with
     | nil=>rfl
     | cons k l=>
      have hk:k∈Region.ready md ops (listed.setIfInBounds i true):=by rw[hr];simp
      obtain⟨hku,ok,hok,_⟩:=mem_ready.1 hk
      have hks:=(gsi.1 hok).1
      by_cases e:k=i
      ·subst e;simp[show k<listed.size by omega]at hku
      ·rw[getD_set_ne true (Ne.symm e)]at hku
       have:=hothers k hks e
       simp[show k<listed.size by omega]at hku this
       rw[hku]at this;cases this
    cases fuel with
    | zero=>exact⟨hempty,hq⟩
    | succ f=>exact⟨fun _=>hq,by rw[hempty];simp⟩
  ·refine wpOp_step ho (fun K' hK=>hop i (gsi.1 ho).1 hiL x w o ho h.c (stand_deps h ho hi) K' (fun v W' hv hc hst=>hK _ _ ?_))
   rw[tV ops.toList 0 i x a o v (by rw[Array.getElem?_toList];exact ho) hd,Nat.zero_add]
   have:=unl_set (n:=ops.size) hs hu
   exact ih _ _ _ (by simpa using hs) (by rw[getD_set_ne true hiL];exact hLu) lD (stand_step hs h hu hv hc hst)
theorem unl_start (n:Nat):(unl n (Array.replicate n false)).length≤n:=by
 unfold unl
 exact Nat.le_trans (List.length_filter_le _ _) (by simp)
theorem stand_start {V:Nat→Value→World→Prop} {sp:Nat→Option Nat} {C:World→Prop} {n:Nat} {x:Nat→Value} {w:World} (hc:C w) (hV:∀j,n≤j→∀v,V j v w):Stand n V sp C (Array.replicate n false) x w:=
 ⟨hc,fun j hj _=>by
  rcases hj with hj | hj
  ·exfalso
   rcases Nat.lt_or_ge j n with h | h
   ·simp[h]at hj
   ·simp[Array.getElem?_eq_none (show(Array.replicate n false).size≤j by simpa using h)]at hj
  ·exact hV j hj _⟩
def vget (l:List (Value→World→Prop)) (j:Nat):Value→World→Prop:=l.getD j (fun _ _=>True)
theorem vget_ge {l:List (Value→World→Prop)} {n:Nat} (h:l.length=n) (w:World):∀j,n≤j→∀v,vget l j v w:=fun j hj v=>by
 unfold vget
 simp[List.getD,List.getElem?_eq_none (show l.length≤j by omega)]
def StableB (l:List (Value→World→Prop)):Prop:=∀j v W W',Below W.heap.size W W'→vget l j v W→vget l j v W'
theorem stable_nil:StableB []:=fun j v W W' _ _=>by unfold vget;simp
theorem yR {p:Value→World→Prop} {l:List (Value→World→Prop)} (h:∀v W W',Below W.heap.size W W'→p v W→p v W') (k:StableB l):StableB (p::l):=fun j v W W' hb hv=>by
 cases j with
 | zero=>exact h v W W' hb hv
 | succ j=>exact k j v W W' hb hv
theorem wI {u:Value}:∀v W W',Below W.heap.size W W'→(fun v (_:World)=>v=u) v W→(fun v (_:World)=>v=u) v W':=fun _ _ _ _ h=>h
theorem stable_true:∀(v:Value) W W',Below W.heap.size W W'→(fun (_:Value) (_:World)=>True) v W→(fun (_:Value) (_:World)=>True) v W':=fun _ _ _ _ h=>h
theorem tM {id:Nat} {a:Act} {w:World} (L:Nat) (V:Nat→Value→World→Prop) (sp:Nat→Option Nat) (C:World→Prop) (hm:P.follows .mixedOrders=true) (hd:distinctB ops.toList=true) (hac:acyB ops=true) (hw:waitsAllB .any ops L=true) (hL:L<ops.size)
  (hc:C w.drew) (hV:∀j,ops.size≤j→∀v,V j v w.drew) (hop:∀i,i<ops.size→i≠L→Owes P ops Q .any V sp C a i) (hlast:OwesLast P ops Q V sp C a L):(Code.region id ops true).wp P Q a w:=by
 refine wp_region_any hm ?_
 have:=wpAny_relL (P:=P) (Q:=Q) (md:=.any) (a:=a) L hd hac hw hL hop hlast ops.size (Array.replicate ops.size false) (start ops a) w.drew (by simp) (by simp[hL]) (unl_start _) (stand_start hc hV)
 rw[putAll_init]at this
 exact this
end
end
section
open Go.RowKit Rw Rh
namespace Pl
def nums0 (U:Nat→Nat) (M:List (Nat×Nat)):List Nat:=[U 0,U 1,U 2,U 3,U 4,U 5,U 6,U 7,M.length]
def flat (M:List (Nat×Nat)):List Nat:=M.flatMap (fun d=>[d.1,d.2])
def nums (U:Nat→Nat) (M:List (Nat×Nat)):List Nat:=nums0 U M++flat M
def vints (l:List Nat):List Int:=l.flatMap vint
def toInts (l:List Nat):List Int:=l.map (fun (n:Nat)=>(n:Int))
theorem toInts_append (a b:List Nat):toInts (a++b)=toInts a++toInts b:=by unfold toInts;rw[List.map_append]
end Pl
theorem each_cb (v:Value) (f:Nat) (cb:Array Value) (ds:List (Nat×Nat)) (I:Nat→World→Prop) (w:World) (h0:I 0 w) (hl:ds.length≤1000000000) (hD:∀k W,I k W→DotsC W v ds) (hA:∀k W W',I k W→Below W.heap.size W W'→I k W')
  (hcf:∀(x:Value) (W:World),Sem.run prog (callFunc f (#[x]++cb)) W=.ok (.enter f (#[x]++cb)) W)
  (hC:∀k (hk:k<ds.length) W,I k W→Calls prog f (#[.agg (Qi (ds[k]).1 (ds[k]).2)]++cb) W fun e w'=>e=.returned (.tuple #[])∧I (k+1) w') :
  Calls prog 207 #[v,.func (.func f) #[] cb] w fun e w'=>e=.returned (.tuple #[])∧I ds.length w':=by
 exact oO
def NsAt (base c:Nat) (l:List Nat) (w:World):Prop:=∃m,w.heap[c]?=some (.cells #[m] 34 (0,0))∧OwnR kInt base w m (Pl.toInts l)
theorem nums1_ok (base c n s:Nat) (l:List Nat) (w:World) (h:NsAt base c l w) (hc:base≤w.heap.size) (hl:l.length≤10000) :
  Calls prog 251 #[.agg (Qi n s),Qp c] w fun e w'=>e=.returned (.tuple #[])∧NsAt base c (l++[n,s]) w'∧Off (fun g=>g=c∨base≤g) w w':=by
 obtain⟨m,hx,hm⟩:=h
 have hcs:=(gsi.1 hx).1
 have bw:Below w.heap.size w (w.alloc (.cells (Qi n s) 45)):=bn _ _
 have b2:Below w.heap.size w ((w.alloc (.cells (Qi n s) 45)).alloc (.cells (Qi n s) 3)):=bw.alloc bw.size _
 have hne:m.ownBlock≠some c:=fun eg=>by
  obtain⟨cs,hcs⟩:=zK hm eg
  rw[hx]at hcs;cases hcs
 have qL:=yK kInt (w.alloc (.cells (Qi n s) 45)) [(n:Int),(s:Int)] (Qi n s) 2 rfl rfl
 rw[zG]at qL
 have qX:=zA (hm.below b2)
 have qI:=zA qL
 have HBB:=zA (b2.mono hc)
 have HC:=zA hc
 have HX1:=zA ((b2.block c hcs).trans hx)
 have HCQ:=zA (Nat.lt_of_lt_of_le hcs b2.size)
 have HNE:=zA hne
 have c0:=zE (j:=0) ((bw.block c hcs).trans hx) rfl
 have HLN:=zA (show(Pl.toInts l).length=l.length from by unfold Pl.toInts;simp)
 clear bw b2 hne hx hm hcs qL
 go_enter func251,ntmps251
 go_wp2_with (
  at_builtin
  refine yU kInt rfl (.tmp 3) (.tmp 8) rfl rfl qX.out rfl qI.out (by rw[HLN.out];simp;omega) HBB.out (Nat.le_trans HC.out (by simp;omega)) ?_
  intro v1 w1 hown1 hb1 hg1
  have x1:=(hg1.block c HCQ.out (fun e=>HNE.out e.symm)).trans HX1.out
  have c1:=cc 0 x1
  have fz:=zB x1 0
  have HX2:=zA x1
  have HO1:=zA hown1
  have HB1:=zA hb1
  have pI:∃ao cap,v1=.slice ao (l.length+2) cap:=by
   obtain⟨ao,cap,e⟩:=hown1.toT.form
   exact⟨ao,cap,by rw[e,List.length_append,HLN.out];rfl⟩
  obtain⟨ao,cap,rfl⟩:=pI
  clear x1 hown1 hb1 hg1)
 have hx2:=zF (j:=0) HX2.out (.slice ao (l.length+2) cap)
 refine yG results251 ⟨rfl,⟨.slice ao (l.length+2) cap,?_,?_⟩,(⟨HB1.out.size,fun g hg hn=>HB1.out.block g lD,HB1.out.os,HB1.out.tape,HB1.out.output⟩:Off (fun g=>g=c∨base≤g) w w1).set (a:=⟨c,0,none⟩) (.inl (.inl rfl)) _⟩
 ·refine hx2.trans ?_;simp
 ·rw[Pl.toInts_append]
  exact mO
theorem Pl.vints_len (l:List Nat) (h:∀n∈l,n≤1099511627776):(Pl.vints l).length≤6*l.length:=by
 unfold Pl.vints
 induction l with
 | nil=>simp
 | cons a l ih=>
  rw[List.flatMap_cons,List.length_append,List.length_cons]
  have:=ih (fun n hn=>h n (by simp[hn]))
  have:=Pl.vint_len6 (h a (by simp))
  omega
theorem Pl.vints_succ (l:List Nat) (k:Nat) (h:k<l.length):Pl.vints (l.take (k+1))=Pl.vints (l.take k)++Pl.vint l[k]:=by
 unfold Pl.vints
 rw[List.take_succ_eq_append_getElem h,List.flatMap_append]
 simp
theorem ints8 (w:World) (g:Nat) (U:Nat→Nat) (m:Value) (h:w.heap[g]?=some (.cells #[.int .i64 (U 0),.int .i64 (U 1),.int .i64 (U 2),.int .i64 (U 3),.int .i64 (U 4),.int .i64 (U 5),.int .i64 (U 6),.int .i64 (U 7),m] 60 (0,0))):RowC kInt w (.slice (some ⟨g,0,none⟩) 8 8) [(U 0:Int),(U 1:Int),(U 2:Int),(U 3:Int),(U 4:Int),(U 5:Int),(U 6:Int),(U 7:Int)]:=by
 refine ints_row ⟨_,_,rfl,(fun e=>by cases e),fun i hi=>⟨_,_,rfl,(gsi.1 h).1,?_⟩⟩
 match i,hi with
 | 0,_=>exact zE (j:=0+0) h rfl
 | 1,_=>exact zE (j:=0+1) h rfl
 | 2,_=>exact zE (j:=0+2) h rfl
 | 3,_=>exact zE (j:=0+3) h rfl
 | 4,_=>exact zE (j:=0+4) h rfl
 | 5,_=>exact zE (j:=0+5) h rfl
 | 6,_=>exact zE (j:=0+6) h rfl
 | 7,_=>exact zE (j:=0+7) h rfl
 | i+8,hi=>exact absurd hi (by simp)
theorem put_set_ok (v:Value) (O:Nat→Nat→Bool) (U:Nat→Nat) (M:List (Nat×Nat)) (w:World) (h:SetV w v O U M) :
  Calls prog 158 #[v] w fun e w'=>∃v',e=.returned (.tuple #[v',.int .i64 0])∧OwnB w.heap.size w' v' (Pl.vints (Pl.nums U M))∧Below w.heap.size w w':=by
 have HV:=zA h
 obtain⟨m,rfl,hd,hc⟩:=h
 obtain⟨ao,cap,rfl,_⟩:=hd.toC
 have b1:=bn w (.cells (Qu U ao M.length cap) 60)
 have hx:=heap_alloc_new w (.cells (Qu U ao M.length cap) 60)
 have HB:=zA b1
 have HX:=zA hx
 have HR:=zA (uC _ O U M _ (HV.out.below b1))
 have HD:=zA (hd.below b1)
 have qO:=zA hc.len
 have HCL:=zA hc
 clear hd hc b1 hx
 go_enter func158,ntmps158
 go_wp2_with fail
 generalize hW0:(w.alloc (.cells (Qu U ao M.length cap) 60))=W0 at *
 have HSZ:=zA (show w.heap.size<W0.heap.size by rw[←hW0];simp)
 clear hW0
 refine HR.out.mono ?_
 rintro e w1 ⟨rfl,b1⟩
 have HB1:=zA b1
 have H60:=zA (fun (W:World) (hW:Below W0.heap.size W0 W)=>(hW.block w.heap.size (gsi.1 HX.out).1).trans HX.out)
 clear b1 HR
 go_wp2_with fail
 have HST:Hid (StableB [(fun v (_:World)=>v=.pointer (some ⟨w.heap.size,0,none⟩)),(fun v (_:World)=>v=.slice (some ⟨w.heap.size,0,none⟩) 8 8),(fun v W=>OwnR kInt W0.heap.size W v [(U 0:Int),(U 1:Int),(U 2:Int),(U 3:Int),(U 4:Int),(U 5:Int),(U 6:Int),(U 7:Int)]),(fun v (_:World)=>v=.pointer (some ⟨w.heap.size,8,none⟩)),(fun v (_:World)=>v=.slice ao M.length cap),(fun v (_:World)=>v=.int .i64 M.length),(fun v W=>RowC kInt W v [(M.length:Int)]),(fun v W=>OwnR kInt W0.heap.size W v (Pl.toInts (Pl.nums0 U M))),(fun v W=>∃g,v=.pointer (some ⟨g,0,none⟩)∧W0.heap.size≤g∧W.heap[g]?=some (.cells #[.slice none 0 0] 34 (0,0))),(fun (_:Value) (_:World)=>True)]):=zA ((yR wI (yR wI (yR (fun v W W2 b h=>OwnR.below h b) (yR wI (yR wI (yR wI (yR (fun v W W2 b h=>RowC.below h b) (yR (fun v W W2 b h=>OwnR.below h b) (yR (fun v W W2 b ⟨g,h1,h2,h3⟩=>⟨g,h1,h2,(b.block g (gsi.1 h3).1).trans h3⟩) (yR stable_true stable_nil)))))))))))
 refine tM 9 (vget [(fun v (_:World)=>v=.pointer (some ⟨w.heap.size,0,none⟩)),(fun v (_:World)=>v=.slice (some ⟨w.heap.size,0,none⟩) 8 8),(fun v W=>OwnR kInt W0.heap.size W v [(U 0:Int),(U 1:Int),(U 2:Int),(U 3:Int),(U 4:Int),(U 5:Int),(U 6:Int),(U 7:Int)]),(fun v (_:World)=>v=.pointer (some ⟨w.heap.size,8,none⟩)),(fun v (_:World)=>v=.slice ao M.length cap),(fun v (_:World)=>v=.int .i64 M.length),(fun v W=>RowC kInt W v [(M.length:Int)]),(fun v W=>OwnR kInt W0.heap.size W v (Pl.toInts (Pl.nums0 U M))),(fun v W=>∃g,v=.pointer (some ⟨g,0,none⟩)∧W0.heap.size≤g∧W.heap[g]?=some (.cells #[.slice none 0 0] 34 (0,0))),(fun (_:Value) (_:World)=>True)]) (fun j=>match j with | 2=>some 7 | 6=>some 7 | _=>none) (fun W=>Below W0.heap.size W0 W) lE lE lE lE lF (HB1.out.drew) ?_ ?_ ?_
 ·intro j hj v;exact vget_ge (by rfl) _ j hj v
 ·intro i hi hne
  match i,hi,hne with
  | 0,_,_=>
   exact nL
  | 1,_,_=>
   intro x W o ho hC hd K hK
   simp only[List.getElem?_toArray,List.getElem?_cons_succ,List.getElem?_cons_zero,Option.some.injEq]at ho
   subst ho
   have h0:=hd 0 (.inl (by rfl)) (.inl (by rfl))
   simp only[vget,List.getD_cons_zero,List.getD_cons_succ]at h0
   clear hd
   simp only[List.toList_toArray,putAll,Act.put,List.setIfInBounds_toArray,List.set_cons_zero,List.set_cons_succ,Nat.zero_add,Nat.reduceAdd]at hK ⊢
   simp only[h0]at hK ⊢
   go_simp
   exact hK.out _ _ rfl hC (fun _ _ _ _ h=>h)
  | 2,_,_=>
   intro x W o ho hC hd K hK
   simp only[List.getElem?_toArray,List.getElem?_cons_succ,List.getElem?_cons_zero,Option.some.injEq]at ho
   subst ho
   have h1:=hd 1 (.inl (by rfl)) (.inl (by rfl))
   simp only[vget,List.getD_cons_zero,List.getD_cons_succ]at h1
   clear hd
   simp only[List.toList_toArray,putAll,Act.put,List.setIfInBounds_toArray,List.set_cons_zero,List.set_cons_succ,Nat.zero_add,Nat.reduceAdd]at hK ⊢
   simp only[h1]at hK ⊢
   go_simp
   refine(vQ _ [(U 0:Int),(U 1:Int),(U 2:Int),(U 3:Int),(U 4:Int),(U 5:Int),(U 6:Int),(U 7:Int)] W (ints8 W _ U _ (H60.out W hC)) (by simp)).mono ?_
   rintro e W2 ⟨v2,rfl,o2,b2⟩
   exact hK.out _ _ (o2.mono hC.size) (hC.trans (b2.mono hC.size)) (fun j u _ _ h=>HST.out j u W W2 b2 h)
  | 3,_,_=>
   exact nL
  | 4,_,_=>
   intro x W o ho hC hd K hK
   simp only[List.getElem?_toArray,List.getElem?_cons_succ,List.getElem?_cons_zero,Option.some.injEq]at ho
   subst ho
   have h3:=hd 3 (.inl (by rfl)) (.inl (by rfl))
   simp only[vget,List.getD_cons_zero,List.getD_cons_succ]at h3
   clear hd
   simp only[List.toList_toArray,putAll,Act.put,List.setIfInBounds_toArray,List.set_cons_zero,List.set_cons_succ,Nat.zero_add,Nat.reduceAdd]at hK ⊢
   simp only[h3]at hK ⊢
   have c8:=cc 8 (H60.out W hC)
   have hCC:=zA hC
   clear hC
   go_simp
   exact hK.out _ _ rfl hCC.out (fun _ _ _ _ h=>h)
  | 5,_,_=>
   intro x W o ho hC hd K hK
   simp only[List.getElem?_toArray,List.getElem?_cons_succ,List.getElem?_cons_zero,Option.some.injEq]at ho
   subst ho
   have h4:=hd 4 (.inl (by rfl)) (.inl (by rfl))
   simp only[vget,List.getD_cons_zero,List.getD_cons_succ]at h4
   clear hd
   simp only[List.toList_toArray,putAll,Act.put,List.setIfInBounds_toArray,List.set_cons_zero,List.set_cons_succ,Nat.zero_add,Nat.reduceAdd]at hK ⊢
   simp only[h4]at hK ⊢
   go_simp
   exact hK.out _ _ rfl hC (fun _ _ _ _ h=>h)
  | 6,_,_=>
   intro x W o ho hC hd K hK
   simp only[List.getElem?_toArray,List.getElem?_cons_succ,List.getElem?_cons_zero,Option.some.injEq]at ho
   subst ho
   have h5:=hd 5 (.inl (by rfl)) (.inl (by rfl))
   simp only[vget,List.getD_cons_zero,List.getD_cons_succ]at h5
   clear hd
   simp only[List.toList_toArray,putAll,Act.put,List.setIfInBounds_toArray,List.set_cons_zero,List.set_cons_succ,Nat.zero_add,Nat.reduceAdd]at hK ⊢
   simp only[h5]at hK ⊢
   go_simp
   have b2:=bn W (.cells (Qo M.length) 3)
   exact hK.out _ _ (yK kInt W [(M.length:Int)] (Qo M.length) 1 rfl rfl) (hC.trans (b2.mono hC.size)) (fun j u _ _ h=>HST.out j u W _ b2 h)
  | 7,_,_=>
   intro x W o ho hC hd K hK
   simp only[List.getElem?_toArray,List.getElem?_cons_succ,List.getElem?_cons_zero,Option.some.injEq]at ho
   subst ho
   have h2:=hd 2 (.inl (by rfl)) (.inr (by rfl))
   simp only[vget,List.getD_cons_zero,List.getD_cons_succ]at h2
   have h6:=hd 6 (.inl (by rfl)) (.inr (by rfl))
   simp only[vget,List.getD_cons_zero,List.getD_cons_succ]at h6
   clear hd
   simp only[List.toList_toArray,putAll,Act.put,List.setIfInBounds_toArray,List.set_cons_zero,List.set_cons_succ,Nat.zero_add,Nat.reduceAdd]at hK ⊢
   rw[if_pos (by rfl)]
   refine vB kInt rfl (.tmp 13) (.tmp 17) rfl rfl h2 rfl h6 (by simp) hC hC.size ?_
   intro v1 w1 qC hb hg
   have hC2:Below W0.heap.size W0 w1:=⟨hg.os.trans hC.os,hg.tape.trans hC.tape,hg.output.trans hC.output,Nat.le_trans hC.size hg.size,fun i hi=>(hg.block i (Nat.lt_of_lt_of_le hi hC.size) (fun e=>by have:=(h2.lt i e.symm).1;omega)).trans (hC.block i hi)⟩
   refine hK.out v1 w1 qC hC2 (fun j u hj hs hv=>?_)
   match j,hj,hs,hv with
   | 0,_,_,hv=>exact hv
   | 1,_,_,hv=>exact hv
   | 2,_,hs,_=>exact absurd rfl hs
   | 3,_,_,hv=>exact hv
   | 4,_,_,hv=>exact hv
   | 5,_,_,hv=>exact hv
   | 6,_,hs,_=>exact absurd rfl hs
   | 7,hj,_,_=>exact absurd rfl hj
   | 8,_,_,hv=>
    obtain⟨g,e1,e2,e3⟩:=hv
    refine⟨g,e1,e2,(hg.block g (gsi.1 e3).1 (fun e=>?_)).trans e3⟩
    obtain⟨cs,hcs⟩:=zK h2 e.symm
    rw[e3]at hcs;cases hcs
   | 9,_,_,hv=>exact hv
   | j+10,_,_,hv=>exact vget_ge (n:=10) rfl _ _ lD _
  | 8,_,_=>
   intro x W o ho hC hd K hK
   simp only[List.getElem?_toArray,List.getElem?_cons_succ,List.getElem?_cons_zero,Option.some.injEq]at ho
   subst ho
   clear hd
   simp only[List.toList_toArray,putAll,Act.put,List.setIfInBounds_toArray,List.set_cons_zero,List.set_cons_succ,Nat.zero_add,Nat.reduceAdd]at hK ⊢
   go_simp
   have b2:=bn W (.cells #[.slice none 0 0] 34)
   exact hK.out _ _ ⟨W.heap.size,rfl,hC.size,heap_alloc_new W _⟩ (hC.trans (b2.mono hC.size)) (fun j u _ _ h=>HST.out j u W _ b2 h)
  | 9,_,h=>exact absurd rfl h
  | i+10,h,_=>exact absurd h (by simp)
 ·intro x W o ho hC hd K hK
  simp only[List.getElem?_toArray,List.getElem?_cons_succ,List.getElem?_cons_zero,Option.some.injEq]at ho
  subst ho
  have h7:=hd 7 lF (.inl (by rfl))
  simp only[vget,List.getD_cons_zero,List.getD_cons_succ]at h7
  have h8:=hd 8 lF (.inl (by rfl))
  simp only[vget,List.getD_cons_zero,List.getD_cons_succ]at h8
  clear hd
  simp only[List.toList_toArray,putAll,Act.put,List.setIfInBounds_toArray,List.set_cons_zero,List.set_cons_succ,Nat.zero_add,Nat.reduceAdd]
  obtain⟨g,hg,hgb,hgx⟩:=h8
  simp only[hg]at hK ⊢
  obtain⟨ao7,cap7,hv7⟩:=h7.toT.form
  simp only[hv7]at hK ⊢
  have HX7:=zA (show OwnR kInt W0.heap.size W (.slice ao7 (Pl.toInts (Pl.nums0 U M)).length cap7) (Pl.toInts (Pl.nums0 U M)) by rw[←hv7];exact h7)
  have HGX:=zA hgx
  have HGB:=zA hgb
  have HCW:=zA hC
  have cg:=cc 0 hgx
  have fz:=zB hgx 0
  clear hgx hgb hC h7 hv7 hg
  go_simp
  refine hK.out _ _ ?_
  clear hK K
  have hgx:=zF (j:=0) HGX.out (.slice ao7 9 cap7)
  have hl9:(Pl.toInts (Pl.nums0 U M)).length=9:=rfl
  rw[hl9]at *
  have hns:NsAt W0.heap.size g (Pl.nums0 U M++Pl.flat (M.take 0)) (W.setCell ⟨g,0,none⟩ (.slice ao7 9 cap7)):=⟨_,hgx.trans (by simp;rfl),by
   rw[List.take_zero,show Pl.flat []=[]from rfl,List.append_nil]
   refine HX7.out.keep (fun k hk=>Below.heap_setCell _ _ _ _ (fun e=>?_))
   obtain⟨cs,hcs⟩:=zK HX7.out hk
   rw[show k=g from e,HGX.out]at hcs;cases hcs⟩
  have hbz:=zM HCW.out HGB.out 0 (.slice ao7 9 cap7)
  clear hgx cg fz HGX HX7 HCW hl9
  generalize W.setCell ⟨g,0,none⟩ (.slice ao7 9 cap7)=Z at *
  have c8:=cc 8 (H60.out Z hbz)
  have HNS:=zA hns
  have HBZ:=zA hbz
  clear hns hbz
  go_wp2_with fail
  have hflat:∀k,k<M.length→Pl.flat (M.take (k+1))=Pl.flat (M.take k)++[(M[k]!).1,(M[k]!).2]:=fun k hk=>by
   unfold Pl.flat
   rw[List.take_succ_eq_append_getElem hk,List.flatMap_append]
   simp[hk]
  have hfl:∀l:List (Nat×Nat),(Pl.flat l).length=2*l.length:=fun l=>by
   unfold Pl.flat
   induction l with
   | nil=>rfl
   | cons a l ih=>rw[List.flatMap_cons,List.length_append,ih,List.length_cons];simp;omega
  refine(each_cb (.slice ao M.length cap) 251 #[Qp g] M (fun k W=>NsAt W0.heap.size g (Pl.nums0 U M++Pl.flat (M.take k)) W∧Below W0.heap.size W0 W) Z ⟨HNS.out,HBZ.out⟩ (by have:=qO.out;omega) (fun k W hI=>(HD.out.below hI.2).toC) (fun k W W' hI hb=>⟨?_,hI.2.trans (hb.mono hI.2.size)⟩) (fun x W=>by kernel_rfl) (fun k hk W hI=>?_)).mono ?_
  ·obtain⟨m,h1,h2⟩:=hI.1
   exact⟨m,(hb.block g (gsi.1 h1).1).trans h1,h2.below hb⟩
  ·refine(nums1_ok W0.heap.size g (M[k]).1 (M[k]).2 _ W hI.1 hI.2.size (by
    have:=qO.out
    have h9:(Pl.nums0 U M).length=9:=rfl
    rw[List.length_append,hfl,List.length_take,h9];omega)).mono ?_
   rintro e w' ⟨rfl,h1,h2⟩
   refine⟨rfl,?_,h2.since hI.2 (fun x hx=>by have:=HGB.out;omega)⟩
   rw[hflat k hk,←List.append_assoc]
   simpa[hk]using h1
  ·rintro e w2 ⟨rfl,hns,hb2⟩
   rw[List.take_length]at hns
   change NsAt W0.heap.size g (Pl.nums U M) w2 at hns
   obtain⟨m,hgx,qC⟩:=hns
   have hlen:(Pl.nums U M).length≤2000:=by
    have:=qO.out
    have h9:(Pl.nums0 U M).length=9:=rfl
    unfold Pl.nums
    rw[List.length_append,hfl,h9];omega
   obtain⟨ao2,cap2,hm2⟩:=qC.toT.form
   have hln:(Pl.toInts (Pl.nums U M)).length=(Pl.nums U M).length:=by unfold Pl.toInts;simp
   rw[hln]at hm2
   subst hm2
   have cg:=cc 0 hgx
   have qX:=zA qC
   have HB2:=zA hb2
   have HLN:=zA hlen
   have hsmall:∀n∈Pl.nums U M,n≤768:=fun n hn=>by
    have hc:=HCL.out
    unfold Pl.nums Pl.nums0 at hn
    rcases List.mem_append.1 hn with hn | hn
    ·have:=hc.upto
     simp at hn
     rcases hn with rfl | rfl | rfl | rfl | rfl | rfl | rfl | rfl | rfl
     ·have:=this 0 lD;omega
     ·have:=this 1 lD;omega
     ·have:=this 2 lD;omega
     ·have:=this 3 lD;omega
     ·have:=this 4 lD;omega
     ·have:=this 5 lD;omega
     ·have:=this 6 lD;omega
     ·have:=this 7 lD;omega
     ·exact qO.out
    ·unfold Pl.flat at hn
     exact mY
   have HSM:=zA hsmall
   clear hgx qC hb2 hlen hsmall hflat hfl hln c8
   generalize hnl:Pl.nums U M=l at *
   have HNL:=zA hnl
   clear hnl
   go_wp2_with fail
   go_loopw [5,25] (fun v i wr=>∃(k:Nat),k≤l.length∧i=.int .i64 k∧OwnB W0.heap.size wr v (Pl.vints (l.take k))∧Below W0.heap.size W0 wr∧Below w2.heap.size w2 wr) (fun _ i _=>l.length - (intOf i).toNat)
   case atStart=>exact⟨0,by omega,rfl,xO _ _,HB2.out,Below.refl _ _⟩
   case round=>
    obtain⟨k,hk,rfl,hO,hb,hb2⟩:=hrel
    by_cases hlt:k<l.length
    ·have pF:k<(Pl.toInts l).length:=by unfold Pl.toInts;simpa using hlt
     obtain⟨g2,off,cap3,e,hg2,hc⟩:=((qX.out.below hb2).toT).cell pF
     rw[show(Pl.toInts l).length=l.length from by unfold Pl.toInts;simp]at e
     cases e
     have a1:(k:Int)+1≤9223372036854775807:=by have:=HLN.out;omega
     have c0:=hc 0 _ rfl
     simp only[Nat.mul_one,Nat.add_zero,show kInt.k=1 from rfl]at c0
     have pD:(Pl.toInts l)[k]=((l[k]:Nat):Int):=by simp[Pl.toInts]
     rw[pD]at c0
     have hle:l[k]≤1099511627776:=by have:=HSM.out _ (List.getElem_mem hlt);omega
     have hvl:(Pl.vints (l.take k)).length≤1000000:=by
      have:=Pl.vints_len (l.take k) (fun n hn=>by have:=HSM.out n (List.mem_of_mem_take hn);omega)
      rw[List.length_take]at this
      have:=HLN.out
      omega
     have qV:=zA (xZ _ _ l[k] wr hO.toT.toC hvl hle)
     have HNX:=zA (Pl.vints_succ l k hlt)
     have HBR:=zA hb
     have HBR2:=zA hb2
     clear hc hO hb hb2 hvl hle pD pF
     generalize l[k]=n at *
     go_wp2_with fail
     refine qV.out.mono ?_
     rintro e w5 ⟨v5,rfl,o5,b5⟩
     have HO5:=zA (show OwnB W0.heap.size w5 v5 (Pl.vints (l.take (k+1))) by rw[HNX.out];exact o5.mono HBR.out.size)
     have HB5:=zA (HBR.out.trans (b5.mono HBR.out.size))
     have HB6:=zA (HBR2.out.trans (b5.mono HBR2.out.size))
     clear o5 b5
     go_wp2_with fail
     exact⟨⟨k+1,by omega,rfl,HO5.out,HB5.out,HB6.out⟩,by simp[intOf];omega⟩
    ·obtain rfl:k=l.length:=by omega
     have HO5:=zA (show OwnB W0.heap.size wr u5 (Pl.vints l) by rw[List.take_length]at hO;exact hO)
     have HB5:=zA hb
     clear hO hb hb2 hlt hk
     go_wp2_with fail
     exact bodyPost_ret (v:=.tuple #[u5,.int .i64 0]) (by simp[results,results158,go_sem]) rfl ⟨_,rfl,by rw[HNL.out];exact HO5.out.mono HB.out.size,HB.out.trans (HB5.out.mono HB.out.size)⟩
end
end Go.Proofs.YtodlmbfbfaofcaaGreat
