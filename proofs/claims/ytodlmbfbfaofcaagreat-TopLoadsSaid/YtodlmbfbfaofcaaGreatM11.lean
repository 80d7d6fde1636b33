/- TopLoads, part 11. -/
import Derived.Test.YtodlmbfbfaofcaaGreatM01
import Derived.Test.YtodlmbfbfaofcaaGreatM03
import Derived.Test.YtodlmbfbfaofcaaGreatM07
import Derived.Test.YtodlmbfbfaofcaaGreatM10
open Go.Proofs.Tryz
namespace Go.Proofs.YtodlmbfbfaofcaaGreat
set_option linter.unusedVariables false
set_option linter.unusedSimpArgs false
set_option maxRecDepth 100000
section
open Go.RowKit Rw Rh
variable {α:Type} {K:Rk α}
def RowC (K:Rk α) (w:World) (v:Value) (xs:List α):Prop:=
 ∃ao cap,v=.slice ao xs.length cap∧(ao=none→xs=[]∧cap=0)∧∀i (h:i<xs.length),∃g off,ao=some ⟨g,off,none⟩∧g<w.heap.size∧∀j,j<K.k→w.cell? ⟨g,off+i*K.k+j,none⟩=(K.enc xs[i])[j]?
theorem RowT.toC {w:World} {v:Value} {xs:List α} (h:RowT K w v xs):RowC K w v xs:=by
 obtain⟨ao,cap,h1,h2,h3⟩:=h
 refine⟨ao,cap,h1,h2,fun i hi=>?_⟩
 obtain⟨g,off,cs,fr,e,hg,c⟩:=h3 i hi
 exact⟨g,off,e,(gsi.1 hg).1,fun j hj=>by rw[←c j hj];simp[World.cell?,hg]⟩
theorem RowC.form {w:World} {v:Value} {xs:List α} (h:RowC K w v xs):∃ao cap,v=.slice ao xs.length cap:=by obtain⟨ao,cap,e,_⟩:=h;exact⟨ao,cap,e⟩
theorem RowC.none {w:World} {ao:Option Addr} {cap:Nat} {xs:List α} (h:RowC K w (.slice ao xs.length cap) xs):ao=none→xs.length=0∧cap=0:=fun ha=>by
 obtain⟨ao',cap',hv,hn,_⟩:=h
 cases hv
 obtain⟨h1,h2⟩:=hn ha
 exact⟨by rw[h1];rfl,h2⟩
theorem RowC.below {w w':World} {v:Value} {xs:List α} (h:RowC K w v xs) (hb:Below w.heap.size w w'):RowC K w' v xs:=by
 obtain⟨ao,cap,h1,h2,h3⟩:=h
 refine⟨ao,cap,h1,h2,fun i hi=>?_⟩
 obtain⟨g,off,e,hg,c⟩:=h3 i hi
 exact⟨g,off,e,Nat.lt_of_lt_of_le hg hb.size,fun j hj=>(hb.cell (p:=⟨g,off+i*K.k+j,.none⟩) hg).trans (c j hj)⟩
theorem RowC.cell {w:World} {v:Value} {xs:List α} (h:RowC K w v xs) {i:Nat} (hi:i<xs.length):∃g off cap,v=.slice (some ⟨g,off,.none⟩) xs.length cap∧g<w.heap.size∧∀j u,(K.enc xs[i])[j]?=some u→w.cell? ⟨g,off+i*K.k+j,.none⟩=some u:=by
 obtain⟨ao,cap,h1,h2,h3⟩:=h
 obtain⟨g,off,e,hg,c0⟩:=h3 i hi
 refine⟨g,off,cap,by rw[h1,e],hg,fun j u hu=>?_⟩
 have hj:j<K.k:=by
  rcases Nat.lt_or_ge j K.k with h' | h'
  ·exact h'
  ·rw[List.getElem?_eq_none (by rw[K.hlen];exact h')]at hu;cases hu
 rw[c0 j hj];exact hu
theorem RowC.news {w:World} {ao:Option Addr} {cap:Nat} {xs:List α} (h:RowC K w (.slice ao xs.length cap) xs):∀ad,ao=some ad→∀j u,(K.encs xs)[j]?=some u→w.cell? (ad.add j)=some u:=fun ad had j u hj=>by
 have hk:=K.hk
 have hjl:j<xs.length*K.k:=by
  rcases Nat.lt_or_ge j (xs.length*K.k)with h' | h'
  ·exact h'
  ·rw[List.getElem?_eq_none (by rw[K.encs_length];exact h')]at hj;cases hj
 have hd:j / K.k<xs.length:=Nat.div_lt_of_lt_mul (by rw[Nat.mul_comm];exact hjl)
 have hm:j%K.k<K.k:=Nat.mod_lt _ hk
 have hjj:j=j / K.k*K.k+j%K.k:=by rw[Nat.mul_comm];exact(Nat.div_add_mod j K.k).symm
 rw[hjj,K.encs_get xs _ _ hd hm]at hj
 obtain⟨g,off,cap',e,hg,hc⟩:=h.cell hd
 cases e
 cases had
 rw[Go.WideShapes.add_plain]
 have:=hc _ _ hj
 rw[Nat.add_assoc,←hjj]at this
 exact this
theorem yT (K:Rk α) {w w0:World} {ops:Array Oper} {rest:List Oper} {o:Oper} {a:Act} {Q:Exit→Act→World→Prop} {base:Nat} {v x:Value} {xs ys:List α} (hgd:o.guard=.none) (sl xl:Operand)
  (ho:o.op=.call {callee:=.builtin .append,args:=#[sl,xl],argTypes:=#[K.S,K.S]}) (hs:a.eval sl=v) (rX:OwnR K base w v xs) (hx:a.eval xl=x) (hc:RowC K w x ys)
  (hl:xs.length+ys.length≤1000000) (hb:Below base w0 w) (qE:base≤w.heap.size)
  (h:∀v' w',OwnR K base w' v' (xs++ys)→Below base w0 w'→w.grownBy w' v.ownBlock→wpList prog ops Q rest (a.put o.dst v') w'):wpList prog ops Q (o::rest) a w:=by
 obtain⟨i5,hi5,z0,z1,z2⟩:=info_parts K.hi
 obtain⟨ao,cap,rfl⟩:=hc.form
 have hbb:=K.hb
 refine xO w hgd sl xl K.S ho base K.T i5 K.z K.k K.bytes K.hu hi5 z0 z1 z2 K.hz K.hk v xs.length (K.encs xs) hs rX ao ys.length cap (K.encs ys) hx (K.encs_length ys) hc.none hc.news (K.encs_one ys) (by unfold maxLen;omega) (by
  have:=Nat.mul_le_mul hl hbb
  omega) qE (fun v' w' h1 h2=>?_)
 refine h v' w' ?_ (hb.grown h2 qE (fun k hk=>(rX.lt k hk).1)) h2
 unfold OwnR;rw[List.length_append,K.encs_append]
 exact h1
theorem step_appC (K:Rk α) {w w0:World} {ops:Array Oper} {o:Oper} {a:Act} {K':Act→World→Prop} {Q:Exit→Act→World→Prop} {E:Prop} {base:Nat} {v x:Value} {xs ys:List α} (hgd:o.guard=.none) (sl xl:Operand)
  (ho:o.op=.call {callee:=.builtin .append,args:=#[sl,xl],argTypes:=#[K.S,K.S]}) (hs:a.eval sl=v) (rX:OwnR K base w v xs) (hx:a.eval xl=x) (hc:RowC K w x ys)
  (hl:xs.length+ys.length≤1000000) (hb:Below base w0 w) (qE:base≤w.heap.size)
  (h:∀v' w',OwnR K base w' v' (xs++ys)→Below base w0 w'→w.grownBy w' v.ownBlock→K' (a.put o.dst v') w'):if Region.wanted o (yielded ops a.tmps)=true then Oper.wp prog o a w K' Q else E:=by
 obtain⟨i5,hi5,z0,z1,z2⟩:=info_parts K.hi
 obtain⟨ao,cap,rfl⟩:=hc.form
 have hbb:=K.hb
 refine uZ hgd sl xl K.S ho base K.T i5 K.z K.k K.bytes K.hu hi5 z0 z1 z2 K.hz K.hk v xs.length (K.encs xs) hs rX ao ys.length cap (K.encs ys) hx (K.encs_length ys) hc.none hc.news (K.encs_one ys) (by unfold maxLen;omega) (by
  have:=Nat.mul_le_mul hl hbb
  omega) qE (fun v' w' h1 h2=>?_)
 refine h v' w' ?_ (hb.grown h2 qE (fun k hk=>(rX.lt k hk).1)) h2
 unfold OwnR;rw[List.length_append,K.encs_append]
 exact h1
theorem vD (K:Rk α) {w w0:World} {o:Oper} {a:Act} {K':Act→World→Prop} {Q:Exit→Act→World→Prop} {base:Nat} {v x:Value} {xs ys:List α} (hgd:o.guard=.none) (sl xl:Operand)
  (ho:o.op=.call {callee:=.builtin .append,args:=#[sl,xl],argTypes:=#[K.S,K.S]}) (hs:a.eval sl=v) (rX:OwnR K base w v xs) (hx:a.eval xl=x) (hc:RowC K w x ys)
  (hl:xs.length+ys.length≤1000000) (hb:Below base w0 w) (qE:base≤w.heap.size)
  (h:∀v' w',OwnR K base w' v' (xs++ys)→Below base w0 w'→w.grownBy w' v.ownBlock→K' (a.put o.dst v') w'):Oper.wp prog o a w K' Q:=by
 have h:=step_appC (E:=True) (ops:=#[]) (Q:=Q) K hgd sl xl ho hs rX hx hc hl hb qE h
 rw[if_pos (by simp[Region.wanted,hgd])]at h
 exact h
theorem ownr_empty (K:Rk α) (w:World):OwnR K w.heap.size (w.alloc (.cells #[] K.T)) (.slice (some ⟨w.heap.size,0,.none⟩) 0 0) []:=
 ⟨by simp[Rk.encs],.inr ⟨w.heap.size,0,#[],rfl,Nat.le_refl _,heap_alloc_new w _,Nat.le_refl _,by decide,by simp,by simp[Rk.encs]⟩⟩
theorem yJ (K:Rk α) (w:World) (xs:List α) (cs:Array Value) (n:Nat) (hn:n=xs.length) (hcs:cs=(K.encs xs).toArray):RowC K (w.alloc (.cells cs K.T)) (.slice (some ⟨w.heap.size,0,.none⟩) n n) xs:=by
 subst hcs hn
 refine⟨_,xs.length,rfl,(fun e=>by cases e),fun i hi=>⟨w.heap.size,0,rfl,by simp,fun j hj=>?_⟩⟩
 have:=heap_alloc_new w (.cells (K.encs xs).toArray K.T)
 simp only[World.cell?,this,Nat.zero_add]
 simpa using K.encs_get xs i j hi hj
def kInt:Rk Int where
 T:=3
 S:=34
 k:=1
 bytes:=8
 z:=.int .i64 0
 enc:=fun d=>[.int .i64 d]
 hlen:=fun _=>rfl
 hone:=fun x u hu=>by simp at hu;rcases hu with rfl;rfl
 hk:=by decide
 hu:=by kernel_rfl
 hi:=by kernel_rfl
 hz:=rfl
 hb:=by decide
theorem ints_row {w:World} {v:Value} {xs:List Int} (h:IntsC w v xs):RowC kInt w v xs:=by
 obtain⟨ao,cap,h1,h2,h3⟩:=h
 refine⟨ao,cap,h1,h2,fun i hi=>?_⟩
 obtain⟨g,off,e,hg,c⟩:=h3 i hi
 refine⟨g,off,e,hg,fun j hj=>?_⟩
 change j<1 at hj
 match j,hj with
 | 0,_=>simpa[kInt]using c
 | j+1,hj=>omega
theorem iclone_nil (w:World):Calls prog 227 #[.slice none 0 0] w fun e w'=>e=.returned (.slice none 0 0)∧w=w':=by
 have qP:∀w,(binOp BinOp.eql 34 (.slice none 0 0) (.slice none 0 0)).run prog w=.ok (.bool true) w:=fun _=>by kernel_rfl
 go_enter func227,ntmps227
 go_wp2
 go_ret
 exact⟨rfl,rfl⟩
theorem vR (v:Value) (xs:List _) (w:World) (h:RowC kInt w v xs) (hn:xs.length≤1000000) :
  Calls prog 227 #[v] w fun e w'=>∃v',e=.returned v'∧OwnR kInt w.heap.size w' v' xs∧Below w.heap.size w w':=by
 obtain⟨ao,cap,hv,h0,_⟩:=id h
 cases ao with
 | none=>
  obtain⟨rfl,rfl⟩:=h0 rfl
  subst hv
  refine(iclone_nil w).mono ?_
  rintro e w' ⟨rfl,rfl⟩
  exact⟨_,rfl,yH _ _ _,Below.refl _ _⟩
 | some ad=>
  have b1:Below w.heap.size w (w.alloc (.cells #[] 3)):=bn _ _
  have qP:∀w,(binOp BinOp.eql 34 (.slice (some ad) xs.length cap) (.slice none 0 0)).run prog w=.ok (.bool false) w:=fun _=>by kernel_rfl
  have HC:=zA (h.below b1)
  have HO:Hid (OwnR kInt w.heap.size (w.alloc (.cells #[] 3)) (.slice (some ⟨w.heap.size,0,none⟩) 0 0) []):=zA (ownr_empty kInt w)
  have HB:=zA b1
  subst hv
  clear h b1 h0
  go_enter func227,ntmps227
  go_wp2_with (at_builtin;refine yT kInt rfl (.tmp 5) (.tmp 6) rfl rfl HO.out rfl HC.out (by simpa using hn) HB.out (by simp) ?_;intro v1 w1 hown1 hb1 hg1)
  go_ret
  exact⟨v1,rfl,hown1,hb1⟩
theorem xL (w:World):Calls prog 166 #[.slice none 0 0] w fun e w'=>e=.returned (.slice none 0 0)∧w=w':=by
 have qP:∀w,(binOp BinOp.eql 58 (.slice none 0 0) (.slice none 0 0)).run prog w=.ok (.bool true) w:=fun _=>by kernel_rfl
 go_enter func166,ntmps166
 go_wp2
 go_ret
 exact⟨rfl,rfl⟩
end
section
open Go.RowKit Rw Rh
section
variable {P:Program} {ops:Array Oper} {Q:Exit→Act→World→Prop} {md:Region.Mode}
def putAll:List Oper→Nat→(Nat→Value)→Act→Act
 | [],_,_,a=>a
 | o::l,k,x,a=>putAll l (k+1) x (a.put o.dst (x k))
def upd (x:Nat→Value) (i:Nat) (v:Value):Nat→Value:=fun j=>if j=i then v else x j
theorem put_put (a:Act) (d:Option Tmp) (v u:Value):(a.put d v).put d u=a.put d u:=by
 cases d with
 | none=>rfl
 | some d=>simp[Act.put]
theorem put_same (a:Act) (d:Tmp):a.put (some d) (a.tmps.getD d undef)=a:=by
 cases a with
 | mk t ds=>
  simp only[Act.put,Act.mk.injEq,and_true]
  apply Array.ext_getElem?
  intro i
  rw[Array.getElem?_setIfInBounds]
  split
  ·rename_i e
   subst e
   split
   ·rename_i h;simp[h]
   ·rename_i h;rw[Array.getElem?_eq_none (by omega)]
  ·rfl
theorem tO (d:Option Tmp) (v:Value):∀(l:List Oper) (k:Nat) (x:Nat→Value) (a:Act),(∀o∈l,∀e,d=some e→o.dst≠some e)→(putAll l k x a).put d v=putAll l k x (a.put d v)
 | [],_,_,_,_=>rfl
 | o::l,k,x,a,h=>by
  unfold putAll
  rw[tO d v l (k+1) x _ (fun o' ho'=>h o' (by simp[ho'])),Act.put_comm a (x k) v (fun e he hd=>h o (by simp) e hd he)]
theorem uG:∀(l:List Oper) (k:Nat) (x y:Nat→Value) (a:Act),(∀j,k≤j→x j=y j)→putAll l k x a=putAll l k y a
 | [],_,_,_,_,_=>rfl
 | o::l,k,x,y,a,h=>by
  unfold putAll
  rw[h k (Nat.le_refl _),uG l (k+1) x y _ (fun j hj=>h j (by omega))]
def distinctB:List Oper→Bool
 | []=>true
 | o::l=>l.all (fun o'=>o.dst == none||o.dst != o'.dst)&&distinctB l
theorem vO {o:Oper} {l:List Oper} (h:distinctB (o::l)=true):(∀o'∈l,∀e,o.dst=some e→o'.dst≠some e)∧distinctB l=true:=by
 unfold distinctB at h
 rw[Bool.and_eq_true,List.all_eq_true]at h
 refine⟨fun o' ho' e he he'=>?_,h.2⟩
 have:=h.1 o' ho'
 rw[he,he']at this
 simp at this
theorem tN:∀(l:List Oper) (k i:Nat) (x:Nat→Value) (a:Act) (o:Oper) (v:Value),l[i]?=some o→distinctB l=true→(putAll l k x a).put o.dst v=putAll l k (upd x (k+i) v) a
 | [],_,_,_,_,_,_,h,_=>by simp at h
 | o0::l,k,0,x,a,o,v,h,hd=>by
  simp at h
  subst h
  unfold putAll
  rw[tO _ _ _ _ _ _ (vO hd).1,put_put]
  have e:upd x (k+0) v k=v:=by simp[upd]
  rw[e]
  exact uG _ _ _ _ _ (fun j hj=>by unfold upd;rw[if_neg (by omega)])
 | o0::l,k,i+1,x,a,o,v,h,hd=>by
  unfold putAll
  rw[tN l (k+1) i x _ o v (by simpa using h) (vO hd).2]
  have e:upd x (k+(i+1)) v k=x k:=by unfold upd;rw[if_neg (by omega)]
  rw[e,show k+1+i=k+(i+1)from by omega]
theorem uF:∀(l:List Oper) (k:Nat) (x:Nat→Value) (a:Act),(∀i o d,l[i]?=some o→o.dst=some d→x (k+i)=a.tmps.getD d undef)→putAll l k x a=a
 | [],_,_,_,_=>rfl
 | o::l,k,x,a,h=>by
  unfold putAll
  have e:a.put o.dst (x k)=a:=by
   cases hd:o.dst with
   | none=>rfl
   | some d=>
    have:=h 0 o d rfl hd
    rw[Nat.add_zero]at this
    rw[this];exact put_same a d
  rw[e]
  exact uF l (k+1) x a (fun i o' d ho hd=>by rw[show k+1+i=k+(i+1)from by omega];exact h (i+1) o' d (by simpa using ho) hd)
def start (ops:Array Oper) (a:Act):Nat→Value:=fun i=>match ops[i]? with
 | some o=>(match o.dst with
  | some d=>a.tmps.getD d undef
  | none=>undef)
 | none=>undef
theorem putAll_init (a:Act):putAll ops.toList 0 (start ops a) a=a:=
 uF _ _ _ _ (fun i o d ho hd=>by
  rw[Nat.zero_add]
  unfold start
  rw[Array.getElem?_toList]at ho
  rw[ho]
  simp only[hd])
def acyB (ops:Array Oper):Bool:=(List.range ops.size).all fun i=>match ops[i]? with
 | some o=>o.after.toList.all (fun e=>decide (e.on<i))
 | none=>true
theorem acy_spec (h:acyB ops=true) {i:Nat} {o:Oper} (ho:ops[i]?=some o):∀e∈o.after,e.on<i:=fun e he=>by
 unfold acyB at h
 rw[List.all_eq_true]at h
 have:=h i (List.mem_range.2 (gsi.1 ho).1)
 rw[ho]at this
 simp only[List.all_eq_true,decide_eq_true_eq]at this
 exact this e (by simpa using he)
theorem ready_some (hac:acyB ops=true) {listed:Array Bool} (hs:listed.size=ops.size):∀i,i<ops.size→listed.getD i true=false→Region.ready md ops listed≠[]:=by
 intro i
 induction i using Nat.strongRecOn with
 | _ i ih=>
  intro hi hu
  obtain⟨o,ho⟩:∃o,ops[i]?=some o:=⟨ops[i],Array.getElem?_eq_getElem hi⟩
  by_cases rY:∀e∈o.after,Region.binds md e=true→listed.getD e.on false=true
  ·intro e
   have:i∈Region.ready md ops listed:=mem_ready.2 ⟨hu,o,ho,rY⟩
   rw[e]at this;cases this
  ·simp only[Classical.not_forall]at rY
   obtain⟨e,he,hb,hl⟩:=rY
   have hlt:=acy_spec hac ho e he
   refine ih e.on hlt (by omega) ?_
   have:e.on<listed.size:=by omega
   simp[this]at hl ⊢
   simpa using hl
def unl (n:Nat) (listed:Array Bool):List Nat:=(List.range n).filter (fun i=> !listed.getD i true)
theorem unl_set {n i:Nat} {listed:Array Bool} (hs:listed.size=n) (hu:listed.getD i true=false):(unl n (listed.setIfInBounds i true)).length<(unl n listed).length:=by
 have hi:i<n:=by
  rcases Nat.lt_or_ge i n with h | h
  ·exact h
  ·simp[Array.getElem?_eq_none (show listed.size≤i by omega)]at hu
 have e:unl n (listed.setIfInBounds i true)=(unl n listed).filter (fun j=>j != i):=by
  unfold unl
  rw[List.filter_filter]
  apply List.filter_congr
  intro j _
  by_cases hj:j=i
  ·subst hj
   simp[show j<listed.size by omega]
  ·rw[getD_set_ne true (Ne.symm hj)]
   simp[hj]
 rw[e]
 refine List.length_filter_lt_length_iff_exists.2 ⟨i,?_,by simp⟩
 unfold unl
 rw[List.mem_filter]
 exact⟨List.mem_range.2 hi,by rw[hu];rfl⟩
structure Stand (n:Nat) (V:Nat→Value→World→Prop) (sp:Nat→Option Nat) (C:World→Prop) (listed:Array Bool) (x:Nat→Value) (w:World):Prop where
 c:C w
 v:∀j,(listed.getD j false=true∨n≤j)→(∀i,sp j=some i→listed.getD i true=false)→V j (x j) w
def depB (md:Region.Mode) (o:Oper) (j:Nat):Bool:=o.after.toList.any fun e=>Region.binds md e&&e.on == j
def Owes (P:Program) (ops:Array Oper) (Q:Exit→Act→World→Prop) (md:Region.Mode) (V:Nat→Value→World→Prop) (sp:Nat→Option Nat) (C:World→Prop) (a:Act) (i:Nat):Prop:=
 ∀(x:Nat→Value) (W:World) (o:Oper),ops[i]?=some o→C W→(∀j,(depB md o j=true∨ops.size≤j)→(sp j=none∨sp j=some i)→V j (x j) W)→
  ∀K:Act→World→Prop,Shut (∀v W',V i v W'→C W'→(∀j u,j≠i→sp j≠some i→V j u W→V j u W')→K ((putAll ops.toList 0 x a).put o.dst v) W')→
   if Region.wanted o (yielded ops (putAll ops.toList 0 x a).tmps)=true then Oper.wp P o (putAll ops.toList 0 x a) W K Q else K ((putAll ops.toList 0 x a).put o.dst undef) W
def OwesLast (P:Program) (ops:Array Oper) (Q:Exit→Act→World→Prop) (V:Nat→Value→World→Prop) (sp:Nat→Option Nat) (C:World→Prop) (a:Act) (L:Nat):Prop:=
 ∀(x:Nat→Value) (W:World) (o:Oper),ops[L]?=some o→C W→(∀j,j≠L→(sp j=none∨sp j=some L)→V j (x j) W)→
  ∀K:Act→World→Prop,Shut (∀a' W',Q .normal a' W'→K a' W')→
   if Region.wanted o (yielded ops (putAll ops.toList 0 x a).tmps)=true then Oper.wp P o (putAll ops.toList 0 x a) W K Q else K ((putAll ops.toList 0 x a).put o.dst undef) W
def waitsAllB (md:Region.Mode) (ops:Array Oper) (L:Nat):Bool:=(List.range ops.size).all (fun j=>j == L||match ops[L]? with
 | some o=>o.after.toList.any fun e=>Region.binds md e&&e.on == j
 | none=>false)
theorem stand_deps {V:Nat→Value→World→Prop} {sp:Nat→Option Nat} {C:World→Prop} {listed:Array Bool} {x:Nat→Value} {w:World} (h:Stand ops.size V sp C listed x w) {i:Nat} {o:Oper} (ho:ops[i]?=some o) (hi:i∈Region.ready md ops listed) :
  ∀j,(depB md o j=true∨ops.size≤j)→(sp j=none∨sp j=some i)→V j (x j) w:=by
 obtain⟨hu,o',ho',rY⟩:=mem_ready.1 hi
 rw[ho]at ho'
 cases ho'
 intro j hj hs
 refine h.v j (hj.imp (fun hj=>by
  unfold depB at hj
  rw[List.any_eq_true]at hj
  obtain⟨e,he,hb⟩:=hj
  rw[Bool.and_eq_true,beq_iff_eq]at hb
  rw[←hb.2];exact rY e (by simpa using he) hb.1) id) (fun i' hi'=>?_)
 rcases hs with hs | hs
 ·rw[hs]at hi';cases hi'
 ·rw[hs]at hi';cases hi';exact hu
theorem stand_step {V:Nat→Value→World→Prop} {sp:Nat→Option Nat} {C:World→Prop} {listed:Array Bool} {x:Nat→Value} {w w':World} {n i:Nat} {v:Value} (hsz:listed.size=n) (h:Stand n V sp C listed x w) (hu:listed.getD i true=false) (hv:V i v w') (hc:C w') (hst:∀j u,j≠i→sp j≠some i→V j u w→V j u w'):Stand n V sp C (listed.setIfInBounds i true) (upd x i v) w':=by
 have hin:i<n:=by
  rcases Nat.lt_or_ge i n with h | h
  ·exact h
  ·simp[Array.getElem?_eq_none (show listed.size≤i by omega)]at hu
 refine⟨hc,fun j hj hsp=>?_⟩
 by_cases e:j=i
 ·subst e;unfold upd;rw[if_pos rfl];exact hv
 ·unfold upd;rw[if_neg e]
  refine hst j _ e (fun hs=>?_) (h.v j (hj.imp (fun hj=>by rw[getD_set_ne false (Ne.symm e)]at hj;exact hj) id) (fun i' hi'=>?_))
  ·have:=hsp i hs
   simp[show i<listed.size by omega]at this
  ·by_cases e':i'=i
   ·subst e';exact hu
   ·have:=hsp i' hi';rw[getD_set_ne true (Ne.symm e')]at this;exact this
theorem wpAny_relL {V:Nat→Value→World→Prop} {sp:Nat→Option Nat} {C:World→Prop} {a:Act} (L:Nat) (hd:distinctB ops.toList=true) (hac:acyB ops=true) (hw:waitsAllB md ops L=true) (hL:L<ops.size)
  (hop:∀i,i<ops.size→i≠L→Owes P ops Q md V sp C a i) (hlast:OwesLast P ops Q V sp C a L) :
  ∀(fuel:Nat) (listed:Array Bool) (x:Nat→Value) (w:World),listed.size=ops.size→listed.getD L true=false→(unl ops.size listed).length≤fuel→Stand ops.size V sp C listed x w→wpAny P md ops Q fuel listed (putAll ops.toList 0 x a) w:=by
 intro fuel
 induction fuel with
 | zero=>
  intro listed x w hs hLu hl h
  have:L∈unl ops.size listed:=by unfold unl;rw[List.mem_filter];exact⟨List.mem_range.2 hL,by rw[hLu];rfl⟩
  have:=List.length_pos_of_mem this
  omega
 | succ fuel ih=>
  intro listed x w hs hLu hl h
  refine⟨fun hr=>absurd hr (ready_some hac hs L hL hLu),fun i hi=>?_⟩
  obtain⟨hu,o,ho,rY⟩:=mem_ready.1 hi
  by_cases hiL:i=L
  ·subst hiL
   have hothers:∀j,j<ops.size→j≠i→listed.getD j false=true:=fun j hj hne=>by
    unfold waitsAllB at hw
    rw[List.all_eq_true]at hw
    have:=hw j (List.mem_range.2 hj)
    rw[ho]at this
    simp only[Bool.or_eq_true,beq_iff_eq,hne,false_or,List.any_eq_true,Bool.and_eq_true]at this
    obtain⟨e,he,hb,hon⟩:=this
    rw[←hon]
    exact rY e (by simpa using he) hb
   refine wpOp_step ho (fun K' hK=>hlast x w o ho h.c (fun j hj hsj=>h.v j ?_ (fun i' hi'=>?_)) K' (fun a' W' hq=>hK _ _ ?_))
   ·rcases Nat.lt_or_ge j ops.size with hlt | hge
    ·exact .inl (hothers j hlt hj)
    ·exact .inr hge
   ·rcases hsj with hsj | hsj
    ·rw[hsj]at hi';cases hi'
    ·rw[hsj]at hi';cases hi';exact hu
   ·have hempty:Region.ready md ops (listed.setIfInBounds i true)=[]:=by
     cases hr:Region.ready md ops (listed.setIfInBounds i true)with
     | nil=>rfl
     | cons k l=>
      have hk:k∈Region.ready md ops (listed.setIfInBounds i true):=by rw[hr];simp
      obtain⟨hku,ok,hok,_⟩:=mem_ready.1 hk
      have hks:=(gsi.1 hok).1
      by_cases e:k=i
      ·subst e;simp[show k<listed.size by omega]at hku
      ·rw[getD_set_ne true (Ne.symm e)]at hku
       have:=hothers k hks e
       simp[show k<listed.size by omega]at hku this
       rw[hku]at this;cases this
    cases fuel with
    | zero=>exact⟨hempty,hq⟩
    | succ f=>exact⟨fun _=>hq,by rw[hempty];simp⟩
  ·refine wpOp_step ho (fun K' hK=>hop i (gsi.1 ho).1 hiL x w o ho h.c (stand_deps h ho hi) K' (fun v W' hv hc hst=>hK _ _ ?_))
   rw[tN ops.toList 0 i x a o v (by rw[Array.getElem?_toList];exact ho) hd,Nat.zero_add]
   have:=unl_set (n:=ops.size) hs hu
   exact ih _ _ _ (by simpa using hs) (by rw[getD_set_ne true hiL];exact hLu) (by omega) (stand_step hs h hu hv hc hst)
theorem unl_start (n:Nat):(unl n (Array.replicate n false)).length≤n:=by
 unfold unl
 exact Nat.le_trans (List.length_filter_le _ _) (by simp)
theorem stand_start {V:Nat→Value→World→Prop} {sp:Nat→Option Nat} {C:World→Prop} {n:Nat} {x:Nat→Value} {w:World} (hc:C w) (hV:∀j,n≤j→∀v,V j v w):Stand n V sp C (Array.replicate n false) x w:=
 ⟨hc,fun j hj _=>by
  rcases hj with hj | hj
  ·exfalso
   rcases Nat.lt_or_ge j n with h | h
   ·simp[h]at hj
   ·simp[Array.getElem?_eq_none (show(Array.replicate n false).size≤j by simpa using h)]at hj
  ·exact hV j hj _⟩
def vget (l:List (Value→World→Prop)) (j:Nat):Value→World→Prop:=l.getD j (fun _ _=>True)
theorem vget_ge {l:List (Value→World→Prop)} {n:Nat} (h:l.length=n) (w:World):∀j,n≤j→∀v,vget l j v w:=fun j hj v=>by
 unfold vget
 simp[List.getD,List.getElem?_eq_none (show l.length≤j by omega)]
def StableB (l:List (Value→World→Prop)):Prop:=∀j v W W',Below W.heap.size W W'→vget l j v W→vget l j v W'
theorem stable_nil:StableB []:=fun j v W W' _ _=>by unfold vget;simp
theorem yQ {p:Value→World→Prop} {l:List (Value→World→Prop)} (h:∀v W W',Below W.heap.size W W'→p v W→p v W') (k:StableB l):StableB (p::l):=fun j v W W' hb hv=>by
 cases j with
 | zero=>exact h v W W' hb hv
 | succ j=>exact k j v W W' hb hv
theorem wM {u:Value}:∀v W W',Below W.heap.size W W'→(fun v (_:World)=>v=u) v W→(fun v (_:World)=>v=u) v W':=fun _ _ _ _ h=>h
theorem stable_true:∀(v:Value) W W',Below W.heap.size W W'→(fun (_:Value) (_:World)=>True) v W→(fun (_:Value) (_:World)=>True) v W':=fun _ _ _ _ h=>h
theorem tG {id:Nat} {a:Act} {w:World} (L:Nat) (V:Nat→Value→World→Prop) (sp:Nat→Option Nat) (C:World→Prop) (hm:P.follows .mixedOrders=true) (hd:distinctB ops.toList=true) (hac:acyB ops=true) (hw:waitsAllB .any ops L=true) (hL:L<ops.size)
  (hc:C w.drew) (hV:∀j,ops.size≤j→∀v,V j v w.drew) (hop:∀i,i<ops.size→i≠L→Owes P ops Q .any V sp C a i) (hlast:OwesLast P ops Q V sp C a L):(Code.region id ops true).wp P Q a w:=by
 refine wp_region_any hm ?_
 have:=wpAny_relL (P:=P) (Q:=Q) (md:=.any) (a:=a) L hd hac hw hL hop hlast ops.size (Array.replicate ops.size false) (start ops a) w.drew (by simp) (by simp[hL]) (unl_start _) (stand_start hc hV)
 rw[putAll_init]at this
 exact this
end
end
section
open Go.RowKit Rw Rh
namespace Pl
def nums0 (U:Nat→Nat) (M:List (Nat×Nat)):List Nat:=[U 0,U 1,U 2,U 3,U 4,U 5,U 6,U 7,M.length]
def flat (M:List (Nat×Nat)):List Nat:=M.flatMap (fun d=>[d.1,d.2])
def nums (U:Nat→Nat) (M:List (Nat×Nat)):List Nat:=nums0 U M++flat M
def vints (l:List Nat):List Int:=l.flatMap vint
def toInts (l:List Nat):List Int:=l.map (fun (n:Nat)=>(n:Int))
theorem toInts_append (a b:List Nat):toInts (a++b)=toInts a++toInts b:=by unfold toInts;rw[List.map_append]
end Pl
theorem each_cb (v:Value) (f:Nat) (cb:Array Value) (ds:List (Nat×Nat)) (I:Nat→World→Prop) (w:World) (h0:I 0 w) (hl:ds.length≤1000000000) (hD:∀k W,I k W→DotsC W v ds) (hA:∀k W W',I k W→Below W.heap.size W W'→I k W')
  (hcf:∀(x:Value) (W:World),Sem.run prog (callFunc f (#[x]++cb)) W=.ok (.enter f (#[x]++cb)) W)
  (hC:∀k (hk:k<ds.length) W,I k W→Calls prog f (#[.agg (Qi (ds[k]).1 (ds[k]).2)]++cb) W fun e w'=>e=.returned (.tuple #[])∧I (k+1) w') :
  Calls prog 207 #[v,.func (.func f) #[] cb] w fun e w'=>e=.returned (.tuple #[])∧I ds.length w':=by
 obtain⟨ao,cap,hv,_⟩:=hD 0 w h0
 have HD:=zA hD
 have HA:=zA hA
 have HC:=zA hC
 have HI:=zA h0
 subst hv
 clear hD hA hC h0
 go_enter func207,ntmps207
 go_wp2_with fail
 go_loopw [8] (fun i wr=>∃(k:Nat),k≤ds.length∧i=.int .i64 k∧I k wr) (fun i _=>ds.length - (intOf i).toNat)
 case atStart=>exact⟨0,by omega,rfl,HI.out⟩
 case round=>
  obtain⟨k,hk,rfl,hI⟩:=hrel
  by_cases hlt:k<ds.length
  ·obtain⟨ao',cap',hv,_,h3⟩:=HD.out k wr hI
   cases hv
   obtain⟨g,off,rfl,hg,c0,c1⟩:=h3 k hlt
   have HI2:=zA (HC.out k hlt _ (HA.out k wr (wr.alloc (.cells (Qi (ds[k]).1 (ds[k]).2) 45)) hI (bn _ _)))
   clear h3 hI HI
   generalize ((ds[k]).1:Int)=n at *
   generalize ((ds[k]).2:Int)=s at *
   go_wp2_with fail
   refine HI2.out.mono ?_
   rintro e w5 ⟨rfl,I5⟩
   have HI5:=zA I5
   clear I5 HI2
   go_wp2_with fail
   exact⟨⟨k+1,by omega,rfl,HI5.out⟩,by simp[intOf];omega⟩
  ·obtain rfl:k=ds.length:=by omega
   have HI2:=zA hI
   clear hI HI hlt
   go_wp2_with fail
   exact yD results207 ⟨rfl,HI2.out⟩
def NsAt (base c:Nat) (l:List Nat) (w:World):Prop:=∃m,w.heap[c]?=some (.cells #[m] 34 (0,0))∧OwnR kInt base w m (Pl.toInts l)
theorem nums1_ok (base c n s:Nat) (l:List Nat) (w:World) (h:NsAt base c l w) (hc:base≤w.heap.size) (hl:l.length≤10000) :
  Calls prog 251 #[.agg (Qi n s),Qp c] w fun e w'=>e=.returned (.tuple #[])∧NsAt base c (l++[n,s]) w'∧Off (fun g=>g=c∨base≤g) w w':=by
 obtain⟨m,hx,hm⟩:=h
 have hcs:=(gsi.1 hx).1
 have bw:Below w.heap.size w (w.alloc (.cells (Qi n s) 45)):=bn _ _
 have b2:Below w.heap.size w ((w.alloc (.cells (Qi n s) 45)).alloc (.cells (Qi n s) 3)):=bw.alloc bw.size _
 have hne:m.ownBlock≠some c:=fun eg=>by
  obtain⟨cs,hcs⟩:=zK hm eg
  rw[hx]at hcs;cases hcs
 have qG:=yJ kInt (w.alloc (.cells (Qi n s) 45)) [(n:Int),(s:Int)] (Qi n s) 2 rfl rfl
 rw[zE]at qG
 have qR:=zA (hm.below b2)
 have qC:=zA qG
 have HBB:=zA (b2.mono hc)
 have HC:=zA hc
 have HX1:=zA ((b2.block c hcs).trans hx)
 have HCQ:=zA (Nat.lt_of_lt_of_le hcs b2.size)
 have HNE:=zA hne
 have c0:=zF (j:=0) ((bw.block c hcs).trans hx) rfl
 have HLN:=zA (show(Pl.toInts l).length=l.length from by unfold Pl.toInts;simp)
 clear bw b2 hne hx hm hcs qG
 go_enter func251,ntmps251
 go_wp2_with (
  at_builtin
  refine yT kInt rfl (.tmp 3) (.tmp 8) rfl rfl qR.out rfl qC.out (by rw[HLN.out];simp;omega) HBB.out (Nat.le_trans HC.out (by simp;omega)) ?_
  intro v1 w1 hown1 hb1 hg1
  have x1:=(hg1.block c HCQ.out (fun e=>HNE.out e.symm)).trans HX1.out
  have c1:=cc 0 x1
  have fz:=zB x1 0
  have HX2:=zA x1
  have HO1:=zA hown1
  have HB1:=zA hb1
  have pC:∃ao cap,v1=.slice ao (l.length+2) cap:=by
   obtain⟨ao,cap,e⟩:=hown1.toT.form
   exact⟨ao,cap,by rw[e,List.length_append,HLN.out];rfl⟩
  obtain⟨ao,cap,rfl⟩:=pC
  clear x1 hown1 hb1 hg1)
 have hx2:=zG (j:=0) HX2.out (.slice ao (l.length+2) cap)
 refine yD results251 ⟨rfl,⟨.slice ao (l.length+2) cap,?_,?_⟩,(⟨HB1.out.size,fun g hg hn=>HB1.out.block g (by omega),HB1.out.os,HB1.out.tape,HB1.out.output⟩:Off (fun g=>g=c∨base≤g) w w1).set (a:=⟨c,0,none⟩) (.inl (.inl rfl)) _⟩
 ·refine hx2.trans ?_;simp
 ·rw[Pl.toInts_append]
  refine HO1.out.keep (fun g hg=>Below.heap_setCell _ _ _ _ (fun eg=>?_))
  obtain⟨cs,hcs⟩:=zK HO1.out hg
  rw[show g=c from eg,HX2.out]at hcs;cases hcs
end
end Go.Proofs.YtodlmbfbfaofcaaGreat
