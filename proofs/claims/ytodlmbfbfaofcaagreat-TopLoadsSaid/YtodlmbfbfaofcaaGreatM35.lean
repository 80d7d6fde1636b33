/- TopLoads, part 35. -/
import Derived.Test.YtodlmbfbfaofcaaGreatM01
import Derived.Test.YtodlmbfbfaofcaaGreatM03
import Derived.Test.YtodlmbfbfaofcaaGreatM07
import Derived.Test.YtodlmbfbfaofcaaGreatM27
open Go.Proofs.Tryz
namespace Go.Proofs.YtodlmbfbfaofcaaGreat
set_option linter.unusedVariables false
set_option linter.unusedSimpArgs false
set_option maxRecDepth 100000
set_option maxHeartbeats 1000000
section
open Go Go.RowKit Rw Rh
section
variable {P:Program} {ops:Array Oper} {Q:Exit→Act→World→Prop} {md:Region.Mode} {S:World→Prop} {B:Nat→Bool}
def wpK (P:Program) (md:Region.Mode) (ops:Array Oper) (Q:Exit→Act→World→Prop) (S:World→Prop) (B:Nat→Bool):Nat→Array Bool→Act→World→Prop
 | 0,listed,a,w=>Region.ready md ops listed=[]∧Q .normal a w
 | fuel+1,listed,a,w=>
  (Region.ready md ops listed=[]→Q .normal a w)∧
  ∀i∈Region.ready md ops listed,wpOp P ops Q i (fun a' w'=>(B i=true→S w→S w')∧wpK P md ops Q S B fuel (listed.setIfInBounds i true) a' w') a w
theorem vZ:∀(fuel:Nat) (listed:Array Bool) (a:Act) (w:World),wpK P md ops Q S B fuel listed a w→wpAny P md ops Q fuel listed a w
 | 0,_,_,_,h=>h
 | fuel+1,_,_,_,h=>⟨h.1,fun i hi=>wpOp_mono (fun a' w' h'=>vZ fuel _ a' w' h'.2) (h.2 i hi)⟩
theorem sJ {T:World→Prop} {i:Nat} {oi:Oper} {v:Value} (hi:ops[i]?=some oi) (hsel:∀(j:Nat) (o:Oper) cs b,ops[j]?=some o→o.op≠.select cs b)
  (hstep:∀j oj w w',ops[j]?=some oj→(∀e∈oj.after,Region.binds md e=true→e.on≠i)→(B j=true→S w→S w')→T w→T w')
  (hQ:∀c a w,Q (.panic c) (a.put oi.dst v) w→Q (.panic c) a w) :
  ∀(fuel:Nat) (listed:Array Bool) (a:Act) (w:World),
   (∀j oj,ops[j]?=some oj→j≠i→listed.getD j true=false→(∀e∈oj.after,Region.binds md e=true→e.on≠i)→oi.apart ops oj=true)→
   i∈Region.ready md ops listed→YieldsIf P ops T oi v a→T w→
   wpK P md ops Q S B fuel (listed.setIfInBounds i true) (a.put oi.dst v) w→wpK P md ops Q S B (fuel+1) listed a w:=by
 intro fuel
 induction fuel with
 | zero=>
  intro listed a w _ hr hy hT H
  refine⟨fun h=>(by rw[h]at hr;cases hr),fun j hj=>?_⟩
  by_cases hji:j=i
  ·subst hji;exact hy.wpOp hi hT ⟨fun _ hS=>hS,H⟩
  ·have:=ready_mono hj hji
   rw[H.1]at this
   cases this
 | succ fuel ih=>
  intro listed a w hfree hr hy hT H
  refine⟨fun h=>(by rw[h]at hr;cases hr),fun j hj=>?_⟩
  by_cases hji:j=i
  ·subst hji;exact hy.wpOp hi hT ⟨fun _ hS=>hS,H⟩
  ·have h1:=H.2 j (ready_mono hj hji)
   obtain⟨hjun,oj,hoj,rY⟩:=mem_ready.1 hj
   have pV:∀e∈oj.after,Region.binds md e=true→e.on≠i:=fun e he hb heq=>by
    have h1:=rY e he hb
    have h0:=(mem_ready.1 hr).1
    rw[heq]at h1
    rcases Nat.lt_or_ge i listed.size with h' | h'
    ·simp[h']at h0 h1;rw[h0]at h1;cases h1
    ·simp[Array.getElem?_eq_none h']at h1
   have h2:=wpOp_putIf hoj (hfree j oj hoj hji hjun pV) (fun cs b=>hsel i oi cs b hi) (fun cs b=>hsel j oj cs b hoj) hQ hy h1
   have hfree':∀k ok,ops[k]?=some ok→k≠i→(listed.setIfInBounds j true).getD k true=false→
     (∀e∈ok.after,Region.binds md e=true→e.on≠i)→oi.apart ops ok=true:=fun k ok hk hki hun hno=>by
    refine hfree k ok hk hki ?_ hno
    by_cases hjk:j=k
    ·subst hjk;exact hjun
    ·rw[getD_set_ne true hjk]at hun;exact hun
   refine wpOp_mono (fun a' w' h3=>⟨h3.2.1,ih (listed.setIfInBounds j true) a' w' hfree' (ready_mono hr (Ne.symm hji)) h3.1 (hstep j oj w w' hoj pV h3.2.1 hT) ?_⟩) h2
   rw[Array.setIfInBounds_comm _ _ hji]
   exact h3.2.2
def allWait (md:Region.Mode) (ops:Array Oper) (B:Nat→Bool) (i:Nat):Bool:=
 (List.range ops.size).all fun j=>B j||match ops[j]? with
  | some o=>o.after.toList.any fun e=>Region.binds md e&&e.on == i
  | none=>true
theorem wpK_take {i:Nat} (d:Nat) {oi:Oper} {v:Value} {fuel:Nat} {listed:Array Bool} {a:Act} {w:World} (hi:ops[i]?=some oi) (hd:((ops[i]?).any fun o=>o.dst == some d)=true)
  (hs:Region.noSelect ops=true) (hw:allWait md ops B i=true) (hf:Region.free md ops listed i=true) (hr:(Region.ready md ops listed).contains i=true)
  (hQ:∀c a w,Q (.panic c) (a.put oi.dst v) w→Q (.panic c) a w) (hy:YieldsIf P ops S oi v a) (hS:S w)
  (h:wpK P md ops Q S B fuel (listed.setIfInBounds i true) (a.put (some d) v) w):wpK P md ops Q S B (fuel+1) listed a w:=by
 have e:oi.dst=some d:=by rw[hi]at hd;simpa using hd
 refine sJ (T:=S) hi (Region.noSelect_spec hs) (fun j oj w w' hoj pV hk hT=>?_) hQ fuel listed a w (Region.free_spec hi hf) (by simpa using hr) hy hS (by rw[e];exact h)
 refine hk ?_ hT
 cases hB:B j with
 | true=>rfl
 | false=>
  unfold allWait at hw
  rw[List.all_eq_true]at hw
  have:=hw j (List.mem_range.2 (gsi.1 hoj).1)
  simp only[hB,hoj,Bool.false_or,List.any_eq_true,Bool.and_eq_true,beq_iff_eq]at this
  obtain⟨x,hx,hb,hon⟩:=this
  exact absurd hon (pV x (by simpa using hx) hb)
theorem wpK_pure {i:Nat} (d:Nat) {oi:Oper} {v:Value} {fuel:Nat} {listed:Array Bool} {a:Act} {w:World} (hi:ops[i]?=some oi) (hd:((ops[i]?).any fun o=>o.dst == some d)=true)
  (hs:Region.noSelect ops=true) (hf:Region.free md ops listed i=true) (hr:(Region.ready md ops listed).contains i=true)
  (hQ:∀c a w,Q (.panic c) (a.put oi.dst v) w→Q (.panic c) a w) (hy:YieldsIf P ops (fun _=>True) oi v a)
  (h:wpK P md ops Q S B fuel (listed.setIfInBounds i true) (a.put (some d) v) w):wpK P md ops Q S B (fuel+1) listed a w:=by
 have e:oi.dst=some d:=by rw[hi]at hd;simpa using hd
 exact sJ (T:=fun _=>True) hi (Region.noSelect_spec hs) (fun _ _ _ _ _ _ _ _=>trivial) hQ fuel listed a w (Region.free_spec hi hf) (by simpa using hr) hy trivial (by rw[e];exact h)
theorem xI {i:Nat} {o:Oper} {fuel:Nat} {listed:Array Bool} {a:Act} {w:World} (hr:Region.ready md ops listed=[i]) (ho:ops[i]?=some o)
  (h:∀K':Act→World→Prop,Shut (∀a w',(B i=true→S w→S w')→((B i=true→S w→S w')→wpK P md ops Q S B fuel (listed.setIfInBounds i true) a w')→K' a w')→if Region.wanted o (yielded ops a.tmps)=true then Oper.wp P o a w K' Q else K' (a.put o.dst undef) w) :
  wpK P md ops Q S B (fuel+1) listed a w:=by
 refine⟨fun h0=>(by rw[h0]at hr;cases hr),fun j hj=>?_⟩
 rw[hr]at hj
 cases List.mem_singleton.1 hj
 exact wpOp_step ho (fun K' hK=>h K' (fun a w hS hW=>hK a w ⟨hS,hW hS⟩))
theorem vX {listed:Array Bool} {a:Act} {w:World} (hr:Region.ready md ops listed=[]) (h:Q .normal a w) :
  ∀fuel,wpK P md ops Q S B fuel listed a w
 | 0=>⟨hr,h⟩
 | _+1=>⟨fun _=>h,by rw[hr];simp⟩
theorem wD {id:Nat} {a:Act} {w:World} (S:World→Prop) (B:Nat→Bool) (hm:P.follows .mixedOrders=true) (hS:S w.drew)
  (h:S w.drew→wpK P .any ops Q S B ops.size (Array.replicate ops.size false) a w.drew):(Code.region id ops true).wp P Q a w:=
 wp_region_any hm (vZ _ _ _ _ (h hS))
end
end
section
open Go.RowKit Rw Rh
section
variable {P:Program} {ops:Array Oper} {Q:Exit→Act→World→Prop} {S:World→Prop} {fuel:Nat} {listed:Array Bool} {a:Act} {w:World} {v:Value} {oi:Oper} {B:Nat→Bool}
theorem tf (i d:Nat) {a':Act} (hi:ops[i]?=some oi) (h:wpK P .any ops Q S B fuel (listed.setIfInBounds i true) a' w)
  (ha:∀w,True→(execOp a.eval oi).run P w=.ok (.value v) w:=by intro wS _;go_simp;(try with_reducible rfl))
  (he:a.put (some d) v=a':=by first | (simp only[pt,List.set];done) | (simp only[pt,List.set];exact rfl))
  (hg:Region.wanted oi (yielded ops a.tmps)=true:=by rfl) (hb:okB ops listed i d=true:=by kernel_rfl)
  (hQ:∀c a w,Q (.panic c) (a.put oi.dst v) w→Q (.panic c) a w:=by exact fun _ _ _ h=>h):wpK P .any ops Q S B (fuel+1) listed a w:=by
 obtain⟨h1,h2,h3,h4⟩:=uI hb
 subst he
 exact wpK_pure d hi h1 h2 h3 h4 hQ (.inl ⟨hg,ha⟩) h
theorem tkk (i d:Nat) {a':Act} (hi:ops[i]?=some oi) (ha:∀w,S w→(execOp a.eval oi).run P w=.ok (.value v) w) (h:wpK P .any ops Q S B fuel (listed.setIfInBounds i true) a' w)
  (he:a.put (some d) v=a':=by first | (simp only[pt,List.set];done) | (simp only[pt,List.set];exact rfl))
  (hg:Region.wanted oi (yielded ops a.tmps)=true:=by rfl) (hb:okB ops listed i d=true:=by kernel_rfl) (hw:allWait .any ops B i=true:=by kernel_rfl) (hS:S w:=by assumption)
  (hQ:∀c a w,Q (.panic c) (a.put oi.dst v) w→Q (.panic c) a w:=by exact fun _ _ _ h=>h):wpK P .any ops Q S B (fuel+1) listed a w:=by
 obtain⟨h1,h2,h3,h4⟩:=uI hb
 subst he
 exact wpK_take d hi h1 h2 hw h3 h4 hQ (.inl ⟨hg,ha⟩) hS h
end
end
section
open Go.RowKit Rw Rh
def EvFn (w:World) (g n:Nat) (f:Nat→Pl.Ev):Prop:=∃cs,w.heap[g]?=some (.cells cs 175 (0,0))∧n*14≤cs.size∧∀i,i<n→∀j,j<14→cs[i*14+j]?=(kEv.enc (f i))[j]?
theorem EvFn.below {w w':World} {g n:Nat} {f:Nat→Pl.Ev} (h:EvFn w g n f) (hb:Below w.heap.size w w'):EvFn w' g n f:=by
 obtain⟨cs,h1,h2⟩:=h
 exact⟨cs,(hb.block g (gsi.1 h1).1).trans h1,h2⟩
theorem EvFn.keep {w w':World} {g n:Nat} {f:Nat→Pl.Ev} (h:EvFn w g n f) (k:w'.heap[g]?=w.heap[g]?):EvFn w' g n f:=by
 obtain⟨cs,h1,h2⟩:=h
 exact⟨cs,k.trans h1,h2⟩
theorem EvFn.congr {w:World} {g n:Nat} {f f':Nat→Pl.Ev} (h:EvFn w g n f) (k:∀i,i<n→f i=f' i):EvFn w g n f':=by
 obtain⟨cs,h1,h2,h3⟩:=h
 exact⟨cs,h1,h2,fun i hi j hj=>by rw[←k i hi];exact h3 i hi j hj⟩
theorem EvFn.lt {w:World} {g n:Nat} {f:Nat→Pl.Ev} (h:EvFn w g n f):g<w.heap.size:=by
 obtain⟨cs,h1,h2⟩:=h
 exact(gsi.1 h1).1
theorem EvFn.frozen {w:World} {g n:Nat} {f:Nat→Pl.Ev} (h:EvFn w g n f) (j:Nat):w.frozen? ⟨g,j,none⟩=false:=by
 obtain⟨cs,h1,h2⟩:=h
 exact zB h1 j
theorem EvFn.cell {w:World} {g n:Nat} {f:Nat→Pl.Ev} (h:EvFn w g n f) {i:Nat} (hi:i<n) {j:Nat} {u:Value} (hj:(kEv.enc (f i))[j]?=some u):w.cell? ⟨g,i*14+j,none⟩=some u:=by
 obtain⟨cs,h1,h2,h3⟩:=h
 have hl:j<14:=(List.getElem?_eq_some_iff.1 hj).1
 exact zF h1 ((h3 i hi j hl).trans hj)
def put (f:Nat→Pl.Ev) (i:Nat) (x:Pl.Ev):Nat→Pl.Ev:=fun k=>if k=i then x else f k
theorem EvFn.put {w:World} {g n:Nat} {f:Nat→Pl.Ev} (h:EvFn w g n f) {i:Nat} (hi:i<n) (x:Pl.Ev):EvFn (w.setCells g (i*14) (kEv.enc x)) g n (put f i x):=by
 obtain⟨cs,h1,h2,h3⟩:=h
 obtain⟨cs',k1,k2,k3,k4⟩:=uR g 175 (0,0) (kEv.enc x) (i*14) w cs h1
 refine⟨cs',k1,by omega,fun m hm j hj=>?_⟩
 unfold Go.Proofs.YtodlmbfbfaofcaaGreat.put
 have hl:(kEv.enc x).length=14:=kEv.hlen x
 by_cases e:m=i
 ·subst e
  rw[if_pos rfl]
  exact k3 j (by omega) (by omega)
 ·rw[if_neg e,←h3 m hm j hj]
  exact k4 _ (by omega)
def swp (f:Nat→Pl.Ev) (i j:Nat):Nat→Pl.Ev:=fun k=>if k=i then f j else if k=j then f i else f k
theorem wG (f:Nat→Pl.Ev) (i j:Nat) (h:i≠j):put (put f i (f j)) j (f i)=swp f i j:=by
 funext k
 unfold put swp
 by_cases h1:k=j
 ·rw[if_pos h1]
  by_cases h2:k=i
  ·omega
  ·rw[if_neg h2,if_pos h1]
 ·rw[if_neg h1,if_neg h1]
theorem yX {w:World} {g n:Nat} {f:Nat→Pl.Ev} (h:EvFn w g n f) {i:Nat} (hi:i<n) :
  w.cell? ⟨g,i*14,none⟩=some (.int .i64 (f i).node)∧w.cell? ⟨g,i*14+1,none⟩=some (.int .i64 (f i).seq)∧w.cell? ⟨g,i*14+2,none⟩=some (.int .i64 (f i).time)∧w.cell? ⟨g,i*14+3,none⟩=some (.int .i64 (f i).kind)∧w.cell? ⟨g,i*14+4,none⟩=some (.int .i64 (f i).work)∧w.cell? ⟨g,i*14+5,none⟩=some (.int .i64 (f i).value)∧w.cell? ⟨g,i*14+6,none⟩=some (.int .i64 (f i).mn)∧w.cell? ⟨g,i*14+7,none⟩=some (.int .i64 (f i).mx)∧w.cell? ⟨g,i*14+8,none⟩=some (.int .i64 (f i).goal)∧w.cell? ⟨g,i*14+9,none⟩=some (.int .i64 (f i).slack)∧w.cell? ⟨g,i*14+10,none⟩=some (.int .i64 (f i).up)∧w.cell? ⟨g,i*14+11,none⟩=some (.int .i64 (f i).down)∧w.cell? ⟨g,i*14+12,none⟩=some (.int .i64 (f i).cool)∧w.cell? ⟨g,i*14+13,none⟩=some (.slice none 0 0):=
 ⟨h.cell hi (j:=0) rfl,h.cell hi (j:=1) rfl,h.cell hi (j:=2) rfl,h.cell hi (j:=3) rfl,h.cell hi (j:=4) rfl,h.cell hi (j:=5) rfl,h.cell hi (j:=6) rfl,h.cell hi (j:=7) rfl,h.cell hi (j:=8) rfl,h.cell hi (j:=9) rfl,h.cell hi (j:=10) rfl,h.cell hi (j:=11) rfl,h.cell hi (j:=12) rfl,h.cell hi (j:=13) rfl⟩
theorem wR (g cap n a b m:Nat) (fn:Value) (f:Nat→Pl.Ev) (w:World) (h:EvFn w g n f) (hab:a+m≤b) (hb:b+m≤n) (hn:n≤1000) :
  Calls prog 409 #[.slice (some ⟨g,0,none⟩) n cap,.int .i64 a,.int .i64 b,.int .i64 m,fn] w fun r w'=>r=.returned (.tuple #[])∧EvFn w' g n (fun k=>if a≤k∧k<a+m then f (k - a+b)else if b≤k∧k<b+m then f (k - b+a)else f k)∧Off (· = g) w w':=by
 have H:=zA h
 have HAB:=zA hab
 have HBN:=zA hb
 have HN:=zA hn
 clear h hab hb hn
 go_enter func409,ntmps409
 go_wp2_with fail
 go_loopw [10] (fun i wr=>∃(k:Nat),k≤m∧i=.int .i64 k∧EvFn wr g n (fun q=>if a≤q∧q<a+k then f (q - a+b)else if b≤q∧q<b+k then f (q - b+a)else f q)∧Off (· = g) w wr) (fun i _=>m - (intOf i).toNat)
 case atStart=>exact⟨0,by omega,rfl,H.out.congr (fun i hi=>by rw[if_neg (by omega),if_neg (by omega)]),Off.refl _ _⟩
 case round=>
  obtain⟨k,hk,rfl,hr,ho⟩:=hrel
  by_cases hlt:k<m
  ·have a1:(k:Int)+1≤9223372036854775807:=by have:=HBN.out;have:=HN.out;omega
   have a2:((a:Int)+k)=((a+k:Nat):Int):=by omega
   have a3:((b:Int)+k)=((b+k:Nat):Int):=by omega
   have hF:=hr
   generalize hFF:(fun q=>if a≤q∧q<a+k then f (q - a+b)else if b≤q∧q<b+k then f (q - b+a)else f q)=F at *
   have HFF:=zA hFF
   have HR:=zA hr
   have HO:=zA ho
   clear hFF hr ho hF
   have a4:((a:Int)+k).toNat=a+k:=by omega
   have a5:((b:Int)+k).toNat=b+k:=by omega
   have a6:(a:Int)+k<n:=by have:=HAB.out;have:=HBN.out;omega
   have a7:(b:Int)+k<n:=by have:=HBN.out;omega
   have a8:(0:Int)≤(a:Int)+k:=by omega
   have a9:(0:Int)≤(b:Int)+k:=by omega
   have b1:IntKind.i64.wrap ((a:Int)+k)=(a:Int)+k:=by rw[IntKind.wrap_i64];have:=HN.out;omega
   have b2:IntKind.i64.wrap ((b:Int)+k)=(b:Int)+k:=by rw[IntKind.wrap_i64];have:=HN.out;omega
   have HI:=zA (show a+k<n by omega)
   have HJ:=zA (show b+k<n by omega)
   have HNE:=zA (show a+k≠b+k by have:=HAB.out;omega)
   clear a2 a3
   go_wp2_with fail
   refine wD (fun W=>EvFn W g n F) (fun i=> !(i == 21||i == 23)) (by kernel_rfl) (HR.out.keep rfl) (fun rV=>?_)
   have HOd:=zA (show Off (· = g) w wr.drew from⟨HO.out.size,HO.out.same,HO.out.rest⟩)
   clear HR HO
   generalize wr.drew=Wd at *
   refine tf 0 16 rfl ?_
   refine tf 1 17 rfl ?_
   refine tf 2 18 rfl ?_
   refine tf 3 19 rfl ?_
   refine tf 4 20 rfl ?_
   refine tf 5 21 rfl ?_
   refine tf 6 22 rfl ?_
   refine tf 7 23 rfl ?_
   refine tf 8 24 rfl ?_
   refine tf 9 25 rfl ?_
   refine tf 10 26 rfl ?_
   refine tf 11 27 rfl ?_
   refine tf 12 28 rfl ?_
   refine tkk 13 29 rfl (by intro wS hSw;obtain⟨y0,y1,y2,y3,y4,y5,y6,y7,y8,y9,y10,y11,y12,y13⟩:=yX hSw (i:=(b+k)) HJ.out;clear hSw;go_simp;(try with_reducible rfl)) ?_
   refine tf 14 30 rfl ?_
   refine tf 15 31 rfl ?_
   refine tf 16 32 rfl ?_
   refine tf 17 33 rfl ?_
   refine tf 18 34 rfl ?_
   refine tkk 19 35 rfl (by intro wS hSw;obtain⟨y0,y1,y2,y3,y4,y5,y6,y7,y8,y9,y10,y11,y12,y13⟩:=yX hSw (i:=(a+k)) HI.out;clear hSw;go_simp;(try with_reducible rfl)) ?_
   refine tf 20 36 rfl ?_
   obtain⟨y0,y1,y2,y3,y4,y5,y6,y7,y8,y9,y10,y11,y12,y13⟩:=yX rV (i:=(a+k)) HI.out
   have fz:=EvFn.frozen rV
   refine xI (i:=21) (by kernel_rfl) rfl (fun K hK=>?_)
   go_simp
   refine hK.out _ _ (fun h=>absurd h (by decide)) (fun _=>?_)
   clear hK K
   try simp only[zN]
   have hz1:=EvFn.put rV (i:=(a+k)) HI.out (F (b+k))
   have hst:Wd.setCells g ((a+k)*14) (kEv.enc (F (b+k)))=(Qhe Wd g ((a+k)*14) ((F (b+k))):World):=rfl
   have ho1:=Off.setCells HOd.out g ((a+k)*14) (kEv.enc (F (b+k))) rfl
   rw[hst]at hz1 ho1
   clear hst rV y0 y1 y2 y3 y4 y5 y6 y7 y8 y9 y10 y11 y12 y13 fz
   generalize (Qhe Wd g ((a+k)*14) ((F (b+k))):World)=Z1 at *
   have HZ1:=zA hz1
   have HO1:=zA ho1
   clear hz1 ho1
   refine xI (i:=22) (by kernel_rfl) rfl (fun K hK=>?_)
   go_simp
   refine hK.out _ _ (fun _ h=>h) (fun _=>?_)
   clear hK K
   try simp only[zN]
   obtain⟨y0,y1,y2,y3,y4,y5,y6,y7,y8,y9,y10,y11,y12,y13⟩:=yX HZ1.out (i:=(b+k)) HJ.out
   have fz:=EvFn.frozen HZ1.out
   refine xI (i:=23) (by kernel_rfl) rfl (fun K hK=>?_)
   go_simp
   refine hK.out _ _ (fun h=>absurd h (by decide)) (fun _=>?_)
   clear hK K
   try simp only[zN]
   have hz2:=EvFn.put HZ1.out (i:=(b+k)) HJ.out (F (a+k))
   have hst:Z1.setCells g ((b+k)*14) (kEv.enc (F (a+k)))=(Qhe Z1 g ((b+k)*14) ((F (a+k))):World):=rfl
   have ho2:=Off.setCells HO1.out g ((b+k)*14) (kEv.enc (F (a+k))) rfl
   rw[hst]at hz2 ho2
   rw[wG _ _ _ HNE.out]at hz2
   clear hst y0 y1 y2 y3 y4 y5 y6 y7 y8 y9 y10 y11 y12 y13 fz
   generalize (Qhe Z1 g ((b+k)*14) ((F (a+k))):World)=Z2 at *
   have HZ2:=zA hz2
   have HO2:=zA ho2
   clear hz2 ho2
   refine vX (by kernel_rfl) ?_ _
   go_wp2_with fail
   refine⟨⟨k+1,by omega,rfl,HZ2.out.congr (fun q hq=>?_),HO2.out⟩,by simp[intOf];omega⟩
   have:=HAB.out
   unfold swp
   rw[←HFF.out]
   simp only[]
   (repeat' split)<;>first | omega | rfl | (congr 1;omega) | (congr 1)
  ·obtain rfl:k=m:=by omega
   have HR:=zA hr
   have HO:=zA ho
   clear hr ho hlt hk
   go_wp2_with fail
   exact yD results409 ⟨rfl,HR.out,HO.out⟩
def swf (f:Nat→Pl.Ev) (a b m:Nat):Nat→Pl.Ev:=fun k=>if a≤k∧k<a+m then f (k - a+b)else if b≤k∧k<b+m then f (k - b+a)else f k
def rot (f:Nat→Pl.Ev) (s i j:Nat):Nat→Pl.Ev:=fun k=>if s≤k∧k<s+j then f (k+i)else if s+j≤k∧k<s+j+i then f (k - j)else f k
theorem rot_gt (f:Nat→Pl.Ev) (s i j:Nat) (h:j<i):rot (swf f s (s+i) j) (s+j) (i - j) j=rot f s i j:=by
 funext k
 unfold rot swf
 (try simp only[])
 (repeat' split)<;>first | omega | rfl | (congr 1;omega)
theorem rot_lt (f:Nat→Pl.Ev) (s i j:Nat) (h:i<j):rot (swf f s (s+j) i) s i (j - i)=rot f s i j:=by
 funext k
 unfold rot swf
 (try simp only[])
 (repeat' split)<;>first | omega | rfl | (congr 1;omega)
theorem rot_eq (f:Nat→Pl.Ev) (s i:Nat):swf f s (s+i) i=rot f s i i:=by
 funext k
 unfold rot swf
 (try simp only[])
 (repeat' split)<;>first | omega | rfl | (congr 1;omega)
theorem rot_up (f:Nat→Pl.Ev) (a d:Nat):swp (rot f a 1 d) (a+d) (a+d+1)=rot f a 1 (d+1):=by
 funext k
 unfold rot swp
 (try simp only[])
 (repeat' split)<;>first | omega | rfl | (congr 1;omega)
theorem rot_down (f:Nat→Pl.Ev) (k d:Nat) (h:0<k):swp (rot f k d 1) k (k - 1)=rot f (k - 1) (d+1) 1:=by
 funext x
 unfold rot swp
 (try simp only[])
 (repeat' split)<;>first | omega | rfl | (congr 1;omega)
theorem rot_none (f:Nat→Pl.Ev) (a i:Nat):rot f a i 0=f:=by
 funext x
 unfold rot
 (repeat' split)<;>first | omega | rfl | (congr 1;omega)
theorem sL (f:Nat→Pl.Ev) (a j:Nat):rot f a 0 j=f:=by
 funext x
 unfold rot
 (repeat' split)<;>first | omega | rfl | (congr 1;omega)
theorem rot_left (f:Nat→Pl.Ev) (a p q r:Nat):rot (rot f a p q) (a+q) p r=rot f a p (q+r):=by
 funext x
 unfold rot
 (try simp only[])
 (repeat' split)<;>first | omega | rfl | (congr 1;omega)
theorem rot_right (f:Nat→Pl.Ev) (a p q r:Nat):rot (rot f (a+r) p q) a r q=rot f a (r+p) q:=by
 funext x
 unfold rot
 (try simp only[])
 (repeat' split)<;>first | omega | rfl | (congr 1;omega)
theorem vF (x y:Pl.Ev) (w:World) (h:x.seq>y.seq):Calls prog 261 #[evv x,evv y] w fun r w'=>r=.returned (.int .i64 (-1))∧Below w.heap.size w w':=by
 have b1:=bn w (.cells x 175)
 have b2:=b1.alloc b1.size (.cells y 175)
 have hx1:=heap_alloc_new w (.cells x 175)
 have hx2:=((bn _ (.cells y 175)).block _ (gsi.1 hx1).1).trans hx1
 have hy2:=heap_alloc_new (w.alloc (.cells x 175)) (.cells y 175)
 rw[zE]at hy2
 have HB:=zA b2
 have c1:=cc 1 hx2
 have d1:=cc 1 hy2
 have g1:y.seq<x.seq:=h
 clear b1 b2 hx1 hx2 hy2 h
 go_enter func261,ntmps261
 go_wp2_with fail
 go_ret
 exact⟨rfl,HB.out⟩
theorem vH (g cap n a m b:Nat) (fn:Value) (f:Nat→Pl.Ev) (w:World) (h:EvFn w g n f) (ham:a<m) (hmb:m<b) (hb:b≤n) (hn:n≤1000) :
  Calls prog 392 #[.slice (some ⟨g,0,none⟩) n cap,.int .i64 a,.int .i64 m,.int .i64 b,fn] w fun r w'=>r=.returned (.tuple #[])∧EvFn w' g n (rot f a (m - a) (b - m))∧Off (· = g) w w':=by
 have H:=zA h
 have HAM:=zA ham
 have HMB:=zA hmb
 have HBN:=zA hb
 have HN:=zA hn
 have w1:IntKind.i64.wrap ((m:Int) - a)=((m - a:Nat):Int):=by rw[IntKind.wrap_i64];omega
 have w2:IntKind.i64.wrap ((b:Int) - m)=((b - m:Nat):Int):=by rw[IntKind.wrap_i64];omega
 clear h ham hmb hb hn
 go_enter func392,ntmps392
 go_wp2_with fail
 go_loopw [10,11] (fun i j wr=>∃(p q:Nat) (F:Nat→Pl.Ev),0<p∧0<q∧p≤m∧m+q≤n∧i=.int .i64 p∧j=.int .i64 q∧EvFn wr g n F∧rot F (m - p) p q=rot f a (m - a) (b - m)∧Off (· = g) w wr) (fun i j _=>(intOf i).toNat+(intOf j).toNat)
 case atStart=>
  have:=HAM.out
  have:=HMB.out
  have:=HBN.out
  exact⟨m - a,b - m,f,by omega,by omega,by omega,by omega,rfl,rfl,H.out,by rw[show m - (m - a)=a from by omega],Off.refl _ _⟩
 case round=>
  obtain⟨p,q,F,hp,hq,hpm,hqn,rfl,rfl,hr,hrot,ho⟩:=hrel
  have HR:=zA hr
  have HO:=zA ho
  have HROT:=zA hrot
  have HP:=zA hp
  have HQ:=zA hq
  have HPM:=zA hpm
  have HQN:=zA hqn
  have w3:IntKind.i64.wrap ((m:Int) - p)=((m - p:Nat):Int):=by rw[IntKind.wrap_i64];have:=HN.out;omega
  clear hp hq hpm hqn hr hrot ho w1 w2
  rcases Nat.lt_trichotomy p q with hpq | hpq | hpq
  ·have g1:((p:Int) != q)=true:=by simp;omega
   have g2:¬(q:Int)<p:=by omega
   have w4:IntKind.i64.wrap ((m:Int)+q)=(m:Int)+q:=by rw[IntKind.wrap_i64];have:=HQN.out;have:=HN.out;omega
   have w5:IntKind.i64.wrap ((m:Int)+q - p)=((m+q - p:Nat):Int):=by rw[IntKind.wrap_i64];have:=HQN.out;have:=HN.out;omega
   have w6:IntKind.i64.wrap ((q:Int) - p)=((q - p:Nat):Int):=by rw[IntKind.wrap_i64];have:=HQN.out;have:=HN.out;omega
   have HPQ:=zA hpq
   clear hpq
   go_wp2_with fail
   refine(wR g cap n (m - p) (m+q - p) p fn F wr HR.out (by have:=HPM.out;have:=HPQ.out;omega) (by have:=HPM.out;have:=HQN.out;have:=HPQ.out;omega) HN.out).mono ?_
   rintro x w1 ⟨rfl,h1,h2⟩
   have HR1:=zA h1
   have HO1:=zA (HO.out.trans h2)
   clear h1 h2
   go_wp2_with fail
   have:=HPM.out;have:=HPQ.out;have:=HP.out;have:=HQN.out
   refine⟨⟨p,q - p,_,HP.out,by omega,HPM.out,by omega,rfl,rfl,HR1.out,?_,HO1.out⟩,by simp[intOf];omega⟩
   rw[←HROT.out,←rot_lt F (m - p) p q HPQ.out,show m - p+q=m+q - p from by omega]
   rfl
  ·subst hpq
   have g1:((p:Int) != p)=false:=by simp
   go_wp2_with fail
   refine(wR g cap n (m - p) m p fn F wr HR.out (by have:=HPM.out;omega) HQN.out HN.out).mono ?_
   rintro x w1 ⟨rfl,h1,h2⟩
   have HR1:=zA h1
   have HO1:=zA (HO.out.trans h2)
   clear h1 h2
   go_wp2_with fail
   refine yD results392 ⟨rfl,?_,HO1.out⟩
   rw[←HROT.out,←rot_eq F (m - p) p]
   have:=HPM.out
   rw[show m - p+p=m from by omega]
   exact HR1.out
  ·have g1:((p:Int) != q)=true:=by simp;omega
   have g2:(q:Int)<p:=by omega
   have w6:IntKind.i64.wrap ((p:Int) - q)=((p - q:Nat):Int):=by rw[IntKind.wrap_i64];have:=HPM.out;have:=HQN.out;have:=HN.out;omega
   have HPQ:=zA hpq
   clear hpq
   go_wp2_with fail
   refine(wR g cap n (m - p) m q fn F wr HR.out (by have:=HPM.out;have:=HPQ.out;omega) HQN.out HN.out).mono ?_
   rintro x w1 ⟨rfl,h1,h2⟩
   have HR1:=zA h1
   have HO1:=zA (HO.out.trans h2)
   clear h1 h2
   go_wp2_with fail
   have:=HPM.out;have:=HPQ.out;have:=HQ.out;have:=HQN.out
   refine⟨⟨p - q,q,_,by omega,HQ.out,by omega,HQN.out,rfl,rfl,HR1.out,?_,HO1.out⟩,by simp[intOf];omega⟩
   have e:=rot_gt F (m - p) p q HPQ.out
   rw[show m - p+q=m - (p - q)from by omega,show m - p+p=m from by omega]at e
   rw[←HROT.out,←e]
   rfl
end
end Go.Proofs.YtodlmbfbfaofcaaGreat
