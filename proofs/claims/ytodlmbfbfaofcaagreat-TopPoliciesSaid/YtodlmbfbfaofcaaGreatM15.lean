/- TopPolicies, part 15. -/
import Derived.Test.YtodlmbfbfaofcaaGreatM01
import Derived.Test.YtodlmbfbfaofcaaGreatM02
import Derived.Test.YtodlmbfbfaofcaaGreatM04
import Derived.Test.YtodlmbfbfaofcaaGreatM08
import Derived.Test.YtodlmbfbfaofcaaGreatM14
open Go.Proofs.Tryz
namespace Go.Proofs.YtodlmbfbfaofcaaGreat
set_option linter.unusedVariables false
set_option linter.unusedSimpArgs false
set_option maxRecDepth 100000
set_option maxHeartbeats 1000000
section
open Go.RowKit Rw Rh
set_option maxRecDepth 100000
namespace Pl
def Ev.pol (e:Ev):List Nat:=if e.kind=2 then[e.mn.toNat,e.mx.toNat,e.goal.toNat,e.slack.toNat,e.up.toNat,e.down.toNat,e.cool.toNat]else[]
def Ev.nums (e:Ev):List Nat:=[e.node.toNat,e.seq.toNat,e.time.toNat,e.kind.toNat,e.work.toNat]++(if e.kind=1 then[e.value.toNat]else e.pol++(e.rm.length::flat e.rm))
structure Ev.Ok (e:Ev):Prop where
 dot:∃n s,e.Dot n s∧Nam n s e.rm
 right:e.right=true
 rn:e.rn=e.rm.length
theorem inside_nat {x lo hi:Int} (h:inside x lo hi=true) (hl:0≤lo):∃n:Nat,x=n∧lo≤n∧(n:Int)≤hi:=by
 unfold inside at h
 simp only[Bool.and_eq_true,decide_eq_true_eq]at h
 exact⟨x.toNat,by omega,by omega,by omega⟩
structure Ev.Bd (e:Ev):Prop where
 node:0≤e.node∧e.node≤7
 seq:1≤e.seq∧e.seq≤96
 time:1≤e.time∧e.time≤1099511627776
 work:0≤e.work∧e.work≤7
 one:e.kind=1→e.still=true∧(0≤e.value∧e.value≤1099511627776)∧e.rm=[]
 two:e.kind=2→e.value=0∧(0≤e.mx∧e.mx≤1000)∧(0≤e.mn∧e.mn≤e.mx)∧(1≤e.goal∧e.goal≤1073741824)∧(0≤e.slack∧e.slack≤100)∧(1≤e.up∧e.up≤1000)∧(1≤e.down∧e.down≤1000)∧(0≤e.cool∧e.cool≤1000)
 three:e.kind=3→e.still=true∧e.value=0
 kind:e.kind=1∨e.kind=2∨e.kind=3
theorem vP (x lo hi:Int):inside x lo hi=true↔lo≤x∧x≤hi:=by unfold inside;simp
theorem Ev.Ok.bd {e:Ev} (h:e.Ok):e.Bd:=by
 obtain⟨⟨n,s,⟨h1,h2,h3,h4,h5⟩,hN⟩,hr,hn⟩:=h
 unfold Ev.right at hr
 simp only[Bool.and_eq_true,vP]at hr
 obtain⟨ht,hw,hr⟩:=hr
 by_cases k1:e.kind=1
 ·simp only[k1,if_true,Bool.and_eq_true,vP,beq_iff_eq]at hr
  exact⟨by omega,by omega,ht,hw,fun _=>⟨hr.1,hr.2.1,List.eq_nil_of_length_eq_zero (by rw[←hn];exact hr.2.2)⟩,fun k=>by omega,fun k=>by omega,.inl k1⟩
 ·by_cases k2:e.kind=2
  ·simp[k2,Ev.polOk,vP]at hr
   obtain⟨⟨p1,p2,p3,p4,p5,p6,p7⟩,hv⟩:=hr
   exact⟨by omega,by omega,ht,hw,fun k=>by omega,fun _=>⟨hv,p1,p2,p3,p4,p5,p6,p7⟩,fun k=>by omega,.inr (.inl k2)⟩
  ·by_cases k3:e.kind=3
   ·simp[k3]at hr
    exact⟨by omega,by omega,ht,hw,fun k=>by omega,fun k=>by omega,fun _=>hr,.inr (.inr k3)⟩
   ·simp[k1,k2,k3]at hr
theorem flat_len (ds:List (Nat×Nat)):(flat ds).length=2*ds.length:=by
 unfold flat
 induction ds with
 | nil=>rfl
 | cons d ds ih=>rw[List.flatMap_cons,List.length_append,ih];simp;omega
theorem flat_get (ds:List (Nat×Nat)) (i:Nat) (h:i<ds.length):(flat ds)[2*i]?=some (ds[i]).1∧(flat ds)[2*i+1]?=some (ds[i]).2:=by
 induction ds generalizing i with
 | nil=>cases h
 | cons d ds ih=>
  unfold flat at *
  rw[List.flatMap_cons]
  cases i with
  | zero=>exact⟨rfl,rfl⟩
  | succ i=>
   have:=ih i (by simpa using h)
   rw[show 2*(i+1)=2*i+1+1 from by omega]
   simpa using this
theorem Ev.Ok.small {e:Ev} (h:e.Ok):∀n∈e.nums,n≤1099511627776:=by
 have hb:=h.bd
 obtain⟨n,s,_,hN⟩:=h.dot
 have hd:=hb.node;have hs:=hb.seq;have ht:=hb.time;have hw:=hb.work;have hk:=hb.kind
 intro x hx
 unfold Ev.nums at hx
 rcases List.mem_append.1 hx with hx | hx
 ·simp at hx
  rcases hx with rfl | rfl | rfl | rfl | rfl<;>omega
 ·split at hx
  ·rename_i k
   have:=(hb.one k).2.1
   simp at hx;omega
  ·rcases List.mem_append.1 hx with hx | hx
   ·unfold Ev.pol at hx
    split at hx
    ·rename_i k
     have:=hb.two k
     simp at hx
     rcases hx with rfl | rfl | rfl | rfl | rfl | rfl | rfl<;>omega
    ·simp at hx
   ·rcases List.mem_cons.1 hx with rfl | hx
    ·have:=hN.len;omega
    ·unfold flat at hx
     exact mW
theorem Ev.Ok.len {e:Ev} (h:e.Ok):e.nums.length≤210:=by
 obtain⟨n,s,_,hN⟩:=h.dot
 have:=hN.len
 unfold Ev.nums Ev.pol
 simp only[List.length_append]
 (repeat' split)<;>simp[flat_len]<;>omega
def Ev.c (e:Ev):Nat:=if e.kind=2 then 12 else 5
theorem Ev.nums_len {e:Ev} (k:e.kind≠1):e.nums.length=e.c+1+2*e.rm.length:=by
 unfold Ev.nums Ev.pol Ev.c
 rw[if_neg k]
 split<;>simp[flat_len]<;>omega
theorem Ev.nums_n {e:Ev} (k:e.kind≠1):e.nums[e.c]?=some e.rm.length:=by
 unfold Ev.nums Ev.pol Ev.c
 rw[if_neg k]
 split<;>simp
theorem Ev.nums_d {e:Ev} (k:e.kind≠1) (i:Nat) (h:i<e.rm.length):e.nums[e.c+1+2*i]?=some (e.rm[i]).1∧e.nums[e.c+2+2*i]?=some (e.rm[i]).2:=by
 have:=flat_get e.rm i h
 unfold Ev.nums Ev.pol Ev.c
 rw[if_neg k]
 split
 ·rw[show 12+1+2*i=2*i+1+12 from by omega,show 12+2+2*i=2*i+1+1+12 from by omega]
  simpa using this
 ·rw[show 5+1+2*i=2*i+1+5 from by omega,show 5+2+2*i=2*i+1+1+5 from by omega]
  simpa using this
end Pl
theorem eva_num {e:Pl.Ev} (he:e.Ok) (k:e.kind≠1) (q:Nat) (hq:q<e.c):∃x,e.nums[q]?=some x∧(eva e)[(if q<5 then q else q+1)]?=some (.int .i64 (x:Nat)):=by
 have hb:=he.bd
 have hd:=hb.node;have hs:=hb.seq;have ht:=hb.time;have hw:=hb.work;have hk:=hb.kind;have h2:=hb.two
 unfold Pl.Ev.c at hq
 unfold Pl.Ev.nums Pl.Ev.pol
 rw[if_neg k]
 split at hq
 ·rename_i k2
  have h2:=h2 k2
  rw[if_pos k2]
  match q,hq with
  | 0,_=>exact⟨e.node.toNat,rfl,by show some (Value.int .i64 e.node)=_;congr 2;omega⟩
  | 1,_=>exact⟨e.seq.toNat,rfl,by show some (Value.int .i64 e.seq)=_;congr 2;omega⟩
  | 2,_=>exact⟨e.time.toNat,rfl,by show some (Value.int .i64 e.time)=_;congr 2;omega⟩
  | 3,_=>exact⟨e.kind.toNat,rfl,by show some (Value.int .i64 e.kind)=_;congr 2;omega⟩
  | 4,_=>exact⟨e.work.toNat,rfl,by show some (Value.int .i64 e.work)=_;congr 2;omega⟩
  | 5,_=>exact⟨e.mn.toNat,rfl,by show some (Value.int .i64 e.mn)=_;congr 2;omega⟩
  | 6,_=>exact⟨e.mx.toNat,rfl,by show some (Value.int .i64 e.mx)=_;congr 2;omega⟩
  | 7,_=>exact⟨e.goal.toNat,rfl,by show some (Value.int .i64 e.goal)=_;congr 2;omega⟩
  | 8,_=>exact⟨e.slack.toNat,rfl,by show some (Value.int .i64 e.slack)=_;congr 2;omega⟩
  | 9,_=>exact⟨e.up.toNat,rfl,by show some (Value.int .i64 e.up)=_;congr 2;omega⟩
  | 10,_=>exact⟨e.down.toNat,rfl,by show some (Value.int .i64 e.down)=_;congr 2;omega⟩
  | 11,_=>exact⟨e.cool.toNat,rfl,by show some (Value.int .i64 e.cool)=_;congr 2;omega⟩
  | q+12,hq=>exact absurd hq lD
 ·rename_i k2
  rw[if_neg k2]
  match q,hq with
  | 0,_=>exact⟨e.node.toNat,rfl,by show some (Value.int .i64 e.node)=_;congr 2;omega⟩
  | 1,_=>exact⟨e.seq.toNat,rfl,by show some (Value.int .i64 e.seq)=_;congr 2;omega⟩
  | 2,_=>exact⟨e.time.toNat,rfl,by show some (Value.int .i64 e.time)=_;congr 2;omega⟩
  | 3,_=>exact⟨e.kind.toNat,rfl,by show some (Value.int .i64 e.kind)=_;congr 2;omega⟩
  | 4,_=>exact⟨e.work.toNat,rfl,by show some (Value.int .i64 e.work)=_;congr 2;omega⟩
  | q+5,hq=>exact absurd hq lD
theorem eva_num1 {e:Pl.Ev} (he:e.Ok) (k:e.kind=1) (q:Nat) (hq:q<6):∃x,e.nums[q]?=some x∧(eva e)[q]?=some (.int .i64 (x:Nat)):=by
 have hb:=he.bd
 have hd:=hb.node;have hs:=hb.seq;have ht:=hb.time;have hw:=hb.work;have h1:=(hb.one k).2.1
 unfold Pl.Ev.nums
 rw[if_pos k]
 match q,hq with
 | 0,_=>exact⟨e.node.toNat,rfl,by show some (Value.int .i64 e.node)=_;congr 2;omega⟩
 | 1,_=>exact⟨e.seq.toNat,rfl,by show some (Value.int .i64 e.seq)=_;congr 2;omega⟩
 | 2,_=>exact⟨e.time.toNat,rfl,by show some (Value.int .i64 e.time)=_;congr 2;omega⟩
 | 3,_=>exact⟨e.kind.toNat,rfl,by show some (Value.int .i64 e.kind)=_;congr 2;omega⟩
 | 4,_=>exact⟨e.work.toNat,rfl,by show some (Value.int .i64 e.work)=_;congr 2;omega⟩
 | 5,_=>exact⟨e.value.toNat,rfl,by show some (Value.int .i64 e.value)=_;congr 2;omega⟩
 | q+6,hq=>exact absurd hq lD
theorem Pl.Ev.nums_len1 {e:Pl.Ev} (k:e.kind=1):e.nums.length=6:=by unfold Pl.Ev.nums;rw[if_pos k];rfl
def Is (w:World) (e:Pl.Ev):Prop:=DotsT w (.slice e.ro e.rn e.rc) e.rm
theorem Is.below {w w':World} {e:Pl.Ev} (h:Is w e) (hb:Below w.heap.size w w'):Is w' e:=DotsT.below h hb
theorem Is.off {F:Nat→Prop} {w w':World} {e:Pl.Ev} (h:Is w e) (o:Off F w w') (k:∀(g:Nat) (cs:Array Value) (fr:Nat×Nat),w.heap[g]?=some (Obj.cells cs 45 fr)→¬F g):Is w' e:=
 DotsT.keep h (fun g cs fr hg=>o.same g (gsi.1 hg).1 (k g cs fr hg))
theorem dots_at {w:World} {ro:Option Addr} {rn rc:Nat} {ds:List (Nat×Nat)} (h:DotsT w (.slice ro rn rc) ds) (i:Nat) (hi:i<ds.length):∃g off,ro=some ⟨g,off,none⟩∧g<w.heap.size∧w.cell? ⟨g,off+i*2,none⟩=some (.int .i64 (ds[i]).1)∧w.cell? ⟨g,off+i*2+1,none⟩=some (.int .i64 (ds[i]).2):=by
 obtain⟨ao,cap,h1,h2,h3⟩:=h.toC
 cases h1
 exact h3 i hi
def WrI (base p eb:Nat) (C:Array Value) (bs:List Int) (L:List Nat) (w0:World) (k:Nat) (W:World):Prop:=
 WrAt base W p (bs++Pl.vints (L.take k))∧W.heap[eb]?=some (.cells C 175 (0,0))∧Off (· = p) w0 W∧base≤W.heap.size
theorem WrI.below {base p eb:Nat} {C:Array Value} {bs:List Int} {L:List Nat} {w0 W W':World} {k:Nat} (h:WrI base p eb C bs L w0 k W) (hb:Below W.heap.size W W'):WrI base p eb C bs L w0 k W':=
 ⟨h.1.below hb,zZ hb h.2.1,h.2.2.1.trans (Off.of_below hb),Nat.le_trans h.2.2.2 hb.size⟩
theorem wstep (base p eb g j k x:Nat) (C:Array Value) (bs:List Int) (L:List Nat) (w0 W:World) (h:WrI base p eb C bs L w0 k W) (hk:L[k]?=some x) (hg:W.cell? ⟨g,j,none⟩=some (.int .i64 (x:Nat))) (hgl:g<W.heap.size)
  (hL:∀n∈L,n≤1099511627776) (hl:L.length≤210) (hb:bs.length≤800000) :
  Calls prog 252 #[Qp p,.pointer (some ⟨g,j,none⟩)] W fun e w'=>e=.returned (.tuple #[])∧WrI base p eb C bs L w0 (k+1) w'∧Off (· = p) W w':=by
 obtain⟨h1,h2,h3,h4⟩:=h
 obtain⟨hk2,rfl⟩:=List.getElem?_eq_some_iff.1 hk
 have hv:=Pl.vints_len (L.take k) (fun n hn=>hL n (List.mem_of_mem_take hn))
 rw[List.length_take]at hv
 refine(wnum_ok base p g j L[k] _ W h1 h4 (by rw[List.length_append];omega) (hL _ (List.getElem_mem hk2)) hg hgl).mono ?_
 rintro e w' ⟨rfl,i1,o⟩
 refine⟨rfl,⟨by rw[Pl.vints_succ L k hk2,←List.append_assoc];exact i1,(o.same eb (gsi.1 h2).1 (fun e=>?_)).trans h2,h3.trans o,Nat.le_trans h4 o.size⟩,o⟩
 obtain⟨_,v,hv,_⟩:=h1
 rw[show eb=p from e,hv]at h2;exact zH lF h2
theorem WrAt.not45 {base p:Nat} {w:World} {bs:List Int} (h:WrAt base w p bs) (g:Nat) (cs:Array Value) (fr:Nat×Nat) (hg:w.heap[g]?=some (Obj.cells cs 45 fr)):¬g=p:=fun e=>by
 obtain⟨_,v,hv,_⟩:=h
 rw[e,hv]at hg;exact zH lF hg
theorem wput_ok (base p:Nat) (e:Pl.Ev) (bs:List Int) (w:World) (h:WrAt base w p bs) (hb:base≤w.heap.size) (hl:bs.length≤800000) (he:e.Ok) (hi:Is w e) :
  Calls prog 253 #[Qp p,evv e] w fun r w'=>r=.returned (.tuple #[])∧WrAt base w' p (bs++Pl.vints e.nums)∧Off (· = p) w w':=by
 have b1:=bn w (.cells (eva e) 175)
 have hx:=heap_alloc_new w (.cells (eva e) 175)
 have HI:=zA (show WrI base p w.heap.size (eva e) bs e.nums w 0 (w.alloc (.cells (eva e) 175))from⟨by simpa[Pl.vints]using h.below b1,hx,Off.of_below b1,Nat.le_trans hb b1.size⟩)
 have HE:=zA he
 obtain⟨n,s,hd,hN⟩:=he.dot
 have HR:=zA (wZ e n s (w.alloc (.cells (eva e) 175)) hd (DotsT.toC (hi.below b1)) hN)
 have H45:=zA h.not45
 have HIS:=zA hi
 obtain⟨c0,c1,c2,c3,c4,c5,c6,c7,c8,c9,c10,c11,c12,c13⟩:=c14 hx
 clear h hb b1 hx he hd hN hi
 go_enter func253,ntmps253
 go_wp2_with fail
 generalize w.alloc (.cells (eva e) 175)=W at *
 refine HR.out.mono ?_
 rintro r w1 ⟨rfl,b1⟩
 rw[HE.out.right]
 have HI1:=zA (HI.out.below b1)
 clear b1 HR HI c0 c1 c2 c3 c4 c5 c6 c7 c8 c9 c10 c11 c12 c13
 go_wp2_with fail
 have hL:=HE.out.small
 have hlen:=HE.out.len
 by_cases k1:e.kind=1
 ·have hl6:=Pl.Ev.nums_len1 k1
  refine(through_w p w.heap.size (fun q W=>q≤6∧WrI base p w.heap.size (eva e) bs e.nums w q W) w1 ⟨by decide,HI1.out⟩ (fun q W W' h b=>⟨h.1,h.2.below b⟩) (fun q hq W h=>?_) (fun q W hq h=>?_)).mono ?_
  ·obtain⟨x,hx,hc⟩:=eva_num1 HE.out k1 q hq
   refine(wstep base p w.heap.size w.heap.size q q x (eva e) bs e.nums w W h.2 hx (zE h.2.2.1 hc) (gsi.1 h.2.2.1).1 hL hlen hl).mono ?_
   rintro r w' ⟨rfl,i1,o⟩
   exact⟨rfl,by omega,i1⟩
  ·have:=cc 3 h.2.2.1
   rw[this]
   show some (Value.int .i64 e.kind)=_
   rw[k1]
  ·rintro r w2 ⟨rfl,_,i6⟩
   rw[WrI,List.take_of_length_le (by omega)]at i6
   have HI6:=zA i6
   clear i6
   go_wp2_with fail
   exact yG results253 ⟨rfl,HI6.out.1,HI6.out.2.2.1⟩
 ·have hb:=HE.out.bd
  have hln:=Pl.Ev.nums_len k1
  have hrn:=HE.out.rn
  have hr96:e.rm.length≤96:=by obtain⟨n,s,_,hN⟩:=HE.out.dot;exact hN.len
  have hcc:e.kind=2∧e.c=12∨e.kind=3∧e.c=5:=by
   exact mM
  refine(sQ p w.heap.size e.kind e.c e.rm.length e.ro e.rc (fun q W=>WrI base p w.heap.size (eva e) bs e.nums w q W) w1 hcc HI1.out (fun q W W' h b=>h.below b) (fun q hq W h=>?_) (fun q W hq h=>cc 3 h.2.1) (fun q W h=>?_) hr96 (fun W h=>?_) (fun i hi=>?_)).mono ?_
  ·obtain⟨x,hx,hc⟩:=eva_num HE.out k1 q hq
   refine(wstep base p w.heap.size w.heap.size _ q x (eva e) bs e.nums w W h hx (zE h.2.1 hc) (gsi.1 h.2.1).1 hL hlen hl).mono ?_
   rintro r w' ⟨rfl,i1,o⟩
   exact⟨rfl,i1⟩
  ·rw[←hrn];exact cc 13 h.2.1
  ·have hb7:=bn W (.cells (Qo (e.rm.length:Int)) 3)
   have hH:=heap_alloc_new W (.cells (Qo (e.rm.length:Int)) 3)
   have h7:=h.below hb7
   refine(wstep base p w.heap.size W.heap.size 0 e.c e.rm.length (eva e) bs e.nums w _ h7 (Pl.Ev.nums_n k1) (cc 0 hH) (gsi.1 hH).1 hL hlen hl).mono ?_
   rintro r w' ⟨rfl,i1,o⟩
   refine⟨rfl,i1,(o.same W.heap.size (gsi.1 hH).1 (fun e=>?_)).trans hH⟩
   obtain⟨_,v,hv,_⟩:=h7.1
   rw[show W.heap.size=p from e]at hH;rw[hv]at hH;exact zH lF hH
  ·have hnd:=Pl.Ev.nums_d k1 i hi
   have hdd:=HIS.out
   unfold Is at hdd
   obtain⟨g,off,hro,_,_,_⟩:=dots_at hdd i hi
   refine⟨g,off,hro,fun W h=>?_,fun W h=>?_⟩
   all_goals
    have hW:Is W e:=HIS.out.off h.2.2.1 H45.out
    unfold Is at hW
    obtain⟨g',off',hro',hg,d1,d2⟩:=dots_at hW i hi
    rw[hro]at hro'
    cases hro'
   ·refine(wstep base p w.heap.size g _ _ _ (eva e) bs e.nums w W h hnd.1 d1 hg hL hlen hl).mono ?_
    rintro r w' ⟨rfl,i1,o⟩
    exact⟨rfl,by rw[show e.c+2+2*i=e.c+1+2*i+1 from by omega];exact i1⟩
   ·refine(wstep base p w.heap.size g _ _ _ (eva e) bs e.nums w W h hnd.2 d2 hg hL hlen hl).mono ?_
    rintro r w' ⟨rfl,i1,o⟩
    exact⟨rfl,by rw[show e.c+1+2*(i+1)=e.c+2+2*i+1 from by omega];exact i1⟩
  ·rintro r w2 ⟨rfl,i6⟩
   simp only[WrI]at i6
   rw[List.take_of_length_le (by omega)]at i6
   have HI6:=zA i6
   clear i6
   go_wp2_with fail
   exact yG results253 ⟨rfl,HI6.out.1,HI6.out.2.2.1⟩
set_option maxRecDepth 100000
def Pl.Ev.mv (e:Pl.Ev) (ro:Option Addr) (rc:Nat):Pl.Ev:={e with ro:=ro,rn:=e.rm.length,rc:=rc}
theorem Pl.Ev.Ok.mv {e:Pl.Ev} (h:e.Ok) (ro:Option Addr) (rc:Nat):(e.mv ro rc).Ok:=by
 obtain⟨⟨n,s,⟨h1,h2,h3,h4,h5⟩,hN⟩,hr,hn⟩:=h
 refine⟨⟨n,s,⟨h1,h2,h3,h4,h5⟩,hN⟩,?_,rfl⟩
 rw[←hr]
 unfold Pl.Ev.right Pl.Ev.mv
 rw[hn]
 rfl
def Pl.Ev.abs (e:Pl.Ev):Pl.Ev:=e.mv none 0
theorem Pl.vints_append (a b:List Nat):Pl.vints (a++b)=Pl.vints a++Pl.vints b:=by unfold Pl.vints;rw[List.flatMap_append]
theorem Pl.vints_small (l:List Nat) (h:∀n∈l,n<128):(Pl.vints l).length=l.length:=by
 induction l with
 | nil=>rfl
 | cons a l ih=>rw[Pl.vints_cons,List.length_append,Pl.vint_small (h a (by simp)),ih (fun n hn=>h n (by simp[hn]))];simp;omega
theorem Pl.Ev.Ok.bytes {e:Pl.Ev} (h:e.Ok):(Pl.vints e.nums).length≤265:=by
 have hs:=h.small
 obtain⟨n,s,_,hN⟩:=h.dot
 have hl:=hN.len
 have hf:∀x∈e.rm.length::Pl.flat e.rm,x<128:=fun x hx=>by
  rcases List.mem_cons.1 hx with rfl | hx
  ·omega
  ·unfold Pl.flat at hx
   exact mW
 have h2:=Pl.vints_small _ hf
 simp only[List.length_cons,Pl.flat_len]at h2
 unfold Pl.Ev.nums at hs ⊢
 rw[Pl.vints_append,List.length_append]
 have h5:=Pl.vints_len [e.node.toNat,e.seq.toNat,e.time.toNat,e.kind.toNat,e.work.toNat] (fun n hn=>hs n (List.mem_append_left _ hn))
 simp only[List.length_cons,List.length_nil]at h5
 split
 ·rename_i k
  rw[if_pos k]at hs
  have h6:=Pl.vints_len [e.value.toNat] (fun n hn=>hs n (List.mem_append_right _ hn))
  simp only[List.length_cons,List.length_nil]at h6
  omega
 ·rename_i k
  rw[if_neg k]at hs
  rw[Pl.vints_append,List.length_append,h2]
  have h6:=Pl.vints_len e.pol (fun n hn=>hs n (List.mem_append_right _ (List.mem_append_left _ hn)))
  have h7:e.pol.length≤7:=by unfold Pl.Ev.pol;split<;>simp
  omega
def parE (e:Pl.Ev) (v:Value) (q:Nat):Array Value:=#[.int .i64 (if 0<q then e.node else 0),.int .i64 (if 1<q then e.seq else 0),.int .i64 (if 2<q then e.time else 0),.int .i64 (if 3<q then e.kind else 0),.int .i64 (if 4<q then e.work else 0),.int .i64 (if e.kind=1∧5<q then e.value else 0),.int .i64 (if e.kind=2∧5<q then e.mn else 0),.int .i64 (if e.kind=2∧6<q then e.mx else 0),.int .i64 (if e.kind=2∧7<q then e.goal else 0),.int .i64 (if e.kind=2∧8<q then e.slack else 0),.int .i64 (if e.kind=2∧9<q then e.up else 0),.int .i64 (if e.kind=2∧10<q then e.down else 0),.int .i64 (if e.kind=2∧11<q then e.cool else 0),v]
theorem parE_any (e:Pl.Ev) (v:Value) (q j:Nat) (hj:j<14):∃u,(parE e v q)[j]?=some u:=by
 match j,hj with
 | 0,_=>exact⟨_,rfl⟩
 | 1,_=>exact⟨_,rfl⟩
 | 2,_=>exact⟨_,rfl⟩
 | 3,_=>exact⟨_,rfl⟩
 | 4,_=>exact⟨_,rfl⟩
 | 5,_=>exact⟨_,rfl⟩
 | 6,_=>exact⟨_,rfl⟩
 | 7,_=>exact⟨_,rfl⟩
 | 8,_=>exact⟨_,rfl⟩
 | 9,_=>exact⟨_,rfl⟩
 | 10,_=>exact⟨_,rfl⟩
 | 11,_=>exact⟨_,rfl⟩
 | 12,_=>exact⟨_,rfl⟩
 | 13,_=>exact⟨_,rfl⟩
 | j+14,hj=>exact absurd hj lD
theorem parE_next {e:Pl.Ev} (he:e.Ok) (k:e.kind≠1) (v:Value) (q x:Nat) (hq:q<e.c) (hx:e.nums[q]?=some x):(parE e v q).setIfInBounds (if q<5 then q else q+1) (.int .i64 (x:Nat))=parE e v (q+1):=by
 have hb:=he.bd
 have hd:=hb.node;have hs:=hb.seq;have ht:=hb.time;have hw:=hb.work;have hk:=hb.kind;have h2:=hb.two
 unfold Pl.Ev.c at hq
 unfold Pl.Ev.nums Pl.Ev.pol at hx
 rw[if_neg k]at hx
 unfold parE
 split at hq
 ·rename_i k2
  have h2:=h2 k2
  rw[if_pos k2]at hx
  match q,hq with
  | 0,_=>cases hx;simp[k2]<;>omega
  | 1,_=>cases hx;simp[k2]<;>omega
  | 2,_=>cases hx;simp[k2]<;>omega
  | 3,_=>cases hx;simp[k2]<;>omega
  | 4,_=>cases hx;simp[k2]<;>omega
  | 5,_=>cases hx;simp[k2]<;>omega
  | 6,_=>cases hx;simp[k2]<;>omega
  | 7,_=>cases hx;simp[k2]<;>omega
  | 8,_=>cases hx;simp[k2]<;>omega
  | 9,_=>cases hx;simp[k2]<;>omega
  | 10,_=>cases hx;simp[k2]<;>omega
  | 11,_=>cases hx;simp[k2]<;>omega
  | q+12,hq=>exact absurd hq lD
 ·rename_i k2
  rw[if_neg k2]at hx
  match q,hq with
  | 0,_=>cases hx;simp[k,k2]<;>omega
  | 1,_=>cases hx;simp[k,k2]<;>omega
  | 2,_=>cases hx;simp[k,k2]<;>omega
  | 3,_=>cases hx;simp[k,k2]<;>omega
  | 4,_=>cases hx;simp[k,k2]<;>omega
  | q+5,hq=>exact absurd hq lD
theorem parE_next1 {e:Pl.Ev} (he:e.Ok) (k:e.kind=1) (v:Value) (q x:Nat) (hq:q<6) (hx:e.nums[q]?=some x):(parE e v q).setIfInBounds q (.int .i64 (x:Nat))=parE e v (q+1):=by
 have hb:=he.bd
 have hd:=hb.node;have hs:=hb.seq;have ht:=hb.time;have hw:=hb.work;have h1:=(hb.one k).2.1
 unfold Pl.Ev.nums at hx
 rw[if_pos k]at hx
 unfold parE
 match q,hq with
 | 0,_=>cases hx;simp[k]<;>omega
 | 1,_=>cases hx;simp[k]<;>omega
 | 2,_=>cases hx;simp[k]<;>omega
 | 3,_=>cases hx;simp[k]<;>omega
 | 4,_=>cases hx;simp[k]<;>omega
 | 5,_=>cases hx;simp[k]<;>omega
 | q+6,hq=>exact absurd hq lD
theorem parE_end {e:Pl.Ev} (he:e.Ok) (ro:Option Addr) (rc:Nat):parE e (.slice ro e.rm.length rc) (if e.kind=1 then 6 else e.c)=eva (e.mv ro rc):=by
 have hb:=he.bd
 unfold parE Pl.Ev.mv Pl.Ev.c
 rcases hb.kind with k | k | k
 ·have h:=(hb.one k).1
  unfold Pl.Ev.still at h
  simp only[Bool.and_eq_true,beq_iff_eq]at h
  obtain⟨h8,h9,h10,h11,h12,h13,h14⟩:=h
  simp[k,h8,h9,h10,h11,h12,h13,h14]
 ·have h:=hb.two k
  simp[k,h.1]
 ·have h:=(hb.three k)
  have h1:=h.1
  unfold Pl.Ev.still at h1
  simp only[Bool.and_eq_true,beq_iff_eq]at h1
  obtain⟨h8,h9,h10,h11,h12,h13,h14⟩:=h1
  simp[k,h.2,h8,h9,h10,h11,h12,h13,h14]
theorem parE_slot (e:Pl.Ev) (v u:Value) (q:Nat):(parE e v q).setIfInBounds 13 u=parE e u q:=by unfold parE;simp
def parD (ds:List (Nat×Nat)) (i:Nat):Array Value:=(((Pl.flat ds).take i).map (fun (n:Nat)=>Value.int .i64 n)++List.replicate (2*ds.length - i) (Value.int .i64 0)).toArray
theorem parD_0 (ds:List (Nat×Nat)):madeCells (Qi 0 0) (ds.length*2)=parD ds 0:=by
 unfold parD
 apply Array.ext
 ·simp[size_madeCells];omega
 ·intro i h1 h2
  have hi:i<ds.length*2:=by simpa[size_madeCells]using h1
  have:i%2=0∨i%2=1:=by omega
  rcases this with h | h<;>simp[madeCells,h]
theorem parD_next (ds:List (Nat×Nat)) (i x:Nat) (hx:(Pl.flat ds)[i]?=some x):(parD ds i).setIfInBounds i (.int .i64 (x:Nat))=parD ds (i+1):=by
 obtain⟨hi,rfl⟩:=List.getElem?_eq_some_iff.1 hx
 have hl:=Pl.flat_len ds
 unfold parD
 rw[List.setIfInBounds_toArray]
 congr 1
 rw[show 2*ds.length - i=(2*ds.length - (i+1))+1 from by omega,List.replicate_succ,List.set_append,if_neg (by simp;omega),List.take_succ_eq_append_getElem hi,List.map_append,List.append_assoc]
 congr 1
 rw[List.length_map,List.length_take,Nat.min_eq_left (by omega),Nat.sub_self]
 rfl
theorem parD_any (ds:List (Nat×Nat)) (i j:Nat) (hi:i≤2*ds.length) (hj:j<2*ds.length):∃u,(parD ds i)[j]?=some u:=by
 have hl:=Pl.flat_len ds
 refine⟨(parD ds i)[j]'?_,?_⟩
 ·unfold parD;simp;omega
 ·exact Array.getElem?_eq_getElem _
theorem parD_end (ds:List (Nat×Nat)) (i:Nat) (hi:i<ds.length):(parD ds (2*ds.length))[0+i*2]?=some (.int .i64 (ds[i]).1)∧(parD ds (2*ds.length))[0+i*2+1]?=some (.int .i64 (ds[i]).2):=by
 have hl:=Pl.flat_len ds
 have hg:=Pl.flat_get ds i hi
 unfold parD
 rw[List.take_of_length_le (by omega),Nat.sub_self,List.replicate_zero,List.append_nil,show 0+i*2=2*i from by omega]
 simp[hg.1,hg.2]
def RdI (r eb:Nat) (C:Nat→Array Value) (ys:List Int) (L:List Nat) (w0:World) (k:Nat) (W:World):Prop:=
 RdAt W r (Pl.vints (L.drop k)++ys)∧W.heap[eb]?=some (.cells (C k) 175 (0,0))∧Off (fun g=>g=r∨g=eb) w0 W
theorem RdI.below {r eb:Nat} {C:Nat→Array Value} {ys:List Int} {L:List Nat} {w0 W W':World} {k:Nat} (h:RdI r eb C ys L w0 k W) (hb:Below W.heap.size W W'):RdI r eb C ys L w0 k W':=
 ⟨h.1.below hb,zZ hb h.2.1,h.2.2.trans (Off.of_below hb)⟩
theorem rP {W:World} {r:Nat} {L:List Nat} {k x:Nat} {ys:List Int} (h1:RdAt W r (Pl.vints (L.drop k)++ys)) (hk:L[k]?=some x):RdAt W r (Pl.vint x++(Pl.vints (L.drop (k+1))++ys)):=by
 obtain⟨hk2,rfl⟩:=List.getElem?_eq_some_iff.1 hk
 rw[List.drop_eq_getElem_cons hk2,Pl.vints_cons,List.append_assoc]at h1
 exact h1
theorem rstep (r eb j k x:Nat) (C:Nat→Array Value) (u:Value) (ys:List Int) (L:List Nat) (w0 W:World) (h:RdI r eb C ys L w0 k W) (hk:L[k]?=some x) (hn:x≤1099511627776) (hj:(C k)[j]?=some u) (hC:(C k).setIfInBounds j (.int .i64 (x:Nat))=C (k+1)) :
  Calls prog 185 #[.agg #[Qp r],.pointer (some ⟨eb,j,none⟩)] W fun e w'=>e=.returned (.tuple #[])∧RdI r eb C ys L w0 (k+1) w':=by
 obtain⟨h1,h2,h3⟩:=h
 refine(tI r eb j 175 (C k) u x _ W (rP h1 hk) hn h2 lF hj).mono ?_
 rintro e w' ⟨rfl,i1,i2,o⟩
 exact⟨rfl,i1,by rw[←hC];exact i2,h3.trans o⟩
theorem RdAt.ne {W:World} {r g t:Nat} {ys:List Int} {cs:Array Value} {fr:Nat×Nat} (h:RdAt W r ys) (hg:W.heap[g]?=some (.cells cs t fr)) (ht:t≠293):g≠r:=fun e=>by
 obtain⟨v,⟨cs',h5,_⟩,_⟩:=h
 rw[e,h5]at hg;exact zH (Ne.symm ht) hg
def RdJ (r eb:Nat) (e:Pl.Ev) (ys:List Int) (w0:World) (g i:Nat) (W:World):Prop:=
 RdAt W r (Pl.vints (e.nums.drop (e.c+1+i))++ys)∧W.heap[eb]?=some (.cells (parE e (.slice (some ⟨g,0,none⟩) e.rm.length e.rm.length) e.c) 175 (0,0))∧W.heap[g]?=some (.cells (parD e.rm i) 45 (0,0))∧w0.heap.size≤g∧Off (fun g=>g=r∨g=eb) w0 W
theorem jstep (r eb g j i x:Nat) (e:Pl.Ev) (ys:List Int) (w0 W:World) (h:RdJ r eb e ys w0 g i W) (hji:j=i) (hi:i<2*e.rm.length) (hk:e.nums[e.c+1+i]?=some x) (hf:(Pl.flat e.rm)[i]?=some x) (hn:x≤1099511627776) :
  Calls prog 185 #[.agg #[Qp r],.pointer (some ⟨g,j,none⟩)] W fun y w'=>y=.returned (.tuple #[])∧RdJ r eb e ys w0 g (i+1) w':=by
 subst hji
 obtain⟨h1,h2,h3,h4,h5⟩:=h
 obtain⟨u,hu⟩:=parD_any e.rm j j lD hi
 refine(tI r g j 45 (parD e.rm j) u x _ W (rP h1 hk) hn h3 lF hu).mono ?_
 rintro y w' ⟨rfl,i1,i2,o⟩
 refine⟨rfl,i1,(o.same eb (gsi.1 h2).1 (fun y=>?_)).trans h2,by rw[←parD_next e.rm j x hf];exact i2,h4,?_⟩
 ·rcases y with y | y
  ·exact h1.ne h2 lF y
  ·rw[y,h3]at h2;exact zH lF h2
 ·have hs:=h5.size
  exact h5.comp o (fun k hk2 hk=>by
   rcases hk with hk | hk
   ·exact .inl hk
   ·omega)
theorem rget_ok (r eb:Nat) (e:Pl.Ev) (ys:List Int) (w:World) (h:RdAt w r (Pl.vints e.nums++ys)) (hx:w.heap[eb]?=some (.cells Qen 175 (0,0))) (he:e.Ok) :
  Calls prog 187 #[Qp eb,.iface 299 (.agg #[Qp r])] w fun x w'=>x=.returned (.tuple #[])∧RdAt w' r ys∧(∃ro rc,w'.heap[eb]?=some (.cells (eva (e.mv ro rc)) 175 (0,0))∧Is w' (e.mv ro rc))∧Off (fun g=>g=r∨g=eb) w w':=by
 have hL:=he.small
 have hx0:w.heap[eb]?=some (.cells (parE e (.slice none 0 0) 0) 175 (0,0)):=by rw[hx];unfold parE;simp
 by_cases k1:e.kind=1
 ·have hl6:=Pl.Ev.nums_len1 k1
  refine(through_r r eb (fun q W=>q≤6∧RdI r eb (parE e (.slice none 0 0)) ys e.nums w q W) w ⟨by decide,h,hx0,Off.refl _ _⟩ (fun q W W' h b=>⟨h.1,h.2.below b⟩) (fun q hq W h=>?_) (fun q W hq h=>?_)).mono ?_
  ·obtain⟨u,hj⟩:=parE_any e (.slice none 0 0) q q lD
   obtain⟨x,hx,_⟩:=eva_num1 he k1 q hq
   refine(rstep r eb q q x _ u ys e.nums w W h.2 hx (hL _ (List.mem_of_getElem? hx)) hj (parE_next1 he k1 _ q x hq hx)).mono ?_
   rintro y w' ⟨rfl,i1⟩
   exact⟨rfl,by omega,i1⟩
  ·refine zE (j:=3) h.2.2.1 (show some (Value.int .i64 (if 3<q then e.kind else 0))=_ from ?_)
   rw[if_pos (by omega),k1]
  ·rintro x w' ⟨rfl,_,i1,i2,i3⟩
   rw[List.drop_eq_nil_of_le (by omega)]at i1
   have hrm:=(he.bd.one k1).2.2
   have hend:=parE_end he none 0
   rw[if_pos k1,hrm]at hend
   refine⟨rfl,by simpa[Pl.vints]using i1,⟨none,0,by rw[←hend];exact i2,?_⟩,i3⟩
   unfold Is Pl.Ev.mv
   rw[hrm]
   exact vE _
 ·have hb:=he.bd
  have hln:=Pl.Ev.nums_len k1
  have hr96:e.rm.length≤96:=by obtain⟨n,s,_,hN⟩:=he.dot;exact hN.len
  have hcc:e.kind=2∧e.c=12∨e.kind=3∧e.c=5:=by
   exact mM
  have hc5:5≤e.c:=by omega
  have hend:=fun ro rc=>parE_end he ro rc
  simp only[if_neg k1]at hend
  refine(sR r eb e.kind e.c e.rm.length (fun q W=>(q≤e.c∧RdI r eb (parE e (.slice none 0 0)) ys e.nums w q W)∨(e.c<q∧RdAt W r (Pl.vints (e.nums.drop (e.c+1))++ys)∧W.heap[eb]?=some (.cells (parE e (.slice none 0 0) e.c) 175 (0,0))∧Off (fun g=>g=r∨g=eb) w W)) (fun g i W=>i≤2*e.rm.length∧RdJ r eb e ys w g i W) w hcc (.inl ⟨by omega,h,hx0,Off.refl _ _⟩) (fun q W W' h b=>?_) (fun q hq W h=>?_) (fun q W hq h=>?_) (fun q W h=>?_) hr96 (fun W h=>?_) (fun W W2 h hm b=>?_) (fun g i W h=>?_) (fun g i hi=>?_)).mono ?_
  ·rcases h with h | ⟨h1,h2,h3,h4⟩
   ·exact .inl ⟨h.1,h.2.below b⟩
   ·exact .inr ⟨h1,h2.below b,zZ b h3,h4.trans (Off.of_below b)⟩
  ·rcases h with h | ⟨h1,_⟩
   ·obtain⟨u,hj⟩:=parE_any e (.slice none 0 0) q (if q<5 then q else q+1) (by split<;>omega)
    obtain⟨x,hx,_⟩:=eva_num he k1 q hq
    refine(rstep r eb _ q x _ u ys e.nums w W h.2 hx (hL _ (List.mem_of_getElem? hx)) hj (parE_next he k1 _ q x hq hx)).mono ?_
    rintro y w' ⟨rfl,i1⟩
    exact⟨rfl,.inl ⟨by omega,i1⟩⟩
   ·omega
  ·rcases h with h | ⟨_,_,h3,_⟩
   ·refine zE (j:=3) h.2.2.1 (show some (Value.int .i64 (if 3<q then e.kind else 0))=_ from ?_)
    rw[if_pos (by omega)]
   ·refine zE (j:=3) h3 (show some (Value.int .i64 (if 3<e.c then e.kind else 0))=_ from ?_)
    rw[if_pos (by omega)]
  ·rcases h with h | ⟨_,_,h3,_⟩
   ·exact⟨_,h.2.2.1,rfl⟩
   ·exact⟨_,h3,rfl⟩
  ·rcases h with⟨_,h1,h2,h3⟩ | ⟨h1,_⟩
   ·have b:=bn W (.cells (Qo 0) 3)
    have hH:=heap_alloc_new W (.cells (Qo 0) 3)
    have hlt:=(gsi.1 h2).1
    refine(tI r W.heap.size 0 3 (Qo 0) (.int .i64 0) e.rm.length _ _ (RdAt.below (rP h1 (Pl.Ev.nums_n k1)) b) lD hH lF rfl).mono ?_
    rintro y w' ⟨rfl,i1,i2,o⟩
    refine⟨rfl,.inr ⟨by omega,i1,?_,?_⟩,i2⟩
    ·refine(o.same eb (Nat.lt_of_lt_of_le hlt b.size) (fun y=>?_)).trans ((b.block eb hlt).trans h2)
     rcases y with y | y
     ·exact h1.ne h2 lF y
     ·omega
    ·have hs:=h3.size
     exact(h3.trans (Off.of_below b)).comp o (fun g hg hh=>by
      rcases hh with hh | hh
      ·exact .inl hh
      ·omega)
   ·omega
  ·rcases h with⟨h1,_⟩ | ⟨_,h2,h3,h4⟩
   ·omega
   ·have b2:=b.trans (bn W2 (.cells (madeCells (Qi 0 0) (e.rm.length*2)) 45) |>.mono b.size)
    have hG:=heap_alloc_new W2 (.cells (madeCells (Qi 0 0) (e.rm.length*2)) 45)
    have h5:=zZ b2 h3
    have hlt:=(gsi.1 h3).1
    have h6:=h2.below b2
    have hs:=h4.size
    have hs2:=b.size
    refine⟨by omega,?_,?_,?_,by omega,?_⟩
    ·exact h6.other (fun y=>h6.ne h5 lF y) (fun cs fr y=>by rw[h5]at y;exact zH lF y) 13 _
    ·rw[←parE_slot e (.slice none 0 0) (.slice (some ⟨W2.heap.size,0,none⟩) e.rm.length e.rm.length)]
     exact zF (j:=13) h5 _
    ·rw[←parD_0]
     exact(Below.heap_setCell _ _ _ _ (show W2.heap.size≠eb by omega)).trans hG
    ·exact((h4.trans (Off.of_below b)).trans (Off.of_below (bn W2 _))).set (.inl (.inr rfl)) _
  ·exact cc 13 h.2.2.1
  ·have hnd:=Pl.Ev.nums_d k1 i hi
   have hfg:=Pl.flat_get e.rm i hi
   refine⟨fun W h=>?_,fun W h=>?_⟩
   ·refine(jstep r eb g _ (2*i) _ e ys w W h.2 lD lD hnd.1 hfg.1 (hL _ (List.mem_of_getElem? hnd.1))).mono ?_
    rintro y w' ⟨rfl,i1⟩
    exact⟨rfl,by omega,i1⟩
   ·refine(jstep r eb g _ (2*i+1) _ e ys w W h.2 lD lD (by rw[show e.c+1+(2*i+1)=e.c+2+2*i from by omega];exact hnd.2) hfg.2 (hL _ (List.mem_of_getElem? hnd.2))).mono ?_
    rintro y w' ⟨rfl,i1⟩
    exact⟨rfl,by omega,by rw[show 2*(i+1)=2*i+1+1 from by omega];exact i1⟩
  ·rintro x w' ⟨rfl,⟨hm0,h | ⟨_,h1,h2,h3⟩⟩ | ⟨hm,g,hle,h1,h2,h3,h4,h5⟩⟩
   ·omega
   ·have hrm:=List.eq_nil_of_length_eq_zero hm0
    rw[List.drop_eq_nil_of_le (by omega)]at h1
    refine⟨rfl,by simpa[Pl.vints]using h1,⟨none,0,?_,?_⟩,h3⟩
    ·rw[←hend,hrm];exact h2
    ·unfold Is Pl.Ev.mv
     rw[hrm]
     exact vE _
   ·rw[List.drop_eq_nil_of_le (by omega)]at h1
    refine⟨rfl,by simpa[Pl.vints]using h1,⟨some ⟨g,0,none⟩,e.rm.length,?_,?_⟩,h5⟩
    ·rw[←hend];exact h2
    ·refine⟨_,_,rfl,(fun y=>by cases y),fun i hi=>?_⟩
     have:=parD_end e.rm i hi
     exact⟨g,0,_,_,rfl,h3,this.1,this.2⟩
theorem Off.to_below {p:Nat} {w0 w w':World} (o:Off (· = p) w w') (b:Below w0.heap.size w0 w) (hp:w0.heap.size≤p):Below w0.heap.size w0 w':=o.since b (fun g hg=>by rw[show g=p from hg];exact hp)
theorem eput_ok (e:Pl.Ev) (w:World) (he:e.Ok) (hi:Is w e):Calls prog 376 #[evv e] w fun r w'=>∃v',r=.returned (.tuple #[v',.int .i64 0])∧OwnB w.heap.size w' v' (Pl.vints e.nums)∧Below w.heap.size w w':=by
 have b1:=bn w (.cells e 175)
 have b2:=b1.alloc b1.size (.cells (Qo 0) 41)
 have b3:=b2.alloc b2.size (.cells #[.slice none 0 0] 373)
 have hx1:=heap_alloc_new w (.cells e 175)
 have hx2:=((bn _ (.cells (Qo 0) 41)).block _ (gsi.1 hx1).1).trans hx1
 have hx3:=((bn _ (.cells #[.slice none 0 0] 373)).block _ (gsi.1 hx2).1).trans hx2
 have hy2:=heap_alloc_new (w.alloc (.cells e 175)) (.cells (Qo 0) 41)
 rw[zG]at hy2
 have hy3:=((bn _ (.cells #[.slice none 0 0] 373)).block _ (gsi.1 hy2).1).trans hy2
 have hz3:=heap_alloc_new ((w.alloc (.cells e 175)).alloc (.cells (Qo 0) 41)) (.cells #[.slice none 0 0] 373)
 rw[zG,zG]at hz3
 have hwr:WrAt w.heap.size (((w.alloc (.cells e 175)).alloc (.cells (Qo 0) 41)).alloc (.cells #[.slice none 0 0] 373)) (w.heap.size+1+1) []:=⟨by omega,_,hz3,xO _ _⟩
 have qV:=zA (wput_ok w.heap.size (w.heap.size+1+1) e [] _ hwr b3.size (by simp) he (hi.below b3))
 have HB:=zA b3
 have HY:=zA hy3
 obtain⟨c0,c1,c2,c3,c4,c5,c6,c7,c8,c9,c10,c11,c12,c13⟩:=c14 hx3
 clear b1 b2 b3 hx1 hx2 hx3 hy2 hy3 hz3 hwr
 go_enter_defers func376,ntmps376
 go_wp2_with fail
 generalize (((w.alloc (.cells e 175)).alloc (.cells (Qo 0) 41)).alloc (.cells #[.slice none 0 0] 373))=W at *
 refine qV.out.mono ?_
 rintro x w1 ⟨rfl,hw1,o1⟩
 have hb1:=o1.to_below HB.out lD
 have hy1:=(o1.same _ (gsi.1 HY.out).1 (fun e=>by have:w.heap.size+1=w.heap.size+1+1:=e;omega)).trans HY.out
 rw[List.nil_append]at hw1
 have hwz:=hw1.other hy1 lF 0 (.int .i64 0)
 obtain⟨_,v,hv,qC⟩:=hw1
 have cp:=cc 0 hv
 have cf:=cc 0 hy1
 have ff:=zB hy1 0
 have hownz:OwnB w.heap.size (w1.setCell ⟨w.heap.size+1,0,none⟩ (.int .i64 0)) v (Pl.vints e.nums):=qC.keep (fun g cs fr hg=>Below.heap_setCell _ _ _ _ (fun e=>by
  rw[show g=w.heap.size+1 from e,hy1]at hg;exact zH lF hg))
 have hbz:=zM hb1 (show w.heap.size≤w.heap.size+1 by omega) 0 (.int .i64 0)
 have cz:=World.cell?_setCell_same w1 ⟨w.heap.size+1,0,none⟩ (.int .i64 0) cf
 have HO:=zA hownz
 have HBZ:=zA hbz
 clear hwz hv qC hy1 hb1 o1 hownz hbz c0 c1 c2 c3 c4 c5 c6 c7 c8 c9 c10 c11 c12 c13 qV
 go_wp2_with fail
 refine leaves_cons (f:=184) (args:=#[Qp (w.heap.size+1)]) (by simp) (by simp[go_sem]) ?_
 refine(vR _ _).mono ?_
 rintro e' u' w'' ⟨rfl,rfl,rfl⟩
 generalize w1.setCell ⟨w.heap.size+1,0,none⟩ (.int .i64 0)=Z at *
 simp[Leaves,settle,results,results376,go_sem,cz]
 exact⟨HO.out,HBZ.out⟩
theorem told3_ok (e:Pl.Ev) (w:World) (he:e.Ok) (hi:Is w e):Calls prog 348 #[evv e] w fun r w'=>∃v',r=.returned v'∧OwnB w.heap.size w' v' (3::Pl.vints e.nums)∧Below w.heap.size w w':=by
 have b1:=bn w (.cells e 175)
 have hx1:=heap_alloc_new w (.cells e 175)
 have qV:=zA (eput_ok e (w.alloc (.cells e 175)) he (hi.below b1))
 have HB:=zA b1
 have qO:=zA (show(Pl.vints e.nums).length≤300 by have:=he.bytes;omega)
 obtain⟨c0,c1,c2,c3,c4,c5,c6,c7,c8,c9,c10,c11,c12,c13⟩:=c14 hx1
 clear b1 hx1
 go_enter func348,ntmps348
 go_wp2_with fail
 generalize (w.alloc (.cells e 175))=W at *
 refine qV.out.mono ?_
 rintro x w1 ⟨v1,rfl,o1,b1⟩
 have HO1:=zA o1
 have HB1:=zA (HB.out.trans (b1.mono HB.out.size))
 clear b1 o1 qV c0 c1 c2 c3 c4 c5 c6 c7 c8 c9 c10 c11 c12 c13
 go_wp2_with fail
 refine(xW rfl).mono ?_
 rintro x w' ⟨rfl,rfl⟩
 have b2:=bn w1 (.cells #[.int .u8 3] 5)
 have qC:OwnB w.heap.size (w1.alloc (.cells #[.int .u8 3] 5)) (.slice (some ⟨w1.heap.size,0,none⟩) 1 1) [3]:=⟨rfl,.inr ⟨w1.heap.size,1,#[.int .u8 3],rfl,HB1.out.size,heap_alloc_new w1 _,Nat.le_refl _,by decide,rfl,rfl⟩⟩
 have HOW:=zA qC
 have qI:=zA (HO1.out.toT.toC.below b2)
 have HB2:=zA (HB1.out.trans (b2.mono HB1.out.size))
 clear qC b2
 go_wp2_with (
  at_builtin
  refine xF rfl (.tmp 14) (.tmp 15) rfl rfl HOW.out rfl qI.out (by have:=qO.out;simp;omega) HB2.out HB2.out.size ?_
  intro v2 w2 pR hb2 hg2)
 go_ret
 exact⟨v2,rfl,pR,hb2⟩
end
end Go.Proofs.YtodlmbfbfaofcaaGreat
