/- TopPolicies, part 10. -/
import Derived.Deep.MidRow
import Derived.Deep.WholeRow
import Derived.Test.YtodlmbfbfaofcaaGreatM01
import Derived.Test.YtodlmbfbfaofcaaGreatM02
import Derived.Test.YtodlmbfbfaofcaaGreatM04
import Derived.Test.YtodlmbfbfaofcaaGreatM08
import Derived.Test.YtodlmbfbfaofcaaGreatM09
open Go.Proofs.Tryz
namespace Go.Proofs.YtodlmbfbfaofcaaGreat
set_option linter.unusedVariables false
set_option linter.unusedSimpArgs false
set_option maxRecDepth 100000
set_option maxHeartbeats 1000000
section
open Go.RowKit Rw Rh
theorem info226:(prog.info? 226).map (fun i=>(i.zero,i.size))=some (some (.agg (Array.replicate 784 (.bool false))),784):=by kernel_rfl
theorem open_new (w:World):OpAt (w.alloc (.cells (Array.replicate 784 (.bool false)) 226)) w.heap.size (fun _ _=>false):=
 ⟨Array.replicate 784 (.bool false),heap_alloc_new w _,by simp,fun i hi=>by simp[hi]⟩
theorem of_ok (H:Nat) (m:Value) (O:Nat→Nat→Bool) (U:Nat→Nat) (M:List (Nat×Nat)) (w:World) (hH:w.heap[H]?=some (.cells #[.int .i64 (U 0),.int .i64 (U 1),.int .i64 (U 2),.int .i64 (U 3),.int .i64 (U 4),.int .i64 (U 5),.int .i64 (U 6),.int .i64 (U 7),m] 60 (0,0))) (hV:SetV w (Pl.setv U m) O U M) :
  Calls prog 55 #[.slice (some ⟨H,0,none⟩) 1 1] w fun e w'=>∃o,e=.returned (Qp o)∧w.heap.size≤o∧OpAt w' o O∧Below w.heap.size w w':=by
 have zz:=(zero_of_info info226).1
 have b1:Below w.heap.size w (w.alloc (.cells (Array.replicate 784 (.bool false)) 226)):=bn _ _
 have HB:=zA b1
 have HO:=zA (open_new w)
 have HV:=zA hV
 have hm:∃ao cap,m=.slice ao M.length cap:=by
  obtain⟨m',e,hd,_⟩:=hV
  obtain⟨ao,cap,e',_⟩:=hd.toC
  unfold Pl.setv at e
  simp at e
  exact⟨ao,cap,e.trans e'⟩
 obtain⟨ao,cap,rfl⟩:=hm
 have HH:=zA hH
 clear b1 hV hH
 go_enter func55,ntmps55
 go_wp2_with fail
 generalize hW0:w.alloc (.cells (Array.replicate 784 (.bool false)) 226)=W0 at *
 clear hW0
 go_loopw [10] (fun i wr=>(i=.int .i64 0∧OpAt wr w.heap.size (fun _ _=>false)∧Below w.heap.size w wr)∨(i=.int .i64 1∧OpAt wr w.heap.size O∧Below w.heap.size w wr)) (fun i _=>1 - (intOf i).toNat)
 case atStart=>exact .inl ⟨rfl,HO.out,HB.out⟩
 case round=>
  rcases hrel with⟨rfl,hO,hB⟩ | ⟨rfl,hO,hB⟩
  ·have x1:=(hB.block H (gsi.1 HH.out).1).trans HH.out
   have c0:=cc 0 x1
   have c1:=cc 1 x1
   have c2:=cc 2 x1
   have c3:=cc 3 x1
   have c4:=cc 4 x1
   have c5:=cc 5 x1
   have c6:=cc 6 x1
   have c7:=cc 7 x1
   have c8:=cc 8 x1
   have b2:Below wr.heap.size wr (wr.alloc (.cells (Qu U ao M.length cap) 60)):=bn _ _
   have HL:=zA (lay_ok w.heap.size _ O U M _ ((HV.out.below hB).below b2) (hO.below b2))
   have HB2:=zA (hB.trans (b2.mono hB.size))
   clear hO hB b2 x1
   go_wp2_with fail
   refine HL.out.mono ?_
   rintro e w5 ⟨rfl,O5,F5⟩
   have HO5:=zA O5
   have HB5:=zA (F5.since HB2.out (fun g hg=>Nat.le_of_eq hg.symm))
   clear O5 F5 c0 c1 c2 c3 c4 c5 c6 c7 c8
   go_wp2_with fail
   exact⟨.inr ⟨rfl,HO5.out,HB5.out⟩,by simp[intOf]⟩
  ·have HOO:=zA hO
   have HBB:=zA hB
   clear hO hB
   go_wp2_with fail
   go_ret
   exact⟨_,rfl,Nat.le_refl _,HOO.out,HBB.out⟩
namespace Pl
def row (O:Nat→Nat→Bool) (n:Nat):List (Nat×Nat):=((List.range 98).filter (O n)).map (fun s=>(n,s))
def dots (O:Nat→Nat→Bool):List (Nat×Nat):=(List.range 8).flatMap (row O)
def ahead (O:Nat→Nat→Bool) (n s:Nat):List (Nat×Nat):=(List.range n).flatMap (row O)++((List.range s).filter (O n)).map (fun s=>(n,s))
theorem wV (O:Nat→Nat→Bool):ahead O 0 0=[]:=rfl
theorem ahead_all (O:Nat→Nat→Bool) (n:Nat):ahead O n 98=ahead O (n+1) 0:=by
 unfold ahead
 rw[List.range_succ (n:=n),List.flatMap_append]
 simp[row]
theorem ahead_yes (O:Nat→Nat→Bool) (n s:Nat) (h:O n s=true):ahead O n (s+1)=ahead O n s++[(n,s)]:=by
 unfold ahead
 rw[List.range_succ,List.filter_append,List.map_append,List.append_assoc]
 simp[h]
theorem ahead_no (O:Nat→Nat→Bool) (n s:Nat) (h:O n s=false):ahead O n (s+1)=ahead O n s:=by
 unfold ahead
 rw[List.range_succ,List.filter_append,List.map_append]
 simp[h]
theorem ahead_end (O:Nat→Nat→Bool):ahead O 8 0=dots O:=by unfold ahead dots;simp
end Pl
theorem index129 (cs:Array Value) (v:Value) (n:Nat) (hn:n<98) (hv:cs[n]?=some v) (W:World):Sem.run prog (Instr.index 129 (.agg cs) (.int .i64 n)) W=.ok v W:=by
 have hn':(n:Int)<98:=by omega
 unfold Instr.index
 go_simp
def rowv (O:Nat→Nat→Bool) (n:Nat):List Value:=(List.range 98).map (fun s=>.bool (O n s))
theorem OpAt.range {w:World} {o n:Nat} {O:Nat→Nat→Bool} (h:OpAt w o O) (hn:n<8):w.rangeAt o (n*98) (rowv O n):=by
 intro j v hj
 unfold rowv at hj
 have hlt:j<98:=by
  rcases Nat.lt_or_ge j 98 with h' | h'
  ·exact h'
  ·rw[List.getElem?_eq_none (by simpa using h')]at hj;cases hj
 rw[List.getElem?_map,List.getElem?_range hlt]at hj
 cases hj
 exact h.cell hn hlt
theorem info129:(prog.info? 129).map (·.size)=some 98:=by kernel_rfl
theorem under129:prog.underlying 129=some (.array 98 4):=by kernel_rfl
theorem walk_any (o f:Nat) (cb:Array Value) (O:Nat→Nat→Bool) (I:List (Nat×Nat)→World→Prop) (w:World) (h0:I [] w) (hO:∀l W,I l W→OpAt W o O)
  (hcf:∀(x:Value) (W:World),Sem.run prog (callFunc f (#[x]++cb)) W=.ok (.enter f (#[x]++cb)) W)
  (hC:∀n s W,I (Pl.ahead O n s) W→n<8→s<98→O n s=true→Calls prog f (#[.agg (Qi n s)]++cb) W fun e w'=>e=.returned (.tuple #[])∧I (Pl.ahead O n s++[(n,s)]) w') :
  Calls prog 125 #[Qp o,.func (.func f) #[] cb] w fun e w'=>e=.returned (.tuple #[])∧I (Pl.dots O) w':=by
 have HI:=zA h0
 have HO:=zA hO
 have HC:=zA hC
 clear h0 hO hC
 go_enter func125,ntmps125
 go_wp2_with fail
 go_loopw [7] (fun i wr=>∃(n:Nat),n≤8∧i=.int .i64 n∧I (Pl.ahead O n 0) wr) (fun i _=>8 - (intOf i).toNat)
 case atStart=>exact⟨0,by omega,rfl,HI.out⟩
 case round=>
  obtain⟨n,hn,rfl,hI⟩:=hrel
  have HIn:=zA hI
  by_cases hlt:n<8
  ·have g8:(n:Int)<8:=by omega
   have hrg:=zA ((HO.out _ _ hI).range hlt)
   clear hI
   go_wp2_with (refine wpList_load_mid rfl 129 (.tmp 13) rfl o (n*98) rfl (rowv O n) _ hrg.out under129 rfl (by rw[info129];simp[rowv]) ?_)
   have hcs:∀q,q<98→(rowv O n).toArray[q]?=some (Value.bool (O n q)):=fun q hq=>by simp[rowv,hq]
   have HCS:=zA hcs
   clear hcs hrg
   generalize (rowv O n).toArray=cs at *
   have HLT:=zA hlt
   go_loopw [15] (fun i wr=>∃(q:Nat),q≤98∧i=.int .i64 q∧I (Pl.ahead O n q) wr) (fun i _=>98 - (intOf i).toNat)
   case atStart=>exact⟨0,by omega,rfl,HIn.out⟩
   case round=>
    obtain⟨q,hq,rfl,hI⟩:=hrel
    have HIq:=zA hI
    clear hI
    by_cases hql:q<98
    ·have q8:(q:Int)<98:=by omega
     have hix:=index129 cs _ q hql (HCS.out q hql)
     cases hb:O n q with
     | true=>
      rw[hb]at hix
      have pM:=zA (HC.out n q _ HIq.out HLT.out hql hb)
      have HBB:=zA hb
      clear hb
      go_wp2_with fail
      refine pM.out.mono ?_
      rintro e w5 ⟨rfl,I5⟩
      have HI5:=zA (show I (Pl.ahead O n (q+1)) w5 by rw[Pl.ahead_yes O n q HBB.out];exact I5)
      clear I5
      go_wp2_with fail
      exact⟨⟨q+1,by omega,rfl,HI5.out⟩,by simp[intOf];omega⟩
     | false=>
      rw[hb]at hix
      have HI5:=zA (show I (Pl.ahead O n (q+1)) wr by rw[Pl.ahead_no O n q hb];exact HIq.out)
      clear hb
      go_wp2_with fail
      exact⟨⟨q+1,by omega,rfl,HI5.out⟩,by simp[intOf];omega⟩
    ·obtain rfl:q=98:=by omega
     clear hq hql
     have HI5:=zA (show I (Pl.ahead O (n+1) 0) wr by rw[←Pl.ahead_all O n];exact HIq.out)
     go_wp2_with fail
     exact⟨⟨n+1,by omega,rfl,HI5.out⟩,by simp[intOf];omega⟩
  ·obtain rfl:n=8:=by omega
   have HI5:=zA (show I (Pl.dots O) wr by rw[←Pl.ahead_end O];exact HIn.out)
   clear hn hlt hI
   go_wp2_with fail
   exact yG results125 ⟨rfl,HI5.out⟩
end
section
open Go.RowKit Rw Rh
structure Rk (α:Type) where
 T:TypeId
 S:TypeId
 k:Nat
 bytes:Nat
 z:Value
 enc:α→List Value
 hlen:∀x,(enc x).length=k
 hone:∀x,∀u∈enc x,u.oneCell'=true
 hk:0<k
 hu:prog.underlying S=some (.slice T)
 hi:(prog.info? T).map (fun i=>(i.zero,i.size,i.bytes))=some (some z,k,bytes)
 hz:z.cells.size=k
 hb:bytes≤100000
variable {α:Type} (K:Rk α)
def Rk.encs (xs:List α):List Value:=xs.flatMap K.enc
theorem Rk.encs_append (xs ys:List α):K.encs (xs++ys)=K.encs xs++K.encs ys:=by unfold Rk.encs;simp
theorem Rk.encs_length (xs:List α):(K.encs xs).length=xs.length*K.k:=by
 induction xs with
 | nil=>simp[Rk.encs]
 | cons x xs ih=>unfold Rk.encs at *;rw[List.flatMap_cons,List.length_append,ih,K.hlen,List.length_cons,Nat.add_mul,Nat.one_mul,Nat.add_comm]
theorem Rk.encs_get (xs:List α) (i j:Nat) (h:i<xs.length) (hj:j<K.k):(K.encs xs)[i*K.k+j]?=(K.enc xs[i])[j]?:=by
 induction xs generalizing i with
 | nil=>cases h
 | cons e es ih=>
  unfold Rk.encs at *
  rw[List.flatMap_cons]
  cases i with
  | zero=>rw[Nat.zero_mul,Nat.zero_add,List.getElem?_append_left (by rw[K.hlen];exact hj)];rfl
  | succ i=>
   have e1:(i+1)*K.k=i*K.k+K.k:=by rw[Nat.add_mul,Nat.one_mul]
   rw[List.getElem?_append_right (by rw[K.hlen];omega),K.hlen,show(i+1)*K.k+j - K.k=i*K.k+j from by omega,ih i (by simpa using h)];rfl
theorem Rk.encs_one (xs:List α):∀u∈K.encs xs,u.oneCell'=true:=fun u hu=>by
 unfold Rk.encs at hu
 obtain⟨x,_,h⟩:=List.mem_flatMap.1 hu
 exact K.hone x u h
def RowT (w:World) (v:Value) (xs:List α):Prop:=
 ∃ao cap,v=.slice ao xs.length cap∧(ao=none→xs=[]∧cap=0)∧∀i (h:i<xs.length),∃g off cs fr,ao=some ⟨g,off,none⟩∧w.heap[g]?=some (Obj.cells cs K.T fr)∧∀j,j<K.k→cs[off+i*K.k+j]?=(K.enc xs[i])[j]?
variable {K}
theorem RowT.form {w:World} {v:Value} {xs:List α} (h:RowT K w v xs):∃ao cap,v=.slice ao xs.length cap:=by obtain⟨ao,cap,e,_⟩:=h;exact⟨ao,cap,e⟩
theorem RowT.none {w:World} {ao:Option Addr} {cap:Nat} {xs:List α} (h:RowT K w (.slice ao xs.length cap) xs):ao=none→xs.length=0∧cap=0:=fun ha=>by
 exact mI
theorem RowT.keep {w w':World} {v:Value} {xs:List α} (h:RowT K w v xs) (k:∀(g:Nat) (cs:Array Value) (fr:Nat×Nat),w.heap[g]?=some (Obj.cells cs K.T fr)→w'.heap[g]?=w.heap[g]?):RowT K w' v xs:=by
 obtain⟨ao,cap,h1,h2,h3⟩:=h
 refine⟨ao,cap,h1,h2,fun i hi=>?_⟩
 obtain⟨g,off,cs,fr,e,hg,c0⟩:=h3 i hi
 exact⟨g,off,cs,fr,e,(k g cs fr hg).trans hg,c0⟩
theorem RowT.below {w w':World} {v:Value} {xs:List α} (h:RowT K w v xs) (hb:Below w.heap.size w w'):RowT K w' v xs:=h.keep (fun g cs fr hg=>hb.block g (gsi.1 hg).1)
theorem RowT.keepG {w w':World} {v:Value} {xs:List α} (h:RowT K w v xs) (k:∀g,xs≠[]→v.ownBlock=some g→w'.heap[g]?=w.heap[g]?):RowT K w' v xs:=by
 obtain⟨ao,cap,h1,h2,h3⟩:=h
 refine⟨ao,cap,h1,h2,fun i hi=>?_⟩
 obtain⟨g,off,cs,fr,e,hg,c0⟩:=h3 i hi
 exact⟨g,off,cs,fr,e,(k g (fun e=>by rw[e]at hi;cases hi) (by rw[h1,e];rfl)).trans hg,c0⟩
theorem tH (K:Rk α) (w:World):RowT K w (.slice none 0 0) []:=⟨.none,0,rfl,fun _=>⟨rfl,rfl⟩,fun i hi=>absurd hi (by simp)⟩
theorem RowT.cell {w:World} {v:Value} {xs:List α} (h:RowT K w v xs) {i:Nat} (hi:i<xs.length):∃g off cap,v=.slice (some ⟨g,off,.none⟩) xs.length cap∧g<w.heap.size∧∀j u,(K.enc xs[i])[j]?=some u→w.cell? ⟨g,off+i*K.k+j,.none⟩=some u:=by
 obtain⟨ao,cap,h1,h2,h3⟩:=h
 obtain⟨g,off,cs,fr,e,hg,c0⟩:=h3 i hi
 refine⟨g,off,cap,by rw[h1,e],(gsi.1 hg).1,fun j u hu=>?_⟩
 have hj:j<K.k:=by
  exact mX
 simp only[World.cell?,hg]
 simpa[c0 j hj]using hu
theorem RowT.news {w:World} {ao:Option Addr} {cap:Nat} {xs:List α} (h:RowT K w (.slice ao xs.length cap) xs):∀ad,ao=some ad→∀j u,(K.encs xs)[j]?=some u→w.cell? (ad.add j)=some u:=fun ad had j u hj=>by
 exact nA
def OwnR (K:Rk α) (base:Nat) (w:World) (v:Value) (xs:List α):Prop:=w.ownsRow base K.T K.k v xs.length (K.encs xs)
theorem OwnR.toT {base:Nat} {w:World} {v:Value} {xs:List α} (h:OwnR K base w v xs):RowT K w v xs:=by
 rcases h.2 with⟨rfl,h0⟩ | ⟨g,cap,cur,rfl,hb,hg,_,_,_,ht⟩
 ·have:xs=[]:=List.eq_nil_of_length_eq_zero h0
  subst this
  exact tH K w
 ·refine⟨_,cap,rfl,(fun e=>by cases e),fun i hi=>⟨g,0,cur,(0,0),rfl,hg,fun j hj=>?_⟩⟩
  have hlt:i*K.k+j<xs.length*K.k:=Nat.lt_of_lt_of_le (by omega:i*K.k+j<i*K.k+K.k) (by have:=Nat.mul_le_mul_right K.k (show i+1≤xs.length by omega);rw[Nat.add_mul,Nat.one_mul]at this;exact this)
  have h2:(K.encs xs)[i*K.k+j]?=cur.toList[i*K.k+j]?:=by rw[←ht,List.getElem?_take,if_pos hlt]
  rw[K.encs_get xs i j hi hj]at h2
  rw[Nat.zero_add,h2,Array.getElem?_toList]
theorem OwnR.keep {base:Nat} {w w':World} {v:Value} {xs:List α} (h:OwnR K base w v xs) (k:∀g,v.ownBlock=some g→w'.heap[g]?=w.heap[g]?):OwnR K base w' v xs:=xG h k
theorem OwnR.below {base:Nat} {w w':World} {v:Value} {xs:List α} (h:OwnR K base w v xs) (hb:Below w.heap.size w w'):OwnR K base w' v xs:=h.keep (fun g hg=>hb.block g (h.lt g hg).2)
theorem OwnR.mono {base c:Nat} {w:World} {v:Value} {xs:List α} (h:OwnR K base w v xs) (hb:c≤base):OwnR K c w v xs:=ownsRow_base h hb
theorem yJ (K:Rk α) (base:Nat) (w:World):OwnR K base w (.slice none 0 0) []:=⟨by simp[Rk.encs],.inl ⟨rfl,rfl⟩⟩
theorem rN (K:Rk α) (w:World) (x:α) (cs:Array Value) (hcs:cs=(K.enc x).toArray):RowT K (w.alloc (.cells cs K.T)) (.slice (some ⟨w.heap.size,0,.none⟩) 1 1) [x]:=by
 subst hcs
 refine⟨_,1,rfl,(fun e=>by cases e),fun i hi=>⟨w.heap.size,0,_,(0,0),rfl,heap_alloc_new w _,fun j hj=>?_⟩⟩
 have:i=0:=by simp at hi;omega
 subst this
 simp
theorem wp_appR (K:Rk α) {w w0:World} {ops:Array Oper} {rest:List Oper} {o:Oper} {a:Act} {Q:Exit→Act→World→Prop} {base:Nat} {v x:Value} {xs ys:List α} (hgd:o.guard=.none) (sl xl:Operand)
  (ho:o.op=.call {callee:=.builtin .append,args:=#[sl,xl],argTypes:=#[K.S,K.S]}) (hs:a.eval sl=v) (qC:OwnR K base w v xs) (hx:a.eval xl=x) (hc:RowT K w x ys)
  (hl:xs.length+ys.length≤1000000) (hb:Below base w0 w) (qJ:base≤w.heap.size)
  (h:∀v' w',OwnR K base w' v' (xs++ys)→Below base w0 w'→w.grownBy w' v.ownBlock→wpList prog ops Q rest (a.put o.dst v') w'):wpList prog ops Q (o::rest) a w:=by
 exact nE
def kDot:Rk (Nat×Nat) where
 T:=45
 S:=58
 k:=2
 bytes:=16
 z:=.agg (Qi 0 0)
 enc:=fun d=>[.int .i64 d.1,.int .i64 d.2]
 hlen:=fun _=>rfl
 hone:=fun x u hu=>by simp at hu;rcases hu with rfl | rfl<;>rfl
 hk:=by decide
 hu:=by kernel_rfl
 hi:=by kernel_rfl
 hz:=rfl
 hb:=by decide
theorem wM {w:World} {v:Value} {ds:List (Nat×Nat)}:DotsT w v ds↔RowT kDot w v ds:=by
 constructor
 ·rintro⟨ao,cap,h1,h2,h3⟩
  refine⟨ao,cap,h1,h2,fun i hi=>?_⟩
  obtain⟨g,off,cs,fr,e,hg,c0,c1⟩:=h3 i hi
  refine⟨g,off,cs,fr,e,hg,fun j hj=>?_⟩
  change j<2 at hj
  match j,hj with
  | 0,_=>exact c0
  | 1,_=>exact c1
  | j+2,hj=>omega
 ·rintro⟨ao,cap,h1,h2,h3⟩
  refine⟨ao,cap,h1,h2,fun i hi=>?_⟩
  obtain⟨g,off,cs,fr,e,hg,c⟩:=h3 i hi
  exact⟨g,off,cs,fr,e,hg,c 0 lF,c 1 lF⟩
end
section
open Go.RowKit Rw Rh
namespace Pl
def step (p:(Nat→Nat)×List (Nat×Nat)) (d:Nat×Nat):(Nat→Nat)×List (Nat×Nat):=
 if d.2=p.1 d.1+1 then(fun a=>if a=d.1 then d.2 else p.1 a,p.2)else(p.1,p.2++[d])
def close (l:List (Nat×Nat)):(Nat→Nat)×List (Nat×Nat):=l.foldl step (fun _=>0,[])
theorem vJ:close []=(fun _=>0,[]):=rfl
theorem close_snoc (l:List (Nat×Nat)) (d:Nat×Nat):close (l++[d])=step (close l) d:=by unfold close;rw[List.foldl_append];rfl
structure Part (O:Nat→Nat→Bool) (n s:Nat) (U:Nat→Nat) (M:List (Nat×Nat)):Prop where
 all:∀a b,1≤b→b≤U a→O a b=true
 may:∀d∈M,U d.1+2≤d.2∧O d.1 d.2=true∧Before d (n,s)
 ord:M.Pairwise Before
 has:∀a b,O a b=true→Before (a,b) (n,s)→b≤U a∨(a,b)∈M
 low:∀a,U a=0∨Before (a,U a) (n,s)
theorem part_step {O:Nat→Nat→Bool} {n s:Nat} {U:Nat→Nat} {M:List (Nat×Nat)} (h:Part O n s U M) (hO:O n s=true) (hs:1≤s):Part O n (s+1) (step (U,M) (n,s)).1 (step (U,M) (n,s)).2:=by
 unfold step
 by_cases e:s=U n+1
 ·simp only[if_pos e]
  refine⟨fun a b h1 h2=>?_,fun d hd=>?_,h.ord,fun a b hab hb=>?_,fun a=>?_⟩
  ·by_cases ea:a=n
   ·subst ea
    simp only[if_true]at h2
    rcases Nat.lt_or_ge b s with h3 | h3
    ·exact h.all a b h1 lD
    ·rw[show b=s from by omega];exact hO
   ·simp only[if_neg ea]at h2
    exact h.all a b h1 h2
  ·obtain⟨h1,h2,h3⟩:=h.may d hd
   have hne:d.1≠n:=fun ed=>by
    rcases h3 with h3 | ⟨_,h3⟩
    ·exact absurd ed (Nat.ne_of_lt h3)
    ·rw[ed]at h1;simp only at h3;omega
   refine⟨by simp only[if_neg hne];exact h1,h2,?_⟩
   rcases h3 with h3 | ⟨h3,_⟩
   ·exact .inl h3
   ·exact absurd h3 hne
  ·by_cases ea:a=n∧b=s
   ·obtain⟨rfl,rfl⟩:=ea
    exact .inl (by simp)
   ·have hb':Before (a,b) (n,s):=by
     exact mV
    rcases h.has a b hab hb' with h1 | h1
    ·left
     by_cases ea':a=n
     ·subst ea';simp only[if_true];omega
     ·simp only[if_neg ea'];exact h1
    ·exact .inr h1
  ·by_cases ea:a=n
   ·subst ea;right;simp only[if_true];exact .inr ⟨rfl,by simp only;omega⟩
   ·simp only[if_neg ea]
    rcases h.low a with h1 | h1 | ⟨h1,h2⟩
    ·exact .inl h1
    ·exact .inr (.inl h1)
    ·exact .inr (.inr ⟨h1,by simp only at h2 ⊢;omega⟩)
 ·simp only[if_neg e]
  have hUn:U n<s:=by
   rcases h.low n with h1 | h1 | ⟨_,h1⟩
   ·omega
   ·exact absurd h1 (Nat.lt_irrefl _)
   ·exact h1
  refine⟨h.all,fun d hd=>?_,?_,fun a b hab hb=>?_,fun a=>?_⟩
  ·rcases List.mem_append.1 hd with hd | hd
   ·obtain⟨h1,h2,h3⟩:=h.may d hd
    refine⟨h1,h2,?_⟩
    rcases h3 with h3 | ⟨h3,h4⟩
    ·exact .inl h3
    ·exact .inr ⟨h3,by simp only at h4 ⊢;omega⟩
   ·rw[List.mem_singleton]at hd
    subst hd
    exact⟨by simp only;omega,hO,.inr ⟨rfl,by simp only;omega⟩⟩
  ·rw[List.pairwise_append]
   refine⟨h.ord,List.pairwise_singleton _ _,fun a ha b hb=>?_⟩
   rw[List.mem_singleton]at hb
   subst hb
   exact(h.may a ha).2.2
  ·by_cases ea:a=n∧b=s
   ·obtain⟨rfl,rfl⟩:=ea
    exact .inr (by simp)
   ·have hb':Before (a,b) (n,s):=by
     exact mV
    exact(h.has a b hab hb').imp id (fun h1=>List.mem_append.2 (.inl h1))
  ·rcases h.low a with h1 | h1 | ⟨h1,h2⟩
   ·exact .inl h1
   ·exact .inr (.inl h1)
   ·exact .inr (.inr ⟨h1,by simp only at h2 ⊢;omega⟩)
theorem part_skip {O:Nat→Nat→Bool} {n s:Nat} {U:Nat→Nat} {M:List (Nat×Nat)} (h:Part O n s U M) (hO:O n s=false):Part O n (s+1) U M:=by
 have up:∀x:Nat×Nat,Before x (n,s)→Before x (n,s+1):=fun x hx=>by
  rcases hx with hx | ⟨hx,hx'⟩
  ·exact .inl hx
  ·exact .inr ⟨hx,by simp only at hx' ⊢;omega⟩
 refine⟨h.all,fun d hd=>⟨(h.may d hd).1,(h.may d hd).2.1,up _ (h.may d hd).2.2⟩,h.ord,fun a b hab hb=>?_,fun a=>(h.low a).imp id (up _)⟩
 refine h.has a b hab ?_
 rcases hb with hb | ⟨hb,hb'⟩
 ·exact .inl hb
 ·simp only at hb hb'
  refine .inr ⟨hb,?_⟩
  simp only
  rcases Nat.lt_or_ge b s with h1 | h1
  ·exact h1
  ·have:b=s:=by omega
   subst this hb
   rw[hO]at hab;cases hab
theorem part_row {O:Nat→Nat→Bool} {n:Nat} {U:Nat→Nat} {M:List (Nat×Nat)} (h:Part O n 98 U M) (hO:∀a b,O a b=true→b≤96):Part O (n+1) 0 U M:=by
 have up:∀x:Nat×Nat,Before x (n,98)→Before x (n+1,0):=fun x hx=>by
  rcases hx with hx | ⟨hx,hx'⟩
  ·exact .inl (by simp only at hx ⊢;omega)
  ·exact .inl (by simp only at hx ⊢;omega)
 refine⟨h.all,fun d hd=>⟨(h.may d hd).1,(h.may d hd).2.1,up _ (h.may d hd).2.2⟩,h.ord,fun a b hab hb=>?_,fun a=>(h.low a).imp id (up _)⟩
 refine h.has a b hab ?_
 have:=hO a b hab
 rcases hb with hb | ⟨hb,hb'⟩
 ·simp only at hb
  by_cases e:a=n
  ·exact .inr ⟨e,by simp only;omega⟩
  ·exact .inl (by simp only;omega)
 ·simp only at hb';omega
def Fit (O:Nat→Nat→Bool):Prop:=∀a b,O a b=true→a<8∧1≤b∧b≤96
theorem part_ahead {O:Nat→Nat→Bool} (hO:Fit O):∀n s,s≤98→Part O n s (close (ahead O n s)).1 (close (ahead O n s)).2:=by
 have row:∀n,Part O n 0 (close (ahead O n 0)).1 (close (ahead O n 0)).2→∀s,Part O n s (close (ahead O n s)).1 (close (ahead O n s)).2:=by
  intro n h s
  induction s with
  | zero=>exact h
  | succ s ih=>
   cases hb:O n s with
   | true=>rw[ahead_yes O n s hb,close_snoc];exact part_step ih hb (hO n s hb).2.1
   | false=>rw[ahead_no O n s hb];exact part_skip ih hb
 intro n
 induction n with
 | zero=>exact fun s _=>row 0 ⟨fun a b h1 h2=>by rw[wV,vJ]at h2;simp only at h2;omega,(fun d hd=>by rw[wV,vJ]at hd;cases hd),(by rw[wV,vJ];exact List.Pairwise.nil),(fun a b _ hb=>by rcases hb with hb | ⟨_,hb⟩<;>simp only at hb<;>omega),fun a=>by rw[wV,vJ];exact .inl rfl⟩ s
 | succ n ih=>exact fun s _=>row (n+1) (by rw[←ahead_all];exact part_row (ih 98 (by omega)) (fun a b h=>(hO a b h).2.2)) s
theorem closed_dots {O:Nat→Nat→Bool} (hO:Fit O):Closed O (close (dots O)).1 (close (dots O)).2:=by
 have h:=part_ahead hO 8 0 lD
 rw[ahead_end]at h
 refine⟨fun n _=>?_,fun n s _ h1 h2=>h.all n s h1 h2,fun d hd=>?_,h.ord,fun n s hs=>?_⟩
 ·rcases Nat.eq_zero_or_pos ((close (dots O)).1 n)with e | e
  ·omega
  ·exact(hO n _ (h.all n _ e (Nat.le_refl _))).2.2
 ·obtain⟨h1,h2,_⟩:=h.may d hd
  have:=hO _ _ h2
  exact⟨this.1,h1,this.2.2,h2⟩
 ·have:=hO n s hs
  exact⟨this.1,this.2.1,this.2.2,h.has n s hs (.inl this.1)⟩
theorem Closed.fit {O:Nat→Nat→Bool} {U:Nat→Nat} {M:List (Nat×Nat)} (h:Closed O U M):Fit O:=fun a b hab=>by
 have:=h.has a b hab;exact⟨this.1,this.2.1,this.2.2.1⟩
end Pl
def ClAt (base c:Nat) (p:(Nat→Nat)×List (Nat×Nat)) (w:World):Prop:=∃m,w.heap[c]?=some (.cells #[.int .i64 (p.1 0),.int .i64 (p.1 1),.int .i64 (p.1 2),.int .i64 (p.1 3),.int .i64 (p.1 4),.int .i64 (p.1 5),.int .i64 (p.1 6),.int .i64 (p.1 7),m] 60 (0,0))∧OwnR kDot base w m p.2
theorem ClAt.below {base c:Nat} {p:(Nat→Nat)×List (Nat×Nat)} {w w':World} (h:ClAt base c p w) (hb:Below w.heap.size w w'):ClAt base c p w':=by
 obtain⟨m,h1,h2⟩:=h
 exact⟨m,(hb.block c (gsi.1 h1).1).trans h1,h2.below hb⟩
theorem set8 (p:(Nat→Nat)×List (Nat×Nat)) (n s:Nat) (m:Value) (hn:n<8) (hs:s=p.1 n+1) :
  (#[.int .i64 (p.1 0),.int .i64 (p.1 1),.int .i64 (p.1 2),.int .i64 (p.1 3),.int .i64 (p.1 4),.int .i64 (p.1 5),.int .i64 (p.1 6),.int .i64 (p.1 7),m]:Array Value).setIfInBounds n (.int .i64 s)=(let p:=Pl.step p (n,s);#[.int .i64 (p.1 0),.int .i64 (p.1 1),.int .i64 (p.1 2),.int .i64 (p.1 3),.int .i64 (p.1 4),.int .i64 (p.1 5),.int .i64 (p.1 6),.int .i64 (p.1 7),m]):=by
 have e:Pl.step p (n,s)=(fun a=>if a=n then s else p.1 a,p.2):=by unfold Pl.step;rw[if_pos hs]
 rw[e]
 match n,hn with
 | 0,_=>simp
 | 1,_=>simp
 | 2,_=>simp
 | 3,_=>simp
 | 4,_=>simp
 | 5,_=>simp
 | 6,_=>simp
 | 7,_=>simp
 | i+8,hi=>omega
theorem cell8 {w:World} {c:Nat} {U:Nat→Nat} {m:Value} (h:w.heap[c]?=some (.cells #[.int .i64 (U 0),.int .i64 (U 1),.int .i64 (U 2),.int .i64 (U 3),.int .i64 (U 4),.int .i64 (U 5),.int .i64 (U 6),.int .i64 (U 7),m] 60 (0,0))) {n:Nat} (hn:n<8):w.cell? ⟨c,n,none⟩=some (.int .i64 (U n)):=by
 match n,hn with
 | 0,_=>exact cc 0 h
 | 1,_=>exact cc 1 h
 | 2,_=>exact cc 2 h
 | 3,_=>exact cc 3 h
 | 4,_=>exact cc 4 h
 | 5,_=>exact cc 5 h
 | 6,_=>exact cc 6 h
 | 7,_=>exact cc 7 h
 | i+8,hi=>omega
theorem close1_ok (base c n s:Nat) (p:(Nat→Nat)×List (Nat×Nat)) (w:World) (h:ClAt base c p w) (hc:base≤c) (hn:n<8) (hs:s≤98) (hu:p.1 n≤98) (hl:p.2.length≤1000) :
  Calls prog 324 #[.agg (Qi n s),Qp c] w fun e w'=>e=.returned (.tuple #[])∧ClAt base c (Pl.step p (n,s)) w'∧Below base w w':=by
 obtain⟨m,hx,hm⟩:=h
 have hcs:=(gsi.1 hx).1
 have bw:Below w.heap.size w (w.alloc (.cells (Qi n s) 45)):=bn _ _
 have hy:=heap_alloc_new w (.cells (Qi n s) 45)
 have f0:∀q:Beh (w.alloc (.cells (Qi n s) 45)),q.w.cell? ⟨w.heap.size,0,none⟩=some (.int .i64 n):=fun q=>q.cell (cc 0 hy)
 have f1:∀q:Beh (w.alloc (.cells (Qi n s) 45)),q.w.cell? ⟨w.heap.size,1,none⟩=some (.int .i64 s):=fun q=>q.cell (cc 1 hy)
 have cu:=cell8 hx hn
 have fu:∀q:Beh (w.alloc (.cells (Qi n s) 45)),q.w.cell? ⟨c,n,none⟩=some (.int .i64 (p.1 n)):=fun q=>q.cell ((bw.cell (p:=⟨c,n,none⟩) hcs).trans cu)
 have HBX:=zA (Below.refl (w.alloc (.cells (Qi n s) 45)).heap.size (w.alloc (.cells (Qi n s) 45)))
 have HBW:=zA bw
 have HX:=zA hx
 have HM:=zA hm
 have HCS:=zA hcs
 have g8:(n:Int)<8:=by omega
 have a1:(p.1 n:Int)+1≤9223372036854775807:=by omega
 generalize hgu:p.1 n=u at *
 have HU:=zA hgu
 have HY:=zA hy
 clear hx hm hcs cu bw hgu hy
 by_cases e:s=u+1
 ·have ee:((s:Int) == (u:Int)+1)=true:=by simp;omega
  have HE:=zA e
  clear e
  go_enter func324,ntmps324
  go_wp2_with fail
  refine zS lE lE HBX.out ?_
  repeat (go_big_quiet_step (fail))
  refine wpQuiet_nil ?_
  intro _ hw'
  obtain⟨q,hw''⟩:=hw'
  subst hw''
  clear f0 f1 fu
  have bq:=HBW.out.trans (q.b.mono HBW.out.size)
  have x1:=(bq.block c HCS.out).trans HX.out
  have cu:=cell8 x1 (Nat.lt_of_lt_of_le hn (Nat.le_refl _))
  rw[HU.out]at cu
  have y1:=(q.b.block w.heap.size (gsi.1 HY.out).1).trans HY.out
  have d0:=cc 0 y1
  have fz:=zB x1 n
  have HX1:=zA x1
  have HBQ:=zA bq
  clear x1 bq y1
  go_wp2_with fail
  have hx2:=zF (j:=n) HX1.out (.int .i64 s)
  rw[set8 p n s m hn (by rw[HU.out];exact HE.out)]at hx2
  have es:((u:Int)+1)=(s:Int):=by have:=HE.out;omega
  rw[es]
  refine yG results324 ⟨rfl,⟨m,hx2,?_⟩,?_⟩
  ·have hst:(Pl.step p (n,s)).2=p.2:=by unfold Pl.step;rw[if_pos (by rw[HU.out];exact HE.out)]
   rw[hst]
   refine(HM.out.below HBQ.out).keep (fun g hg=>Below.heap_setCell _ _ _ _ (fun eg=>?_))
   obtain⟨cs,hcs⟩:=zK HM.out hg
   rw[show g=c from eg,HX.out]at hcs;cases hcs
  ·exact zM (HBQ.out.mono (Nat.le_trans hc (Nat.le_of_lt HCS.out))) hc _ _
 ·have ee:((s:Int) == (u:Int)+1)=false:=by simp;omega
  have HE:=zA e
  clear e
  go_enter func324,ntmps324
  go_wp2_with fail
  refine zS lE lE HBX.out ?_
  repeat (go_big_quiet_step (fail))
  refine wpQuiet_nil ?_
  intro _ hw'
  obtain⟨q,hw''⟩:=hw'
  subst hw''
  clear f0 f1 fu
  have bq:=HBW.out.trans (q.b.mono HBW.out.size)
  have x1:=(bq.block c HCS.out).trans HX.out
  have y1:=(q.b.block w.heap.size (gsi.1 HY.out).1).trans HY.out
  have d0:=cc 0 y1
  have d1:=cc 1 y1
  have c8:=cc 8 x1
  have b3:Below q.w.heap.size q.w (q.w.alloc (.cells (Qi n s) 45)):=bn _ _
  have qX:=zA ((HM.out.below bq).below b3)
  have qI:=zA (rN kDot q.w (n,s) (Qi n s) rfl)
  have hcq:=Nat.lt_of_lt_of_le HCS.out bq.size
  have HBB:=zA ((bq.mono (Nat.le_trans hc (Nat.le_of_lt HCS.out))).trans (b3.mono (Nat.le_trans hc (Nat.le_of_lt hcq))))
  have HX1:=zA ((b3.block c hcq).trans x1)
  have HCQ:=zA (Nat.lt_of_lt_of_le hcq b3.size)
  clear x1 bq y1 b3 hcq
  clear ee a1 g8
  have hne:m.ownBlock≠some c:=fun eg=>by
   obtain⟨cs,hcs⟩:=zK HM.out eg
   rw[HX.out]at hcs;cases hcs
  have HNE:=zA hne
  clear hne
  go_wp2_with (
   at_builtin
   refine wp_appR kDot rfl (.tmp 21) (.tmp 23) rfl rfl qX.out rfl qI.out (by simp;omega) HBB.out (Nat.le_trans hc (Nat.le_of_lt HCQ.out)) ?_
   intro v1 w1 hown1 hb1 hg1
   have x1:=(hg1.block c HCQ.out (fun e=>HNE.out e.symm)).trans HX1.out
   have c8:=cc 8 x1
   have fz:=zB x1 8
   have HX2:=zA x1
   have HO1:=zA hown1
   have HB1:=zA hb1
   have pI:∃ao cap,v1=.slice ao (p.2.length+1) cap:=by simpa using hown1.toT.form
   obtain⟨ao,cap,rfl⟩:=pI
   clear x1 hown1 hb1 hg1)
  have hx2:=zF (j:=8) HX2.out (.slice ao (p.2.length+1) cap)
  have hst:Pl.step p (n,s)=(p.1,p.2++[(n,s)]):=by unfold Pl.step;rw[if_neg (by rw[HU.out];exact HE.out)]
  refine yG results324 ⟨rfl,⟨.slice ao (p.2.length+1) cap,?_,?_⟩,zM HB1.out hc _ _⟩
  ·rw[hst];refine hx2.trans ?_;simp
  ·rw[hst]
   exact mO
namespace Pl
theorem Part.small {O:Nat→Nat→Bool} {n s:Nat} {U:Nat→Nat} {M:List (Nat×Nat)} (h:Part O n s U M) (hO:Fit O):(∀a,U a≤96)∧M.length≤768:=by
 refine⟨fun a=>?_,?_⟩
 ·rcases Nat.eq_zero_or_pos (U a)with e | e
  ·omega
  ·exact(hO a _ (h.all a _ e (Nat.le_refl _))).2.2
 ·have:=wR 768 M 1 h.ord (fun d hd=>by
   obtain⟨h1,h2,_⟩:=h.may d hd
   have:=hO _ _ h2
   omega)
  omega
end Pl
namespace Pl
theorem row_pw (O:Nat→Nat→Bool) (n:Nat) (l:List Nat) (h:l.Pairwise (· < ·)):((l.filter (O n)).map (fun s=>(n,s))).Pairwise Before:=by
 rw[List.pairwise_map]
 exact(h.filter _).imp (fun h=>.inr ⟨rfl,h⟩)
theorem ahead_pw (O:Nat→Nat→Bool) (n s:Nat):(ahead O n s).Pairwise Before:=by
 unfold ahead
 rw[List.pairwise_append]
 refine⟨?_,row_pw O n _ List.pairwise_lt_range,fun a ha b hb=>?_⟩
 ·rw[List.pairwise_flatMap]
  refine⟨fun a _=>row_pw O a _ List.pairwise_lt_range,(List.pairwise_lt_range (n:=n)).imp (fun hab x hx y hy=>?_)⟩
  unfold row at hx hy
  obtain⟨_,_,rfl⟩:=List.mem_map.1 hx
  obtain⟨_,_,rfl⟩:=List.mem_map.1 hy
  exact .inl hab
 ·obtain⟨c,hc,h⟩:=List.mem_flatMap.1 ha
  unfold row at h
  obtain⟨_,_,rfl⟩:=List.mem_map.1 h
  obtain⟨_,_,rfl⟩:=List.mem_map.1 hb
  exact .inl (List.mem_range.1 hc)
theorem sX {O:Nat→Nat→Bool} {n s:Nat} {d:Nat×Nat} (h:d∈ahead O n s):O d.1 d.2=true:=by
 unfold ahead at h
 rcases List.mem_append.1 h with h | h
 ·obtain⟨c,hc,h⟩:=List.mem_flatMap.1 h
  unfold row at h
  obtain⟨b,hb,rfl⟩:=List.mem_map.1 h
  exact(List.mem_filter.1 hb).2
 ·obtain⟨b,hb,rfl⟩:=List.mem_map.1 h
  exact(List.mem_filter.1 hb).2
theorem ahead_len (O:Nat→Nat→Bool) (hO:Fit O) (n s:Nat):(ahead O n s).length≤768:=by
 have:=wR 768 (ahead O n s) 1 (ahead_pw O n s) (fun d hd=>by
  have:=hO _ _ (sX hd)
  omega)
 omega
theorem dots_pw (O:Nat→Nat→Bool):(dots O).Pairwise Before:=by rw[←ahead_end];exact ahead_pw O 8 0
theorem mem_dots {O:Nat→Nat→Bool} (hO:Fit O) (n s:Nat):(n,s)∈dots O↔O n s=true:=by
 refine⟨fun h=>sX (n:=8) (s:=0) (by rw[ahead_end];exact h),fun h=>?_⟩
 have:=hO n s h
 unfold dots row
 exact List.mem_flatMap.2 ⟨n,List.mem_range.2 this.1,List.mem_map.2 ⟨s,List.mem_filter.2 ⟨List.mem_range.2 lD,h⟩,rfl⟩⟩
end Pl
theorem zN {w:World} {g j:Nat} {t:TypeId} {cs:Array Value} {fr:Nat×Nat} {v:Value} (h:w.heap[g]?=some (.cells cs t fr)) (hv:cs[j]?=some v):w.setCell ⟨g,j,none⟩ v=w:=by
 have qQ:cs.setIfInBounds j v=cs:=by
  apply Array.ext_getElem?
  intro i
  rw[Array.getElem?_setIfInBounds]
  split
  ·rename_i e;subst e;rw[hv];split
   ·rfl
   ·rename_i hn;rw[Array.getElem?_eq_none (by omega)]at hv;cases hv
  ·rfl
 have h2:=zF (j:=j) h v
 rw[qQ]at h2
 have hh:(w.setCell ⟨g,j,none⟩ v).heap=w.heap:=by
  apply Array.ext_getElem?
  intro i
  by_cases e:i=g
  ·subst e;rw[h2,h]
  ·exact Below.heap_setCell _ _ _ _ e
 cases w
 simp only[World.setCell]at hh ⊢
 simp only[hh]
theorem close_ok (o:Nat) (O:Nat→Nat→Bool) (w:World) (h:OpAt w o O) (hO:Pl.Fit O) :
  Calls prog 264 #[Qp o] w fun e w'=>∃v U M,e=.returned v∧SetV w' v O U M∧Below w.heap.size w w':=by
 have b1:Below w.heap.size w (w.alloc (.cells (Qv 0 0 0 0 0 0 0 0) 60)):=bn _ _
 have hx:=heap_alloc_new w (.cells (Qv 0 0 0 0 0 0 0 0) 60)
 have hcl:ClAt w.heap.size w.heap.size (Pl.close []) (w.alloc (.cells (Qv 0 0 0 0 0 0 0 0) 60)):=⟨.slice none 0 0,hx,yJ _ _ _⟩
 have HW:=zA (walk_any o 324 #[Qp w.heap.size] O (fun l W=>ClAt w.heap.size w.heap.size (Pl.close l) W∧Below w.heap.size w W) _ ⟨hcl,b1⟩ (fun l W hI=>h.below hI.2) (fun x W=>by kernel_rfl) (fun n s W hI hn hs hb=>by
  have hp:=(Pl.part_ahead hO n s lD).small hO
  refine(close1_ok w.heap.size w.heap.size n s _ W hI.1 (Nat.le_refl _) hn lD (by have:=hp.1 n;omega) lD).mono ?_
  rintro e w' ⟨rfl,h1,h2⟩
  exact⟨rfl,by rw[Pl.close_snoc];exact h1,hI.2.trans h2⟩))
 have HC:=zA (Pl.closed_dots hO)
 clear b1 hx hcl h
 go_enter func264,ntmps264
 go_wp2_with fail
 refine HW.out.mono ?_
 rintro e w1 ⟨rfl,hcl,hb⟩
 obtain⟨m,hx,hm⟩:=hcl
 have HX:=zA hx
 have HM:=zA hm
 have HB:=zA hb
 obtain⟨ao,cap,rfl⟩:=hm.toT.form
 generalize hcc:Pl.close (Pl.dots O)=p at *
 have c0:=cc 0 hx
 have e0:=zN (j:=0) hx rfl
 have c1:=cc 1 hx
 have e1:=zN (j:=1) hx rfl
 have c2:=cc 2 hx
 have e2:=zN (j:=2) hx rfl
 have c3:=cc 3 hx
 have e3:=zN (j:=3) hx rfl
 have c4:=cc 4 hx
 have e4:=zN (j:=4) hx rfl
 have c5:=cc 5 hx
 have e5:=zN (j:=5) hx rfl
 have c6:=cc 6 hx
 have e6:=zN (j:=6) hx rfl
 have c7:=cc 7 hx
 have e7:=zN (j:=7) hx rfl
 have c8:=cc 8 hx
 have e8:=zN (j:=8) hx rfl
 have fz:=fun j=>zB hx j
 simp only[List.getElem_toArray,List.getElem_cons_zero,List.getElem_cons_succ]at e0 e1 e2 e3 e4 e5 e6 e7 e8
 clear hx hm hb HW
 go_wp2_with fail
 exact bodyPost_ret (v:=Pl.setv p.1 (.slice ao p.2.length cap)) (by simp[results,results264,go_sem,c0,c1,c2,c3,c4,c5,c6,c7,c8,Pl.setv]) rfl ⟨_,p.1,p.2,rfl,⟨_,rfl,wM.2 HM.out.toT,HC.out⟩,HB.out⟩
theorem zG (w:World) (o:Obj):(w.alloc o).heap.size=w.heap.size+1:=by simp
def LsAt (base c:Nat) (l:List (Nat×Nat)) (w:World):Prop:=∃m,w.heap[c]?=some (.cells #[m] 58 (0,0))∧OwnR kDot base w m l
theorem list1_ok (base c n s:Nat) (l:List (Nat×Nat)) (w:World) (h:LsAt base c l w) (hc:base≤w.heap.size) (hl:l.length≤1000) :
  Calls prog 126 #[.agg (Qi n s),Qp c] w fun e w'=>e=.returned (.tuple #[])∧LsAt base c (l++[(n,s)]) w'∧Off (fun g=>g=c∨base≤g) w w':=by
 obtain⟨m,hx,hm⟩:=h
 have hcs:=(gsi.1 hx).1
 have bw:Below w.heap.size w (w.alloc (.cells (Qi n s) 45)):=bn _ _
 have b2:Below w.heap.size w ((w.alloc (.cells (Qi n s) 45)).alloc (.cells (Qi n s) 45)):=bw.alloc bw.size _
 have hne:m.ownBlock≠some c:=fun eg=>by
  obtain⟨cs,hcs⟩:=zK hm eg
  rw[hx]at hcs;cases hcs
 have qX:=zA (hm.below b2)
 have qL:=rN kDot (w.alloc (.cells (Qi n s) 45)) (n,s) (Qi n s) rfl
 rw[zG]at qL
 have qI:=zA qL
 have HBB:=zA (b2.mono hc)
 have HC:=zA hc
 have HX1:=zA ((b2.block c hcs).trans hx)
 have HCQ:=zA (Nat.lt_of_lt_of_le hcs b2.size)
 have HNE:=zA hne
 have HX:=zA hx
 have c0:=zE (j:=0) ((bw.block c hcs).trans hx) rfl
 clear bw b2 hne hx hm hcs qL
 go_enter func126,ntmps126
 go_wp2_with (
  at_builtin
  refine wp_appR kDot rfl (.tmp 3) (.tmp 5) rfl rfl qX.out rfl qI.out (by simp;omega) HBB.out (Nat.le_trans HC.out (by simp;omega)) ?_
  intro v1 w1 hown1 hb1 hg1
  have x1:=(hg1.block c HCQ.out (fun e=>HNE.out e.symm)).trans HX1.out
  have c1:=cc 0 x1
  have fz:=zB x1 0
  have HX2:=zA x1
  have HO1:=zA hown1
  have HB1:=zA hb1
  have pI:∃ao cap,v1=.slice ao (l.length+1) cap:=by simpa using hown1.toT.form
  obtain⟨ao,cap,rfl⟩:=pI
  clear x1 hown1 hb1 hg1)
 have hx2:=zF (j:=0) HX2.out (.slice ao (l.length+1) cap)
 refine yG results126 ⟨rfl,⟨.slice ao (l.length+1) cap,?_,?_⟩,(⟨HB1.out.size,fun g hg hn=>HB1.out.block g lD,HB1.out.os,HB1.out.tape,HB1.out.output⟩:Off (fun g=>g=c∨base≤g) w w1).set (a:=⟨c,0,none⟩) (.inl (.inl rfl)) _⟩
 ·refine hx2.trans ?_;simp
 ·refine HO1.out.keep (fun g hg=>Below.heap_setCell _ _ _ _ (fun eg=>?_))
  obtain⟨cs,hcs⟩:=zK HO1.out hg
  rw[show g=c from eg,HX2.out]at hcs;cases hcs
theorem sY (v:Value) (O:Nat→Nat→Bool) (U:Nat→Nat) (M:List (Nat×Nat)) (w:World) (h:SetV w v O U M) :
  Calls prog 57 #[v] w fun e w'=>∃v',e=.returned v'∧(OwnR kDot w.heap.size w' v' (Pl.dots O)∧Below w.heap.size w w')∧(Pl.dots O=[]→v'=.slice none 0 0):=by
 have HV:=zA h
 obtain⟨m,rfl,hd,hc⟩:=h
 obtain⟨ao,cap,rfl,_⟩:=hd.toC
 have oB:=zA hc.fit
 have b1:=bn w (.cells (Qu U ao M.length cap) 60)
 have b2:=b1.alloc b1.size (.cells #[.slice none 0 0] 58)
 have b3:=b2.alloc b2.size (.cells (Qu U ao M.length cap) 60)
 have ho:=of_ok _ _ O U M _ (heap_alloc_new _ _) (HV.out.below b3)
 have hx:=heap_alloc_new (w.alloc (.cells (Qu U ao M.length cap) 60)) (.cells #[.slice none 0 0] 58)
 have hx2:=((bn _ (.cells (Qu U ao M.length cap) 60)).block _ (gsi.1 hx).1).trans hx
 rw[zG]at hx2
 rw[zG,zG]at ho
 have HO:=zA ho
 have HX:=zA hx2
 have HB:=zA b3
 clear hd hc b1 b2 b3 hx hx2 ho
 go_enter func57,ntmps57
 go_wp2_with fail
 generalize hW:((w.alloc (.cells (Qu U ao M.length cap) 60)).alloc (.cells #[.slice none 0 0] 58)).alloc (.cells (Qu U ao M.length cap) 60)=W0 at *
 clear hW
 refine HO.out.mono ?_
 rintro e w1 ⟨o,rfl,ho,h1,hb1⟩
 have HB1:=zA (HB.out.trans (hb1.mono HB.out.size))
 have hnx:=(hb1.block _ (gsi.1 HX.out).1).trans HX.out
 have hls:LsAt w1.heap.size (w.heap.size+1) [] w1:=⟨_,hnx,yJ _ _ _⟩
 have hco:o≠w.heap.size+1:=by have:=(gsi.1 HX.out).1;omega
 have hol:=h1.lt
 have HW:=zA (walk_any o 126 #[Qp (w.heap.size+1)] O (fun l W=>LsAt w1.heap.size (w.heap.size+1) l W∧Off (fun g=>g=w.heap.size+1∨w1.heap.size≤g) w1 W∧(l=[]→W.heap[w.heap.size+1]?=some (.cells #[.slice none 0 0] 58 (0,0)))) w1 ⟨hls,.refl _ _,fun _=>hnx⟩ (fun l W hI=>h1.keep (hI.2.1.same o hol lD)) (fun x W=>by kernel_rfl) (fun n s W hI hn hs hb=>by
  have hlen:=Pl.ahead_len O oB.out n s
  refine(list1_ok w1.heap.size (w.heap.size+1) n s _ W hI.1 hI.2.1.size lD).mono ?_
  rintro e w' ⟨rfl,h1,h2⟩
  exact⟨rfl,h1,hI.2.1.trans h2,fun e=>absurd e (by simp)⟩))
 have HSZ:=zA (show w.heap.size≤w1.heap.size from HB1.out.size)
 clear hls hco hol h1 hb1 hnx ho HO
 go_wp2_with fail
 refine HW.out.mono ?_
 rintro e w2 ⟨rfl,⟨m,hx,hm⟩,hF,pT⟩
 have HB2:=zA (hF.since HB1.out (fun g hg=>by have:=HSZ.out;omega))
 have HM:=zA hm
 have HNIL:=zA (show Pl.dots O=[]→m=.slice none 0 0 from fun e=>by have h:=pT e;rw[hx]at h;simpa using h)
 clear pT
 obtain⟨ao2,cap2,rfl⟩:=hm.toT.form
 have c0:=cc 0 hx
 have e0:=zN (j:=0) hx rfl
 have fz:=zB hx 0
 simp only[List.getElem_toArray,List.getElem_cons_zero]at e0
 clear hx hm hF HW HX
 go_wp2_with fail
 exact bodyPost_ret (v:=.slice ao2 (Pl.dots O).length cap2) (by simp[results,results57,go_sem,c0]) rfl ⟨_,rfl,⟨HM.out.mono HSZ.out,HB2.out⟩,HNIL.out⟩
theorem list_ok (v:Value) (O:Nat→Nat→Bool) (U:Nat→Nat) (M:List (Nat×Nat)) (w:World) (h:SetV w v O U M) :
  Calls prog 57 #[v] w fun e w'=>∃v',e=.returned v'∧OwnR kDot w.heap.size w' v' (Pl.dots O)∧Below w.heap.size w w':=
 (sY v O U M w h).mono (by rintro e w' ⟨v',rfl,h,_⟩;exact⟨v',rfl,h⟩)
theorem has_ok (v:Value) (n s:Nat) (O:Nat→Nat→Bool) (U:Nat→Nat) (M:List (Nat×Nat)) (w:World) (h:SetV w v O U M) (hn:n<8) (hs:1≤s∧s≤96) :
  Calls prog 307 #[v,.agg (Qi n s)] w fun e w'=>e=.returned (.bool (O n s))∧Below w.heap.size w w':=by
 have HV:=zA h
 obtain⟨m,rfl,hd,hc⟩:=h
 obtain⟨ao,cap,rfl,_⟩:=hd.toC
 have b1:=bn w (.cells (Qu U ao M.length cap) 60)
 have b2:=b1.alloc b1.size (.cells (Qi n s) 45)
 have hx:=heap_alloc_new w (.cells (Qu U ao M.length cap) 60)
 have hx2:=((bn _ (.cells (Qi n s) 45)).block _ (gsi.1 hx).1).trans hx
 have hy:=heap_alloc_new (w.alloc (.cells (Qu U ao M.length cap) 60)) (.cells (Qi n s) 45)
 rw[zG]at hy
 have HB:=zA b2
 have HX:=zA hx2
 have HY:=zA hy
 have HN:=zA hn
 have HS:=zA hs
 have HV2:=zA (HV.out.below b2)
 clear hd hc b1 b2 hx hx2 hy hs
 go_enter func307,ntmps307
 go_wp2_with fail
 generalize ((w.alloc (.cells (Qu U ao M.length cap) 60)).alloc (.cells (Qi n s) 45))=W0 at *
 have H60:=zA (fun (W:World) (hW:Below W0.heap.size W0 W)=>(hW.block w.heap.size (gsi.1 HX.out).1).trans HX.out)
 have H45:=zA (fun (W:World) (hW:Below W0.heap.size W0 W)=>(hW.block (w.heap.size+1) (gsi.1 HY.out).1).trans HY.out)
 refine zD (fun W=>Below W0.heap.size W0 W) 99 lE (Below.refl _ _).drew (fun qB=>?_)
 refine tk 0 5 rfl lM ?_
 refine t1 1 rfl (fun K hK=>?_)
 go_simp
 refine(may_any n s _).mono ?_
 rintro e w1 ⟨rfl,b1⟩
 have HB1:=zA ((Below.refl W0.heap.size W0).drew.trans (b1.mono (Nat.le_refl _)))
 rw[show Pl.may n s=true from by have:=HS.out;simp[Pl.may];omega]
 clear b1
 clear qB
 refine hK.out _ _ (fun _=>HB1.out) (fun _=>?_)
 clear hK K
 try simp only[zP]
 have qB:=HB1.out
 refine tkd 2 7 rfl ?_
 refine tk 6 11 rfl lM ?_
 refine tk 7 12 rfl lM ?_
 refine tk 8 13 rfl lM ?_
 refine tk 9 14 rfl lM ?_
 refine tk 3 8 rfl (by intro wS hSw;have y:=H60.out _ hSw;have c0:=cc 0 y;have c1:=cc 1 y;have c2:=cc 2 y;have c3:=cc 3 y;have c4:=cc 4 y;have c5:=cc 5 y;have c6:=cc 6 y;have c7:=cc 7 y;have c8:=cc 8 y;clear hSw;go_simp;(try with_reducible rfl)) ?_
 refine t1 4 rfl (fun K hK=>?_)
 go_simp
 have b2:=bn w1 (.cells (Qu U ao M.length cap) 60)
 have HB2:=zA (HB1.out.trans (b2.mono HB1.out.size))
 have HOF:=zA (of_ok _ _ O U M _ (heap_alloc_new w1 _) ((HV2.out.below HB1.out).below b2))
 clear b2
 refine hK.out _ _ (fun _=>HB2.out) (fun _=>?_)
 clear hK K
 try simp only[zP]
 generalize w1.alloc (.cells (Qu U ao M.length cap) 60)=W2 at *
 refine t1 5 rfl (fun K hK=>?_)
 go_simp
 refine HOF.out.mono ?_
 rintro e w3 ⟨o,rfl,ho,h3,b3⟩
 have HB3:=zA (HB2.out.trans (b3.mono HB2.out.size))
 have co:=h3.cell HN.out (show s<98 by have:=HS.out;omega)
 have g8:(n:Int)<8:=by have:=HN.out;omega
 have g9:(s:Int)<98:=by have:=HS.out;omega
 clear b3 h3 ho HOF
 refine hK.out _ _ (fun _=>HB3.out) (fun _=>?_)
 clear hK K
 try simp only[zP]
 refine t1 10 rfl (fun K hK=>?_)
 go_simp
 refine hK.out _ _ (fun _=>HB3.out) (fun _=>?_)
 clear hK K
 try simp only[zP]
 refine t1 11 rfl (fun K hK=>?_)
 go_simp
 refine hK.out _ _ (fun _=>HB3.out) (fun _=>?_)
 clear hK K
 try simp only[zP]
 refine t1 12 rfl (fun K hK=>?_)
 go_simp
 refine hK.out _ _ (fun _=>HB3.out) (fun _=>?_)
 clear hK K
 try simp only[zP]
 refine t1 13 rfl (fun K hK=>?_)
 go_simp
 refine hK.out _ _ (fun _=>HB3.out) (fun _=>?_)
 clear hK K
 try simp only[zP]
 refine t1 14 rfl (fun K hK=>?_)
 go_simp
 refine hK.out _ _ (fun _=>HB3.out) (fun _=>?_)
 clear hK K
 try simp only[zP]
 refine t1 15 rfl (fun K hK=>?_)
 go_simp
 refine hK.out _ _ (fun _=>HB3.out) (fun _=>?_)
 clear hK K
 try simp only[zP]
 refine wd ?_
 go_wp2_with fail
 go_ret
 exact⟨rfl,HB.out.trans (HB3.out.mono HB.out.size)⟩
end
end Go.Proofs.YtodlmbfbfaofcaaGreat
