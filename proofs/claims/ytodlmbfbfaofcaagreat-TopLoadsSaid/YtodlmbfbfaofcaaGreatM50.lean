/- TopLoads, part 50. -/
import Derived.ChangeSame
import Derived.Deep.Fields
import Derived.Deep.Slices
import Derived.OpenShut
import Derived.ProofKit
import Derived.Test.YtodlmbfbfaofcaaGreatM01
import Derived.Test.YtodlmbfbfaofcaaGreatM07
import Derived.Test.YtodlmbfbfaofcaaGreatM49
open Go.Proofs.Tryz
namespace Go.Proofs.YtodlmbfbfaofcaaGreat
set_option linter.unusedVariables false
set_option linter.unusedSimpArgs false
set_option maxRecDepth 100000
section
open Go.ChangeShapes Go.WideShapes Go.Deep Go.RowKit Rw Rh
section
variable {H:Type} {enc:TypeId×Value→H} {P:Program} {w:World} {base:Nat} {spare:Nat→Bool} {held:Bool} {fuel:Nat} {t:TypeId} {cs:List Value} {x:DataW H×List MemPlace}
theorem wJ {fs:Array Field} (ht:P.underlying t=some (.struct fs)) (h:DataW.trod enc P w base spare held fuel t cs=some x) {i:Nat} {f:Field} (hi:fs[i]?=some f) :
  ∃(n:Nat) (y:DataW H×List MemPlace),DataW.trod enc P w base spare held n f.type ((cs.drop f.offset).take (P.cellsOf f.type))=some y:=by
 obtain⟨xs,n,_,_,_,hlen,hf⟩:=DataW.trod_struct ht h
 have hlt:i<xs.length:=by rw[hlen];exact(gsi.1 hi).1
 exact⟨n,xs[i],by rw[hf i f hi,List.getElem?_eq_getElem hlt]⟩
theorem zZ {fs:Array Field} {k:IntKind} (ht:P.underlying t=some (.struct fs)) (h:DataW.trod enc P w base spare held fuel t cs=some x) {i:Nat} {f:Field} (hi:fs[i]?=some f)
  (he:P.underlying f.type=some (.int k)) (hc:P.cellsOf f.type=1):∃n,cs[f.offset]?=some (.int k n)∧(Lit.int k n).wf=true:=by
 obtain⟨m,y,hy⟩:=wJ ht h hi
 obtain⟨n,e,_,wn⟩:=DataW.trod_int he hy
 refine⟨n,?_,wn⟩
 rw[hc]at e
 have h0:((cs.drop f.offset).take 1)[0]?=some (.int k n):=by rw[e];rfl
 rw[List.getElem?_take,if_pos (by decide),List.getElem?_drop]at h0
 simpa using h0
end
theorem list11 {α:Type} {l:List α} {a b c d e f g h i j k:α} (hl:l.length=11) (h0:l[0]?=some a) (h1:l[1]?=some b) (h2:l[2]?=some c) (h3:l[3]?=some d) (h4:l[4]?=some e) (h5:l[5]?=some f) (h6:l[6]?=some g) (h7:l[7]?=some h) (h8:l[8]?=some i) (h9:l[9]?=some j) (h10:l[10]?=some k):l=[a,b,c,d,e,f,g,h,i,j,k]:=by
 match l,hl with
 | [_,_,_,_,_,_,_,_,_,_,_],_=>simp at h0 h1 h2 h3 h4 h5 h6 h7 h8 h9 h10;simp[*]
theorem yW:prog.cellsOf 3=1:=by kernel_rfl
theorem cells22:prog.cellsOf 22=1:=by kernel_rfl
theorem cells28:prog.cellsOf 28=11:=by kernel_rfl
theorem cells40:prog.cellsOf 40=11:=by kernel_rfl
theorem yP {α:Type} {l:List α} {a n k:Nat} {x:α} (h:((l.drop a).take n)[k]?=some x):l[a+k]?=some x:=by
 rw[List.getElem?_take]at h
 split at h
 ·rwa [List.getElem?_drop]at h
 ·cases h
section
variable {H:Type} {enc:TypeId×Value→H} {w:World} {base:Nat} {spare:Nat→Bool} {held:Bool} {fuel:Nat} {cs:List Value} {x:DataW H×List MemPlace}
theorem conf_cells (h:DataW.trod enc prog w base spare held fuel 28 cs=some x) (hl:cs.length=11):∃a b c d e f g i j k l:Int,cs=[.int .i64 a,.int .i64 b,.int .i64 c,.int .i64 d,.int .i64 e,.int .i64 f,.int .u64 g,.int .u64 i,.int .i64 j,.int .i64 k,.int .i64 l]:=by
 obtain⟨n0,e0,_⟩:=zZ underlying28 h (i:=0) rfl underlying3 yW
 obtain⟨n1,e1,_⟩:=zZ underlying28 h (i:=1) rfl underlying3 yW
 obtain⟨m,y,hy⟩:=wJ underlying28 h (i:=2) rfl
 obtain⟨n2,e2,_⟩:=zZ underlying26 hy (i:=0) rfl underlying3 yW
 obtain⟨n3,e3,_⟩:=zZ underlying26 hy (i:=1) rfl underlying3 yW
 obtain⟨n4,e4,_⟩:=zZ underlying26 hy (i:=2) rfl underlying3 yW
 obtain⟨n5,e5,_⟩:=zZ underlying26 hy (i:=3) rfl underlying3 yW
 obtain⟨n6,e6,_⟩:=zZ underlying26 hy (i:=4) rfl underlying22 cells22
 obtain⟨n7,e7,_⟩:=zZ underlying26 hy (i:=5) rfl underlying22 cells22
 obtain⟨m2,y2,hy2⟩:=wJ underlying26 hy (i:=6) rfl
 obtain⟨n8,e8,_⟩:=zZ underlying24 hy2 (i:=0) rfl underlying3 yW
 obtain⟨n9,e9,_⟩:=zZ underlying24 hy2 (i:=1) rfl underlying3 yW
 obtain⟨n10,e10,_⟩:=zZ underlying24 hy2 (i:=2) rfl underlying3 yW
 exact⟨n0,n1,n2,n3,n4,n5,n6,n7,n8,n9,n10,list11 hl e0 e1 (yP e2) (yP e3) (yP e4) (yP e5) (yP e6) (yP e7) (yP (yP e8)) (yP (yP e9)) (yP (yP e10))⟩
theorem op_cells (h:DataW.trod enc prog w base spare held fuel 40 cs=some x):∃a b c d e f g i j k l:Int,∀(m:Nat) (u:Value),[Value.int .i64 a,.int .i64 b,.int .i64 c,.int .i64 d,.int .i64 e,.int .i64 f,.int .i64 g,.int .i64 i,.int .i64 j,.int .i64 k,.int .i64 l][m]?=some u→cs[m]?=some u:=by
 obtain⟨n0,e0,_⟩:=zZ underlying40 h (i:=0) rfl underlying3 yW
 obtain⟨n1,e1,_⟩:=zZ underlying40 h (i:=1) rfl underlying3 yW
 obtain⟨n2,e2,_⟩:=zZ underlying40 h (i:=2) rfl underlying3 yW
 obtain⟨n3,e3,_⟩:=zZ underlying40 h (i:=3) rfl underlying3 yW
 obtain⟨m,y,hy⟩:=wJ underlying40 h (i:=4) rfl
 obtain⟨n4,e4,_⟩:=zZ underlying38 hy (i:=0) rfl underlying3 yW
 obtain⟨n5,e5,_⟩:=zZ underlying38 hy (i:=1) rfl underlying3 yW
 obtain⟨n6,e6,_⟩:=zZ underlying38 hy (i:=2) rfl underlying3 yW
 obtain⟨n7,e7,_⟩:=zZ underlying38 hy (i:=3) rfl underlying3 yW
 obtain⟨n8,e8,_⟩:=zZ underlying38 hy (i:=4) rfl underlying3 yW
 obtain⟨n9,e9,_⟩:=zZ underlying38 hy (i:=5) rfl underlying3 yW
 obtain⟨n10,e10,_⟩:=zZ underlying38 hy (i:=6) rfl underlying3 yW
 refine⟨n0,n1,n2,n3,n4,n5,n6,n7,n8,n9,n10,fun m u hu=>?_⟩
 match m,hu with
 | 0,hu=>cases hu;exact e0
 | 1,hu=>cases hu;exact e1
 | 2,hu=>cases hu;exact e2
 | 3,hu=>cases hu;exact e3
 | 4,hu=>cases hu;exact yP e4
 | 5,hu=>cases hu;exact yP e5
 | 6,hu=>cases hu;exact yP e6
 | 7,hu=>cases hu;exact yP e7
 | 8,hu=>cases hu;exact yP e8
 | 9,hu=>cases hu;exact yP e9
 | 10,hu=>cases hu;exact yP e10
end
def IsConf (v:Value):Prop:=∃a b c d e f g i j k l:Int,v=.agg (Qc a b c d e f g i j k l)
theorem open_conf {H:Type} {enc:TypeId×Value→H} {W:World} {base:Nat} {v:Value} {d:DataW H} {q:List MemPlace} (hv:Value.okWide prog W .any base 28 v)
  (h:DataW.Trod enc prog W 0 (fun _=>true) true 28 v d q):IsConf v:=by
 obtain⟨cs,rfl,hsz⟩:=okWide_struct underlying28 hv
 obtain⟨fuel,hf⟩:=h
 obtain⟨l⟩:=cs
 have hf':DataW.trod enc prog W 0 (fun _=>true) true fuel 28 l=some (d,q):=by simpa[Value.cells]using hf
 obtain⟨xs,n,_,_,hl,_⟩:=DataW.trod_struct underlying28 hf'
 obtain⟨a,b,c,d,e,f,g,i,j,k,m,rfl⟩:=conf_cells hf' (hl.trans cells28)
 exact⟨a,b,c,d,e,f,g,i,j,k,m,rfl⟩
def IsOps (w:World) (v:Value):Prop:=∃la ln lc,v=.slice la ln lc∧(ln:Int)≤9223372036854775807∧OpsW w la ln
theorem open_ops {H:Type} {enc:TypeId×Value→H} {W:World} {base:Nat} {v:Value} {d:DataW H} {q:List MemPlace} (hv:Value.okWide prog W .any base 29 v)
  (h:DataW.Trod enc prog W 0 (fun _=>true) true 29 v d q):IsOps W v:=by
 obtain⟨a,len,cap,rfl⟩:=okWide_slice underlying29 hv
 obtain⟨fuel,hf⟩:=h
 rcases open_slice underlying29 hf with⟨h0,_⟩ | ⟨a',len',cap',m,n,D,Pl,hcs,hb,hl,hm,hmm,hx,hi⟩
 ·simp[Value.cells]at h0
  obtain⟨rfl,rfl,rfl⟩:=h0
  exact⟨none,0,0,rfl,by decide,fun i hi=>absurd hi (by omega)⟩
 ·simp[Value.cells]at hcs
  obtain⟨rfl,rfl,rfl⟩:=hcs
  have hml:len≤m:=by rw[hmm];simp;omega
  have key:∀i,i<len→∃b0 b1 b2 b3 b4 b5 b6 b7 b8 b9 b10:Int,∀(j:Nat) (u:Value),[Value.int .i64 b0,.int .i64 b1,.int .i64 b2,.int .i64 b3,.int .i64 b4,.int .i64 b5,.int .i64 b6,.int .i64 b7,.int .i64 b8,.int .i64 b9,.int .i64 b10][j]?=some u→W.cell? ((a'.add (i*11)).add j)=some u:=fun i hil=>by
   obtain⟨cs',hc,ht'⟩:=hi i (by omega)
   rw[cells40]at hc
   obtain⟨_,hcl,hat⟩:=World.cells?_some hc
   obtain⟨b0,b1,b2,b3,b4,b5,b6,b7,b8,b9,b10,pD⟩:=op_cells ht'
   refine⟨b0,b1,b2,b3,b4,b5,b6,b7,b8,b9,b10,fun j u hu=>?_⟩
   have hj:j<11:=by
    rcases Nat.lt_or_ge j 11 with h | h
    ·exact h
    ·rw[List.getElem?_eq_none (by simpa using h)]at hu;cases hu
   exact(hat j (by omega)).trans (pD j u hu)
  by_cases hz:len=0
  ·subst hz
   exact⟨_,0,cap,rfl,by decide,fun i hi=>absurd hi (by omega)⟩
  obtain⟨b,off,spot⟩:=a'
  obtain⟨x0,x1,x2,x3,x4,x5,x6,x7,x8,x9,x10,hk0⟩:=key 0 (by omega)
  have h0:=hk0 0 _ rfl
  have hspot:spot=none:=by simpa[Addr.add]using World.cell?_spot h0
  subst hspot
  have hadd:∀(i j:Nat),((⟨b,off,none⟩:Addr).add (i*11)).add j=⟨b,off+i*11+j,none⟩:=fun i j=>by rw[Go.WideShapes.add_plain,Go.WideShapes.add_plain]
  have hblk:b<W.heap.size:=by
   rw[hadd]at h0
   exact World.block_lt_of_cell? _ _ h0
  refine⟨_,_,_,rfl,by unfold maxLen at hm;omega,fun i hil=>?_⟩
  obtain⟨b0,b1,b2,b3,b4,b5,b6,b7,b8,b9,b10,pD⟩:=key i hil
  refine⟨b,off,rfl,hblk,b0,b1,b2,b3,b4,b5,b6,b7,b8,b9,b10,fun j u hu=>?_⟩
  rw[←hadd]
  exact pD j u hu
end
end Go.Proofs.YtodlmbfbfaofcaaGreat
