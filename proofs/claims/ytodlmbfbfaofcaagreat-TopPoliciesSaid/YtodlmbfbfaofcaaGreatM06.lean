/- TopPolicies, part 6. -/
import Derived.Test.YtodlmbfbfaofcaaGreatM01
import Derived.Test.YtodlmbfbfaofcaaGreatM02
import Derived.Test.YtodlmbfbfaofcaaGreatM04
import Derived.Test.YtodlmbfbfaofcaaGreatM05
open Go.Proofs.Tryz
namespace Go.Proofs.YtodlmbfbfaofcaaGreat
set_option linter.unusedVariables false
set_option linter.unusedSimpArgs false
set_option maxRecDepth 100000
set_option maxHeartbeats 4000000
section
open Go.RowKit Rw
structure Off (F:Nat→Prop) (w w':World):Prop where
 size:w.heap.size≤w'.heap.size
 same:∀g,g<w.heap.size→¬F g→w'.heap[g]?=w.heap[g]?
 rest:w'.os=w.os∧w'.tape=w.tape∧w'.output=w.output
theorem Off.refl (F:Nat→Prop) (w:World):Off F w w:=⟨Nat.le_refl _,fun _ _ _=>rfl,rfl,rfl,rfl⟩
theorem Off.of_below {F:Nat→Prop} {w w':World} (h:Below w.heap.size w w'):Off F w w':=⟨h.size,fun g hg _=>h.block g hg,h.os,h.tape,h.output⟩
theorem Off.trans {F:Nat→Prop} {a b c:World} (h:Off F a b) (k:Off F b c):Off F a c:=
 ⟨Nat.le_trans h.size k.size,fun g hg hf=>(k.same g (Nat.lt_of_lt_of_le hg h.size) hf).trans (h.same g hg hf),k.rest.1.trans h.rest.1,k.rest.2.1.trans h.rest.2.1,k.rest.2.2.trans h.rest.2.2⟩
theorem Off.mono {F G:Nat→Prop} {w w':World} (h:Off F w w') (k:∀g,g<w.heap.size→F g→G g):Off G w w':=⟨h.size,fun g hg hn=>h.same g hg (fun hf=>hn (k g hg hf)),h.rest⟩
theorem Off.set {F:Nat→Prop} {w w':World} (h:Off F w w') {a:Addr} (ha:F a.block∨w.heap.size≤a.block) (v:Value):Off F w (w'.setCell a v):=
 ⟨by simpa[World.setCell]using h.size,fun g hg hn=>(Below.heap_setCell _ _ _ _ (fun e=>by rcases ha with ha | ha;exact hn (e ▸ ha);omega)).trans (h.same g hg hn),h.rest⟩
theorem Off.below {F:Nat→Prop} {w w':World} (h:Off F w w') (hF:∀g,g<w.heap.size→¬F g):Below w.heap.size w w':=⟨h.rest.1,h.rest.2.1,h.rest.2.2,h.size,fun g hg=>h.same g hg (hF g hg)⟩
theorem Off.since {F:Nat→Prop} {w0 w w':World} (h:Off F w w') (hb:Below w0.heap.size w0 w) (hF:∀g,F g→w0.heap.size≤g):Below w0.heap.size w0 w':=by
 have hs:=hb.size
 exact⟨h.rest.1.trans hb.os,h.rest.2.1.trans hb.tape,h.rest.2.2.trans hb.output,Nat.le_trans hs h.size,fun g hg=>(h.same g lD (fun hf=>by have:=hF g hf;omega)).trans (hb.block g hg)⟩
def Bs (w:World) (v:Value) (bs:List Int):Prop:=BytesT w v bs∧∃ao n cap,v=.slice ao n cap∧n≤cap∧cap≤maxLen
theorem OwnB.bs {base:Nat} {w:World} {v:Value} {bs:List Int} (h:OwnB base w v bs):Bs w v bs:=by
 refine⟨h.toT,?_⟩
 rcases h.2 with⟨rfl,h0⟩ | ⟨g,cap,cur,rfl,hb,hg,hc,hm,_⟩
 ·exact⟨none,0,0,rfl,Nat.le_refl _,Nat.zero_le _⟩
 ·exact⟨_,_,cap,rfl,hc,hm⟩
theorem Bs.keep {w w':World} {v:Value} {bs:List Int} (h:Bs w v bs) (k:KeepB w w'):Bs w' v bs:=⟨h.1.keep k,h.2⟩
theorem Bs.below {w w':World} {v:Value} {bs:List Int} (h:Bs w v bs) (hb:Below w.heap.size w w'):Bs w' v bs:=h.keep (KeepB.of_below hb)
def cutAt (ao:Option Addr) (cap n:Nat):Option Addr:=if cap=n then ao else ao.map (fun a=>a.add n)
theorem Bs.take {w:World} {ao:Option Addr} {n cap:Nat} {xs ys:List Int} (h:Bs w (.slice ao n cap) (xs++ys)):Bs w (.slice ao xs.length cap) xs:=by
 obtain⟨⟨ao',cap',e,h0,h1⟩,ao2,n2,cap2,e2,hn,hm⟩:=h
 cases e;cases e2
 rw[List.length_append]at hn
 refine⟨⟨ao,cap,rfl,fun ha=>?_,fun i hi=>?_⟩,ao,_,cap,rfl,by omega,hm⟩
 ·obtain⟨h2,h3⟩:=h0 ha
  exact⟨(List.append_eq_nil_iff.1 h2).1,h3⟩
 ·obtain⟨g,off,cs,fr,h2,h3,h4⟩:=h1 i (by rw[List.length_append];omega)
  exact⟨g,off,cs,fr,h2,h3,by rw[h4,List.getElem_append_left hi]⟩
theorem Bs.drop {w:World} {ao:Option Addr} {n cap:Nat} {xs ys:List Int} (h:Bs w (.slice ao n cap) (xs++ys)):Bs w (.slice (cutAt ao cap xs.length) ys.length (cap - xs.length)) ys:=by
 obtain⟨⟨ao',cap',e,h0,h1⟩,ao2,n2,cap2,e2,hn,hm⟩:=h
 cases e;cases e2
 rw[List.length_append]at hn
 refine⟨⟨_,_,rfl,fun ha=>?_,fun i hi=>?_⟩,_,_,_,rfl,by omega,by omega⟩
 ·have ha':ao=none:=by
   unfold cutAt at ha
   split at ha
   ·exact ha
   ·cases ao with
    | none=>rfl
    | some a=>cases ha
  obtain⟨h2,h3⟩:=h0 ha'
  exact⟨(List.append_eq_nil_iff.1 h2).2,by omega⟩
 ·obtain⟨g,off,cs,fr,h2,h3,h4⟩:=h1 (xs.length+i) (by rw[List.length_append];omega)
  refine⟨g,off+xs.length,cs,fr,?_,h3,?_⟩
  ·unfold cutAt
   rw[if_neg (by omega),h2,Option.map_some,Go.WideShapes.add_plain]
  ·rw[Nat.add_assoc,h4,List.getElem_append_right (by omega)]
   simp
def RdAt (w:World) (r:Nat) (bs:List Int):Prop:=∃v,w.rowIs r 293 2 (fun j=>if j=0 then v else .int .i64 0)∧Bs w v bs
theorem RdAt.lt {w:World} {r:Nat} {bs:List Int} (h:RdAt w r bs):r<w.heap.size:=by obtain⟨v,hr,_⟩:=h;exact hr.lt
theorem RdAt.below {w w':World} {r:Nat} {bs:List Int} (h:RdAt w r bs) (hb:Below w.heap.size w w'):RdAt w' r bs:=by
 obtain⟨v,hr,h1⟩:=h
 exact⟨v,hr.of_block (hb.block r hr.lt),h1.below hb⟩
theorem RdAt.no5 {w:World} {r:Nat} {bs:List Int} (h:RdAt w r bs):∀g cs fr,g=r→w.heap[g]?≠some (Obj.cells cs 5 fr):=by
 rintro g cs fr rfl hg
 obtain⟨v,⟨c,hc,_⟩,_⟩:=h
 rw[hc]at hg;cases hg
theorem RdAt.cells {w:World} {r:Nat} {bs:List Int} (h:RdAt w r bs):∃ao cap,w.cell? ⟨r,0,none⟩=some (.slice ao bs.length cap)∧w.cell? ⟨r,1,none⟩=some (.int .i64 0)∧(∀j,w.frozen? ⟨r,j,none⟩=false)∧Bs w (.slice ao bs.length cap) bs∧bs.length≤cap∧cap≤maxLen∧
  ∀v' bs',Bs w v' bs'→RdAt (w.setCell ⟨r,0,none⟩ v') r bs':=by
 have hno:=h.no5 r
 obtain⟨v,hr,hb⟩:=h
 obtain⟨⟨ao,cap,hv,_⟩,ao2,n2,cap2,hv2,hn,hm⟩:=id hb
 subst hv
 cases hv2
 have c0:=hr.cell (i:=0) lF
 have c1:=hr.cell (i:=1) lF
 simp only[if_true]at c0
 refine⟨ao,cap,c0,c1,hr.frozen,hb,hn,hm,fun v' bs' hb'=>⟨v',(hr.set 0 v').congr (fun i hi=>?_),hb'.keep (fun g cs fr hg=>Below.heap_setCell _ _ _ _ (fun e=>hno cs fr rfl (by rw[show g=r from e]at hg;exact hg)))⟩⟩
 by_cases h0:i=0
 ·simp[h0]
 ·simp[h0]
theorem uU (v:Value) (bs:List Int) (w:World) (h:BytesC w v bs) (hl:bs.length≤1000000) :
  Calls prog 107 #[v] w fun e w'=>∃r,e=.returned (Qp r)∧w.heap.size≤r∧RdAt w' r bs∧Below w.heap.size w w':=by
 have HC:=zA (xI v bs w h lD)
 obtain⟨ao,cap,hv⟩:=h.form
 subst hv
 clear h
 go_enter func107,ntmps107
 go_wp2_with fail
 refine HC.out.mono ?_
 rintro e w1 ⟨v1,rfl,O1,b1⟩
 obtain⟨ao1,cap1,hv1⟩:=O1.form
 subst hv1
 go_wp2_with fail
 go_ret
 have b2:Below w1.heap.size w1 (w1.alloc (.cells #[.slice ao1 bs.length cap1,.int .i64 0] 293)):=bn _ _
 refine⟨w1.heap.size,rfl,b1.size,⟨_,⟨_,heap_alloc_new w1 _,rfl,fun i hi=>?_⟩,O1.bs.below b2⟩,b1.trans (b2.mono b1.size)⟩
 rcases i with _ | _ | i
 ·rfl
 ·rfl
 ·omega
theorem rR (r:Nat) (xs ys:List Int) (w:World) (h:RdAt w r (xs++ys)) :
  Calls prog 180 #[Qp r,.int .i64 xs.length] w fun e w'=>∃v',e=.returned v'∧Bs w' v' xs∧RdAt w' r ys∧Off (· = r) w w'∧w'.heap.size=w.heap.size:=by
 obtain⟨ao,cap,c0,c1,fz,hb,hn,hm,qQ⟩:=h.cells
 have hno:=h.no5
 have f0:=fz 0
 rw[List.length_append]at c0 hb hn
 have HT:=zA hb.take
 have HD:=zA (qQ _ _ hb.drop)
 have HN:=zA hno
 clear h hb qQ fz hno
 have a0:¬((xs.length:Int)<0):=by omega
 have a1:¬((xs.length:Int)>((xs.length+ys.length:Nat):Int)):=by omega
 have a2:(xs.length:Int)≤cap:=by omega
 have a3:(xs.length:Int)≤((xs.length+ys.length:Nat):Int):=by omega
 go_enter func180,ntmps180
 go_wp2_with fail
 all_goals
  go_ret
  have hd:=HD.out
  have htt:=HT.out
  have hk:∀v',KeepB w (w.setCell ⟨r,0,none⟩ v'):=fun v' g cs fr hg=>Below.heap_setCell _ _ _ _ (fun e=>HN.out g cs fr e hg)
  have ho:∀v',Off (· = r) w (w.setCell ⟨r,0,none⟩ v'):=fun v'=>(Off.refl (· = r) w).set (a:=⟨r,0,none⟩) (.inl rfl) v'
  have hs:∀v',(w.setCell ⟨r,0,none⟩ v').heap.size=w.heap.size:=fun v'=>by simp[World.setCell]
  unfold cutAt at hd
  first
  | (rw[if_neg (by omega)]at hd;exact⟨_,rfl,htt.keep (hk _),hd,ho _,hs _⟩)
  | (have hcx:cap=xs.length:=by omega
     simp only[hcx,if_true,Nat.sub_self]at hd htt
     exact⟨_,rfl,htt.keep (hk _),hd,ho _,hs _⟩)
theorem rH (c:Nat) (h:c<256):bits BinOp.andNot IntKind.i64 (c:Int) 128=((c%128:Nat):Int):=by
 have h1:∀x:Fin 256,bits BinOp.andNot IntKind.i64 ((x.val:Nat):Int) 128=((x.val%128:Nat):Int):=by decide +kernel
 exact h1 ⟨c,h⟩
theorem xD (a b k:Nat) (ha:a<2^k) (h:a+b*2^k<2^63):bits BinOp.or IntKind.i64 (a:Int) ((b*2^k:Nat):Int)=((a+b*2^k:Nat):Int):=by
 have hb:a<2^64∧b*2^k<2^64:=by constructor<;>omega
 have e:(BitVec.ofInt 64 (a:Int) ||| BitVec.ofInt 64 ((b*2^k:Nat):Int)).toNat=a+b*2^k:=by
  rw[BitVec.toNat_or,BitVec.ofInt_natCast,BitVec.ofInt_natCast,BitVec.toNat_ofNat,BitVec.toNat_ofNat,Nat.mod_eq_of_lt hb.1,Nat.mod_eq_of_lt hb.2,Nat.or_comm,←Nat.shiftLeft_eq,←Nat.shiftLeft_add_eq_or_of_lt ha,Nat.add_comm]
 show IntKind.i64.wrap (((BitVec.ofInt 64 (a:Int) ||| BitVec.ofInt 64 ((b*2^k:Nat):Int)).toNat:Nat):Int)=_
 rw[e]
 generalize a+b*2^k=t at *
 unfold IntKind.wrap
 simp[IntKind.bits,IntKind.signed]
 omega
set_option maxRecDepth 1000000 in
theorem number_ok (r n:Nat) (ys:List Int) (w:World) (h:RdAt w r (Pl.vint n++ys)) (hn:n≤1099511627776) :
  Calls prog 237 #[Qp r] w fun e w'=>e=.returned (.int .i64 n)∧RdAt w' r ys∧Off (· = r) w w':=by
 have H0:=zA h
 have HR0:=zA (Off.refl (· = r) w)
 clear h
 go_enter func237,ntmps237
 go_wp2_with fail
 go_loopw [3,6] (fun x i wr=>∃(m a k:Nat),i=.int .i64 k∧x=.int .i64 a∧k≤5∧a<2^(7*k)∧a+m*2^(7*k)=n∧(0<k→0<m)∧RdAt wr r (Pl.vint m++ys)∧Off (· = r) w wr) (fun _ i _=>6 - (intOf i).toNat)
 case atStart=>exact⟨n,0,0,rfl,rfl,by omega,by simp,by simp,by omega,H0.out,HR0.out⟩
 case round=>
  obtain⟨m,a,k,rfl,rfl,hk,ha,he,hm0,hr,ho⟩:=hrel
  clear H0 HR0
  have HE:=zA he
  have HA:=zA ha
  have HO:=zA ho
  have HM0:=zA hm0
  have hk6:(k:Int)<6:=by omega
  by_cases hm:m<128
  ·rw[Pl.vint_small hm]at hr
   have HP:=zA (rR r [(m:Int)] ys wr (by simpa using hr))
   clear he ha ho hm0 hr
   go_wp2_with fail
   refine HP.out.mono ?_
   rintro e w5 ⟨v5,rfl,B5,R5,O5,s5⟩
   obtain⟨⟨ao5,cp5,hv5,_,hb5⟩,_⟩:=B5
   obtain⟨g,off,cs,fr,hao,hg,hc⟩:=hb5 0 (by simp)
   have c5:w5.cell? ⟨g,off,none⟩=some (.int .u8 m):=by simp only[World.cell?,hg];simpa using hc
   subst hv5
   subst hao
   have k6:k=0∨k=1∨k=2∨k=3∨k=4∨k=5:=by omega
   clear hb5 hc hg HP
   have e1:bits BinOp.andNot IntKind.i64 (m:Int) 128=(m:Int):=by rw[rH m (by omega),Nat.mod_eq_of_lt hm]
   have hn1:¬1099511627776<(n:Int):=by omega
   rcases k6 with rfl | rfl | rfl | rfl | rfl | rfl
   ·have hA:a<1:=HA.out
    have hE:a+m*1=n:=HE.out
    have e2:bits BinOp.or IntKind.i64 (a:Int) ((m:Int))=(n:Int):=by
     have h2:bits BinOp.or IntKind.i64 (a:Int) ((m*1:Nat):Int)=((a+m*1:Nat):Int):=xD a m 0 hA (by show a+m*1<_;omega)
     rw[hE]at h2
     rw[←h2];congr 1<;>omega
    clear hA hE
    go_wp2_with fail
    all_goals
     go_ret
     exact⟨rfl,R5,HO.out.trans O5⟩
   ·have hA:a<128:=HA.out
    have hE:a+m*128=n:=HE.out
    have e2:bits BinOp.or IntKind.i64 (a:Int) ((m:Int)*128)=(n:Int):=by
     have h2:bits BinOp.or IntKind.i64 (a:Int) ((m*128:Nat):Int)=((a+m*128:Nat):Int):=xD a m 7 hA (by show a+m*128<_;omega)
     rw[hE]at h2
     rw[←h2];congr 1<;>omega
    exact oY
   ·have hA:a<16384:=HA.out
    have hE:a+m*16384=n:=HE.out
    have e2:bits BinOp.or IntKind.i64 (a:Int) ((m:Int)*16384)=(n:Int):=by
     have h2:bits BinOp.or IntKind.i64 (a:Int) ((m*16384:Nat):Int)=((a+m*16384:Nat):Int):=xD a m 14 hA (by show a+m*16384<_;omega)
     rw[hE]at h2
     rw[←h2];congr 1<;>omega
    exact oY
   ·have hA:a<2097152:=HA.out
    have hE:a+m*2097152=n:=HE.out
    have e2:bits BinOp.or IntKind.i64 (a:Int) ((m:Int)*2097152)=(n:Int):=by
     have h2:bits BinOp.or IntKind.i64 (a:Int) ((m*2097152:Nat):Int)=((a+m*2097152:Nat):Int):=xD a m 21 hA (by show a+m*2097152<_;omega)
     rw[hE]at h2
     rw[←h2];congr 1<;>omega
    exact oY
   ·have hA:a<268435456:=HA.out
    have hE:a+m*268435456=n:=HE.out
    have e2:bits BinOp.or IntKind.i64 (a:Int) ((m:Int)*268435456)=(n:Int):=by
     have h2:bits BinOp.or IntKind.i64 (a:Int) ((m*268435456:Nat):Int)=((a+m*268435456:Nat):Int):=xD a m 28 hA (by show a+m*268435456<_;omega)
     rw[hE]at h2
     rw[←h2];congr 1<;>omega
    exact oY
   ·have hA:a<34359738368:=HA.out
    have hE:a+m*34359738368=n:=HE.out
    have e2:bits BinOp.or IntKind.i64 (a:Int) ((m:Int)*34359738368)=(n:Int):=by
     have h2:bits BinOp.or IntKind.i64 (a:Int) ((m*34359738368:Nat):Int)=((a+m*34359738368:Nat):Int):=xD a m 35 hA (by show a+m*34359738368<_;omega)
     rw[hE]at h2
     rw[←h2];congr 1<;>omega
    exact oY
  ·rw[Pl.vint_big hm]at hr
   have HP:=zA (rR r [((m%128+128:Nat):Int)] (Pl.vint (m / 128)++ys) wr (by simpa using hr))
   have e1:bits BinOp.andNot IntKind.i64 ((m%128+128:Nat):Int) 128=((m%128:Nat):Int):=by rw[rH _ (by omega)];congr 1;omega
   clear he ha ho hm0 hr
   have hc128:¬((m%128+128:Nat):Int)<128:=by omega
   have hc256:((m%128+128:Nat):Int)≤255:=by omega
   generalize ((m%128+128:Nat):Int)=c at *
   go_wp2_with fail
   refine HP.out.mono ?_
   rintro e w5 ⟨v5,rfl,B5,R5,O5,s5⟩
   obtain⟨⟨ao5,cp5,hv5,_,hb5⟩,_⟩:=B5
   obtain⟨g,off,cs,fr,hao,hg,hc⟩:=hb5 0 (by simp)
   have c5:w5.cell? ⟨g,off,none⟩=some (.int .u8 c):=by simp only[World.cell?,hg];simpa using hc
   subst hv5
   subst hao
   have k6:k=0∨k=1∨k=2∨k=3∨k=4∨k=5:=by omega
   clear hb5 hc hg HP
   rcases k6 with rfl | rfl | rfl | rfl | rfl | rfl
   ·have hA:a<1:=HA.out
    have hE:a+m*1=n:=HE.out
    have h3:a+m%128*1<128:=by omega
    have h4:a+m%128*1+m / 128*128=n:=by omega
    have e2:bits BinOp.or IntKind.i64 (a:Int) (((m%128:Nat):Int))=((a+m%128*1:Nat):Int):=by
     have h2:bits BinOp.or IntKind.i64 (a:Int) ((m%128*1:Nat):Int)=((a+m%128*1:Nat):Int):=xD a (m%128) 0 hA (by show a+m%128*1<_;omega)
     rw[←h2];congr 1<;>omega
    have hx:((m%128:Nat):Int)≤127∧0≤((m%128:Nat):Int):=by omega
    obtain⟨hx1,hx2⟩:=hx
    obtain⟨a',ha'⟩:∃a':Nat,a'=a+m%128*1:=⟨_,rfl⟩
    rw[←ha']at h3 h4 e2
    have H3:=zA h3
    have H4:=zA h4
    clear h3 h4 hA hE ha'
    generalize ((m%128:Nat):Int)=x at *
    go_wp2_with fail
    exact⟨⟨m / 128,a',1,rfl,rfl,by omega,H3.out,H4.out,fun _=>by omega,R5,HO.out.trans O5⟩,by simp[intOf]⟩
   ·have hA:a<128:=HA.out
    have hE:a+m*128=n:=HE.out
    have h3:a+m%128*128<16384:=by omega
    have h4:a+m%128*128+m / 128*16384=n:=by omega
    have e2:bits BinOp.or IntKind.i64 (a:Int) (((m%128:Nat):Int)*128)=((a+m%128*128:Nat):Int):=by
     have h2:bits BinOp.or IntKind.i64 (a:Int) ((m%128*128:Nat):Int)=((a+m%128*128:Nat):Int):=xD a (m%128) 7 hA (by show a+m%128*128<_;omega)
     rw[←h2];congr 1<;>omega
    have hx:((m%128:Nat):Int)≤127∧0≤((m%128:Nat):Int):=by omega
    obtain⟨hx1,hx2⟩:=hx
    obtain⟨a',ha'⟩:∃a':Nat,a'=a+m%128*128:=⟨_,rfl⟩
    rw[←ha']at h3 h4 e2
    have H3:=zA h3
    have H4:=zA h4
    clear h3 h4 hA hE ha'
    generalize ((m%128:Nat):Int)=x at *
    go_wp2_with fail
    exact⟨⟨m / 128,a',2,rfl,rfl,by omega,H3.out,H4.out,fun _=>by omega,R5,HO.out.trans O5⟩,by simp[intOf]⟩
   ·have hA:a<16384:=HA.out
    have hE:a+m*16384=n:=HE.out
    have h3:a+m%128*16384<2097152:=by omega
    have h4:a+m%128*16384+m / 128*2097152=n:=by omega
    have e2:bits BinOp.or IntKind.i64 (a:Int) (((m%128:Nat):Int)*16384)=((a+m%128*16384:Nat):Int):=by
     have h2:bits BinOp.or IntKind.i64 (a:Int) ((m%128*16384:Nat):Int)=((a+m%128*16384:Nat):Int):=xD a (m%128) 14 hA (by show a+m%128*16384<_;omega)
     rw[←h2];congr 1<;>omega
    have hx:((m%128:Nat):Int)≤127∧0≤((m%128:Nat):Int):=by omega
    obtain⟨hx1,hx2⟩:=hx
    obtain⟨a',ha'⟩:∃a':Nat,a'=a+m%128*16384:=⟨_,rfl⟩
    rw[←ha']at h3 h4 e2
    have H3:=zA h3
    have H4:=zA h4
    clear h3 h4 hA hE ha'
    generalize ((m%128:Nat):Int)=x at *
    go_wp2_with fail
    exact⟨⟨m / 128,a',3,rfl,rfl,by omega,H3.out,H4.out,fun _=>by omega,R5,HO.out.trans O5⟩,by simp[intOf]⟩
   ·have hA:a<2097152:=HA.out
    have hE:a+m*2097152=n:=HE.out
    have h3:a+m%128*2097152<268435456:=by omega
    have h4:a+m%128*2097152+m / 128*268435456=n:=by omega
    have e2:bits BinOp.or IntKind.i64 (a:Int) (((m%128:Nat):Int)*2097152)=((a+m%128*2097152:Nat):Int):=by
     have h2:bits BinOp.or IntKind.i64 (a:Int) ((m%128*2097152:Nat):Int)=((a+m%128*2097152:Nat):Int):=xD a (m%128) 21 hA (by show a+m%128*2097152<_;omega)
     rw[←h2];congr 1<;>omega
    have hx:((m%128:Nat):Int)≤127∧0≤((m%128:Nat):Int):=by omega
    obtain⟨hx1,hx2⟩:=hx
    obtain⟨a',ha'⟩:∃a':Nat,a'=a+m%128*2097152:=⟨_,rfl⟩
    rw[←ha']at h3 h4 e2
    have H3:=zA h3
    have H4:=zA h4
    clear h3 h4 hA hE ha'
    generalize ((m%128:Nat):Int)=x at *
    go_wp2_with fail
    exact⟨⟨m / 128,a',4,rfl,rfl,by omega,H3.out,H4.out,fun _=>by omega,R5,HO.out.trans O5⟩,by simp[intOf]⟩
   ·have hA:a<268435456:=HA.out
    have hE:a+m*268435456=n:=HE.out
    have h3:a+m%128*268435456<34359738368:=by omega
    have h4:a+m%128*268435456+m / 128*34359738368=n:=by omega
    have e2:bits BinOp.or IntKind.i64 (a:Int) (((m%128:Nat):Int)*268435456)=((a+m%128*268435456:Nat):Int):=by
     have h2:bits BinOp.or IntKind.i64 (a:Int) ((m%128*268435456:Nat):Int)=((a+m%128*268435456:Nat):Int):=xD a (m%128) 28 hA (by show a+m%128*268435456<_;omega)
     rw[←h2];congr 1<;>omega
    have hx:((m%128:Nat):Int)≤127∧0≤((m%128:Nat):Int):=by omega
    obtain⟨hx1,hx2⟩:=hx
    obtain⟨a',ha'⟩:∃a':Nat,a'=a+m%128*268435456:=⟨_,rfl⟩
    rw[←ha']at h3 h4 e2
    have H3:=zA h3
    have H4:=zA h4
    clear h3 h4 hA hE ha'
    generalize ((m%128:Nat):Int)=x at *
    go_wp2_with fail
    exact⟨⟨m / 128,a',5,rfl,rfl,by omega,H3.out,H4.out,fun _=>by omega,R5,HO.out.trans O5⟩,by simp[intOf]⟩
   ·exfalso;have hE:a+m*34359738368=n:=HE.out;omega
theorem rO (a b:Value) (w:World):CallsD prog 267 #[a,b] .returning w fun e u' w'=>e=.returned (.tuple #[])∧u'=.returning∧w'=w:=by
 have qU:∀w,(binOp BinOp.eql 20 .nilIface .nilIface).run prog w=.ok (.bool true) w:=fun _=>by kernel_rfl
 refine callsD_of_wpS func267 rfl fun c₀ cs hu=>?_
 apply wpS_seq
 apply wpS_region
 simp[wpOpsS,go_sem,recoverD,hu,ntmps267,Exit.thenS]
 refine wpS_of_wp ?_
 rw[show(#[a,b]++(Array.replicate 18 undef).setIfInBounds 3 Value.nilIface)=#[a,b,undef,undef,undef,.nilIface,undef,undef,undef,undef,undef,undef,undef,undef,undef,undef,undef,undef,undef,undef]from by kernel_rfl]
 go_wp2_with fail
 cases c₀
 simp_all [bodyPostS,results,results267]
theorem tN (a:Value) (w:World):CallsD prog 19 #[a] .returning w fun e u' w'=>e=.returned (.tuple #[])∧u'=.returning∧w'=w:=by
 have qU:∀w,(binOp BinOp.eql 20 .nilIface .nilIface).run prog w=.ok (.bool true) w:=fun _=>by kernel_rfl
 refine callsD_of_wpS func19 rfl fun c₀ cs hu=>?_
 apply wpS_seq
 apply wpS_region
 simp[wpOpsS,go_sem,recoverD,hu,ntmps19,Exit.thenS]
 refine wpS_of_wp ?_
 rw[show(#[a]++(Array.replicate 14 undef).setIfInBounds 4 Value.nilIface)=#[a,undef,undef,undef,undef,.nilIface,undef,undef,undef,undef,undef,undef,undef,undef,undef]from by kernel_rfl]
 go_wp2_with fail
 cases c₀
 simp_all [bodyPostS,results,results19]
theorem xM (p:Addr) (x y:Int) (older:List PanicEntry) (w:World) (hc:w.cell? p=some (.int .i64 y)) (hz:w.frozen? p=false) :
  CallsD prog 19 #[.pointer (some p)] (.panicking ({v:=.iface 140 (.agg (Qo x)),recovered:=false}::older)) w fun e u' w'=>
   e=.returned (.tuple #[])∧u'=.panicking ({v:=.iface 140 (.agg (Qo x)),recovered:=true}::older)∧w'=(w.alloc (.cells (Qo x) 140)).setCell p (.int .i64 x):=by
 have qU:∀w,(binOp BinOp.eql 20 (.iface 140 (.agg (Qo x))) .nilIface).run prog w=.ok (.bool false) w:=fun _=>by kernel_rfl
 have hta:∀w,Sem.run prog (Instr.typeAssert (.iface 140 (.agg (Qo x))) 20 140 true) w=.ok (.tuple #[.agg (Qo x),.bool true]) w:=fun _=>by kernel_rfl
 refine callsD_of_wpS func19 rfl fun c₀ cs hu=>?_
 apply wpS_seq
 apply wpS_region
 simp[wpOpsS,go_sem,recoverD,hu,ntmps19,Exit.thenS]
 refine wpS_of_wp ?_
 rw[show(#[Value.pointer (some p)]++(Array.replicate 14 undef).setIfInBounds 4 (Value.iface 140 (.agg (Qo x))))=#[.pointer (some p),undef,undef,undef,undef,.iface 140 (.agg (Qo x)),undef,undef,undef,undef,undef,undef,undef,undef,undef]from by kernel_rfl]
 have hp:=World.block_lt_of_cell? _ _ hc
 have h1:(w.alloc (.cells (Qo x) 140)).cell? p=some (.int .i64 y):=(World.cell?_alloc_lt _ _ _ hp).trans hc
 have h2:(w.alloc (.cells (Qo x) 140)).frozen? p=false:=((bn w _).frozen hp).trans hz
 go_wp2_with fail
 cases c₀
 simp_all [bodyPostS,results,results19]
theorem xE (a:Value) (w:World):CallsD prog 46 #[a] .returning w fun e u' w'=>e=.returned (.tuple #[])∧u'=.returning∧w'=w:=by
 have qU:∀w,(binOp BinOp.eql 20 .nilIface .nilIface).run prog w=.ok (.bool true) w:=fun _=>by kernel_rfl
 refine callsD_of_wpS func46 rfl fun c₀ cs hu=>?_
 apply wpS_seq
 apply wpS_region
 simp[wpOpsS,go_sem,recoverD,hu,ntmps46,Exit.thenS]
 refine wpS_of_wp ?_
 rw[show(#[a]++(Array.replicate 14 undef).setIfInBounds 4 Value.nilIface)=#[a,undef,undef,undef,undef,.nilIface,undef,undef,undef,undef,undef,undef,undef,undef,undef]from by kernel_rfl]
 go_wp2_with fail
 cases c₀
 simp_all [bodyPostS,results,results46]
theorem xX (p:Addr) (x y:Int) (older:List PanicEntry) (w:World) (hc:w.cell? p=some (.int .i64 y)) (hz:w.frozen? p=false) :
  CallsD prog 46 #[.pointer (some p)] (.panicking ({v:=.iface 187 (.agg (Qo x)),recovered:=false}::older)) w fun e u' w'=>
   e=.returned (.tuple #[])∧u'=.panicking ({v:=.iface 187 (.agg (Qo x)),recovered:=true}::older)∧w'=(w.alloc (.cells (Qo x) 187)).setCell p (.int .i64 x):=by
 have qU:∀w,(binOp BinOp.eql 20 (.iface 187 (.agg (Qo x))) .nilIface).run prog w=.ok (.bool false) w:=fun _=>by kernel_rfl
 have hta:∀w,Sem.run prog (Instr.typeAssert (.iface 187 (.agg (Qo x))) 20 187 true) w=.ok (.tuple #[.agg (Qo x),.bool true]) w:=fun _=>by kernel_rfl
 refine callsD_of_wpS func46 rfl fun c₀ cs hu=>?_
 apply wpS_seq
 apply wpS_region
 simp[wpOpsS,go_sem,recoverD,hu,ntmps46,Exit.thenS]
 refine wpS_of_wp ?_
 rw[show(#[Value.pointer (some p)]++(Array.replicate 14 undef).setIfInBounds 4 (Value.iface 187 (.agg (Qo x))))=#[.pointer (some p),undef,undef,undef,undef,.iface 187 (.agg (Qo x)),undef,undef,undef,undef,undef,undef,undef,undef,undef]from by kernel_rfl]
 have hp:=World.block_lt_of_cell? _ _ hc
 have h1:(w.alloc (.cells (Qo x) 187)).cell? p=some (.int .i64 y):=(World.cell?_alloc_lt _ _ _ hp).trans hc
 have h2:(w.alloc (.cells (Qo x) 187)).frozen? p=false:=((bn w _).frozen hp).trans hz
 go_wp2_with fail
 cases c₀
 simp_all [bodyPostS,results,results46]
theorem wJ (a:Value) (w:World):CallsD prog 104 #[a] .returning w fun e u' w'=>e=.returned (.tuple #[])∧u'=.returning∧w'=w:=by
 have qU:∀w,(binOp BinOp.eql 20 .nilIface .nilIface).run prog w=.ok (.bool true) w:=fun _=>by kernel_rfl
 refine callsD_of_wpS func104 rfl fun c₀ cs hu=>?_
 apply wpS_seq
 apply wpS_region
 simp[wpOpsS,go_sem,recoverD,hu,ntmps104,Exit.thenS]
 refine wpS_of_wp ?_
 rw[show(#[a]++(Array.replicate 14 undef).setIfInBounds 4 Value.nilIface)=#[a,undef,undef,undef,undef,.nilIface,undef,undef,undef,undef,undef,undef,undef,undef,undef]from by kernel_rfl]
 go_wp2_with fail
 cases c₀
 simp_all [bodyPostS,results,results104]
theorem frame_idle (a:Value) (w:World):CallsD prog 174 #[a] .returning w fun e u' w'=>e=.returned (.tuple #[])∧u'=.returning∧w'=w:=by
 have qU:∀w,(binOp BinOp.eql 20 .nilIface .nilIface).run prog w=.ok (.bool true) w:=fun _=>by kernel_rfl
 refine callsD_of_wpS func174 rfl fun c₀ cs hu=>?_
 apply wpS_seq
 apply wpS_region
 simp[wpOpsS,go_sem,recoverD,hu,ntmps174,Exit.thenS]
 refine wpS_of_wp ?_
 rw[show(#[a]++(Array.replicate 14 undef).setIfInBounds 4 Value.nilIface)=#[a,undef,undef,undef,undef,.nilIface,undef,undef,undef,undef,undef,undef,undef,undef,undef]from by kernel_rfl]
 go_wp2_with fail
 cases c₀
 simp_all [bodyPostS,results,results174]
theorem rU (p:Addr) (x y:Int) (older:List PanicEntry) (w:World) (hc:w.cell? p=some (.int .i64 y)) (hz:w.frozen? p=false) :
  CallsD prog 174 #[.pointer (some p)] (.panicking ({v:=.iface 386 (.agg (Qo x)),recovered:=false}::older)) w fun e u' w'=>
   e=.returned (.tuple #[])∧u'=.panicking ({v:=.iface 386 (.agg (Qo x)),recovered:=true}::older)∧w'=(w.alloc (.cells (Qo x) 386)).setCell p (.int .i64 x):=by
 have qU:∀w,(binOp BinOp.eql 20 (.iface 386 (.agg (Qo x))) .nilIface).run prog w=.ok (.bool false) w:=fun _=>by kernel_rfl
 have hta:∀w,Sem.run prog (Instr.typeAssert (.iface 386 (.agg (Qo x))) 20 386 true) w=.ok (.tuple #[.agg (Qo x),.bool true]) w:=fun _=>by kernel_rfl
 refine callsD_of_wpS func174 rfl fun c₀ cs hu=>?_
 apply wpS_seq
 apply wpS_region
 simp[wpOpsS,go_sem,recoverD,hu,ntmps174,Exit.thenS]
 refine wpS_of_wp ?_
 rw[show(#[Value.pointer (some p)]++(Array.replicate 14 undef).setIfInBounds 4 (Value.iface 386 (.agg (Qo x))))=#[.pointer (some p),undef,undef,undef,undef,.iface 386 (.agg (Qo x)),undef,undef,undef,undef,undef,undef,undef,undef,undef]from by kernel_rfl]
 have hp:=World.block_lt_of_cell? _ _ hc
 have h1:(w.alloc (.cells (Qo x) 386)).cell? p=some (.int .i64 y):=(World.cell?_alloc_lt _ _ _ hp).trans hc
 have h2:(w.alloc (.cells (Qo x) 386)).frozen? p=false:=((bn w _).frozen hp).trans hz
 go_wp2_with fail
 cases c₀
 simp_all [bodyPostS,results,results174]
theorem vR (a:Value) (w:World):CallsD prog 184 #[a] .returning w fun e u' w'=>e=.returned (.tuple #[])∧u'=.returning∧w'=w:=by
 have qU:∀w,(binOp BinOp.eql 20 .nilIface .nilIface).run prog w=.ok (.bool true) w:=fun _=>by kernel_rfl
 refine callsD_of_wpS func184 rfl fun c₀ cs hu=>?_
 apply wpS_seq
 apply wpS_region
 simp[wpOpsS,go_sem,recoverD,hu,ntmps184,Exit.thenS]
 refine wpS_of_wp ?_
 rw[show(#[a]++(Array.replicate 14 undef).setIfInBounds 4 Value.nilIface)=#[a,undef,undef,undef,undef,.nilIface,undef,undef,undef,undef,undef,undef,undef,undef,undef]from by kernel_rfl]
 go_wp2_with fail
 cases c₀
 simp_all [bodyPostS,results,results184]
theorem wA (a:Value) (w:World):CallsD prog 283 #[a] .returning w fun e u' w'=>e=.returned (.tuple #[])∧u'=.returning∧w'=w:=by
 have qU:∀w,(binOp BinOp.eql 20 .nilIface .nilIface).run prog w=.ok (.bool true) w:=fun _=>by kernel_rfl
 refine callsD_of_wpS func283 rfl fun c₀ cs hu=>?_
 apply wpS_seq
 apply wpS_region
 simp[wpOpsS,go_sem,recoverD,hu,ntmps283,Exit.thenS]
 refine wpS_of_wp ?_
 rw[show(#[a]++(Array.replicate 14 undef).setIfInBounds 4 Value.nilIface)=#[a,undef,undef,undef,undef,.nilIface,undef,undef,undef,undef,undef,undef,undef,undef,undef]from by kernel_rfl]
 go_wp2_with fail
 cases c₀
 simp_all [bodyPostS,results,results283]
theorem wO (p:Addr) (x y:Int) (older:List PanicEntry) (w:World) (hc:w.cell? p=some (.int .i64 y)) (hz:w.frozen? p=false) :
  CallsD prog 283 #[.pointer (some p)] (.panicking ({v:=.iface 444 (.agg (Qo x)),recovered:=false}::older)) w fun e u' w'=>
   e=.returned (.tuple #[])∧u'=.panicking ({v:=.iface 444 (.agg (Qo x)),recovered:=true}::older)∧w'=(w.alloc (.cells (Qo x) 444)).setCell p (.int .i64 x):=by
 have qU:∀w,(binOp BinOp.eql 20 (.iface 444 (.agg (Qo x))) .nilIface).run prog w=.ok (.bool false) w:=fun _=>by kernel_rfl
 have hta:∀w,Sem.run prog (Instr.typeAssert (.iface 444 (.agg (Qo x))) 20 444 true) w=.ok (.tuple #[.agg (Qo x),.bool true]) w:=fun _=>by kernel_rfl
 refine callsD_of_wpS func283 rfl fun c₀ cs hu=>?_
 apply wpS_seq
 apply wpS_region
 simp[wpOpsS,go_sem,recoverD,hu,ntmps283,Exit.thenS]
 refine wpS_of_wp ?_
 rw[show(#[Value.pointer (some p)]++(Array.replicate 14 undef).setIfInBounds 4 (Value.iface 444 (.agg (Qo x))))=#[.pointer (some p),undef,undef,undef,undef,.iface 444 (.agg (Qo x)),undef,undef,undef,undef,undef,undef,undef,undef,undef]from by kernel_rfl]
 have hp:=World.block_lt_of_cell? _ _ hc
 have h1:(w.alloc (.cells (Qo x) 444)).cell? p=some (.int .i64 y):=(World.cell?_alloc_lt _ _ _ hp).trans hc
 have h2:(w.alloc (.cells (Qo x) 444)).frozen? p=false:=((bn w _).frozen hp).trans hz
 go_wp2_with fail
 cases c₀
 simp_all [bodyPostS,results,results283]
theorem log_idle (a:Value) (w:World):CallsD prog 329 #[a] .returning w fun e u' w'=>e=.returned (.tuple #[])∧u'=.returning∧w'=w:=by
 have qU:∀w,(binOp BinOp.eql 20 .nilIface .nilIface).run prog w=.ok (.bool true) w:=fun _=>by kernel_rfl
 refine callsD_of_wpS func329 rfl fun c₀ cs hu=>?_
 apply wpS_seq
 apply wpS_region
 simp[wpOpsS,go_sem,recoverD,hu,ntmps329,Exit.thenS]
 refine wpS_of_wp ?_
 rw[show(#[a]++(Array.replicate 14 undef).setIfInBounds 4 Value.nilIface)=#[a,undef,undef,undef,undef,.nilIface,undef,undef,undef,undef,undef,undef,undef,undef,undef]from by kernel_rfl]
 go_wp2_with fail
 cases c₀
 simp_all [bodyPostS,results,results329]
theorem log_caught (p:Addr) (x y:Int) (older:List PanicEntry) (w:World) (hc:w.cell? p=some (.int .i64 y)) (hz:w.frozen? p=false) :
  CallsD prog 329 #[.pointer (some p)] (.panicking ({v:=.iface 478 (.agg (Qo x)),recovered:=false}::older)) w fun e u' w'=>
   e=.returned (.tuple #[])∧u'=.panicking ({v:=.iface 478 (.agg (Qo x)),recovered:=true}::older)∧w'=(w.alloc (.cells (Qo x) 478)).setCell p (.int .i64 x):=by
 have qU:∀w,(binOp BinOp.eql 20 (.iface 478 (.agg (Qo x))) .nilIface).run prog w=.ok (.bool false) w:=fun _=>by kernel_rfl
 have hta:∀w,Sem.run prog (Instr.typeAssert (.iface 478 (.agg (Qo x))) 20 478 true) w=.ok (.tuple #[.agg (Qo x),.bool true]) w:=fun _=>by kernel_rfl
 refine callsD_of_wpS func329 rfl fun c₀ cs hu=>?_
 apply wpS_seq
 apply wpS_region
 simp[wpOpsS,go_sem,recoverD,hu,ntmps329,Exit.thenS]
 refine wpS_of_wp ?_
 rw[show(#[Value.pointer (some p)]++(Array.replicate 14 undef).setIfInBounds 4 (Value.iface 478 (.agg (Qo x))))=#[.pointer (some p),undef,undef,undef,undef,.iface 478 (.agg (Qo x)),undef,undef,undef,undef,undef,undef,undef,undef,undef]from by kernel_rfl]
 have hp:=World.block_lt_of_cell? _ _ hc
 have h1:(w.alloc (.cells (Qo x) 478)).cell? p=some (.int .i64 y):=(World.cell?_alloc_lt _ _ _ hp).trans hc
 have h2:(w.alloc (.cells (Qo x) 478)).frozen? p=false:=((bn w _).frozen hp).trans hz
 go_wp2_with fail
 cases c₀
 simp_all [bodyPostS,results,results329]
theorem tU (r f:Nat) (cap:Array Value) (bs:List Int) (Q:World→World→Prop) (w:World) (h:RdAt w r bs) (hcf:∀w,Sem.run prog (callFunc f cap) w=.ok (.enter f cap) w)
  (hC:∀W,Below w.heap.size w W→Calls prog f cap W fun e w'=>e=.returned (.tuple #[])∧Q W w') :
  Calls prog 178 #[Qp r,.func (.func f) #[] cap] w fun e w'=>e=.returned (.tuple #[])∧∃W,Below w.heap.size w W∧Q W w':=by
 obtain⟨ao,cp,c0,c1,_,_,_,_,_⟩:=h.cells
 have hr:=h.lt
 have HC:=zA hC
 have b1:∀o,Below w.heap.size w (w.alloc o):=fun o=>bn _ _
 have hmf:∀(fn:Fn) (first cap:Array Value) (w:World),(Instr.makeFunc fn first cap).run prog w=.ok (.func fn first cap) w:=fun _ _ _ _=>rfl
 have b2:∀o o',Below w.heap.size w ((w.alloc o).alloc o'):=fun o o'=>(b1 o).alloc (b1 o).size _
 have HB2:=zA b2
 clear hC h b1 b2
 go_enter_defers func178,ntmps178
 go_wp2_with fail
 refine(HC.out _ (HB2.out _ _)).mono ?_
 rintro e w5 ⟨rfl,hQ⟩
 go_wp2_with fail
 refine leaves_cons (f:=267) (args:=#[Qp (w.heap.size+1),Qp w.heap.size]) (by simp) (by simp[go_sem]) ?_
 refine(rO _ _ _).mono ?_
 rintro e u' w'' ⟨rfl,rfl,rfl⟩
 simp[Leaves,settle,results,results178,go_sem]
 exact⟨_,HB2.out _ _,hQ⟩
theorem RdAt.other {w:World} {r R:Nat} {bs:List Int} (h:RdAt w r bs) (hne:R≠r) (h5:∀cs fr,w.heap[R]?≠some (Obj.cells cs 5 fr)) (j:Nat) (u:Value):RdAt (w.setCell ⟨R,j,none⟩ u) r bs:=by
 obtain⟨v,hr,hb⟩:=h
 exact⟨v,hr.of_block (Below.heap_setCell _ _ _ _ (fun e=>hne e.symm)),hb.keep (fun g cs fr hg=>Below.heap_setCell _ _ _ _ (fun e=>h5 cs fr (by rw[show g=R from e]at hg;exact hg)))⟩
theorem Off.after {F G:Nat→Prop} {w W w':World} (h:Off F W w') (hb:Below w.heap.size w W) (hF:∀g,g<w.heap.size→F g→G g):Off G w w':=((Off.of_below (F:=F) hb).trans h).mono hF
theorem int1_ok (r H n:Nat) (y:Int) (ys:List Int) (w:World) (h:RdAt w r (Pl.vint n++ys)) (hn:n≤1099511627776) (hH:H≠r) (hG:H+1≠r) (c0:w.cell? ⟨H,0,none⟩=some (.pointer (some ⟨r,0,none⟩))) (c1:w.heap[H+1]?=some (.cells (Qo y) 3 (0,0))) :
  Calls prog 236 #[Qp H,Qp (H+1)] w fun e w'=>e=.returned (.tuple #[])∧RdAt w' r ys∧w'.cell? ⟨H+1,0,none⟩=some (.int .i64 n)∧w'.frozen? ⟨H+1,0,none⟩=false∧(∃x,w'.heap[H+1]?=some (.cells x 3 (0,0)))∧Off (fun g=>g=r∨g=H+1) w w':=by
 have HN:=zA (number_ok r n ys w h hn)
 have C1:=zA c1
 clear h c1
 go_enter func236,ntmps236
 go_wp2_with fail
 refine HN.out.mono ?_
 rintro e w5 ⟨rfl,R5,O5⟩
 have h1:=(O5.same (H+1) (gsi.1 C1.out).1 hG).trans C1.out
 have d1:=cc 0 h1
 have f1:=zB h1 0
 have HR5:=zA R5
 have HO5:=zA O5
 have H1:=zA h1
 clear R5 O5 h1 HN
 go_wp2_with fail
 refine yG results236 ⟨rfl,?_,World.cell?_setCell_same _ _ _ d1,by rw[World.frozen?_setCell];exact f1,⟨_,zF H1.out _⟩,(HO5.out.mono (fun g _ hg=>.inl hg)).set (a:=⟨H+1,0,none⟩) (.inl (.inr rfl)) _⟩
 exact HR5.out.other lD (fun cs fr e=>by rw[H1.out]at e;cases e) _ _
theorem vO (r n:Nat) (ys:List Int) (w:World) (h:RdAt w r (Pl.vint n++ys)) (hn:n≤1099511627776) :
  Calls prog 142 #[Qp r] w fun e w'=>e=.returned (.int .i64 n)∧RdAt w' r ys∧Off (· = r) w w':=by
 have hr:=h.lt
 have b1:Below w.heap.size w (w.alloc (.cells #[Qp r] 190)):=bn _ _
 have b2:Below w.heap.size w ((w.alloc (.cells #[Qp r] 190)).alloc (.cells (Qo 0) 3)):=b1.alloc b1.size _
 have x0:((w.alloc (.cells #[Qp r] 190)).alloc (.cells (Qo 0) 3)).heap[w.heap.size]?=some (.cells #[Qp r] 190 (0,0)):=(Below.heap_alloc _ _ _ (by simp)).trans (heap_alloc_new w _)
 have x1:((w.alloc (.cells #[Qp r] 190)).alloc (.cells (Qo 0) 3)).heap[w.heap.size+1]?=some (.cells (Qo 0) 3 (0,0)):=by
  have:=heap_alloc_new (w.alloc (.cells #[Qp r] 190)) (.cells (Qo 0) 3)
  simpa using this
 have hmf:∀(fn:Fn) (first cap:Array Value) (w:World),(Instr.makeFunc fn first cap).run prog w=.ok (.func fn first cap) w:=fun _ _ _ _=>rfl
 have hcf:∀w':World,Sem.run prog (callFunc 236 #[Qp w.heap.size,Qp (w.heap.size+1)]) w'=.ok (.enter 236 #[Qp w.heap.size,Qp (w.heap.size+1)]) w':=fun _=>by kernel_rfl
 have HRD:=zA (h.below b2)
 have HC:=zA (tU r 236 #[Qp w.heap.size,Qp (w.heap.size+1)] _ (fun W w'=>RdAt w' r ys∧w'.cell? ⟨w.heap.size+1,0,none⟩=some (.int .i64 n)∧w'.frozen? ⟨w.heap.size+1,0,none⟩=false∧(∃x,w'.heap[w.heap.size+1]?=some (.cells x 3 (0,0)))∧Off (fun g=>g=r∨g=w.heap.size+1) W w') _ (h.below b2) hcf
  (fun W hW=>int1_ok r w.heap.size n 0 ys W ((h.below b2).below hW) hn lD lD (zE ((hW.block _ (by simp;omega)).trans x0) rfl) ((hW.block _ (by simp)).trans x1)))
 have HB2:=zA b2
 clear h b1 b2 hcf x0 x1 HRD
 go_enter func142,ntmps142
 go_wp2_with fail
 refine HC.out.mono ?_
 rintro e w5 ⟨rfl,W,hW,R5,c5,f5,⟨x5,h5⟩,O5⟩
 have O6:Off (· = r) w w5:=O5.after (HB2.out.trans (hW.mono HB2.out.size)) (fun g hg hf=>by omega)
 have HR5:=zA R5
 have HO6:=zA O6
 have R6:=zA (R5.other (R:=w.heap.size+1) lD (fun cs fr e=>by rw[h5]at e;cases e) 0 (.int .i64 n))
 have O7:=zA (O6.set (a:=⟨w.heap.size+1,0,none⟩) (.inr (by show w.heap.size≤w.heap.size+1;omega)) (.int .i64 n))
 have c6:=World.cell?_setCell_same w5 ⟨w.heap.size+1,0,none⟩ (.int .i64 n) c5
 clear R5 O5 O6 hW HC h5
 go_wp2_with fail
 exact bodyPost_ret (v:=.int .i64 n) (by simp[results,results142,go_sem,c6]) rfl ⟨rfl,R6.out,O7.out⟩
theorem vH (r:Nat) (bs:List Int) (w:World) (h:RdAt w r bs):Calls prog 110 #[Qp r] w fun e w'=>e=.returned (.int .i64 bs.length)∧w=w':=by
 obtain⟨ao,cp,c0,c1,_⟩:=h.cells
 clear h
 go_enter func110,ntmps110
 go_wp2_with fail
 go_ret
 exact⟨rfl,rfl⟩
theorem uW (r:Nat) (bs:List Int) (w:World) (h:RdAt w r bs):Calls prog 182 #[Qp r] w fun e w'=>e=.returned (.int .i64 0)∧w=w':=by
 obtain⟨ao,cp,c0,c1,_⟩:=h.cells
 clear h
 go_enter func182,ntmps182
 go_wp2_with fail
 go_ret
 exact⟨rfl,rfl⟩
theorem bytes1_ok (r H:Nat) (xs ys:List Int) (w:World) (h:RdAt w r (xs++ys)) (hl:xs.length≤1000000) (hH:H≠r) (hG:H+1≠r) (hI:H+1+1≠r) (c0:w.cell? ⟨H,0,none⟩=some (.pointer (some ⟨r,0,none⟩))) (c1:w.cell? ⟨H+1,0,none⟩=some (.int .i64 xs.length)) (c2:w.heap[H+1+1]?=some (.cells #[.slice none 0 0] 55 (0,0))) :
  Calls prog 179 #[Qp H,Qp (H+1),Qp (H+1+1)] w fun e w'=>e=.returned (.tuple #[])∧∃v',RdAt w' r ys∧w'.cell? ⟨H+1+1,0,none⟩=some v'∧OwnB w.heap.size w' v' xs∧w'.frozen? ⟨H+1+1,0,none⟩=false∧(∃x,w'.heap[H+1+1]?=some (.cells x 55 (0,0)))∧Off (fun g=>g=r∨g=H+1+1) w w':=by
 have HN:=zA (rR r xs ys w h)
 have C2:=zA c2
 clear h c2
 go_enter func179,ntmps179
 go_wp2_with fail
 refine HN.out.mono ?_
 rintro e w5 ⟨v5,rfl,B5,R5,O5,s5⟩
 obtain⟨ao5,cp5,hv5⟩:=B5.1.toC.form
 subst hv5
 have h1:=(O5.same (H+1+1) (gsi.1 C2.out).1 hI).trans C2.out
 have HC:=zA (xI _ xs w5 B5.1.toC lD)
 have HR5:=zA R5
 have HO5:=zA O5
 have HS5:=zA s5
 have H1:=zA h1
 clear R5 O5 h1 HN B5 s5
 go_wp2_with fail
 refine HC.out.mono ?_
 rintro e w6 ⟨v6,rfl,O6,b6⟩
 have h2:=(b6.block _ (gsi.1 H1.out).1).trans H1.out
 obtain⟨ao6,cp6,hv6⟩:=O6.form
 subst hv6
 have d1:=cc 0 h2
 have f1:=zB h2 0
 have H2:=zA h2
 have HB6:=zA b6
 have HO6:=zA O6
 clear h2 b6 O6 HC
 go_wp2_with fail
 have hne:∀cs fr,w6.heap[H+1+1]?≠some (Obj.cells cs 5 fr):=fun cs fr e=>by rw[H2.out]at e;cases e
 have kb:∀u,KeepB w6 (w6.setCell ⟨H+1+1,0,none⟩ u):=fun u g cs fr hg=>Below.heap_setCell _ _ _ _ (fun e=>hne cs fr (by rw[show g=H+1+1 from e]at hg;exact hg))
 refine yG results179 ⟨rfl,_,(HR5.out.below HB6.out).other lD hne _ _,World.cell?_setCell_same _ _ _ d1,(HO6.out.mono (by rw[HS5.out];exact Nat.le_refl _)).keep (kb _),by rw[World.frozen?_setCell];exact f1,⟨_,zF H2.out _⟩,?_⟩
 exact((HO5.out.mono (fun g _ hg=>.inl hg)).trans (Off.of_below HB6.out)).set (a:=⟨H+1+1,0,none⟩) (.inl (.inr rfl)) _
theorem sK (r:Nat) (xs ys:List Int) (w:World) (h:RdAt w r (xs++ys)) (hl:xs.length≤1000000) :
  Calls prog 109 #[Qp r,.int .i64 xs.length] w fun e w'=>∃v',e=.returned v'∧OwnB w.heap.size w' v' xs∧RdAt w' r ys∧Off (· = r) w w':=by
 have hr:=h.lt
 have b1:Below w.heap.size w (w.alloc (.cells #[Qp r] 190)):=bn _ _
 have b2:Below w.heap.size w ((w.alloc (.cells #[Qp r] 190)).alloc (.cells (Qo xs.length) 3)):=b1.alloc b1.size _
 have b3:Below w.heap.size w (((w.alloc (.cells #[Qp r] 190)).alloc (.cells (Qo xs.length) 3)).alloc (.cells #[.slice none 0 0] 55)):=b2.alloc b2.size _
 have x0:(((w.alloc (.cells #[Qp r] 190)).alloc (.cells (Qo xs.length) 3)).alloc (.cells #[.slice none 0 0] 55)).heap[w.heap.size]?=some (.cells #[Qp r] 190 (0,0)):=(Below.heap_alloc _ _ _ (by simp;omega)).trans ((Below.heap_alloc _ _ _ (by simp)).trans (heap_alloc_new w _))
 have x1:(((w.alloc (.cells #[Qp r] 190)).alloc (.cells (Qo xs.length) 3)).alloc (.cells #[.slice none 0 0] 55)).heap[w.heap.size+1]?=some (.cells (Qo xs.length) 3 (0,0)):=by
  have:=heap_alloc_new (w.alloc (.cells #[Qp r] 190)) (.cells (Qo xs.length) 3)
  exact(Below.heap_alloc _ _ _ (by simp)).trans (by simpa using this)
 have x2:(((w.alloc (.cells #[Qp r] 190)).alloc (.cells (Qo xs.length) 3)).alloc (.cells #[.slice none 0 0] 55)).heap[w.heap.size+1+1]?=some (.cells #[.slice none 0 0] 55 (0,0)):=by
  have:=heap_alloc_new ((w.alloc (.cells #[Qp r] 190)).alloc (.cells (Qo xs.length) 3)) (.cells #[.slice none 0 0] 55)
  simpa using this
 have hmf:∀(fn:Fn) (first cap:Array Value) (w:World),(Instr.makeFunc fn first cap).run prog w=.ok (.func fn first cap) w:=fun _ _ _ _=>rfl
 have hsz:(((w.alloc (.cells #[Qp r] 190)).alloc (.cells (Qo xs.length) 3)).alloc (.cells #[.slice none 0 0] 55)).heap.size=w.heap.size+3:=by simp
 have HC:=zA (tU r 179 #[Qp w.heap.size,Qp (w.heap.size+1),Qp (w.heap.size+1+1)] _ (fun W w'=>∃v',RdAt w' r ys∧w'.cell? ⟨w.heap.size+1+1,0,none⟩=some v'∧OwnB W.heap.size w' v' xs∧w'.frozen? ⟨w.heap.size+1+1,0,none⟩=false∧(∃x,w'.heap[w.heap.size+1+1]?=some (.cells x 55 (0,0)))∧Off (fun g=>g=r∨g=w.heap.size+1+1) W w') _ (h.below b3) (fun _=>by kernel_rfl)
  (fun W hW=>bytes1_ok r w.heap.size xs ys W ((h.below b3).below hW) hl lD lD lD (zE ((hW.block _ (by rw[hsz];omega)).trans x0) rfl) (zE ((hW.block _ (by rw[hsz];omega)).trans x1) rfl) ((hW.block _ (by rw[hsz];omega)).trans x2)))
 have HB3:=zA b3
 clear h b1 b2 b3 x0 x1 x2 hsz
 go_enter func109,ntmps109
 go_wp2_with fail
 refine HC.out.mono ?_
 rintro e w5 ⟨rfl,W,hW,v5,R5,c5,O5,f5,⟨x5,h5⟩,F5⟩
 obtain⟨ao5,cp5,hv5⟩:=O5.form
 subst hv5
 have hbW:=HB3.out.trans (hW.mono HB3.out.size)
 have hne:∀cs fr,w5.heap[w.heap.size+1+1]?≠some (Obj.cells cs 5 fr):=fun cs fr e=>by rw[h5]at e;cases e
 have kb:KeepB w5 (w5.setCell ⟨w.heap.size+1+1,0,none⟩ (.slice ao5 xs.length cp5)):=fun g cs fr hg=>Below.heap_setCell _ _ _ _ (fun e=>hne cs fr (by rw[show g=w.heap.size+1+1 from e]at hg;exact hg))
 have R6:=zA (R5.other (R:=w.heap.size+1+1) lD hne 0 (.slice ao5 xs.length cp5))
 have O6:=zA ((O5.mono hbW.size).keep kb)
 have F6:Hid (Off (· = r) w (w5.setCell ⟨w.heap.size+1+1,0,none⟩ (.slice ao5 xs.length cp5))):=zA ((F5.after hbW (G:=(· = r)) (fun g hg hf=>by omega)).set (a:=⟨w.heap.size+1+1,0,none⟩) (.inr (by show w.heap.size≤w.heap.size+1+1;omega)) _)
 have c6:=World.cell?_setCell_same w5 ⟨w.heap.size+1+1,0,none⟩ (.slice ao5 xs.length cp5) c5
 clear R5 O5 F5 hW HC h5 hbW hne kb
 go_wp2_with fail
 exact bodyPost_ret (v:=.slice ao5 xs.length cp5) (by simp[results,results109,go_sem,c6]) rfl ⟨_,rfl,O6.out,R6.out,F6.out⟩
end
end Go.Proofs.YtodlmbfbfaofcaaGreat
