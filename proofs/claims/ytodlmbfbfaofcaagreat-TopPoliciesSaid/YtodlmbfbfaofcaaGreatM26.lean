/- TopPolicies, part 26. -/
import Derived.Test.YtodlmbfbfaofcaaGreatM01
import Derived.Test.YtodlmbfbfaofcaaGreatM02
import Derived.Test.YtodlmbfbfaofcaaGreatM04
import Derived.Test.YtodlmbfbfaofcaaGreatM08
import Derived.Test.YtodlmbfbfaofcaaGreatM22
import Derived.Test.YtodlmbfbfaofcaaGreatM25
open Go.Proofs.Tryz
namespace Go.Proofs.YtodlmbfbfaofcaaGreat
set_option linter.unusedVariables false
set_option linter.unusedSimpArgs false
set_option maxRecDepth 100000
set_option maxHeartbeats 4000000
section
open Go.RowKit Rw Rh
def RowS {α:Type} (K:Rk α) (w:World) (v:Value) (xs:List α):Prop:=RowT K w v xs∧∃ao n cap,v=.slice ao n cap∧n≤cap∧cap≤maxLen
theorem OwnR.rowS {α:Type} {K:Rk α} {base:Nat} {w:World} {v:Value} {xs:List α} (h:OwnR K base w v xs):RowS K w v xs:=by
 refine⟨h.toT,?_⟩
 rcases h.2 with⟨rfl,_⟩ | ⟨g,cap,cur,rfl,_,_,h1,h2,_,_⟩
 ·exact⟨_,_,_,rfl,Nat.le_refl _,by decide⟩
 ·exact⟨_,_,_,rfl,h1,h2⟩
theorem RowS.below {α:Type} {K:Rk α} {w w':World} {v:Value} {xs:List α} (h:RowS K w v xs) (hb:Below w.heap.size w w'):RowS K w' v xs:=⟨h.1.below hb,h.2⟩
def cutK (ao:Option Addr) (cap n k:Nat):Option Addr:=if cap=n then ao else ao.map (fun a=>a.add (n*k))
theorem RowS.take {α:Type} {K:Rk α} {w:World} {ao:Option Addr} {n cap:Nat} {xs ys:List α} (h:RowS K w (.slice ao n cap) (xs++ys)):RowS K w (.slice ao xs.length cap) xs:=by
 obtain⟨⟨ao',cap',e,h0,h1⟩,ao2,n2,cap2,e2,hn,hm⟩:=h
 cases e;cases e2
 rw[List.length_append]at hn
 refine⟨⟨ao,cap,rfl,fun ha=>?_,fun i hi=>?_⟩,ao,_,cap,rfl,by omega,hm⟩
 ·obtain⟨h2,h3⟩:=h0 ha
  exact⟨(List.append_eq_nil_iff.1 h2).1,h3⟩
 ·obtain⟨g,off,cs,fr,h2,h3,h4⟩:=h1 i (by rw[List.length_append];omega)
  exact⟨g,off,cs,fr,h2,h3,fun j hj=>by rw[h4 j hj,List.getElem_append_left hi]⟩
theorem RowS.drop {α:Type} {K:Rk α} {w:World} {ao:Option Addr} {n cap:Nat} {xs ys:List α} (h:RowS K w (.slice ao n cap) (xs++ys)):RowS K w (.slice (cutK ao cap xs.length K.k) ys.length (cap - xs.length)) ys:=by
 obtain⟨⟨ao',cap',e,h0,h1⟩,ao2,n2,cap2,e2,hn,hm⟩:=h
 cases e;cases e2
 rw[List.length_append]at hn
 refine⟨⟨_,_,rfl,fun ha=>?_,fun i hi=>?_⟩,_,_,_,rfl,by omega,by omega⟩
 ·have ha':ao=none:=by
   unfold cutK at ha
   split at ha
   ·exact ha
   ·cases ao with
    | none=>rfl
    | some a=>cases ha
  obtain⟨h2,h3⟩:=h0 ha'
  exact⟨(List.append_eq_nil_iff.1 h2).2,by omega⟩
 ·obtain⟨g,off,cs,fr,h2,h3,h4⟩:=h1 (xs.length+i) (by rw[List.length_append];omega)
  refine⟨g,off+xs.length*K.k,cs,fr,?_,h3,fun j hj=>?_⟩
  ·unfold cutK
   rw[if_neg (by omega),h2,Option.map_some,Go.WideShapes.add_plain]
  ·have e:off+xs.length*K.k+i*K.k+j=off+(xs.length+i)*K.k+j:=by rw[Nat.add_mul];omega
   rw[e,h4 j hj,List.getElem_append_right (by omega)]
   simp
theorem search_ok (f:Nat) (cb:Array Value) (n:Nat) (p:Nat→Bool) (w:World) (hn:n≤1000000)
  (hcf:∀(x:Value) (W:World),Sem.run prog (callFunc f (#[x]++cb)) W=.ok (.enter f (#[x]++cb)) W)
  (hC:∀k,k<n→∀W,Below w.heap.size w W→Calls prog f (#[.int .i64 (k:Nat)]++cb) W fun r w'=>r=.returned (.bool (p k))∧Below W.heap.size W w') :
  Calls prog 328 #[.int .i64 n,.func (.func f) #[] cb] w fun r w'=>∃i:Nat,r=.returned (.int .i64 i)∧i≤n∧(0<i→p (i - 1)=false)∧(i<n→p i=true)∧Below w.heap.size w w':=by
 have HC:=zA hC
 have HN:=zA hn
 clear hC hn
 go_enter func328,ntmps328
 go_wp2_with fail
 go_loopw [5,6] (fun x y wr=>∃(lo hi:Nat),x=.int .i64 lo∧y=.int .i64 hi∧lo≤hi∧hi≤n∧(0<lo→p (lo - 1)=false)∧(hi<n→p hi=true)∧Below w.heap.size w wr) (fun x y _=>(intOf y).toNat - (intOf x).toNat)
 case atStart=>exact⟨0,n,rfl,rfl,by omega,by omega,fun h=>absurd h lD,fun h=>absurd h lD,Below.refl _ _⟩
 case round=>
  obtain⟨lo,hi,rfl,rfl,h1,h2,h3,h4,hb⟩:=hrel
  have H1:=zA (And.intro h1 h2)
  have H3:=zA h3
  have H4:=zA h4
  have HB:=zA hb
  clear h1 h2 h3 h4 hb
  by_cases hlt:lo<hi
  ·have a0:(lo:Int)<hi:=by omega
   obtain⟨m,hm⟩:∃m,m=(lo+hi) / 2:=⟨_,rfl⟩
   have hm1:lo≤m∧m<hi:=by omega
   have e1:(((lo:Int)+hi) / 2)=(m:Int):=by omega
   have e2:IntKind.u64.wrap ((lo:Int)+hi)=(lo:Int)+hi:=by
    have:=HN.out;have:=H1.out
    unfold IntKind.wrap;simp[IntKind.bits,IntKind.signed];omega
   have b1:(lo:Int)+hi≤9223372036854775807:=by have:=HN.out;have:=H1.out;omega
   have HM:=zA hm1
   have HCC:=zA (HC.out m (by have:=H1.out;omega) wr HB.out)
   clear hm hm1
   go_wp2_with fail
   refine HCC.out.mono ?_
   rintro r w1 ⟨rfl,hb1⟩
   have HB1:=zA (HB.out.trans (hb1.mono HB.out.size))
   clear hb1 HCC e1 e2 b1
   cases hp:p m with
   | false=>
    have HP:=zA hp
    clear hp
    have b2:(m:Int)+1≤9223372036854775807:=by have:=HN.out;have:=H1.out;have:=HM.out;omega
    go_wp2_with fail
    exact⟨⟨m+1,hi,rfl,rfl,by have:=HM.out;omega,H1.out.2,fun _=>by simpa using HP.out,H4.out,HB1.out⟩,by have:=HM.out;simp[intOf];omega⟩
   | true=>
    have HP:=zA hp
    clear hp
    go_wp2_with fail
    exact⟨⟨lo,m,rfl,rfl,by have:=HM.out;omega,by have:=HM.out;have:=H1.out;omega,H3.out,fun _=>HP.out,HB1.out⟩,by have:=HM.out;simp[intOf];omega⟩
  ·have a0:¬(lo:Int)<hi:=by omega
   go_wp2_with fail
   go_ret
   have e:hi=lo:=by have:=H1.out;omega
   refine⟨lo,rfl,by have:=H1.out;omega,H3.out,fun h=>?_,HB.out⟩
   have h4:=H4.out
   rw[e]at h4
   exact h4 h
namespace Pl
def dsize (a b:Nat) (es:List Ev):Nat:=(frame (body5 a b es)).length
end Pl
theorem msize_5 (a b:Nat) (ao:Option Addr) (cap:Nat) (es:List Pl.Ev) (w:World) (h:RowC kEv w (.slice ao es.length cap) es) (hes:es.length≤768) (hok:∀e∈es,e.Ok) (hi:∀e∈es,Is w e) (ha:a<8) (hb:b<8) (hne:a≠b) (hlen:(Pl.body5 a b es).length≤4096) :
  Calls prog 327 #[.agg (Qtk 5 (a:Int) (b:Int) (.slice ao es.length cap))] w fun r w'=>r=.returned (.tuple (Qi (Pl.dsize a b es:Nat) 0))∧Below w.heap.size w w':=by
 have b1:=bn w (.cells (Qtk 5 (a:Int) (b:Int) (.slice ao es.length cap)) 115)
 have HP:=zA (mput_5 a b ao cap es _ (h.below b1) hes hok (fun e he=>(hi e he).below b1) ha hb hne hlen)
 have HB:=zA b1
 clear b1 h hes hok hi ha hb hne hlen
 go_enter func327,ntmps327
 go_wp2_with fail
 generalize w.alloc (.cells (Qtk 5 (a:Int) (b:Int) (.slice ao es.length cap)) 115)=W0 at *
 refine HP.out.mono ?_
 rintro r w1 ⟨v1,rfl,ho,hb⟩
 obtain⟨aov,capv,rfl⟩:=ho.form
 have HB1:=zA (HB.out.trans (hb.mono HB.out.size))
 clear ho hb HP
 change _ at HB1
 have hd:(Pl.frame (Pl.body5 a b es)).length=Pl.dsize a b es:=rfl
 rw[hd]
 go_wp2_with fail
 exact bodyPost_ret (v:=.tuple (Qi (Pl.dsize a b es:Nat) 0)) (by simp[results,results327,go_sem]) rfl ⟨rfl,HB1.out⟩
namespace Pl
theorem uQ (xs ys:List Ev):codes (xs++ys)=codes xs++codes ys:=by unfold codes;rw[List.flatMap_append]
theorem codes_take (es:List Ev) (m:Nat):(codes (es.take m)).length≤(codes es).length:=by
 have h:=uQ (es.take m) (es.drop m)
 rw[List.take_append_drop]at h
 rw[h,List.length_append];omega
theorem body5_len (a b:Nat) (es:List Ev) (ha:a<8) (hb:b<8) (hl:(codes es).length≤4000) (hn:es.length≤768):(body5 a b es).length≤4096:=by
 have h1:=vints_len [5,a,b,0] (fun n hn=>by simp at hn;omega)
 have h2:=vint_len6 (n:=es.length) lD
 unfold body5
 rw[List.length_append,List.length_append]
 simp only[List.length_cons,List.length_nil]at h1
 omega
end Pl
theorem RowS.first {α:Type} {K:Rk α} {w:World} {ao:Option Addr} {cap m:Nat} {es:List α} (h:RowS K w (.slice ao es.length cap) es) (hm:m≤es.length):RowS K w (.slice ao m cap) (es.take m):=by
 have h1:RowS K w (.slice ao es.length cap) (es.take m++es.drop m):=by rw[List.take_append_drop];exact h
 have h2:=h1.take
 rw[List.length_take,Nat.min_eq_left hm]at h2
 exact h2
theorem RowS.cap {α:Type} {K:Rk α} {w:World} {ao:Option Addr} {n cap:Nat} {es:List α} (h:RowS K w (.slice ao n cap) es):n≤cap∧cap≤maxLen:=by
 obtain⟨_,ao',n',cap',e,h1,h2⟩:=h
 cases e;exact⟨h1,h2⟩
theorem fit1_ok (Mb Qb a b k mtu:Nat) (ao:Option Addr) (cap:Nat) (es:List Pl.Ev) (w:World) (hM:w.heap[Mb]?=some (.cells (Qtk 5 (a:Int) (b:Int) (.slice ao es.length cap)) 115 (0,0))) (hQ:w.heap[Qb]?=some (.cells (Qo mtu) 3 (0,0))) (h:RowS kEv w (.slice ao es.length cap) es)
  (hk:k<es.length) (hes:es.length≤768) (hok:∀e∈es,e.Ok) (hi:∀e∈es,Is w e) (ha:a<8) (hb:b<8) (hne:a≠b) (hl:(Pl.codes es).length≤4000) :
  Calls prog 326 #[.int .i64 k,Qp Mb,Qp Qb] w fun r w'=>r=.returned (.bool (decide (mtu<Pl.dsize a b (es.take (k+1)))))∧Below w.heap.size w w':=by
 obtain⟨hc1,hc2⟩:=h.cap
 have h1:=(h.first (m:=k+1) lD).1.toC
 have hlt:(es.take (k+1)).length=k+1:=by rw[List.length_take];omega
 have HWT:=zA (fun (W:World) (hW:Below w.heap.size w W)=>with_ok a b ao es.length cap (.slice ao (k+1) cap) (es.take (k+1)) W (h1.below hW) (by rw[hlt];omega) (fun e he=>(hi e (List.mem_of_mem_take he)).below hW) (fun e he=>by obtain⟨n,s,_,hN⟩:=(hok e (List.mem_of_mem_take he)).dot;exact hN.len))
 have HSZ:Hid (∀(W:World) (ao':Option Addr) (cap':Nat) (es':List Pl.Ev),RowC kEv W (.slice ao' (k+1) cap') es'→Rep W es' (es.take (k+1))→Calls prog 327 #[.agg (Qtk 5 (a:Int) (b:Int) (.slice ao' (k+1) cap'))] W fun r w'=>r=.returned (.tuple (Qi (Pl.dsize a b (es.take (k+1)):Nat) 0))∧Below W.heap.size W w'):=zA (fun W ao' cap' es' hr rp=>by
  have hL:es'.length=k+1:=by rw[rp.len,hlt]
  have hD:Pl.dsize a b es'=Pl.dsize a b (es.take (k+1)):=by unfold Pl.dsize Pl.body5;rw[xH rp.1,rp.len]
  have h:=msize_5 a b ao' cap' es' W (by rw[hL];exact hr) lD (rp.ok (fun e he=>hok e (List.mem_of_mem_take he))) rp.2 ha hb hne (Pl.body5_len a b _ ha hb (by rw[xH rp.1];exact Nat.le_trans (Pl.codes_take _ _) hl) lD)
  rw[hL,hD]at h
  exact h)
 simp only[hlt]at HWT
 have HM:=zA (fun (W:World) (hW:Below w.heap.size w W)=>zZ hW hM)
 have HQ:=zA (fun (W:World) (hW:Below w.heap.size w W)=>zZ hW hQ)
 have HLT:=zA hlt
 have a5:IntKind.i64.wrap ((k:Int)+1)=((k+1:Nat):Int):=by rw[IntKind.wrap_i64];omega
 have a6:(0:Int)≤((k+1:Nat):Int):=by omega
 have a7:((k+1:Nat):Int)≤cap:=by omega
 clear hM hQ h h1 hk hes hok hi ha hb hne hl hlt hc1 hc2
 go_enter func326,ntmps326
 go_wp2_with fail
 refine zD (fun W=>Below w.heap.size w W) 99 lE (Below.refl _ _).drew (fun qB=>?_)
 refine tk 0 8 rfl (by intro wS hSw;have y:=HM.out _ hSw;have q0:=cc 0 y;have q1:=cc 1 y;have q2:=cc 2 y;have q3:=cc 3 y;have q4:=cc 4 y;have q5:=cc 5 y;have q6:=cc 6 y;have q7:=cc 7 y;have q8:=cc 8 y;have q9:=cc 9 y;have q10:=cc 10 y;have q11:=cc 11 y;have q12:=cc 12 y;have q13:=cc 13 y;have q14:=cc 14 y;have q15:=cc 15 y;clear hSw;go_simp;(try with_reducible rfl)) ?_
 refine tkp 1 9 rfl ?_
 refine tk 2 10 rfl (by intro wS hSw;have y:=HM.out _ hSw;have q14:=cc 14 y;clear hSw;go_simp;(try with_reducible rfl)) ?_
 refine tkp 3 11 rfl ?_
 refine tkp 4 12 rfl ?_
 refine yE (i:=5) 13 (v:=.slice ao (k+1) cap) rfl lE lE lE lE lE (fun _ _ _ h=>h) (Or.inl ⟨by rfl,?ha6⟩) (by assumption) ?ra6
 case ha6=>intro w hSw;(try dsimp only at hSw);go_simp;(intro h;exact absurd (h lD) lD)
 simp only[zP]
 refine t1 6 rfl (fun K hK=>?_)
 go_simp
 refine(HWT.out _ qB).mono ?_
 rintro r w1 ⟨ao1,cap1,es1,rfl,ho,hrp1,hb1⟩
 have HB1:=zA (qB.trans (hb1.mono qB.size))
 have HO1:=zA ho.toT.toC
 have HP1:=zA hrp1
 clear ho hrp1 hb1 qB
 refine hK.out _ _ (fun _=>HB1.out) (fun _=>?_)
 clear hK K
 try simp only[zP]
 refine t1 7 rfl (fun K hK=>?_)
 go_simp
 refine(HSZ.out _ ao1 cap1 es1 HO1.out HP1.out).mono ?_
 rintro r w2 ⟨rfl,hb1⟩
 have HB2:=zA (HB1.out.trans (hb1.mono HB1.out.size))
 clear hb1 HB1
 refine hK.out _ _ (fun _=>HB2.out) (fun _=>?_)
 clear hK K
 try simp only[zP]
 have qB:=HB2.out
 refine tkp 8 7 rfl ?_
 refine tkp 9 16 rfl ?_
 refine tkp 10 17 rfl ?_
 refine tkp 11 5 rfl ?_
 refine tkp 12 6 rfl ?_
 refine wd ?_
 clear qB
 have hq:=HQ.out w2 HB2.out
 have q0:=cc 0 hq
 clear hq
 go_wp2_with fail
 go_ret
 exact⟨rfl,HB2.out⟩
theorem fit_ok (a b mtu:Nat) (ao:Option Addr) (cap:Nat) (es:List Pl.Ev) (w:World) (h:RowS kEv w (.slice ao es.length cap) es) (hes:es.length≤768) (hok:∀e∈es,e.Ok) (hi:∀e∈es,Is w e) (ha:a<8) (hb:b<8) (hne:a≠b) (hl:(Pl.codes es).length≤4000) (hm:mtu≤4096) :
  Calls prog 278 #[.agg (Qtk 5 (a:Int) (b:Int) (.slice ao es.length cap)),.int .i64 mtu] w fun r w'=>∃i:Nat,r=.returned (.int .i64 i)∧i≤min es.length (mtu / 5)∧(0<i→Pl.dsize a b (es.take i)≤mtu)∧(i<min es.length (mtu / 5)→mtu<Pl.dsize a b (es.take (i+1)))∧Below w.heap.size w w':=by
 obtain⟨hx,hy,b1⟩:=zU w (.cells (Qtk 5 (a:Int) (b:Int) (.slice ao es.length cap)) 115) (.cells (Qo (mtu:Int)) 3)
 have HB:=zA b1
 have HS:=zA (search_ok 326 #[Qp w.heap.size,Qp (w.heap.size+1)] (min es.length (mtu / 5)) (fun k=>decide (mtu<Pl.dsize a b (es.take (k+1)))) ((w.alloc (.cells (Qtk 5 (a:Int) (b:Int) (.slice ao es.length cap)) 115)).alloc (.cells (Qo (mtu:Int)) 3)) lD (fun _ _=>rfl)
  (fun k hk W hW=>fit1_ok w.heap.size (w.heap.size+1) a b k mtu ao cap es W (zC hx hW) (zC hy hW) ((h.below b1).below hW) lD hes hok (fun e he=>((hi e he).below b1).below hW) ha hb hne hl))
 have hmf:∀(fn:Fn) (first cap:Array Value) (w:World),(Instr.makeFunc fn first cap).run prog w=.ok (.func fn first cap) w:=fun _ _ _ _=>rfl
 have hq:((mtu:Int).tdiv 5)=((mtu / 5:Nat):Int):=by rw[Int.tdiv_eq_ediv_of_nonneg (by omega)];omega
 have h5:((mtu / 5:Nat):Int)≤4096:=by omega
 have h6 : -9223372036854775808≤((mtu / 5:Nat):Int):=by omega
 clear hx hy b1 h hes hok hi ha hb hne hl hm
 generalize mtu / 5=m5 at *
 rcases Nat.lt_or_ge m5 es.length with hlt | hge
 ·have hc:(m5:Int)<es.length:=by omega
  have hc2:¬(es.length:Int)≤m5:=by omega
  rw[Nat.min_eq_right (Nat.le_of_lt hlt)]at HS ⊢
  clear hlt
  go_enter func278,ntmps278
  go_wp2_with fail
  rw[show min (es.length:Int) (m5:Int)=(m5:Int)from by omega]
  exact nJ
 ·have hc:¬(m5:Int)<es.length:=by omega
  have hc2:(es.length:Int)≤m5:=by omega
  rw[Nat.min_eq_left hge]at HS ⊢
  clear hge
  go_enter func278,ntmps278
  go_wp2_with fail
  rw[show min (es.length:Int) (m5:Int)=(es.length:Int)from by omega]
  exact nJ
def FitN (a b mtu:Nat) (es:List Pl.Ev) (i:Nat):Prop:=i≤min es.length (mtu / 5)∧(0<i→Pl.dsize a b (es.take i)≤mtu)∧(i<min es.length (mtu / 5)→mtu<Pl.dsize a b (es.take (i+1)))
theorem Fit_ok (a b mtu:Nat) (ao:Option Addr) (cap:Nat) (es:List Pl.Ev) (w:World) (h:RowS kEv w (.slice ao es.length cap) es) (hes:es.length≤768) (hok:∀e∈es,e.Ok) (hi:∀e∈es,Is w e) (ha:a<8) (hb:b<8) (hne:a≠b) (hl:(Pl.codes es).length≤4000) (hm:512≤mtu∧mtu≤4096) :
  Calls prog 276 #[.agg (Qtk 5 (a:Int) (b:Int) (.slice ao es.length cap)),.int .i64 mtu] w fun r w'=>∃i:Nat,r=.returned (.tuple (Qi i 0))∧FitN a b mtu es i∧Below w.heap.size w w':=by
 have b1:=bn w (.cells (Qtk 5 (a:Int) (b:Int) (.slice ao es.length cap)) 115)
 have hw:Pl.within mtu 512 4096=mtu:=by unfold Pl.within;rw[if_neg (by omega),if_neg (by omega)]
 have HX:=zA (heap_alloc_new w (.cells (Qtk 5 (a:Int) (b:Int) (.slice ao es.length cap)) 115))
 have HB:=zA b1
 have HRT:=zA (fun (W:World) (hW:Below w.heap.size w W)=>uK W a b ao es.length cap es (h.below hW).1.toC hes hok (fun e he=>(hi e he).below hW) (zL lD lD) (zL lD lD) lD)
 have HFT:=zA (fun (W:World) (hW:Below w.heap.size w W)=>fit_ok a b mtu ao cap es W (h.below hW) hes hok (fun e he=>(hi e he).below hW) ha hb hne hl hm.2)
 clear b1 h hes hok hi ha hb hne hl hm
 go_enter func276,ntmps276
 go_wp2_with fail
 generalize w.alloc (.cells (Qtk 5 (a:Int) (b:Int) (.slice ao es.length cap)) 115)=W0 at *
 refine(within_any _ _ _ _).mono ?_
 rintro r w' ⟨rfl,rfl⟩
 rw[hw]
 have m0:=cc 0 HX.out
 have m1:=cc 1 HX.out
 have m2:=cc 2 HX.out
 have m3:=cc 3 HX.out
 have m4:=cc 4 HX.out
 have m5:=cc 5 HX.out
 have m6:=cc 6 HX.out
 have m7:=cc 7 HX.out
 have m8:=cc 8 HX.out
 have m9:=cc 9 HX.out
 have m10:=cc 10 HX.out
 have m11:=cc 11 HX.out
 have m12:=cc 12 HX.out
 have m13:=cc 13 HX.out
 have m14:=cc 14 HX.out
 have m15:=cc 15 HX.out
 clear hw
 go_wp2_with fail
 refine(HRT.out _ HB.out).mono ?_
 rintro r w1 ⟨rfl,hb1⟩
 have hx:=zC HX.out hb1
 have HB1:=zA (HB.out.trans (hb1.mono HB.out.size))
 clear m0 m1 m2 m3 m4 m5 m6 m7 m8 m9 m10 m11 m12 m13 m14 m15 hb1 HX HB HRT
 have m0:=cc 0 hx
 have m1:=cc 1 hx
 have m2:=cc 2 hx
 have m3:=cc 3 hx
 have m4:=cc 4 hx
 have m5:=cc 5 hx
 have m6:=cc 6 hx
 have m7:=cc 7 hx
 have m8:=cc 8 hx
 have m9:=cc 9 hx
 have m10:=cc 10 hx
 have m11:=cc 11 hx
 have m12:=cc 12 hx
 have m13:=cc 13 hx
 have m14:=cc 14 hx
 have m15:=cc 15 hx
 clear hx
 go_wp2_with fail
 refine(HFT.out _ HB1.out).mono ?_
 rintro r w2 ⟨i,rfl,h1,h2,h3,hb2⟩
 have HZ:=zA (And.intro (show FitN a b mtu es i from⟨h1,h2,h3⟩) (HB1.out.trans (hb2.mono HB1.out.size)))
 clear h1 h2 h3 hb2 m0 m1 m2 m3 m4 m5 m6 m7 m8 m9 m10 m11 m12 m13 m14 m15
 go_wp2_with fail
 exact bodyPost_ret (v:=.tuple (Qi (i:Nat) 0)) (by simp[results,results276,go_sem]) rfl ⟨i,rfl,HZ.out.1,HZ.out.2⟩
structure Mq where
 k:Int
 a:Int
 b:Int
 q:Int
 n:Int
 u0:Int
 u1:Int
 u2:Int
 u3:Int
 u4:Int
 u5:Int
 u6:Int
 u7:Int
 mo:Option Addr×Nat×Nat
 ev:Option Addr×Nat×Nat
 me:Option Addr×Nat×Nat
def kMsg:Rk Mq where
 T:=115
 S:=62
 k:=16
 bytes:=176
 z:=.agg Qnn
 enc:=fun d=>[.int .i64 d.k,.int .i64 d.a,.int .i64 d.b,.int .i64 d.q,.int .i64 d.n,.int .i64 d.u0,.int .i64 d.u1,.int .i64 d.u2,.int .i64 d.u3,.int .i64 d.u4,.int .i64 d.u5,.int .i64 d.u6,.int .i64 d.u7,.slice d.mo.1 d.mo.2.1 d.mo.2.2,.slice d.ev.1 d.ev.2.1 d.ev.2.2,.slice d.me.1 d.me.2.1 d.me.2.2]
 hlen:=fun _=>rfl
 hone:=fun x u hu=>by
  simp at hu
  rcases hu with rfl | rfl | rfl | rfl | rfl | rfl | rfl | rfl | rfl | rfl | rfl | rfl | rfl | rfl | rfl | rfl<;>rfl
 hk:=by decide
 hu:=by kernel_rfl
 hi:=by kernel_rfl
 hz:=rfl
 hb:=by decide
def dlq (a b:Nat) (ev:Option Addr×Nat×Nat):Mq:=⟨5,a,b,0,0,0,0,0,0,0,0,0,0,(none,0,0),ev,(none,0,0)⟩
def dgq (a b q:Nat) (U:Nat→Nat) (mo:Option Addr×Nat×Nat):Mq:=⟨4,a,b,q,0,U 0,U 1,U 2,U 3,U 4,U 5,U 6,U 7,mo,(none,0,0),(none,0,0)⟩
def Deltas (w:World) (a b:Nat) (ms:List Mq) (parts:List (List Pl.Ev)):Prop:=ms.length=parts.length∧∀i (h:i<ms.length) (h':i<parts.length),∃ao cap,ms[i]=dlq a b (ao,(parts[i]).length,cap)∧RowT kEv w (.slice ao (parts[i]).length cap) parts[i]∧∀e∈parts[i],Is w e
theorem Deltas.below {w w':World} {a b:Nat} {ms:List Mq} {parts:List (List Pl.Ev)} (h:Deltas w a b ms parts) (hb:Below w.heap.size w w'):Deltas w' a b ms parts:=
 ⟨h.1,fun i h1 h2=>by obtain⟨ao,cap,e,hr,hi⟩:=h.2 i h1 h2;exact⟨ao,cap,e,hr.below hb,fun e he=>(hi e he).below hb⟩⟩
theorem Deltas.nil (w:World) (a b:Nat):Deltas w a b [] []:=⟨rfl,fun i h=>absurd h (by simp)⟩
theorem Deltas.snoc {w:World} {a b cap:Nat} {ao:Option Addr} {ms:List Mq} {parts:List (List Pl.Ev)} {es:List Pl.Ev} (h:Deltas w a b ms parts) (hr:RowT kEv w (.slice ao es.length cap) es) (hi:∀e∈es,Is w e):Deltas w a b (ms++[dlq a b (ao,es.length,cap)]) (parts++[es]):=by
 refine⟨by rw[List.length_append,List.length_append,h.1];rfl,fun i h1 h2=>?_⟩
 rcases Nat.lt_or_ge i ms.length with hlt | hge
 ·have hlt':i<parts.length:=by rw[←h.1];exact hlt
  obtain⟨ao',cap',e,hr',hi'⟩:=h.2 i hlt hlt'
  rw[List.getElem_append_left hlt,List.getElem_append_left hlt']
  exact⟨ao',cap',e,hr',hi'⟩
 ·have e:i=ms.length:=by rw[List.length_append]at h1;simp at h1;omega
  subst e
  rw[List.getElem_append_right (Nat.le_refl _)]
  have e2:(parts++[es])[ms.length]'h2=es:=by rw[List.getElem_append_right (by rw[h.1];exact Nat.le_refl _)];simp[h.1]
  simp only[e2]
  exact⟨ao,cap,by simp,hr,hi⟩
namespace Pl
theorem frame_len (bs:List Int) (h:bs.length≤4096):(frame bs).length≤bs.length+11:=by
 have h2:=vint_len6 (n:=bs.length) lD
 unfold frame fhead sum4
 simp only[List.length_append,List.length_cons,List.length_nil]
 omega
theorem one_fits (a b:Nat) (e:Ev) (ha:a<8) (hb:b<8) (he:e.Ok):dsize a b [e]≤512:=by
 have h1:=vints_len [5,a,b,0] (fun n hn=>by simp at hn;omega)
 have h2:=vint_len6 (n:=1) lD
 have h3:=codes_len [e] (fun x hx=>by simp at hx;rw[hx];exact he)
 have h4:(body5 a b [e]).length≤320:=by
  unfold body5
  rw[List.length_append,List.length_append]
  have h6:([e]:List Ev).length=1:=rfl
  rw[h6]
  simp only[List.length_cons,List.length_nil]at h1 h3
  omega
 have h5:=frame_len (body5 a b [e]) lD
 unfold dsize
 omega
end Pl
theorem FitN.pos {a b mtu i:Nat} {es:List Pl.Ev} (h:FitN a b mtu es i) (hm:512≤mtu) (ha:a<8) (hb:b<8) (hok:∀e∈es,e.Ok) (hne:es≠[]):0<i:=by
 rcases Nat.eq_zero_or_pos i with h0 | h0
 ·exfalso
  obtain⟨e,l,rfl⟩:=List.exists_cons_of_ne_nil hne
  have h1:=h.2.2 (by rw[h0,List.length_cons];omega)
  rw[h0]at h1
  have h2:=Pl.one_fits a b e ha hb (hok e (by simp))
  simp only[Nat.zero_add,List.take_succ_cons,List.take_zero]at h1
  omega
 ·exact h0
theorem FitN.le {a b mtu i:Nat} {es:List Pl.Ev} (h:FitN a b mtu es i):i≤es.length:=by have:=h.1;omega
namespace Pl
theorem parts_le:∀(parts:List (List Ev)),(∀p∈parts,p≠[])→parts.length≤parts.flatten.length
 | [],_=>Nat.le_refl _
 | p::l,h=>by
  have h1:=parts_le l (fun q hq=>h q (List.mem_cons_of_mem _ hq))
  have h2:=List.length_pos_iff.2 (h p (List.mem_cons_self ..))
  rw[List.length_cons,List.flatten_cons,List.length_append];omega
theorem codes_drop (xs ys:List Ev):(codes ys).length≤(codes (xs++ys)).length:=by rw[uQ,List.length_append];omega
end Pl
structure SpAt (w0:World) (a b mtu:Nat) (es:List Pl.Ev) (u:Value) (i:Nat) (rest:List Pl.Ev) (W:World):Prop where
 st:∃(ms:List Mq) (parts:List (List Pl.Ev)) (aoR:Option Addr) (capR:Nat),(∃pre,es=pre++rest∧parts.flatten.map Pl.Ev.abs=pre.map Pl.Ev.abs)∧(∀p∈parts,p≠[]∧p.length≤768)∧W.heap[w0.heap.size]?=some (.cells (Qtk 5 (a:Int) (b:Int) (.slice aoR rest.length capR)) 115 (0,0))∧RowS kEv W (.slice aoR rest.length capR) rest∧OwnR kMsg (w0.heap.size+1) W u ms∧Deltas W a b ms parts
 fit:FitN a b mtu rest i
 be:Below w0.heap.size w0 W
def restLen (w:World) (g:Nat):Nat:=match w.heap[g]? with
 | some (.cells c _ _)=>(match (c[14]?:Option Value)with
  | some (Value.slice _ n _)=>n
  | _=>0)
 | _=>0
theorem Deltas.keepE {w w':World} {a b:Nat} {ms:List Mq} {parts:List (List Pl.Ev)} (h:Deltas w a b ms parts) (k:∀(g:Nat) (cs:Array Value) (t:TypeId) (fr:Nat×Nat),(t=175∨t=45)→w.heap[g]?=some (Obj.cells cs t fr)→w'.heap[g]?=w.heap[g]?):Deltas w' a b ms parts:=
 ⟨h.1,fun i hi hi'=>by
  obtain⟨ao,cap,e,hr,his⟩:=h.2 i hi hi'
  exact⟨ao,cap,e,hr.keep (fun g cs fr hg=>k g cs 175 fr (.inl rfl) hg),fun e he=>(his e he).keep (fun g cs fr hg=>k g cs 45 fr (.inr rfl) hg)⟩⟩
theorem wQ {w:World} {g n cap:Nat} {ao:Option Addr} {a b:Value} {u0 u1 u2 u3 u4 u5 u6 u7 u8 u9 u10 u13 u15:Value} {t:TypeId} {fr:Nat×Nat} (h:w.heap[g]?=some (.cells #[u0,a,b,u1,u2,u3,u4,u5,u6,u7,u8,u9,u10,u13,.slice ao n cap,u15] t fr)):restLen w g=n:=by
 unfold restLen;rw[h];rfl
theorem split_ok (a b mtu:Nat) (ao:Option Addr) (cap:Nat) (es:List Pl.Ev) (w:World) (h:RowS kEv w (.slice ao es.length cap) es) (hes:es.length≤768) (hok:∀e∈es,e.Ok) (hi:∀e∈es,Is w e) (ha:a<8) (hb:b<8) (hne:a≠b) (hl:(Pl.codes es).length≤4000) (hm:512≤mtu∧mtu≤4096) :
  Calls prog 202 #[.agg (Qtk 5 (a:Int) (b:Int) (.slice ao es.length cap)),.int .i64 mtu] w fun r w'=>∃v ms parts,r=.returned (.tuple #[v,.int .i64 0])∧OwnR kMsg w.heap.size w' v ms∧Deltas w' a b ms parts∧parts.flatten.map Pl.Ev.abs=es.map Pl.Ev.abs∧(∀p∈parts,p≠[]∧p.length≤768)∧Below w.heap.size w w':=by
 have b1:=bn w (.cells (Qtk 5 (a:Int) (b:Int) (.slice ao es.length cap)) 115)
 have HX:=zA (heap_alloc_new w (.cells (Qtk 5 (a:Int) (b:Int) (.slice ao es.length cap)) 115))
 have HB:=zA b1
 have HS:=zA (h.below b1)
 have HF:=zA (Fit_ok a b mtu ao cap es _ (h.below b1) hes hok (fun e he=>(hi e he).below b1) ha hb hne hl hm)
 have HH:=zA (And.intro hes (And.intro hok (And.intro ha (And.intro hb (And.intro hne (And.intro hl hm))))))
 have HIS:=zA (fun (W:World) (hW:Below w.heap.size w W) e he=>(hi e he).below hW)
 clear b1 h hes hok hi ha hb hne hl hm
 go_enter func202,ntmps202
 go_wp2_with fail
 generalize w.alloc (.cells (Qtk 5 (a:Int) (b:Int) (.slice ao es.length cap)) 115)=W0 at *
 refine HF.out.mono ?_
 rintro r W1 ⟨i,rfl,hfit,hb1⟩
 have HA:Hid (SpAt w a b mtu es (.slice none 0 0) i es W1):=zA ⟨⟨[],[],ao,cap,⟨[],rfl,rfl⟩,fun p hp=>absurd hp (by simp),zC HX.out hb1,HS.out.below hb1,yJ _ _ _,Deltas.nil _ _ _⟩,hfit,HB.out.trans (hb1.mono HB.out.size)⟩
 clear hfit hb1 HX HB HS HF
 go_wp2_with fail
 go_loopw [4,6] (fun u x wr=>∃(i:Nat) (rest:List Pl.Ev),x=.int .i64 i∧SpAt w a b mtu es u i rest wr∧rest.length≤es.length) (fun _ _ wr=>restLen wr w.heap.size)
 case atStart=>exact⟨i,es,rfl,HA.out,Nat.le_refl _⟩
 case round=>
  obtain⟨i,rest,rfl,hs,hle⟩:=hrel
  obtain⟨ms,parts,aoR,capR,⟨pre,he,hpa⟩,hp,hx,hr,ho,hd⟩:=hs.st
  have hpl:parts.flatten.length=pre.length:=by have h:=congrArg List.length hpa;rwa [List.length_map,List.length_map]at h
  rcases rest.eq_nil_or_concat with pT | _
  ·subst pT
   obtain⟨aov,capv,rfl⟩:=ho.toT.form
   rw[List.append_nil]at he
   rw[←he]at hpa
   have m14:=cc 14 hx
   have HZ:=zA (And.intro ho (And.intro hd (And.intro hpa (And.intro hp hs.be))))
   clear hx hr ho hd he hp hs hle hpa hpl
   go_wp2_with fail
   exact bodyPost_ret (v:=.tuple #[.slice aov ms.length capv,.int .i64 0]) (by simp[results,results202,go_sem]) rfl ⟨_,ms,parts,rfl,HZ.out.1.mono (Nat.le_succ _),HZ.out.2.1,HZ.out.2.2.1,HZ.out.2.2.2.1,HZ.out.2.2.2.2⟩
  ·have hne:rest≠[]:=by
    rename_i hcc;obtain⟨l,x,e⟩:=hcc;rw[e];simp
   have hpos:=hs.fit.pos HH.out.2.2.2.2.2.2.1 HH.out.2.2.1 HH.out.2.2.2.1 (fun e he'=>HH.out.2.1 e (by rw[he];exact List.mem_append_right _ he')) hne
   have hil:=hs.fit.le
   have hrl:rest.length≤768:=by have:=HH.out.1;have e:=congrArg List.length he;rw[List.length_append]at e;omega
   obtain⟨hc1,hc2⟩:=hr.cap
   obtain⟨aov,capv,rfl⟩:=ho.toT.form
   have m14:=cc 14 hx
   have hfirst:=hr.first hil
   have htl:(rest.take i).length=i:=by rw[List.length_take];omega
   have hdl:(rest.drop i).length=rest.length - i:=List.length_drop
   have hdrop:RowS kEv wr (.slice aoR rest.length capR) (rest.take i++rest.drop i):=by rw[List.take_append_drop];exact hr
   have hcut:=hdrop.drop
   rw[htl,hdl]at hcut
   have HWT:=zA (fun (W:World) (hW:Below wr.heap.size wr W)=>with_ok a b aoR rest.length capR (.slice aoR i capR) (rest.take i) W ((hfirst.below hW).1.toC) (by rw[htl];omega) (fun e he'=>HIS.out W (hs.be.trans (hW.mono hs.be.size)) e (by rw[he];exact List.mem_append_right _ (List.mem_of_mem_take he'))) (fun e he'=>by obtain⟨n,s,_,hN⟩:=(HH.out.2.1 e (by rw[he];exact List.mem_append_right _ (List.mem_of_mem_take he'))).dot;exact hN.len))
   simp only[htl]at HWT
   have HML:=zA (show ms.length≤768 by have:=HH.out.1;have h1:=hd.1;have h2:=Pl.parts_le parts (fun p hp'=>(hp p hp').1);have e:=congrArg List.length he;rw[List.length_append]at e;omega)
   have HX:=zA hx
   have HO:=zA ho
   have HD:=zA hd
   have HBE:=zA hs.be
   have HR:=zA hcut
   have HN:=zA (And.intro hpos (And.intro hil (And.intro hrl (And.intro hc1 hc2))))
   have HE:=zA (And.intro he (And.intro hpa hp))
   have HTL:=zA htl
   have HBS:=zA hs.be.size
   have HLE:=zA hle
   have HX0:=zA hx
   have x0:(0:Int)<rest.length:=by omega
   have x1:(0:Int)<i:=by omega
   have x2:(i:Int)≤capR:=by omega
   clear hs hx hr ho hd he hp hpa hpl hle hne hpos hil hrl hc1 hc2 hfirst hdrop hcut htl hdl
   go_wp2_with fail
   clear m14 x0 x1
   refine zD (fun W'=>Below w.heap.size w W'∧W'.heap[w.heap.size]?=some (.cells (Qtk 5 (a:Int) (b:Int) (.slice aoR rest.length capR)) 115 (0,0))) 99 lE ⟨HBE.out.drew,HX.out⟩ (fun qB=>?_)
   refine tkp 0 24 rfl ?_
   refine tl 1 25 rfl 115 (.tmp 2) w.heap.size rfl rfl (fun wS hSw=>hSw.2) underlying115 ?_
   refine tkp 2 26 rfl ?_
   refine tk 3 27 rfl (by intro wS hSw;obtain⟨_,y⟩:=id hSw;have q14:=cc 14 y;clear hSw;go_simp;(try with_reducible rfl)) ?_
   refine tkp 4 28 rfl ?_
   refine tk (v:=.slice aoR i capR) 5 29 rfl (by intro wS hSw;clear hSw;go_simp;(all_goals (intro h;exact absurd (h (by omega)) (by omega)))) ?_
   refine t1 6 rfl (fun K hK=>?_)
   go_simp
   refine(HWT.out _ (Below.refl _ _).drew).mono ?_
   rintro r w1 ⟨ao1,cap1,es1,rfl,ho1,hrp1,hb1⟩
   have hbw:=((Below.refl wr.heap.size wr).drew).trans hb1
   have HB1:=zA (HBE.out.trans (hbw.mono HBE.out.size))
   have HX1:=zA (zC HX.out hbw)
   have HO1:=zA (ho1.mono HBS.out)
   have HP1:=zA hrp1
   have HM1:=zA (HO.out.below hbw)
   have HD1:=zA (HD.out.below hbw)
   have HR1:=zA (HR.out.below hbw)
   clear ho1 hb1 hbw qB hrp1
   refine hK.out _ _ (fun _=>⟨HB1.out,HX1.out⟩) (fun _=>?_)
   clear hK K
   try simp only[pt,List.set]
   have qB:=And.intro HB1.out HX1.out
   refine t1 7 rfl (fun K hK=>?_)
   go_simp
   have b2:=bn w1 (.cells (Qtk 5 (a:Int) (b:Int) (.slice ao1 i cap1)) 115)
   have HB2:=zA (HB1.out.trans (b2.mono HB1.out.size))
   have HX2:=zA (zC HX1.out b2)
   have HO2:=zA (HO1.out.below b2)
   have HP2:=zA (HP1.out.below b2)
   have HM2:=zA (HM1.out.below b2)
   have HD2:=zA (HD1.out.below b2)
   have HR2:=zA (HR1.out.below b2)
   have qI:=zA (show RowC kMsg (w1.alloc (.cells (Qtk 5 (a:Int) (b:Int) (.slice ao1 i cap1)) 115)) (.slice (some ⟨w1.heap.size,0,none⟩) 1 1) [dlq a b (ao1,i,cap1)]from yK kMsg w1 [dlq a b (ao1,i,cap1)] (Qtk 5 (a:Int) (b:Int) (.slice ao1 i cap1)) 1 rfl (by simp[Rk.encs,kMsg,dlq]))
   clear b2 qB
   refine hK.out _ _ (fun _=>⟨HB2.out,HX2.out⟩) (fun _=>?_)
   clear hK K
   try simp only[pt,List.set]
   have qB:=And.intro HB2.out HX2.out
   generalize w1.alloc (.cells (Qtk 5 (a:Int) (b:Int) (.slice ao1 i cap1)) 115)=w2 at *
   refine t1 8 rfl (fun K hK=>?_)
   rw[if_pos (by rfl)]
   refine vB kMsg rfl (.tmp 24) (.tmp 31) rfl rfl HM2.out rfl qI.out (by have:=HML.out;simp;omega) (Below.refl (w.heap.size+1) w2) (by have:=(gsi.1 HX2.out).1;omega) ?_
   intro v3 w3 hown3 hb3 hg3
   obtain⟨ao3,cap3,rfl⟩:=hown3.toT.form
   have qD:∀(g:Nat),(Value.slice aov ms.length capv).ownBlock=some g→_:=fun g hg=>zK HM2.out hg
   have HM3:=zA hown3
   have HB3:=zA (HB2.out.trans (hb3.mono (Nat.le_succ _)))
   have HX3:=zA ((hb3.block _ (Nat.lt_succ_self _)).trans HX2.out)
   have HK3:=zA (show ∀g cs (t:TypeId) fr,t≠115→w2.heap[g]?=some (Obj.cells cs t fr)→w3.heap[g]?=w2.heap[g]? from fun g cs t fr ht hgc=>hg3.block g (gsi.1 hgc).1 (fun e=>by obtain⟨cs',hcs'⟩:=qD g e.symm;rw[hgc]at hcs';exact zH ht hcs'))
   clear hown3 hb3 hg3 qD qB
   refine hK.out _ _ (fun _=>⟨HB3.out,HX3.out⟩) (fun _=>?_)
   clear hK K
   try simp only[List.getElem_toArray,List.getElem_cons_succ,List.getElem_cons_zero,pt,List.set]
   have qB:=And.intro HB3.out HX3.out
   refine tkp 9 4 rfl ?_
   refine wd ?_
   clear qB
   have HDL:=zA (show(rest.drop i).length=rest.length - i from List.length_drop)
   have m14:=cc 14 HX3.out
   have f14:=zB HX3.out 14
   have x3:¬((i:Int)<0):=by omega
   have x4:(i:Int)≤rest.length:=by have:=HN.out;omega
   rcases Nat.lt_or_ge i capR with hlt | hge
   ·have HRQ:=zA (show RowS kEv w2 (.slice (aoR.map (fun a=>a.add (i*14))) (rest.length - i) (capR - i)) (rest.drop i) by have h:=HR2.out;unfold cutK at h;rw[if_neg (by omega)]at h;exact h)
    have x5:¬capR=i:=by omega
    have x6:¬capR - i=0:=by omega
    clear hlt
    have HO4:=zA (show Off (· = w.heap.size) w3 (w3.setCell ⟨w.heap.size,14,none⟩ (.slice (aoR.map (fun a=>a.add (i*14))) (rest.length - i) (capR - i)))from(Off.refl (fun x=>x=w.heap.size) w3).set (a:=⟨w.heap.size,14,none⟩) (.inl rfl) _)
    have HX4:=zA (show(w3.setCell ⟨w.heap.size,14,none⟩ (.slice (aoR.map (fun a=>a.add (i*14))) (rest.length - i) (capR - i))).heap[w.heap.size]?=some (.cells (Qtk 5 (a:Int) (b:Int) (.slice (aoR.map (fun a=>a.add (i*14))) (rest.length - i) (capR - i))) 115 (0,0))from by have h:=zF (j:=14) HX3.out (.slice (aoR.map (fun a=>a.add (i*14))) (rest.length - i) (capR - i));simp only[zP]at h;exact h)
    have HB4:=zA (zM HB3.out (Nat.le_refl _) 14 (.slice (aoR.map (fun a=>a.add (i*14))) (rest.length - i) (capR - i)))
    go_wp2_with (refine zI rfl 115 (.tmp 2) w.heap.size (Qtk 5 (a:Int) (b:Int) (.slice (aoR.map (fun a=>a.add (i*14))) (rest.length - i) (capR - i))) 115 (0,0) _ rfl rfl HX4.out underlying115 rfl lE ?_)
    clear m14 f14
    generalize w3.setCell ⟨w.heap.size,14,none⟩ (.slice (aoR.map (fun a=>a.add (i*14))) (rest.length - i) (capR - i))=w4 at *
    have hk4:∀g cs (t:TypeId) fr,t≠115→w2.heap[g]?=some (Obj.cells cs t fr)→w4.heap[g]?=w2.heap[g]?:=fun g cs t fr ht hg=>by
     exact mH
    have hr4:RowS kEv w4 (.slice (aoR.map (fun a=>a.add (i*14))) (rest.length - i) (capR - i)) (rest.drop i):=⟨HRQ.out.1.keep (fun g cs fr hg=>hk4 g cs 175 fr lF hg),HRQ.out.2⟩
    have hm4:OwnR kMsg (w.heap.size+1) w4 (.slice ao3 (ms.length+1) cap3) (ms++[dlq a b (ao1,i,cap1)]):=by
     exact mK
    have hd4:Deltas w4 a b (ms++[dlq a b (ao1,i,cap1)]) (parts++[es1]):=by
     exact nG
    have he4:∃pre',es=pre'++rest.drop i∧(parts++[es1]).flatten.map Pl.Ev.abs=pre'.map Pl.Ev.abs:=⟨pre++rest.take i,by rw[List.append_assoc,List.take_append_drop];exact HE.out.1,by rw[List.flatten_append,List.flatten_singleton,List.map_append,List.map_append,HE.out.2.1,HP2.out.1]⟩
    obtain⟨pre4,he5,hpa5⟩:=he4
    have he4:∃pre',es=pre'++rest.drop i∧(parts++[es1]).flatten.map Pl.Ev.abs=pre'.map Pl.Ev.abs:=⟨pre4,he5,hpa5⟩
    have hp4:∀p∈parts++[es1],p≠[]∧p.length≤768:=fun p hp=>by
     exact nQ
    have HZ:=zA (And.intro hr4 (And.intro hm4 (And.intro hd4 (And.intro he4 hp4))))
    have HF:=zA (fit_ok a b mtu (aoR.map (fun a=>a.add (i*14))) (capR - i) (rest.drop i) w4 (by rw[HDL.out];exact hr4) (by rw[HDL.out];have:=HN.out.2.2.1;omega) (fun e he=>HH.out.2.1 e (by rw[he5];exact List.mem_append_right _ he)) (fun e he=>HIS.out w4 HB4.out e (by rw[he5];exact List.mem_append_right _ he)) HH.out.2.2.1 HH.out.2.2.2.1 HH.out.2.2.2.2.1 (Nat.le_trans (by rw[he5];exact Pl.codes_drop _ _) HH.out.2.2.2.2.2.1) HH.out.2.2.2.2.2.2.2)
    rw[HDL.out]at HF
    clear hr4 hm4 hd4 he4 hp4 hk4 he5 hpa5
    refine HF.out.mono ?_
    rintro r w5 ⟨i5,rfl,f1,f2,f3,hb5⟩
    have HF5:=zA (show FitN a b mtu (rest.drop i) i5 from⟨by rw[HDL.out];exact f1,f2,fun h=>f3 (by rw[←HDL.out];exact h)⟩)
    have HB5:=zA hb5
    clear f1 f2 f3 hb5
    go_wp2_with fail
    have hx5:=zC HX4.out HB5.out
    refine⟨⟨i5,rest.drop i,rfl,⟨⟨_,parts++[es1],(aoR.map (fun a=>a.add (i*14))),(capR - i),HZ.out.2.2.2.1,HZ.out.2.2.2.2,by rw[HDL.out];exact hx5,by rw[HDL.out];exact HZ.out.1.below HB5.out,HZ.out.2.1.below HB5.out,HZ.out.2.2.1.below HB5.out⟩,HF5.out,HB4.out.trans (HB5.out.mono HB4.out.size)⟩,by rw[HDL.out];have:=HLE.out;omega⟩,?_⟩
    rw[wQ HX0.out,wQ hx5]
    have:=HN.out
    omega
   ·obtain rfl:i=capR:=by have:=HN.out;omega
    have HRQ:=zA (show RowS kEv w2 (.slice aoR (rest.length - i) 0) (rest.drop i) by have h:=HR2.out;unfold cutK at h;rw[if_pos rfl,Nat.sub_self]at h;exact h)
    clear hge
    have HO4:=zA (show Off (· = w.heap.size) w3 (w3.setCell ⟨w.heap.size,14,none⟩ (.slice aoR (rest.length - i) 0))from(Off.refl (fun x=>x=w.heap.size) w3).set (a:=⟨w.heap.size,14,none⟩) (.inl rfl) _)
    have HX4:=zA (show(w3.setCell ⟨w.heap.size,14,none⟩ (.slice aoR (rest.length - i) 0)).heap[w.heap.size]?=some (.cells (Qtk 5 (a:Int) (b:Int) (.slice aoR (rest.length - i) 0)) 115 (0,0))from by have h:=zF (j:=14) HX3.out (.slice aoR (rest.length - i) 0);simp only[zP]at h;exact h)
    have HB4:=zA (zM HB3.out (Nat.le_refl _) 14 (.slice aoR (rest.length - i) 0))
    go_wp2_with (refine zI rfl 115 (.tmp 2) w.heap.size (Qtk 5 (a:Int) (b:Int) (.slice aoR (rest.length - i) 0)) 115 (0,0) _ rfl rfl HX4.out underlying115 rfl lE ?_)
    clear m14 f14
    generalize w3.setCell ⟨w.heap.size,14,none⟩ (.slice aoR (rest.length - i) 0)=w4 at *
    have hk4:∀g cs (t:TypeId) fr,t≠115→w2.heap[g]?=some (Obj.cells cs t fr)→w4.heap[g]?=w2.heap[g]?:=fun g cs t fr ht hg=>by
     exact mH
    have hr4:RowS kEv w4 (.slice aoR (rest.length - i) 0) (rest.drop i):=⟨HRQ.out.1.keep (fun g cs fr hg=>hk4 g cs 175 fr lF hg),HRQ.out.2⟩
    have hm4:OwnR kMsg (w.heap.size+1) w4 (.slice ao3 (ms.length+1) cap3) (ms++[dlq a b (ao1,i,cap1)]):=by
     exact mK
    have hd4:Deltas w4 a b (ms++[dlq a b (ao1,i,cap1)]) (parts++[es1]):=by
     exact nG
    have he4:∃pre',es=pre'++rest.drop i∧(parts++[es1]).flatten.map Pl.Ev.abs=pre'.map Pl.Ev.abs:=⟨pre++rest.take i,by rw[List.append_assoc,List.take_append_drop];exact HE.out.1,by rw[List.flatten_append,List.flatten_singleton,List.map_append,List.map_append,HE.out.2.1,HP2.out.1]⟩
    obtain⟨pre4,he5,hpa5⟩:=he4
    have he4:∃pre',es=pre'++rest.drop i∧(parts++[es1]).flatten.map Pl.Ev.abs=pre'.map Pl.Ev.abs:=⟨pre4,he5,hpa5⟩
    have hp4:∀p∈parts++[es1],p≠[]∧p.length≤768:=fun p hp=>by
     exact nQ
    have HZ:=zA (And.intro hr4 (And.intro hm4 (And.intro hd4 (And.intro he4 hp4))))
    have HF:=zA (fit_ok a b mtu aoR 0 (rest.drop i) w4 (by rw[HDL.out];exact hr4) (by rw[HDL.out];have:=HN.out.2.2.1;omega) (fun e he=>HH.out.2.1 e (by rw[he5];exact List.mem_append_right _ he)) (fun e he=>HIS.out w4 HB4.out e (by rw[he5];exact List.mem_append_right _ he)) HH.out.2.2.1 HH.out.2.2.2.1 HH.out.2.2.2.2.1 (Nat.le_trans (by rw[he5];exact Pl.codes_drop _ _) HH.out.2.2.2.2.2.1) HH.out.2.2.2.2.2.2.2)
    rw[HDL.out]at HF
    clear hr4 hm4 hd4 he4 hp4 hk4 he5 hpa5
    refine HF.out.mono ?_
    rintro r w5 ⟨i5,rfl,f1,f2,f3,hb5⟩
    have HF5:=zA (show FitN a b mtu (rest.drop i) i5 from⟨by rw[HDL.out];exact f1,f2,fun h=>f3 (by rw[←HDL.out];exact h)⟩)
    have HB5:=zA hb5
    clear f1 f2 f3 hb5
    go_wp2_with fail
    have hx5:=zC HX4.out HB5.out
    refine⟨⟨i5,rest.drop i,rfl,⟨⟨_,parts++[es1],aoR,0,HZ.out.2.2.2.1,HZ.out.2.2.2.2,by rw[HDL.out];exact hx5,by rw[HDL.out];exact HZ.out.1.below HB5.out,HZ.out.2.1.below HB5.out,HZ.out.2.2.1.below HB5.out⟩,HF5.out,HB4.out.trans (HB5.out.mono HB4.out.size)⟩,by rw[HDL.out];have:=HLE.out;omega⟩,?_⟩
    rw[wQ HX0.out,wQ hx5]
    have:=HN.out
    omega
end
end Go.Proofs.YtodlmbfbfaofcaaGreat
