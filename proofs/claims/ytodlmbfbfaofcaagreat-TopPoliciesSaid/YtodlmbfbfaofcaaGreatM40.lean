/- TopPolicies, part 40. -/
import Derived.Test.YtodlmbfbfaofcaaGreatM39
open Go.Proofs.Tryz
namespace Go.Proofs.YtodlmbfbfaofcaaGreat
set_option linter.unusedVariables false
set_option linter.unusedSimpArgs false
set_option maxRecDepth 100000
set_option maxHeartbeats 2000000
section
open Go.RowKit Rw Rh
theorem kept_ok (O:Nat) (A B C q0 q1 q2 q3 q4 q5 q6:Int) (m:Mq) (w:World) (h:w.heap[O]?=some (.cells (Qk 15 A B C q0 q1 q2 q3 q4 q5 q6) 43 (0,0))) (hto:m.b=A∨m.b=B) :
  Calls prog 93 #[.agg (Qx m.k m.a m.b m.q m.n m.u0 m.u1 m.u2 m.u3 m.u4 m.u5 m.u6 m.u7 (.slice m.mo.1 m.mo.2.1 m.mo.2.2) (.slice m.ev.1 m.ev.2.1 m.ev.2.2) (.slice m.me.1 m.me.2.1 m.me.2.2)),Qp O] w fun r w'=>r=.returned (.bool false)∧Below w.heap.size w w':=by
 have b1:=bn w (.cells (Qx m.k m.a m.b m.q m.n m.u0 m.u1 m.u2 m.u3 m.u4 m.u5 m.u6 m.u7 (.slice m.mo.1 m.mo.2.1 m.mo.2.2) (.slice m.ev.1 m.ev.2.1 m.ev.2.2) (.slice m.me.1 m.me.2.1 m.me.2.2)) 115)
 have h1:=zC h b1
 have HB:=zA b1
 have x1:=cc 1 h1
 have x2:=cc 2 h1
 have y2:=zE (j:=2) (heap_alloc_new w (.cells (Qx m.k m.a m.b m.q m.n m.u0 m.u1 m.u2 m.u3 m.u4 m.u5 m.u6 m.u7 (.slice m.mo.1 m.mo.2.1 m.mo.2.2) (.slice m.ev.1 m.ev.2.1 m.ev.2.2) (.slice m.me.1 m.me.2.1 m.me.2.2)) 115)) rfl
 clear h h1 b1
 by_cases hA:m.b=A
 ·subst hA
  clear hto
  go_enter func93,ntmps93
  go_wp2_with fail
  go_ret
  exact⟨rfl,HB.out⟩
 ·have e0:(m.b == A)=false:=by simpa using hA
  have hB:=hto.resolve_left hA
  have e1:(m.b != A)=true:=by simpa using hA
  clear hto
  subst hB
  go_enter func93,ntmps93
  go_wp2_with fail
  go_ret
  exact⟨rfl,HB.out⟩
theorem keep_idx (O:Nat) (A B C q0 q1 q2 q3 q4 q5 q6:Int) (ao:Option Addr) (cap:Nat) (ms:List Mq) (w:World) (qD:RowT kMsg w (.slice ao ms.length cap) ms) (h:w.heap[O]?=some (.cells (Qk 15 A B C q0 q1 q2 q3 q4 q5 q6) 43 (0,0))) (hto:∀m∈ms,m.b=A∨m.b=B) (hl:ms.length≤1000000) :
  Calls prog 161 #[.slice ao ms.length cap,.func (.func 93) #[] #[Qp O]] w fun r w'=>r=.returned (.int .i64 (-1))∧Below w.heap.size w w':=by
 have HR:=zA qD
 have HO:=zA h
 have HT:=zA hto
 have HN:=zA hl
 clear qD h hto hl
 go_enter func161,ntmps161
 go_wp2_with fail
 go_loopw [8] (fun i wr=>∃(k:Nat),k≤ms.length∧i=.int .i64 k∧Below w.heap.size w wr) (fun i _=>ms.length - (intOf i).toNat)
 case atStart=>exact⟨0,Nat.zero_le _,rfl,Below.refl _ _⟩
 case round=>
  obtain⟨k,hk,rfl,hb⟩:=hrel
  by_cases hlt:k<ms.length
  ·obtain⟨g,off,cap',e1,hg,hc⟩:=(HR.out.below hb).cell hlt
   cases e1
   have a1:(k:Int)+1≤9223372036854775807:=by have:=HN.out;omega
   have hji:(k:Int)<ms.length:=by omega
   have h0:¬(k:Int)<0:=by omega
   have hrg:wr.rangeAt g (off+k*16) (kMsg.enc ms[k]):=fun j v hv=>hc j v hv
   have HK:=zA (kept_ok O A B C q0 q1 q2 q3 q4 q5 q6 ms[k] wr (zC HO.out hb) (HT.out _ (List.getElem_mem hlt)))
   have HB:=zA hb
   have HL:=zA hlt
   clear hb hk hc
   generalize ms[k]=m at *
   clear hlt
   have c0:wr.cell? ⟨g,off+k*16,none⟩=some (.int .i64 m.k):=hrg 0 _ rfl
   have c1:wr.cell? ⟨g,off+k*16+1,none⟩=some (.int .i64 m.a):=hrg 1 _ rfl
   have c2:wr.cell? ⟨g,off+k*16+2,none⟩=some (.int .i64 m.b):=hrg 2 _ rfl
   have c3:wr.cell? ⟨g,off+k*16+3,none⟩=some (.int .i64 m.q):=hrg 3 _ rfl
   have c4:wr.cell? ⟨g,off+k*16+4,none⟩=some (.int .i64 m.n):=hrg 4 _ rfl
   have c5:wr.cell? ⟨g,off+k*16+5,none⟩=some (.int .i64 m.u0):=hrg 5 _ rfl
   have c6:wr.cell? ⟨g,off+k*16+6,none⟩=some (.int .i64 m.u1):=hrg 6 _ rfl
   have c7:wr.cell? ⟨g,off+k*16+7,none⟩=some (.int .i64 m.u2):=hrg 7 _ rfl
   have c8:wr.cell? ⟨g,off+k*16+8,none⟩=some (.int .i64 m.u3):=hrg 8 _ rfl
   have c9:wr.cell? ⟨g,off+k*16+9,none⟩=some (.int .i64 m.u4):=hrg 9 _ rfl
   have c10:wr.cell? ⟨g,off+k*16+10,none⟩=some (.int .i64 m.u5):=hrg 10 _ rfl
   have c11:wr.cell? ⟨g,off+k*16+11,none⟩=some (.int .i64 m.u6):=hrg 11 _ rfl
   have c12:wr.cell? ⟨g,off+k*16+12,none⟩=some (.int .i64 m.u7):=hrg 12 _ rfl
   have c13:wr.cell? ⟨g,off+k*16+13,none⟩=some (.slice m.mo.1 m.mo.2.1 m.mo.2.2):=hrg 13 _ rfl
   have c14:wr.cell? ⟨g,off+k*16+14,none⟩=some (.slice m.ev.1 m.ev.2.1 m.ev.2.2):=hrg 14 _ rfl
   have c15:wr.cell? ⟨g,off+k*16+15,none⟩=some (.slice m.me.1 m.me.2.1 m.me.2.2):=hrg 15 _ rfl
   go_wp2_with fail
   refine HK.out.mono ?_
   rintro r w2 ⟨rfl,hb⟩
   have HB2:=zA (HB.out.trans (hb.mono HB.out.size))
   clear hb hrg c0 c1 c2 c3 c4 c5 c6 c7 c8 c9 c10 c11 c12 c13 c14 c15
   go_wp2_with fail
   exact⟨⟨k+1,HL.out,rfl,HB2.out⟩,by simp[intOf];have:=HL.out;omega⟩
  ·obtain rfl:k=ms.length:=by omega
   have HB:=zA hb
   clear hb hlt hk
   go_wp2_with fail
   go_ret
   exact⟨rfl,HB.out⟩
theorem keep_all (O:Nat) (A B C q0 q1 q2 q3 q4 q5 q6:Int) (ao:Option Addr) (cap:Nat) (ms:List Mq) (w:World) (qD:RowT kMsg w (.slice ao ms.length cap) ms) (h:w.heap[O]?=some (.cells (Qk 15 A B C q0 q1 q2 q3 q4 q5 q6) 43 (0,0))) (hto:∀m∈ms,m.b=A∨m.b=B) (hl:ms.length≤1000000) :
  Calls prog 92 #[.slice ao ms.length cap,.func (.func 93) #[] #[Qp O]] w fun r w'=>r=.returned (.slice ao ms.length cap)∧Below w.heap.size w w':=by
 have HI:=zA (keep_idx O A B C q0 q1 q2 q3 q4 q5 q6 ao cap ms w qD h hto hl)
 clear qD h hto hl
 go_enter func92,ntmps92
 go_wp2_with fail
 refine HI.out.mono ?_
 rintro r w1 ⟨rfl,hb⟩
 have HB:=zA hb
 clear hb HI
 go_wp2_with fail
 go_ret
 exact⟨rfl,HB.out⟩
theorem conf27_ok (n:Int) (w:World):Calls prog 18 (Qo n) w fun r w'=>r=.returned (.agg (Qc n 2000 0 512 2 1 0 0 2 0 3))∧Below w.heap.size w w':=by
 obtain⟨hx,hy,b1⟩:=zU w (.cells (Qc n 2000 0 512 2 1 0 0 2 0 3) 28) (.cells (Qc n 2000 0 512 2 1 0 0 2 0 3) 28)
 have HX:=zA hx
 have HB:=zA b1
 clear hx hy b1
 go_enter func18,ntmps18
 go_wp2_with fail
 have y0:=cc 0 HX.out
 have y1:=cc 1 HX.out
 have y2:=cc 2 HX.out
 have y3:=cc 3 HX.out
 have y4:=cc 4 HX.out
 have y5:=cc 5 HX.out
 have y6:=cc 6 HX.out
 have y7:=cc 7 HX.out
 have y8:=cc 8 HX.out
 have y9:=cc 9 HX.out
 have y10:=cc 10 HX.out
 refine bodyPost_ret (v:=.agg (Qc n 2000 0 512 2 1 0 0 2 0 3)) (by simp[results,results18,go_sem,y0,y1,y2,y3,y4,y5,y6,y7,y8,y9,y10]) rfl ⟨rfl,HB.out⟩
theorem wmeet_same (W P:Nat) (wc:Wc) (d r:Nat→Value) (a:Nat) (C q0 q1 q2 q3 q4 q5 q6:Int) (pa:Nat) (w:World) (h:WdAt w W P wc d r) (ha:a<wc.n) (hr:r a=.pointer (some ⟨pa,0,none⟩)) :
  Calls prog 34 #[Qp W,.agg (Qk 15 (a:Int) (a:Int) C q0 q1 q2 q3 q4 q5 q6)] w fun x w'=>x=.panicked [{v:=.iface 140 (.agg (Qo 2)),recovered:=false}]∧Below w.heap.size w w':=by
 have b0:=bn w (.cells (Qk 15 (a:Int) (a:Int) C q0 q1 q2 q3 q4 q5 q6) 43)
 have hx:=heap_alloc_new w (.cells (Qk 15 (a:Int) (a:Int) C q0 q1 q2 q3 q4 q5 q6) 43)
 have x1:=cc 1 hx
 have x2:=cc 2 hx
 have h2:=h.below b0
 have HRU:=zA (vF W P wc d r a _ _ h2 ha hr)
 have hi:=vZ W P wc d r (a:Int) _ h2
 have hin:Pl.inside (a:Int) 0 ((wc.n:Int) - 1)=true:=by unfold Pl.inside;simp;omega
 rw[hin]at hi
 have HI:=zA hi
 have HB:=zA b0
 have er:=h2.runs ha
 rw[hr]at er
 clear b0 hx h h2 hi hin hr
 go_enter func34,ntmps34
 go_wp2_with fail
 refine HRU.out.mono ?_
 rintro x w' ⟨rfl,rfl⟩
 go_wp2_with fail
 refine HI.out.mono ?_
 rintro x w' ⟨rfl,rfl⟩
 go_wp2_with fail
 refine(tP 2 _).mono ?_
 rintro x w' ⟨rfl,rfl⟩
 go_wp2_with fail
 exact zT rfl ⟨rfl,HB.out⟩
theorem wG {g:Nat} {t:TypeId} {fr:Nat×Nat}:∀(vs:List Value) (o:Nat) (w:World) (cs:Array Value),w.heap[g]?=some (.cells cs t fr)→
  ∃cs',(w.setCells g o vs).heap[g]?=some (.cells cs' t fr)∧cs'.size=cs.size∧∀j,(w.setCells g o vs).cell? ⟨g,j,none⟩=cs'[j]?
 | [],o,w,cs,h=>⟨cs,h,rfl,fun j=>by simp[World.setCells,World.cell?,h]⟩
 | v::vs,o,w,cs,h=>by
  obtain⟨cs',h1,h2,h3⟩:=wG vs (o+1) _ _ (zF (j:=o) h v)
  exact⟨cs',h1,by rw[h2];simp,h3⟩
theorem yQ {g:Nat}:∀(vs:List Value) (o:Nat) (w:World),Off (fun x=>x=g) w (w.setCells g o vs)
 | [],o,w=>Off.refl _ w
 | v::vs,o,w=>((Off.refl (fun x=>x=g) w).set (F:=fun x=>x=g) (a:=⟨g,o,none⟩) (.inl rfl) v).trans (yQ vs (o+1) _)
def Way {α:Type} (K:Rk α) (base:Nat) (w:World) (v:Value) (xs:List α):Prop:=
 RowT K w v xs∧∃ao n cap,v=.slice ao n cap∧n≤cap∧cap≤maxLen∧(0<cap→∃g off cs,ao=some ⟨g,off,none⟩∧base≤g∧w.heap[g]?=some (.cells cs K.T (0,0))∧off+cap*K.k≤cs.size)
theorem OwnR.way {α:Type} {K:Rk α} {base:Nat} {w:World} {v:Value} {xs:List α} (h:OwnR K base w v xs):Way K base w v xs:=by
 refine⟨h.toT,?_⟩
 rcases h.2 with⟨rfl,_⟩ | ⟨g,cap,cur,rfl,hg,hb,h1,h2,h3,_⟩
 ·exact⟨_,_,_,rfl,Nat.le_refl _,by decide,fun h=>absurd h lF⟩
 ·exact⟨_,_,_,rfl,h1,h2,fun _=>⟨g,0,cur,rfl,hg,hb,by rw[Nat.zero_add,h3];exact Nat.le_refl _⟩⟩
theorem Way.keep {α:Type} {K:Rk α} {base:Nat} {w w':World} {v:Value} {xs:List α} (h:Way K base w v xs) (k:∀(g:Nat) (cs:Array Value) (fr:Nat×Nat),w.heap[g]?=some (Obj.cells cs K.T fr)→w'.heap[g]?=w.heap[g]?):Way K base w' v xs:=by
 obtain⟨h1,ao,n,cap,e,h2,h3,h4⟩:=h
 refine⟨h1.keep k,ao,n,cap,e,h2,h3,fun hc=>?_⟩
 obtain⟨g,off,cs,e2,h5,h6,h7⟩:=h4 hc
 exact⟨g,off,cs,e2,h5,(k g cs _ h6).trans h6,h7⟩
theorem Way.below {α:Type} {K:Rk α} {base:Nat} {w w':World} {v:Value} {xs:List α} (h:Way K base w v xs) (hb:Below w.heap.size w w'):Way K base w' v xs:=h.keep (fun g cs fr hg=>hb.block g (gsi.1 hg).1)
theorem Way.tail {α:Type} {K:Rk α} {base:Nat} {w:World} {ao:Option Addr} {n cap:Nat} {x:α} {xs:List α} (h:Way K base w (.slice ao n cap) (x::xs)):Way K base w (.slice (cutK ao cap 1 K.k) xs.length (cap - 1)) xs:=by
 obtain⟨h1,ao',n',cap',e,h2,h3,h4⟩:=h
 cases e
 have hd:=RowS.drop (K:=K) (xs:=[x]) (ys:=xs) ⟨h1,ao,n,cap,rfl,h2,h3⟩
 obtain⟨⟨_,_,en,_,_⟩,_⟩:=id hd
 refine⟨hd.1,_,_,_,rfl,?_,by omega,fun hc=>?_⟩
 ·obtain⟨_,_,e1⟩:=h1.form
  cases e1
  simp at h2 ⊢
  omega
 ·obtain⟨g,off,cs,e2,h5,h6,h7⟩:=h4 lD
  refine⟨g,off+1*K.k,cs,?_,h5,h6,?_⟩
  ·unfold cutK
   rw[if_neg (by omega),e2,Option.map_some,Go.WideShapes.add_plain]
  ·have:1*K.k+(cap - 1)*K.k=cap*K.k:=by rw[←Nat.add_mul];congr 1;omega
   omega
theorem Way.app {α:Type} {K:Rk α} {base:Nat} {w:World} {v:Value} {xs:List α} (h:Way K base w v xs) {ao:Option Addr} {cap:Nat} {ys:List α} (hy:RowT K w (.slice ao ys.length cap) ys) (hl:xs.length+ys.length≤1000000) (hb:base≤w.heap.size) (ty:TypeId) :
  ∃v' w',(Builtin.append_ #[K.S,K.S] ty #[v,.slice ao ys.length cap]).run prog w=.ok v' w'∧Way K base w' v' (xs++ys)∧Off (fun g=>base≤g∧∃cs,w.heap[g]?=some (.cells cs K.T (0,0))) w w':=by
 obtain⟨h1,bo,n,c,rfl,h2,h3,h4⟩:=h
 obtain⟨_,_,e1⟩:=h1.form
 cases e1
 obtain⟨i5,hi5,z0,z1,z2⟩:=info_parts K.hi
 have hKb:=K.hb
 have src:Src prog i5.size K.S (.slice ao ys.length cap) ys.length (K.encs ys) w:=by
  rw[z1]
  cases ao with
  | none=>
   obtain⟨h5,rfl⟩:=hy.none rfl
   have:ys=[]:=List.eq_nil_of_length_eq_zero h5
   subst this
   exact Src.ofNil w K.hu 0
  | some ad=>exact Src.ofSlice w K.hu ad ys.length cap (K.encs ys) (K.encs_length ys) (hy.news ad rfl) (K.encs_one ys)
 by_cases hfit:xs.length+ys.length≤c
 ·rcases Nat.eq_zero_or_pos c with rfl | hc
  ·have e2:xs=[]:=List.eq_nil_of_length_eq_zero lD
   have e3:ys=[]:=List.eq_nil_of_length_eq_zero lD
   subst e2 e3
   exact⟨_,_,run_append_nothing (P:=prog) w K.S K.S ty K.T i5 K.hu hi5 bo 0 0 (Nat.le_refl _) _ src,⟨h1,bo,0,0,rfl,h2,h3,h4⟩,Off.refl _ w⟩
  ·obtain⟨g,off,cs,rfl,h5,h6,h7⟩:=h4 hc
   have hm:(xs.length+ys.length)*K.k≤c*K.k:=Nat.mul_le_mul_right _ hfit
   rw[Nat.add_mul]at hm
   have hyl:=K.encs_length ys
   have hsome:∀j,j<(K.encs ys).length→(w.cell? ⟨g,off+xs.length*K.k+j,none⟩).isSome=true:=fun j hj=>by
    have hlt:off+xs.length*K.k+j<cs.size:=by omega
    rw[zE h6 (Array.getElem?_eq_getElem hlt)];rfl
   have qH:=run_append_room_src (P:=prog) w K.S K.S ty K.T i5 K.hu hi5 g off xs.length c _ ys.length _ src hfit (by rw[z1];exact hsome) (fun j hj=>zB h6 _)
   rw[z1]at qH
   obtain⟨cs',h8,h9,h10⟩:=wG (K.encs ys) (off+xs.length*K.k) w cs h6
   refine⟨_,_,qH,⟨⟨_,c,by rw[List.length_append],(fun e=>by cases e),fun i hi=>⟨g,off,cs',(0,0),rfl,h8,fun j hj=>?_⟩⟩,_,_,c,rfl,hfit,h3,fun _=>⟨g,off,cs',rfl,h5,h8,by omega⟩⟩,(yQ _ _ w).mono (fun x _ e=>by cases e;exact⟨h5,cs,h6⟩)⟩
   rw[←h10]
   by_cases hix:i<xs.length
   ·have hii:i*K.k+K.k≤xs.length*K.k:=by have:=Nat.mul_le_mul_right K.k (show i+1≤xs.length by omega);rw[Nat.add_mul,Nat.one_mul]at this;exact this
    rw[World.cell?_setCells_out g _ _ _ _ (fun _ _=>Or.inl (by show off+i*K.k+j<_;omega))]
    obtain⟨g',off',cap',e',_,hcl⟩:=h1.cell hix
    cases e'
    rw[List.getElem_append_left hix]
    have hjl:j<(K.enc xs[i]).length:=by rw[K.hlen];exact hj
    rw[List.getElem?_eq_getElem hjl]
    exact hcl j _ (List.getElem?_eq_getElem hjl)
   ·have hi':i<xs.length+ys.length:=by simpa using hi
    have hlt:(i - xs.length)*K.k+j<(K.encs ys).length:=by
     have:=Nat.mul_le_mul_right K.k (show i - xs.length+1≤ys.length by omega)
     rw[Nat.add_mul,Nat.one_mul]at this
     omega
    have hin:=World.cell?_setCells_in g (K.encs ys) (off+xs.length*K.k) w hsome _ hlt
    have e5:xs.length*K.k+(i - xs.length)*K.k=i*K.k:=by rw[←Nat.add_mul];congr 1;omega
    rw[show off+xs.length*K.k+((i - xs.length)*K.k+j)=off+i*K.k+j by omega]at hin
    rw[hin,←List.getElem?_eq_getElem hlt,K.encs_get ys _ _ (by omega) hj,List.getElem_append_right (by omega)]
 ·have hold:(Builtin.firstCells i5.size xs.length (.slice bo xs.length c)).run prog w.drew=.ok (K.encs xs).toArray w.drew:=by
   cases bo with
   | none=>
    obtain⟨h5,_⟩:=h1.none rfl
    have:xs=[]:=List.eq_nil_of_length_eq_zero h5
    subst this
    exact run_firstCells_none w.drew i5.size 0 0 c
   | some ad=>exact run_firstCells_some w.drew i5.size xs.length ad xs.length c (K.encs xs) (by rw[z1];exact K.encs_length xs) (by simpa using h1.news ad rfl)
  have hbig:(xs.length+ys.length)*i5.bytes≤140737488355328:=by
   rw[z2]
   have:=Nat.mul_le_mul hl hKb
   omega
  have qH:=run_append_grow_src (P:=prog) w K.S K.S ty K.T i5 K.z K.hu hi5 z0 bo xs.length c (K.encs xs) hold _ ys.length (K.encs ys) src lD lD (growslice_fits lD hbig)
  have hge:=grownCap_ge w (xs.length+ys.length) c K.T
  have hcm:=grownCap_le_maxLen w (xs.length+ys.length) c K.T (by unfold maxLen;omega)
  have hL:(K.encs xs++K.encs ys).length=(xs.length+ys.length)*K.k:=by rw[List.length_append,K.encs_length,K.encs_length,Nat.add_mul]
  refine⟨_,_,qH,⟨⟨_,_,by rw[List.length_append],(fun e=>by cases e),fun i hi=>⟨w.heap.size,0,_,(0,0),rfl,heap_alloc_new w.drew _,fun j hj=>?_⟩⟩,_,_,_,rfl,hge,hcm,fun _=>⟨w.heap.size,0,_,rfl,hb,heap_alloc_new w.drew _,?_⟩⟩,Off.of_below ((Below.refl w.heap.size w).drew.alloc (Nat.le_refl _) _)⟩
  ·have hi':i<xs.length+ys.length:=by simpa using hi
   have hlt:i*K.k+j<(xs.length+ys.length)*K.k:=by
    have:=Nat.mul_le_mul_right K.k (show i+1≤xs.length+ys.length by omega)
    rw[Nat.add_mul,Nat.one_mul]at this
    omega
   rw[Nat.zero_add,Array.getElem?_append_left (by simp only[List.size_toArray];rw[hL];exact hlt),List.getElem?_toArray,←K.encs_append,K.encs_get _ _ _ hi hj]
  ·rw[Array.size_append,List.size_toArray,hL,size_zeroCells,K.hz,←Nat.add_mul,Nat.zero_add]
   exact Nat.mul_le_mul_right _ lD
namespace Pl
theorem at_inj {l:List Ev} (h:(l.map Ev.at).Nodup) (x:Ev) (hx:x∈l) (y:Ev) (hy:y∈l) (e:x.at=y.at):x=y:=by
 induction l with
 | nil=>cases hx
 | cons a l ih=>
  rw[List.map_cons,List.nodup_cons]at h
  rcases List.mem_cons.1 hx with h1 | h1<;>rcases List.mem_cons.1 hy with h2 | h2
  ·rw[h1,h2]
  ·exact absurd (List.mem_map.2 ⟨y,h2,by rw[←e,h1]⟩) h.1
  ·exact absurd (List.mem_map.2 ⟨x,h1,by rw[e,h2]⟩) h.1
  ·exact ih h.2 h1 h2
theorem nodup_at {l:List Ev} (h:(l.map Ev.at).Nodup):l.Nodup:=(List.pairwise_map.1 h).imp (fun hab e=>hab (by rw[e]))
structure Al where
 ev:List Ev
 ds:List (Nat×Nat)
structure Lot (all:Al):Prop where
 nd:(all.ev.map Ev.at).Nodup
 len:all.ev.length≤80
 cod:(codes all.ev).length≤3000
 ok:∀e∈all.ev,e.Ok
 dn:all.ds.Nodup
 dl:all.ds.length≤80
 dat:∀e∈all.ev,e.at∈all.ds
 drm:∀e∈all.ev,∀d∈e.rm,d∈all.ds∧∀f∈all.ev,f.at≠d
def Kn (all:Al) (q:Nat×Nat→Prop) (es:List Ev):Prop:=(∀e∈all.ev,q e.at↔e∈es)∧∀d,q d→d∈all.ds
def Subs (all:Al) (es:List Ev):Prop:=(es.map Ev.at).Nodup∧∀e∈es,e∈all.ev
theorem Subs.sub {all:Al} {es:List Ev} (h:Subs all es) (hl:Lot all):es.Perm (all.ev.filter (fun e=>es.any (fun x=>x.at == e.at))):=by
 refine(List.perm_ext_iff_of_nodup (nodup_at h.1) ((nodup_at hl.nd).filter _)).2 fun x=>⟨fun hx=>List.mem_filter.2 ⟨h.2 x hx,List.any_eq_true.2 ⟨x,hx,by simp⟩⟩,fun hx=>?_⟩
 obtain⟨h1,h2⟩:=List.mem_filter.1 hx
 obtain⟨y,hy,e⟩:=List.any_eq_true.1 h2
 rw[←at_inj hl.nd y (h.2 y hy) x h1 (by simpa using e)]
 exact hy
theorem Subs.len {all:Al} {es:List Ev} (h:Subs all es) (hl:Lot all):es.length≤80:=by
 rw[(h.sub hl).length_eq]
 exact Nat.le_trans (List.length_filter_le _ _) hl.len
theorem Subs.cod {all:Al} {es:List Ev} (h:Subs all es) (hl:Lot all):(codes es).length≤3000:=by
 rw[vT (h.sub hl)]
 exact Nat.le_trans (wU _ _) hl.cod
theorem Subs.ok {all:Al} {es:List Ev} (h:Subs all es) (hl:Lot all):∀e∈es,e.Ok:=fun e he=>hl.ok e (h.2 e he)
theorem Subs.left {all:Al} {xs ys:List Ev} (h:Subs all (xs++ys)):Subs all xs:=⟨by have:=h.1;rw[List.map_append]at this;exact(List.nodup_append.1 this).1,fun e he=>h.2 e (List.mem_append_left _ he)⟩
theorem Subs.right {all:Al} {xs ys:List Ev} (h:Subs all (xs++ys)):Subs all ys:=⟨by have:=h.1;rw[List.map_append]at this;exact(List.nodup_append.1 this).2.1,fun e he=>h.2 e (List.mem_append_right _ he)⟩
theorem Subs.perm {all:Al} {xs ys:List Ev} (h:Subs all xs) (hp:ys.Perm xs):Subs all ys:=⟨(hp.map _).nodup_iff.2 h.1,fun e he=>h.2 e (hp.mem_iff.1 he)⟩
theorem Subs.filter {all:Al} {xs:List Ev} (h:Subs all xs) (q:Ev→Bool):Subs all (xs.filter q):=⟨h.1.sublist (List.filter_sublist.map _),fun e he=>h.2 e (List.mem_filter.1 he).1⟩
theorem Subs.more {all:Al} {xs ys zs:List Ev} {O:Nat→Nat→Bool} (hl:Lot all) (hx:Subs all xs) (hy:Subs all ys) (hO:∀e∈all.ev,O e.at.1 e.at.2=true↔e∈xs) (hz:zs.Perm (ys.filter (fun e=> !O e.at.1 e.at.2))) :
  Subs all (xs++zs)∧∀e,e∈xs++zs↔e∈xs∨e∈ys:=by
 have hzp:=(hy.filter (fun e=> !O e.at.1 e.at.2)).perm hz
 have pP:∀x∈xs,∀y∈zs,x.at≠y.at:=fun x hx' y hy' e=>by
  have h1:=(List.mem_filter.1 (hz.mem_iff.1 hy')).2
  have h2:=(hO y (hzp.2 y hy')).2 (at_inj hl.nd x (hx.2 x hx') y (hzp.2 y hy') e ▸ hx')
  rw[h2]at h1
  cases h1
 refine⟨⟨?_,fun e he=>(List.mem_append.1 he).elim (hx.2 e) (hzp.2 e)⟩,fun e=>⟨fun he=>(List.mem_append.1 he).imp id (fun h=>(List.mem_filter.1 (hz.mem_iff.1 h)).1),fun he=>?_⟩⟩
 ·rw[List.map_append]
  refine List.nodup_append.2 ⟨hx.1,hzp.1,fun a ha b hb e=>?_⟩
  obtain⟨x,hx',rfl⟩:=List.mem_map.1 ha
  obtain⟨y,hy',rfl⟩:=List.mem_map.1 hb
  exact pP x hx' y hy' e
 ·rcases he with he | he
  ·exact List.mem_append_left _ he
  ·cases hc:O e.at.1 e.at.2 with
   | true=>
    exact List.mem_append_left _ ((hO e (hy.2 e he)).1 hc)
   | false=>exact List.mem_append_right _ (hz.mem_iff.2 (List.mem_filter.2 ⟨he,by rw[hc];rfl⟩))
def fl (parts:List (List Ev)):List Ev:=parts.flatten.map Ev.abs
theorem fl_cons (p:List Ev) (rest:List (List Ev)):fl (p::rest)=p.map Ev.abs++fl rest:=by unfold fl;rw[List.flatten_cons,List.map_append]
theorem abs_abs (es:List Ev):(es.map Ev.abs).map Ev.abs=es.map Ev.abs:=by rw[List.map_map];rfl
end Pl
theorem Hands.fl {parts:List (List Pl.Ev)} {es:List Pl.Ev} {O:Nat→Nat→Bool} (h:Hands parts (es.filter (fun e=> !O e.at.1 e.at.2))):(Pl.fl parts).Perm ((es.map Pl.Ev.abs).filter (fun e=> !O e.at.1 e.at.2)):=by
 have h1:(Pl.fl parts).Perm ((es.filter (fun e=> !O e.at.1 e.at.2)).map Pl.Ev.abs):=h
 rw[List.filter_map]
 exact h1
theorem rA:∀(new es:List Pl.Ev),(∀e∈new,∀x∈es,x.at≠e.at∧x.at∉e.rm)→new.Pairwise (fun a b=>a.at≠b.at∧a.at∉b.rm)→gotE es new=es++new
 | [],es,_,_=>(List.append_nil es).symm
 | e::l,es,h,hp=>by
  have h1:outE (e.at::e.rm) es=es:=List.filter_eq_self.2 fun x hx=>by
   have h2:=h e List.mem_cons_self x hx
   simpa using h2
  have h2:gotE es (e::l)=gotE (outE (e.at::e.rm) es++[e]) l:=rfl
  rw[List.pairwise_cons]at hp
  rw[h2,h1,rA l (es++[e]) (fun f hf x hx=>by
   rcases List.mem_append.1 hx with h3 | h3
   ·exact h f (List.mem_cons_of_mem _ hf) x h3
   ·cases List.mem_singleton.1 h3
    exact hp.1 f hf) hp.2,List.append_assoc]
  rfl
theorem Pl.Kn.got {all:Pl.Al} (hl:Pl.Lot all) {sd:List (Nat×Nat)} {er p:List Pl.Ev} (hk:Pl.Kn all (· ∈sd) (er.map Pl.Ev.abs)) (hs:Pl.Subs all (er.map Pl.Ev.abs++p.map Pl.Ev.abs)) :
  Fresh sd p∧gotE er p=er++p∧Pl.Kn all (· ∈gotS sd p) (er.map Pl.Ev.abs++p.map Pl.Ev.abs):=by
 have hin:∀e∈p,e.abs∈all.ev:=fun e he=>hs.2 _ (List.mem_append_right _ (List.mem_map.2 ⟨e,he,rfl⟩))
 have hine:∀e∈er,e.abs∈all.ev:=fun e he=>hs.2 _ (List.mem_append_left _ (List.mem_map.2 ⟨e,he,rfl⟩))
 have hnd:=hs.1
 rw[List.map_append,List.map_map,List.map_map]at hnd
 obtain⟨_,n2,n3⟩:=List.nodup_append.1 hnd
 have pP:∀e∈p,∀x∈er,x.at≠e.at:=fun e he x hx=>n3 _ (List.mem_map.2 ⟨x,hx,rfl⟩) _ (List.mem_map.2 ⟨e,he,rfl⟩)
 have hpw:p.Pairwise (fun a b=>a.at≠b.at):=List.pairwise_map.1 n2
 have hrm:∀e∈p,∀f∈all.ev,f.at∉e.rm:=fun e he f hf hm=>(hl.drm _ (hin e he) _ hm).2 f hf rfl
 refine⟨⟨fun e he hm=>?_,(List.Pairwise.and_mem.1 hpw).imp (fun {a b} hab=>⟨Ne.symm hab.2.2,hrm a hab.1 b.abs (hin b hab.2.1)⟩)⟩,rA p er (fun e he x hx=>⟨pP e he x hx,hrm e he x.abs (hine x hx)⟩) ((List.Pairwise.and_mem.1 hpw).imp (fun {a b} hab=>⟨hab.2.2,hrm b hab.2.1 a.abs (hin a hab.1)⟩)),fun e he=>?_,fun d hd=>?_⟩
 ·obtain⟨x,hx,e2⟩:=List.mem_map.1 ((hk.1 _ (hin e he)).1 hm)
  exact pP e he x hx (show x.abs.at=e.abs.at from congrArg Pl.Ev.at e2)
 ·show e.at∈gotS sd p↔_
  rw[tZ,List.mem_append,←hk.1 e he]
  constructor
  ·rintro(h | ⟨f,hf,h | h⟩)
   ·exact .inl h
   ·exact .inr (List.mem_map.2 ⟨f,hf,Pl.at_inj hl.nd _ (hin f hf) e he h.symm⟩)
   ·exact absurd h (hrm f hf e he)
  ·rintro(h | h)
   ·exact .inl h
   ·obtain⟨f,hf,rfl⟩:=List.mem_map.1 h
    exact .inr ⟨f,hf,.inl rfl⟩
 ·rcases tZ.1 hd with h | ⟨f,hf,h | h⟩
  ·exact hk.2 d h
  ·rw[h];exact hl.dat f.abs (hin f hf)
  ·exact(hl.drm f.abs (hin f hf) d h).1
namespace Pl
theorem parts_len {parts:List (List Ev)} (h:∀p∈parts,p≠[]):parts.length≤(fl parts).length:=by
 unfold fl
 rw[List.length_map]
 induction parts with
 | nil=>simp
 | cons a l ih=>
  have h1:=ih (fun p hp=>h p (List.mem_cons_of_mem _ hp))
  have h2:=List.length_pos_iff.2 (h a List.mem_cons_self)
  rw[List.flatten_cons,List.length_append,List.length_cons]
  omega
theorem body5_fit {a b:Nat} {es:List Ev} (ha:a<8) (hb:b<8) (hl:es.length≤80) (hc:(codes es).length≤3000):(body5 a b es).length≤4096:=by
 have h1:=vints_len [5,a,b,0] (fun n hn=>by simp at hn;omega)
 have h2:=vint_len6 (n:=es.length) lD
 unfold body5
 rw[List.length_append,List.length_append]
 simp at h1
 omega
theorem more_len {O:Nat→Nat→Bool} {U:Nat→Nat} {M:List (Nat×Nat)} {all:Al} (hl:Lot all) (hc:Closed O U M) (hO:∀d:Nat×Nat,O d.1 d.2=true→d∈all.ds):M.length≤80:=by
 have hM:M.Nodup:=hc.ord.imp (fun hab e=>by subst e;unfold Before at hab;omega)
 have hp:M.Perm (all.ds.filter (fun d=>decide (d∈M))):=
  (List.perm_ext_iff_of_nodup hM (hl.dn.filter _)).2 fun x=>⟨fun hx=>List.mem_filter.2 ⟨hO x (hc.may x hx).2.2.2,by simpa using hx⟩,fun hx=>by simpa using(List.mem_filter.1 hx).2⟩
 have h1:=List.length_filter_le (fun d=>decide (d∈M)) all.ds
 rw[hp.length_eq]
 exact Nat.le_trans h1 hl.dl
theorem body4_fit {O:Nat→Nat→Bool} {U:Nat→Nat} {M:List (Nat×Nat)} {a b q:Nat} (ha:a<8) (hb:b<8) (hq:q≤1) (hc:Closed O U M) (hl:M.length≤80):(body4 a b q U M).length≤4096:=by
 have h1:=vints_len [4,a,b,0,q] (fun n hn=>by simp at hn;omega)
 have h2:=vints_len (nums U M) (fun n hn=>by
  unfold nums at hn
  rcases List.mem_append.1 hn with h | h
  ·have hu:=hc.upto
   have:=hu 0 lD
   have:=hu 1 lD
   have:=hu 2 lD
   have:=hu 3 lD
   have:=hu 4 lD
   have:=hu 5 lD
   have:=hu 6 lD
   have:=hu 7 lD
   simp[nums0]at h
   omega
  ·unfold flat at h
   obtain⟨d,hd,h⟩:=List.mem_flatMap.1 h
   have:=hc.may d hd
   simp at h
   omega)
 have h3:(nums U M).length=9+2*M.length:=by
  unfold nums flat
  rw[List.length_append]
  have:∀l:List (Nat×Nat),(l.flatMap (fun d=>[d.1,d.2])).length=2*l.length:=fun l=>by
   induction l with
   | nil=>rfl
   | cons d l ih=>rw[List.flatMap_cons,List.length_append,ih,List.length_cons];simp;omega
  rw[this];rfl
 unfold body4
 rw[List.length_append]
 simp at h1
 omega
end Pl
end
section
open Go.RowKit Rw Rh
structure AgD where
 p:AgP
 c:Cf
 F:Nat→Prop
 size:Int
 bs:List Int
 used:Int
 upto:Int
 own:List Pl.Ev
def AgD.At (x:AgD) (all:Pl.Al) (w:World) (es:List Pl.Ev) (cl:Int):Prop:=∃er sd,er.map Pl.Ev.abs=es∧Pl.Kn all (· ∈sd) es∧AgAt x.F w x.p x.c x.size x.bs x.used x.upto x.own sd er cl
def AgD.bk (x:AgD) (g:Nat):Prop:=g=x.p.b∨g=x.p.ms∨g=x.p.mh
def AgD.all (x:AgD) (g:Nat):Prop:=x.F g∨x.p.has g
theorem AgD.bk_all {x:AgD} {g:Nat} (h:x.bk g):x.all g:=.inr (by rcases h with rfl | rfl | rfl<;>simp[AgP.has])
section
variable {x:AgD} {all:Pl.Al} {w w':World} {es:List Pl.Ev} {cl:Int}
theorem AgD.At.lt (h:x.At all w es cl) {g:Nat} (hg:x.all g):g<w.heap.size:=by
 obtain⟨er,sd,_,_,h⟩:=h
 exact hg.elim (h.lt g) (h.hlt g)
theorem AgD.At.kd (h:x.At all w es cl) (ho:Off x.bk w w'):Kd w w':=by
 obtain⟨er,sd,_,_,h⟩:=h
 exact Kd.off ho (fun g cs fr hg hk=>h.no45 hg (AgD.bk_all hk))
theorem AgD.At.keep (h:x.At all w es cl) (hs:w.heap.size≤w'.heap.size) (k:∀g,x.all g→w'.heap[g]?=w.heap[g]?) (hd:Kd w w'):x.At all w' es cl:=by
 obtain⟨er,sd,h1,h2,h⟩:=h
 exact⟨er,sd,h1,h2,h.keep hs k (fun e he=>(h.go.is e he).keep hd)⟩
theorem AgD.At.below (h:x.At all w es cl) (hb:Below w.heap.size w w'):x.At all w' es cl:=h.keep hb.size (fun g hg=>hb.block g (h.lt hg)) (Kd.of_below hb)
theorem AgD.At.calm (h:x.At all w es cl) (ho:Off x.bk w w') {k:Nat} {cs:Array Value} {t:TypeId} {fr:Nat×Nat} (hk:w.heap[k]?=some (.cells cs t fr)) (ht:t≠185):w'.heap[k]?=w.heap[k]?:=by
 obtain⟨er,sd,_,_,h⟩:=h
 exact h.go.calm ho hk ht
end
theorem Deltas.keep {w w':World} {a b:Nat} {ms:List Mq} {parts:List (List Pl.Ev)} (h:Deltas w a b ms parts) (k:∀(g:Nat) (cs:Array Value) (fr:Nat×Nat),w.heap[g]?=some (Obj.cells cs 175 fr)→w'.heap[g]?=w.heap[g]?) (hd:Kd w w'):Deltas w' a b ms parts:=
 ⟨h.1,fun i h1 h2=>by obtain⟨ao,cap,e,hr,hi⟩:=h.2 i h1 h2;exact⟨ao,cap,e,hr.keep k,fun e he=>(hi e he).keep hd⟩⟩
theorem Deltas.uncons {w:World} {a b:Nat} {m:Mq} {ms:List Mq} {parts:List (List Pl.Ev)} (h:Deltas w a b (m::ms) parts):∃p rest ao cap,parts=p::rest∧m=dlq a b (ao,p.length,cap)∧RowT kEv w (.slice ao p.length cap) p∧(∀e∈p,Is w e)∧Deltas w a b ms rest:=by
 cases parts with
 | nil=>exact absurd h.1 (by simp)
 | cons p rest=>
  obtain⟨ao,cap,e,hr,hi⟩:=h.2 0 (by simp) (by simp)
  refine⟨p,rest,ao,cap,rfl,e,hr,hi,by have:=h.1;simpa using this,fun i h1 h2=>?_⟩
  obtain⟨ao',cap',e',hr'⟩:=h.2 (i+1) (by simpa using h1) (by simpa using h2)
  exact⟨ao',cap',by simpa using e',hr'⟩
theorem Deltas.to {w:World} {a b:Nat} {ms:List Mq} {parts:List (List Pl.Ev)} (h:Deltas w a b ms parts):∀m∈ms,m.b=b:=fun m hm=>by
 obtain⟨i,hi,rfl⟩:=List.getElem_of_mem hm
 obtain⟨ao,cap,e,_,_⟩:=h.2 i hi (by rw[←h.1];exact hi)
 rw[e];rfl
theorem Deltas.empty {w:World} {a b:Nat} {parts:List (List Pl.Ev)} (h:Deltas w a b [] parts):parts=[]:=List.eq_nil_of_length_eq_zero h.1.symm
def Dig (all:Pl.Al) (w:World) (a b q:Nat) (es:List Pl.Ev) (m:Mq):Prop:=∃O U M ao cap,m=dgq a b q U (ao,M.length,cap)∧SetV w (Pl.setv U (.slice ao M.length cap)) O U M∧Pl.Kn all (fun d=>O d.1 d.2=true) es
theorem Dig.keep {all:Pl.Al} {w w':World} {a b q:Nat} {es:List Pl.Ev} {m:Mq} (h:Dig all w a b q es m) (k:∀(g:Nat) (cs:Array Value) (fr:Nat×Nat),w.heap[g]?=some (Obj.cells cs 45 fr)→w'.heap[g]?=w.heap[g]?):Dig all w' a b q es m:=by
 obtain⟨O,U,M,ao,cap,h1,h2,h3⟩:=h
 exact⟨O,U,M,ao,cap,h1,h2.keep k,h3⟩
def Phase (w:World) (all:Pl.Al) (a b:Nat) (A0 B0 Ea Eb:List Pl.Ev) (ms:List Mq) (n:Nat):Prop:=
 (∃m,ms=[m]∧Dig all w a b 0 A0 m∧Ea=A0∧Eb=B0∧1000≤n)∨
 (∃dms parts tail,ms=dms++tail∧Deltas w b a dms parts∧Pl.Subs all (Ea++Pl.fl parts)∧(∀e,e∈Ea++Pl.fl parts↔e∈A0∨e∈B0)∧Eb=B0∧(tail=[]∧(∀e∈A0,e∈B0)∧parts.length≤n∨∃m,tail=[m]∧Dig all w b a 1 B0 m∧parts.length+200≤n))∨
 (∃parts,Deltas w a b ms parts∧Pl.Subs all Ea∧(∀e,e∈Ea↔e∈A0∨e∈B0)∧Pl.Subs all (Eb++Pl.fl parts)∧(∀e,e∈Eb++Pl.fl parts↔e∈A0∨e∈B0)∧parts.length≤n)
theorem Phase.keep {w w':World} {all:Pl.Al} {a b:Nat} {A0 B0 Ea Eb:List Pl.Ev} {ms:List Mq} {n:Nat} (h:Phase w all a b A0 B0 Ea Eb ms n) (k:∀(g:Nat) (cs:Array Value) (t:TypeId) (fr:Nat×Nat),w.heap[g]?=some (Obj.cells cs t fr)→t=45∨t=175→w'.heap[g]?=w.heap[g]?):Phase w' all a b A0 B0 Ea Eb ms n:=by
 have k1:=fun g cs fr h=>k g cs 45 fr h (.inl rfl)
 have k2:=fun g cs fr h=>k g cs 175 fr h (.inr rfl)
 rcases h with⟨m,h1,h2,h3⟩ | ⟨dms,parts,tail,h1,h2,h3,h4,h5,h6⟩ | ⟨parts,h1,h2⟩
 ·exact .inl ⟨m,h1,h2.keep k1,h3⟩
 ·refine .inr (.inl ⟨dms,parts,tail,h1,h2.keep k2 k1,h3,h4,h5,?_⟩)
  rcases h6 with h6 | ⟨m,e1,h7,h8⟩
  ·exact .inl h6
  ·exact .inr ⟨m,e1,h7.keep k1,h8⟩
 ·exact .inr (.inr ⟨parts,h1.keep k2 k1,h2⟩)
theorem Phase.done {w:World} {all:Pl.Al} {a b:Nat} {A0 B0 Ea Eb:List Pl.Ev} {n:Nat} (h:Phase w all a b A0 B0 Ea Eb [] n) (hB:Pl.Subs all B0):(Pl.Subs all Ea∧∀e,e∈Ea↔e∈A0∨e∈B0)∧Pl.Subs all Eb∧∀e,e∈Eb↔e∈A0∨e∈B0:=by
 rcases h with⟨m,h1,_⟩ | ⟨dms,parts,tail,h1,h2,h3,h4,h5,h6⟩ | ⟨parts,h1,h2,h3,h4,h5,_⟩
 ·cases h1
 ·obtain⟨rfl,rfl⟩:=List.append_eq_nil_iff.1 h1.symm
  cases h2.empty
  rw[Pl.fl,List.flatten_nil,List.map_nil,List.append_nil]at h3
  simp only[Pl.fl,List.flatten_nil,List.map_nil,List.append_nil]at h4
  subst h5
  rcases h6 with⟨_,h7,_⟩ | ⟨m,e1,_⟩
  ·exact⟨⟨h3,h4⟩,hB,fun e=>⟨.inr,fun h=>h.elim (h7 e) id⟩⟩
  ·cases e1
 ·cases h1.empty
  rw[Pl.fl,List.flatten_nil,List.map_nil,List.append_nil]at h4
  simp only[Pl.fl,List.flatten_nil,List.map_nil,List.append_nil]at h5
  exact⟨⟨h2,h3⟩,h4,h5⟩
structure MtI (w0:World) (ob:Obj) (all:Pl.Al) (x y:AgD) (A0 B0:List Pl.Ev) (n:Nat) (ms:List Mq) (w:World):Prop where
 off:Off (fun g=>x.bk g∨y.bk g) w0 w
 op:w.heap[w0.heap.size]?=some ob
 ag:∃Ea Eb ca cb,x.At all w Ea ca∧y.At all w Eb cb∧Phase w all x.c.n y.c.n A0 B0 Ea Eb ms n
theorem MtI.len {w0:World} {ob:Obj} {all:Pl.Al} {x y:AgD} {A0 B0:List Pl.Ev} {n:Nat} {ms:List Mq} {w:World} (h:MtI w0 ob all x y A0 B0 n ms w):ms.length≤n+1:=by
 obtain⟨Ea,Eb,ca,cb,hx,hy,hp⟩:=h.ag
 rcases hp with⟨m,rfl,_⟩ | ⟨dms,parts,tail,rfl,h2,_,_,_,h6⟩ | ⟨parts,h1,_,_,_,_,h2⟩
 ·simp
 ·have:=h2.1
  rw[List.length_append]
  rcases h6 with⟨rfl,_,h7⟩ | ⟨m,rfl,_,h7⟩<;>simp<;>omega
 ·have:=h1.1;omega
structure Two (w0:World) (all:Pl.Al) (x y:AgD) (A0 B0:List Pl.Ev):Prop where
 lt:(∀g,x.all g→g<w0.heap.size)∧∀g,y.all g→g<w0.heap.size
 sep:∀g,x.all g→¬y.all g
 ne:x.c.n≠y.c.n
 lot:Pl.Lot all
 pa:Pl.Subs all A0
 pb:Pl.Subs all B0
theorem MtI.keep {w0:World} {ob:Obj} {all:Pl.Al} {x y:AgD} {A0 B0:List Pl.Ev} {n:Nat} {ms:List Mq} {w w':World} (h:MtI w0 ob all x y A0 B0 n ms w) (h2:Two w0 all x y A0 B0) (D:Nat→Prop) (ho:Off D w w') (hD:∀g,D g→w0.heap.size<g∧∀(cs:Array Value) (t:TypeId) (fr:Nat×Nat),w.heap[g]?=some (Obj.cells cs t fr)→t≠45∧t≠175):MtI w0 ob all x y A0 B0 n ms w':=by
 obtain⟨Ea,Eb,ca,cb,hx,hy,hp⟩:=h.ag
 have hlt:=h.off.size
 have hop:=(gsi.1 h.op).1
 have k:∀g,g≤w0.heap.size→w'.heap[g]?=w.heap[g]?:=fun g hg=>ho.same g lD (fun hd=>by have:=(hD g hd).1;omega)
 have hkd:Kd w w':=Kd.off ho (fun g cs fr hg hd=>((hD g hd).2 cs 45 fr hg).1 rfl)
 refine⟨⟨Nat.le_trans h.off.size ho.size,fun g hg hn=>(k g lD).trans (h.off.same g hg hn),ho.rest.1.trans h.off.rest.1,ho.rest.2.1.trans h.off.rest.2.1,ho.rest.2.2.trans h.off.rest.2.2⟩,(k _ (Nat.le_refl _)).trans h.op,Ea,Eb,ca,cb,hx.keep ho.size (fun g hg=>k g (Nat.le_of_lt (h2.lt.1 g hg))) hkd,hy.keep ho.size (fun g hg=>k g (Nat.le_of_lt (h2.lt.2 g hg))) hkd,hp.keep (fun g cs t fr hg ht=>ho.same g (gsi.1 hg).1 (fun hd=>?_))⟩
 have h9:=(hD g hd).2 cs t fr hg
 exact ht.elim h9.1 h9.2
theorem MtI.below {w0:World} {ob:Obj} {all:Pl.Al} {x y:AgD} {A0 B0:List Pl.Ev} {n:Nat} {ms:List Mq} {w w':World} (h:MtI w0 ob all x y A0 B0 n ms w) (h2:Two w0 all x y A0 B0) (hb:Below w.heap.size w w'):MtI w0 ob all x y A0 B0 n ms w':=
 h.keep h2 (fun _=>False) (Off.of_below hb) (fun g hg=>hg.elim)
def Got (w0:World) (ob:Obj) (all:Pl.Al) (x y:AgD) (A0 B0:List Pl.Ev) (n:Nat) (ms:List Mq) (W1:World) (r:Ending) (W2:World):Prop:=
 ∃ao cap new,r=.returned (.tuple #[.slice ao new.length cap,.int .i64 0])∧RowT kMsg W2 (.slice ao new.length cap) new∧new.length≤1000∧(∀m∈new,m.b=x.c.n∨m.b=y.c.n)∧
  (∀(g:Nat) (cs:Array Value) (fr:Nat×Nat),W1.heap[g]?=some (Obj.cells cs 115 fr)→W2.heap[g]?=W1.heap[g]?)∧W1.heap.size≤W2.heap.size∧∃n',n'<n∧MtI w0 ob all x y A0 B0 n' (ms++new) W2
end
end Go.Proofs.YtodlmbfbfaofcaaGreat
