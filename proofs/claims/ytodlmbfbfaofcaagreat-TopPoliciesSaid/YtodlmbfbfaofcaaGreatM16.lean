/- TopPolicies, part 16. -/
import Derived.Test.YtodlmbfbfaofcaaGreatM01
import Derived.Test.YtodlmbfbfaofcaaGreatM02
import Derived.Test.YtodlmbfbfaofcaaGreatM04
import Derived.Test.YtodlmbfbfaofcaaGreatM08
import Derived.Test.YtodlmbfbfaofcaaGreatM15
open Go.Proofs.Tryz
namespace Go.Proofs.YtodlmbfbfaofcaaGreat
set_option linter.unusedVariables false
set_option linter.unusedSimpArgs false
set_option maxRecDepth 100000
set_option maxHeartbeats 1000000
section
open Go.RowKit Rw Rh
def kEv:Rk Pl.Ev where
 T:=175
 S:=97
 k:=14
 bytes:=128
 z:=.agg Qen
 enc:=fun e=>[.int .i64 e.node,.int .i64 e.seq,.int .i64 e.time,.int .i64 e.kind,.int .i64 e.work,.int .i64 e.value,.int .i64 e.mn,.int .i64 e.mx,.int .i64 e.goal,.int .i64 e.slack,.int .i64 e.up,.int .i64 e.down,.int .i64 e.cool,.slice e.ro e.rn e.rc]
 hlen:=fun _=>rfl
 hone:=fun x u hu=>by
  simp at hu
  rcases hu with rfl | rfl | rfl | rfl | rfl | rfl | rfl | rfl | rfl | rfl | rfl | rfl | rfl | rfl<;>rfl
 hk:=by decide
 hu:=by kernel_rfl
 hi:=by kernel_rfl
 hz:=rfl
 hb:=by decide
theorem tX {α:Type} (K:Rk α) (w:World) (base:Nat) (xs:List α) (cs:Array Value) (n:Nat) (hb:base≤w.heap.size) (hn:n=xs.length) (hl:n≤1000000) (hcs:cs=(K.encs xs).toArray):OwnR K base (w.alloc (.cells cs K.T)) (.slice (some ⟨w.heap.size,0,none⟩) n n) xs:=by
 subst hcs hn
 refine⟨K.encs_length xs,.inr ⟨w.heap.size,xs.length,(K.encs xs).toArray,rfl,hb,heap_alloc_new w _,Nat.le_refl _,Nat.le_trans hl lF,by simp[K.encs_length],?_⟩⟩
 rw[List.take_of_length_le (by simp[K.encs_length])]
theorem xS {w:World} {v:Value} {es:List Pl.Ev} (h:RowC kEv w v es) {i:Nat} (hi:i<es.length):∃g off cap,v=.slice (some ⟨g,off,none⟩) es.length cap∧g<w.heap.size∧
  w.cell? ⟨g,off+i*14,none⟩=some (.int .i64 (es[i]).node)∧w.cell? ⟨g,off+i*14+1,none⟩=some (.int .i64 (es[i]).seq)∧w.cell? ⟨g,off+i*14+2,none⟩=some (.int .i64 (es[i]).time)∧w.cell? ⟨g,off+i*14+3,none⟩=some (.int .i64 (es[i]).kind)∧w.cell? ⟨g,off+i*14+4,none⟩=some (.int .i64 (es[i]).work)∧w.cell? ⟨g,off+i*14+5,none⟩=some (.int .i64 (es[i]).value)∧w.cell? ⟨g,off+i*14+6,none⟩=some (.int .i64 (es[i]).mn)∧w.cell? ⟨g,off+i*14+7,none⟩=some (.int .i64 (es[i]).mx)∧w.cell? ⟨g,off+i*14+8,none⟩=some (.int .i64 (es[i]).goal)∧w.cell? ⟨g,off+i*14+9,none⟩=some (.int .i64 (es[i]).slack)∧w.cell? ⟨g,off+i*14+10,none⟩=some (.int .i64 (es[i]).up)∧w.cell? ⟨g,off+i*14+11,none⟩=some (.int .i64 (es[i]).down)∧w.cell? ⟨g,off+i*14+12,none⟩=some (.int .i64 (es[i]).cool)∧w.cell? ⟨g,off+i*14+13,none⟩=some (.slice (es[i]).ro (es[i]).rn (es[i]).rc):=by
 exact nY
namespace Pl
def codes (es:List Ev):List Int:=es.flatMap (fun e=>vints e.nums)
theorem codes_succ (es:List Ev) (k:Nat) (h:k<es.length):codes (es.take (k+1))=codes (es.take k)++vints (es[k]).nums:=by
 unfold codes
 rw[List.take_succ_eq_append_getElem h,List.flatMap_append]
 simp
theorem codes_len (es:List Ev) (h:∀e∈es,e.Ok):(codes es).length≤265*es.length:=by
 unfold codes
 induction es with
 | nil=>simp
 | cons a l ih=>
  rw[List.flatMap_cons,List.length_append,List.length_cons]
  have:=ih (fun n hn=>h n (by simp[hn]))
  have h1:=(h a (by simp)).bytes
  omega
end Pl
theorem putall_ok (v:Value) (es:List Pl.Ev) (w:World) (h:RowC kEv w v es) (hn:es.length≤768) (he:∀e∈es,e.Ok) (hi:∀e∈es,Is w e) :
  Calls prog 160 #[v] w fun r w'=>∃v',r=.returned (.tuple #[v',.int .i64 0])∧OwnB w.heap.size w' v' (Pl.vint es.length++Pl.codes es)∧Below w.heap.size w w':=by
 obtain⟨ao,cap,rfl⟩:=h.form
 have b1:=bn w (.cells (Qo 0) 41)
 have b2:=b1.alloc b1.size (.cells #[.slice none 0 0] 373)
 have b3:=b2.alloc b2.size (.cells (Qo es.length) 3)
 have hx1:=heap_alloc_new w (.cells (Qo 0) 41)
 have hx2:=((bn _ (.cells #[.slice none 0 0] 373)).block _ (gsi.1 hx1).1).trans hx1
 have hx3:=((bn _ (.cells (Qo es.length) 3)).block _ (gsi.1 hx2).1).trans hx2
 have hy2:=heap_alloc_new (w.alloc (.cells (Qo 0) 41)) (.cells #[.slice none 0 0] 373)
 rw[zG]at hy2
 have hy3:=((bn _ (.cells (Qo es.length) 3)).block _ (gsi.1 hy2).1).trans hy2
 have hz3:=heap_alloc_new ((w.alloc (.cells (Qo 0) 41)).alloc (.cells #[.slice none 0 0] 373)) (.cells (Qo es.length) 3)
 rw[zG,zG]at hz3
 have hwr:WrAt w.heap.size (((w.alloc (.cells (Qo 0) 41)).alloc (.cells #[.slice none 0 0] 373)).alloc (.cells (Qo es.length) 3)) (w.heap.size+1) []:=⟨by omega,_,hy3,xO _ _⟩
 have cn:=cc 0 hz3
 have HNUM:=zA (wnum_ok w.heap.size (w.heap.size+1) (w.heap.size+1+1) 0 es.length [] _ hwr b3.size (by simp) lD cn (gsi.1 hz3).1)
 have HB:=zA b3
 have HX:=zA hx3
 have HR:=zA h
 have HOK:=zA he
 have HIS:=zA hi
 have HLE:=zA hn
 have hn0:¬(768:Int)<es.length:=by omega
 clear b1 b2 b3 hx1 hx2 hx3 hy2 hy3 hz3 hwr h he hn hi
 go_enter_defers func160,ntmps160
 go_wp2_with fail
 generalize (((w.alloc (.cells (Qo 0) 41)).alloc (.cells #[.slice none 0 0] 373)).alloc (.cells (Qo es.length) 3))=W at *
 refine HNUM.out.mono ?_
 rintro x w1 ⟨rfl,hw1,o1⟩
 rw[List.nil_append]at hw1
 have HW1:=zA hw1
 have HB1:=zA (o1.to_below HB.out lD)
 have HX1:=zA ((o1.same _ (gsi.1 HX.out).1 (fun e=>by have:w.heap.size=w.heap.size+1:=e;omega)).trans HX.out)
 clear hw1 o1 HNUM cn
 go_wp2_with fail
 go_loopw [18] (fun i wr=>∃(k:Nat),k≤es.length∧i=.int .i64 k∧WrAt w.heap.size wr (w.heap.size+1) (Pl.vint es.length++Pl.codes (es.take k))∧Below w.heap.size w wr∧wr.heap[w.heap.size]?=some (.cells (Qo 0) 41 (0,0))) (fun i _=>es.length - (intOf i).toNat)
 case atStart=>exact⟨0,by omega,rfl,by simpa[Pl.codes]using HW1.out,HB1.out,HX1.out⟩
 case round=>
  obtain⟨k,hk,rfl,hw,hb,hx⟩:=hrel
  by_cases hlt:k<es.length
  ·obtain⟨g,off,cap',e1,hg,c0,c1,c2,c3,c4,c5,c6,c7,c8,c9,c10,c11,c12,c13⟩:=xS (HR.out.below hb) hlt
   cases e1
   have a1:(k:Int)+1≤9223372036854775807:=by have:=HLE.out;omega
   have b2:=bn wr (.cells (es[k]) 175)
   have hl:(Pl.vint es.length++Pl.codes (es.take k)).length≤800000:=by
    have h1:=Pl.codes_len (es.take k) (fun e he=>HOK.out e (List.mem_of_mem_take he))
    have h2:=Pl.vint_len6 (n:=es.length) (by have:=HLE.out;omega)
    rw[List.length_take]at h1
    rw[List.length_append]
    have:=HLE.out
    omega
   have qV:=zA (wput_ok w.heap.size (w.heap.size+1) es[k] _ _ (hw.below b2) (Nat.le_trans hb.size b2.size) hl (HOK.out _ (List.getElem_mem hlt)) (((HIS.out _ (List.getElem_mem hlt)).below hb).below b2))
   have HNX:=zA (Pl.codes_succ es k hlt)
   have HBA:=zA (hb.trans (b2.mono hb.size))
   have HXA:=zA (zZ b2 hx)
   have qK:=heap_alloc_new wr (.cells (es[k]) 175)
   clear b2 hl hw hb hx
   generalize es[k]=ev at *
   obtain⟨d0,d1,d2,d3,d4,d5,d6,d7,d8,d9,d10,d11,d12,d13⟩:=c14 qK
   clear qK
   go_wp2_with fail
   generalize wr.alloc (.cells ev 175)=W2 at *
   refine qV.out.mono ?_
   rintro x w3 ⟨rfl,hw3,o3⟩
   have hb3:=o3.to_below HBA.out lD
   have hx3:=(o3.same _ (gsi.1 HXA.out).1 (fun e=>by have:w.heap.size=w.heap.size+1:=e;omega)).trans HXA.out
   have HW3:=zA hw3
   have HB3:=zA hb3
   have HX3:=zA hx3
   clear hw3 hb3 hx3 o3 qV
   go_wp2_with fail
   exact⟨⟨k+1,by omega,rfl,by rw[HNX.out,←List.append_assoc];exact HW3.out,HB3.out,HX3.out⟩,by simp[intOf];omega⟩
  ·obtain rfl:k=es.length:=by omega
   rw[List.take_length]at hw
   obtain⟨_,v,hv,qC⟩:=hw
   have cp:=cc 0 hv
   have cf:=cc 0 hx
   have ff:=zB hx 0
   have hownz:OwnB w.heap.size (wr.setCell ⟨w.heap.size,0,none⟩ (.int .i64 0)) v (Pl.vint es.length++Pl.codes es):=qC.keep (fun g cs fr hg=>Below.heap_setCell _ _ _ _ (fun e=>by
    rw[show g=w.heap.size from e,hx]at hg;exact zH lF hg))
   have hbz:=zM hb (Nat.le_refl w.heap.size) 0 (.int .i64 0)
   have cz:=World.cell?_setCell_same wr ⟨w.heap.size,0,none⟩ (.int .i64 0) cf
   have HO:=zA hownz
   have HBZ:=zA hbz
   clear hv qC hx hb hownz hbz hlt hk
   go_wp2_with fail
   refine leaves_cons (f:=184) (args:=#[Qp w.heap.size]) (by simp) (by simp[go_sem]) ?_
   refine(vR _ _).mono ?_
   rintro e' u' w'' ⟨rfl,rfl,rfl⟩
   generalize wr.setCell ⟨w.heap.size,0,none⟩ (.int .i64 0)=Z at *
   simp[Leaves,settle,results,results160,go_sem,cz]
   exact⟨HO.out,HBZ.out⟩
theorem rend_ok (r:Nat) (w:World) (h:RdAt w r []):Calls prog 189 #[.agg #[Qp r],.bool true] w fun e w'=>e=.returned (.tuple #[])∧Below w.heap.size w w':=by
 have b1:=bn w (.cells #[Qp r] 299)
 have hx:=heap_alloc_new w (.cells #[Qp r] 299)
 have HL:=zA (vH r [] _ (h.below b1))
 have HB:=zA b1
 have c0:=cc 0 hx
 clear h hx b1
 go_enter func189,ntmps189
 go_wp2_with fail
 refine HL.out.mono ?_
 rintro e w' ⟨rfl,rfl⟩
 go_wp2_with fail
 exact yG results189 ⟨rfl,HB.out⟩
theorem yT {w w':World} {row:Option Nat} {g t T:Nat} {cs:Array Value} {fr:Nat×Nat} (hg:w.grownBy w' row) (qD:∀g,row=some g→∃cs,w.heap[g]?=some (.cells cs T (0,0))) (h:w.heap[g]?=some (.cells cs t fr)) (ht:t≠T):w'.heap[g]?=some (.cells cs t fr):=
 (hg.block g (gsi.1 h).1 (fun e=>by
  obtain⟨cs',h2⟩:=qD g e.symm
  rw[h]at h2;exact zH ht h2)).trans h
theorem RdAt.grownT {w w':World} {r T:Nat} {bs:List Int} {row:Option Nat} (h:RdAt w r bs) (hg:w.grownBy w' row) (qD:∀g,row=some g→∃cs,w.heap[g]?=some (.cells cs T (0,0))) (ht:293≠T∧5≠T):RdAt w' r bs:=by
 obtain⟨v,h1,h2⟩:=h
 obtain⟨cs',h3,_⟩:=id h1
 exact⟨v,World.rowIs.of_block h1 ((yT hg qD h3 ht.1).trans h3.symm),h2.keep (fun g cs fr hc=>(yT hg qD hc ht.2).trans hc.symm)⟩
theorem Off.two {F:Nat→Prop} {w0 w w':World} (o:Off F w w') (b:Below w0.heap.size w0 w) (hF:∀g,F g→w0.heap.size≤g):Below w0.heap.size w0 w':=o.since b hF
theorem getall_ok (v:Value) (es:List Pl.Ev) (w:World) (h:BytesC w v (Pl.vint es.length++Pl.codes es)) (hn:es.length≤768) (he:∀e∈es,e.Ok) :
  Calls prog 113 #[v] w fun r w'=>∃v' es',r=.returned (.tuple #[v',.int .i64 0])∧OwnR kEv w.heap.size w' v' es'∧es'.map Pl.Ev.abs=es.map Pl.Ev.abs∧(∀e∈es',Is w' e)∧Below w.heap.size w w':=by
 have hl:(Pl.vint es.length++Pl.codes es).length≤1000000:=by
  have h1:=Pl.codes_len es he
  have h2:=Pl.vint_len6 (n:=es.length) lD
  rw[List.length_append]
  omega
 have b1:=bn w (.cells (Qo 0) 41)
 have qP:=zA (uU v _ _ (h.below b1) hl)
 have HB:=zA b1
 have HF:=zA (heap_alloc_new w (.cells (Qo 0) 41))
 have HOK:=zA he
 have HLE:=zA hn
 have hn0:¬(768:Int)<es.length:=by omega
 clear h hl b1 he hn
 go_enter_defers func113,ntmps113
 go_wp2_with fail
 generalize w.alloc (.cells (Qo 0) 41)=W1 at *
 refine qP.out.mono ?_
 rintro x w2 ⟨r,rfl,hr0,hrd,b2⟩
 have b3:=bn w2 (.cells #[Qp r] 299)
 have b4:=b3.alloc b3.size (.cells (Qo 0) 3)
 have hR3:=heap_alloc_new w2 (.cells #[Qp r] 299)
 have hR4:=((bn _ (.cells (Qo 0) 3)).block _ (gsi.1 hR3).1).trans hR3
 have hN4:=heap_alloc_new (w2.alloc (.cells #[Qp r] 299)) (.cells (Qo 0) 3)
 rw[zG]at hN4
 have hF2:=zZ b2 HF.out
 have hF4:=zZ b4 hF2
 have hb4:=HB.out.trans ((b2.trans (b4.mono b2.size)).mono HB.out.size)
 have hr4:=hrd.below b4
 have HNUM:=zA (tI r (w2.heap.size+1) 0 3 (Qo 0) (.int .i64 0) es.length (Pl.codes es) _ hr4 (by have:=HLE.out;omega) hN4 lF rfl)
 have HB4:=zA hb4
 have HF4:=zA hF4
 have HR4:=zA hR4
 have HRD4:=zA hr4
 have HR0:=zA (show w.heap.size≤r from Nat.le_trans HB.out.size hr0)
 have HS2:=zA (show w.heap.size<w2.heap.size by have:=(gsi.1 hF2).1;omega)
 have cR:=cc 0 hR4
 clear b2 b3 b4 hR3 hR4 hN4 hF2 hF4 hb4 hr4 hrd hr0 qP
 go_wp2_with fail
 generalize (w2.alloc (.cells #[Qp r] 299)).alloc (.cells (Qo 0) 3)=W4 at *
 refine HNUM.out.mono ?_
 rintro x w5 ⟨rfl,hr5,hn5,o5⟩
 have hne:∀g,w.heap.size=g∨w2.heap.size=g→g=r∨g=w2.heap.size+1→False:=fun g h1 h2=>by
  rcases h2 with h2 | h2
  ·rcases h1 with h1 | h1
   ·exact HRD4.out.ne HF4.out lF (h1.trans h2)
   ·exact HRD4.out.ne HR4.out lF (h1.trans h2)
  ·have:=HS2.out;omega
 have hb5:=o5.since HB4.out (fun g hg=>by
  rcases hg with hg | hg
  ·rw[hg];exact HR0.out
  ·have:=HS2.out;omega)
 have hF5:=(o5.same w.heap.size (gsi.1 HF4.out).1 (fun e=>hne _ (.inl rfl) e)).trans HF4.out
 have hR5:=(o5.same w2.heap.size (gsi.1 HR4.out).1 (fun e=>hne _ (.inr rfl) e)).trans HR4.out
 have HR5:=zA hr5
 have HB5:=zA hb5
 have HF5:=zA hF5
 have HRR5:=zA hR5
 have cn:=cc 0 hn5
 clear hne hb5 hF5 hR5 o5 hr5 hn5 HNUM cR
 go_wp2_with fail
 go_loopw [6,18] (fun u i wr=>∃(k:Nat),k≤es.length∧i=.int .i64 k∧(∃l:List Pl.Ev,OwnR kEv w.heap.size wr u l∧l.map Pl.Ev.abs=(es.take k).map Pl.Ev.abs∧∀e∈l,Is wr e)∧RdAt wr r (Pl.codes (es.drop k))∧Below w.heap.size w wr∧wr.heap[w.heap.size]?=some (.cells (Qo 0) 41 (0,0))∧wr.heap[w2.heap.size]?=some (.cells #[Qp r] 299 (0,0))) (fun _ i _=>es.length - (intOf i).toNat)
 case atStart=>exact⟨0,by omega,rfl,⟨[],yJ _ _ _,rfl,fun e he=>absurd he (by simp)⟩,HR5.out,HB5.out,HF5.out,HRR5.out⟩
 case round=>
  obtain⟨k,hk,rfl,⟨l,ho,hab,hin⟩,hr,hb,hf,hR⟩:=hrel
  by_cases hlt:k<es.length
  ·have hcd:Pl.codes (es.drop k)=Pl.vints (es[k]).nums++Pl.codes (es.drop (k+1)):=by
    rw[List.drop_eq_getElem_cons hlt];rfl
   rw[hcd]at hr
   have a1:(k:Int)+1≤9223372036854775807:=by have:=HLE.out;omega
   have b2:=bn wr (.cells Qen 175)
   have qK:=heap_alloc_new wr (.cells Qen 175)
   have hrA:=hr.below b2
   have hfA:=zZ b2 hf
   have hRA:=zZ b2 hR
   have hfl:=(gsi.1 hf).1
   have hRl:=(gsi.1 hR).1
   have hok:=HOK.out _ (List.getElem_mem hlt)
   have pK:=zA (rget_ok r wr.heap.size es[k] (Pl.codes (es.drop (k+1))) _ hrA qK hok)
   have HKO:=zA (fun w' (o:Off (fun g=>g=r∨g=wr.heap.size) (wr.alloc (.cells Qen 175)) w')=>OwnR.keep (w':=w') (ho.below b2) (fun g hg=>by
    obtain⟨cs,hcs⟩:=zK (ho.below b2) hg
    refine o.same g (gsi.1 hcs).1 (fun e=>?_)
    rcases e with e | e
    ·exact hrA.ne hcs lF e
    ·have:=(ho.lt g hg).2;omega))
   have HKB:=zA (fun w' (o:Off (fun g=>g=r∨g=wr.heap.size) (wr.alloc (.cells Qen 175)) w')=>o.since (hb.trans (b2.mono hb.size)) (fun g hg=>by
    rcases hg with hg | hg
    ·rw[hg];exact HR0.out
    ·rw[hg];exact hb.size))
   have HKF:=zA (fun w' (o:Off (fun g=>g=r∨g=wr.heap.size) (wr.alloc (.cells Qen 175)) w')=>(o.same w.heap.size (gsi.1 hfA).1 (fun e=>by
    rcases e with e | e
    ·exact hrA.ne hfA lF e
    ·omega)).trans hfA)
   have HKR:=zA (fun w' (o:Off (fun g=>g=r∨g=wr.heap.size) (wr.alloc (.cells Qen 175)) w')=>(o.same w2.heap.size (gsi.1 hRA).1 (fun e=>by
    rcases e with e | e
    ·exact hrA.ne hRA lF e
    ·omega)).trans hRA)
   have HKI:=zA (fun w' (o:Off (fun g=>g=r∨g=wr.heap.size) (wr.alloc (.cells Qen 175)) w') e (he:e∈l)=>((hin e he).below b2).off o (fun g cs fr hg hh=>by
    rcases hh with hh | hh
    ·exact hrA.ne hg lF hh
    ·rw[hh,qK]at hg;exact zH lF hg))
   have HOKK:=zA hok
   have HTK:=zA (show(es.take (k+1)).map Pl.Ev.abs=l.map Pl.Ev.abs++[(es[k]).abs] by rw[List.take_succ_eq_append_getElem hlt,List.map_append,hab];rfl)
   have HLK:=zA (show l.length=k by have:=congrArg List.length hab;simp at this;omega)
   have cR:=cc 0 hRA
   have HSZ:=zA hb.size
   clear b2 qK hrA hfA hRA hfl hRl hok ho hr hb hf hR hcd hab hin
   generalize es[k]=ev at *
   generalize hrest:es.drop (k+1)=rest at *
   have HREST:=zA hrest
   clear hrest
   go_wp2_with fail
   generalize wr.alloc (.cells Qen 175)=W2 at *
   generalize hebb:wr.heap.size=eb at *
   clear hebb
   refine pK.out.mono ?_
   rintro x w6 ⟨rfl,hr6,⟨ro,rc,he6,hi6⟩,o6⟩
   have HOX:=zA (HOKK.out.mv ro rc)
   have HAX:=zA (show(ev.mv ro rc).abs=ev.abs from rfl)
   have HI6:=zA hi6
   have HIL6:=zA (HKI.out w6 o6)
   clear hi6 HKI
   generalize ev.mv ro rc=ex at *
   have ho6:=HKO.out w6 o6
   have hb6:=HKB.out w6 o6
   have hf6:=HKF.out w6 o6
   have hR6:=HKR.out w6 o6
   obtain⟨n,s,hd,hnm⟩:=HOX.out.dot
   have HRT:=zA (wZ ex n s w6 hd (DotsT.toC HI6.out) hnm)
   have HO6:=zA ho6
   have HB6:=zA hb6
   have HF6:=zA hf6
   have HR6:=zA hR6
   have HRD6:=zA hr6
   have HE6:=zA he6
   obtain⟨d0,d1,d2,d3,d4,d5,d6,d7,d8,d9,d10,d11,d12,d13⟩:=c14 he6
   clear he6 o6 ho6 hb6 hf6 hR6 hr6 pK HKO HKB HKF HKR hd hnm cR
   go_wp2_with fail
   refine HRT.out.mono ?_
   rintro x w7 ⟨rfl,b7⟩
   rw[HOX.out.right]
   have he7:=zZ b7 HE6.out
   have b8:=bn w7 (.cells (eva ex) 175)
   have b68:=b7.trans (b8.mono b7.size)
   have ho8:=HO6.out.below b68
   have hb8:=HB6.out.trans (b68.mono HB6.out.size)
   have qL:=yK kEv w7 [ex] (eva ex) 1 rfl (by simp[Rk.encs,kEv])
   have HO8:=zA ho8
   have HB8:=zA hb8
   have qI:=zA qL
   have HF8:=zA (zZ b68 HF6.out)
   have HR8:=zA (zZ b68 HR6.out)
   have HRD8:=zA (HRD6.out.below b68)
   have HI8:=zA (show ∀e∈l++[ex],Is (w7.alloc (.cells (eva ex) 175)) e from fun e he=>by
    rcases List.mem_append.1 he with h | h
    ·exact(HIL6.out e h).below b68
    ·rw[List.mem_singleton.1 h];exact HI6.out.below b68)
   clear d0 d1 d2 d3 d4 d5 d6 d7 d8 d9 d10 d11 d12 d13
   obtain⟨d0,d1,d2,d3,d4,d5,d6,d7,d8,d9,d10,d11,d12,d13⟩:=c14 he7
   clear he7 b7 b8 b68 ho8 hb8 qL HRT
   go_wp2_with (
    at_builtin
    refine yU kEv rfl (.tmp 28) (.tmp 30) rfl rfl HO8.out rfl qI.out (by rw[HLK.out];have:=HLE.out;simp;omega) HB8.out HB8.out.size ?_
    intro v1 w1 hown1 hb1 hg0
    have qD:=fun g hg=>zK HO8.out (g:=g) hg
    have HV1:=zA hown1
    have HBV:=zA hb1
    have HFV:=zA (yT hg0 qD HF8.out lF)
    have HRV:=zA (yT hg0 qD HR8.out lF)
    have HRDV:=zA (HRD8.out.grownT hg0 qD lF)
    have HIV:=zA (fun e he=>DotsT.keep (HI8.out e he) (fun g cs fr hg=>(yT hg0 qD hg lF).trans hg.symm))
    clear hown1 hb1 hg0 qD)
   exact⟨⟨k+1,by omega,rfl,⟨l++[ex],HV1.out,by rw[HTK.out,List.map_append,←HAX.out];rfl,HIV.out⟩,by rw[HREST.out];exact HRDV.out,HBV.out,HFV.out,HRV.out⟩,by simp[intOf];omega⟩
  ·obtain rfl:k=es.length:=by omega
   rw[List.take_length]at hab
   rw[List.drop_length]at hr
   have HEND:=zA (rend_ok r wr hr)
   have cR:=cc 0 hR
   have HO:=zA ho
   have HAB:=zA hab
   have HIN:=zA hin
   have HBW:=zA hb
   have HFW:=zA hf
   clear ho hr hb hf hR hlt hk hab hin
   go_wp2_with fail
   refine HEND.out.mono ?_
   rintro x w7 ⟨rfl,b7⟩
   have hf7:=zZ b7 HFW.out
   have cf:=cc 0 hf7
   have ff:=zB hf7 0
   have hoz:OwnR kEv w.heap.size (w7.setCell ⟨w.heap.size,0,none⟩ (.int .i64 0)) u6 l:=(HO.out.below b7).keep (fun g hg=>Below.heap_setCell _ _ _ _ (fun e=>by
    obtain⟨cs,hcs⟩:=zK (HO.out.below b7) hg
    rw[show g=w.heap.size from e,hf7]at hcs;exact zH lF hcs))
   have hbz:=zM (HBW.out.trans (b7.mono HBW.out.size)) (Nat.le_refl w.heap.size) 0 (.int .i64 0)
   have cz:=World.cell?_setCell_same w7 ⟨w.heap.size,0,none⟩ (.int .i64 0) cf
   have HOZ:=zA hoz
   have HIZ:=zA (show ∀e∈l,Is (w7.setCell ⟨w.heap.size,0,none⟩ (.int .i64 0)) e from fun e he=>DotsT.keep ((HIN.out e he).below b7) (fun g cs fr hg=>Below.heap_setCell _ _ _ _ (fun y=>by
    rw[show g=w.heap.size from y,hf7]at hg;exact zH lF hg)))
   have HBZ:=zA hbz
   clear b7 hf7 hoz hbz HEND cR
   go_wp2_with fail
   refine leaves_cons (f:=184) (args:=#[Qp w.heap.size]) (by simp) (by simp[go_sem]) ?_
   refine(vR _ _).mono ?_
   rintro e' u' w'' ⟨rfl,rfl,rfl⟩
   generalize w7.setCell ⟨w.heap.size,0,none⟩ (.int .i64 0)=Z at *
   simp[Leaves,settle,results,results113,go_sem,cz]
   exact⟨l,HOZ.out,HAB.out,HIZ.out,HBZ.out⟩
theorem uT (g:Nat) (t:TypeId) (fr:Nat×Nat):∀(vs:List Value) (o:Nat) (w:World) (cs:Array Value),w.heap[g]?=some (.cells cs t fr)→
  ∃cs',(w.setCells g o vs).heap[g]?=some (.cells cs' t fr)∧cs'.size=cs.size∧(∀j,j<vs.length→o+j<cs.size→cs'[o+j]?=vs[j]?)∧∀i,(i<o∨o+vs.length≤i)→cs'[i]?=cs[i]?
 | [],o,w,cs,h=>⟨cs,h,rfl,fun j hj=>absurd hj (by simp),fun i _=>rfl⟩
 | v::r,o,w,cs,h=>by
  obtain⟨cs',h1,h2,h3,h4⟩:=uT g t fr r (o+1) (w.setCell ⟨g,o,none⟩ v) _ (zF (j:=o) h v)
  refine⟨cs',h1,by rw[h2];simp,fun j hj hs=>?_,fun i hi=>?_⟩
  ·cases j with
   | zero=>
    rw[h4 (o+0) (.inl (by omega))]
    simp at hs ⊢
    rw[Array.getElem?_setIfInBounds]
    simp[hs]
   | succ j=>
    have:=h3 j (by simpa using hj) (by simp;omega)
    rw[show o+(j+1)=o+1+j from by omega,this]
    simp
  ·rw[h4 i (by simp at hi;omega)]
   exact Array.getElem?_setIfInBounds_ne (by simp at hi;omega)
theorem xA {w:World} {g:Nat} {t:TypeId} {cs:Array Value} {fr:Nat×Nat} (vs:List Value) (h:w.heap[g]?=some (.cells cs t fr)) (hs:cs.size=vs.length):(w.setCells g 0 vs).heap[g]?=some (.cells vs.toArray t fr):=by
 obtain⟨cs',h1,h2,h3,_⟩:=uT g t fr vs 0 w cs h
 have:cs'=vs.toArray:=by
  apply Array.ext_getElem?
  intro i
  rcases Nat.lt_or_ge i vs.length with hi | hi
  ·have:=h3 i hi lD
   rw[Nat.zero_add]at this
   rw[this];simp
  ·rw[Array.getElem?_eq_none (by omega),Array.getElem?_eq_none (by simpa using hi)]
 rw[h1,this]
theorem xB {B:Nat} {a w:World} {g:Nat} (h:Below B a w) (hg:B≤g) (o:Nat) (vs:List Value):Below B a (w.setCells g o vs):=by
 obtain⟨h1,h2,h3,h4,h5⟩:=yB g vs o w
 exact⟨h3.trans h.os,h4.trans h.tape,h5.trans h.output,by rw[h1];exact h.size,fun i hi=>(h2 i lD).trans (h.block i hi)⟩
theorem uX (e:Pl.Ev) (w:World) (hl:e.rm.length≤96) (hi:Is w e):Calls prog 166 #[.slice e.ro e.rn e.rc] w fun r w'=>∃ro rc,r=.returned (.slice ro e.rm.length rc)∧Is w' (e.mv ro rc)∧Below w.heap.size w w':=by
 refine(dclone_any _ e.rm w (wM.1 hi).toC lD).mono ?_
 rintro r w' ⟨v',rfl,ho,hb⟩
 have hd:=wM.2 ho.toT
 obtain⟨ao,cap,rfl,h2,h3⟩:=id hd
 exact⟨ao,cap,rfl,hd,hb⟩
theorem wL (e:Pl.Ev) (ro:Option Addr) (rc:Nat):(eva e).setIfInBounds 13 (.slice ro e.rm.length rc)=eva (e.mv ro rc):=by simp[Pl.Ev.mv]
theorem sown_ok (e:Pl.Ev) (w:World) (hl:e.rm.length≤96) (hi:Is w e):Calls prog 337 #[evv e] w fun r w'=>∃ro rc,r=.returned (evv (e.mv ro rc))∧Is w' (e.mv ro rc)∧Below w.heap.size w w':=by
 have b1:=bn w (.cells (eva e) 175)
 have b2:=b1.alloc b1.size (.cells Qen 175)
 have hx1:=heap_alloc_new w (.cells (eva e) 175)
 have hx2:=zZ (bn _ (.cells Qen 175)) hx1
 have hy2:=heap_alloc_new (w.alloc (.cells (eva e) 175)) (.cells Qen 175)
 rw[zG]at hy2
 have HB:=zA b2
 have HX:=zA hx2
 have HY:=zA hy2
 have HC:=zA (uX e _ hl (hi.below b2))
 obtain⟨c0,c1,c2,c3,c4,c5,c6,c7,c8,c9,c10,c11,c12,c13⟩:=c14 hx2
 clear b1 b2 hx1 hx2 hy2 hi hl
 go_enter func337,ntmps337
 go_wp2_with fail
 generalize ((w.alloc (.cells (eva e) 175)).alloc (.cells Qen 175))=W at *
 refine HC.out.mono ?_
 rintro x W1 ⟨ro,rc,rfl,hi1,hb1⟩
 have hx1:=zZ hb1 HX.out
 have hy1:=zZ hb1 HY.out
 have fx:=zB hx1 13
 have d13:=cc 13 hx1
 have hx3:=zF (j:=13) hx1 (.slice ro e.rm.length rc)
 rw[wL]at hx3
 have hy3:(W1.setCell ⟨w.heap.size,13,none⟩ (.slice ro e.rm.length rc)).heap[w.heap.size+1]?=some (.cells Qen 175 (0,0)):=(Below.heap_setCell _ _ _ _ (show w.heap.size+1≠w.heap.size by omega)).trans hy1
 have hb3:=zM (HB.out.trans (hb1.mono HB.out.size)) (Nat.le_refl w.heap.size) 13 (.slice ro e.rm.length rc)
 have hi3:Is (W1.setCell ⟨w.heap.size,13,none⟩ (.slice ro e.rm.length rc)) (e.mv ro rc):=DotsT.keep hi1 (fun g cs fr hg=>Below.heap_setCell _ _ _ _ (fun y=>by
  rw[show g=w.heap.size from y,hx1]at hg;exact zH lF hg))
 clear c0 c1 c2 c3 c4 c5 c6 c7 c8 c9 c10 c11 c12 c13
 obtain⟨c0,c1,c2,c3,c4,c5,c6,c7,c8,c9,c10,c11,c12,c13⟩:=c14 hx3
 obtain⟨y0,y1,y2,y3,y4,y5,y6,y7,y8,y9,y10,y11,y12,y13⟩:=c14 hy3
 have gz:=zB hy3
 have HI3:=zA hi3
 have HB3:=zA hb3
 have HY3:=zA hy3
 clear hi1 hb1 hx1 hy1 hx3 hy3 hb3 hi3
 generalize hex:e.mv ro rc=ex at *
 have HEX:=zA hex
 clear hex
 go_wp2_with fail
 generalize W1.setCell ⟨w.heap.size,13,none⟩ (.slice ro e.rm.length rc)=W2 at *
 have hst:W2.setCells (w.heap.size+1) 0 [.int .i64 ex.node,.int .i64 ex.seq,.int .i64 ex.time,.int .i64 ex.kind,.int .i64 ex.work,.int .i64 ex.value,.int .i64 ex.mn,.int .i64 ex.mx,.int .i64 ex.goal,.int .i64 ex.slack,.int .i64 ex.up,.int .i64 ex.down,.int .i64 ex.cool,.slice ex.ro ex.rn ex.rc]=(Qhl W2 (w.heap.size+1) ex:World):=rfl
 have qF:=xA [.int .i64 ex.node,.int .i64 ex.seq,.int .i64 ex.time,.int .i64 ex.kind,.int .i64 ex.work,.int .i64 ex.value,.int .i64 ex.mn,.int .i64 ex.mx,.int .i64 ex.goal,.int .i64 ex.slack,.int .i64 ex.up,.int .i64 ex.down,.int .i64 ex.cool,.slice ex.ro ex.rn ex.rc] HY3.out rfl
 have hbz:=xB HB3.out (show w.heap.size≤w.heap.size+1 by omega) 0 [.int .i64 ex.node,.int .i64 ex.seq,.int .i64 ex.time,.int .i64 ex.kind,.int .i64 ex.work,.int .i64 ex.value,.int .i64 ex.mn,.int .i64 ex.mx,.int .i64 ex.goal,.int .i64 ex.slack,.int .i64 ex.up,.int .i64 ex.down,.int .i64 ex.cool,.slice ex.ro ex.rn ex.rc]
 have hiz:Is (W2.setCells (w.heap.size+1) 0 [.int .i64 ex.node,.int .i64 ex.seq,.int .i64 ex.time,.int .i64 ex.kind,.int .i64 ex.work,.int .i64 ex.value,.int .i64 ex.mn,.int .i64 ex.mx,.int .i64 ex.goal,.int .i64 ex.slack,.int .i64 ex.up,.int .i64 ex.down,.int .i64 ex.cool,.slice ex.ro ex.rn ex.rc]) ex:=DotsT.keep HI3.out (fun g cs fr hg=>(yB _ _ _ _).2.1 g (fun y=>by
  rw[show g=w.heap.size+1 from y,HY3.out]at hg;exact zH lF hg))
 rw[hst]at qF hbz hiz
 generalize (Qhl W2 (w.heap.size+1) ex:World)=Z at *
 clear c0 c1 c2 c3 c4 c5 c6 c7 c8 c9 c10 c11 c12 c13 y0 y1 y2 y3 y4 y5 y6 y7 y8 y9 y10 y11 y12 y13 hst
 obtain⟨c0,c1,c2,c3,c4,c5,c6,c7,c8,c9,c10,c11,c12,c13⟩:=c14 qF
 refine bodyPost_ret (v:=evv ex) (by simp[results,results337,go_sem,c0,c1,c2,c3,c4,c5,c6,c7,c8,c9,c10,c11,c12,c13]) rfl ⟨ro,rc,by rw[HEX.out],by rw[HEX.out];exact hiz,hbz⟩
theorem rZ (e:Pl.Ev) (w:World) (hl:e.rm.length≤96) (hi:Is w e):Calls prog 165 #[evv e] w fun r w'=>∃ro rc,r=.returned (evv (e.mv ro rc))∧Is w' (e.mv ro rc)∧Below w.heap.size w w':=by
 have b1:=bn w (.cells (eva e) 175)
 have b2:=b1.alloc b1.size (.cells Qen 175)
 have hx1:=heap_alloc_new w (.cells (eva e) 175)
 have hx2:=zZ (bn _ (.cells Qen 175)) hx1
 have hy2:=heap_alloc_new (w.alloc (.cells (eva e) 175)) (.cells Qen 175)
 rw[zG]at hy2
 have HB:=zA b2
 have HX:=zA hx2
 have HY:=zA hy2
 have HC:=zA (uX e _ hl (hi.below b2))
 obtain⟨c0,c1,c2,c3,c4,c5,c6,c7,c8,c9,c10,c11,c12,c13⟩:=c14 hx2
 clear b1 b2 hx1 hx2 hy2 hi hl
 go_enter func165,ntmps165
 go_wp2_with fail
 generalize ((w.alloc (.cells (eva e) 175)).alloc (.cells Qen 175))=W at *
 refine HC.out.mono ?_
 rintro x W1 ⟨ro,rc,rfl,hi1,hb1⟩
 have hx1:=zZ hb1 HX.out
 have hy1:=zZ hb1 HY.out
 have fx:=zB hx1 13
 have d13:=cc 13 hx1
 have hx3:=zF (j:=13) hx1 (.slice ro e.rm.length rc)
 rw[wL]at hx3
 have hy3:(W1.setCell ⟨w.heap.size,13,none⟩ (.slice ro e.rm.length rc)).heap[w.heap.size+1]?=some (.cells Qen 175 (0,0)):=(Below.heap_setCell _ _ _ _ (show w.heap.size+1≠w.heap.size by omega)).trans hy1
 have hb3:=zM (HB.out.trans (hb1.mono HB.out.size)) (Nat.le_refl w.heap.size) 13 (.slice ro e.rm.length rc)
 have hi3:Is (W1.setCell ⟨w.heap.size,13,none⟩ (.slice ro e.rm.length rc)) (e.mv ro rc):=DotsT.keep hi1 (fun g cs fr hg=>Below.heap_setCell _ _ _ _ (fun y=>by
  rw[show g=w.heap.size from y,hx1]at hg;exact zH lF hg))
 clear c0 c1 c2 c3 c4 c5 c6 c7 c8 c9 c10 c11 c12 c13
 obtain⟨c0,c1,c2,c3,c4,c5,c6,c7,c8,c9,c10,c11,c12,c13⟩:=c14 hx3
 obtain⟨y0,y1,y2,y3,y4,y5,y6,y7,y8,y9,y10,y11,y12,y13⟩:=c14 hy3
 have gz:=zB hy3
 have HI3:=zA hi3
 have HB3:=zA hb3
 have HY3:=zA hy3
 clear hi1 hb1 hx1 hy1 hx3 hy3 hb3 hi3
 generalize hex:e.mv ro rc=ex at *
 have HEX:=zA hex
 clear hex
 go_wp2_with fail
 generalize W1.setCell ⟨w.heap.size,13,none⟩ (.slice ro e.rm.length rc)=W2 at *
 have hst:W2.setCells (w.heap.size+1) 0 [.int .i64 ex.node,.int .i64 ex.seq,.int .i64 ex.time,.int .i64 ex.kind,.int .i64 ex.work,.int .i64 ex.value,.int .i64 ex.mn,.int .i64 ex.mx,.int .i64 ex.goal,.int .i64 ex.slack,.int .i64 ex.up,.int .i64 ex.down,.int .i64 ex.cool,.slice ex.ro ex.rn ex.rc]=(Qhl W2 (w.heap.size+1) ex:World):=rfl
 have qF:=xA [.int .i64 ex.node,.int .i64 ex.seq,.int .i64 ex.time,.int .i64 ex.kind,.int .i64 ex.work,.int .i64 ex.value,.int .i64 ex.mn,.int .i64 ex.mx,.int .i64 ex.goal,.int .i64 ex.slack,.int .i64 ex.up,.int .i64 ex.down,.int .i64 ex.cool,.slice ex.ro ex.rn ex.rc] HY3.out rfl
 have hbz:=xB HB3.out (show w.heap.size≤w.heap.size+1 by omega) 0 [.int .i64 ex.node,.int .i64 ex.seq,.int .i64 ex.time,.int .i64 ex.kind,.int .i64 ex.work,.int .i64 ex.value,.int .i64 ex.mn,.int .i64 ex.mx,.int .i64 ex.goal,.int .i64 ex.slack,.int .i64 ex.up,.int .i64 ex.down,.int .i64 ex.cool,.slice ex.ro ex.rn ex.rc]
 have hiz:Is (W2.setCells (w.heap.size+1) 0 [.int .i64 ex.node,.int .i64 ex.seq,.int .i64 ex.time,.int .i64 ex.kind,.int .i64 ex.work,.int .i64 ex.value,.int .i64 ex.mn,.int .i64 ex.mx,.int .i64 ex.goal,.int .i64 ex.slack,.int .i64 ex.up,.int .i64 ex.down,.int .i64 ex.cool,.slice ex.ro ex.rn ex.rc]) ex:=DotsT.keep HI3.out (fun g cs fr hg=>(yB _ _ _ _).2.1 g (fun y=>by
  rw[show g=w.heap.size+1 from y,HY3.out]at hg;exact zH lF hg))
 rw[hst]at qF hbz hiz
 generalize (Qhl W2 (w.heap.size+1) ex:World)=Z at *
 clear c0 c1 c2 c3 c4 c5 c6 c7 c8 c9 c10 c11 c12 c13 y0 y1 y2 y3 y4 y5 y6 y7 y8 y9 y10 y11 y12 y13 hst
 obtain⟨c0,c1,c2,c3,c4,c5,c6,c7,c8,c9,c10,c11,c12,c13⟩:=c14 qF
 refine bodyPost_ret (v:=evv ex) (by simp[results,results165,go_sem,c0,c1,c2,c3,c4,c5,c6,c7,c8,c9,c10,c11,c12,c13]) rfl ⟨ro,rc,by rw[HEX.out],by rw[HEX.out];exact hiz,hbz⟩
end
section
open Go.RowKit Rw Rh
theorem qA {P:Program} (w:World) (base:Nat) (t ty e:TypeId) (i:TypeInfo) (z:Value) (ht:P.underlying t=some (.slice e)) (hi:P.info? e=some i) (hz:i.zero=some z)
  (v:Value) (n:Nat) (xs:List Value) (qC:w.ownsRow base e i.size v n xs) (a:Addr) (m c:Nat) (news:List Value) (hl:news.length=m*i.size)
  (hnews:∀j u,news[j]?=some u→w.cell? (a.add j)=some u) (h1:∀u∈news,u.oneCell'=true) (hm:0<m) (h63:n+m≤maxLen) (hbytes:(n+m)*i.bytes≤140737488355328) :
  ∀v' w',(Builtin.append_ #[t,t] ty #[v,.slice (some a) m c]).run P w=.ok v' w'→∀g,v'.ownBlock=some g→v.ownBlock=some g∨g=w.heap.size:=by
 intro v' w' qH g hg
 have hsmall:n+m≤9223372036854775807:=by simp only[maxLen]at h63;omega
 rcases qC.2 with⟨rfl,rfl⟩ | ⟨b,cap,cur,rfl,hbg,hgg,hnc,hcm,hcs,htake⟩
 ·have hr:=run_append_nil (P:=P) w t ty e i z ht hi hz a m c news hl hnews hm lD (by have hb:=hbytes;simp only[Nat.zero_add]at hb;omega)
  rw[hr]at qH
  cases qH
  simp[Value.ownBlock]at hg
  exact .inr hg.symm
 ·by_cases hroom:n+m≤cap
  ·have hfit:n*i.size+news.length≤cur.size:=by rw[hl,hcs,←Nat.add_mul];exact Nat.mul_le_mul_right _ hroom
   have hr:=run_append_room (P:=P) w t ty e i ht hi b n cap cur hgg a m c news hl hnews h1 hroom hfit
   rw[hr]at qH
   cases qH
   exact .inl hg
  ·have hr:=run_append_grow (P:=P) w t ty e i z ht hi hz ⟨b,0,none⟩ n cap xs qC.1 (qC.cells (g:=b) rfl) a m c news hl hnews lD lD (growslice_fits lD hbytes)
   rw[hr]at qH
   cases qH
   simp[Value.ownBlock]at hg
   exact .inr hg.symm
variable {α:Type}
theorem owp_appP (K:Rk α) {w w0:World} {o:Oper} {a:Act} {K':Act→World→Prop} {Q:Exit→Act→World→Prop} {base:Nat} {v x:Value} {xs ys:List α} (sl xl:Operand)
  (ho:o.op=.call {callee:=.builtin .append,args:=#[sl,xl],argTypes:=#[K.S,K.S]}) (hs:a.eval sl=v) (qC:OwnR K base w v xs) (hx:a.eval xl=x) (hc:RowC K w x ys) (hys:ys≠[])
  (hl:xs.length+ys.length≤1000000) (hb:Below base w0 w) (qJ:base≤w.heap.size)
  (h:∀v' w',OwnR K base w' v' (xs++ys)→Below base w0 w'→w.grownBy w' v.ownBlock→(∀g,v'.ownBlock=some g→v.ownBlock=some g∨g=w.heap.size)→K' (a.put o.dst v') w'):Oper.wp prog o a w K' Q:=by
 obtain⟨i5,hi5,z0,z1,z2⟩:=info_parts K.hi
 obtain⟨ao,cap,rfl⟩:=hc.form
 have hbb:=K.hb
 have hlen:0<ys.length:=by cases ys with
  | nil=>exact absurd rfl hys
  | cons a b=>simp
 obtain⟨ad,rfl⟩:∃ad,ao=some ad:=by
  cases ao with
  | some ad=>exact⟨ad,rfl⟩
  | none=>have:=(hc.none rfl).1;omega
 have h63:xs.length+ys.length≤maxLen:=by unfold maxLen;omega
 have hby:(xs.length+ys.length)*K.bytes≤140737488355328:=by
  have:=Nat.mul_le_mul hl hbb
  omega
 obtain⟨v',w',hr,h2,h3,h4⟩:=run_append_own (P:=prog) w base K.S o.type K.T i5 K.z K.k K.bytes K.hu hi5 z0 z1 z2 K.hz K.hk v xs.length (K.encs xs) qC ad ys.length cap (K.encs ys) (K.encs_length ys) (hc.news ad rfl) (K.encs_one ys) h63 hby qJ
 have hpl:=qA (P:=prog) w base K.S o.type K.T i5 K.z K.hu hi5 z0 v xs.length (K.encs xs) (by rw[z1];exact qC) ad ys.length cap (K.encs ys) (by rw[z1];exact K.encs_length ys) (hc.news ad rfl) (K.encs_one ys) hlen h63 (by rw[z2];exact hby) v' w' hr
 unfold Oper.wp
 simp[execOp,ho,resolve,invoke,builtin,hs,hx,hr,Result.andThen]
 refine h v' w' ?_ (hb.grown h3 qJ (fun k hk=>(qC.lt k hk).1)) h3 hpl
 unfold OwnR;rw[List.length_append,K.encs_append]
 exact h2
theorem idxe_none (v:Value) (f:Nat) (cb:Array Value) (es:List Pl.Ev) (w:World) (hl:es.length≤1000000) (hx:RowC kEv w v es)
  (hcf:∀(x:Value) (W:World),Sem.run prog (callFunc f (#[x]++cb)) W=.ok (.enter f (#[x]++cb)) W)
  (hC:∀e∈es,∀W,Below w.heap.size w W→Calls prog f (#[evv e]++cb) W fun r w'=>r=.returned (.bool false)∧Below W.heap.size W w') :
  Calls prog 403 #[v,.func (.func f) #[] cb] w fun r w'=>r=.returned (.int .i64 (-1))∧Below w.heap.size w w':=by
 have HX:=zA hx
 obtain⟨ao,cap,rfl⟩:=hx.form
 have HC:=zA hC
 clear hC hx
 go_enter func403,ntmps403
 go_wp2_with fail
 go_loopw [8] (fun i wr=>∃(k:Nat),k≤es.length∧i=.int .i64 k∧Below w.heap.size w wr) (fun i _=>es.length - (intOf i).toNat)
 case atStart=>exact⟨0,by omega,rfl,Below.refl _ _⟩
 case round=>
  obtain⟨k,hk,rfl,hI⟩:=hrel
  have HI:=zA hI
  by_cases hlt:k<es.length
  ·obtain⟨g,off,cap',hv,hg,c0,c1,c2,c3,c4,c5,c6,c7,c8,c9,c10,c11,c12,c13⟩:=xS (HX.out.below hI) hlt
   cases hv
   have HC2:=zA (HC.out _ (List.getElem_mem hlt) wr hI)
   clear hI
   generalize es[k]=ev at *
   exact nX
  ·obtain rfl:k=es.length:=by omega
   clear hI hlt
   go_wp2_with fail
   go_ret
   exact⟨rfl,HI.out⟩
theorem shas1_ok (e:Pl.Ev) (t:Nat) (n s:Int) (w:World) (ht:w.heap[t]?=some (.cells (Qi n s) 45 (0,0))) (hne:(e.node == n&&e.seq == s)=false) :
  Calls prog 378 #[evv e,Qp t] w fun r w'=>r=.returned (.bool false)∧Below w.heap.size w w':=by
 have b1:=bn w (.cells e 175)
 have hx:=heap_alloc_new w (.cells e 175)
 have hy:=(b1.block t (gsi.1 ht).1).trans ht
 have HB:=zA b1
 have heq:∀w,(binOp .eql 45 (.agg (Qi e.node e.seq)) (.agg (Qi n s))).run prog w=.ok (.bool false) w:=fun w=>by rw[eql45,hne]
 obtain⟨c0,c1,c2,c3,c4,c5,c6,c7,c8,c9,c10,c11,c12,c13⟩:=c14 hx
 have d0:=cc 0 hy
 have d1:=cc 1 hy
 clear b1 hx hy ht hne
 go_enter func378,ntmps378
 go_wp2_with fail
 go_ret
 exact⟨rfl,HB.out⟩
theorem sV (v:Value) (es:List Pl.Ev) (n s:Int) (w:World) (hl:es.length≤1000000) (hx:RowC kEv w v es) (hne:∀e∈es,(e.node == n&&e.seq == s)=false) :
  Calls prog 349 #[v,.agg (Qi n s)] w fun r w'=>r=.returned (.bool false)∧Below w.heap.size w w':=by
 have b1:=bn w (.cells (Qi n s) 45)
 have ht:=heap_alloc_new w (.cells (Qi n s) 45)
 have HC:Hid (Calls prog 377 #[v,.func (.func 378) #[] #[Qp w.heap.size]] (w.alloc (.cells (Qi n s) 45)) fun r w'=>r=.returned (.bool false)∧Below (w.alloc (.cells (Qi n s) 45)).heap.size (w.alloc (.cells (Qi n s) 45)) w'):=zA (by
  have qD:=hx.below b1
  generalize w.alloc (.cells (Qi n s) 45)=W at *
  have HI:=zA (idxe_none v 378 #[Qp w.heap.size] es W hl qD (fun x W=>by kernel_rfl) (fun e he W' hW=>shas1_ok e w.heap.size n s W' (zZ hW ht) (hne e he)))
  obtain⟨ao,cap,rfl⟩:=hx.form
  clear hx hne qD ht b1
  go_enter func377,ntmps377
  go_wp2_with fail
  refine HI.out.mono ?_
  rintro e w1 ⟨rfl,b1⟩
  have HB:=zA b1
  clear b1 HI
  go_wp2_with fail
  go_ret
  exact⟨rfl,HB.out⟩)
 have HB:=zA b1
 obtain⟨ao,cap,rfl⟩:=hx.form
 clear hx hne ht b1
 go_enter func349,ntmps349
 go_wp2_with fail
 refine HC.out.mono ?_
 rintro e w1 ⟨rfl,b1⟩
 have HB1:=zA (HB.out.trans (b1.mono HB.out.size))
 clear b1 HC
 go_wp2_with fail
 go_ret
 exact⟨rfl,HB1.out⟩
end
end Go.Proofs.YtodlmbfbfaofcaaGreat
