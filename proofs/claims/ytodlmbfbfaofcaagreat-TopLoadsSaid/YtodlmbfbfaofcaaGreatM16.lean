/- TopLoads, part 16. -/
import Derived.Test.YtodlmbfbfaofcaaGreatM01
import Derived.Test.YtodlmbfbfaofcaaGreatM03
import Derived.Test.YtodlmbfbfaofcaaGreatM07
import Derived.Test.YtodlmbfbfaofcaaGreatM13
import Derived.Test.YtodlmbfbfaofcaaGreatM15
open Go.Proofs.Tryz
namespace Go.Proofs.YtodlmbfbfaofcaaGreat
set_option linter.unusedVariables false
set_option linter.unusedSimpArgs false
set_option maxRecDepth 100000
set_option maxHeartbeats 4000000
section
open Go.RowKit Rw Rh
def kEv:Rk Pl.Ev where
 T:=175
 S:=97
 k:=14
 bytes:=128
 z:=.agg Qen
 enc:=fun e=>[.int .i64 e.node,.int .i64 e.seq,.int .i64 e.time,.int .i64 e.kind,.int .i64 e.work,.int .i64 e.value,.int .i64 e.mn,.int .i64 e.mx,.int .i64 e.goal,.int .i64 e.slack,.int .i64 e.up,.int .i64 e.down,.int .i64 e.cool,.slice none 0 0]
 hlen:=fun _=>rfl
 hone:=fun x u hu=>by
  simp at hu
  rcases hu with rfl | rfl | rfl | rfl | rfl | rfl | rfl | rfl | rfl | rfl | rfl | rfl | rfl | rfl<;>rfl
 hk:=by decide
 hu:=by kernel_rfl
 hi:=by kernel_rfl
 hz:=rfl
 hb:=by decide
theorem tQ {α:Type} (K:Rk α) (w:World) (base:Nat) (xs:List α) (cs:Array Value) (n:Nat) (hb:base≤w.heap.size) (hn:n=xs.length) (hl:n≤1000000) (hcs:cs=(K.encs xs).toArray):OwnR K base (w.alloc (.cells cs K.T)) (.slice (some ⟨w.heap.size,0,none⟩) n n) xs:=by
 subst hcs hn
 refine⟨K.encs_length xs,.inr ⟨w.heap.size,xs.length,(K.encs xs).toArray,rfl,hb,heap_alloc_new w _,Nat.le_refl _,Nat.le_trans hl (by decide),by simp[K.encs_length],?_⟩⟩
 rw[List.take_of_length_le (by simp[K.encs_length])]
theorem xX {w:World} {v:Value} {es:List Pl.Ev} (h:RowC kEv w v es) {i:Nat} (hi:i<es.length):∃g off cap,v=.slice (some ⟨g,off,none⟩) es.length cap∧g<w.heap.size∧
  w.cell? ⟨g,off+i*14,none⟩=some (.int .i64 (es[i]).node)∧w.cell? ⟨g,off+i*14+1,none⟩=some (.int .i64 (es[i]).seq)∧w.cell? ⟨g,off+i*14+2,none⟩=some (.int .i64 (es[i]).time)∧w.cell? ⟨g,off+i*14+3,none⟩=some (.int .i64 (es[i]).kind)∧w.cell? ⟨g,off+i*14+4,none⟩=some (.int .i64 (es[i]).work)∧w.cell? ⟨g,off+i*14+5,none⟩=some (.int .i64 (es[i]).value)∧w.cell? ⟨g,off+i*14+6,none⟩=some (.int .i64 (es[i]).mn)∧w.cell? ⟨g,off+i*14+7,none⟩=some (.int .i64 (es[i]).mx)∧w.cell? ⟨g,off+i*14+8,none⟩=some (.int .i64 (es[i]).goal)∧w.cell? ⟨g,off+i*14+9,none⟩=some (.int .i64 (es[i]).slack)∧w.cell? ⟨g,off+i*14+10,none⟩=some (.int .i64 (es[i]).up)∧w.cell? ⟨g,off+i*14+11,none⟩=some (.int .i64 (es[i]).down)∧w.cell? ⟨g,off+i*14+12,none⟩=some (.int .i64 (es[i]).cool)∧w.cell? ⟨g,off+i*14+13,none⟩=some (.slice none 0 0):=by
 obtain⟨g,off,cap,e,hg,hc⟩:=h.cell hi
 exact⟨g,off,cap,e,hg,hc 0 _ rfl,hc 1 _ rfl,hc 2 _ rfl,hc 3 _ rfl,hc 4 _ rfl,hc 5 _ rfl,hc 6 _ rfl,hc 7 _ rfl,hc 8 _ rfl,hc 9 _ rfl,hc 10 _ rfl,hc 11 _ rfl,hc 12 _ rfl,hc 13 _ rfl⟩
namespace Pl
def codes (es:List Ev):List Int:=es.flatMap (fun e=>vints e.nums)
theorem codes_succ (es:List Ev) (k:Nat) (h:k<es.length):codes (es.take (k+1))=codes (es.take k)++vints (es[k]).nums:=by
 unfold codes
 rw[List.take_succ_eq_append_getElem h,List.flatMap_append]
 simp
theorem codes_len (es:List Ev) (h:∀e∈es,e.Ok):(codes es).length≤78*es.length:=by
 unfold codes
 induction es with
 | nil=>simp
 | cons a l ih=>
  rw[List.flatMap_cons,List.length_append,List.length_cons]
  have:=ih (fun n hn=>h n (by simp[hn]))
  have h1:=vints_len a.nums (h a (by simp)).small
  have:=(h a (by simp)).len
  omega
end Pl
theorem putall_ok (v:Value) (es:List Pl.Ev) (w:World) (h:RowC kEv w v es) (hn:es.length≤768) (he:∀e∈es,e.Ok) :
  Calls prog 160 #[v] w fun r w'=>∃v',r=.returned (.tuple #[v',.int .i64 0])∧OwnB w.heap.size w' v' (Pl.vint es.length++Pl.codes es)∧Below w.heap.size w w':=by
 obtain⟨ao,cap,rfl⟩:=h.form
 have b1:=bn w (.cells (Qo 0) 41)
 have b2:=b1.alloc b1.size (.cells #[.slice none 0 0] 373)
 have b3:=b2.alloc b2.size (.cells (Qo es.length) 3)
 have hx1:=heap_alloc_new w (.cells (Qo 0) 41)
 have hx2:=((bn _ (.cells #[.slice none 0 0] 373)).block _ (gsi.1 hx1).1).trans hx1
 have hx3:=((bn _ (.cells (Qo es.length) 3)).block _ (gsi.1 hx2).1).trans hx2
 have hy2:=heap_alloc_new (w.alloc (.cells (Qo 0) 41)) (.cells #[.slice none 0 0] 373)
 rw[zE]at hy2
 have hy3:=((bn _ (.cells (Qo es.length) 3)).block _ (gsi.1 hy2).1).trans hy2
 have hz3:=heap_alloc_new ((w.alloc (.cells (Qo 0) 41)).alloc (.cells #[.slice none 0 0] 373)) (.cells (Qo es.length) 3)
 rw[zE,zE]at hz3
 have hwr:WrAt w.heap.size (((w.alloc (.cells (Qo 0) 41)).alloc (.cells #[.slice none 0 0] 373)).alloc (.cells (Qo es.length) 3)) (w.heap.size+1) []:=⟨by omega,_,hy3,xS _ _⟩
 have cn:=cc 0 hz3
 have HNUM:=zA (wnum_ok w.heap.size (w.heap.size+1) (w.heap.size+1+1) 0 es.length [] _ hwr b3.size (by simp) (by omega) cn (gsi.1 hz3).1)
 have HB:=zA b3
 have HX:=zA hx3
 have HR:=zA h
 have HOK:=zA he
 have HLE:=zA hn
 have hn0:¬(768:Int)<es.length:=by omega
 clear b1 b2 b3 hx1 hx2 hx3 hy2 hy3 hz3 hwr h he hn
 go_enter_defers func160,ntmps160
 go_wp2_with fail
 generalize (((w.alloc (.cells (Qo 0) 41)).alloc (.cells #[.slice none 0 0] 373)).alloc (.cells (Qo es.length) 3))=W at *
 refine HNUM.out.mono ?_
 rintro x w1 ⟨rfl,hw1,o1⟩
 rw[List.nil_append]at hw1
 have HW1:=zA hw1
 have HB1:=zA (o1.to_below HB.out (by omega))
 have HX1:=zA ((o1.same _ (gsi.1 HX.out).1 (fun e=>by have:w.heap.size=w.heap.size+1:=e;omega)).trans HX.out)
 clear hw1 o1 HNUM cn
 go_wp2_with fail
 go_loopw [18] (fun i wr=>∃(k:Nat),k≤es.length∧i=.int .i64 k∧WrAt w.heap.size wr (w.heap.size+1) (Pl.vint es.length++Pl.codes (es.take k))∧Below w.heap.size w wr∧wr.heap[w.heap.size]?=some (.cells (Qo 0) 41 (0,0))) (fun i _=>es.length - (intOf i).toNat)
 case atStart=>exact⟨0,by omega,rfl,by simpa[Pl.codes]using HW1.out,HB1.out,HX1.out⟩
 case round=>
  obtain⟨k,hk,rfl,hw,hb,hx⟩:=hrel
  by_cases hlt:k<es.length
  ·obtain⟨g,off,cap',e1,hg,c0,c1,c2,c3,c4,c5,c6,c7,c8,c9,c10,c11,c12,c13⟩:=xX (HR.out.below hb) hlt
   cases e1
   have a1:(k:Int)+1≤9223372036854775807:=by have:=HLE.out;omega
   have b2:=bn wr (.cells (es[k]) 175)
   have hl:(Pl.vint es.length++Pl.codes (es.take k)).length≤800000:=by
    have h1:=Pl.codes_len (es.take k) (fun e he=>HOK.out e (List.mem_of_mem_take he))
    have h2:=Pl.vint_len6 (n:=es.length) (by have:=HLE.out;omega)
    rw[List.length_take]at h1
    rw[List.length_append]
    have:=HLE.out
    omega
   have qO:=zA (wput_ok w.heap.size (w.heap.size+1) es[k] _ _ (hw.below b2) (Nat.le_trans hb.size b2.size) hl (HOK.out _ (List.getElem_mem hlt)))
   have HNX:=zA (Pl.codes_succ es k hlt)
   have HBA:=zA (hb.trans (b2.mono hb.size))
   have HXA:=zA ((b2.block _ (gsi.1 hx).1).trans hx)
   have rW:=heap_alloc_new wr (.cells (es[k]) 175)
   clear b2 hl hw hb hx
   generalize es[k]=ev at *
   have d0:=cc 0 rW
   have d1:=cc 1 rW
   have d2:=cc 2 rW
   have d3:=cc 3 rW
   have d4:=cc 4 rW
   have d5:=cc 5 rW
   have d6:=cc 6 rW
   have d7:=cc 7 rW
   have d8:=cc 8 rW
   have d9:=cc 9 rW
   have d10:=cc 10 rW
   have d11:=cc 11 rW
   have d12:=cc 12 rW
   have d13:=cc 13 rW
   clear rW
   go_wp2_with fail
   generalize wr.alloc (.cells ev 175)=W2 at *
   refine qO.out.mono ?_
   rintro x w3 ⟨rfl,hw3,o3⟩
   have hb3:=o3.to_below HBA.out (by omega)
   have hx3:=(o3.same _ (gsi.1 HXA.out).1 (fun e=>by have:w.heap.size=w.heap.size+1:=e;omega)).trans HXA.out
   have HW3:=zA hw3
   have HB3:=zA hb3
   have HX3:=zA hx3
   clear hw3 hb3 hx3 o3 qO
   go_wp2_with fail
   exact⟨⟨k+1,by omega,rfl,by rw[HNX.out,←List.append_assoc];exact HW3.out,HB3.out,HX3.out⟩,by simp[intOf];omega⟩
  ·obtain rfl:k=es.length:=by omega
   rw[List.take_length]at hw
   obtain⟨_,v,hv,rX⟩:=hw
   have cp:=cc 0 hv
   have cf:=cc 0 hx
   have ff:=zB hx 0
   have hownz:OwnB w.heap.size (wr.setCell ⟨w.heap.size,0,none⟩ (.int .i64 0)) v (Pl.vint es.length++Pl.codes es):=rX.keep (fun g cs fr hg=>Below.heap_setCell _ _ _ _ (fun e=>by
    rw[show g=w.heap.size from e,hx]at hg;exact zI (by decide) hg))
   have hbz:=zP hb (Nat.le_refl w.heap.size) 0 (.int .i64 0)
   have cz:=World.cell?_setCell_same wr ⟨w.heap.size,0,none⟩ (.int .i64 0) cf
   have HO:=zA hownz
   have HBZ:=zA hbz
   clear hv rX hx hb hownz hbz hlt hk
   go_wp2_with fail
   refine leaves_cons (f:=184) (args:=#[Qp w.heap.size]) (by simp) (by simp[go_sem]) ?_
   refine(vS _ _).mono ?_
   rintro e' u' w'' ⟨rfl,rfl,rfl⟩
   generalize wr.setCell ⟨w.heap.size,0,none⟩ (.int .i64 0)=Z at *
   simp[Leaves,settle,results,results160,go_sem,cz]
   exact⟨HO.out,HBZ.out⟩
def kLat:Rk Pl.Ev where
 T:=279
 S:=277
 k:=14
 bytes:=128
 z:=.agg Qen
 enc:=kEv.enc
 hlen:=fun _=>rfl
 hone:=kEv.hone
 hk:=by decide
 hu:=by kernel_rfl
 hi:=by kernel_rfl
 hz:=rfl
 hb:=by decide
theorem lat_cells {w:World} {v:Value} {es:List Pl.Ev} (h:RowC kLat w v es) {i:Nat} (hi:i<es.length):∃g off cap,v=.slice (some ⟨g,off,none⟩) es.length cap∧g<w.heap.size∧
  w.cell? ⟨g,off+i*14,none⟩=some (.int .i64 (es[i]).node)∧w.cell? ⟨g,off+i*14+1,none⟩=some (.int .i64 (es[i]).seq)∧w.cell? ⟨g,off+i*14+2,none⟩=some (.int .i64 (es[i]).time)∧w.cell? ⟨g,off+i*14+3,none⟩=some (.int .i64 (es[i]).kind)∧w.cell? ⟨g,off+i*14+4,none⟩=some (.int .i64 (es[i]).work)∧w.cell? ⟨g,off+i*14+5,none⟩=some (.int .i64 (es[i]).value)∧w.cell? ⟨g,off+i*14+6,none⟩=some (.int .i64 (es[i]).mn)∧w.cell? ⟨g,off+i*14+7,none⟩=some (.int .i64 (es[i]).mx)∧w.cell? ⟨g,off+i*14+8,none⟩=some (.int .i64 (es[i]).goal)∧w.cell? ⟨g,off+i*14+9,none⟩=some (.int .i64 (es[i]).slack)∧w.cell? ⟨g,off+i*14+10,none⟩=some (.int .i64 (es[i]).up)∧w.cell? ⟨g,off+i*14+11,none⟩=some (.int .i64 (es[i]).down)∧w.cell? ⟨g,off+i*14+12,none⟩=some (.int .i64 (es[i]).cool)∧w.cell? ⟨g,off+i*14+13,none⟩=some (.slice none 0 0):=by
 obtain⟨g,off,cap,e,hg,hc⟩:=h.cell hi
 exact⟨g,off,cap,e,hg,hc 0 _ rfl,hc 1 _ rfl,hc 2 _ rfl,hc 3 _ rfl,hc 4 _ rfl,hc 5 _ rfl,hc 6 _ rfl,hc 7 _ rfl,hc 8 _ rfl,hc 9 _ rfl,hc 10 _ rfl,hc 11 _ rfl,hc 12 _ rfl,hc 13 _ rfl⟩
theorem pins_small (sl:Value) (n:Nat) (hn:n≤1) (w:World):Calls prog 320 #[sl,.int .i64 0,.int .i64 n,(Qm 168)] w fun r w'=>r=.returned (.tuple #[])∧w=w':=by
 have h1:¬(1:Int)<n:=by omega
 go_enter func320,ntmps320
 go_wp2_with fail
 go_loopw [8] (fun i wr=>i=.int .i64 1∧w=wr) (fun i _=>0)
 case atStart=>exact⟨rfl,rfl⟩
 case round=>
  obtain⟨rfl,rfl⟩:=hrel
  go_wp2_with fail
  exact yD results320 ⟨rfl,rfl⟩
theorem sH (sl:Value) (n:Nat) (hn:n≤1) (w:World):Calls prog 257 #[sl,.int .i64 n,(Qm 168)] w fun r w'=>r=.returned (.tuple #[])∧w=w':=by
 have h1:¬(20:Int)≤n:=by omega
 have h2:¬(20:Int)<n:=by omega
 go_enter func257,ntmps257
 go_wp2_with fail
 go_loopw [7,8] (fun i j wr=>i=.int .i64 0∧j=.int .i64 20∧w=wr) (fun i _ _=>0)
 case atStart=>exact⟨rfl,rfl,rfl⟩
 case round=>
  obtain⟨rfl,rfl,rfl⟩:=hrel
  go_wp2_with fail
  refine(pins_small sl n hn w).mono ?_
  rintro x w1 ⟨rfl,rfl⟩
  go_wp2_with fail
  go_loopw [6] (fun i wr=>i=.int .i64 20∧w=wr) (fun i _=>0)
  case atStart=>exact⟨rfl,rfl⟩
  case round=>
   obtain⟨rfl,rfl⟩:=hrel
   go_wp2_with fail
   exact yD results257 ⟨rfl,rfl⟩
theorem psort_small (ao:Option Addr) (n cap:Nat) (hn:n≤1) (w:World):Calls prog 167 #[.slice ao n cap,(Qm 168)] w fun r w'=>r=.returned (.tuple #[])∧w=w':=by
 have HN:=zA hn
 clear hn
 go_enter func167,ntmps167
 go_wp2_with fail
 refine(sH _ n HN.out w).mono ?_
 rintro x w1 ⟨rfl,rfl⟩
 go_wp2_with fail
 exact yD results167 ⟨rfl,rfl⟩
namespace Pl
def sets (es:List Ev) (work:Int):List Ev:=es.filter (fun e=>e.kind == 2&&e.work == work)
theorem sets_succ (es:List Ev) (work:Int) (k:Nat) (h:k<es.length):sets (es.take (k+1)) work=sets (es.take k) work++sets [es[k]] work:=by
 unfold sets
 rw[List.take_succ_eq_append_getElem h,List.filter_append]
theorem sets_len (es:List Ev) (work:Int):(sets es work).length≤es.length:=List.length_filter_le _ _
end Pl
set_option maxRecDepth 1000000 in
theorem psets_ok (v:Value) (es:List Pl.Ev) (work:Int) (w:World) (h:RowC kEv w v es) (hn:es.length≤1000) (hs:(Pl.sets es work).length≤1) :
  Calls prog 97 #[v,.int .i64 work] w fun r w'=>∃v',r=.returned v'∧OwnR kEv w.heap.size w' v' (Pl.sets es work)∧Below w.heap.size w w':=by
 obtain⟨ao,cap,rfl⟩:=h.form
 have HR:=zA h
 have HLE:=zA hn
 have HS:=zA hs
 clear h hn hs
 go_enter func97,ntmps97
 go_wp2_with fail
 go_loopw [5,13] (fun u i wr=>∃(k:Nat),k≤es.length∧i=.int .i64 k∧OwnR kLat w.heap.size wr u (Pl.sets (es.take k) work)∧Below w.heap.size w wr) (fun _ i _=>es.length - (intOf i).toNat)
 case atStart=>exact⟨0,by omega,rfl,yH _ _ _,Below.refl _ _⟩
 case round=>
  obtain⟨k,hk,rfl,ho,hb⟩:=hrel
  by_cases hlt:k<es.length
  ·obtain⟨g,off,cap',e1,hg,c0,c1,c2,c3,c4,c5,c6,c7,c8,c9,c10,c11,c12,c13⟩:=xX (HR.out.below hb) hlt
   cases e1
   have a1:(k:Int)+1≤9223372036854775807:=by have:=HLE.out;omega
   have b2:=bn wr (.cells (es[k]) 175)
   have HNX:=zA (Pl.sets_succ es work k hlt)
   have HLK:=zA (show(Pl.sets (es.take k) work).length≤k from Nat.le_trans (Pl.sets_len _ _) (by rw[List.length_take];omega))
   have HBA:=zA (hb.trans (b2.mono hb.size))
   have HO:=zA (ho.below b2)
   have rW:=heap_alloc_new wr (.cells (es[k]) 175)
   clear b2 ho hb
   generalize es[k]=ev at *
   have d0:=cc 0 rW
   have d1:=cc 1 rW
   have d2:=cc 2 rW
   have d3:=cc 3 rW
   have d4:=cc 4 rW
   have d5:=cc 5 rW
   have d6:=cc 6 rW
   have d7:=cc 7 rW
   have d8:=cc 8 rW
   have d9:=cc 9 rW
   have d10:=cc 10 rW
   have d11:=cc 11 rW
   have d12:=cc 12 rW
   have d13:=cc 13 rW
   have qI:=zA rW
   clear rW
   cases hk1:(ev.kind == 2)with
   | false=>
    have pY:=zA (show Pl.sets [ev] work=[] by simp[Pl.sets,hk1])
    go_wp2_with fail
    exact⟨⟨k+1,by omega,rfl,by rw[HNX.out,pY.out,List.append_nil];exact HO.out,HBA.out⟩,by simp[intOf];omega⟩
   | true=>
    cases hk2:(ev.work == work)with
    | false=>
     have pY:=zA (show Pl.sets [ev] work=[] by simp[Pl.sets,hk2])
     go_wp2_with fail
     exact⟨⟨k+1,by omega,rfl,by rw[HNX.out,pY.out,List.append_nil];exact HO.out,HBA.out⟩,by simp[intOf];omega⟩
    | true=>
     have Hone:=zA (show Pl.sets [ev] work=[ev] by simp[Pl.sets,hk1,hk2])
     go_wp2_with fail
     have hid:(wr.alloc (.cells ev 175)).setCell ⟨wr.heap.size,13,none⟩ (.slice none 0 0)=wr.alloc (.cells ev 175):=zL qI.out (j:=13) (v:=.slice none 0 0) rfl
     have fz:=zB qI.out 13
     clear qI
     generalize wr.alloc (.cells ev 175)=W2 at *
     refine(xL W2).mono ?_
     rintro x w2 ⟨rfl,rfl⟩
     have b8:=bn W2 (.cells (eva ev) 279)
     have HO8:=zA (HO.out.below b8)
     have HB8:=zA (HBA.out.trans (b8.mono HBA.out.size))
     have qC:=zA (yJ kLat W2 [ev] (eva ev) 1 rfl (by simp[Rk.encs,kLat,kEv]))
     clear b8
     go_wp2_with (
      at_builtin
      refine yT kLat rfl (.tmp 30) (.tmp 32) rfl rfl HO8.out rfl qC.out (by have:=HLK.out;have:=HLE.out;simp;omega) HB8.out HB8.out.size ?_
      intro v1 w1 hown1 hb1 hg0
      have HV1:=zA hown1
      have HBV:=zA hb1
      clear hown1 hb1 hg0)
     exact⟨⟨k+1,by omega,rfl,by rw[HNX.out,Hone.out];exact HV1.out,HBV.out⟩,by simp[intOf];omega⟩
  ·obtain rfl:k=es.length:=by omega
   rw[List.take_length]at ho
   have HB:=zA hb
   generalize hS:Pl.sets es work=S at *
   have HSS:=zA hS
   clear hS
   have HO:=zA ho.toT.toC
   obtain⟨ao2,cap2,rfl⟩:=ho.toT.form
   clear hlt hk ho hb
   go_wp2_with fail
   refine(psort_small ao2 S.length cap2 HS.out wr).mono ?_
   rintro x w2 ⟨rfl,rfl⟩
   go_wp2_with fail
   have⟨W0,eq⟩:∃x,x=wr:=⟨wr,rfl⟩
   subst eq
   go_loopw [8,39] (fun u i wr=>∃(k:Nat),k≤S.length∧i=.int .i64 k∧OwnR kEv W0.heap.size wr u (S.take k)∧Below W0.heap.size W0 wr) (fun _ i _=>S.length - (intOf i).toNat)
   case atStart=>exact⟨0,by omega,rfl,yH _ _ _,Below.refl _ _⟩
   case round=>
    obtain⟨k,hk,rfl,ho,hbr⟩:=hrel
    by_cases hlt:k<S.length
    ·obtain⟨g,off,cap',e1,hg,c0,c1,c2,c3,c4,c5,c6,c7,c8,c9,c10,c11,c12,c13⟩:=lat_cells (HO.out.below hbr) hlt
     cases e1
     have a1:(k:Int)+1≤9223372036854775807:=by have:=HS.out;omega
     have b2:=bn wr (.cells (S[k]) 279)
     have HNX:=zA (List.take_succ_eq_append_getElem hlt)
     have HBR:=zA (hbr.trans (b2.mono hbr.size))
     have HO1:=zA (ho.below b2)
     have HTL:=zA (show(S.take k).length≤1 by have:=HS.out;rw[List.length_take];omega)
     have rW:=heap_alloc_new wr (.cells (S[k]) 279)
     clear b2 ho hbr
     generalize S[k]=ev at *
     have d0:=cc 0 rW
     have d1:=cc 1 rW
     have d2:=cc 2 rW
     have d3:=cc 3 rW
     have d4:=cc 4 rW
     have d5:=cc 5 rW
     have d6:=cc 6 rW
     have d7:=cc 7 rW
     have d8:=cc 8 rW
     have d9:=cc 9 rW
     have d10:=cc 10 rW
     have d11:=cc 11 rW
     have d12:=cc 12 rW
     have d13:=cc 13 rW
     clear rW
     have b8:=(Below.refl (wr.alloc (.cells ev 279)).heap.size (wr.alloc (.cells ev 279))).alloc (Nat.le_refl _) (.cells (eva ev) 175)
     have HO8:=zA (HO1.out.below b8)
     have HR8:=zA (HBR.out.trans (b8.mono HBR.out.size))
     have qG:=yJ kEv (wr.alloc (.cells ev 279)) [ev] (eva ev) 1 rfl (by simp[Rk.encs,kEv])
     rw[zE]at qG
     have qC:=zA qG
     clear qG
     clear b8
     go_wp2_with (
      at_builtin
      refine yT kEv rfl (.tmp 43) (.tmp 45) rfl rfl HO8.out rfl qC.out (by have:=HTL.out;have h1:[ev].length=1:=rfl;omega) HR8.out HR8.out.size ?_
      intro v1 w1 hown1 hb1 hg0
      have HV1:=zA hown1
      have HBV:=zA hb1
      clear hown1 hb1 hg0)
     exact⟨⟨k+1,by omega,rfl,by rw[HNX.out];exact HV1.out,HBV.out⟩,by simp[intOf];omega⟩
    ·obtain rfl:k=S.length:=by omega
     rw[List.take_length]at ho
     go_wp2_with fail
     go_ret
     exact⟨_,rfl,by rw[HSS.out];exact OwnR.mono ho HB.out.size,HB.out.trans (hbr.mono HB.out.size)⟩
theorem rend_ok (r:Nat) (w:World) (h:RdAt w r []):Calls prog 189 #[.agg #[Qp r],.bool true] w fun e w'=>e=.returned (.tuple #[])∧Below w.heap.size w w':=by
 have b1:=bn w (.cells #[Qp r] 299)
 have hx:=heap_alloc_new w (.cells #[Qp r] 299)
 have HL:=zA (vI r [] _ (h.below b1))
 have HB:=zA b1
 have c0:=cc 0 hx
 clear h hx b1
 go_enter func189,ntmps189
 go_wp2_with fail
 refine HL.out.mono ?_
 rintro e w' ⟨rfl,rfl⟩
 go_wp2_with fail
 exact yD results189 ⟨rfl,HB.out⟩
theorem RdAt.ne {w:World} {r g t:Nat} {bs:List Int} {cs:Array Value} {fr:Nat×Nat} (h:RdAt w r bs) (hg:w.heap[g]?=some (.cells cs t fr)) (ht:t≠293):g≠r:=fun e=>by
 obtain⟨v,⟨cs',h3,_⟩,_⟩:=h
 rw[e,h3]at hg;exact zI (fun x=>ht x.symm) hg
theorem xW {w w':World} {row:Option Nat} {g t T:Nat} {cs:Array Value} {fr:Nat×Nat} (hg:w.grownBy w' row) (rZ:∀g,row=some g→∃cs,w.heap[g]?=some (.cells cs T (0,0))) (h:w.heap[g]?=some (.cells cs t fr)) (ht:t≠T):w'.heap[g]?=some (.cells cs t fr):=
 (hg.block g (gsi.1 h).1 (fun e=>by
  obtain⟨cs',h2⟩:=rZ g e.symm
  rw[h]at h2;exact zI ht h2)).trans h
theorem RdAt.grownT {w w':World} {r T:Nat} {bs:List Int} {row:Option Nat} (h:RdAt w r bs) (hg:w.grownBy w' row) (rZ:∀g,row=some g→∃cs,w.heap[g]?=some (.cells cs T (0,0))) (ht:293≠T∧5≠T):RdAt w' r bs:=by
 obtain⟨v,h1,h2⟩:=h
 obtain⟨cs',h3,_⟩:=id h1
 exact⟨v,World.rowIs.of_block h1 ((xW hg rZ h3 ht.1).trans h3.symm),h2.keep (fun g cs fr hc=>(xW hg rZ hc ht.2).trans hc.symm)⟩
theorem Off.two {F:Nat→Prop} {w0 w w':World} (o:Off F w w') (b:Below w0.heap.size w0 w) (hF:∀g,F g→w0.heap.size≤g):Below w0.heap.size w0 w':=o.since b hF
theorem getall_ok (v:Value) (es:List Pl.Ev) (w:World) (h:BytesC w v (Pl.vint es.length++Pl.codes es)) (hn:es.length≤768) (he:∀e∈es,e.Ok) :
  Calls prog 113 #[v] w fun r w'=>∃v',r=.returned (.tuple #[v',.int .i64 0])∧OwnR kEv w.heap.size w' v' es∧Below w.heap.size w w':=by
 have hl:(Pl.vint es.length++Pl.codes es).length≤1000000:=by
  have h1:=Pl.codes_len es he
  have h2:=Pl.vint_len6 (n:=es.length) (by omega)
  rw[List.length_append]
  omega
 have b1:=bn w (.cells (Qo 0) 41)
 have qI:=zA (uS v _ _ (h.below b1) hl)
 have HB:=zA b1
 have HF:=zA (heap_alloc_new w (.cells (Qo 0) 41))
 have HOK:=zA he
 have HLE:=zA hn
 have hn0:¬(768:Int)<es.length:=by omega
 clear h hl b1 he hn
 go_enter_defers func113,ntmps113
 go_wp2_with fail
 generalize w.alloc (.cells (Qo 0) 41)=W1 at *
 refine qI.out.mono ?_
 rintro x w2 ⟨r,rfl,hr0,hrd,b2⟩
 have b3:=bn w2 (.cells #[Qp r] 299)
 have b4:=b3.alloc b3.size (.cells (Qo 0) 3)
 have hR3:=heap_alloc_new w2 (.cells #[Qp r] 299)
 have hR4:=((bn _ (.cells (Qo 0) 3)).block _ (gsi.1 hR3).1).trans hR3
 have hN4:=heap_alloc_new (w2.alloc (.cells #[Qp r] 299)) (.cells (Qo 0) 3)
 rw[zE]at hN4
 have hF2:=(b2.block _ (gsi.1 HF.out).1).trans HF.out
 have hF4:=(b4.block _ (gsi.1 hF2).1).trans hF2
 have hb4:=HB.out.trans ((b2.trans (b4.mono b2.size)).mono HB.out.size)
 have hr4:=hrd.below b4
 have HNUM:=zA (rF r (w2.heap.size+1) 0 3 (Qo 0) (.int .i64 0) es.length (Pl.codes es) _ hr4 (by have:=HLE.out;omega) hN4 (by decide) rfl)
 have HB4:=zA hb4
 have HF4:=zA hF4
 have HR4:=zA hR4
 have HRD4:=zA hr4
 have HR0:=zA (show w.heap.size≤r from Nat.le_trans HB.out.size hr0)
 have HS2:=zA (show w.heap.size<w2.heap.size by have:=(gsi.1 hF2).1;omega)
 have cR:=cc 0 hR4
 clear b2 b3 b4 hR3 hR4 hN4 hF2 hF4 hb4 hr4 hrd hr0 qI
 go_wp2_with fail
 generalize (w2.alloc (.cells #[Qp r] 299)).alloc (.cells (Qo 0) 3)=W4 at *
 refine HNUM.out.mono ?_
 rintro x w5 ⟨rfl,hr5,hn5,o5⟩
 have hne:∀g,w.heap.size=g∨w2.heap.size=g→g=r∨g=w2.heap.size+1→False:=fun g h1 h2=>by
  rcases h2 with h2 | h2
  ·rcases h1 with h1 | h1
   ·exact HRD4.out.ne HF4.out (by decide) (h1.trans h2)
   ·exact HRD4.out.ne HR4.out (by decide) (h1.trans h2)
  ·have:=HS2.out;omega
 have hb5:=o5.since HB4.out (fun g hg=>by
  rcases hg with hg | hg
  ·rw[hg];exact HR0.out
  ·have:=HS2.out;omega)
 have hF5:=(o5.same w.heap.size (gsi.1 HF4.out).1 (fun e=>hne _ (.inl rfl) e)).trans HF4.out
 have hR5:=(o5.same w2.heap.size (gsi.1 HR4.out).1 (fun e=>hne _ (.inr rfl) e)).trans HR4.out
 have HR5:=zA hr5
 have HB5:=zA hb5
 have HF5:=zA hF5
 have HRR5:=zA hR5
 have cn:=cc 0 hn5
 clear hne hb5 hF5 hR5 o5 hr5 hn5 HNUM cR
 go_wp2_with fail
 go_loopw [6,18] (fun u i wr=>∃(k:Nat),k≤es.length∧i=.int .i64 k∧OwnR kEv w.heap.size wr u (es.take k)∧RdAt wr r (Pl.codes (es.drop k))∧Below w.heap.size w wr∧wr.heap[w.heap.size]?=some (.cells (Qo 0) 41 (0,0))∧wr.heap[w2.heap.size]?=some (.cells #[Qp r] 299 (0,0))) (fun _ i _=>es.length - (intOf i).toNat)
 case atStart=>exact⟨0,by omega,rfl,yH _ _ _,HR5.out,HB5.out,HF5.out,HRR5.out⟩
 case round=>
  obtain⟨k,hk,rfl,ho,hr,hb,hf,hR⟩:=hrel
  by_cases hlt:k<es.length
  ·have hcd:Pl.codes (es.drop k)=Pl.vints (es[k]).nums++Pl.codes (es.drop (k+1)):=by
    rw[List.drop_eq_getElem_cons hlt];rfl
   rw[hcd]at hr
   have a1:(k:Int)+1≤9223372036854775807:=by have:=HLE.out;omega
   have b2:=bn wr (.cells Qen 175)
   have rW:=heap_alloc_new wr (.cells Qen 175)
   have hrA:=hr.below b2
   have hfA:=(b2.block _ (gsi.1 hf).1).trans hf
   have hRA:=(b2.block _ (gsi.1 hR).1).trans hR
   have hfl:=(gsi.1 hf).1
   have hRl:=(gsi.1 hR).1
   have hok:=HOK.out _ (List.getElem_mem hlt)
   have pE:=zA (rget_ok r wr.heap.size es[k] (Pl.codes (es.drop (k+1))) _ hrA rW hok)
   have HKO:=zA (fun w' (o:Off (fun g=>g=r∨g=wr.heap.size) (wr.alloc (.cells Qen 175)) w')=>OwnR.keep (w':=w') (ho.below b2) (fun g hg=>by
    obtain⟨cs,hcs⟩:=zK (ho.below b2) hg
    refine o.same g (gsi.1 hcs).1 (fun e=>?_)
    rcases e with e | e
    ·exact hrA.ne hcs (by decide) e
    ·have:=(ho.lt g hg).2;omega))
   have HKB:=zA (fun w' (o:Off (fun g=>g=r∨g=wr.heap.size) (wr.alloc (.cells Qen 175)) w')=>o.since (hb.trans (b2.mono hb.size)) (fun g hg=>by
    rcases hg with hg | hg
    ·rw[hg];exact HR0.out
    ·rw[hg];exact hb.size))
   have HKF:=zA (fun w' (o:Off (fun g=>g=r∨g=wr.heap.size) (wr.alloc (.cells Qen 175)) w')=>(o.same w.heap.size (gsi.1 hfA).1 (fun e=>by
    rcases e with e | e
    ·exact hrA.ne hfA (by decide) e
    ·omega)).trans hfA)
   have HKR:=zA (fun w' (o:Off (fun g=>g=r∨g=wr.heap.size) (wr.alloc (.cells Qen 175)) w')=>(o.same w2.heap.size (gsi.1 hRA).1 (fun e=>by
    rcases e with e | e
    ·exact hrA.ne hRA (by decide) e
    ·omega)).trans hRA)
   have HOKK:=zA hok
   have HTK:=zA (show es.take (k+1)=es.take k++[es[k]]from List.take_succ_eq_append_getElem hlt)
   have HLK:=zA (show(es.take k).length=k by rw[List.length_take];omega)
   have cR:=cc 0 hRA
   have HSZ:=zA hb.size
   clear b2 rW hrA hfA hRA hfl hRl hok ho hr hb hf hR hcd
   generalize es[k]=ev at *
   generalize hrest:es.drop (k+1)=rest at *
   have HREST:=zA hrest
   clear hrest
   go_wp2_with fail
   generalize wr.alloc (.cells Qen 175)=W2 at *
   generalize hebb:wr.heap.size=eb at *
   clear hebb
   refine pE.out.mono ?_
   rintro x w6 ⟨rfl,hr6,he6,o6⟩
   have ho6:=HKO.out w6 o6
   have hb6:=HKB.out w6 o6
   have hf6:=HKF.out w6 o6
   have hR6:=HKR.out w6 o6
   obtain⟨n,s,hd⟩:=HOKK.out.dot
   have HRT:=zA (wN ev n s w6 hd (by
    rcases HOKK.out.kind with h | h
    ·exact .inl h
    ·exact .inr ⟨h,HOKK.out.right⟩))
   have HO6:=zA ho6
   have HB6:=zA hb6
   have HF6:=zA hf6
   have HR6:=zA hR6
   have HRD6:=zA hr6
   have HE6:=zA he6
   have d0:=cc 0 he6
   have d1:=cc 1 he6
   have d2:=cc 2 he6
   have d3:=cc 3 he6
   have d4:=cc 4 he6
   have d5:=cc 5 he6
   have d6:=cc 6 he6
   have d7:=cc 7 he6
   have d8:=cc 8 he6
   have d9:=cc 9 he6
   have d10:=cc 10 he6
   have d11:=cc 11 he6
   have d12:=cc 12 he6
   have d13:=cc 13 he6
   clear he6 o6 ho6 hb6 hf6 hR6 hr6 pE HKO HKB HKF HKR hd cR
   go_wp2_with fail
   refine HRT.out.mono ?_
   rintro x w7 ⟨rfl,b7⟩
   rw[HOKK.out.right]
   have he7:=(b7.block _ (gsi.1 HE6.out).1).trans HE6.out
   have b8:=bn w7 (.cells (eva ev) 175)
   have b68:=b7.trans (b8.mono b7.size)
   have ho8:=HO6.out.below b68
   have hb8:=HB6.out.trans (b68.mono HB6.out.size)
   have qG:=yJ kEv w7 [ev] (eva ev) 1 rfl (by simp[Rk.encs,kEv])
   have HO8:=zA ho8
   have HB8:=zA hb8
   have qC:=zA qG
   have HF8:=zA ((b68.block _ (gsi.1 HF6.out).1).trans HF6.out)
   have HR8:=zA ((b68.block _ (gsi.1 HR6.out).1).trans HR6.out)
   have HRD8:=zA (HRD6.out.below b68)
   clear d0 d1 d2 d3 d4 d5 d6 d7 d8 d9 d10 d11 d12 d13
   have d0:=cc 0 he7
   have d1:=cc 1 he7
   have d2:=cc 2 he7
   have d3:=cc 3 he7
   have d4:=cc 4 he7
   have d5:=cc 5 he7
   have d6:=cc 6 he7
   have d7:=cc 7 he7
   have d8:=cc 8 he7
   have d9:=cc 9 he7
   have d10:=cc 10 he7
   have d11:=cc 11 he7
   have d12:=cc 12 he7
   have d13:=cc 13 he7
   clear he7 b7 b8 b68 ho8 hb8 qG HRT
   go_wp2_with (
    at_builtin
    refine yT kEv rfl (.tmp 28) (.tmp 30) rfl rfl HO8.out rfl qC.out (by rw[HLK.out];have:=HLE.out;simp;omega) HB8.out HB8.out.size ?_
    intro v1 w1 hown1 hb1 hg0
    have rZ:=fun g hg=>zK HO8.out (g:=g) hg
    have HV1:=zA hown1
    have HBV:=zA hb1
    have HFV:=zA (xW hg0 rZ HF8.out (by decide))
    have HRV:=zA (xW hg0 rZ HR8.out (by decide))
    have HRDV:=zA (HRD8.out.grownT hg0 rZ (by decide))
    clear hown1 hb1 hg0 rZ)
   exact⟨⟨k+1,by omega,rfl,by rw[HTK.out];exact HV1.out,by rw[HREST.out];exact HRDV.out,HBV.out,HFV.out,HRV.out⟩,by simp[intOf];omega⟩
  ·obtain rfl:k=es.length:=by omega
   rw[List.take_length]at ho
   rw[List.drop_length]at hr
   have HEND:=zA (rend_ok r wr hr)
   have cR:=cc 0 hR
   have HO:=zA ho
   have HBW:=zA hb
   have HFW:=zA hf
   clear ho hr hb hf hR hlt hk
   go_wp2_with fail
   refine HEND.out.mono ?_
   rintro x w7 ⟨rfl,b7⟩
   have hf7:=(b7.block _ (gsi.1 HFW.out).1).trans HFW.out
   have cf:=cc 0 hf7
   have ff:=zB hf7 0
   have hoz:OwnR kEv w.heap.size (w7.setCell ⟨w.heap.size,0,none⟩ (.int .i64 0)) u6 es:=(HO.out.below b7).keep (fun g hg=>Below.heap_setCell _ _ _ _ (fun e=>by
    obtain⟨cs,hcs⟩:=zK (HO.out.below b7) hg
    rw[show g=w.heap.size from e,hf7]at hcs;exact zI (by decide) hcs))
   have hbz:=zP (HBW.out.trans (b7.mono HBW.out.size)) (Nat.le_refl w.heap.size) 0 (.int .i64 0)
   have cz:=World.cell?_setCell_same w7 ⟨w.heap.size,0,none⟩ (.int .i64 0) cf
   have HOZ:=zA hoz
   have HBZ:=zA hbz
   clear b7 hf7 hoz hbz HEND cR
   go_wp2_with fail
   refine leaves_cons (f:=184) (args:=#[Qp w.heap.size]) (by simp) (by simp[go_sem]) ?_
   refine(vS _ _).mono ?_
   rintro e' u' w'' ⟨rfl,rfl,rfl⟩
   generalize w7.setCell ⟨w.heap.size,0,none⟩ (.int .i64 0)=Z at *
   simp[Leaves,settle,results,results113,go_sem,cz]
   exact⟨HOZ.out,HBZ.out⟩
theorem uR (g:Nat) (t:TypeId) (fr:Nat×Nat):∀(vs:List Value) (o:Nat) (w:World) (cs:Array Value),w.heap[g]?=some (.cells cs t fr)→
  ∃cs',(w.setCells g o vs).heap[g]?=some (.cells cs' t fr)∧cs'.size=cs.size∧(∀j,j<vs.length→o+j<cs.size→cs'[o+j]?=vs[j]?)∧∀i,(i<o∨o+vs.length≤i)→cs'[i]?=cs[i]?
 | [],o,w,cs,h=>⟨cs,h,rfl,fun j hj=>absurd hj (by simp),fun i _=>rfl⟩
 | v::r,o,w,cs,h=>by
  obtain⟨cs',h1,h2,h3,h4⟩:=uR g t fr r (o+1) (w.setCell ⟨g,o,none⟩ v) _ (zG (j:=o) h v)
  refine⟨cs',h1,by rw[h2];simp,fun j hj hs=>?_,fun i hi=>?_⟩
  ·cases j with
   | zero=>
    rw[h4 (o+0) (.inl (by omega))]
    simp at hs ⊢
    rw[Array.getElem?_setIfInBounds]
    simp[hs]
   | succ j=>
    have:=h3 j (by simpa using hj) (by simp;omega)
    rw[show o+(j+1)=o+1+j from by omega,this]
    simp
  ·rw[h4 i (by simp at hi;omega)]
   exact Array.getElem?_setIfInBounds_ne (by simp at hi;omega)
theorem xA {w:World} {g:Nat} {t:TypeId} {cs:Array Value} {fr:Nat×Nat} (vs:List Value) (h:w.heap[g]?=some (.cells cs t fr)) (hs:cs.size=vs.length):(w.setCells g 0 vs).heap[g]?=some (.cells vs.toArray t fr):=by
 obtain⟨cs',h1,h2,h3,_⟩:=uR g t fr vs 0 w cs h
 have:cs'=vs.toArray:=by
  apply Array.ext_getElem?
  intro i
  rcases Nat.lt_or_ge i vs.length with hi | hi
  ·have:=h3 i hi (by omega)
   rw[Nat.zero_add]at this
   rw[this];simp
  ·rw[Array.getElem?_eq_none (by omega),Array.getElem?_eq_none (by simpa using hi)]
 rw[h1,this]
theorem xB {B:Nat} {a w:World} {g:Nat} (h:Below B a w) (hg:B≤g) (o:Nat) (vs:List Value):Below B a (w.setCells g o vs):=by
 obtain⟨h1,h2,h3,h4,h5⟩:=yF g vs o w
 exact⟨h3.trans h.os,h4.trans h.tape,h5.trans h.output,by rw[h1];exact h.size,fun i hi=>(h2 i (by omega)).trans (h.block i hi)⟩
theorem sown_ok (e:Pl.Ev) (w:World):Calls prog 337 #[evv e] w fun r w'=>r=.returned (evv e)∧Below w.heap.size w w':=by
 have b1:=bn w (.cells e 175)
 have b2:=b1.alloc b1.size (.cells Qen 175)
 have hx1:=heap_alloc_new w (.cells e 175)
 have hx2:=((bn _ (.cells Qen 175)).block _ (gsi.1 hx1).1).trans hx1
 have hy2:=heap_alloc_new (w.alloc (.cells e 175)) (.cells Qen 175)
 rw[zE]at hy2
 have HB:=zA b2
 have c0:=cc 0 hx2
 have c1:=cc 1 hx2
 have c2:=cc 2 hx2
 have c3:=cc 3 hx2
 have c4:=cc 4 hx2
 have c5:=cc 5 hx2
 have c6:=cc 6 hx2
 have c7:=cc 7 hx2
 have c8:=cc 8 hx2
 have c9:=cc 9 hx2
 have c10:=cc 10 hx2
 have c11:=cc 11 hx2
 have c12:=cc 12 hx2
 have c13:=cc 13 hx2
 have y0:=cc 0 hy2
 have y1:=cc 1 hy2
 have y2:=cc 2 hy2
 have y3:=cc 3 hy2
 have y4:=cc 4 hy2
 have y5:=cc 5 hy2
 have y6:=cc 6 hy2
 have y7:=cc 7 hy2
 have y8:=cc 8 hy2
 have y9:=cc 9 hy2
 have y10:=cc 10 hy2
 have y11:=cc 11 hy2
 have y12:=cc 12 hy2
 have y13:=cc 13 hy2
 have fz:=zB hx2
 have gz:=zB hy2
 have HX:=zA hx2
 have HY:=zA hy2
 clear b1 b2 hx1 hx2 hy2
 go_enter func337,ntmps337
 go_wp2_with fail
 generalize ((w.alloc (.cells e 175)).alloc (.cells Qen 175))=W at *
 refine(xL W).mono ?_
 rintro x w' ⟨rfl,rfl⟩
 go_wp2_with fail
 have hx1:=(zL HX.out (j:=13) (v:=.slice none 0 0) rfl)
 rw[hx1]
 have hst:W.setCells (w.heap.size+1) 0 [.int .i64 e.node,.int .i64 e.seq,.int .i64 e.time,.int .i64 e.kind,.int .i64 e.work,.int .i64 e.value,.int .i64 e.mn,.int .i64 e.mx,.int .i64 e.goal,.int .i64 e.slack,.int .i64 e.up,.int .i64 e.down,.int .i64 e.cool,.slice none 0 0]=(Qhl W (w.heap.size+1) e:World):=rfl
 have rY:=xA [.int .i64 e.node,.int .i64 e.seq,.int .i64 e.time,.int .i64 e.kind,.int .i64 e.work,.int .i64 e.value,.int .i64 e.mn,.int .i64 e.mx,.int .i64 e.goal,.int .i64 e.slack,.int .i64 e.up,.int .i64 e.down,.int .i64 e.cool,.slice none 0 0] HY.out rfl
 have hbz:=xB HB.out (show w.heap.size≤w.heap.size+1 by omega) 0 [.int .i64 e.node,.int .i64 e.seq,.int .i64 e.time,.int .i64 e.kind,.int .i64 e.work,.int .i64 e.value,.int .i64 e.mn,.int .i64 e.mx,.int .i64 e.goal,.int .i64 e.slack,.int .i64 e.up,.int .i64 e.down,.int .i64 e.cool,.slice none 0 0]
 rw[hst]at rY hbz
 generalize (Qhl W (w.heap.size+1) e:World)=Z at *
 clear c0 c1 c2 c3 c4 c5 c6 c7 c8 c9 c10 c11 c12 c13 y0 y1 y2 y3 y4 y5 y6 y7 y8 y9 y10 y11 y12 y13 hst
 have c0:=cc 0 rY
 have c1:=cc 1 rY
 have c2:=cc 2 rY
 have c3:=cc 3 rY
 have c4:=cc 4 rY
 have c5:=cc 5 rY
 have c6:=cc 6 rY
 have c7:=cc 7 rY
 have c8:=cc 8 rY
 have c9:=cc 9 rY
 have c10:=cc 10 rY
 have c11:=cc 11 rY
 have c12:=cc 12 rY
 have c13:=cc 13 rY
 refine bodyPost_ret (v:=evv e) (by simp[results,results337,go_sem,c0,c1,c2,c3,c4,c5,c6,c7,c8,c9,c10,c11,c12,c13]) rfl ⟨rfl,hbz⟩
theorem rT (e:Pl.Ev) (w:World):Calls prog 165 #[evv e] w fun r w'=>r=.returned (evv e)∧Below w.heap.size w w':=by
 have b1:=bn w (.cells e 175)
 have b2:=b1.alloc b1.size (.cells Qen 175)
 have hx1:=heap_alloc_new w (.cells e 175)
 have hx2:=((bn _ (.cells Qen 175)).block _ (gsi.1 hx1).1).trans hx1
 have hy2:=heap_alloc_new (w.alloc (.cells e 175)) (.cells Qen 175)
 rw[zE]at hy2
 have HB:=zA b2
 have c0:=cc 0 hx2
 have c1:=cc 1 hx2
 have c2:=cc 2 hx2
 have c3:=cc 3 hx2
 have c4:=cc 4 hx2
 have c5:=cc 5 hx2
 have c6:=cc 6 hx2
 have c7:=cc 7 hx2
 have c8:=cc 8 hx2
 have c9:=cc 9 hx2
 have c10:=cc 10 hx2
 have c11:=cc 11 hx2
 have c12:=cc 12 hx2
 have c13:=cc 13 hx2
 have y0:=cc 0 hy2
 have y1:=cc 1 hy2
 have y2:=cc 2 hy2
 have y3:=cc 3 hy2
 have y4:=cc 4 hy2
 have y5:=cc 5 hy2
 have y6:=cc 6 hy2
 have y7:=cc 7 hy2
 have y8:=cc 8 hy2
 have y9:=cc 9 hy2
 have y10:=cc 10 hy2
 have y11:=cc 11 hy2
 have y12:=cc 12 hy2
 have y13:=cc 13 hy2
 have fz:=zB hx2
 have gz:=zB hy2
 have HX:=zA hx2
 have HY:=zA hy2
 clear b1 b2 hx1 hx2 hy2
 go_enter func165,ntmps165
 go_wp2_with fail
 generalize ((w.alloc (.cells e 175)).alloc (.cells Qen 175))=W at *
 refine(xL W).mono ?_
 rintro x w' ⟨rfl,rfl⟩
 go_wp2_with fail
 have hx1:=(zL HX.out (j:=13) (v:=.slice none 0 0) rfl)
 rw[hx1]
 have hst:W.setCells (w.heap.size+1) 0 [.int .i64 e.node,.int .i64 e.seq,.int .i64 e.time,.int .i64 e.kind,.int .i64 e.work,.int .i64 e.value,.int .i64 e.mn,.int .i64 e.mx,.int .i64 e.goal,.int .i64 e.slack,.int .i64 e.up,.int .i64 e.down,.int .i64 e.cool,.slice none 0 0]=(Qhl W (w.heap.size+1) e:World):=rfl
 have rY:=xA [.int .i64 e.node,.int .i64 e.seq,.int .i64 e.time,.int .i64 e.kind,.int .i64 e.work,.int .i64 e.value,.int .i64 e.mn,.int .i64 e.mx,.int .i64 e.goal,.int .i64 e.slack,.int .i64 e.up,.int .i64 e.down,.int .i64 e.cool,.slice none 0 0] HY.out rfl
 have hbz:=xB HB.out (show w.heap.size≤w.heap.size+1 by omega) 0 [.int .i64 e.node,.int .i64 e.seq,.int .i64 e.time,.int .i64 e.kind,.int .i64 e.work,.int .i64 e.value,.int .i64 e.mn,.int .i64 e.mx,.int .i64 e.goal,.int .i64 e.slack,.int .i64 e.up,.int .i64 e.down,.int .i64 e.cool,.slice none 0 0]
 rw[hst]at rY hbz
 generalize (Qhl W (w.heap.size+1) e:World)=Z at *
 clear c0 c1 c2 c3 c4 c5 c6 c7 c8 c9 c10 c11 c12 c13 y0 y1 y2 y3 y4 y5 y6 y7 y8 y9 y10 y11 y12 y13 hst
 have c0:=cc 0 rY
 have c1:=cc 1 rY
 have c2:=cc 2 rY
 have c3:=cc 3 rY
 have c4:=cc 4 rY
 have c5:=cc 5 rY
 have c6:=cc 6 rY
 have c7:=cc 7 rY
 have c8:=cc 8 rY
 have c9:=cc 9 rY
 have c10:=cc 10 rY
 have c11:=cc 11 rY
 have c12:=cc 12 rY
 have c13:=cc 13 rY
 refine bodyPost_ret (v:=evv e) (by simp[results,results165,go_sem,c0,c1,c2,c3,c4,c5,c6,c7,c8,c9,c10,c11,c12,c13]) rfl ⟨rfl,hbz⟩
end
end Go.Proofs.YtodlmbfbfaofcaaGreat
