/- TopPolicies, part 21. -/
import Derived.Deep.WholeRow
import Derived.Test.YtodlmbfbfaofcaaGreatM01
import Derived.Test.YtodlmbfbfaofcaaGreatM02
import Derived.Test.YtodlmbfbfaofcaaGreatM04
import Derived.Test.YtodlmbfbfaofcaaGreatM08
import Derived.Test.YtodlmbfbfaofcaaGreatM09
import Derived.Test.YtodlmbfbfaofcaaGreatM16
import Derived.Test.YtodlmbfbfaofcaaGreatM20
open Go.Proofs.Tryz
namespace Go.Proofs.YtodlmbfbfaofcaaGreat
set_option linter.unusedVariables false
set_option linter.unusedSimpArgs false
set_option maxRecDepth 100000
set_option maxHeartbeats 8000000
section
open Go.RowKit Rw Rh
set_option maxRecDepth 100000
theorem pins_small (sl:Value) (n:Nat) (hn:n≤1) (w:World):Calls prog 320 #[sl,.int .i64 0,.int .i64 n,(Qm 168)] w fun r w'=>r=.returned (.tuple #[])∧w=w':=by
 have h1:¬(1:Int)<n:=by omega
 go_enter func320,ntmps320
 go_wp2_with fail
 go_loopw [8] (fun i wr=>i=.int .i64 1∧w=wr) (fun i _=>0)
 case atStart=>exact⟨rfl,rfl⟩
 case round=>
  obtain⟨rfl,rfl⟩:=hrel
  go_wp2_with fail
  exact yG results320 ⟨rfl,rfl⟩
theorem sT (sl:Value) (n:Nat) (hn:n≤1) (w:World):Calls prog 257 #[sl,.int .i64 n,(Qm 168)] w fun r w'=>r=.returned (.tuple #[])∧w=w':=by
 have h1:¬(20:Int)≤n:=by omega
 have h2:¬(20:Int)<n:=by omega
 go_enter func257,ntmps257
 go_wp2_with fail
 go_loopw [7,8] (fun i j wr=>i=.int .i64 0∧j=.int .i64 20∧w=wr) (fun i _ _=>0)
 case atStart=>exact⟨rfl,rfl,rfl⟩
 case round=>
  obtain⟨rfl,rfl,rfl⟩:=hrel
  go_wp2_with fail
  refine(pins_small sl n hn w).mono ?_
  rintro x w1 ⟨rfl,rfl⟩
  go_wp2_with fail
  go_loopw [6] (fun i wr=>i=.int .i64 20∧w=wr) (fun i _=>0)
  case atStart=>exact⟨rfl,rfl⟩
  case round=>
   obtain⟨rfl,rfl⟩:=hrel
   go_wp2_with fail
   exact yG results257 ⟨rfl,rfl⟩
theorem psort_small (ao:Option Addr) (n cap:Nat) (hn:n≤1) (w:World):Calls prog 167 #[.slice ao n cap,(Qm 168)] w fun r w'=>r=.returned (.tuple #[])∧w=w':=by
 have HN:=zA hn
 clear hn
 go_enter func167,ntmps167
 go_wp2_with fail
 refine(sT _ n HN.out w).mono ?_
 rintro x w1 ⟨rfl,rfl⟩
 go_wp2_with fail
 exact yG results167 ⟨rfl,rfl⟩
instance:Inhabited Pl.Ev:=⟨⟨0,0,0,0,0,0,0,0,0,0,0,0,0,none,0,0,[]⟩⟩
def evAt (l:List Pl.Ev) (i:Nat):Pl.Ev:=(l[i]?).getD default
theorem tK {l:List Pl.Ev} {i:Nat} (h:i<l.length):evAt l i=l[i]:=by unfold evAt;rw[List.getElem?_eq_getElem h];rfl
theorem ltFn_of {w:World} {base g cap:Nat} {l:List Pl.Ev} (h:OwnR kLat base w (.slice (some ⟨g,0,none⟩) l.length cap) l):LtFn w g l.length (evAt l):=by
 obtain⟨_,h | ⟨g',cap',cur,hv,hb,hg,_,hcm,hcs,ht⟩⟩:=h
 ·cases h.1
 ·cases hv
  refine⟨cur,hg,?_,fun i hi j hj=>?_⟩
  ·have h1:=congrArg List.length ht
   rw[List.length_take,kLat.encs_length]at h1
   have:cur.toList.length=cur.size:=by simp
   have hk:kLat.k=14:=rfl
   rw[hk]at h1
   omega
  ·have hlt:i*14+j<l.length*kLat.k:=by rw[show kLat.k=14 from rfl];omega
   have h2:(kLat.encs l)[i*14+j]?=cur.toList[i*14+j]?:=by
    rw[←ht,List.getElem?_take,if_pos hlt]
   rw[tK hi,←kLat.encs_get l i j hi hj]
   rw[show i*kLat.k+j=i*14+j from rfl,h2]
   simp
theorem LtFn.row {w:World} {g cap n:Nat} {f:Nat→Pl.Ev} (l:List Pl.Ev) (h:LtFn w g n f) (hl:l.length≤n) (hf:∀i (h:i<l.length),f i=l[i]):RowT kLat w (.slice (some ⟨g,0,none⟩) l.length cap) l:=by
 obtain⟨cs,hg,hs,hc⟩:=h
 refine⟨_,cap,rfl,(fun e=>by cases e),fun i hi=>⟨g,0,cs,(0,0),rfl,hg,fun j hj=>?_⟩⟩
 have:=hc i lD j hj
 rw[hf i hi]at this
 rw[Nat.zero_add]
 exact this
theorem pstable_ok (g cap n:Nat) (f:Nat→Pl.Ev) (w:World) (h:LtFn w g n f) (h1:1≤n) (hn:n<20) (hbk:∀q,q<n→(f q).Bk) :
  Calls prog 257 #[.slice (some ⟨g,0,none⟩) n cap,.int .i64 n,(Qm 168)] w fun r w'=>r=.returned (.tuple #[])∧(∃F,LtFn w' g n F∧Pl.Mix n f F∧∀a b,a<b→b<n→(F b).key≤(F a).key)∧Off (· = g) w w':=by
 have h2:¬(20:Int)≤n:=by omega
 have h3:¬(20:Int)<n:=by omega
 have HP:=zA (pins_ok g cap n f w h h1 lD hbk)
 clear h h1 hbk hn
 go_enter func257,ntmps257
 go_wp2_with fail
 go_loopw [7,8] (fun i j wr=>i=.int .i64 0∧j=.int .i64 20∧w=wr) (fun i _ _=>0)
 case atStart=>exact⟨rfl,rfl,rfl⟩
 case round=>
  obtain⟨rfl,rfl,rfl⟩:=hrel
  go_wp2_with fail
  refine HP.out.mono ?_
  rintro x w1 ⟨rfl,hf,ho⟩
  have HF:=zA hf
  have HO:=zA ho
  clear hf ho HP
  go_wp2_with fail
  go_loopw [6] (fun i wr=>i=.int .i64 20∧w1=wr) (fun i _=>0)
  case atStart=>exact⟨rfl,rfl⟩
  case round=>
   obtain⟨rfl,rfl⟩:=hrel
   go_wp2_with fail
   exact yG results257 ⟨rfl,HF.out,HO.out⟩
theorem psort_ok (g cap n:Nat) (f:Nat→Pl.Ev) (w:World) (h:LtFn w g n f) (h1:1≤n) (hn:n<20) (hbk:∀q,q<n→(f q).Bk) :
  Calls prog 167 #[.slice (some ⟨g,0,none⟩) n cap,(Qm 168)] w fun r w'=>r=.returned (.tuple #[])∧(∃F,LtFn w' g n F∧Pl.Mix n f F∧∀a b,a<b→b<n→(F b).key≤(F a).key)∧Off (· = g) w w':=by
 have HP:=zA (pstable_ok g cap n f w h h1 hn hbk)
 clear h h1 hbk hn
 go_enter func167,ntmps167
 go_wp2_with fail
 refine HP.out.mono ?_
 rintro x w1 ⟨rfl,hf,ho⟩
 have HF:=zA hf
 have HO:=zA ho
 clear hf ho HP
 go_wp2_with fail
 exact yG results167 ⟨rfl,HF.out,HO.out⟩
theorem Pl.Ev.Ok.bk {e:Pl.Ev} (h:e.Ok):e.Bk:=by
 have hb:=h.bd
 have:=hb.node;have:=hb.seq
 exact⟨by omega,by omega⟩
theorem abs_bk {e e':Pl.Ev} (h:e'.abs=e.abs) (hb:e.Bk):e'.Bk:=by
 have h1:=congrArg Pl.Ev.node h
 have h2:=congrArg Pl.Ev.seq h
 have h1:e'.node=e.node:=h1
 have h2:e'.seq=e.seq:=h2
 exact⟨by rw[h1];exact hb.node,by rw[h2];exact hb.seq⟩
namespace Pl
def sets (es:List Ev) (work:Int):List Ev:=es.filter (fun e=>e.kind == 2&&e.work == work)
theorem sets_succ (es:List Ev) (work:Int) (k:Nat) (h:k<es.length):sets (es.take (k+1)) work=sets (es.take k) work++sets [es[k]] work:=by
 unfold sets
 rw[List.take_succ_eq_append_getElem h,List.filter_append]
theorem sets_len (es:List Ev) (work:Int):(sets es work).length≤es.length:=List.length_filter_le _ _
end Pl
structure Latest (S l:List Pl.Ev):Prop where
 len:l.length=S.length
 into:∀x∈l,∃y∈S,x.abs=y.abs
 onto:∀y∈S,∃x∈l,x.abs=y.abs
 ord:l.Pairwise (fun a b=>b.key≤a.key)
theorem latest_of {S l:List Pl.Ev} (hab:l.map Pl.Ev.abs=S.map Pl.Ev.abs) {F:Nat→Pl.Ev} (hm:Pl.Mix l.length (evAt l) F) (hs:∀a b,a<b→b<l.length→(F b).key≤(F a).key):Latest S ((List.range l.length).map F):=by
 have hl:=xQ hab
 have hat:∀m (h:m<l.length),∃y∈S,(l[m]).abs=y.abs:=fun m h=>by
  have:(l[m]).abs∈S.map Pl.Ev.abs:=by rw[←hab];exact List.mem_map.2 ⟨_,List.getElem_mem h,rfl⟩
  obtain⟨y,hy,e⟩:=List.mem_map.1 this
  exact⟨y,hy,e.symm⟩
 refine⟨by simp[hl],fun x hx=>?_,fun y hy=>?_,?_⟩
 ·obtain⟨q,hq,rfl⟩:=List.mem_map.1 hx
  obtain⟨m,hm',e⟩:=hm.into q (List.mem_range.1 hq)
  rw[e,tK hm']
  exact hat m hm'
 ·have:y.abs∈l.map Pl.Ev.abs:=by rw[hab];exact List.mem_map.2 ⟨y,hy,rfl⟩
  obtain⟨x,hx,e⟩:=List.mem_map.1 this
  obtain⟨m,hm',rfl⟩:=List.mem_iff_getElem.1 hx
  obtain⟨q,hq,e2⟩:=hm.onto m hm'
  exact⟨F q,List.mem_map.2 ⟨q,List.mem_range.2 hq,rfl⟩,by rw[e2,tK hm'];exact e⟩
 ·rw[List.pairwise_iff_getElem]
  intro a b ha hb hab'
  simp only[List.getElem_map,List.getElem_range]
  exact hs a b hab' (by simpa using hb)
theorem uG (v:Value) (es:List Pl.Ev) (work:Int) (w:World) (h:RowC kEv w v es) (hn:es.length≤1000) (hok:∀e∈es,e.Ok) (hi:∀e∈es,Is w e) (hs:(Pl.sets es work).length<20) :
  Calls prog 97 #[v,.int .i64 work] w fun r w'=>∃v' l',r=.returned v'∧OwnR kEv w.heap.size w' v' l'∧Latest (Pl.sets es work) l'∧Below w.heap.size w w':=by
 obtain⟨ao,cap,rfl⟩:=h.form
 have HR:=zA h
 have HLE:=zA hn
 have HS:=zA hs
 have HIS:=zA hi
 have HOK:=zA hok
 clear h hn hs hi hok
 go_enter func97,ntmps97
 go_wp2_with fail
 go_loopw [5,13] (fun u i wr=>∃(k:Nat),k≤es.length∧i=.int .i64 k∧(∃l',OwnR kLat w.heap.size wr u l'∧l'.map Pl.Ev.abs=(Pl.sets (es.take k) work).map Pl.Ev.abs)∧Below w.heap.size w wr) (fun _ i _=>es.length - (intOf i).toNat)
 case atStart=>exact⟨0,by omega,rfl,⟨[],yJ _ _ _,rfl⟩,Below.refl _ _⟩
 case round=>
  obtain⟨k,hk,rfl,⟨l0,ho,hab⟩,hb⟩:=hrel
  by_cases hlt:k<es.length
  ·obtain⟨g,off,cap',e1,hg,c0,c1,c2,c3,c4,c5,c6,c7,c8,c9,c10,c11,c12,c13⟩:=xS (HR.out.below hb) hlt
   cases e1
   have a1:(k:Int)+1≤9223372036854775807:=by have:=HLE.out;omega
   have b2:=bn wr (.cells (es[k]) 175)
   have HNX:=zA (Pl.sets_succ es work k hlt)
   have HLK:=zA (show(Pl.sets (es.take k) work).length≤k from Nat.le_trans (Pl.sets_len _ _) (by rw[List.length_take];omega))
   have HBA:=zA (hb.trans (b2.mono hb.size))
   have HO:=zA (ho.below b2)
   have HAB:=zA hab
   have HI:=zA (((HIS.out _ (List.getElem_mem hlt)).below hb).below b2)
   have H96:=zA (show(es[k]).rm.length≤96 by obtain⟨n,s,_,hN⟩:=(HOK.out _ (List.getElem_mem hlt)).dot;exact hN.len)
   have qK:=heap_alloc_new wr (.cells (es[k]) 175)
   have HBB:=zA b2
   have HBW:=zA hb
   have HO0:=zA ho
   clear b2 ho hb hab
   generalize es[k]=ev at *
   obtain⟨d0,d1,d2,d3,d4,d5,d6,d7,d8,d9,d10,d11,d12,d13⟩:=c14 qK
   have qP:=zA qK
   clear qK
   cases hk1:(ev.kind == 2)with
   | false=>
    have oG:=zA (show Pl.sets [ev] work=[] by simp[Pl.sets,hk1])
    exact mP
   | true=>
    cases hk2:(ev.work == work)with
    | false=>
     have oG:=zA (show Pl.sets [ev] work=[] by simp[Pl.sets,hk2])
     exact mP
    | true=>
     have Hone:=zA (show Pl.sets [ev] work=[ev] by simp[Pl.sets,hk1,hk2])
     go_wp2_with fail
     generalize wr.alloc (.cells (eva ev) 175)=W2 at *
     refine(uX ev W2 H96.out HI.out).mono ?_
     rintro x w2 ⟨ro,rc,rfl,hi2,hb2⟩
     have hx2:=zZ hb2 qP.out
     have fz:=zB hx2 13
     have hx3:=zF (j:=13) hx2 (.slice ro ev.rm.length rc)
     rw[wL]at hx3
     have hb3:=zM (HBB.out.trans (hb2.mono HBB.out.size)) (Nat.le_refl _) 13 (.slice ro ev.rm.length rc)
     have ho3:=HO0.out.below hb3
     obtain⟨e0,e1,e2,e3,e4,e5,e6,e7,e8,e9,e10,e11,e12,e13⟩:=c14 hx3
     have x13:=cc 13 hx2
     have HAX:=zA (show(ev.mv ro rc).abs=ev.abs from rfl)
     have HO3:=zA ho3
     have HB3:=zA (HBW.out.trans (hb3.mono HBW.out.size))
     clear hb2 hx2 hx3 hb3 ho3 hi2 HO HBA qP d0 d1 d2 d3 d4 d5 d6 d7 d8 d9 d10 d11 d12 d13
     generalize ev.mv ro rc=ex at *
     generalize hw3:w2.setCell ⟨wr.heap.size,13,none⟩ (.slice ro ev.rm.length rc)=w3 at *
     have b8:=bn w3 (.cells (eva ex) 279)
     have HL0:=zA (show l0.length≤es.length from by rw[xQ HAB.out];have:=HLK.out;omega)
     have HO8:=zA (HO3.out.below b8)
     have HB8:=zA (HB3.out.trans (b8.mono HB3.out.size))
     have HA0:=zA (show(l0++[ex]).map Pl.Ev.abs=(Pl.sets (es.take k) work++[ev]).map Pl.Ev.abs by simp[HAB.out,HAX.out])
     have qI:=zA (yK kLat w3 [ex] (eva ex) 1 rfl (by simp[Rk.encs,kLat,kEv]))
     clear b8
     go_wp2_with (
      at_builtin
      refine yU kLat rfl (.tmp 30) (.tmp 32) rfl rfl HO8.out rfl qI.out (by have:=HL0.out;have:=HLE.out;simp;omega) HB8.out HB8.out.size ?_
      intro v1 w1 hown1 hb1 hg0
      have HV1:=zA hown1
      have HBV:=zA hb1
      clear hown1 hb1 hg0)
     exact⟨⟨k+1,by omega,rfl,by rw[HNX.out,Hone.out];exact⟨_,HV1.out,HA0.out⟩,HBV.out⟩,by simp[intOf];omega⟩
  ·obtain rfl:k=es.length:=by omega
   rw[List.take_length]at hab
   have HB:=zA hb
   have HAB:=zA hab
   have HL20:=zA (show l0.length<20 by rw[xQ hab];exact HS.out)
   have hbk:∀q,q<l0.length→(evAt l0 q).Bk:=fun q hq=>by
    rw[tK hq]
    have:(l0[q]).abs∈(Pl.sets es work).map Pl.Ev.abs:=by rw[←hab];exact List.mem_map.2 ⟨_,List.getElem_mem hq,rfl⟩
    obtain⟨y,hy,e⟩:=List.mem_map.1 this
    exact abs_bk e.symm (HOK.out y (List.mem_filter.1 hy).1).bk
   obtain⟨ao2,cap2,hu⟩:=ho.toT.form
   subst hu
   have hsort:Calls prog 167 #[.slice ao2 l0.length cap2,(Qm 168)] wr fun r w'=>r=.returned (.tuple #[])∧(∃S:List Pl.Ev,Latest (Pl.sets es work) S∧S.length=l0.length∧RowC kLat w' (.slice ao2 l0.length cap2) S)∧Below w.heap.size w w':=by
    rcases Nat.eq_zero_or_pos l0.length with h0 | h0
    ·have pT:=List.eq_nil_of_length_eq_zero h0
     have hsn:=List.eq_nil_of_length_eq_zero ((xQ hab).symm.trans h0)
     refine(psort_small ao2 _ cap2 lD wr).mono ?_
     rintro r w' ⟨rfl,rfl⟩
     exact⟨rfl,⟨l0,⟨by rw[pT,hsn],fun x hx=>absurd hx (by rw[pT];simp),fun y hy=>absurd hy (by rw[hsn];simp),by rw[pT];exact List.Pairwise.nil⟩,rfl,ho.toT.toC⟩,hb⟩
    ·rcases id ho.2 with⟨_,h1⟩ | ⟨g,cap',cur,hv,hbg,_⟩
     ·exact absurd h1 lD
     ·cases hv
      have hlt:=ltFn_of ho
      refine(psort_ok g cap2 _ _ wr hlt h0 HL20.out hbk).mono ?_
      rintro r w' ⟨rfl,⟨F,hF,hM,hS⟩,hO⟩
      have pO:=latest_of hab hM hS
      have qD:=LtFn.row (cap:=cap2) ((List.range l0.length).map F) hF (by simp) (fun i hi=>by simp)
      rw[List.length_map,List.length_range]at qD
      exact⟨rfl,⟨_,pO,by simp,qD.toC⟩,hO.since hb (fun q hq=>by rw[hq];exact hbg)⟩
   have HSORT:=zA hsort
   clear hlt hk ho hb hab hbk hsort
   go_wp2_with fail
   refine HSORT.out.mono ?_
   rintro x W0 ⟨rfl,⟨S,pO,hsl,qD⟩,hbw⟩
   have HB:=zA hbw
   have HLAT:=zA pO
   have HO:=zA (show RowC kLat W0 (.slice ao2 S.length cap2) S by rw[hsl];exact qD)
   have HS:=zA (show S.length≤19 by rw[hsl];have:=HL20.out;omega)
   rw[←hsl]
   clear pO qD hbw HSORT hsl
   go_wp2_with fail
   go_loopw [8,39] (fun u i wr=>∃(k:Nat),k≤S.length∧i=.int .i64 k∧OwnR kEv W0.heap.size wr u (S.take k)∧Below W0.heap.size W0 wr) (fun _ i _=>S.length - (intOf i).toNat)
   case atStart=>exact⟨0,by omega,rfl,yJ _ _ _,Below.refl _ _⟩
   case round=>
    obtain⟨k,hk,rfl,ho,hbr⟩:=hrel
    by_cases hlt:k<S.length
    ·obtain⟨g,off,cap',e1,hg,c0,c1,c2,c3,c4,c5,c6,c7,c8,c9,c10,c11,c12,c13⟩:=lat_cells (HO.out.below hbr) hlt
     cases e1
     have a1:(k:Int)+1≤9223372036854775807:=by have:=HS.out;omega
     have b2:=bn wr (.cells (S[k]) 279)
     have HNX:=zA (List.take_succ_eq_append_getElem hlt)
     have HBR:=zA (hbr.trans (b2.mono hbr.size))
     have HO1:=zA (ho.below b2)
     have HTL:=zA (show(S.take k).length≤19 by have:=HS.out;rw[List.length_take];omega)
     have qK:=heap_alloc_new wr (.cells (S[k]) 279)
     clear b2 ho hbr
     generalize S[k]=ev at *
     obtain⟨d0,d1,d2,d3,d4,d5,d6,d7,d8,d9,d10,d11,d12,d13⟩:=c14 qK
     clear qK
     have b8:=(Below.refl (wr.alloc (.cells ev 279)).heap.size (wr.alloc (.cells ev 279))).alloc (Nat.le_refl _) (.cells (eva ev) 175)
     have HO8:=zA (HO1.out.below b8)
     have HR8:=zA (HBR.out.trans (b8.mono HBR.out.size))
     have qL:=yK kEv (wr.alloc (.cells ev 279)) [ev] (eva ev) 1 rfl (by simp[Rk.encs,kEv])
     rw[zG]at qL
     have qI:=zA qL
     clear qL
     clear b8
     go_wp2_with (
      at_builtin
      refine yU kEv rfl (.tmp 43) (.tmp 45) rfl rfl HO8.out rfl qI.out (by have:=HTL.out;have h1:[ev].length=1:=rfl;omega) HR8.out HR8.out.size ?_
      intro v1 w1 hown1 hb1 hg0
      have HV1:=zA hown1
      have HBV:=zA hb1
      clear hown1 hb1 hg0)
     exact⟨⟨k+1,by omega,rfl,by rw[HNX.out];exact HV1.out,HBV.out⟩,by simp[intOf];omega⟩
    ·obtain rfl:k=S.length:=by omega
     rw[List.take_length]at ho
     go_wp2_with fail
     go_ret
     exact⟨_,S,rfl,OwnR.mono ho HB.out.size,HLAT.out,HB.out.trans (hbr.mono HB.out.size)⟩
theorem zU (w:World) (a b:Obj):((w.alloc a).alloc b).heap[w.heap.size]?=some a∧((w.alloc a).alloc b).heap[w.heap.size+1]?=some b∧Below w.heap.size w ((w.alloc a).alloc b):=by
 have h1:=heap_alloc_new w a
 have hs:=zG w a
 have hlt:w.heap.size<(w.alloc a).heap.size:=by rw[hs];omega
 refine⟨(heap_alloc_old (w.alloc a) b hlt).trans h1,?_,(bn w a).alloc (Nat.le_of_lt hlt) b⟩
 have h2:=heap_alloc_new (w.alloc a) b
 rw[hs]at h2;exact h2
theorem ev_own1 {w:World} {base:Nat} {v:Value} {e:Pl.Ev} {l:List Pl.Ev} (h:OwnR kEv base w v (e::l)):∃(g cap:Nat) (cur:Array Value),v=.slice (some ⟨g,0,none⟩) (l.length+1) cap∧base≤g∧w.heap[g]?=some (.cells cur 175 (0,0))∧∀(j:Nat) (u:Value),(kEv.enc e)[j]?=some u→cur[j]?=some u:=by
 rcases h.2 with⟨_,h0⟩ | ⟨g,cap,cur,rfl,hb,hg,_,_,_,ht⟩
 ·simp at h0
 ·refine⟨g,cap,cur,rfl,hb,hg,fun j u hj=>?_⟩
  have hl:j<(kEv.enc e).length:=(List.getElem?_eq_some_iff.1 hj).1
  have h1:(kEv.encs (e::l))[j]?=some u:=by
   unfold Rk.encs
   rw[List.flatMap_cons,List.getElem?_append_left hl]
   exact hj
  rw[←ht,List.getElem?_take]at h1
  split at h1
  ·simpa using h1
  ·cases h1
theorem xP (w:World) (k:Nat):w.drew.heap[k]?=w.heap[k]?:=rfl
theorem set7 (w:World) (g:Nat) (a0 a1 a2 a3 a4 a5 a6:Value) {t:TypeId} {cs:Array Value} (h:w.heap[g]?=some (.cells cs t (0,0))) (hs:cs.size=7):(((((((((((((((w).setCell ⟨g,0,none⟩ (a0))).setCell ⟨g,1,none⟩ (a1))).setCell ⟨g,2,none⟩ (a2))).setCell ⟨g,3,none⟩ (a3))).setCell ⟨g,4,none⟩ (a4))).setCell ⟨g,5,none⟩ (a5))).setCell ⟨g,6,none⟩ (a6))).heap[g]?=some (.cells #[a0,a1,a2,a3,a4,a5,a6] t (0,0))∧(∀k,k≠g→(((((((((((((((w).setCell ⟨g,0,none⟩ (a0))).setCell ⟨g,1,none⟩ (a1))).setCell ⟨g,2,none⟩ (a2))).setCell ⟨g,3,none⟩ (a3))).setCell ⟨g,4,none⟩ (a4))).setCell ⟨g,5,none⟩ (a5))).setCell ⟨g,6,none⟩ (a6))).heap[k]?=w.heap[k]?)∧∀{B:Nat} {w0:World},Below B w0 w→B≤g→Below B w0 (((((((((((((((w).setCell ⟨g,0,none⟩ (a0))).setCell ⟨g,1,none⟩ (a1))).setCell ⟨g,2,none⟩ (a2))).setCell ⟨g,3,none⟩ (a3))).setCell ⟨g,4,none⟩ (a4))).setCell ⟨g,5,none⟩ (a5))).setCell ⟨g,6,none⟩ (a6))):=by
 refine⟨xA [a0,a1,a2,a3,a4,a5,a6] h hs,fun k hk=>(yB g [a0,a1,a2,a3,a4,a5,a6] 0 w).2.1 k hk,fun hb hg=>xB hb hg 0 [a0,a1,a2,a3,a4,a5,a6]⟩
theorem set2 (w:World) (g:Nat) (a0 a1:Value) {t:TypeId} {cs:Array Value} (h:w.heap[g]?=some (.cells cs t (0,0))) (hs:cs.size=2):(((((w).setCell ⟨g,0,none⟩ (a0))).setCell ⟨g,1,none⟩ (a1))).heap[g]?=some (.cells #[a0,a1] t (0,0))∧(∀k,k≠g→(((((w).setCell ⟨g,0,none⟩ (a0))).setCell ⟨g,1,none⟩ (a1))).heap[k]?=w.heap[k]?)∧∀{B:Nat} {w0:World},Below B w0 w→B≤g→Below B w0 (((((w).setCell ⟨g,0,none⟩ (a0))).setCell ⟨g,1,none⟩ (a1))):=by
 refine⟨xA [a0,a1] h hs,fun k hk=>(yB g [a0,a1] 0 w).2.1 k hk,fun hb hg=>xB hb hg 0 [a0,a1]⟩
theorem winner_none (v:Value) (es:List Pl.Ev) (work:Int) (w:World) (h:RowC kEv w v es) (hn:es.length≤1000) (hok:∀e∈es,e.Ok) (hi:∀e∈es,Is w e) (hs:Pl.sets es work=[]) :
  Calls prog 41 #[v,.int .i64 work] w fun r w'=>r=.returned (.tuple #[.agg Qgh,.agg (Qi 0 0),.bool false])∧Below w.heap.size w w':=by
 obtain⟨hx,hy,b1⟩:=zU w (.cells Qgh 38) (.cells (Qi 0 0) 45)
 have HC:=zA (uG v es work _ (h.below b1) hn hok (fun e he=>(hi e he).below b1) (by rw[hs];simp))
 have HX:=zA hx
 have HY:=zA hy
 have HB:=zA b1
 have HS:=zA hs
 have HSZ:Hid (((w.alloc (.cells Qgh 38)).alloc (.cells (Qi 0 0) 45)).heap.size=w.heap.size+2):=zA (by rw[zG,zG])
 clear h b1 hs hn hx hy hok hi
 go_enter func41,ntmps41
 go_wp2_with fail
 generalize (w.alloc (.cells Qgh 38)).alloc (.cells (Qi 0 0) 45)=W at *
 refine HC.out.mono ?_
 rintro x w1 ⟨v1,l1,rfl,ho,pO,hb⟩
 have hl1:=pO.len
 rw[HS.out]at hl1
 obtain rfl:=List.eq_nil_of_length_eq_zero hl1
 clear pO hl1
 have hx:=zZ hb HX.out
 have hy:=zZ hb HY.out
 have HB1:=zA (HB.out.trans (hb.mono HB.out.size))
 obtain⟨ao,cap,rfl⟩:=ho.toT.form
 have fx0:=zB hx 0
 have fx1:=zB hx 1
 have fx2:=zB hx 2
 have fx3:=zB hx 3
 have fx4:=zB hx 4
 have fx5:=zB hx 5
 have fx6:=zB hx 6
 have fy0:=zB hy 0
 have fy1:=zB hy 1
 have c0:=cc 0 hx
 have c1:=cc 1 hx
 have c2:=cc 2 hx
 have c3:=cc 3 hx
 have c4:=cc 4 hx
 have c5:=cc 5 hx
 have c6:=cc 6 hx
 have d0:=cc 0 hy
 have d1:=cc 1 hy
 have HX1:=zA hx
 have HY1:=zA hy
 clear ho hb hx hy HX HY HC HB
 go_wp2_with fail
 have hz:=xA [.int .i64 0,.int .i64 0,.int .i64 0,.int .i64 0,.int .i64 0,.int .i64 0,.int .i64 0] HX1.out rfl
 have hy2:=((yB w.heap.size [.int .i64 0,.int .i64 0,.int .i64 0,.int .i64 0,.int .i64 0,.int .i64 0,.int .i64 0] 0 w1).2.1 (w.heap.size+1) lD).trans HY1.out
 have hz2:=xA [.int .i64 0,.int .i64 0] hy2 rfl
 have hz1:=((yB (w.heap.size+1) [.int .i64 0,.int .i64 0] 0 (w1.setCells w.heap.size 0 [.int .i64 0,.int .i64 0,.int .i64 0,.int .i64 0,.int .i64 0,.int .i64 0,.int .i64 0])).2.1 w.heap.size lD).trans hz
 have hb3:=xB (xB HB1.out (Nat.le_refl _) 0 [.int .i64 0,.int .i64 0,.int .i64 0,.int .i64 0,.int .i64 0,.int .i64 0,.int .i64 0]) (Nat.le_succ _) 0 [.int .i64 0,.int .i64 0]
 obtain⟨k1,k2,k3⟩:(((((((((((((((((((w1).setCell ⟨w.heap.size,0,none⟩ (.int .i64 0))).setCell ⟨w.heap.size,1,none⟩ (.int .i64 0))).setCell ⟨w.heap.size,2,none⟩ (.int .i64 0))).setCell ⟨w.heap.size,3,none⟩ (.int .i64 0))).setCell ⟨w.heap.size,4,none⟩ (.int .i64 0))).setCell ⟨w.heap.size,5,none⟩ (.int .i64 0))).setCell ⟨w.heap.size,6,none⟩ (.int .i64 0))).setCell ⟨(w.heap.size+1),0,none⟩ (.int .i64 0))).setCell ⟨(w.heap.size+1),1,none⟩ (.int .i64 0))).heap[w.heap.size]?=some (.cells Qgh 38 (0,0))∧(((((((((((((((((((w1).setCell ⟨w.heap.size,0,none⟩ (.int .i64 0))).setCell ⟨w.heap.size,1,none⟩ (.int .i64 0))).setCell ⟨w.heap.size,2,none⟩ (.int .i64 0))).setCell ⟨w.heap.size,3,none⟩ (.int .i64 0))).setCell ⟨w.heap.size,4,none⟩ (.int .i64 0))).setCell ⟨w.heap.size,5,none⟩ (.int .i64 0))).setCell ⟨w.heap.size,6,none⟩ (.int .i64 0))).setCell ⟨(w.heap.size+1),0,none⟩ (.int .i64 0))).setCell ⟨(w.heap.size+1),1,none⟩ (.int .i64 0))).heap[w.heap.size+1]?=some (.cells (Qi 0 0) 45 (0,0))∧Below w.heap.size w (((((((((((((((((((w1).setCell ⟨w.heap.size,0,none⟩ (.int .i64 0))).setCell ⟨w.heap.size,1,none⟩ (.int .i64 0))).setCell ⟨w.heap.size,2,none⟩ (.int .i64 0))).setCell ⟨w.heap.size,3,none⟩ (.int .i64 0))).setCell ⟨w.heap.size,4,none⟩ (.int .i64 0))).setCell ⟨w.heap.size,5,none⟩ (.int .i64 0))).setCell ⟨w.heap.size,6,none⟩ (.int .i64 0))).setCell ⟨(w.heap.size+1),0,none⟩ (.int .i64 0))).setCell ⟨(w.heap.size+1),1,none⟩ (.int .i64 0))):=⟨hz1,hz2,hb3⟩
 clear hz hy2 hz2 hz1 hb3
 generalize ((((((((((((((((((w1).setCell ⟨w.heap.size,0,none⟩ (.int .i64 0))).setCell ⟨w.heap.size,1,none⟩ (.int .i64 0))).setCell ⟨w.heap.size,2,none⟩ (.int .i64 0))).setCell ⟨w.heap.size,3,none⟩ (.int .i64 0))).setCell ⟨w.heap.size,4,none⟩ (.int .i64 0))).setCell ⟨w.heap.size,5,none⟩ (.int .i64 0))).setCell ⟨w.heap.size,6,none⟩ (.int .i64 0))).setCell ⟨(w.heap.size+1),0,none⟩ (.int .i64 0))).setCell ⟨(w.heap.size+1),1,none⟩ (.int .i64 0))=Z at *
 have e0:=cc 0 k1
 have e1:=cc 1 k1
 have e2:=cc 2 k1
 have e3:=cc 3 k1
 have e4:=cc 4 k1
 have e5:=cc 5 k1
 have e6:=cc 6 k1
 have g0:=cc 0 k2
 have g1:=cc 1 k2
 exact bodyPost_ret (v:=.tuple #[.agg Qgh,.agg (Qi 0 0),.bool false]) (by simp[results,results41,go_sem,e0,e1,e2,e3,e4,e5,e6,g0,g1]) rfl ⟨rfl,k3⟩
theorem winner_one (v:Value) (es:List Pl.Ev) (work:Int) (w:World) (h:RowC kEv w v es) (hn:es.length≤1000) (hok:∀e∈es,e.Ok) (hi:∀e∈es,Is w e) (hs:(Pl.sets es work).length<20) (hne:Pl.sets es work≠[]) :
  Calls prog 41 #[v,.int .i64 work] w fun r w'=>∃e∈Pl.sets es work,(∀y∈Pl.sets es work,y.key≤e.key)∧r=.returned (.tuple #[.agg (Qg e.mn e.mx e.goal e.slack e.up e.down e.cool),.agg (Qi e.node e.seq),.bool true])∧Below w.heap.size w w':=by
 obtain⟨hx,hy,b1⟩:=zU w (.cells Qgh 38) (.cells (Qi 0 0) 45)
 have HC:=zA (uG v es work _ (h.below b1) hn hok (fun e he=>(hi e he).below b1) hs)
 have HX:=zA hx
 have HY:=zA hy
 have HB:=zA b1
 have HNE:=zA hne
 have HSZ:Hid (((w.alloc (.cells Qgh 38)).alloc (.cells (Qi 0 0) 45)).heap.size=w.heap.size+2):=zA (by rw[zG,zG])
 clear h b1 hs hn hx hy hok hi hne
 go_enter func41,ntmps41
 go_wp2_with fail
 generalize (w.alloc (.cells Qgh 38)).alloc (.cells (Qi 0 0) 45)=W at *
 refine HC.out.mono ?_
 rintro x w1 ⟨v1,l1,rfl,ho,pO,hb⟩
 have hex:∃e l,l1=e::l:=by
  cases l1 with
  | nil=>exact absurd (List.eq_nil_of_length_eq_zero pO.len.symm) HNE.out
  | cons e l=>exact⟨e,l,rfl⟩
 obtain⟨e,l,rfl⟩:=hex
 have HTOP:Hid (∃y∈Pl.sets es work,e.abs=y.abs∧∀z∈Pl.sets es work,z.key≤y.key):=zA (by
  obtain⟨y,hy,ey⟩:=pO.into e (by simp)
  refine⟨y,hy,ey,fun z hz=>?_⟩
  have ky:∀{a b:Pl.Ev},a.abs=b.abs→a.key=b.key:=fun {a b} h=>by
   have:=congrArg Pl.Ev.key h
   exact this
  obtain⟨x,hx,ex⟩:=pO.onto z hz
  rw[←ky ey,←ky ex]
  rcases List.mem_cons.1 hx with rfl | hx
  ·exact Int.le_refl _
  ·exact(List.pairwise_cons.1 pO.ord).1 x hx)
 have hn0:(((l.length+1:Nat):Int) == 0)=false:=by simp;omega
 have hn1:(0:Int)<((l.length+1:Nat):Int):=by omega
 have hn2:0<l.length+1:=by omega
 clear pO
 have hx:=zZ hb HX.out
 have hy:=zZ hb HY.out
 have HB1:=zA (HB.out.trans (hb.mono HB.out.size))
 obtain⟨g,cap,cur,rfl,hbg,hg,hcur⟩:=ev_own1 ho
 generalize l.length+1=nn at *
 have HG:=zA hg
 have pL:=zA hcur
 have HBG:=zA (show w.heap.size+2≤g by rw[HSZ.out]at hbg;exact hbg)
 have HX1:=zA hx
 have HY1:=zA hy
 have HS1:=zA (fun (W:World) (h:W.heap[g]?=w1.heap[g]?)=>h.trans HG.out)
 clear ho hb hx hy HX HY HC HB hg hcur hbg HSZ
 go_wp2_with fail
 refine zD (fun W=>W.heap[g]?=w1.heap[g]?) 99 lE rfl (fun qB=>?_)
 refine tkp 0 16 rfl ?_
 refine tkp 1 17 rfl ?_
 refine tkp 2 18 rfl ?_
 refine tk 3 19 rfl (by intro wS hSw;have y:=HS1.out _ hSw;have q6:=zE (j:=6) y (pL.out 6 _ rfl);have q7:=zE (j:=7) y (pL.out 7 _ rfl);have q8:=zE (j:=8) y (pL.out 8 _ rfl);have q9:=zE (j:=9) y (pL.out 9 _ rfl);have q10:=zE (j:=10) y (pL.out 10 _ rfl);have q11:=zE (j:=11) y (pL.out 11 _ rfl);have q12:=zE (j:=12) y (pL.out 12 _ rfl);clear hSw;go_simp;(try with_reducible rfl)) ?_
 refine tkp 4 20 rfl ?_
 refine tkp 5 21 rfl ?_
 refine tkp 6 22 rfl ?_
 refine tk 7 23 rfl (by intro wS hSw;have y:=HS1.out _ hSw;have q0:=zE (j:=0) y (pL.out 0 _ rfl);have q1:=zE (j:=1) y (pL.out 1 _ rfl);clear hSw;go_simp;(try with_reducible rfl)) ?_
 have fx0:=zB HX1.out 0
 have fx1:=zB HX1.out 1
 have fx2:=zB HX1.out 2
 have fx3:=zB HX1.out 3
 have fx4:=zB HX1.out 4
 have fx5:=zB HX1.out 5
 have fx6:=zB HX1.out 6
 have c0:=cc 0 HX1.out
 have c1:=cc 1 HX1.out
 have c2:=cc 2 HX1.out
 have c3:=cc 3 HX1.out
 have c4:=cc 4 HX1.out
 have c5:=cc 5 HX1.out
 have c6:=cc 6 HX1.out
 have qW:=zA (set7 w1 w.heap.size (.int .i64 e.mn) (.int .i64 e.mx) (.int .i64 e.goal) (.int .i64 e.slack) (.int .i64 e.up) (.int .i64 e.down) (.int .i64 e.cool) HX1.out rfl)
 clear qB
 refine t1 8 rfl (fun K hK=>?_)
 go_simp
 obtain⟨p1,p2,p3⟩:=qW.out
 have hy7:(((((((((((((((w1).setCell ⟨w.heap.size,0,none⟩ (.int .i64 e.mn))).setCell ⟨w.heap.size,1,none⟩ (.int .i64 e.mx))).setCell ⟨w.heap.size,2,none⟩ (.int .i64 e.goal))).setCell ⟨w.heap.size,3,none⟩ (.int .i64 e.slack))).setCell ⟨w.heap.size,4,none⟩ (.int .i64 e.up))).setCell ⟨w.heap.size,5,none⟩ (.int .i64 e.down))).setCell ⟨w.heap.size,6,none⟩ (.int .i64 e.cool))).drew.heap[w.heap.size+1]?=_:=(xP _ _).trans <| (p2 (w.heap.size+1) lD).trans HY1.out
 have HP1:Hid ((((((((((((((((w1).setCell ⟨w.heap.size,0,none⟩ (.int .i64 e.mn))).setCell ⟨w.heap.size,1,none⟩ (.int .i64 e.mx))).setCell ⟨w.heap.size,2,none⟩ (.int .i64 e.goal))).setCell ⟨w.heap.size,3,none⟩ (.int .i64 e.slack))).setCell ⟨w.heap.size,4,none⟩ (.int .i64 e.up))).setCell ⟨w.heap.size,5,none⟩ (.int .i64 e.down))).setCell ⟨w.heap.size,6,none⟩ (.int .i64 e.cool))).drew.heap[w.heap.size]?=_):=zA ((xP _ _).trans p1)
 have HP2:Hid ((((((((((((((((w1).setCell ⟨w.heap.size,0,none⟩ (.int .i64 e.mn))).setCell ⟨w.heap.size,1,none⟩ (.int .i64 e.mx))).setCell ⟨w.heap.size,2,none⟩ (.int .i64 e.goal))).setCell ⟨w.heap.size,3,none⟩ (.int .i64 e.slack))).setCell ⟨w.heap.size,4,none⟩ (.int .i64 e.up))).setCell ⟨w.heap.size,5,none⟩ (.int .i64 e.down))).setCell ⟨w.heap.size,6,none⟩ (.int .i64 e.cool))).drew.heap[g]?=w1.heap[g]?):=zA ((xP _ _).trans <| p2 g (by have:=HBG.out;omega))
 have HPB:=zA (p3 HB1.out (Nat.le_refl _)).drew
 clear p1 p2 p3 qW c0 c1 c2 c3 c4 c5 c6 fx0 fx1 fx2 fx3 fx4 fx5 fx6
 generalize (((((((((((((((w1).setCell ⟨w.heap.size,0,none⟩ (.int .i64 e.mn))).setCell ⟨w.heap.size,1,none⟩ (.int .i64 e.mx))).setCell ⟨w.heap.size,2,none⟩ (.int .i64 e.goal))).setCell ⟨w.heap.size,3,none⟩ (.int .i64 e.slack))).setCell ⟨w.heap.size,4,none⟩ (.int .i64 e.up))).setCell ⟨w.heap.size,5,none⟩ (.int .i64 e.down))).setCell ⟨w.heap.size,6,none⟩ (.int .i64 e.cool))).drew=Z1 at *
 refine hK.out _ _ (fun _=>HP2.out) (fun _=>?_)
 clear hK K
 try simp only[zP]
 have HSET2:=zA (set2 Z1 (w.heap.size+1) (.int .i64 e.node) (.int .i64 e.seq) hy7 rfl)
 have dd0:=cc 0 hy7
 have dd1:=cc 1 hy7
 have ff0:=zB hy7 0
 have ff1:=zB hy7 1
 clear hy7
 refine t1 9 rfl (fun K hK=>?_)
 go_simp
 obtain⟨d1,d2,d3⟩:=HSET2.out
 have HD1:Hid ((((((Z1).setCell ⟨(w.heap.size+1),0,none⟩ (.int .i64 e.node))).setCell ⟨(w.heap.size+1),1,none⟩ (.int .i64 e.seq))).heap[w.heap.size+1]?=_):=zA d1
 have HD2:Hid ((((((Z1).setCell ⟨(w.heap.size+1),0,none⟩ (.int .i64 e.node))).setCell ⟨(w.heap.size+1),1,none⟩ (.int .i64 e.seq))).heap[w.heap.size]?=_):=zA ((d2 w.heap.size lD).trans HP1.out)
 have HD3:Hid ((((((Z1).setCell ⟨(w.heap.size+1),0,none⟩ (.int .i64 e.node))).setCell ⟨(w.heap.size+1),1,none⟩ (.int .i64 e.seq))).heap[g]?=w1.heap[g]?):=zA ((d2 g (by have:=HBG.out;omega)).trans HP2.out)
 have HDB:=zA (d3 HPB.out (Nat.le_succ _))
 clear d1 d2 d3 HSET2 dd0 dd1 ff0 ff1
 generalize (((((Z1).setCell ⟨(w.heap.size+1),0,none⟩ (.int .i64 e.node))).setCell ⟨(w.heap.size+1),1,none⟩ (.int .i64 e.seq)))=Z at *
 refine hK.out _ _ (fun _=>HD3.out) (fun _=>?_)
 clear hK K
 try simp only[zP]
 refine t1 10 rfl (fun K hK=>?_)
 go_simp
 refine hK.out _ _ (fun _=>HD3.out) (fun _=>?_)
 clear hK K
 try simp only[zP]
 refine wd ?_
 have e0:=cc 0 HD2.out
 have e1:=cc 1 HD2.out
 have e2:=cc 2 HD2.out
 have e3:=cc 3 HD2.out
 have e4:=cc 4 HD2.out
 have e5:=cc 5 HD2.out
 have e6:=cc 6 HD2.out
 have g0:=cc 0 HD1.out
 have g1:=cc 1 HD1.out
 go_wp2_with fail
 obtain⟨y,hy,ey,hmax⟩:=HTOP.out
 have ye:∀(f:Pl.Ev→Int),f e.abs=f y.abs:=fun f=>by rw[ey]
 exact bodyPost_ret (v:=.tuple #[.agg (Qg e.mn e.mx e.goal e.slack e.up e.down e.cool),.agg (Qi e.node e.seq),.bool true]) (by simp[results,results41,go_sem,e0,e1,e2,e3,e4,e5,e6,g0,g1]) rfl ⟨y,hy,hmax,by rw[show e.mn=y.mn from ye (·.mn),show e.mx=y.mx from ye (·.mx),show e.goal=y.goal from ye (·.goal),show e.slack=y.slack from ye (·.slack),show e.up=y.up from ye (·.up),show e.down=y.down from ye (·.down),show e.cool=y.cool from ye (·.cool),show e.node=y.node from ye (·.node),show e.seq=y.seq from ye (·.seq)],HDB.out⟩
def Pl.askedQ (e:Pl.Ev) (load:Int):Int:=Pl.within (Pl.ceilQ (max load 0) e.goal) e.mn e.mx
theorem asked_ok (e:Pl.Ev) (load:Int) (w:World) (h:e.polOk=true) :
  Calls prog 43 #[.agg (Qg e.mn e.mx e.goal e.slack e.up e.down e.cool),.int .i64 load] w fun r w'=>r=.returned (.tuple (Qi (Pl.askedQ e load) (Pl.ceilE e.goal)))∧Below w.heap.size w w':=by
 have b1:=bn w (.cells (Qg e.mn e.mx e.goal e.slack e.up e.down e.cool) 38)
 have hx:=heap_alloc_new w (.cells (Qg e.mn e.mx e.goal e.slack e.up e.down e.cool) 38)
 have HB:=zA b1
 have HX:=zA hx
 have HP:=zA ((uH e.mn e.mx e.goal e.slack e.up e.down e.cool (w.alloc (.cells (Qg e.mn e.mx e.goal e.slack e.up e.down e.cool) 38))).mono (R':=fun r w'=>r=.returned (.bool true)∧Below (w.alloc (.cells (Qg e.mn e.mx e.goal e.slack e.up e.down e.cool) 38)).heap.size (w.alloc (.cells (Qg e.mn e.mx e.goal e.slack e.up e.down e.cool) 38)) w') (fun r w' ⟨he,hb⟩=>⟨by rw[he];exact congrArg (fun b=>Ending.returned (.bool b)) h,hb⟩))
 have c0:=cc 0 hx
 have c1:=cc 1 hx
 have c2:=cc 2 hx
 have c3:=cc 3 hx
 have c4:=cc 4 hx
 have c5:=cc 5 hx
 have c6:=cc 6 hx
 have hmax:∀W,Sem.run prog (Builtin.max_ #[3,3] 3 (Qi load 0)) W=.ok (.int .i64 (max load 0)) W:=fun W=>by
  unfold Builtin.max_
  simp[Builtin.max2]
  split<;>omega
 clear b1 hx h
 go_enter func43,ntmps43
 go_wp2_with fail
 generalize w.alloc (.cells (Qg e.mn e.mx e.goal e.slack e.up e.down e.cool) 38)=W at *
 refine HP.out.mono ?_
 rintro x w1 ⟨rfl,hb⟩
 have hx:=zZ hb HX.out
 have HB1:=zA (HB.out.trans (hb.mono HB.out.size))
 clear c0 c1 c2 c3 c4 c5 c6
 have c0:=cc 0 hx
 have c1:=cc 1 hx
 have c2:=cc 2 hx
 have c3:=cc 3 hx
 have c4:=cc 4 hx
 have c5:=cc 5 hx
 have c6:=cc 6 hx
 clear hb hx HX HP HB
 go_wp2_with fail
 refine(ceil_any _ _ _).mono ?_
 rintro x w2 ⟨rfl,rfl⟩
 go_wp2_with fail
 refine(within_any _ _ _ _).mono ?_
 rintro x w2 ⟨rfl,rfl⟩
 go_wp2_with fail
 exact bodyPost_ret (v:=.tuple (Qi (Pl.askedQ e load) (Pl.ceilE e.goal))) (by simp[results,results43,go_sem,Pl.askedQ]) rfl ⟨rfl,HB1.out⟩
theorem zJ {P:Program} {w w0:World} {ops:Array Oper} {rest:List Oper} {o:Oper} {a:Act} {Q:Exit→Act→World→Prop} (hgd:o.guard=none) (t:TypeId) (pl vl:Operand) (c c':Array Value)
  (ho:o.op=.store t pl vl) (hw:w=w0.alloc (.cells c t)) (k:Nat) (hk:w0.heap.size=k) (hp:a.eval pl=.pointer (some ⟨k,0,none⟩)) (hv:a.eval vl=.agg c')
  (hi:(P.info? t).map (·.size)=some c'.size) (hs:c.size=c'.size) (h1:c'.all (·.oneCell')=true) (hd:o.dst=none)
  (h:wpList P ops Q rest a (w0.alloc (.cells c' t))):wpList P ops Q (o::rest) a w:=by
 subst hw
 subst hk
 refine wpList_plain hgd fun K hK'=>?_
 have qH:=run_storeAt_new (P:=P) w0 t c c' hi hs h1
 unfold Oper.wp
 simp[execOp,ho,hp,hv,qH,Result.andThen]
 have h2:a.put o.dst undef=a:=by rw[hd];rfl
 exact hK' _ _ (by simpa[hd,Act.put]using h)
theorem has_1 (w:World):Calls prog 111 (Qo 1) w fun r w'=>r=.returned (.agg Qfa)∧Below w.heap.size w w':=by
 have H2:=zA (zU w (.cells Qfa 198) (.cells Qfb 295))
 go_enter func111,ntmps111
 go_wp2_with (refine zJ rfl 295 (.tmp 3) (.tmp 9) _ Qfb rfl rfl _ (zG _ _) rfl rfl lE lE lE rfl ?_)
 obtain⟨p1,p2,p3⟩:=H2.out
 have HP3:=zA p3
 clear p2 p3 H2
 generalize (w.alloc (.cells Qfa 198)).alloc (.cells Qfb 295)=Z at *
 have c0:=cc 0 p1
 have c1:=cc 1 p1
 have c2:=cc 2 p1
 have c3:=cc 3 p1
 exact bodyPost_ret (v:=.agg Qfa) (by simp[results,results111,go_sem,c0,c1,c2,c3]) rfl ⟨rfl,HP3.out⟩
theorem has_4 (w:World):Calls prog 111 (Qo 4) w fun r w'=>r=.returned (.agg Qfc)∧Below w.heap.size w w':=by
 have H2:=zA (zU w (.cells Qfc 198) (.cells Qfb 295))
 go_enter func111,ntmps111
 go_wp2_with (refine zJ rfl 295 (.tmp 3) (.tmp 9) _ Qfb rfl rfl _ (zG _ _) rfl rfl lE lE lE rfl ?_)
 obtain⟨p1,p2,p3⟩:=H2.out
 have HP3:=zA p3
 clear p2 p3 H2
 generalize (w.alloc (.cells Qfc 198)).alloc (.cells Qfb 295)=Z at *
 have c0:=cc 0 p1
 have c1:=cc 1 p1
 have c2:=cc 2 p1
 have c3:=cc 3 p1
 exact bodyPost_ret (v:=.agg Qfc) (by simp[results,results111,go_sem,c0,c1,c2,c3]) rfl ⟨rfl,HP3.out⟩
theorem has_5 (w:World):Calls prog 111 (Qo 5) w fun r w'=>r=.returned (.agg Qfd)∧Below w.heap.size w w':=by
 have H2:=zA (zU w (.cells Qfd 198) (.cells Qfb 295))
 go_enter func111,ntmps111
 go_wp2_with (refine zJ rfl 295 (.tmp 3) (.tmp 9) _ Qfb rfl rfl _ (zG _ _) rfl rfl lE lE lE rfl ?_)
 obtain⟨p1,p2,p3⟩:=H2.out
 have HP3:=zA p3
 clear p2 p3 H2
 generalize (w.alloc (.cells Qfd 198)).alloc (.cells Qfb 295)=Z at *
 have c0:=cc 0 p1
 have c1:=cc 1 p1
 have c2:=cc 2 p1
 have c3:=cc 3 p1
 exact bodyPost_ret (v:=.agg Qfd) (by simp[results,results111,go_sem,c0,c1,c2,c3]) rfl ⟨rfl,HP3.out⟩
theorem xN (n:Int) (w:World):Calls prog 190 (Qo n) w fun r w'=>r=.returned (.bool (Pl.inside n 0 7))∧w=w':=by
 go_enter func190,ntmps190
 go_wp2_with fail
 refine(yM _ _ _ _).mono ?_
 rintro r w2 ⟨rfl,rfl⟩
 go_wp2_with fail
 go_ret
 exact⟨rfl,rfl⟩
end
end Go.Proofs.YtodlmbfbfaofcaaGreat
