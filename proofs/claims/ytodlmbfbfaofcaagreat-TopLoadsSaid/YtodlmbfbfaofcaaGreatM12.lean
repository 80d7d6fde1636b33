/- TopLoads, part 12. -/
import Derived.Maps.Keyed
import Derived.Maps.RangeRun
import Derived.Test.YtodlmbfbfaofcaaGreatM01
import Derived.Test.YtodlmbfbfaofcaaGreatM03
import Derived.Test.YtodlmbfbfaofcaaGreatM07
import Derived.Test.YtodlmbfbfaofcaaGreatM11
open Go.Proofs.Tryz
namespace Go.Proofs.YtodlmbfbfaofcaaGreat
set_option linter.unusedVariables false
set_option linter.unusedSimpArgs false
set_option maxRecDepth 100000
set_option maxHeartbeats 2000000
section
open Go.RowKit Rw Rh
theorem Pl.vints_len (l:List Nat) (h:∀n∈l,n≤1099511627776):(Pl.vints l).length≤6*l.length:=by
 unfold Pl.vints
 induction l with
 | nil=>simp
 | cons a l ih=>
  rw[List.flatMap_cons,List.length_append,List.length_cons]
  have:=ih (fun n hn=>h n (by simp[hn]))
  have:=Pl.vint_len6 (h a (by simp))
  omega
theorem Pl.vints_succ (l:List Nat) (k:Nat) (h:k<l.length):Pl.vints (l.take (k+1))=Pl.vints (l.take k)++Pl.vint l[k]:=by
 unfold Pl.vints
 rw[List.take_succ_eq_append_getElem h,List.flatMap_append]
 simp
theorem ints8 (w:World) (g:Nat) (U:Nat→Nat) (m:Value) (h:w.heap[g]?=some (.cells #[.int .i64 (U 0),.int .i64 (U 1),.int .i64 (U 2),.int .i64 (U 3),.int .i64 (U 4),.int .i64 (U 5),.int .i64 (U 6),.int .i64 (U 7),m] 60 (0,0))):RowC kInt w (.slice (some ⟨g,0,none⟩) 8 8) [(U 0:Int),(U 1:Int),(U 2:Int),(U 3:Int),(U 4:Int),(U 5:Int),(U 6:Int),(U 7:Int)]:=by
 refine ints_row ⟨_,_,rfl,(fun e=>by cases e),fun i hi=>⟨_,_,rfl,(gsi.1 h).1,?_⟩⟩
 match i,hi with
 | 0,_=>exact zF (j:=0+0) h rfl
 | 1,_=>exact zF (j:=0+1) h rfl
 | 2,_=>exact zF (j:=0+2) h rfl
 | 3,_=>exact zF (j:=0+3) h rfl
 | 4,_=>exact zF (j:=0+4) h rfl
 | 5,_=>exact zF (j:=0+5) h rfl
 | 6,_=>exact zF (j:=0+6) h rfl
 | 7,_=>exact zF (j:=0+7) h rfl
 | i+8,hi=>exact absurd hi (by simp)
theorem put_set_ok (v:Value) (O:Nat→Nat→Bool) (U:Nat→Nat) (M:List (Nat×Nat)) (w:World) (h:SetV w v O U M) :
  Calls prog 158 #[v] w fun e w'=>∃v',e=.returned (.tuple #[v',.int .i64 0])∧OwnB w.heap.size w' v' (Pl.vints (Pl.nums U M))∧Below w.heap.size w w':=by
 have HV:=zA h
 obtain⟨m,rfl,hd,hc⟩:=h
 obtain⟨ao,cap,rfl,_⟩:=hd.toC
 have b1:=bn w (.cells (Qu U ao M.length cap) 60)
 have hx:=heap_alloc_new w (.cells (Qu U ao M.length cap) 60)
 have HB:=zA b1
 have HX:=zA hx
 have HR:=zA (uE _ O U M _ (HV.out.below b1))
 have HD:=zA (hd.below b1)
 have qJ:=zA hc.len
 have HCL:=zA hc
 clear hd hc b1 hx
 go_enter func158,ntmps158
 go_wp2_with fail
 generalize hW0:(w.alloc (.cells (Qu U ao M.length cap) 60))=W0 at *
 have HSZ:=zA (show w.heap.size<W0.heap.size by rw[←hW0];simp)
 clear hW0
 refine HR.out.mono ?_
 rintro e w1 ⟨rfl,b1⟩
 have HB1:=zA b1
 have H60:=zA (fun (W:World) (hW:Below W0.heap.size W0 W)=>(hW.block w.heap.size (gsi.1 HX.out).1).trans HX.out)
 clear b1 HR
 go_wp2_with fail
 have HST:Hid (StableB [(fun v (_:World)=>v=.pointer (some ⟨w.heap.size,0,none⟩)),(fun v (_:World)=>v=.slice (some ⟨w.heap.size,0,none⟩) 8 8),(fun v W=>OwnR kInt W0.heap.size W v [(U 0:Int),(U 1:Int),(U 2:Int),(U 3:Int),(U 4:Int),(U 5:Int),(U 6:Int),(U 7:Int)]),(fun v (_:World)=>v=.pointer (some ⟨w.heap.size,8,none⟩)),(fun v (_:World)=>v=.slice ao M.length cap),(fun v (_:World)=>v=.int .i64 M.length),(fun v W=>RowC kInt W v [(M.length:Int)]),(fun v W=>OwnR kInt W0.heap.size W v (Pl.toInts (Pl.nums0 U M))),(fun v W=>∃g,v=.pointer (some ⟨g,0,none⟩)∧W0.heap.size≤g∧W.heap[g]?=some (.cells #[.slice none 0 0] 34 (0,0))),(fun (_:Value) (_:World)=>True)]):=zA ((yQ wM (yQ wM (yQ (fun v W W2 b h=>OwnR.below h b) (yQ wM (yQ wM (yQ wM (yQ (fun v W W2 b h=>RowC.below h b) (yQ (fun v W W2 b h=>OwnR.below h b) (yQ (fun v W W2 b ⟨g,h1,h2,h3⟩=>⟨g,h1,h2,(b.block g (gsi.1 h3).1).trans h3⟩) (yQ stable_true stable_nil)))))))))))
 refine tG 9 (vget [(fun v (_:World)=>v=.pointer (some ⟨w.heap.size,0,none⟩)),(fun v (_:World)=>v=.slice (some ⟨w.heap.size,0,none⟩) 8 8),(fun v W=>OwnR kInt W0.heap.size W v [(U 0:Int),(U 1:Int),(U 2:Int),(U 3:Int),(U 4:Int),(U 5:Int),(U 6:Int),(U 7:Int)]),(fun v (_:World)=>v=.pointer (some ⟨w.heap.size,8,none⟩)),(fun v (_:World)=>v=.slice ao M.length cap),(fun v (_:World)=>v=.int .i64 M.length),(fun v W=>RowC kInt W v [(M.length:Int)]),(fun v W=>OwnR kInt W0.heap.size W v (Pl.toInts (Pl.nums0 U M))),(fun v W=>∃g,v=.pointer (some ⟨g,0,none⟩)∧W0.heap.size≤g∧W.heap[g]?=some (.cells #[.slice none 0 0] 34 (0,0))),(fun (_:Value) (_:World)=>True)]) (fun j=>match j with | 2=>some 7 | 6=>some 7 | _=>none) (fun W=>Below W0.heap.size W0 W) (by kernel_rfl) (by kernel_rfl) (by kernel_rfl) (by kernel_rfl) (by decide) (HB1.out.drew) ?_ ?_ ?_
 ·intro j hj v;exact vget_ge (by rfl) _ j hj v
 ·intro i hi hne
  match i,hi,hne with
  | 0,_,_=>
   intro x W o ho hC hd K hK
   simp only[List.getElem?_toArray,List.getElem?_cons_succ,List.getElem?_cons_zero,Option.some.injEq]at ho
   subst ho
   clear hd
   simp only[List.toList_toArray,putAll,Act.put,List.setIfInBounds_toArray,List.set_cons_zero,List.set_cons_succ,Nat.zero_add,Nat.reduceAdd]at hK ⊢
   go_simp
   exact hK.out _ _ rfl hC (fun _ _ _ _ h=>h)
  | 1,_,_=>
   intro x W o ho hC hd K hK
   simp only[List.getElem?_toArray,List.getElem?_cons_succ,List.getElem?_cons_zero,Option.some.injEq]at ho
   subst ho
   have h0:=hd 0 (.inl (by rfl)) (.inl (by rfl))
   simp only[vget,List.getD_cons_zero,List.getD_cons_succ]at h0
   clear hd
   simp only[List.toList_toArray,putAll,Act.put,List.setIfInBounds_toArray,List.set_cons_zero,List.set_cons_succ,Nat.zero_add,Nat.reduceAdd]at hK ⊢
   simp only[h0]at hK ⊢
   go_simp
   exact hK.out _ _ rfl hC (fun _ _ _ _ h=>h)
  | 2,_,_=>
   intro x W o ho hC hd K hK
   simp only[List.getElem?_toArray,List.getElem?_cons_succ,List.getElem?_cons_zero,Option.some.injEq]at ho
   subst ho
   have h1:=hd 1 (.inl (by rfl)) (.inl (by rfl))
   simp only[vget,List.getD_cons_zero,List.getD_cons_succ]at h1
   clear hd
   simp only[List.toList_toArray,putAll,Act.put,List.setIfInBounds_toArray,List.set_cons_zero,List.set_cons_succ,Nat.zero_add,Nat.reduceAdd]at hK ⊢
   simp only[h1]at hK ⊢
   go_simp
   refine(vR _ [(U 0:Int),(U 1:Int),(U 2:Int),(U 3:Int),(U 4:Int),(U 5:Int),(U 6:Int),(U 7:Int)] W (ints8 W _ U _ (H60.out W hC)) (by simp)).mono ?_
   rintro e W2 ⟨v2,rfl,o2,b2⟩
   exact hK.out _ _ (o2.mono hC.size) (hC.trans (b2.mono hC.size)) (fun j u _ _ h=>HST.out j u W W2 b2 h)
  | 3,_,_=>
   intro x W o ho hC hd K hK
   simp only[List.getElem?_toArray,List.getElem?_cons_succ,List.getElem?_cons_zero,Option.some.injEq]at ho
   subst ho
   clear hd
   simp only[List.toList_toArray,putAll,Act.put,List.setIfInBounds_toArray,List.set_cons_zero,List.set_cons_succ,Nat.zero_add,Nat.reduceAdd]at hK ⊢
   go_simp
   exact hK.out _ _ rfl hC (fun _ _ _ _ h=>h)
  | 4,_,_=>
   intro x W o ho hC hd K hK
   simp only[List.getElem?_toArray,List.getElem?_cons_succ,List.getElem?_cons_zero,Option.some.injEq]at ho
   subst ho
   have h3:=hd 3 (.inl (by rfl)) (.inl (by rfl))
   simp only[vget,List.getD_cons_zero,List.getD_cons_succ]at h3
   clear hd
   simp only[List.toList_toArray,putAll,Act.put,List.setIfInBounds_toArray,List.set_cons_zero,List.set_cons_succ,Nat.zero_add,Nat.reduceAdd]at hK ⊢
   simp only[h3]at hK ⊢
   have c8:=cc 8 (H60.out W hC)
   have hCC:=zA hC
   clear hC
   go_simp
   exact hK.out _ _ rfl hCC.out (fun _ _ _ _ h=>h)
  | 5,_,_=>
   intro x W o ho hC hd K hK
   simp only[List.getElem?_toArray,List.getElem?_cons_succ,List.getElem?_cons_zero,Option.some.injEq]at ho
   subst ho
   have h4:=hd 4 (.inl (by rfl)) (.inl (by rfl))
   simp only[vget,List.getD_cons_zero,List.getD_cons_succ]at h4
   clear hd
   simp only[List.toList_toArray,putAll,Act.put,List.setIfInBounds_toArray,List.set_cons_zero,List.set_cons_succ,Nat.zero_add,Nat.reduceAdd]at hK ⊢
   simp only[h4]at hK ⊢
   go_simp
   exact hK.out _ _ rfl hC (fun _ _ _ _ h=>h)
  | 6,_,_=>
   intro x W o ho hC hd K hK
   simp only[List.getElem?_toArray,List.getElem?_cons_succ,List.getElem?_cons_zero,Option.some.injEq]at ho
   subst ho
   have h5:=hd 5 (.inl (by rfl)) (.inl (by rfl))
   simp only[vget,List.getD_cons_zero,List.getD_cons_succ]at h5
   clear hd
   simp only[List.toList_toArray,putAll,Act.put,List.setIfInBounds_toArray,List.set_cons_zero,List.set_cons_succ,Nat.zero_add,Nat.reduceAdd]at hK ⊢
   simp only[h5]at hK ⊢
   go_simp
   have b2:=bn W (.cells (Qo M.length) 3)
   exact hK.out _ _ (yJ kInt W [(M.length:Int)] (Qo M.length) 1 rfl rfl) (hC.trans (b2.mono hC.size)) (fun j u _ _ h=>HST.out j u W _ b2 h)
  | 7,_,_=>
   intro x W o ho hC hd K hK
   simp only[List.getElem?_toArray,List.getElem?_cons_succ,List.getElem?_cons_zero,Option.some.injEq]at ho
   subst ho
   have h2:=hd 2 (.inl (by rfl)) (.inr (by rfl))
   simp only[vget,List.getD_cons_zero,List.getD_cons_succ]at h2
   have h6:=hd 6 (.inl (by rfl)) (.inr (by rfl))
   simp only[vget,List.getD_cons_zero,List.getD_cons_succ]at h6
   clear hd
   simp only[List.toList_toArray,putAll,Act.put,List.setIfInBounds_toArray,List.set_cons_zero,List.set_cons_succ,Nat.zero_add,Nat.reduceAdd]at hK ⊢
   rw[if_pos (by rfl)]
   refine vD kInt rfl (.tmp 13) (.tmp 17) rfl rfl h2 rfl h6 (by simp) hC hC.size ?_
   intro v1 w1 rX hb hg
   have hC2:Below W0.heap.size W0 w1:=⟨hg.os.trans hC.os,hg.tape.trans hC.tape,hg.output.trans hC.output,Nat.le_trans hC.size hg.size,fun i hi=>(hg.block i (Nat.lt_of_lt_of_le hi hC.size) (fun e=>by have:=(h2.lt i e.symm).1;omega)).trans (hC.block i hi)⟩
   refine hK.out v1 w1 rX hC2 (fun j u hj hs hv=>?_)
   match j,hj,hs,hv with
   | 0,_,_,hv=>exact hv
   | 1,_,_,hv=>exact hv
   | 2,_,hs,_=>exact absurd rfl hs
   | 3,_,_,hv=>exact hv
   | 4,_,_,hv=>exact hv
   | 5,_,_,hv=>exact hv
   | 6,_,hs,_=>exact absurd rfl hs
   | 7,hj,_,_=>exact absurd rfl hj
   | 8,_,_,hv=>
    obtain⟨g,e1,e2,e3⟩:=hv
    refine⟨g,e1,e2,(hg.block g (gsi.1 e3).1 (fun e=>?_)).trans e3⟩
    obtain⟨cs,hcs⟩:=zK h2 e.symm
    rw[e3]at hcs;cases hcs
   | 9,_,_,hv=>exact hv
   | j+10,_,_,hv=>exact vget_ge (n:=10) rfl _ _ (by omega) _
  | 8,_,_=>
   intro x W o ho hC hd K hK
   simp only[List.getElem?_toArray,List.getElem?_cons_succ,List.getElem?_cons_zero,Option.some.injEq]at ho
   subst ho
   clear hd
   simp only[List.toList_toArray,putAll,Act.put,List.setIfInBounds_toArray,List.set_cons_zero,List.set_cons_succ,Nat.zero_add,Nat.reduceAdd]at hK ⊢
   go_simp
   have b2:=bn W (.cells #[.slice none 0 0] 34)
   exact hK.out _ _ ⟨W.heap.size,rfl,hC.size,heap_alloc_new W _⟩ (hC.trans (b2.mono hC.size)) (fun j u _ _ h=>HST.out j u W _ b2 h)
  | 9,_,h=>exact absurd rfl h
  | i+10,h,_=>exact absurd h (by simp)
 ·intro x W o ho hC hd K hK
  simp only[List.getElem?_toArray,List.getElem?_cons_succ,List.getElem?_cons_zero,Option.some.injEq]at ho
  subst ho
  have h7:=hd 7 (by decide) (.inl (by rfl))
  simp only[vget,List.getD_cons_zero,List.getD_cons_succ]at h7
  have h8:=hd 8 (by decide) (.inl (by rfl))
  simp only[vget,List.getD_cons_zero,List.getD_cons_succ]at h8
  clear hd
  simp only[List.toList_toArray,putAll,Act.put,List.setIfInBounds_toArray,List.set_cons_zero,List.set_cons_succ,Nat.zero_add,Nat.reduceAdd]
  obtain⟨g,hg,hgb,hgx⟩:=h8
  simp only[hg]at hK ⊢
  obtain⟨ao7,cap7,hv7⟩:=h7.toT.form
  simp only[hv7]at hK ⊢
  have HX7:=zA (show OwnR kInt W0.heap.size W (.slice ao7 (Pl.toInts (Pl.nums0 U M)).length cap7) (Pl.toInts (Pl.nums0 U M)) by rw[←hv7];exact h7)
  have HGX:=zA hgx
  have HGB:=zA hgb
  have HCW:=zA hC
  have cg:=cc 0 hgx
  have fz:=zB hgx 0
  clear hgx hgb hC h7 hv7 hg
  go_simp
  refine hK.out _ _ ?_
  clear hK K
  have hgx:=zG (j:=0) HGX.out (.slice ao7 9 cap7)
  have hl9:(Pl.toInts (Pl.nums0 U M)).length=9:=rfl
  rw[hl9]at *
  have hns:NsAt W0.heap.size g (Pl.nums0 U M++Pl.flat (M.take 0)) (W.setCell ⟨g,0,none⟩ (.slice ao7 9 cap7)):=⟨_,hgx.trans (by simp;rfl),by
   rw[List.take_zero,show Pl.flat []=[]from rfl,List.append_nil]
   refine HX7.out.keep (fun k hk=>Below.heap_setCell _ _ _ _ (fun e=>?_))
   obtain⟨cs,hcs⟩:=zK HX7.out hk
   rw[show k=g from e,HGX.out]at hcs;cases hcs⟩
  have hbz:=zP HCW.out HGB.out 0 (.slice ao7 9 cap7)
  clear hgx cg fz HGX HX7 HCW hl9
  generalize W.setCell ⟨g,0,none⟩ (.slice ao7 9 cap7)=Z at *
  have c8:=cc 8 (H60.out Z hbz)
  have HNS:=zA hns
  have HBZ:=zA hbz
  clear hns hbz
  go_wp2_with fail
  have hflat:∀k,k<M.length→Pl.flat (M.take (k+1))=Pl.flat (M.take k)++[(M[k]!).1,(M[k]!).2]:=fun k hk=>by
   unfold Pl.flat
   rw[List.take_succ_eq_append_getElem hk,List.flatMap_append]
   simp[hk]
  have hfl:∀l:List (Nat×Nat),(Pl.flat l).length=2*l.length:=fun l=>by
   unfold Pl.flat
   induction l with
   | nil=>rfl
   | cons a l ih=>rw[List.flatMap_cons,List.length_append,ih,List.length_cons];simp;omega
  refine(each_cb (.slice ao M.length cap) 251 #[Qp g] M (fun k W=>NsAt W0.heap.size g (Pl.nums0 U M++Pl.flat (M.take k)) W∧Below W0.heap.size W0 W) Z ⟨HNS.out,HBZ.out⟩ (by have:=qJ.out;omega) (fun k W hI=>(HD.out.below hI.2).toC) (fun k W W' hI hb=>⟨?_,hI.2.trans (hb.mono hI.2.size)⟩) (fun x W=>by kernel_rfl) (fun k hk W hI=>?_)).mono ?_
  ·obtain⟨m,h1,h2⟩:=hI.1
   exact⟨m,(hb.block g (gsi.1 h1).1).trans h1,h2.below hb⟩
  ·refine(nums1_ok W0.heap.size g (M[k]).1 (M[k]).2 _ W hI.1 hI.2.size (by
    have:=qJ.out
    have h9:(Pl.nums0 U M).length=9:=rfl
    rw[List.length_append,hfl,List.length_take,h9];omega)).mono ?_
   rintro e w' ⟨rfl,h1,h2⟩
   refine⟨rfl,?_,h2.since hI.2 (fun x hx=>by have:=HGB.out;omega)⟩
   rw[hflat k hk,←List.append_assoc]
   simpa[hk]using h1
  ·rintro e w2 ⟨rfl,hns,hb2⟩
   rw[List.take_length]at hns
   change NsAt W0.heap.size g (Pl.nums U M) w2 at hns
   obtain⟨m,hgx,rX⟩:=hns
   have hlen:(Pl.nums U M).length≤2000:=by
    have:=qJ.out
    have h9:(Pl.nums0 U M).length=9:=rfl
    unfold Pl.nums
    rw[List.length_append,hfl,h9];omega
   obtain⟨ao2,cap2,hm2⟩:=rX.toT.form
   have hln:(Pl.toInts (Pl.nums U M)).length=(Pl.nums U M).length:=by unfold Pl.toInts;simp
   rw[hln]at hm2
   subst hm2
   have cg:=cc 0 hgx
   have qR:=zA rX
   have HB2:=zA hb2
   have HLN:=zA hlen
   have hsmall:∀n∈Pl.nums U M,n≤768:=fun n hn=>by
    have hc:=HCL.out
    unfold Pl.nums Pl.nums0 at hn
    rcases List.mem_append.1 hn with hn | hn
    ·have:=hc.upto
     simp at hn
     rcases hn with rfl | rfl | rfl | rfl | rfl | rfl | rfl | rfl | rfl
     ·have:=this 0 (by omega);omega
     ·have:=this 1 (by omega);omega
     ·have:=this 2 (by omega);omega
     ·have:=this 3 (by omega);omega
     ·have:=this 4 (by omega);omega
     ·have:=this 5 (by omega);omega
     ·have:=this 6 (by omega);omega
     ·have:=this 7 (by omega);omega
     ·exact qJ.out
    ·unfold Pl.flat at hn
     obtain⟨d,hd,hn⟩:=List.mem_flatMap.1 hn
     have:=hc.may d hd
     simp at hn
     rcases hn with rfl | rfl<;>omega
   have HSM:=zA hsmall
   clear hgx rX hb2 hlen hsmall hflat hfl hln c8
   generalize hnl:Pl.nums U M=l at *
   have HNL:=zA hnl
   clear hnl
   go_wp2_with fail
   go_loopw [5,25] (fun v i wr=>∃(k:Nat),k≤l.length∧i=.int .i64 k∧OwnB W0.heap.size wr v (Pl.vints (l.take k))∧Below W0.heap.size W0 wr∧Below w2.heap.size w2 wr) (fun _ i _=>l.length - (intOf i).toNat)
   case atStart=>exact⟨0,by omega,rfl,xS _ _,HB2.out,Below.refl _ _⟩
   case round=>
    obtain⟨k,hk,rfl,hO,hb,hb2⟩:=hrel
    by_cases hlt:k<l.length
    ·have qX:k<(Pl.toInts l).length:=by unfold Pl.toInts;simpa using hlt
     obtain⟨g2,off,cap3,e,hg2,hc⟩:=((qR.out.below hb2).toT).cell qX
     rw[show(Pl.toInts l).length=l.length from by unfold Pl.toInts;simp]at e
     cases e
     have a1:(k:Int)+1≤9223372036854775807:=by have:=HLN.out;omega
     have c0:=hc 0 _ rfl
     simp only[Nat.mul_one,Nat.add_zero,show kInt.k=1 from rfl]at c0
     have qW:(Pl.toInts l)[k]=((l[k]:Nat):Int):=by simp[Pl.toInts]
     rw[qW]at c0
     have hle:l[k]≤1099511627776:=by have:=HSM.out _ (List.getElem_mem hlt);omega
     have hvl:(Pl.vints (l.take k)).length≤1000000:=by
      have:=Pl.vints_len (l.take k) (fun n hn=>by have:=HSM.out n (List.mem_of_mem_take hn);omega)
      rw[List.length_take]at this
      have:=HLN.out
      omega
     have qO:=zA (wB _ _ l[k] wr hO.toT.toC hvl hle)
     have HNX:=zA (Pl.vints_succ l k hlt)
     have HBR:=zA hb
     have HBR2:=zA hb2
     clear hc hO hb hb2 hvl hle qW qX
     generalize l[k]=n at *
     go_wp2_with fail
     refine qO.out.mono ?_
     rintro e w5 ⟨v5,rfl,o5,b5⟩
     have HO5:=zA (show OwnB W0.heap.size w5 v5 (Pl.vints (l.take (k+1))) by rw[HNX.out];exact o5.mono HBR.out.size)
     have HB5:=zA (HBR.out.trans (b5.mono HBR.out.size))
     have HB6:=zA (HBR2.out.trans (b5.mono HBR2.out.size))
     clear o5 b5
     go_wp2_with fail
     exact⟨⟨k+1,by omega,rfl,HO5.out,HB5.out,HB6.out⟩,by simp[intOf];omega⟩
    ·obtain rfl:k=l.length:=by omega
     have HO5:=zA (show OwnB W0.heap.size wr u5 (Pl.vints l) by rw[List.take_length]at hO;exact hO)
     have HB5:=zA hb
     clear hO hb hb2 hlt hk
     go_wp2_with fail
     exact bodyPost_ret (v:=.tuple #[u5,.int .i64 0]) (by simp[results,results158,go_sem]) rfl ⟨_,rfl,by rw[HNL.out];exact HO5.out.mono HB.out.size,HB.out.trans (HB5.out.mono HB.out.size)⟩
end
section
open Go.RowKit Rw Rh
def dkey (d:Nat×Nat):Value:=.agg (Qi d.1 d.2)
theorem equal45' (a b c d:Int) (w:World):(Op.equal 45 (.agg (Qi a b)) (.agg (Qi c d))).run prog w=.ok (a == c&&b == d) w:=by
 show(Op.equalIn 10000 45 _ _).run prog w=_
 go_simp
 split
 ·split<;>simp_all
 ·simp_all
theorem equal45 (a b:Nat×Nat) (w:World):(Op.equal 45 (dkey a) (dkey b)).run prog w=.ok (decide (a=b)) w:=by
 unfold dkey
 rw[equal45']
 congr 1
 rw[Bool.eq_iff_iff]
 simp only[Bool.and_eq_true,beq_iff_eq,decide_eq_true_eq,Prod.ext_iff]
 omega
theorem tF (e:Bool) (d:Nat×Nat) (w:World):(Instr.checkKey e 10000 45 (dkey d)).run prog w=.ok () w:=by
 unfold dkey
 cases e<;>kernel_rfl
structure Ents (es:Array MapEntry) (clock:Nat) (l:List ((Nat×Nat)×Value)):Prop where
 fits:es.toList.map (fun e=>(e.key,e.val))=l.map (fun p=>(dkey p.1,p.2))
 born:∀e∈es.toList,e.born<clock
 nodup:(es.toList.map (·.born)).Nodup
 keys:(l.map (·.1)).Nodup
def DmAt (w:World) (b:Nat) (l:List ((Nat×Nat)×Value)):Prop:=∃es clock,w.heap[b]?=some (.map es clock)∧Ents es clock l
theorem DmAt.keep {w w':World} {b:Nat} {l:List ((Nat×Nat)×Value)} (h:DmAt w b l) (k:w'.heap[b]?=w.heap[b]?):DmAt w' b l:=by
 obtain⟨es,c,h1,h2⟩:=h;exact⟨es,c,k.trans h1,h2⟩
theorem DmAt.lt {w:World} {b:Nat} {l:List ((Nat×Nat)×Value)} (h:DmAt w b l):b<w.heap.size:=by
 obtain⟨es,c,h1,h2⟩:=h;exact(gsi.1 h1).1
theorem DmAt.below {w w':World} {b:Nat} {l:List ((Nat×Nat)×Value)} (h:DmAt w b l) (hb:Below w.heap.size w w'):DmAt w' b l:=h.keep (hb.block _ h.lt)
theorem DmAt.cells_ne {w:World} {b:Nat} {l:List ((Nat×Nat)×Value)} (h:DmAt w b l) {g:Nat} {t:TypeId} {cs:Array Value} {fr:Nat×Nat} (hg:w.heap[g]?=some (Obj.cells cs t fr)):g≠b:=fun e=>by
 obtain⟨es,c,h1,h2⟩:=h
 rw[e,h1]at hg;cases hg
theorem rQ (w:World):DmAt (w.alloc (.map #[] 0)) w.heap.size []:=⟨#[],0,heap_alloc_new w _,rfl,fun e he=>absurd he (by simp),by simp,by simp⟩
theorem uW (d:Nat×Nat) (w:World):∀(es:List MapEntry) (l:List ((Nat×Nat)×Value)) (i:Nat),es.map (fun e=>(e.key,e.val))=l.map (fun p=>(dkey p.1,p.2))→
  ∃r,(Instr.findAsking 45 (dkey d) es i).run prog w=.ok r w∧((r=none∧∀p∈l,p.1≠d)∨∃k v,r=some (i+k,v)∧l[k]?=some (d,v))
 | [],l,i,h=>by
  have:l=[]:=by simpa using h.symm
  subst this
  exact⟨none,rfl,.inl ⟨rfl,fun p hp=>absurd hp (by simp)⟩⟩
 | e::es,l,i,h=>by
  cases l with
  | nil=>simp at h
  | cons p l=>
   simp only[List.map_cons,List.cons.injEq,Prod.mk.injEq]at h
   obtain⟨⟨hk,hv⟩,ht⟩:=h
   have heq:=equal45 d p.1 w
   by_cases hc:d=p.1
   ·refine⟨some (i,e.val),?_,.inr ⟨0,e.val,rfl,?_⟩⟩
    ·unfold Instr.findAsking
     rw[hk]
     rw[decide_eq_true hc]at heq
     simp[heq]
    ·rw[hv,hc];rfl
   ·obtain⟨r,hr,hcase⟩:=uW d w es l (i+1) ht
    refine⟨r,?_,?_⟩
    ·unfold Instr.findAsking
     rw[hk]
     simp[heq,hc,hr]
    ·rcases hcase with⟨rfl,h1⟩ | ⟨k,v,rfl,h1⟩
     ·exact .inl ⟨rfl,fun q hq=>by
       rcases List.mem_cons.1 hq with rfl | hq
       ·exact fun e=>hc e.symm
       ·exact h1 q hq⟩
     ·exact .inr ⟨k+1,v,by rw[show i+1+k=i+(k+1)from by omega],by simpa using h1⟩
theorem rN (d:Nat×Nat) (w:World) (es:List MapEntry) (l:List ((Nat×Nat)×Value)) (h:es.map (fun e=>(e.key,e.val))=l.map (fun p=>(dkey p.1,p.2))) :
  ∃r,(Instr.findKey 45 (dkey d) es).run prog w=.ok r w∧((r=none∧∀p∈l,p.1≠d)∨∃k v,r=some (k,v)∧l[k]?=some (d,v)):=by
 obtain⟨r,hr,hc⟩:=uW d w es l 0 h
 simp only[Nat.zero_add]at hc
 refine⟨r,?_,hc⟩
 unfold Instr.findKey
 simp only[Sem.run_bind,run_underlying underlying45,Result.andThen]
 cases es with
 | nil=>
  rcases hc with⟨rfl,_⟩ | ⟨k,v,_,hk⟩
  ·rfl
  ·have:l=[]:=by simpa using h.symm
   subst this
   simp at hk
 | cons e es=>exact hr
theorem key_one {l:List ((Nat×Nat)×Value)} (hn:(l.map (·.1)).Nodup) {k:Nat} {d:Nat×Nat} {v u:Value} (hk:l[k]?=some (d,v)) (hu:(d,u)∈l):v=u:=by
 obtain⟨j,hj,e⟩:=List.mem_iff_getElem.1 hu
 obtain⟨hk',e'⟩:=List.getElem?_eq_some_iff.1 hk
 have:=(List.getElem_inj (xs:=l.map (·.1)) (i:=k) (j:=j) (h₀:=by simpa using hk') (h₁:=by simpa using hj) hn).1 (by simp[e,e'])
 subst this
 rw[e]at e'
 exact(Prod.mk.inj e').2.symm
section
variable {T E:TypeId} (hT:prog.underlying T=some (.map 45 E))
include hT
theorem dm_look {w:World} {b:Nat} {l:List ((Nat×Nat)×Value)} (h:DmAt w b l) (d:Nat×Nat) (v:Value) (hv:(d,v)∈l) (c:Bool) :
  (Instr.lookup T (.map (some b)) (dkey d) c).run prog w=.ok (if c then .tuple #[v,.bool true]else v) w:=by
 obtain⟨es,clock,hb,he⟩:=h
 obtain⟨r,hr,hc⟩:=rN d w es.toList l he.fits
 have hg:(getObj b).run prog w=.ok (.map es clock) w:=by simp[getObj,Sem.run,hb]
 unfold Instr.lookup
 rcases hc with⟨rfl,h1⟩ | ⟨k,u,rfl,hk⟩
 ·exact absurd rfl (h1 _ hv)
 ·obtain rfl:=key_one he.keys hk hv
  simp[run_underlying hT,hg,tF,hr]
theorem dm_miss {w:World} {b:Nat} {l:List ((Nat×Nat)×Value)} (h:DmAt w b l) (d:Nat×Nat) (hd:∀p∈l,p.1≠d) (z:Value) (hz:(zeroValue E).run prog w=.ok z w) (c:Bool) :
  (Instr.lookup T (.map (some b)) (dkey d) c).run prog w=.ok (if c then .tuple #[z,.bool false]else z) w:=by
 obtain⟨es,clock,hb,he⟩:=h
 obtain⟨r,hr,hc⟩:=rN d w es.toList l he.fits
 have hg:(getObj b).run prog w=.ok (.map es clock) w:=by simp[getObj,Sem.run,hb]
 unfold Instr.lookup
 rcases hc with⟨rfl,h1⟩ | ⟨k,u,rfl,hk⟩
 ·simp[run_underlying hT,hg,tF,hr,hz]
 ·exact absurd rfl (hd _ (List.mem_of_getElem? hk))
theorem dm_drop {w:World} {b:Nat} {l:List ((Nat×Nat)×Value)} (h:DmAt w b l) (d:Nat×Nat) (hd:∀p∈l,p.1≠d) (ty:TypeId) :
  (Builtin.delete_ #[T,45] ty #[.map (some b),dkey d]).run prog w=.ok (.tuple #[]) w:=by
 obtain⟨es,clock,hb,he⟩:=h
 obtain⟨r,hr,hc⟩:=rN d w es.toList l he.fits
 have hg:(getObj b).run prog w=.ok (.map es clock) w:=by simp[getObj,Sem.run,hb]
 have hs:(setObj b (.map es clock)).run prog w=.ok () w:=by
  have:w.heap.setIfInBounds b (.map es clock)=w.heap:=by
   apply Array.ext
   ·simp
   ·intro i h1 h2
    rw[Array.getElem_setIfInBounds]
    split
    ·rename_i e;subst e;exact(gsi.1 hb).2.symm
    ·rfl
  have key:({w with heap:=w.heap.setIfInBounds b (.map es clock)}:World)=w:=by rw[this]
  simp only[setObj,Sem.run,hb]
  exact congrArg (Result.ok ()) key
 unfold Builtin.delete_
 rcases hc with⟨rfl,h1⟩ | ⟨k,u,rfl,hk⟩
 ·simp[run_underlying hT,hg,tF,hr,hs]
 ·exact absurd rfl (hd _ (List.mem_of_getElem? hk))
end
def setBlk (w:World) (b:Nat) (o:Obj):World:={w with heap:=w.heap.setIfInBounds b o}
theorem yC (w:World) (b:Nat) (o:Obj) {i:Nat} (h:i≠b):(setBlk w b o).heap[i]?=w.heap[i]?:=by
 unfold setBlk;exact Array.getElem?_setIfInBounds_ne (Ne.symm h)
theorem yR {w:World} {b:Nat} {o':Obj} (h:w.heap[b]?=some o') (o:Obj):(setBlk w b o).heap[b]?=some o:=by
 unfold setBlk;exact Array.getElem?_setIfInBounds_self_of_lt (gsi.1 h).1
theorem wF (w:World) (b:Nat) (o:Obj):(setBlk w b o).heap.size=w.heap.size:=by unfold setBlk;simp
theorem Off.setBlk {F:Nat→Prop} {w w':World} (h:Off F w w') {b:Nat} (hb:F b∨w.heap.size≤b) (o:Obj):Off F w (setBlk w' b o):=
 ⟨by rw[wF];exact h.size,fun g hg hn=>(yC w' b o (fun e=>by subst e;exact hb.elim hn (fun h'=>absurd hg (by omega)))).trans (h.same g hg hn),h.rest⟩
theorem xC {B:Nat} {a w:World} {g:Nat} (h:Below B a w) (hg:B≤g) (o:Obj):Below B a (setBlk w g o):=
 ⟨h.os,h.tape,h.output,by rw[wF];exact h.size,fun i hi=>(yC w g o (by omega)).trans (h.block i hi)⟩
theorem dm_put {T E:TypeId} (hT:prog.underlying T=some (.map 45 E)) {w:World} {b:Nat} {l:List ((Nat×Nat)×Value)} (h:DmAt w b l) (d:Nat×Nat) (hd:∀p∈l,p.1≠d) (v:Value) :
  ∃o,(Instr.mapUpdate T (.map (some b)) (dkey d) v).run prog w=.ok () (setBlk w b o)∧DmAt (setBlk w b o) b (l++[(d,v)]):=by
 obtain⟨es,clock,hb,he⟩:=h
 obtain⟨r,hr,hc⟩:=rN d w es.toList l he.fits
 have hg:(getObj b).run prog w=.ok (.map es clock) w:=by simp[getObj,Sem.run,hb]
 have hs:∀o,(setObj b o).run prog w=.ok () (setBlk w b o):=fun o=>by simp[setObj,Sem.run,hb,setBlk]
 unfold Instr.mapUpdate
 rcases hc with⟨rfl,h1⟩ | ⟨k,u,rfl,hk⟩
 ·refine⟨.map (es.push {key:=dkey d,val:=v,born:=clock}) (clock+1),?_,_,_,yR hb _,?_,?_,?_,?_⟩
  ·simp[run_underlying hT,hg,tF,hr,hs]
  ·rw[Array.toList_push,List.map_append,List.map_append,he.fits];rfl
  ·intro e hm
   rw[Array.toList_push]at hm
   rcases List.mem_append.1 hm with hm | hm
   ·have:=he.born e hm;omega
   ·simp at hm;subst hm;exact Nat.lt_succ_self _
  ·rw[Array.toList_push,List.map_append,List.nodup_append]
   refine⟨he.nodup,by simp,?_⟩
   intro a ha c hc
   simp at hc
   obtain⟨e,hm,rfl⟩:=List.mem_map.1 ha
   have:=he.born e hm
   omega
  ·rw[List.map_append,List.nodup_append]
   refine⟨he.keys,by simp,?_⟩
   intro a ha c hc
   simp at hc
   obtain⟨p,hm,rfl⟩:=List.mem_map.1 ha
   rw[hc];exact hd p hm
 ·exact absurd rfl (hd _ (List.mem_of_getElem? hk))
def ItAt (w:World) (r b:Nat) (l left:List ((Nat×Nat)×Value)):Prop:=∃es clock since seen,w.heap[b]?=some (.map es clock)∧Ents es clock l∧w.heap[r]?=some (.mapIter (some b) since seen clock)∧since=clock∧
 (leftOf es seen).toList.map (fun e=>(e.key,e.val))=left.map (fun p=>(dkey p.1,p.2))
theorem ItAt.keep {w w':World} {r b:Nat} {l left:List ((Nat×Nat)×Value)} (h:ItAt w r b l left) (k:w'.heap[b]?=w.heap[b]?) (k':w'.heap[r]?=w.heap[r]?):ItAt w' r b l left:=by
 obtain⟨es,c,si,se,h1,h2,h3,h4⟩:=h;exact⟨es,c,si,se,k.trans h1,h2,k'.trans h3,h4⟩
theorem ItAt.lt {w:World} {r b:Nat} {l left:List ((Nat×Nat)×Value)} (h:ItAt w r b l left):b<w.heap.size∧r<w.heap.size:=by
 obtain⟨es,c,si,se,h1,h2,h3,h4⟩:=h;exact⟨(gsi.1 h1).1,(gsi.1 h3).1⟩
theorem ItAt.below {w w':World} {r b:Nat} {l left:List ((Nat×Nat)×Value)} (h:ItAt w r b l left) (hb:Below w.heap.size w w'):ItAt w' r b l left:=h.keep (hb.block _ h.lt.1) (hb.block _ h.lt.2)
theorem it_range {T E:TypeId} (hT:prog.underlying T=some (.map 45 E)) {w:World} {b:Nat} {l:List ((Nat×Nat)×Value)} (h:DmAt w b l) :
  ∃o,(Instr.range T (.map (some b))).run prog w=.ok (Qp w.heap.size) (w.alloc o)∧ItAt (w.alloc o) w.heap.size b l l:=by
 obtain⟨es,clock,hb,he⟩:=h
 have hg:(getObj b).run prog w=.ok (.map es clock) w:=by simp[getObj,Sem.run,hb]
 refine⟨.mapIter (some b) clock #[] clock,?_,es,clock,clock,#[],?_,he,heap_alloc_new w _,rfl,?_⟩
 ·unfold Instr.range
  simp[run_underlying hT,hg]
 ·exact((bn _ _).block _ (gsi.1 hb).1).trans hb
 ·rw[←he.fits];unfold leftOf;rw[Array.toList_filter];exact congrArg (List.map (fun e:MapEntry=>(e.key,e.val))) (List.filter_eq_self.2 (fun a _=>(by simp:(!(#[]:Array Nat).contains a.born)=true)))
theorem left_push (es:Array MapEntry) (seen:Array Nat) (hn:(es.toList.map (·.born)).Nodup) (e:MapEntry) (he:e∈(leftOf es seen).toList):∃pre post,(leftOf es seen).toList=pre++e::post∧(leftOf es (seen.push e.born)).toList=pre++post:=by
 obtain⟨pre,post,h⟩:=List.append_of_mem he
 refine⟨pre,post,h,?_⟩
 have h1:(leftOf es (seen.push e.born)).toList=(leftOf es seen).toList.filter (fun x=>x.born != e.born):=by
  unfold leftOf
  rw[Array.toList_filter,Array.toList_filter,List.filter_filter]
  apply List.filter_congr
  intro x _
  rw[Array.contains_push]
  by_cases hx:x.born=e.born
  ·simp[hx]
  ·have:(e.born == x.born)=false:=by simpa using fun h=>hx h.symm
   simp[hx]
   rw[Bool.and_comm];rfl
 have h2:((leftOf es seen).toList.map (·.born)).Nodup:=by
  unfold leftOf
  rw[Array.toList_filter]
  exact(List.filter_sublist.map _).nodup hn
 rw[h1,h]
 rw[h,List.map_append,List.map_cons,List.nodup_append,List.nodup_cons]at h2
 obtain⟨h3,⟨h4,h5⟩,h6⟩:=h2
 rw[List.filter_append,List.filter_cons]
 simp only[bne_self_eq_false,Bool.false_eq_true,if_false]
 congr 1
 ·apply List.filter_eq_self.2
  intro x hx
  have:=h6 x.born (List.mem_map.2 ⟨x,hx,rfl⟩) e.born (by simp)
  simpa using this
 ·apply List.filter_eq_self.2
  intro x hx
  have:x.born≠e.born:=fun hh=>h4 (hh ▸ List.mem_map.2 ⟨x,hx,rfl⟩)
  simpa using this
theorem it_next {w:World} {r b:Nat} {l left:List ((Nat×Nat)×Value)} (h:ItAt w r b l left) (ty:TypeId) :
  (left=[]∧(Instr.next (Qp r) false ty).run prog w=.ok (.tuple #[.bool false]) w)∨
  ∃pre p post w1 o,left=pre++p::post∧(w1=w∨w1=w.drew)∧(Instr.next (Qp r) false ty).run prog w=.ok (.tuple #[.bool true,dkey p.1,p.2]) (setBlk w1 r o)∧ItAt (setBlk w1 r o) r b l (pre++post)∧
   ∀w2:World,w2.heap[b]?=(setBlk w1 r o).heap[b]?→w2.heap[r]?=(setBlk w1 r o).heap[r]?→(Instr.entry (Qp r)).run prog w2=.ok (.tuple #[dkey p.1,p.2]) w2:=by
 obtain⟨es,clock,since,seen,hb,he,hr,rfl,hl⟩:=h
 have hne:b≠r:=fun e=>by rw[e,hr]at hb;cases hb
 rcases run_next_at (P:=prog) w ty r b since since seen es since hr hb he.born (Nat.le_refl _)with⟨h0,qD⟩ | ⟨e,hm,w1,hw1,qD⟩
 ·refine .inl ⟨?_,qD⟩
  have:(leftOf es seen)=#[]:=Array.eq_empty_of_size_eq_zero h0
  rw[this]at hl
  simpa using hl.symm
 ·obtain⟨pre,post,e1,e2⟩:=left_push es seen he.nodup e hm
  rw[e1,List.map_append,List.map_cons]at hl
  obtain⟨lp,lq,rfl,h2,h3⟩:=List.map_eq_append_iff.1 hl.symm
  obtain⟨p,lr,rfl,h4,h5⟩:=List.map_eq_cons_iff.1 h3
  simp only[Prod.mk.injEq]at h4
  have hw1b:w1.heap[b]?=some (.map es since):=by rcases hw1 with rfl | rfl<;>exact hb
  have hw1r:w1.heap[r]?=some (.mapIter (some b) since seen since):=by rcases hw1 with rfl | rfl<;>exact hr
  have hbb:=(yC w1 r (.mapIter (some b) since (seen.push e.born) since) hne).trans hw1b
  have hrr:=yR hw1r (.mapIter (some b) since (seen.push e.born) since)
  have pB:e∈es.toList:=by unfold leftOf at hm;rw[Array.toList_filter]at hm;exact(List.mem_filter.1 hm).1
  refine .inr ⟨lp,p,lr,w1,.mapIter (some b) since (seen.push e.born) since,rfl,hw1,?_,⟨es,since,since,seen.push e.born,hbb,he,hrr,rfl,?_⟩,fun w2 k1 k2=>?_⟩
  ·rw[h4.1,h4.2];exact qD
  ·rw[e2,List.map_append,List.map_append,h2,h5]
  ·rw[h4.1,h4.2];exact run_entry_at w2 r b since seen es since e (k2.trans hrr) (k1.trans hbb) pB he.nodup
end
section
open Go.RowKit Rw Rh
abbrev evv (e:Pl.Ev):Value:=.agg e
abbrev eva (e:Pl.Ev):Array Value:=#[.int .i64 e.node,.int .i64 e.seq,.int .i64 e.time,.int .i64 e.kind,.int .i64 e.work,.int .i64 e.value,.int .i64 e.mn,.int .i64 e.mx,.int .i64 e.goal,.int .i64 e.slack,.int .i64 e.up,.int .i64 e.down,.int .i64 e.cool,.slice none 0 0]
namespace Pl
def Ev.still (e:Ev):Bool:=e.mn == 0&&(e.mx == 0&&(e.goal == 0&&(e.slack == 0&&(e.up == 0&&(e.down == 0&&e.cool == 0)))))
def Ev.polOk (e:Ev):Bool:=inside e.mx 0 1000&&(inside e.mn 0 e.mx&&(inside e.goal 1 1073741824&&(inside e.slack 0 100&&(inside e.up 1 1000&&(inside e.down 1 1000&&inside e.cool 0 1000)))))
def Ev.right (e:Ev):Bool:=inside e.time 1 1099511627776&&(inside e.work 0 7&&(if e.kind=1 then e.still&&inside e.value 0 1099511627776 else e.polOk&&e.value == 0))
structure Ev.Dot (e:Ev) (n s:Nat):Prop where
 node:e.node=n
 seq:e.seq=s
 n8:n<8
 s1:1≤s
 s96:s≤96
end Pl
theorem tL (w:World):SetV w (.agg (Qv 0 0 0 0 0 0 0 0)) (fun _ _=>false) (fun _=>0) []:=⟨.slice none 0 0,rfl,dots_nil w,⟨fun _ _=>by simp,fun n s h h1 h2=>by simp at h2;omega,fun d hd=>by simp at hd,List.Pairwise.nil,fun n s h=>by simp at h⟩⟩
theorem eql38 (a0 a1 a2 a3 a4 a5 a6:Int) (w:World):(binOp .eql 38 (.agg (Qg a0 a1 a2 a3 a4 a5 a6)) (.agg Qgh)).run prog w=.ok (.bool (a0 == 0&&(a1 == 0&&(a2 == 0&&(a3 == 0&&(a4 == 0&&(a5 == 0&&a6 == 0))))))) w:=by
 have h:(Op.equalIn 10000 38 (.agg (Qg a0 a1 a2 a3 a4 a5 a6)) (.agg Qgh)).run prog w=.ok (a0 == 0&&(a1 == 0&&(a2 == 0&&(a3 == 0&&(a4 == 0&&(a5 == 0&&a6 == 0)))))) w:=by
  go_simp
  repeat' split
  all_goals simp_all
 simp only[binOp]
 simp[Op.equal,Op.maxDepth,h]
theorem tR (n s:Int) (w:World):Calls prog 273 #[.agg (Qi n s),.slice none 0 0] w fun r w'=>r=.returned (.bool true)∧Below w.heap.size w w':=by
 have b1:=bn w (.cells (Qi n s) 45)
 have b2:=b1.alloc b1.size (.cells (Qv 0 0 0 0 0 0 0 0) 60)
 have HB:=zA b2
 clear b1 b2
 go_enter func273,ntmps273
 go_wp2_with fail
 refine wp_loop_rounds 1 ?_
 rw[rounds_succ]
 go_wp2_with fail
 go_ret
 exact⟨rfl,HB.out⟩
theorem uH (e:Pl.Ev) (w:World) (h:e.polOk=true):Calls prog 100 #[.agg (Qg e.mn e.mx e.goal e.slack e.up e.down e.cool)] w fun r w'=>r=.returned (.bool true)∧Below w.heap.size w w':=by
 have b1:=bn w (.cells (Qg e.mn e.mx e.goal e.slack e.up e.down e.cool) 38)
 have hx:=heap_alloc_new w (.cells (Qg e.mn e.mx e.goal e.slack e.up e.down e.cool) 38)
 have HB:=zA b1
 have HP:=zA h
 have c0:=cc 0 hx
 have c1:=cc 1 hx
 have c2:=cc 2 hx
 have c3:=cc 3 hx
 have c4:=cc 4 hx
 have c5:=cc 5 hx
 have c6:=cc 6 hx
 clear b1 hx h
 go_enter func100,ntmps100
 go_wp2_with fail
 generalize w.alloc (.cells (Qg e.mn e.mx e.goal e.slack e.up e.down e.cool) 38)=W at *
 refine(zY _ _ _ _).mono ?_
 rintro r w' ⟨rfl,rfl⟩
 rw[show Pl.inside e.mx 0 1000=true from by have:=HP.out;unfold Pl.Ev.polOk at this;simp only[Bool.and_eq_true]at this;simp only[this]]
 go_wp2_with fail
 refine(zY _ _ _ _).mono ?_
 rintro r w' ⟨rfl,rfl⟩
 rw[show Pl.inside e.mn 0 e.mx=true from by have:=HP.out;unfold Pl.Ev.polOk at this;simp only[Bool.and_eq_true]at this;simp only[this]]
 go_wp2_with fail
 refine(zY _ _ _ _).mono ?_
 rintro r w' ⟨rfl,rfl⟩
 rw[show Pl.inside e.goal 1 1073741824=true from by have:=HP.out;unfold Pl.Ev.polOk at this;simp only[Bool.and_eq_true]at this;simp only[this]]
 go_wp2_with fail
 refine(zY _ _ _ _).mono ?_
 rintro r w' ⟨rfl,rfl⟩
 rw[show Pl.inside e.slack 0 100=true from by have:=HP.out;unfold Pl.Ev.polOk at this;simp only[Bool.and_eq_true]at this;simp only[this]]
 go_wp2_with fail
 refine(zY _ _ _ _).mono ?_
 rintro r w' ⟨rfl,rfl⟩
 rw[show Pl.inside e.up 1 1000=true from by have:=HP.out;unfold Pl.Ev.polOk at this;simp only[Bool.and_eq_true]at this;simp only[this]]
 go_wp2_with fail
 refine(zY _ _ _ _).mono ?_
 rintro r w' ⟨rfl,rfl⟩
 rw[show Pl.inside e.down 1 1000=true from by have:=HP.out;unfold Pl.Ev.polOk at this;simp only[Bool.and_eq_true]at this;simp only[this]]
 go_wp2_with fail
 refine(zY _ _ _ _).mono ?_
 rintro r w' ⟨rfl,rfl⟩
 rw[show Pl.inside e.cool 0 1000=true from by have:=HP.out;unfold Pl.Ev.polOk at this;simp only[Bool.and_eq_true]at this;simp only[this]]
 go_wp2_with fail
 go_ret
 exact⟨rfl,HB.out⟩
end
end Go.Proofs.YtodlmbfbfaofcaaGreat
