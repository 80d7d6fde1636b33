/- TopPolicies, part 22. -/
import Derived.Test.YtodlmbfbfaofcaaGreatM01
import Derived.Test.YtodlmbfbfaofcaaGreatM02
import Derived.Test.YtodlmbfbfaofcaaGreatM04
import Derived.Test.YtodlmbfbfaofcaaGreatM05
import Derived.Test.YtodlmbfbfaofcaaGreatM08
import Derived.Test.YtodlmbfbfaofcaaGreatM09
import Derived.Test.YtodlmbfbfaofcaaGreatM21
open Go.Proofs.Tryz
namespace Go.Proofs.YtodlmbfbfaofcaaGreat
set_option linter.unusedVariables false
set_option linter.unusedSimpArgs false
set_option maxRecDepth 100000
set_option maxHeartbeats 1000000
section
open Go.RowKit Rw Rh
structure DtAt (w:World) (D T O S n:Nat) (c0 c1 c2:Int):Prop where
 ms:w.heap[D]?=some (.cells #[.int .i64 n,.int .i64 1,.int .i64 c0,.int .i64 c1,.int .i64 c2,Qp T,Qp O,.int .i64 0,.int .i64 0,.pointer none,.int .i64 0,.map (some S),.slice none 0 0,.bool false] 210 (0,0))
 tb:∃t:Mem.Pl.Tab,Mem.TabAt w T n t∧t.known n=true∧t.st n=1∧t.inc n=1
 sm:∃k,w.heap[S]?=some (.map #[] k)
 ne:D≠T∧S≠T
 n8:n<8
theorem DtAt.keep {w w':World} {D T O S n:Nat} {c0 c1 c2:Int} (h:DtAt w D T O S n c0 c1 c2) (hs:w.heap.size≤w'.heap.size) (k:∀g,g=D∨g=T∨g=S→w'.heap[g]?=w.heap[g]?):DtAt w' D T O S n c0 c1 c2:=by
 obtain⟨t,h1,h2⟩:=h.tb
 obtain⟨z,hz⟩:=h.sm
 exact⟨(k _ (.inl rfl)).trans h.ms,⟨t,h1.kept hs (k _ (.inr (.inl rfl))),h2⟩,⟨z,(k _ (.inr (.inr rfl))).trans hz⟩,h.ne,h.n8⟩
theorem DtAt.lt {w:World} {D T O S n:Nat} {c0 c1 c2:Int} (h:DtAt w D T O S n c0 c1 c2):D<w.heap.size∧T<w.heap.size∧S<w.heap.size:=by
 obtain⟨t,h1,h2⟩:=h.tb
 obtain⟨z,hz⟩:=h.sm
 exact⟨(gsi.1 h.ms).1,h1.lt,(gsi.1 hz).1⟩
theorem DtAt.below {w w':World} {D T O S n:Nat} {c0 c1 c2:Int} (h:DtAt w D T O S n c0 c1 c2) (hb:Below w.heap.size w w'):DtAt w' D T O S n c0 c1 c2:=
 h.keep hb.size (fun g hg=>hb.block g (by obtain⟨h1,h2,h3⟩:=h.lt;rcases hg with rfl | rfl | rfl<;>assumption))
theorem memof_ok (T n:Nat) (sf:Int) (t:Mem.Pl.Tab) (w:World) (h:Mem.TabAt w T sf t) (hn:n<8) (hk:t.known n=true) :
  Calls prog 197 #[Qp T,.int .i64 n] w fun r w'=>r=.returned (.tuple #[.agg (Qj n (t.st n) (t.inc n)),.bool true])∧Below w.heap.size w w':=by
 have a0:(n:Int)<8:=by omega
 have b1:=bn w (.cells (Qj 0 0 0) 212)
 have h1:=h.below b1
 have HN:=zA (heap_alloc_new w (.cells (Qj (n:Int) (t.st n) (t.inc n)) 212))
 have HB:=zA (bn w (.cells (Qj (n:Int) (t.st n) (t.inc n)) 212))
 have k0:=h1.kn n hn
 have k1:=h1.no n hn
 have k2:=h1.st n hn
 have k3:=h1.inc n hn
 rw[hk]at k0 k1
 rw[if_pos rfl]at k1
 have hlt:=h1.lt
 have hsz:=zG w (.cells (Qj 0 0 0) 212)
 clear h h1 hk b1
 generalize t.st n=st at *
 generalize t.inc n=inc at *
 go_enter func197,ntmps197
 go_wp2_with (refine zJ rfl 212 (.tmp 4) (.tmp 31) _ (Qj (n:Int) st inc) rfl rfl _ rfl rfl rfl lE rfl lE rfl ?_)
 have x0:=cc 0 HN.out
 have x1:=cc 1 HN.out
 have x2:=cc 2 HN.out
 exact bodyPost_ret (v:=.tuple #[.agg (Qj n st inc),.bool true]) (by simp[results,results197,go_sem,x0,x1,x2]) rfl ⟨rfl,HB.out⟩
theorem zW {w w':World} {g:Nat} {o:Obj} (h:w.heap[g]?=some o) (hb:Below w.heap.size w w'):w'.heap[g]?=some o:=(hb.block _ (gsi.1 h).1).trans h
theorem del_none {T:TypeId} {V:TypeId} (hT:prog.underlying T=some (.map 3 V)) {w:World} {b k:Nat} (h:w.heap[b]?=some (.map #[] k)) (n:Int) (ty:TypeId):(Builtin.delete_ #[T,3] ty #[.map (some b),.int .i64 n]).run prog w=.ok (.tuple #[]) w:=by
 have hg:(getObj b).run prog w=.ok (.map #[] k) w:=by simp[getObj,Sem.run,h]
 have hs:(setObj b (.map #[] k)).run prog w=.ok () w:=by
  have:w.heap.setIfInBounds b (.map #[] k)=w.heap:=by
   apply Array.ext
   ·simp
   ·intro i h1 h2
    rw[Array.getElem_setIfInBounds]
    split
    ·rename_i e;subst e;exact(gsi.1 h).2.symm
    ·rfl
  have key:({w with heap:=w.heap.setIfInBounds b (.map #[] k)}:World)=w:=by rw[this]
  simp only[setObj,Sem.run,h]
  exact congrArg (Result.ok ()) key
 have hc:∀e,(Instr.checkKey e 10000 3 (.int .i64 n)).run prog w=.ok () w:=fun e=>by kernel_rfl
 have hf:(Instr.findKey 3 (.int .i64 n) []).run prog w=.ok none w:=by kernel_rfl
 unfold Builtin.delete_
 simp[run_underlying hT,hg,hc,hf,hs]
theorem hear_ok (D T O S n nd:Nat) (c0 c1 c2:Int) (w:World) (h:DtAt w D T O S n c0 c1 c2) (hd:nd<8) (hne:nd≠n) :
  Calls prog 115 #[Qp D,.agg (Qj nd 1 1)] w fun r w'=>r=.returned (.tuple #[])∧DtAt w' D T O S n c0 c1 c2∧Off (· = T) w w':=by
 obtain⟨t,ht,hk,hst,hinc⟩:=h.tb
 have b1:=bn w (.cells (Qj nd 1 1) 212)
 have hx:=heap_alloc_new w (.cells (Qj nd 1 1) 212)
 have h1:=h.below b1
 have ht1:=ht.below b1
 obtain⟨z,hz⟩:=h1.sm
 have HLT:=zA h.lt
 have HB:=zA b1
 have HD1:=zA h1
 have HTB:=zA ht1
 have HX:=zA hx
 have HZ:=zA hz
 have HK:=zA (And.intro hk (And.intro hst hinc))
 have HNE:=zA (show((nd:Int) == n)=false by simp;omega)
 have HND:=zA (And.intro hd hne)
 clear h b1 hx h1 ht ht1 hz hk hst hinc hd hne
 go_enter func115,ntmps115
 go_wp2_with fail
 generalize w.alloc (.cells (Qj nd 1 1) 212)=W at *
 refine zD (fun W'=>W'.heap[D]?=some (.cells #[.int .i64 n,.int .i64 1,.int .i64 c0,.int .i64 c1,.int .i64 c2,Qp T,Qp O,.int .i64 0,.int .i64 0,.pointer none,.int .i64 0,.map (some S),.slice none 0 0,.bool false] 210 (0,0))∧W'.heap[w.heap.size]?=some (.cells (Qj nd 1 1) 212 (0,0))) 99 lE ⟨HD1.out.ms,HX.out⟩ (fun qB=>?_)
 refine tkp 0 7 rfl ?_
 refine tkp 1 8 rfl ?_
 refine tkp 2 9 rfl ?_
 refine tk 3 10 rfl kG ?_
 refine tk 4 11 rfl kG ?_
 refine t1 5 rfl (fun K hK=>?_)
 go_simp
 refine(Mem.hear_any T nd 1 1 n t W.drew (HTB.out.below (Below.refl _ _).drew)).mono ?_
 rintro r w1 ⟨rfl,ht1,htu⟩
 have HT1:=zA ht1
 have hD:=(htu.same D (gsi.1 HD1.out.ms).1 HD1.out.ne.1).trans HD1.out.ms
 have hX:=(htu.same w.heap.size (gsi.1 HX.out).1 (by have:=HLT.out.2.1;omega)).trans HX.out
 have hS:=(htu.same S (gsi.1 HZ.out).1 HD1.out.ne.2).trans HZ.out
 have HD2:=zA hD
 have HX2:=zA hX
 have HS2:=zA hS
 have HO2:=zA (show Off (· = T) w w1 from(Off.of_below HB.out).trans ⟨htu.size,htu.same,htu.rest⟩)
 clear ht1 htu hD hX hS qB
 refine hK.out _ _ (fun _=>⟨HD2.out,HX2.out⟩) (fun _=>?_)
 clear hK K
 try simp only[pt,List.set]
 have qB:=And.intro HD2.out HX2.out
 refine tkp 6 6 rfl ?_
 refine tkp 7 13 rfl ?_
 refine tkp 8 14 rfl ?_
 refine tkp 9 4 rfl ?_
 refine tkp 10 5 rfl ?_
 refine wd ?_
 clear qB
 have hdt:∀W',Below w1.heap.size w1 W'→DtAt W' D T O S n c0 c1 c2∧Off (· = T) w W':=fun W' hW=>by
  refine⟨DtAt.below ⟨HD2.out,⟨_,HT1.out,?_⟩,⟨z,HS2.out⟩,HD1.out.ne,HD1.out.n8⟩ hW,HO2.out.trans (Off.of_below hW)⟩
  obtain⟨h1,h2⟩:=HND.out
  unfold Mem.Pl.Tab.hear
  split
  ·simp only[Mem.Pl.Tab.set,Int.toNat_natCast,if_neg (Ne.symm h2)]
   exact HK.out
  ·exact HK.out
 have HDT:=zA hdt
 clear hdt
 cases hs:t.said nd 1 1 with
 | false=>
  go_wp2_with fail
  go_quiet (fail)
  have HE:=HDT.out _ (below_drewN (Below.refl _ _) nq)
  have HF:=zA HE
  clear HE
  go_wp2_with fail
  exact bodyPost_ret (v:=.tuple #[]) (results_none results115 _ _ _) rfl ⟨rfl,HF.out.1,HF.out.2⟩
 | true=>
  have q0:=cc 0 HD2.out
  have p0:=cc 0 HX2.out
  have hne:=HNE.out
  go_wp2_with fail
  go_quiet (fail)
  have hb:=below_drewN (Below.refl w1.heap.size w1) nq
  have HBN:=zA hb
  clear q0 p0 hne
  have hHD:=zW HD2.out hb
  have hHX:=zW HX2.out hb
  have HHD:=zA hHD
  have HHX:=zA hHX
  have HHS:=zA (zW HS2.out hb)
  clear hb hHD hHX
  generalize w1.drewN nq=W3 at *
  go_wp2_with fail
  refine zD (fun W'=>W'.heap[D]?=some (.cells #[.int .i64 n,.int .i64 1,.int .i64 c0,.int .i64 c1,.int .i64 c2,Qp T,Qp O,.int .i64 0,.int .i64 0,.pointer none,.int .i64 0,.map (some S),.slice none 0 0,.bool false] 210 (0,0))∧W'.heap[w.heap.size]?=some (.cells (Qj nd 1 1) 212 (0,0))) 99 lE ⟨HHD.out,HHX.out⟩ (fun qB=>?_)
  refine tkp 0 26 rfl ?_
  refine tkp 1 27 rfl ?_
  refine tkp 2 28 rfl ?_
  refine tk 3 29 rfl kH ?_
  refine tkp 4 30 rfl ?_
  refine tk 5 31 rfl kH ?_
  refine t1 6 rfl (fun K hK=>?_)
  have qY:=fun ty=>del_none underlying207 (w:=W3.drew) HHS.out nd ty
  go_simp
  refine hK.out _ _ (fun _=>qB) (fun _=>?_)
  clear hK K
  try simp only[pt,List.set]
  refine wd ?_
  have p1:=zE (w:=W3.drew) (j:=1) HHX.out rfl
  have HF:=zA (HDT.out W3.drew (HBN.out.trans ((Below.refl _ _).drew.mono HBN.out.size)))
  clear qB
  go_wp2_with fail
  exact yG results115 ⟨rfl,HF.out.1,HF.out.2⟩
theorem wP {w:World} {g:Nat} {c:Array Value} {t:TypeId} (hg:w.heap[g]?=some (.cells c t (0,0))) (cs:Array Value):(w.setRow g cs).heap[g]?=some (.cells cs t (0,0)):=setRow_heap w g c cs t (0,0) hg
theorem wF (w:World) (g:Nat) (cs:Array Value) (k:Nat) (hk:k≠g):(w.setRow g cs).heap[k]?=w.heap[k]?:=by
 simp only[World.setRow]
 rw[Array.getElem?_modify,if_neg (fun e=>hk e.symm)]
theorem rM (w:World) (g:Nat) (cs:Array Value):(w.setRow g cs).heap.size=w.heap.size:=by simp[World.setRow]
theorem yF {B:Nat} {a w:World} {g:Nat} (h:Below B a w) (hg:B≤g) (cs:Array Value):Below B a (w.setRow g cs):=
 ⟨h.os,h.tape,h.output,by rw[rM];exact h.size,fun i hi=>(wF w g cs i lD).trans (h.block i hi)⟩
theorem wH (D T O S n:Nat) (c0 c1 c2:Int) (w:World) (h:DtAt w D T O S n c0 c1 c2) :
  Calls prog 116 #[Qp D] w fun r w'=>r=.returned (.tuple #[])∧Below w.heap.size w w':=by
 obtain⟨t,ht,hk,hst,hinc⟩:=h.tb
 have HOF:=zA (fun (W:World) (hW:Below w.heap.size w W)=>memof_ok T n n t W (ht.below hW) h.n8 hk)
 rw[hst,hinc]at HOF
 have HB0:=zA ((Below.refl w.heap.size w).drew)
 have HD:=zA h.ms
 clear h ht hk hst hinc
 go_enter func116,ntmps116
 go_wp2_with fail
 refine zD (fun W'=>W'.heap[D]?=some (.cells #[.int .i64 n,.int .i64 1,.int .i64 c0,.int .i64 c1,.int .i64 c2,Qp T,Qp O,.int .i64 0,.int .i64 0,.pointer none,.int .i64 0,.map (some S),.slice none 0 0,.bool false] 210 (0,0))) 99 lE HD.out (fun qB=>?_)
 refine tkp 0 6 rfl ?_
 refine tkp 1 7 rfl ?_
 refine tkp 2 8 rfl ?_
 refine tk 3 9 rfl lO ?_
 refine tkp 4 10 rfl ?_
 refine tkp 5 11 rfl ?_
 refine tkp 6 12 rfl ?_
 refine tk 7 13 rfl lO ?_
 refine t2 8 12 rfl rfl (fun K hK=>?_) (fun K hK=>?_)
 ·go_simp
  refine(HOF.out _ (HB0.out)).mono ?_
  rintro r w1 ⟨rfl,hb⟩
  have HB:=zA (HB0.out.trans (hb.mono HB0.out.size))
  have HD1:=zA (zW HD.out HB.out)
  clear hb qB
  refine hK.out _ _ (fun _=>HD1.out) (fun _=>?_)
  clear hK K
  try simp only[pt,List.set]
  have qB:=HD1.out
  refine tkp 9 5 rfl ?_
  refine tkp 10 15 rfl ?_
  refine tkp 11 16 rfl ?_
  refine t1 12 rfl (fun K hK=>?_)
  go_simp
  have HBA:=zA (HB.out.alloc HB.out.size (.cells (Qj 0 0 0) 212))
  have HXA:=zA (show(World.alloc (w1) (.cells (Qj 0 0 0) 212)).heap[(w1).heap.size]?=some (.cells (Qj 0 0 0) 212)from heap_alloc_new (w1) (.cells (Qj 0 0 0) 212))
  have HGE:=zA (show w.heap.size≤(w1).heap.size from HB.out.size)
  have HB2:=HBA
  have HX2:=HXA
  clear HBA HXA
  have HD2:=zA (zW HD.out HB2.out)
  refine hK.out _ _ (fun _=>HD2.out) (fun _=>?_)
  clear hK K
  try simp only[pt,List.set]
  generalize World.alloc w1 (.cells (Qj 0 0 0) 212)=w2 at *
  refine t1 13 rfl (fun K hK=>?_)
  rw[if_pos (by rfl)]
  refine yS 212 (.tmp 2) (.tmp 15) w1.heap.size rfl rfl rfl rfl HX2.out lE rfl lE ?_
  have HB3:=zA (yF HB2.out HGE.out (Qj (n:Int) 1 1))
  have HX3:=zA (wP HX2.out (Qj (n:Int) 1 1))
  have HD3:=zA (zW HD.out HB3.out)
  generalize World.setRow w2 w1.heap.size (Qj (n:Int) 1 1)=w3 at *
  exact oZ
 ·go_simp
  have HBA:=zA (HB0.out.alloc HB0.out.size (.cells (Qj 0 0 0) 212))
  have HXA:=zA (show(World.alloc (w.drew) (.cells (Qj 0 0 0) 212)).heap[(w).heap.size]?=some (.cells (Qj 0 0 0) 212)from heap_alloc_new (w.drew) (.cells (Qj 0 0 0) 212))
  have HGE:=zA (show w.heap.size≤(w).heap.size from HB0.out.size)
  have HDA:=zA (zW HD.out HBA.out)
  clear HB0
  have HB0:=HBA
  clear HBA
  refine hK.out _ _ (fun _=>HDA.out) (fun _=>?_)
  clear hK K
  try simp only[pt,List.set]
  clear qB
  have qB:=HDA.out
  refine t1 8 rfl (fun K hK=>?_)
  go_simp
  refine(HOF.out _ (HB0.out)).mono ?_
  rintro r w1 ⟨rfl,hb⟩
  have HB:=zA (HB0.out.trans (hb.mono HB0.out.size))
  have HD1:=zA (zW HD.out HB.out)
  have HX2:=zA (zW HXA.out hb)
  have HB2:=HB
  clear hb qB
  refine hK.out _ _ (fun _=>HD1.out) (fun _=>?_)
  clear hK K
  try simp only[pt,List.set]
  have qB:=HD1.out
  refine tkp 9 5 rfl ?_
  refine tkp 10 15 rfl ?_
  refine tkp 11 16 rfl ?_
  refine t1 13 rfl (fun K hK=>?_)
  rw[if_pos (by rfl)]
  refine yS 212 (.tmp 2) (.tmp 15) w.heap.size rfl rfl rfl rfl HX2.out lE rfl lE ?_
  have HB3:=zA (yF HB2.out HGE.out (Qj (n:Int) 1 1))
  have HX3:=zA (wP HX2.out (Qj (n:Int) 1 1))
  have HD3:=zA (zW HD.out HB3.out)
  generalize World.setRow w1 w.heap.size (Qj (n:Int) 1 1)=w3 at *
  exact oZ
theorem send_ok (D T O S n:Nat) (c0 c1 c2 k to sq nd:Int) (w:World) (h:DtAt w D T O S n c0 c1 c2) :
  Calls prog 198 #[Qp D,.int .i64 k,.int .i64 to,.int .i64 sq,.int .i64 nd] w fun r w'=>∃ao m cap,r=.returned (.agg (Qri k (n:Int) to sq nd (.slice ao m cap)))∧Below w.heap.size w w':=by
 obtain⟨t,ht,_⟩:=h.tb
 have b1:=bn w (.cells Qnn 115)
 have HX:=zA (heap_alloc_new w (.cells Qnn 115))
 have HB:=zA b1
 have HALL:=zA (Mem.all_any T n t (w.alloc (.cells Qnn 115)).drew ((ht.below b1).below (Below.refl _ _).drew))
 have HD:=zA (zW h.ms b1)
 clear h ht b1
 go_enter func198,ntmps198
 go_wp2_with fail
 generalize w.alloc (.cells Qnn 115)=W at *
 refine zD (fun W'=>W'.heap[D]?=some (.cells #[.int .i64 n,.int .i64 1,.int .i64 c0,.int .i64 c1,.int .i64 c2,Qp T,Qp O,.int .i64 0,.int .i64 0,.pointer none,.int .i64 0,.map (some S),.slice none 0 0,.bool false] 210 (0,0))) 99 lE HD.out (fun qB=>?_)
 refine tkp 0 11 rfl ?_
 refine tkp 1 12 rfl ?_
 refine tkp 2 13 rfl ?_
 refine tkp 3 14 rfl ?_
 refine tk 4 15 rfl lO ?_
 refine tkp 5 16 rfl ?_
 refine tkp 6 17 rfl ?_
 refine tkp 7 18 rfl ?_
 refine tkp 8 19 rfl ?_
 refine tkp 9 20 rfl ?_
 refine tkp 10 21 rfl ?_
 refine tk 11 22 rfl lO ?_
 refine t1 12 rfl (fun K hK=>?_)
 go_simp
 refine HALL.out.mono ?_
 rintro r w1 ⟨v,rfl,hb,hr⟩
 obtain⟨ao,cap,rfl⟩:=Mem.own_shape hr
 generalize (t.ks 8).length=m at *
 have hb':=((Below.refl _ _).drew).trans hb
 have HB1:=zA (HB.out.trans (hb'.mono HB.out.size))
 have HX1:=zA (zW HX.out hb')
 have HD1:=zA (zW HD.out hb')
 clear hb hb' qB hr
 refine hK.out _ _ (fun _=>HD1.out) (fun _=>?_)
 clear hK K
 try simp only[pt,List.set]
 have qB:=HD1.out
 refine tkp 13 24 rfl ?_
 refine t1 14 rfl (fun K hK=>?_)
 rw[if_pos (by rfl)]
 refine yS 115 (.tmp 10) (.tmp 24) w.heap.size rfl rfl rfl rfl HX1.out lE rfl lE ?_
 have HB3:=zA (yF HB1.out (Nat.le_refl _) (Qri k (n:Int) to sq nd (.slice ao m cap)))
 have HX3:=zA (wP HX1.out (Qri k (n:Int) to sq nd (.slice ao m cap)))
 have HD3:=zA ((wF w1 w.heap.size (Qri k (n:Int) to sq nd (.slice ao m cap)) D (fun e=>by have h:=HD1.out;rw[e,HX1.out]at h;exact zH lF h)).trans HD1.out)
 generalize w1.setRow w.heap.size (Qri k (n:Int) to sq nd (.slice ao m cap))=w3 at *
 clear qB
 refine hK.out _ _ (fun _=>HD3.out) (fun _=>?_)
 clear hK K
 refine wd ?_
 have m0:=cc 0 HX3.out
 have m1:=cc 1 HX3.out
 have m2:=cc 2 HX3.out
 have m3:=cc 3 HX3.out
 have m4:=cc 4 HX3.out
 have m5:=cc 5 HX3.out
 have m6:=cc 6 HX3.out
 have m7:=cc 7 HX3.out
 have m8:=cc 8 HX3.out
 have m9:=cc 9 HX3.out
 have m10:=cc 10 HX3.out
 have m11:=cc 11 HX3.out
 have m12:=cc 12 HX3.out
 have m13:=cc 13 HX3.out
 have m14:=cc 14 HX3.out
 have m15:=cc 15 HX3.out
 go_wp2_with fail
 exact bodyPost_ret (v:=.agg (Qri k (n:Int) to sq nd (.slice ao m cap))) (by simp[results,results198,go_sem,m0,m1,m2,m3,m4,m5,m6,m7,m8,m9,m10,m11,m12,m13,m14,m15]) rfl ⟨_,_,_,rfl,HB3.out⟩
theorem askSeq_1 (a b q:Int) (ao:Option Addr) (n cap:Nat) (w:World) (hq:Pl.inside q 0 1099511627776=true):Calls prog 192 #[.agg Qfa,.agg (Qrj 1 a b q (.slice ao n cap))] w fun r w'=>r=.returned (.bool true)∧Below w.heap.size w w':=by
 have HQ:=zA hq
 obtain⟨hx,hy,b1⟩:=zU w (.cells Qfa 198) (.cells (Qrj 1 a b q (.slice ao n cap)) 115)
 exact nM
theorem askNode_1 (a b q:Int) (ao:Option Addr) (n cap:Nat) (w:World):Calls prog 193 #[.agg Qfa,.agg (Qrj 1 a b q (.slice ao n cap))] w fun r w'=>r=.returned (.bool true)∧Below w.heap.size w w':=by
 obtain⟨hx,hy,b1⟩:=zU w (.cells Qfa 198) (.cells (Qrj 1 a b q (.slice ao n cap)) 115)
 exact mE
theorem askSeen_1 (a b q:Int) (ao:Option Addr) (n cap:Nat) (w:World):Calls prog 194 #[.agg Qfa,.agg (Qrj 1 a b q (.slice ao n cap))] w fun r w'=>r=.returned (.bool true)∧Below w.heap.size w w':=by
 have heq:∀w,(binOp .eql 54 (.agg #[.int .i64 0,.int .i64 0,.int .i64 0,.int .i64 0,.int .i64 0,.int .i64 0,.int .i64 0,.int .i64 0]) (.agg #[.int .i64 0,.int .i64 0,.int .i64 0,.int .i64 0,.int .i64 0,.int .i64 0,.int .i64 0,.int .i64 0])).run prog w=.ok (.bool true) w:=fun _=>by kernel_rfl
 obtain⟨hx,hy,b1⟩:=zU w (.cells Qfa 198) (.cells (Qrj 1 a b q (.slice ao n cap)) 115)
 have HB:=zA b1
 clear hx hy b1
 go_enter func194,ntmps194
 go_wp2_with fail
 go_ret
 exact⟨rfl,HB.out⟩
theorem askEvents_1 (a b q:Int) (ao:Option Addr) (n cap:Nat) (w:World):Calls prog 195 #[.agg Qfa,.agg (Qrj 1 a b q (.slice ao n cap))] w fun r w'=>r=.returned (.bool true)∧Below w.heap.size w w':=by
 obtain⟨hx,hy,b1⟩:=zU w (.cells Qfa 198) (.cells (Qrj 1 a b q (.slice ao n cap)) 115)
 have HB:=zA b1
 clear hx hy b1
 go_enter func195,ntmps195
 go_wp2_with fail
 go_ret
 exact⟨rfl,HB.out⟩
theorem askSeq_4 (a b q:Int) (U:Nat→Nat) (ao:Option Addr) (n cap:Nat) (w:World) (hq:Pl.inside q 0 1=true):Calls prog 192 #[.agg Qfc,.agg (Qsu 4 a b q U (.slice ao n cap))] w fun r w'=>r=.returned (.bool true)∧Below w.heap.size w w':=by
 have HQ:=zA hq
 obtain⟨hx,hy,b1⟩:=zU w (.cells Qfc 198) (.cells (Qsu 4 a b q U (.slice ao n cap)) 115)
 exact nM
theorem askNode_4 (a b q:Int) (U:Nat→Nat) (ao:Option Addr) (n cap:Nat) (w:World):Calls prog 193 #[.agg Qfc,.agg (Qsu 4 a b q U (.slice ao n cap))] w fun r w'=>r=.returned (.bool true)∧Below w.heap.size w w':=by
 obtain⟨hx,hy,b1⟩:=zU w (.cells Qfc 198) (.cells (Qsu 4 a b q U (.slice ao n cap)) 115)
 exact mE
theorem askEvents_4 (a b q:Int) (U:Nat→Nat) (ao:Option Addr) (n cap:Nat) (w:World):Calls prog 195 #[.agg Qfc,.agg (Qsu 4 a b q U (.slice ao n cap))] w fun r w'=>r=.returned (.bool true)∧Below w.heap.size w w':=by
 obtain⟨hx,hy,b1⟩:=zU w (.cells Qfc 198) (.cells (Qsu 4 a b q U (.slice ao n cap)) 115)
 have HB:=zA b1
 clear hx hy b1
 go_enter func195,ntmps195
 go_wp2_with fail
 go_ret
 exact⟨rfl,HB.out⟩
theorem askSeq_5 (a b:Int) (ao:Option Addr) (n cap:Nat) (w:World):Calls prog 192 #[.agg Qfd,.agg (Qtk 5 a b (.slice ao n cap))] w fun r w'=>r=.returned (.bool true)∧Below w.heap.size w w':=by
 have HQ:=zA (show Pl.inside 0 0 0=true by decide)
 obtain⟨hx,hy,b1⟩:=zU w (.cells Qfd 198) (.cells (Qtk 5 a b (.slice ao n cap)) 115)
 exact nM
theorem askNode_5 (a b:Int) (ao:Option Addr) (n cap:Nat) (w:World):Calls prog 193 #[.agg Qfd,.agg (Qtk 5 a b (.slice ao n cap))] w fun r w'=>r=.returned (.bool true)∧Below w.heap.size w w':=by
 obtain⟨hx,hy,b1⟩:=zU w (.cells Qfd 198) (.cells (Qtk 5 a b (.slice ao n cap)) 115)
 exact mE
theorem askSeen_5 (a b:Int) (ao:Option Addr) (n cap:Nat) (w:World):Calls prog 194 #[.agg Qfd,.agg (Qtk 5 a b (.slice ao n cap))] w fun r w'=>r=.returned (.bool true)∧Below w.heap.size w w':=by
 have heq:∀w,(binOp .eql 54 (.agg #[.int .i64 0,.int .i64 0,.int .i64 0,.int .i64 0,.int .i64 0,.int .i64 0,.int .i64 0,.int .i64 0]) (.agg #[.int .i64 0,.int .i64 0,.int .i64 0,.int .i64 0,.int .i64 0,.int .i64 0,.int .i64 0,.int .i64 0])).run prog w=.ok (.bool true) w:=fun _=>by kernel_rfl
 obtain⟨hx,hy,b1⟩:=zU w (.cells Qfd 198) (.cells (Qtk 5 a b (.slice ao n cap)) 115)
 have HB:=zA b1
 clear hx hy b1
 go_enter func194,ntmps194
 go_wp2_with fail
 go_ret
 exact⟨rfl,HB.out⟩
theorem seen_4 (a b q:Int) (U:Nat→Nat) (ao:Option Addr) (n cap:Nat) (w:World):Calls prog 159 #[.agg (Qsu 4 a b q U (.slice ao n cap))] w fun r w'=>r=.returned (Pl.setv U (.slice ao n cap))∧Below w.heap.size w w':=by
 have H2:=zA (zU w (.cells (Qsu 4 a b q U (.slice ao n cap)) 115) (.cells (Qu U ao n cap) 60))
 go_enter func159,ntmps159
 go_wp2_with fail
 obtain⟨p0,p1,p3⟩:=H2.out
 have HP3:=zA p3
 clear p0 p3 H2
 generalize (w.alloc (.cells (Qsu 4 a b q U (.slice ao n cap)) 115)).alloc (.cells (Qu U ao n cap) 60)=Z at *
 have c0:=cc 0 p1
 have c1:=cc 1 p1
 have c2:=cc 2 p1
 have c3:=cc 3 p1
 have c4:=cc 4 p1
 have c5:=cc 5 p1
 have c6:=cc 6 p1
 have c7:=cc 7 p1
 have c8:=cc 8 p1
 exact bodyPost_ret (v:=Pl.setv U (.slice ao n cap)) (by simp[results,results159,go_sem,c0,c1,c2,c3,c4,c5,c6,c7,c8,Pl.setv]) rfl ⟨rfl,HP3.out⟩
theorem askSeen_4 (a b q:Int) (U:Nat→Nat) (ao:Option Addr) (n cap:Nat) (w:World) (O:Nat→Nat→Bool) (M:List (Nat×Nat)) (h:SetV w (Pl.setv U (.slice ao n cap)) O U M):Calls prog 194 #[.agg Qfc,.agg (Qsu 4 a b q U (.slice ao n cap))] w fun r w'=>r=.returned (.bool true)∧Below w.heap.size w w':=by
 have H:=zA h
 obtain⟨hx,hy,b1⟩:=zU w (.cells Qfc 198) (.cells (Qsu 4 a b q U (.slice ao n cap)) 115)
 have HB:=zA b1
 clear hx hy b1
 go_enter func194,ntmps194
 go_wp2_with fail
 refine(seen_4 a b q U ao n cap _).mono ?_
 rintro r w2 ⟨rfl,hb⟩
 have HB2:=zA (HB.out.trans (hb.mono HB.out.size))
 clear hb
 go_wp2_with fail
 refine(uC _ O U M w2 (H.out.below HB2.out)).mono ?_
 rintro r w3 ⟨rfl,hb⟩
 have HB3:=zA (HB2.out.trans (hb.mono HB2.out.size))
 clear hb
 go_wp2_with fail
 go_ret
 exact⟨rfl,HB3.out⟩
theorem askEvents_5 (a b:Int) (ao:Option Addr) (n cap:Nat) (w:World) (es:List Pl.Ev) (h:RowC kEv w (.slice ao n cap) es) (hn:es.length≤768) (hok:∀e∈es,e.Ok) (hi:∀e∈es,Is w e):Calls prog 195 #[.agg Qfd,.agg (Qtk 5 a b (.slice ao n cap))] w fun r w'=>r=.returned (.bool true)∧Below w.heap.size w w':=by
 obtain⟨_,_,e0⟩:=h.form
 cases e0
 obtain⟨hx,hy,b1⟩:=zU w (.cells Qfd 198) (.cells (Qtk 5 a b (.slice ao es.length cap)) 115)
 have HB:=zA b1
 have HY:=zA hy
 have HR:=zA (h.below b1)
 have HN:=zA hn
 have HOK:=zA hok
 have HIS:=zA (fun e he=>(hi e he).below b1)
 clear hx hy b1 h hn hok hi
 go_enter func195,ntmps195
 go_wp2_with fail
 generalize (w.alloc (.cells Qfd 198)).alloc (.cells (Qtk 5 a b (.slice ao es.length cap)) 115)=W at *
 go_loopw [17] (fun i wr=>∃(k:Nat),k≤es.length∧i=.int .i64 k∧Below W.heap.size W wr) (fun i _=>es.length - (intOf i).toNat)
 case atStart=>exact⟨0,by omega,rfl,Below.refl _ _⟩
 case round=>
  obtain⟨k,hk,rfl,hb⟩:=hrel
  by_cases hlt:k<es.length
  ·obtain⟨g,off,cap',e1,hg,c0,c1,c2,c3,c4,c5,c6,c7,c8,c9,c10,c11,c12,c13⟩:=xS (HR.out.below hb) hlt
   cases e1
   have a1:(k:Int)+1≤9223372036854775807:=by have:=HN.out;omega
   have b2:=bn wr (.cells (es[k]) 175)
   have qK:=heap_alloc_new wr (.cells (es[k]) 175)
   have HO:=zA (HOK.out _ (List.getElem_mem hlt))
   have HBA:=zA (hb.trans (b2.mono hb.size))
   have HI:=zA (((HIS.out _ (List.getElem_mem hlt)).below hb).below b2)
   clear b2 hb
   generalize es[k]=ev at *
   obtain⟨d0,d1,d2,d3,d4,d5,d6,d7,d8,d9,d10,d11,d12,d13⟩:=c14 qK
   clear qK
   obtain⟨n,s,hd,hnm⟩:=HO.out.dot
   have HRT:=zA (wZ ev n s _ hd (DotsT.toC HI.out) hnm)
   clear hd hnm
   go_wp2_with fail
   refine HRT.out.mono ?_
   rintro r w3 ⟨rfl,b3⟩
   rw[HO.out.right]
   have HB3:=zA (HBA.out.trans (b3.mono HBA.out.size))
   clear b3 HRT
   go_wp2_with fail
   exact⟨⟨k+1,by omega,rfl,HB3.out⟩,by simp[intOf];omega⟩
  ·obtain rfl:k=es.length:=by omega
   have HY1:=zZ hb HY.out
   have hle:(es.length:Int)≤768:=by have:=HN.out;omega
   have HBZ:=zA (HB.out.trans (hb.mono HB.out.size))
   have d0:=cc 0 HY1
   have d1:=cc 1 HY1
   have d2:=cc 2 HY1
   have d3:=cc 3 HY1
   have d4:=cc 4 HY1
   have d5:=cc 5 HY1
   have d6:=cc 6 HY1
   have d7:=cc 7 HY1
   have d8:=cc 8 HY1
   have d9:=cc 9 HY1
   have d10:=cc 10 HY1
   have d11:=cc 11 HY1
   have d12:=cc 12 HY1
   have d13:=cc 13 HY1
   have d14:=cc 14 HY1
   have d15:=cc 15 HY1
   clear hb HY1
   go_wp2_with fail
   go_ret
   exact⟨rfl,HBZ.out⟩
end
end Go.Proofs.YtodlmbfbfaofcaaGreat
