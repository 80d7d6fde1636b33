/- TopPolicies, part 28. -/
import Derived.Test.YtodlmbfbfaofcaaGreatM01
import Derived.Test.YtodlmbfbfaofcaaGreatM02
import Derived.Test.YtodlmbfbfaofcaaGreatM04
import Derived.Test.YtodlmbfbfaofcaaGreatM08
import Derived.Test.YtodlmbfbfaofcaaGreatM27
open Go.Proofs.Tryz
namespace Go.Proofs.YtodlmbfbfaofcaaGreat
set_option linter.unusedVariables false
set_option linter.unusedSimpArgs false
set_option maxRecDepth 100000
set_option maxHeartbeats 4000000
section
open Go.RowKit Rw Rh
theorem less_nil {O P:Nat→Nat→Bool} {U:Nat→Nat} {M:List (Nat×Nat)} (hc:Pl.Closed O U M) (h:(Pl.less O P).length=0):∀a s,O a s=true→P a s=true:=fun a s hO=>by
 have h1:=List.length_eq_zero_iff.1 h
 have h2:=(Pl.mem_dots hc.fit a s).2 hO
 cases hp:P a s with
 | true=>rfl
 | false=>
  have h3:(a,s)∈Pl.less O P:=List.mem_filter.2 ⟨h2,by simp[hp]⟩
  rw[h1]at h3;cases h3
theorem vT {xs ys:List Pl.Ev} (h:xs.Perm ys):(Pl.codes xs).length=(Pl.codes ys).length:=(h.flatMap_right _).length_eq
theorem wU (p:Pl.Ev→Bool) (es:List Pl.Ev):(Pl.codes (es.filter p)).length≤(Pl.codes es).length:=by
 induction es with
 | nil=>simp
 | cons e l ih=>
  have h1:Pl.codes (e::l)=Pl.vints e.nums++Pl.codes l:=rfl
  rw[List.filter_cons]
  split
  ·have h2:Pl.codes (e::l.filter p)=Pl.vints e.nums++Pl.codes (l.filter p):=rfl
   rw[h1,h2,List.length_append,List.length_append];omega
  ·rw[h1,List.length_append];omega
def Hands (parts:List (List Pl.Ev)) (l:List Pl.Ev):Prop:=(parts.flatten.map Pl.Ev.abs).Perm (l.map Pl.Ev.abs)
def Same (a b:List Pl.Ev):Prop:=a.map Pl.Ev.abs=b.map Pl.Ev.abs
theorem told_0 (g o b ms mh n mtu:Nat) (a:Nat) (O:Nat→Nat→Bool) (U:Nat→Nat) (M:List (Nat×Nat)) (ao:Option Addr) (cap:Nat) (S:List (Nat×Nat)) (es:List Pl.Ev) (clock:Int) (w:World) (h:GoAt w g o b ms mh n mtu S es clock) (hs:SetV w (.agg (Qu U ao M.length cap)) O U M) (ha:a<8) (hne:n≠a) (hl:(Pl.codes es).length≤4000) (hm:512≤mtu∧mtu≤4096) :
  Calls prog 121 #[Qp g,.agg (Qsu 4 (a:Int) (n:Int) 0 U (.slice ao M.length cap))] w fun r w'=>∃v ms parts,r=.returned (.agg #[v,.slice none 0 0])∧Deltas w' n a ms parts∧Hands parts (es.filter (fun e=> !O e.at.1 e.at.2))∧(∀p∈parts,p≠[]∧p.length≤768)∧Below w.heap.size w w'∧∃tail,OwnR kMsg w.heap.size w' v (ms++tail)∧(tail=[]∧(∀a s,O a s=true→(a,s)∈S)∨∃O' U' M' ao' cap',tail=[dgq n a 1 U' (ao',M'.length,cap')]∧SetV w' (Pl.setv U' (.slice ao' M'.length cap')) O' U' M'∧Holds O' S):=by
 obtain⟨hx,hy,b1⟩:=zU w (.cells (Qsu 4 (a:Int) (n:Int) 0 U (.slice ao M.length cap)) 115) (.cells #[.slice none 0 0,.slice none 0 0] 223)
 have HX:=zA hx
 have HB:=zA b1
 have HG:=zA (fun (W:World) (hW:Below w.heap.size w W)=>h.below hW)
 have HV:=zA (fun (W:World) (hW:Below w.heap.size w W)=>hs.below hW)
 have HH:=zA (And.intro ha (And.intro hne (And.intro hl hm)))
 have HOK:=zA (And.intro h.ok (And.intro h.len h.n8))
 have bs:=(Below.refl ((w.alloc (.cells (Qsu 4 (a:Int) (n:Int) 0 U (.slice ao M.length cap)) 115)).alloc (.cells #[.slice none 0 0,.slice none 0 0] 223)).heap.size _).alloc (Nat.le_refl _) (.cells (Qu U ao M.length cap) 60)
 have HX2:=zA (zC hx bs)
 have HY2:=zA (zC hy bs)
 have HB2:=zA (b1.trans (bs.mono b1.size))
 have HS2:=zA (show(((w.alloc (.cells (Qsu 4 (a:Int) (n:Int) 0 U (.slice ao M.length cap)) 115)).alloc (.cells #[.slice none 0 0,.slice none 0 0] 223)).alloc (.cells (Qu U ao M.length cap) 60)).heap[w.heap.size+1+1]?=some (.cells (Qu U ao M.length cap) 60 (0,0))from by have h:=heap_alloc_new ((w.alloc (.cells (Qsu 4 (a:Int) (n:Int) 0 U (.slice ao M.length cap)) 115)).alloc (.cells #[.slice none 0 0,.slice none 0 0] 223)) (.cells (Qu U ao M.length cap) 60);rw[zG,zG]at h;exact h)
 clear hx hy b1 h hs ha hne hl hm bs
 go_enter func121,ntmps121
 go_wp2_with fail
 generalize ((w.alloc (.cells (Qsu 4 (a:Int) (n:Int) 0 U (.slice ao M.length cap)) 115)).alloc (.cells #[.slice none 0 0,.slice none 0 0] 223)).alloc (.cells (Qu U ao M.length cap) 60)=W at *
 refine zD (fun W'=>Below w.heap.size w W'∧W'.heap[g]?=some (.cells #[.int .i64 n,.int .i64 mtu,Qp o,Qp b] 218 (0,0))∧W'.heap[w.heap.size]?=some (.cells (Qsu 4 (a:Int) (n:Int) 0 U (.slice ao M.length cap)) 115 (0,0))∧W'.heap[w.heap.size+1+1]?=some (.cells (Qu U ao M.length cap) 60 (0,0))) 99 lE ⟨HB2.out.drew,(HG.out W HB2.out).gs,HX2.out,HS2.out⟩ (fun qB=>?_)
 refine tkp 0 12 rfl ?_
 refine tkp 1 13 rfl ?_
 refine tkp 2 14 rfl ?_
 refine tk 3 15 rfl lJ ?_
 refine tkp 4 16 rfl ?_
 refine tk 5 17 rfl lJ ?_
 refine tkp 6 18 rfl ?_
 refine tkp 7 19 rfl ?_
 refine tkp 8 20 rfl ?_
 refine tk 9 21 rfl lJ ?_
 refine tl 10 22 rfl 60 (.tmp 5) (w.heap.size+1+1) rfl rfl (fun wS hSw=>hSw.2.2.2) underlying60 ?_
 refine tkp 13 25 rfl ?_
 refine tkp 14 26 rfl ?_
 refine tkp 15 27 rfl ?_
 refine tk 16 28 rfl lJ ?_
 refine t1 11 rfl (fun K hK=>?_)
 go_simp
 refine(rG b ms mh (seenD S) es clock (.agg (Qu U ao M.length cap)) O U M W.drew (HG.out _ HB2.out.drew).bk (HV.out _ HB2.out.drew) HOK.out.2.1 HOK.out.1 (HG.out _ HB2.out.drew).is).mono ?_
 rintro r w1 ⟨ve,l,rfl,hp,⟨le,qC,hrp⟩,hb⟩
 have hrp:Rep w1 le l:=hrp
 obtain⟨aoe,cape,rfl⟩:=qC.toT.form
 have hbw:=(Below.refl W.heap.size W).drew.trans hb
 have HB3:=zA (HB2.out.trans (hbw.mono HB2.out.size))
 have HX3:=zA (zC HX2.out hbw)
 have HY3:=zA (zC HY2.out hbw)
 have HS3:=zA (zC HS2.out hbw)
 have HP:=zA hp
 have hll:le.length≤es.length:=by rw[hrp.len,hp.length_eq];exact List.length_filter_le _ _
 have HSP:=zA (split_ok n a mtu aoe cape le w1 qC.rowS (by have:=HOK.out.2.1;omega) (hrp.ok (fun e he=>HOK.out.1 e (List.mem_filter.1 (hp.mem_iff.1 he)).1)) hrp.2 HOK.out.2.2 HH.out.1 HH.out.2.1 (by rw[xH hrp.1,vT hp];exact Nat.le_trans (wU _ _) HH.out.2.2.1) HH.out.2.2.2)
 have HAB:=zA hrp.1
 clear hp qC hb hbw hll hrp HX2 HY2 HS2 HX HB
 refine hK.out _ _ (fun _=>⟨HB3.out,(HG.out _ HB3.out).gs,HX3.out,HS3.out⟩) (fun _=>?_)
 clear hK K
 try simp only[pt,List.set]
 clear qB
 have qB:=And.intro HB3.out (And.intro (HG.out _ HB3.out).gs (And.intro HX3.out HS3.out))
 refine tkp 12 24 rfl ?_
 refine t1 17 rfl (fun K hK=>?_)
 go_simp
 refine HSP.out.mono ?_
 rintro r w2 ⟨vo,mq,parts,rfl,qC,qY,hfl,hpp,hb⟩
 obtain⟨aov,capv,rfl⟩:=qC.toT.form
 have HB4:=zA (HB3.out.trans (hb.mono HB3.out.size))
 have HX4:=zA (zC HX3.out hb)
 have HY4:=zA (zC HY3.out hb)
 have HS4:=zA (zC HS3.out hb)
 have HO4:=zA (qC.mono (c:=w.heap.size+1+1+1) (by have:=(gsi.1 HS3.out).1;omega))
 have HD4:=zA qY
 have HFL:=zA (And.intro (show Hands parts (es.filter (fun e=> !O e.at.1 e.at.2)) by unfold Hands;rw[hfl,HAB.out];exact HP.out.map _) hpp)
 clear qC qY hfl hpp hb HSP HX3 HY3 HS3 HP
 refine hK.out _ _ (fun _=>⟨HB4.out,(HG.out _ HB4.out).gs,HX4.out,HS4.out⟩) (fun _=>?_)
 clear hK K
 try simp only[pt,List.set]
 clear qB
 have qB:=And.intro HB4.out (And.intro (HG.out _ HB4.out).gs (And.intro HX4.out HS4.out))
 refine tkp 18 11 rfl ?_
 refine tkp 19 30 rfl ?_
 refine tkp 20 31 rfl ?_
 refine tkp 21 32 rfl ?_
 refine t1 22 rfl (fun K hK=>?_)
 have fz:=zB HY4.out 0
 have yy:=cc 0 HY4.out
 go_simp
 generalize hw5:w2.setCell ⟨w.heap.size+1,0,none⟩ (.slice aov mq.length capv)=w5 at *
 have ho5:Off (fun x=>x=w.heap.size+1) w2 w5:=by rw[←hw5];exact(Off.refl (fun x=>x=w.heap.size+1) w2).set (a:=⟨w.heap.size+1,0,none⟩) (.inl rfl) _
 have HB5:=zA (show Below w.heap.size w w5 by rw[←hw5];exact zM HB4.out (Nat.le_succ _) 0 _)
 have HY5:=zA (show w5.heap[w.heap.size+1]?=some (.cells #[.slice aov mq.length capv,.slice none 0 0] 223 (0,0)) by rw[←hw5];have h:=zF (j:=0) HY4.out (.slice aov mq.length capv);simpa using h)
 have HX5:=zA ((ho5.same w.heap.size (gsi.1 HX4.out).1 lD).trans HX4.out)
 have HS5:=zA ((ho5.same (w.heap.size+1+1) (gsi.1 HS4.out).1 lD).trans HS4.out)
 have hk5:∀(g:Nat) (cs:Array Value) (t:TypeId) (fr:Nat×Nat),w2.heap[g]?=some (Obj.cells cs t fr)→t≠223→w5.heap[g]?=w2.heap[g]?:=fun g cs t fr hg ht=>ho5.same g (gsi.1 hg).1 (fun e=>by rw[show g=w.heap.size+1 from e,HY4.out]at hg;exact zH (Ne.symm ht) hg)
 have HD5:=zA (HD4.out.keepE (w':=w5) (fun g cs t fr ht hg=>hk5 g cs t fr hg (by rcases ht with rfl | rfl<;>decide)))
 have HO5:=zA (HO4.out.keep (w':=w5) (fun g hg=>by obtain⟨cs,hcs⟩:=zK HO4.out hg;exact hk5 g cs 115 _ hcs lF))
 clear fz yy ho5 hk5 hw5
 refine hK.out _ _ (fun _=>⟨HB5.out,(HG.out _ HB5.out).gs,HX5.out,HS5.out⟩) (fun _=>?_)
 clear hK K
 try simp only[pt,List.set]
 refine wd ?_
 clear qB HX4 HY4 HS4 HO4 HD4
 go_wp2_with fail
 refine zD (fun W'=>Below w.heap.size w W'∧W'.heap[g]?=some (.cells #[.int .i64 n,.int .i64 mtu,Qp o,Qp b] 218 (0,0))∧W'.heap[w.heap.size]?=some (.cells (Qsu 4 (a:Int) (n:Int) 0 U (.slice ao M.length cap)) 115 (0,0))∧W'.heap[w.heap.size+1+1]?=some (.cells (Qu U ao M.length cap) 60 (0,0))) 99 lE ⟨HB5.out.drew,(HG.out _ HB5.out).gs,HX5.out,HS5.out⟩ (fun qB=>?_)
 refine tkp 0 33 rfl ?_
 refine tk 1 34 rfl lJ ?_
 refine tkp 2 35 rfl ?_
 refine tkp 3 36 rfl ?_
 refine tl 4 37 rfl 60 (.tmp 5) (w.heap.size+1+1) rfl rfl (fun wS hSw=>hSw.2.2.2) underlying60 ?_
 refine tkp 5 38 rfl ?_
 refine tkp 6 39 rfl ?_
 refine tkp 7 40 rfl ?_
 refine tk 8 41 rfl lJ ?_
 refine t1 9 rfl (fun K hK=>?_)
 go_simp
 refine(sE g o b ms mh n mtu S es clock w5.drew (HG.out _ HB5.out.drew)).mono ?_
 rintro r w6 ⟨Os,Us,Mm,aos,caps,rfl,hvs,hOs,hb⟩
 have hbw:=(Below.refl w5.heap.size w5).drew.trans hb
 have HB6:=zA (HB5.out.trans (hbw.mono HB5.out.size))
 have HX6:=zA (zC HX5.out hbw)
 have HY6:=zA (zC HY5.out hbw)
 have HS6:=zA (zC HS5.out hbw)
 have HD6:=zA (HD5.out.below hbw)
 have HO6:=zA (HO5.out.below hbw)
 have HLS:=zA (less_ok (.agg (Qu U ao M.length cap)) _ O Os U Us M Mm w6 (HV.out w6 HB6.out) hvs)
 have HOS:=zA hOs
 clear hvs hOs hb hbw HB5 HX5 HY5 HS5 HD5 HO5
 refine hK.out _ _ (fun _=>⟨HB6.out,(HG.out _ HB6.out).gs,HX6.out,HS6.out⟩) (fun _=>?_)
 clear hK K
 try simp only[pt,List.set]
 clear qB
 have qB:=And.intro HB6.out (And.intro (HG.out _ HB6.out).gs (And.intro HX6.out HS6.out))
 refine t1 10 rfl (fun K hK=>?_)
 go_simp
 refine HLS.out.mono ?_
 rintro r w7 ⟨ad,capl,rfl,hb⟩
 have HB7:=zA (HB6.out.trans (hb.mono HB6.out.size))
 have HX7:=zA (zC HX6.out hb)
 have HY7:=zA (zC HY6.out hb)
 have HS7:=zA (zC HS6.out hb)
 have HD7:=zA (HD6.out.below hb)
 have HO7:=zA (HO6.out.below hb)
 have HLE:=zA (fun (h0:(Pl.less O Os).length=0) (x s:Nat) (hx:O x s=true)=>(HOS.out x s).1 (less_nil (by obtain⟨_,_,_,hc⟩:=HV.out w6 HB6.out;exact hc) h0 x s hx))
 clear hb HX6 HY6 HS6 HD6 HO6 HLS
 generalize (Pl.less O Os).length=nl at *
 refine hK.out _ _ (fun _=>⟨HB7.out,(HG.out _ HB7.out).gs,HX7.out,HS7.out⟩) (fun _=>?_)
 clear hK K
 try simp only[pt,List.set]
 clear qB
 have qB:=And.intro HB7.out (And.intro (HG.out _ HB7.out).gs (And.intro HX7.out HS7.out))
 refine tkp 11 44 rfl ?_
 refine tkp 12 45 rfl ?_
 refine tkp 13 46 rfl ?_
 refine wd ?_
 clear qB
 rcases Nat.eq_zero_or_pos nl with hz0 | hp0
 ·have x0:¬((0:Int)<nl):=by omega
  have HLZ:=zA (HLE.out hz0)
  clear HLE hz0
  have hoz:Off (fun x=>x=w.heap.size+1) w7 (World.setRow w7 (w.heap.size+1) #[.slice aov mq.length capv,.slice none 0 0]):=(Off.refl (fun x=>x=w.heap.size+1) w7).setRow (w.heap.size+1) (.inl rfl) _
  have hkz:∀(g:Nat) (cs:Array Value) (t:TypeId) (fr:Nat×Nat),w7.heap[g]?=some (Obj.cells cs t fr)→t≠223→(World.setRow w7 (w.heap.size+1) #[.slice aov mq.length capv,.slice none 0 0]).heap[g]?=w7.heap[g]?:=fun g cs t fr hg ht=>hoz.same g (gsi.1 hg).1 (fun e=>by rw[show g=w.heap.size+1 from e]at hg;exact zH (Ne.symm ht) (HY7.out.symm.trans hg))
  have HBZ:=zA (yF HB7.out (Nat.le_succ _) #[.slice aov mq.length capv,.slice none 0 0])
  have hz:=yL HY7.out #[.slice aov mq.length capv,.slice none 0 0]
  have HDZ:=zA (HD7.out.keepE (fun g cs t fr ht hg=>hkz g cs t fr hg (by rcases ht with rfl | rfl<;>decide)))
  have HOZ:=zA (HO7.out.keep (fun g hg=>by obtain⟨cs,hcs⟩:=zK HO7.out hg;exact hkz g cs 115 _ hcs lF))
  have HZ:=zA hz
  clear hoz hkz hz
  go_wp2_with (first
   | refine zI rfl 223 (.tmp 4) (w.heap.size+1) #[.slice aov mq.length capv,.slice none 0 0] 223 (0,0) _ rfl rfl HY7.out underlying223 rfl lE ?_
   | refine zR rfl 223 (.tmp 4) (.tmp 56) (w.heap.size+1) #[.slice aov mq.length capv,.slice none 0 0] #[.slice aov mq.length capv,.slice none 0 0] 223 rfl rfl rfl rfl HY7.out lE rfl lE ?_)
  generalize World.setRow w7 (w.heap.size+1) #[.slice aov mq.length capv,.slice none 0 0]=wz at *
  have m0:=cc 0 HZ.out
  have m1:=cc 1 HZ.out
  refine bodyPost_ret (v:=.agg #[.slice aov mq.length capv,.slice none 0 0]) (by simp[results,results121,go_sem,m0,m1]) rfl ?_
  first
   | exact⟨_,_,_,rfl,HDZ.out,HFL.out.1,HFL.out.2,HBZ.out,[],by rw[List.append_nil];exact HOZ.out.mono lD,.inl ⟨rfl,HLZ.out⟩⟩
   | exact⟨_,rfl,_,_,HDZ.out,HFL.out.1,HFL.out.2,HBZ.out,[],by rw[List.append_nil];exact HOZ.out.mono lD,.inl ⟨rfl,HLZ.out⟩⟩
 ·have x0:(0:Int)<nl:=by omega
  clear HLE hp0
  go_wp2_with fail
  refine zD (fun W'=>W'.heap[g]?=some (.cells #[.int .i64 n,.int .i64 mtu,Qp o,Qp b] 218 (0,0))∧W'.heap[w.heap.size]?=some (.cells (Qsu 4 (a:Int) (n:Int) 0 U (.slice ao M.length cap)) 115 (0,0))∧W'.heap[w.heap.size+1]?=some (.cells #[.slice aov mq.length capv,.slice none 0 0] 223 (0,0))) 9 lE ⟨(HG.out _ HB7.out).gs,HX7.out,HY7.out⟩ (fun qB=>?_)
  refine tkp 0 47 rfl ?_
  refine tk 1 48 rfl kL ?_
  refine tkp 2 49 rfl ?_
  refine tkp 3 50 rfl ?_
  refine tk 4 51 rfl kL ?_
  refine t1 5 rfl (fun K hK=>?_)
  go_simp
  refine(rF g o b ms mh n mtu a 1 S es clock w7.drew (HG.out _ HB7.out.drew)).mono ?_
  rintro r w8 ⟨Oq,Uq,Mq,aoq,capq,rfl,hvq,hOq,hb⟩
  have hbw:=(Below.refl w7.heap.size w7).drew.trans hb
  have HB8:=zA (HB7.out.trans (hbw.mono HB7.out.size))
  have HSZ8:=zA (show w.heap.size+1+1+1≤w8.heap.size from Nat.le_trans (gsi.1 HS7.out).1 hbw.size)
  have HX8:=zA (zC HX7.out hbw)
  have HY8:=zA (zC HY7.out hbw)
  have HD8:=zA (HD7.out.below hbw)
  have HO8:=zA (HO7.out.below hbw)
  have HQ8:=zA hvq
  have HQO:=zA hOq
  clear hvq hOq hb hbw HB7 HX7 HY7 HD7 HO7 HS7 qB
  refine hK.out _ _ (fun _=>⟨(HG.out _ HB8.out).gs,HX8.out,HY8.out⟩) (fun _=>?_)
  clear hK K
  try simp only[pt,List.set]
  have qB:=And.intro (HG.out _ HB8.out).gs (And.intro HX8.out HY8.out)
  refine t1 6 rfl (fun K hK=>?_)
  go_simp
  have b9:=bn w8 (.cells (Qsu 4 (n:Int) (a:Int) 1 Uq (.slice aoq Mq.length capq)) 115)
  have HB9:=zA (HB8.out.trans (b9.mono HB8.out.size))
  have HSZ9:=zA (Nat.le_trans HSZ8.out b9.size)
  have HX9:=zA (zC HX8.out b9)
  have HY9:=zA (zC HY8.out b9)
  have HD9:=zA (HD8.out.below b9)
  have HO9:=zA (HO8.out.below b9)
  have HQ9:=zA (HQ8.out.below b9)
  have qI:=zA (show RowC kMsg (w8.alloc (.cells (Qsu 4 (n:Int) (a:Int) 1 Uq (.slice aoq Mq.length capq)) 115)) (.slice (some ⟨w8.heap.size,0,none⟩) 1 1) [dgq n a 1 Uq (aoq,Mq.length,capq)]from yK kMsg w8 [dgq n a 1 Uq (aoq,Mq.length,capq)] (Qsu 4 (n:Int) (a:Int) 1 Uq (.slice aoq Mq.length capq)) 1 rfl (by simp[Rk.encs,kMsg,dgq]))
  clear b9 qB HB8 HX8 HY8 HD8 HO8 HQ8
  refine hK.out _ _ (fun _=>⟨(HG.out _ HB9.out).gs,HX9.out,HY9.out⟩) (fun _=>?_)
  clear hK K
  try simp only[pt,List.set]
  have qB:=And.intro (HG.out _ HB9.out).gs (And.intro HX9.out HY9.out)
  generalize w8.alloc (.cells (Qsu 4 (n:Int) (a:Int) 1 Uq (.slice aoq Mq.length capq)) 115)=w9 at *
  refine t1 7 rfl (fun K hK=>?_)
  rw[if_pos (by rfl)]
  have hml:mq.length≤1000:=by have h1:=HD9.out.1;have h2:=Pl.parts_le parts (fun p hp=>(HFL.out.2 p hp).1);have h3:=(show(parts.flatten.map Pl.Ev.abs).Perm ((es.filter (fun e=> !O e.at.1 e.at.2)).map Pl.Ev.abs)from HFL.out.1).length_eq;rw[List.length_map,List.length_map]at h3;have h4:=List.length_filter_le (fun e=> !O e.at.1 e.at.2) es;have:=HOK.out.2.1;omega
  have hsz9:w.heap.size+1+1+1≤w9.heap.size:=HSZ9.out
  refine vB kMsg rfl (.tmp 48) (.tmp 53) rfl rfl HO9.out rfl qI.out (by simp;omega) (Below.refl (w.heap.size+1+1+1) w9) hsz9 ?_
  intro v10 w10 hown10 hb10 hg10
  obtain⟨ao10,cap10,rfl⟩:=hown10.toT.form
  have qD:∀(g:Nat),(Value.slice aov mq.length capv).ownBlock=some g→_:=fun g hg=>zK HO9.out hg
  have hk10:∀(g:Nat) (cs:Array Value) (t:TypeId) (fr:Nat×Nat),w9.heap[g]?=some (Obj.cells cs t fr)→t≠115→w10.heap[g]?=w9.heap[g]?:=fun g cs t fr hgc ht=>hg10.block g (gsi.1 hgc).1 (fun e=>by obtain⟨cs',hcs'⟩:=qD g e.symm;rw[hgc]at hcs';exact zH ht hcs')
  have oC:=zA (HB9.out.trans (hb10.mono lD))
  have pC:=zA ((hb10.block w.heap.size lD).trans HX9.out)
  have HY10:=zA ((hb10.block (w.heap.size+1) lD).trans HY9.out)
  have HD10:=zA (HD9.out.keepE (w':=w10) (fun g cs t fr ht hg=>hk10 g cs t fr hg (by rcases ht with rfl | rfl<;>decide)))
  have HQ10:=zA (HQ9.out.keep (w':=w10) (fun g cs fr hg=>hk10 g cs 45 fr hg lF))
  have HO10:=zA hown10
  clear hown10 hb10 hg10 qD hk10 qB HB9 HX9 HY9 HD9 HQ9 hsz9 hml
  refine hK.out _ _ (fun _=>⟨(HG.out _ oC.out).gs,pC.out,HY10.out⟩) (fun _=>?_)
  clear hK K
  try simp only[List.getElem_toArray,List.getElem_cons_succ,List.getElem_cons_zero,pt,List.set]
  have qB:=And.intro (HG.out _ oC.out).gs (And.intro pC.out HY10.out)
  refine tkp 8 55 rfl ?_
  refine t1 9 rfl (fun K hK=>?_)
  have fz:=zB HY10.out 0
  have yy:=cc 0 HY10.out
  go_simp
  have hln:(mq++[dgq n a 1 Uq (aoq,Mq.length,capq)]).length=mq.length+1:=by rw[List.length_append];rfl
  have ho5:Off (fun x=>x=w.heap.size+1) w10 (w10.setCell ⟨w.heap.size+1,0,none⟩ (.slice ao10 (mq.length+1) cap10)):=(Off.refl (fun x=>x=w.heap.size+1) w10).set (a:=⟨w.heap.size+1,0,none⟩) (.inl rfl) _
  have HB11:=zA (zM oC.out (Nat.le_succ _) 0 (.slice ao10 (mq.length+1) cap10))
  have oA:=zA (show(w10.setCell ⟨w.heap.size+1,0,none⟩ (.slice ao10 (mq.length+1) cap10)).heap[w.heap.size+1]?=some (.cells #[.slice ao10 (mq.length+1) cap10,.slice none 0 0] 223 (0,0)) by have h:=zF (j:=0) HY10.out (.slice ao10 (mq.length+1) cap10);simpa using h)
  have hk5:∀(g:Nat) (cs:Array Value) (t:TypeId) (fr:Nat×Nat),w10.heap[g]?=some (Obj.cells cs t fr)→t≠223→(w10.setCell ⟨w.heap.size+1,0,none⟩ (.slice ao10 (mq.length+1) cap10)).heap[g]?=w10.heap[g]?:=fun g cs t fr hg ht=>ho5.same g (gsi.1 hg).1 (fun e=>by rw[show g=w.heap.size+1 from e,HY10.out]at hg;exact zH (Ne.symm ht) hg)
  have HD11:=zA (HD10.out.keepE (fun g cs t fr ht hg=>hk5 g cs t fr hg (by rcases ht with rfl | rfl<;>decide)))
  have HQ11:=zA (HQ10.out.keep (fun g cs fr hg=>hk5 g cs 45 fr hg lF))
  have HO11:=zA (HO10.out.keep (fun g hg=>by obtain⟨cs,hcs⟩:=zK HO10.out hg;exact hk5 g cs 115 _ hcs lF))
  rw[hln]at HO11
  clear ho5 hk5
  refine hK.out _ _ (fun h=>absurd rfl h) (fun _=>?_)
  clear hK K
  try simp only[List.getElem_toArray,List.getElem_cons_succ,List.getElem_cons_zero,pt,List.set]
  refine wd ?_
  clear qB fz yy oC HY10 HD10 HQ10 HO10
  generalize w10.setCell ⟨w.heap.size+1,0,none⟩ (.slice ao10 (mq.length+1) cap10)=w11 at *
  have hoz:Off (fun x=>x=w.heap.size+1) w11 (World.setRow w11 (w.heap.size+1) #[.slice ao10 (mq.length+1) cap10,.slice none 0 0]):=(Off.refl (fun x=>x=w.heap.size+1) w11).setRow (w.heap.size+1) (.inl rfl) _
  have hkz:∀(g:Nat) (cs:Array Value) (t:TypeId) (fr:Nat×Nat),w11.heap[g]?=some (Obj.cells cs t fr)→t≠223→(World.setRow w11 (w.heap.size+1) #[.slice ao10 (mq.length+1) cap10,.slice none 0 0]).heap[g]?=w11.heap[g]?:=fun g cs t fr hg ht=>hoz.same g (gsi.1 hg).1 (fun e=>by rw[show g=w.heap.size+1 from e]at hg;exact zH (Ne.symm ht) (oA.out.symm.trans hg))
  have HBZ:=zA (yF HB11.out (Nat.le_succ _) #[.slice ao10 (mq.length+1) cap10,.slice none 0 0])
  have hz:=yL oA.out #[.slice ao10 (mq.length+1) cap10,.slice none 0 0]
  have HDZ:=zA (HD11.out.keepE (fun g cs t fr ht hg=>hkz g cs t fr hg (by rcases ht with rfl | rfl<;>decide)))
  have HOZ:=zA (HO11.out.keep (fun g hg=>by obtain⟨cs,hcs⟩:=zK HO11.out hg;exact hkz g cs 115 _ hcs lF))
  have HQZ:=zA (HQ11.out.keep (fun g cs fr hg=>hkz g cs 45 fr hg lF))
  have HZ:=zA hz
  clear hoz hkz hz
  go_wp2_with (first
   | refine zI rfl 223 (.tmp 4) (w.heap.size+1) #[.slice ao10 (mq.length+1) cap10,.slice none 0 0] 223 (0,0) _ rfl rfl oA.out underlying223 rfl lE ?_
   | refine zR rfl 223 (.tmp 4) (.tmp 56) (w.heap.size+1) #[.slice ao10 (mq.length+1) cap10,.slice none 0 0] #[.slice ao10 (mq.length+1) cap10,.slice none 0 0] 223 rfl rfl rfl rfl oA.out lE rfl lE ?_)
  generalize World.setRow w11 (w.heap.size+1) #[.slice ao10 (mq.length+1) cap10,.slice none 0 0]=wz at *
  have m0:=cc 0 HZ.out
  have m1:=cc 1 HZ.out
  refine bodyPost_ret (v:=.agg #[.slice ao10 (mq.length+1) cap10,.slice none 0 0]) (by simp[results,results121,go_sem,m0,m1]) rfl ?_
  first
   | exact⟨_,_,_,rfl,HDZ.out,HFL.out.1,HFL.out.2,HBZ.out,_,HOZ.out.mono lD,.inr ⟨_,Uq,Mq,aoq,capq,rfl,HQZ.out,HQO.out⟩⟩
   | exact⟨_,rfl,_,_,HDZ.out,HFL.out.1,HFL.out.2,HBZ.out,_,HOZ.out.mono lD,.inr ⟨_,Uq,Mq,aoq,capq,rfl,HQZ.out,HQO.out⟩⟩
theorem told_1 (g o b ms mh n mtu:Nat) (a:Nat) (O:Nat→Nat→Bool) (U:Nat→Nat) (M:List (Nat×Nat)) (ao:Option Addr) (cap:Nat) (S:List (Nat×Nat)) (es:List Pl.Ev) (clock:Int) (w:World) (h:GoAt w g o b ms mh n mtu S es clock) (hs:SetV w (.agg (Qu U ao M.length cap)) O U M) (ha:a<8) (hne:n≠a) (hl:(Pl.codes es).length≤4000) (hm:512≤mtu∧mtu≤4096) :
  Calls prog 121 #[Qp g,.agg (Qsu 4 (a:Int) (n:Int) 1 U (.slice ao M.length cap))] w fun r w'=>∃v ms parts,r=.returned (.agg #[v,.slice none 0 0])∧Deltas w' n a ms parts∧Hands parts (es.filter (fun e=> !O e.at.1 e.at.2))∧(∀p∈parts,p≠[]∧p.length≤768)∧Below w.heap.size w w'∧OwnR kMsg w.heap.size w' v ms:=by
 obtain⟨hx,hy,b1⟩:=zU w (.cells (Qsu 4 (a:Int) (n:Int) 1 U (.slice ao M.length cap)) 115) (.cells #[.slice none 0 0,.slice none 0 0] 223)
 have HX:=zA hx
 have HB:=zA b1
 have HG:=zA (fun (W:World) (hW:Below w.heap.size w W)=>h.below hW)
 have HV:=zA (fun (W:World) (hW:Below w.heap.size w W)=>hs.below hW)
 have HH:=zA (And.intro ha (And.intro hne (And.intro hl hm)))
 have HOK:=zA (And.intro h.ok (And.intro h.len h.n8))
 have bs:=(Below.refl ((w.alloc (.cells (Qsu 4 (a:Int) (n:Int) 1 U (.slice ao M.length cap)) 115)).alloc (.cells #[.slice none 0 0,.slice none 0 0] 223)).heap.size _).alloc (Nat.le_refl _) (.cells (Qu U ao M.length cap) 60)
 have HX2:=zA (zC hx bs)
 have HY2:=zA (zC hy bs)
 have HB2:=zA (b1.trans (bs.mono b1.size))
 have HS2:=zA (show(((w.alloc (.cells (Qsu 4 (a:Int) (n:Int) 1 U (.slice ao M.length cap)) 115)).alloc (.cells #[.slice none 0 0,.slice none 0 0] 223)).alloc (.cells (Qu U ao M.length cap) 60)).heap[w.heap.size+1+1]?=some (.cells (Qu U ao M.length cap) 60 (0,0))from by have h:=heap_alloc_new ((w.alloc (.cells (Qsu 4 (a:Int) (n:Int) 1 U (.slice ao M.length cap)) 115)).alloc (.cells #[.slice none 0 0,.slice none 0 0] 223)) (.cells (Qu U ao M.length cap) 60);rw[zG,zG]at h;exact h)
 clear hx hy b1 h hs ha hne hl hm bs
 go_enter func121,ntmps121
 go_wp2_with fail
 generalize ((w.alloc (.cells (Qsu 4 (a:Int) (n:Int) 1 U (.slice ao M.length cap)) 115)).alloc (.cells #[.slice none 0 0,.slice none 0 0] 223)).alloc (.cells (Qu U ao M.length cap) 60)=W at *
 refine zD (fun W'=>Below w.heap.size w W'∧W'.heap[g]?=some (.cells #[.int .i64 n,.int .i64 mtu,Qp o,Qp b] 218 (0,0))∧W'.heap[w.heap.size]?=some (.cells (Qsu 4 (a:Int) (n:Int) 1 U (.slice ao M.length cap)) 115 (0,0))∧W'.heap[w.heap.size+1+1]?=some (.cells (Qu U ao M.length cap) 60 (0,0))) 99 lE ⟨HB2.out.drew,(HG.out W HB2.out).gs,HX2.out,HS2.out⟩ (fun qB=>?_)
 refine tkp 0 12 rfl ?_
 refine tkp 1 13 rfl ?_
 refine tkp 2 14 rfl ?_
 refine tk 3 15 rfl lJ ?_
 refine tkp 4 16 rfl ?_
 refine tk 5 17 rfl lJ ?_
 refine tkp 6 18 rfl ?_
 refine tkp 7 19 rfl ?_
 refine tkp 8 20 rfl ?_
 refine tk 9 21 rfl lJ ?_
 refine tl 10 22 rfl 60 (.tmp 5) (w.heap.size+1+1) rfl rfl (fun wS hSw=>hSw.2.2.2) underlying60 ?_
 refine tkp 13 25 rfl ?_
 refine tkp 14 26 rfl ?_
 refine tkp 15 27 rfl ?_
 refine tk 16 28 rfl lJ ?_
 refine t1 11 rfl (fun K hK=>?_)
 go_simp
 refine(rG b ms mh (seenD S) es clock (.agg (Qu U ao M.length cap)) O U M W.drew (HG.out _ HB2.out.drew).bk (HV.out _ HB2.out.drew) HOK.out.2.1 HOK.out.1 (HG.out _ HB2.out.drew).is).mono ?_
 rintro r w1 ⟨ve,l,rfl,hp,⟨le,qC,hrp⟩,hb⟩
 have hrp:Rep w1 le l:=hrp
 obtain⟨aoe,cape,rfl⟩:=qC.toT.form
 have hbw:=(Below.refl W.heap.size W).drew.trans hb
 have HB3:=zA (HB2.out.trans (hbw.mono HB2.out.size))
 have HX3:=zA (zC HX2.out hbw)
 have HY3:=zA (zC HY2.out hbw)
 have HS3:=zA (zC HS2.out hbw)
 have HP:=zA hp
 have hll:le.length≤es.length:=by rw[hrp.len,hp.length_eq];exact List.length_filter_le _ _
 have HSP:=zA (split_ok n a mtu aoe cape le w1 qC.rowS (by have:=HOK.out.2.1;omega) (hrp.ok (fun e he=>HOK.out.1 e (List.mem_filter.1 (hp.mem_iff.1 he)).1)) hrp.2 HOK.out.2.2 HH.out.1 HH.out.2.1 (by rw[xH hrp.1,vT hp];exact Nat.le_trans (wU _ _) HH.out.2.2.1) HH.out.2.2.2)
 have HAB:=zA hrp.1
 clear hp qC hb hbw hll hrp HX2 HY2 HS2 HX HB
 refine hK.out _ _ (fun _=>⟨HB3.out,(HG.out _ HB3.out).gs,HX3.out,HS3.out⟩) (fun _=>?_)
 clear hK K
 try simp only[pt,List.set]
 clear qB
 have qB:=And.intro HB3.out (And.intro (HG.out _ HB3.out).gs (And.intro HX3.out HS3.out))
 refine tkp 12 24 rfl ?_
 refine t1 17 rfl (fun K hK=>?_)
 go_simp
 refine HSP.out.mono ?_
 rintro r w2 ⟨vo,mq,parts,rfl,qC,qY,hfl,hpp,hb⟩
 obtain⟨aov,capv,rfl⟩:=qC.toT.form
 have HB4:=zA (HB3.out.trans (hb.mono HB3.out.size))
 have HX4:=zA (zC HX3.out hb)
 have HY4:=zA (zC HY3.out hb)
 have HS4:=zA (zC HS3.out hb)
 have HO4:=zA (qC.mono (c:=w.heap.size+1+1+1) (by have:=(gsi.1 HS3.out).1;omega))
 have HD4:=zA qY
 have HFL:=zA (And.intro (show Hands parts (es.filter (fun e=> !O e.at.1 e.at.2)) by unfold Hands;rw[hfl,HAB.out];exact HP.out.map _) hpp)
 clear qC qY hfl hpp hb HSP HX3 HY3 HS3 HP
 refine hK.out _ _ (fun _=>⟨HB4.out,(HG.out _ HB4.out).gs,HX4.out,HS4.out⟩) (fun _=>?_)
 clear hK K
 try simp only[pt,List.set]
 clear qB
 have qB:=And.intro HB4.out (And.intro (HG.out _ HB4.out).gs (And.intro HX4.out HS4.out))
 refine tkp 18 11 rfl ?_
 refine tkp 19 30 rfl ?_
 refine tkp 20 31 rfl ?_
 refine tkp 21 32 rfl ?_
 refine t1 22 rfl (fun K hK=>?_)
 have fz:=zB HY4.out 0
 have yy:=cc 0 HY4.out
 go_simp
 generalize hw5:w2.setCell ⟨w.heap.size+1,0,none⟩ (.slice aov mq.length capv)=w5 at *
 have ho5:Off (fun x=>x=w.heap.size+1) w2 w5:=by rw[←hw5];exact(Off.refl (fun x=>x=w.heap.size+1) w2).set (a:=⟨w.heap.size+1,0,none⟩) (.inl rfl) _
 have HB5:=zA (show Below w.heap.size w w5 by rw[←hw5];exact zM HB4.out (Nat.le_succ _) 0 _)
 have HY5:=zA (show w5.heap[w.heap.size+1]?=some (.cells #[.slice aov mq.length capv,.slice none 0 0] 223 (0,0)) by rw[←hw5];have h:=zF (j:=0) HY4.out (.slice aov mq.length capv);simpa using h)
 have HX5:=zA ((ho5.same w.heap.size (gsi.1 HX4.out).1 lD).trans HX4.out)
 have HS5:=zA ((ho5.same (w.heap.size+1+1) (gsi.1 HS4.out).1 lD).trans HS4.out)
 have hk5:∀(g:Nat) (cs:Array Value) (t:TypeId) (fr:Nat×Nat),w2.heap[g]?=some (Obj.cells cs t fr)→t≠223→w5.heap[g]?=w2.heap[g]?:=fun g cs t fr hg ht=>ho5.same g (gsi.1 hg).1 (fun e=>by rw[show g=w.heap.size+1 from e,HY4.out]at hg;exact zH (Ne.symm ht) hg)
 have HD5:=zA (HD4.out.keepE (w':=w5) (fun g cs t fr ht hg=>hk5 g cs t fr hg (by rcases ht with rfl | rfl<;>decide)))
 have HO5:=zA (HO4.out.keep (w':=w5) (fun g hg=>by obtain⟨cs,hcs⟩:=zK HO4.out hg;exact hk5 g cs 115 _ hcs lF))
 clear fz yy ho5 hk5 hw5
 refine hK.out _ _ (fun _=>⟨HB5.out,(HG.out _ HB5.out).gs,HX5.out,HS5.out⟩) (fun _=>?_)
 clear hK K
 try simp only[pt,List.set]
 refine wd ?_
 clear qB HX4 HY4 HS4 HO4 HD4
 go_wp2_with fail
 refine zD (fun W'=>Below w.heap.size w W'∧W'.heap[g]?=some (.cells #[.int .i64 n,.int .i64 mtu,Qp o,Qp b] 218 (0,0))∧W'.heap[w.heap.size]?=some (.cells (Qsu 4 (a:Int) (n:Int) 1 U (.slice ao M.length cap)) 115 (0,0))∧W'.heap[w.heap.size+1+1]?=some (.cells (Qu U ao M.length cap) 60 (0,0))) 99 lE ⟨HB5.out.drew,(HG.out _ HB5.out).gs,HX5.out,HS5.out⟩ (fun qB=>?_)
 refine tkp 0 33 rfl ?_
 refine tk 1 34 rfl lJ ?_
 refine tkp 2 35 rfl ?_
 refine tkp 3 36 rfl ?_
 refine tu 4 37 rfl ?_
 refine tu 5 38 rfl ?_
 refine tu 6 39 rfl ?_
 refine tu 7 40 rfl ?_
 refine tu 8 41 rfl ?_
 refine tu 9 42 rfl ?_
 refine tu 10 43 rfl ?_
 refine tu 11 44 rfl ?_
 refine tu 12 45 rfl ?_
 refine tkp 13 46 rfl ?_
 refine wd ?_
 have HB6:=zA HB5.out.drew
 have HY6:=zA (show w5.drew.heap[w.heap.size+1]?=_ from HY5.out)
 have HD6:=zA (HD5.out.below (Below.refl _ _).drew)
 have HO6:=zA (HO5.out.below (Below.refl _ _).drew)
 clear qB HB5 HY5 HD5 HO5
 generalize w5.drew=w6 at *
 have hoz:Off (fun x=>x=w.heap.size+1) w6 (World.setRow w6 (w.heap.size+1) #[.slice aov mq.length capv,.slice none 0 0]):=(Off.refl (fun x=>x=w.heap.size+1) w6).setRow (w.heap.size+1) (.inl rfl) _
 have hkz:∀(g:Nat) (cs:Array Value) (t:TypeId) (fr:Nat×Nat),w6.heap[g]?=some (Obj.cells cs t fr)→t≠223→(World.setRow w6 (w.heap.size+1) #[.slice aov mq.length capv,.slice none 0 0]).heap[g]?=w6.heap[g]?:=fun g cs t fr hg ht=>hoz.same g (gsi.1 hg).1 (fun e=>by rw[show g=w.heap.size+1 from e]at hg;exact zH (Ne.symm ht) (HY6.out.symm.trans hg))
 have HBZ:=zA (yF HB6.out (Nat.le_succ _) #[.slice aov mq.length capv,.slice none 0 0])
 have hz:=yL HY6.out #[.slice aov mq.length capv,.slice none 0 0]
 have HDZ:=zA (HD6.out.keepE (fun g cs t fr ht hg=>hkz g cs t fr hg (by rcases ht with rfl | rfl<;>decide)))
 have HOZ:=zA (HO6.out.keep (fun g hg=>by obtain⟨cs,hcs⟩:=zK HO6.out hg;exact hkz g cs 115 _ hcs lF))
 have HZ:=zA hz
 clear hoz hkz hz
 go_wp2_with (first
  | refine zI rfl 223 (.tmp 4) (w.heap.size+1) #[.slice aov mq.length capv,.slice none 0 0] 223 (0,0) _ rfl rfl HY6.out underlying223 rfl lE ?_
  | refine zR rfl 223 (.tmp 4) (.tmp 56) (w.heap.size+1) #[.slice aov mq.length capv,.slice none 0 0] #[.slice aov mq.length capv,.slice none 0 0] 223 rfl rfl rfl rfl HY6.out lE rfl lE ?_)
 generalize World.setRow w6 (w.heap.size+1) #[.slice aov mq.length capv,.slice none 0 0]=wz at *
 have m0:=cc 0 HZ.out
 have m1:=cc 1 HZ.out
 refine bodyPost_ret (v:=.agg #[.slice aov mq.length capv,.slice none 0 0]) (by simp[results,results121,go_sem,m0,m1]) rfl ?_
 first
  | exact⟨_,_,_,rfl,HDZ.out,HFL.out.1,HFL.out.2,HBZ.out,HOZ.out.mono lD⟩
  | exact⟨_,rfl,_,_,HDZ.out,HFL.out.1,HFL.out.2,HBZ.out,HOZ.out.mono lD⟩
end
end Go.Proofs.YtodlmbfbfaofcaaGreat
