/- TopPolicies, part 19. -/
import Derived.Test.YtodlmbfbfaofcaaGreatM01
import Derived.Test.YtodlmbfbfaofcaaGreatM02
import Derived.Test.YtodlmbfbfaofcaaGreatM04
import Derived.Test.YtodlmbfbfaofcaaGreatM08
import Derived.Test.YtodlmbfbfaofcaaGreatM18
open Go.Proofs.Tryz
namespace Go.Proofs.YtodlmbfbfaofcaaGreat
set_option linter.unusedVariables false
set_option linter.unusedSimpArgs false
set_option maxRecDepth 100000
set_option maxHeartbeats 1000000
section
open Go.RowKit Rw Rh
def EsR (base c:Nat) (l:List Pl.Ev) (w:World):Prop:=∃m,w.heap[c]?=some (.cells #[m] 97 (0,0))∧OwnR kEv base w m l
def OwnE (base:Nat) (w:World) (v:Value) (l:List Pl.Ev):Prop:=∃l':List Pl.Ev,OwnR kEv base w v l'∧l'.map Pl.Ev.abs=l.map Pl.Ev.abs∧∀e∈l',Is w e
theorem OwnE.nil (base:Nat) (w:World):OwnE base w (.slice none 0 0) []:=⟨[],yJ _ _ _,rfl,fun e he=>absurd he (by simp)⟩
theorem OwnE.below {base:Nat} {w w':World} {v:Value} {l:List Pl.Ev} (h:OwnE base w v l) (hb:Below w.heap.size w w'):OwnE base w' v l:=by
 obtain⟨l',h1,h2,h3⟩:=h
 exact⟨l',h1.below hb,h2,fun e he=>(h3 e he).below hb⟩
theorem xQ {l l':List Pl.Ev} (h:l'.map Pl.Ev.abs=l.map Pl.Ev.abs):l'.length=l.length:=by simpa using congrArg List.length h
theorem OwnE.form {base:Nat} {w:World} {v:Value} {l:List Pl.Ev} (h:OwnE base w v l):∃ao cap,v=.slice ao l.length cap:=by
 obtain⟨l',h1,h2,h3⟩:=h
 rw[←xQ h2]
 exact h1.toT.form
def EsAt (base c:Nat) (l:List Pl.Ev) (w:World):Prop:=∃m,w.heap[c]?=some (.cells #[m] 97 (0,0))∧OwnE base w m l
theorem EsAt.below {base c:Nat} {l:List Pl.Ev} {w w':World} (h:EsAt base c l w) (hb:Below w.heap.size w w'):EsAt base c l w':=by
 obtain⟨m,h1,h2⟩:=h
 exact⟨m,(hb.block c (gsi.1 h1).1).trans h1,h2.below hb⟩
def Kept (c:Nat) (w w':World):Prop:=∀(g:Nat) (x:Obj),w.heap[g]?=some x→g≠c→(∀cs fr,x≠.cells cs 175 fr)→w'.heap[g]?=w.heap[g]?
theorem Kept.of_below {c:Nat} {w w':World} (h:Below w.heap.size w w'):Kept c w w':=fun g x hg _ _=>h.block g (gsi.1 hg).1
theorem Kept.bk {w w':World} {c b ms mh:Nat} {l l':List ((Nat×Nat)×Value)} {clock:Int} (k:Kept c w w') (h:BkC w b ms mh l l' clock) (hc:∀g,g=b∨g=ms∨g=mh→g≠c):BkC w' b ms mh l l' clock:=
 h.keep (fun g hg=>by
  have hne:=hc g hg
  rcases hg with rfl | rfl | rfl
  ·exact k _ _ h.cells hne (fun cs fr e=>by cases e)
  ·obtain⟨es,cl,h1,_⟩:=h.seen
   exact k _ _ h1 hne (fun cs fr e=>by cases e)
  ·obtain⟨es,cl,h1,_⟩:=h.held
   exact k _ _ h1 hne (fun cs fr e=>by cases e))
theorem bev1_raw (base c:Nat) (e:Pl.Ev) (l:List Pl.Ev) (w:World) (h:EsR base c l w) (hc:base≤c) (hl:l.length≤1000) (hr:e.rm.length≤96) (hi:Is w e) :
  Calls prog 164 #[evv e,Qp c] w fun r w'=>r=.returned (.bool true)∧(∃e':Pl.Ev,e'.abs=e.abs∧Is w' e'∧EsR base c (l++[e']) w')∧Below base w w'∧Kept c w w':=by
 obtain⟨m,hx,hm⟩:=h
 obtain⟨ao,cap,rfl⟩:=hm.toT.form
 have hcl:=(gsi.1 hx).1
 have b1:=bn w (.cells e 175)
 have hE:=heap_alloc_new w (.cells e 175)
 have hx1:=(b1.block c hcl).trans hx
 have hno:∀g,(Value.slice ao l.length cap).ownBlock=some g→g≠c∧g≠w.heap.size:=fun g hg=>⟨fun e=>by
  obtain⟨cs,hcs⟩:=zK hm hg
  rw[e,hx]at hcs;exact zH lF hcs,by have:=(hm.lt g hg).2;omega⟩
 have HM:=zA (hm.below b1)
 have HIS:=zA (hi.below b1)
 have HRL:=zA hr
 have HB:=zA b1
 have HX:=zA hx1
 have HE:=zA hE
 have HNO:=zA hno
 have HC:=zA hc
 have HL:=zA hl
 have HM0:=zA hm
 have HX0:=zA hx
 clear hx hm hcl b1 hE hx1 hno hc hl hi hr
 go_enter func164,ntmps164
 go_wp2_with fail
 generalize (w.alloc (.cells e 175))=W at *
 have HXW:=zA (fun (W':World) (hW:Off (fun g=>(Value.slice ao l.length cap).ownBlock=some g) W W')=>(hW.same _ (gsi.1 HX.out).1 (fun e=>(HNO.out _ e).1 rfl)).trans HX.out)
 have HEW:=zA (fun (W':World) (hW:Off (fun g=>(Value.slice ao l.length cap).ownBlock=some g) W W')=>(hW.same _ (gsi.1 HE.out).1 (fun e=>(HNO.out _ e).2 rfl)).trans HE.out)
 refine zD (fun W'=>Off (fun g=>(Value.slice ao l.length cap).ownBlock=some g) W W') 5 lE ⟨Nat.le_refl _,fun _ _ _=>rfl,rfl,rfl,rfl⟩ (fun qB=>?_)
 refine tk 0 4 rfl kC ?_
 refine tk 1 5 rfl kD ?_
 refine t1 2 rfl (fun K hK=>?_)
 go_simp
 refine(rZ e _ HRL.out (HIS.out.off qB (fun g cs fr hg y=>by
  obtain⟨cs',hcs⟩:=zK HM.out y
  rw[hcs]at hg;exact zH lF hg))).mono ?_
 rintro x w6 ⟨ro,rc,rfl,i6,b6⟩
 have HAX:=zA (show(e.mv ro rc).abs=e.abs from rfl)
 have HI6:=zA i6
 clear i6
 generalize e.mv ro rc=ex at *
 have h6:=qB.trans (Off.of_below b6)
 have HH6:=zA h6
 have HO6:=zA ((HM.out.keep (w':=W.drew) (fun g hg=>rfl)).below b6)
 clear b6 qB h6
 refine hK.out _ _ (fun _=>HH6.out) (fun _=>?_)
 clear hK K
 try simp only[zP]
 refine t1 3 rfl (fun K hK=>?_)
 go_simp
 have b7:=bn w6 (.cells (eva ex) 175)
 have HH7:=zA (HH6.out.trans (Off.of_below b7))
 have HO7:=zA (HO6.out.below b7)
 have qI:=zA (show RowC kEv (w6.alloc (.cells (eva ex) 175)) (.slice (some ⟨w6.heap.size,0,none⟩) 1 1) [ex]from yK kEv w6 [ex] (eva ex) 1 rfl (by simp[Rk.encs,kEv]))
 have HI7:=zA (HI6.out.below b7)
 clear b7
 refine hK.out _ _ (fun _=>HH7.out) (fun _=>?_)
 clear hK K
 try simp only[zP]
 generalize w6.alloc (.cells (eva ex) 175)=w7 at *
 refine t1 4 rfl (fun K hK=>?_)
 rw[if_pos (by rfl)]
 have hb7:Below base w w7:=Below.trans (HB.out.mono (by have:=HM0.out;have:=HC.out;exact Nat.le_trans HC.out (Nat.le_of_lt (gsi.1 HX0.out).1))) ⟨HH7.out.rest.1,HH7.out.rest.2.1,HH7.out.rest.2.2,HH7.out.size,fun g hg=>HH7.out.same g (by have:=HB.out.size;have:=(gsi.1 HX0.out).1;have:=HC.out;omega) (fun e=>by have:=(HM0.out.lt g e).1;omega)⟩
 have qJ:base≤w7.heap.size:=by
  have:=(gsi.1 HX0.out).1
  have:=HC.out
  have:=HB.out.size
  have:=HH7.out.size
  omega
 refine vB kEv rfl (.tmp 4) (.tmp 7) rfl rfl HO7.out rfl qI.out (by have:=HL.out;simp;omega) hb7 qJ ?_
 intro v8 w8 hown8 hb8 hg8
 obtain⟨ao8,cap8,hv8⟩:=hown8.toT.form
 rw[List.length_append,List.length_singleton]at hv8
 subst hv8
 have hg9:World.grownBy w7 w8 (Value.slice ao l.length cap).ownBlock:=hg8
 have HH8:=zA (HH7.out.trans ⟨hg9.size,fun g hg hn=>hg9.block g hg (fun e=>hn e.symm),hg9.os,hg9.tape,hg9.output⟩)
 have HO8:=zA hown8
 have HI8:=zA (HI7.out.off (F:=fun g=>(Value.slice ao l.length cap).ownBlock=some g) ⟨hg9.size,fun g hg hn=>hg9.block g hg (fun e=>hn e.symm),hg9.os,hg9.tape,hg9.output⟩ (fun g cs fr hg y=>by
  obtain⟨cs',hcs⟩:=zK HO7.out y
  rw[hcs]at hg;exact zH lF hg))
 have HB8:=zA hb8
 clear hb8 hg8 hg9 hown8 hb7 qJ
 refine hK.out _ _ (fun _=>HH8.out) (fun _=>?_)
 clear hK K
 try simp only[zP]
 refine t1 5 rfl (fun K hK=>?_)
 have y8:=HXW.out w8 HH8.out
 have d0:=cc 0 y8
 have fz:=zB y8 0
 have HY8:=zA y8
 clear y8
 go_simp
 refine hK.out _ _ (fun h=>absurd rfl h) (fun _=>?_)
 clear hK K
 try simp only[zP]
 refine wd ?_
 have hx9:=zF (j:=0) HY8.out (.slice ao8 (l.length+1) cap8)
 have pG:=HO8.out.keep (w':=w8.setCell ⟨c,0,none⟩ (.slice ao8 (l.length+1) cap8)) (fun g hg=>Below.heap_setCell _ _ _ _ (fun e=>by
  obtain⟨cs,hcs⟩:=zK HO8.out hg
  rw[show g=c from e,HY8.out]at hcs;exact zH lF hcs))
 have hi9:Is (w8.setCell ⟨c,0,none⟩ (.slice ao8 (l.length+1) cap8)) ex:=DotsT.keep HI8.out (fun g cs fr hg=>Below.heap_setCell _ _ _ _ (fun e=>by
  rw[show g=c from e,HY8.out]at hg;exact zH lF hg))
 have HI9:=zA hi9
 clear hi9
 have hb9:=zM HB8.out HC.out 0 (.slice ao8 (l.length+1) cap8)
 have hk9:Kept c w (w8.setCell ⟨c,0,none⟩ (.slice ao8 (l.length+1) cap8)):=fun g x hg hne hx=>by
  exact nU
 have HX9:=zA (show(w8.setCell ⟨c,0,none⟩ (.slice ao8 (l.length+1) cap8)).heap[c]?=some (.cells #[.slice ao8 (l.length+1) cap8] 97 (0,0))from hx9.trans (by simp))
 have HO9:=zA pG
 have HB9:=zA hb9
 have HK9:=zA hk9
 clear hx9 pG hb9 hk9 d0 fz
 go_wp2_with fail
 go_ret
 exact⟨rfl,⟨ex,HAX.out,HI9.out,_,HX9.out,HO9.out⟩,HB9.out,HK9.out⟩
theorem Kept.dots {w w':World} {c:Nat} (k:Kept c w w') (hc:∃m,w.heap[c]?=some (.cells #[m] 97 (0,0))):∀(g:Nat) (cs:Array Value) (fr:Nat×Nat),w.heap[g]?=some (Obj.cells cs 45 fr)→w'.heap[g]?=w.heap[g]?:=
 fun g cs fr hg=>k g _ hg (fun e=>by
  obtain⟨m,hm⟩:=hc
  rw[e,hm]at hg;exact zH lF hg) (fun cs' fr' e=>by injection e with _ e2;exact absurd e2 lF)
theorem bev1_ok (base c:Nat) (e:Pl.Ev) (l:List Pl.Ev) (w:World) (h:EsAt base c l w) (hc:base≤c) (hl:l.length≤1000) (hr:e.rm.length≤96) (hi:Is w e) :
  Calls prog 164 #[evv e,Qp c] w fun r w'=>r=.returned (.bool true)∧EsAt base c (l++[e]) w'∧Below base w w'∧Kept c w w':=by
 obtain⟨m,hx,l',hm,hab,hil⟩:=h
 refine(bev1_raw base c e l' w ⟨m,hx,hm⟩ hc (by rw[xQ hab];exact hl) hr hi).mono ?_
 rintro r w' ⟨rfl,⟨e',ha,hi',m',hx',hm'⟩,hb,hk⟩
 exact mB
theorem vU (b ms mh:Nat) (l0:List ((Nat×Nat)×Value)) (es:List Pl.Ev) (clock:Int) (w:World) (h:BkC w b ms mh l0 (heldL es) clock) (hes:es.length≤1000) (hok:∀e∈es,e.Ok) (his:∀e∈es,Is w e) :
  Calls prog 96 #[Qp b] w fun r w'=>∃v l,r=.returned v∧l.Perm es∧l.Pairwise Pl.EvBefore∧OwnE w.heap.size w' v l∧Below w.heap.size w w':=by
 have b1:=bn w (.cells #[.slice none 0 0] 97)
 have hx:=heap_alloc_new w (.cells #[.slice none 0 0] 97)
 have hlt:=h.lt
 have HWALK:=zA (sL b ms mh 164 #[Qp w.heap.size] l0 es clock (fun l W=>EsAt w.heap.size w.heap.size l W∧BkC W b ms mh l0 (heldL es) clock∧Below w.heap.size w W∧∀e∈es,Is W e) (w.alloc (.cells #[.slice none 0 0] 97)) (h.below b1) hes hok
  (fun W hW=>⟨⟨_,zZ hW hx,OwnE.nil _ _⟩,(h.below b1).below hW,b1.trans (hW.mono b1.size),fun e he=>((his e he).below b1).below hW⟩)
  (fun l W W' hI hb=>⟨hI.1.below hb,hI.2.1.below hb,hI.2.2.1.trans (hb.mono hI.2.2.1.size),fun e he=>(hI.2.2.2 e he).below hb⟩)
  (fun l W hI=>hI.2.1) (fun x W=>by kernel_rfl)
  (fun l e W he hI hl=>(bev1_ok w.heap.size w.heap.size e l W hI.1 (Nat.le_refl _) lD (by obtain⟨n,s,_,hN⟩:=(hok e he).dot;exact hN.len) (hI.2.2.2 e he)).mono (by
   rintro r w' ⟨rfl,i1,i2,i3⟩
   refine⟨rfl,⟨i1,i3.bk hI.2.1 (fun g hg=>by rcases hg with rfl | rfl | rfl<;>omega),hI.2.2.1.trans i2,fun e he=>DotsT.keep (hI.2.2.2 e he) (i3.dots ⟨_,hI.1.choose_spec.1⟩)⟩,i3.dots ⟨_,hI.1.choose_spec.1⟩⟩)))
 clear b1 hx hlt h hok his
 go_enter func96,ntmps96
 go_wp2_with fail
 refine HWALK.out.mono ?_
 rintro x w1 ⟨rfl,l,hp,hpw,⟨m,hm,qC⟩,hk,hb,_⟩
 obtain⟨ao,cap,rfl⟩:=qC.form
 have c0:=cc 0 hm
 have fz:=zB hm 0
 have HM:=zA hm
 have HO:=zA qC
 have HB:=zA hb
 have HP:=zA hp
 have HPW:=zA hpw
 clear hm qC hb hp hpw hk HWALK
 go_wp2_with fail
 rw[zN HM.out (j:=0) (v:=.slice ao l.length cap) rfl]
 exact bodyPost_ret (v:=.slice ao l.length cap) (by simp[results,results96,go_sem,c0]) rfl ⟨_,l,rfl,HP.out,HPW.out,HO.out,HB.out⟩
theorem beach_cb (v:Value) (f:Nat) (cb:Array Value) (ds:List (Nat×Nat)) (I:Nat→World→Prop) (w:World) (h0:I 0 w) (hl:ds.length≤1000000000) (hD:∀k W,I k W→DotsC W v ds) (hA:∀k W W',I k W→Below W.heap.size W W'→I k W')
  (hcf:∀(x:Value) (W:World),Sem.run prog (callFunc f (#[x]++cb)) W=.ok (.enter f (#[x]++cb)) W)
  (hC:∀k (hk:k<ds.length) W,I k W→Calls prog f (#[.agg (Qi (ds[k]).1 (ds[k]).2)]++cb) W fun e w'=>e=.returned (.tuple #[])∧I (k+1) w') :
  Calls prog 279 #[v,.func (.func f) #[] cb] w fun e w'=>e=.returned (.tuple #[])∧I ds.length w':=by
 exact oL
def KnAt (k km:Nat) (L:List (Nat×Nat)) (w:World):Prop:=w.heap[k]?=some (.cells #[.map (some km)] 182 (0,0))∧DmAt w km (L.map (fun d=>(d,.bool true)))
theorem KnAt.below {k km:Nat} {L:List (Nat×Nat)} {w w':World} (h:KnAt k km L w) (hb:Below w.heap.size w w'):KnAt k km L w':=
 ⟨(hb.block k (gsi.1 h.1).1).trans h.1,h.2.below hb⟩
theorem known1_ok (k km n s:Nat) (L:List (Nat×Nat)) (w:World) (h:KnAt k km L w) (hn:(n,s)∉L) :
  Calls prog 280 #[.agg (Qi n s),Qp k] w fun r w'=>r=.returned (.tuple #[])∧KnAt k km (L++[(n,s)]) w'∧Off (· = km) w w':=by
 have b1:=bn w (.cells (Qi n s) 45)
 have hk:=h.below b1
 have hmiss:∀p∈L.map (fun d=>(d,Value.bool true)),p.1≠(n,s):=fun p hp e=>by
  obtain⟨d,hd,rfl⟩:=List.mem_map.1 hp
  exact hn (e ▸ hd)
 obtain⟨o,qH,hdm⟩:=dm_put (T:=182) underlying182 hk.2 (n,s) hmiss (.bool true)
 have qZ:Sem.run prog (Instr.mapUpdate 182 (.map (some km)) (.agg (Qi n s)) (.bool true)) (w.alloc (.cells (Qi n s) 45))=.ok () (setBlk (w.alloc (.cells (Qi n s) 45)) km o):=qH
 have c0:=cc 0 hk.1
 have HK:=zA (show KnAt k km (L++[(n,s)]) (setBlk (w.alloc (.cells (Qi n s) 45)) km o)from⟨(zY _ km o (hk.2.cells_ne hk.1)).trans hk.1,by rw[List.map_append];exact hdm⟩)
 have HO:=zA ((Off.of_below (F:=(· = km)) b1).setBlk (b:=km) (.inl rfl) o)
 clear b1 hk hmiss qH hdm h hn
 go_enter func280,ntmps280
 go_wp2_with fail
 exact yG results280 ⟨rfl,HK.out,HO.out⟩
theorem bnew2_raw (base c q k km:Nat) (e:Pl.Ev) (l:List Pl.Ev) (L:List (Nat×Nat)) (w:World) (h:EsR base c l w) (hq:w.heap[q]?=some (.cells (Qo 768) 3 (0,0))) (hk:KnAt k km L w) (hc:base≤c) (hl:l.length<768) (he:∃n s,e.Dot n s) (hr:e.rm.length≤96) (hi:Is w e) :
  Calls prog 281 #[evv e,Qp c,Qp q,Qp k] w fun r w'=>r=.returned (.bool true)∧((e.at∈L∧EsR base c l w')∨(e.at∉L∧∃e':Pl.Ev,e'.abs=e.abs∧Is w' e'∧EsR base c (l++[e']) w'))∧Below base w w'∧Kept c w w':=by
 obtain⟨n,s,hd⟩:=he
 obtain⟨m,hx,hm⟩:=h
 obtain⟨ao,cap,rfl⟩:=hm.toT.form
 have hcl:=(gsi.1 hx).1
 have b1:=bn w (.cells e 175)
 have hE:=heap_alloc_new w (.cells e 175)
 have hx1:=(b1.block c hcl).trans hx
 have hq1:=(b1.block q (gsi.1 hq).1).trans hq
 have hk1:=hk.below b1
 have hno:∀g,(Value.slice ao l.length cap).ownBlock=some g→g≠c∧g≠w.heap.size:=fun g hg=>⟨fun e=>by
  obtain⟨cs,hcs⟩:=zK hm hg
  rw[e,hx]at hcs;exact zH lF hcs,by have:=(hm.lt g hg).2;omega⟩
 have HM:=zA (hm.below b1)
 have HIS:=zA (hi.below b1)
 have HRL:=zA hr
 have HB:=zA b1
 have HX:=zA hx1
 have HE:=zA hE
 have HNO:=zA hno
 have HC:=zA hc
 have HL:=zA (show l.length≤1000 by omega)
 have HM0:=zA hm
 have HX0:=zA hx
 have HK1:=zA hk1
 have HBZ:=zA (show Below base w (w.alloc (.cells e 175))from b1.mono (Nat.le_trans hc (Nat.le_of_lt hcl)))
 have c0:=cc 0 hx1
 have q0:=cc 0 hq1
 have k0:=cc 0 hk1.1
 have e0:=cc 0 hE
 have e1:=cc 1 hE
 have g1:¬(768:Int)≤l.length:=by omega
 have hz:∀w,(zeroValue 4).run prog w=.ok (.bool false) w:=fun _=>by kernel_rfl
 by_cases hin:e.at∈L
 ·have hlk:Sem.run prog (Instr.lookup 182 (.map (some km)) (.agg (Qi e.node e.seq)) false) (w.alloc (.cells e 175))=.ok (.bool true) (w.alloc (.cells e 175)):=by
   rw[show Value.agg (Qi e.node e.seq)=dkey (n,s)from by rw[hd.node,hd.seq];rfl]
   exact dm_look (T:=182) (E:=4) underlying182 hk1.2 (n,s) (.bool true) (List.mem_map.2 ⟨_,hin,by rw[hd.key]⟩) false
  have HIN:=zA hin
  have HEZ:=zA (show EsR base c l (w.alloc (.cells e 175))from⟨_,hx1,hm.below b1⟩)
  clear hx hm hcl b1 hE hx1 hno hc hl hq hk hq1 hk1 hin hd hi hr
  go_enter func281,ntmps281
  go_wp2_with fail
  go_ret
  exact⟨rfl,Or.inl ⟨HIN.out,HEZ.out⟩,HBZ.out,Kept.of_below HB.out⟩
 ·have hlk:Sem.run prog (Instr.lookup 182 (.map (some km)) (.agg (Qi e.node e.seq)) false) (w.alloc (.cells e 175))=.ok (.bool false) (w.alloc (.cells e 175)):=by
   rw[show Value.agg (Qi e.node e.seq)=dkey (n,s)from by rw[hd.node,hd.seq];rfl]
   refine dm_miss (T:=182) (E:=4) underlying182 hk1.2 (n,s) (fun p hp e'=>?_) (.bool false) (hz _) false
   obtain⟨d,hd',rfl⟩:=List.mem_map.1 hp
   exact hin (by rw[hd.key,←e'];exact hd')
  have HIN:=zA hin
  clear hx hm hcl b1 hE hx1 hno hc hl hq hk hq1 hk1 hin hd hi hr
  go_enter func281,ntmps281
  go_wp2_with fail
  clear c0 q0 k0 e0 e1 g1 hlk hz
  generalize (w.alloc (.cells e 175))=W at *
  have HXW:=zA (fun (W':World) (hW:Off (fun g=>(Value.slice ao l.length cap).ownBlock=some g) W W')=>(hW.same _ (gsi.1 HX.out).1 (fun e=>(HNO.out _ e).1 rfl)).trans HX.out)
  have HEW:=zA (fun (W':World) (hW:Off (fun g=>(Value.slice ao l.length cap).ownBlock=some g) W W')=>(hW.same _ (gsi.1 HE.out).1 (fun e=>(HNO.out _ e).2 rfl)).trans HE.out)
  refine zD (fun W'=>Off (fun g=>(Value.slice ao l.length cap).ownBlock=some g) W W') 5 lE ⟨Nat.le_refl _,fun _ _ _=>rfl,rfl,rfl,rfl⟩ (fun qB=>?_)
  refine tk 0 15 rfl kC ?_
  refine tk 1 16 rfl kD ?_
  refine t1 2 rfl (fun K hK=>?_)
  go_simp
  refine(rZ e _ HRL.out (HIS.out.off qB (fun g cs fr hg y=>by
   obtain⟨cs',hcs⟩:=zK HM.out y
   rw[hcs]at hg;exact zH lF hg))).mono ?_
  rintro x w6 ⟨ro,rc,rfl,i6,b6⟩
  have HAX:=zA (show(e.mv ro rc).abs=e.abs from rfl)
  have HI6:=zA i6
  clear i6
  generalize e.mv ro rc=ex at *
  have h6:=qB.trans (Off.of_below b6)
  have HH6:=zA h6
  have HO6:=zA ((HM.out.keep (w':=W.drew) (fun g hg=>rfl)).below b6)
  clear b6 qB h6
  refine hK.out _ _ (fun _=>HH6.out) (fun _=>?_)
  clear hK K
  try simp only[zP]
  refine t1 3 rfl (fun K hK=>?_)
  go_simp
  have b7:=bn w6 (.cells (eva ex) 175)
  have HH7:=zA (HH6.out.trans (Off.of_below b7))
  have HO7:=zA (HO6.out.below b7)
  have qI:=zA (show RowC kEv (w6.alloc (.cells (eva ex) 175)) (.slice (some ⟨w6.heap.size,0,none⟩) 1 1) [ex]from yK kEv w6 [ex] (eva ex) 1 rfl (by simp[Rk.encs,kEv]))
  have HI7:=zA (HI6.out.below b7)
  clear b7
  refine hK.out _ _ (fun _=>HH7.out) (fun _=>?_)
  clear hK K
  try simp only[zP]
  generalize w6.alloc (.cells (eva ex) 175)=w7 at *
  refine t1 4 rfl (fun K hK=>?_)
  rw[if_pos (by rfl)]
  have hb7:Below base w w7:=Below.trans (HB.out.mono (by have:=HM0.out;have:=HC.out;exact Nat.le_trans HC.out (Nat.le_of_lt (gsi.1 HX0.out).1))) ⟨HH7.out.rest.1,HH7.out.rest.2.1,HH7.out.rest.2.2,HH7.out.size,fun g hg=>HH7.out.same g (by have:=HB.out.size;have:=(gsi.1 HX0.out).1;have:=HC.out;omega) (fun e=>by have:=(HM0.out.lt g e).1;omega)⟩
  have qJ:base≤w7.heap.size:=by
   have:=(gsi.1 HX0.out).1
   have:=HC.out
   have:=HB.out.size
   have:=HH7.out.size
   omega
  refine vB kEv rfl (.tmp 15) (.tmp 18) rfl rfl HO7.out rfl qI.out (by have:=HL.out;simp;omega) hb7 qJ ?_
  intro v8 w8 hown8 hb8 hg8
  obtain⟨ao8,cap8,hv8⟩:=hown8.toT.form
  rw[List.length_append,List.length_singleton]at hv8
  subst hv8
  have hg9:World.grownBy w7 w8 (Value.slice ao l.length cap).ownBlock:=hg8
  have HH8:=zA (HH7.out.trans ⟨hg9.size,fun g hg hn=>hg9.block g hg (fun e=>hn e.symm),hg9.os,hg9.tape,hg9.output⟩)
  have HO8:=zA hown8
  have HI8:=zA (HI7.out.off (F:=fun g=>(Value.slice ao l.length cap).ownBlock=some g) ⟨hg9.size,fun g hg hn=>hg9.block g hg (fun e=>hn e.symm),hg9.os,hg9.tape,hg9.output⟩ (fun g cs fr hg y=>by
   obtain⟨cs',hcs⟩:=zK HO7.out y
   rw[hcs]at hg;exact zH lF hg))
  have HB8:=zA hb8
  clear hb8 hg8 hg9 hown8 hb7 qJ
  refine hK.out _ _ (fun _=>HH8.out) (fun _=>?_)
  clear hK K
  try simp only[zP]
  refine t1 5 rfl (fun K hK=>?_)
  have y8:=HXW.out w8 HH8.out
  have d0:=cc 0 y8
  have fz:=zB y8 0
  have HY8:=zA y8
  clear y8
  go_simp
  refine hK.out _ _ (fun h=>absurd rfl h) (fun _=>?_)
  clear hK K
  try simp only[zP]
  refine wd ?_
  have hx9:=zF (j:=0) HY8.out (.slice ao8 (l.length+1) cap8)
  have pG:=HO8.out.keep (w':=w8.setCell ⟨c,0,none⟩ (.slice ao8 (l.length+1) cap8)) (fun g hg=>Below.heap_setCell _ _ _ _ (fun e=>by
   obtain⟨cs,hcs⟩:=zK HO8.out hg
   rw[show g=c from e,HY8.out]at hcs;exact zH lF hcs))
  have hi9:Is (w8.setCell ⟨c,0,none⟩ (.slice ao8 (l.length+1) cap8)) ex:=DotsT.keep HI8.out (fun g cs fr hg=>Below.heap_setCell _ _ _ _ (fun e=>by
   rw[show g=c from e,HY8.out]at hg;exact zH lF hg))
  have HI9:=zA hi9
  clear hi9
  have hb9:=zM HB8.out HC.out 0 (.slice ao8 (l.length+1) cap8)
  have hk9:Kept c w (w8.setCell ⟨c,0,none⟩ (.slice ao8 (l.length+1) cap8)):=fun g x hg hne hx=>by
   exact nU
  have HX9:=zA (show(w8.setCell ⟨c,0,none⟩ (.slice ao8 (l.length+1) cap8)).heap[c]?=some (.cells #[.slice ao8 (l.length+1) cap8] 97 (0,0))from hx9.trans (by simp))
  have HO9:=zA pG
  have HB9:=zA hb9
  have HK9:=zA hk9
  clear hx9 pG hb9 hk9 d0 fz
  go_wp2_with fail
  go_ret
  exact⟨rfl,Or.inr ⟨HIN.out,ex,HAX.out,HI9.out,_,HX9.out,HO9.out⟩,HB9.out,HK9.out⟩
theorem bnew2_ok (base c q k km:Nat) (e:Pl.Ev) (l:List Pl.Ev) (L:List (Nat×Nat)) (w:World) (h:EsAt base c l w) (hq:w.heap[q]?=some (.cells (Qo 768) 3 (0,0))) (hk:KnAt k km L w) (hc:base≤c) (hl:l.length<768) (he:∃n s,e.Dot n s) (hr:e.rm.length≤96) (hi:Is w e) :
  Calls prog 281 #[evv e,Qp c,Qp q,Qp k] w fun r w'=>r=.returned (.bool true)∧EsAt base c (if e.at∈L then l else l++[e]) w'∧Below base w w'∧Kept c w w':=by
 obtain⟨m,hx,l',hm,hab,hil⟩:=h
 refine(bnew2_raw base c q k km e l' L w ⟨m,hx,hm⟩ hq hk hc (by rw[xQ hab];exact hl) he hr hi).mono ?_
 rintro r w' ⟨rfl,⟨hin,m',hx',hm'⟩ | ⟨hin,e',ha,hi',m',hx',hm'⟩,hb,hk⟩
 ·rw[if_pos hin]
  exact⟨rfl,⟨m',hx',l',hm',hab,fun x hx''=>DotsT.keep (hil x hx'') (hk.dots ⟨m,hx⟩)⟩,hb,hk⟩
 ·rw[if_neg hin]
  exact mB
theorem rG (b ms mh:Nat) (l0:List ((Nat×Nat)×Value)) (es:List Pl.Ev) (clock:Int) (vs:Value) (O:Nat→Nat→Bool) (U:Nat→Nat) (M:List (Nat×Nat)) (w:World) (h:BkC w b ms mh l0 (heldL es) clock) (hs:SetV w vs O U M) (hes:es.length<768) (hok:∀e∈es,e.Ok) (his:∀e∈es,Is w e) :
  Calls prog 203 #[Qp b,vs,.int .i64 768] w fun r w'=>∃v l,r=.returned v∧l.Perm (es.filter (fun e=> !O e.at.1 e.at.2))∧OwnE w.heap.size w' v l∧Below w.heap.size w w':=by
 have HS:=zA hs
 obtain⟨m,rfl,hd,hcl⟩:=hs
 obtain⟨ao,cap,rfl,_⟩:=hd.toC
 have hlt:=h.lt
 have b1:=bn w (.cells (Qu U ao M.length cap) 60)
 have b2:=b1.alloc b1.size (.cells (Qo 768) 3)
 have b3:=b2.alloc b2.size (.cells #[.slice none 0 0] 97)
 have b4:=b3.alloc b3.size (.map #[] 0)
 have b5:=b4.alloc b4.size (.cells #[.map (some (w.heap.size+1+1+1))] 182)
 have x1:=heap_alloc_new w (.cells (Qu U ao M.length cap) 60)
 have x2:=heap_alloc_new (w.alloc (.cells (Qu U ao M.length cap) 60)) (.cells (Qo 768) 3)
 have x3:=heap_alloc_new ((w.alloc (.cells (Qu U ao M.length cap) 60)).alloc (.cells (Qo 768) 3)) (.cells #[.slice none 0 0] 97)
 have x4:=rX (((w.alloc (.cells (Qu U ao M.length cap) 60)).alloc (.cells (Qo 768) 3)).alloc (.cells #[.slice none 0 0] 97))
 have x5:=heap_alloc_new ((((w.alloc (.cells (Qu U ao M.length cap) 60)).alloc (.cells (Qo 768) 3)).alloc (.cells #[.slice none 0 0] 97)).alloc (.map #[] 0)) (.cells #[.map (some (w.heap.size+1+1+1))] 182)
 simp only[zG]at x2 x3 x4 x5
 have n1:=fun (W:World) (o:Obj)=>bn W o
 have y1:=fun {g:Nat} {x:Obj} (W:World) (o:Obj) (hg:W.heap[g]?=some x)=>((n1 W o).block g (gsi.1 hg).1).trans hg
 have z1:=y1 _ (.cells #[.map (some (w.heap.size+1+1+1))] 182) (y1 _ (.map #[] 0) (y1 _ (.cells #[.slice none 0 0] 97) (y1 _ (.cells (Qo 768) 3) x1)))
 have z2:=y1 _ (.cells #[.map (some (w.heap.size+1+1+1))] 182) (y1 _ (.map #[] 0) (y1 _ (.cells #[.slice none 0 0] 97) x2))
 have z3:=y1 _ (.cells #[.map (some (w.heap.size+1+1+1))] 182) (y1 _ (.map #[] 0) x3)
 have z4:=x4.below (n1 _ (.cells #[.map (some (w.heap.size+1+1+1))] 182))
 have HB:=zA b5
 have HQ:=zA z2
 have HC:=zA z3
 have HKN:=zA (show KnAt (w.heap.size+1+1+1+1) (w.heap.size+1+1+1) [] (((((w.alloc (.cells (Qu U ao M.length cap) 60)).alloc (.cells (Qo 768) 3)).alloc (.cells #[.slice none 0 0] 97)).alloc (.map #[] 0)).alloc (.cells #[.map (some (w.heap.size+1+1+1))] 182))from⟨x5,z4⟩)
 have HBK:=zA (h.below b5)
 have HLT:=zA hlt
 have HOK:=zA hok
 have HIS:=zA (fun e he=>(his e he).below b5)
 have HES:=zA hes
 have HLIST:=zA (list_ok _ O U M (((((w.alloc (.cells (Qu U ao M.length cap) 60)).alloc (.cells (Qo 768) 3)).alloc (.cells #[.slice none 0 0] 97)).alloc (.map #[] 0)).alloc (.cells #[.map (some (w.heap.size+1+1+1))] 182)) (HS.out.below b5))
 have oB:=zA hcl.fit
 have mk:∀w,Sem.run prog (Instr.makeMap 182 none) w=.ok (.map (some w.heap.size)) (w.alloc (.map #[] 0)):=fun _=>by kernel_rfl
 have c0:=cc 0 z1
 have c1:=cc 1 z1
 have c2:=cc 2 z1
 have c3:=cc 3 z1
 have c4:=cc 4 z1
 have c5:=cc 5 z1
 have c6:=cc 6 z1
 have c7:=cc 7 z1
 have c8:=cc 8 z1
 clear hd hcl hlt b1 b2 b3 b4 b5 x1 x2 x3 x4 x5 n1 y1 z1 z2 z3 z4 h hok hes his
 go_enter func203,ntmps203
 go_wp2_with fail
 generalize (((((w.alloc (.cells (Qu U ao M.length cap) 60)).alloc (.cells (Qo 768) 3)).alloc (.cells #[.slice none 0 0] 97)).alloc (.map #[] 0)).alloc (.cells #[.map (some (w.heap.size+1+1+1))] 182))=W at *
 refine HLIST.out.mono ?_
 rintro x w1 ⟨v1,rfl,hown1,b1⟩
 have hdl:(Pl.dots O).length≤1000:=by
  have:=Pl.ahead_len O oB.out 8 0
  rw[Pl.ahead_end]at this
  omega
 have hnd:(Pl.dots O).Nodup:=(Pl.dots_pw O).imp (fun {a b} hab e=>by subst e;unfold Pl.Before at hab;omega)
 have HND:=zA hnd
 have HDL:=zA hdl
 have HB1:=zA (HB.out.trans (b1.mono HB.out.size))
 have HQ1:=zA (zZ b1 HQ.out)
 have HC1:=zA (zZ b1 HC.out)
 have HKN1:=zA (HKN.out.below b1)
 have HBK1:=zA (HBK.out.below b1)
 have HIS1:=zA (fun e he=>(HIS.out e he).below b1)
 have qM:=zA (wM.2 hown1.toT)
 clear c0 c1 c2 c3 c4 c5 c6 c7 c8 b1 hown1 hnd hdl HLIST HQ HC HKN HBK HIS
 go_wp2_with fail
 have hkm:=HKN1.out.2.lt
 refine(beach_cb v1 280 #[Qp (w.heap.size+1+1+1+1)] (Pl.dots O) (fun i W=>KnAt (w.heap.size+1+1+1+1) (w.heap.size+1+1+1) ((Pl.dots O).take i) W∧Off (· = w.heap.size+1+1+1) w1 W) w1 ⟨HKN1.out,Off.refl _ _⟩ (by have:=HDL.out;omega)
  (fun i W hI=>(qM.out.keep (fun g cs fr hg=>hI.2.same g (gsi.1 hg).1 (fun e=>HKN1.out.2.cells_ne hg e))).toC)
  (fun i W W' hI hb=>⟨hI.1.below hb,hI.2.trans (Off.of_below hb)⟩) (fun x W=>by kernel_rfl) (fun i hi W hI=>?_)).mono ?_
 ·have htk:(Pl.dots O).take (i+1)=(Pl.dots O).take i++[(Pl.dots O)[i]]:=List.take_succ_eq_append_getElem hi
  have oE:((Pl.dots O)[i].1,(Pl.dots O)[i].2)∉(Pl.dots O).take i:=fun hm=>by
   have h1:=HND.out.sublist (List.take_sublist (i+1) (Pl.dots O))
   rw[htk,List.nodup_append]at h1
   exact h1.2.2 _ hm _ (List.mem_singleton.2 rfl) rfl
  refine(known1_ok (w.heap.size+1+1+1+1) (w.heap.size+1+1+1) _ _ _ W hI.1 oE).mono ?_
  rintro r w' ⟨rfl,i1,i2⟩
  exact⟨rfl,by rw[htk];exact i1,hI.2.trans i2⟩
 ·rintro x w2 ⟨rfl,hkn,pS⟩
  rw[List.take_length]at hkn
  have hb2:=pS.since HB1.out (fun g hg=>by rw[show g=w.heap.size+1+1+1 from hg];omega)
  have hq2:=(pS.same _ (gsi.1 HQ1.out).1 (fun e=>by have:w.heap.size+1=w.heap.size+1+1+1:=e;omega)).trans HQ1.out
  have hc2:=(pS.same _ (gsi.1 HC1.out).1 (fun e=>by have:w.heap.size+1+1=w.heap.size+1+1+1:=e;omega)).trans HC1.out
  have hbk2:=HBK1.out.keep (w':=w2) (fun g hg=>pS.same g (by have:=HBK1.out.lt;rcases hg with rfl | rfl | rfl<;>omega) (fun e=>by
   have e':g=w.heap.size+1+1+1:=e
   have:=HLT.out
   rcases hg with rfl | rfl | rfl<;>omega))
  have HKN2:=zA hkn
  have HB2:=zA hb2
  have HQ2:=zA hq2
  have HC2:=zA hc2
  have HBK2:=zA hbk2
  have HIS2:=zA (fun e he=>(HIS1.out e he).off pS (fun g cs fr hg y=>HKN1.out.2.cells_ne hg y))
  clear hkn pS hb2 hq2 hc2 hbk2 hkm
  go_wp2_with fail
  refine(sL b ms mh 281 #[Qp (w.heap.size+1+1),Qp (w.heap.size+1),Qp (w.heap.size+1+1+1+1)] l0 es clock (fun l W=>EsAt w.heap.size (w.heap.size+1+1) (l.filter (fun e=> !O e.at.1 e.at.2)) W∧BkC W b ms mh l0 (heldL es) clock∧Below w.heap.size w W∧W.heap[w.heap.size+1]?=some (.cells (Qo 768) 3 (0,0))∧KnAt (w.heap.size+1+1+1+1) (w.heap.size+1+1+1) (Pl.dots O) W∧∀e∈es,Is W e) w2 HBK2.out (by have:=HES.out;omega) HOK.out
   (fun W hW=>⟨⟨_,zZ hW HC2.out,OwnE.nil _ _⟩,HBK2.out.below hW,HB2.out.trans (hW.mono HB2.out.size),zZ hW HQ2.out,HKN2.out.below hW,fun e he=>(HIS2.out e he).below hW⟩)
   (fun l W W' hI hb=>⟨hI.1.below hb,hI.2.1.below hb,hI.2.2.1.trans (hb.mono hI.2.2.1.size),(hb.block _ (gsi.1 hI.2.2.2.1).1).trans hI.2.2.2.1,hI.2.2.2.2.1.below hb,fun e he=>(hI.2.2.2.2.2 e he).below hb⟩)
   (fun l W hI=>hI.2.1) (fun x W=>by kernel_rfl)
   (fun l e W he hI hl=>?_)).mono ?_
  ·refine(bnew2_ok w.heap.size (w.heap.size+1+1) (w.heap.size+1) (w.heap.size+1+1+1+1) (w.heap.size+1+1+1) e _ (Pl.dots O) W hI.1 hI.2.2.2.1 hI.2.2.2.2.1 lD (by
    have h1:=List.length_filter_le (fun e:Pl.Ev=> !O e.at.1 e.at.2) l
    have:=HES.out
    omega) (by obtain⟨n,s,hd,_⟩:=(HOK.out e he).dot;exact⟨n,s,hd⟩) (by obtain⟨n,s,_,hN⟩:=(HOK.out e he).dot;exact hN.len) (hI.2.2.2.2.2 e he)).mono ?_
   rintro r w' ⟨rfl,i1,i2,i3⟩
   have hkq:w.heap.size+1≠w.heap.size+1+1:=by omega
   have hkk:w.heap.size+1+1+1+1≠w.heap.size+1+1:=by omega
   have hmm:w.heap.size+1+1+1≠w.heap.size+1+1:=by omega
   refine⟨rfl,⟨?_,i3.bk hI.2.1 (fun g hg=>by have:=HLT.out;rcases hg with rfl | rfl | rfl<;>omega),hI.2.2.1.trans i2,(i3 _ _ hI.2.2.2.1 hkq (fun cs fr e=>by injection e with _ e2;exact absurd e2 lF)).trans hI.2.2.2.1,⟨(i3 _ _ hI.2.2.2.2.1.1 hkk (fun cs fr e=>by injection e with _ e2;exact absurd e2 lF)).trans hI.2.2.2.2.1.1,?_⟩,fun e he=>DotsT.keep (hI.2.2.2.2.2 e he) (i3.dots ⟨_,hI.1.choose_spec.1⟩)⟩,i3.dots ?_⟩
   ·rw[List.filter_append]
    have qR:e.at∈Pl.dots O↔O e.at.1 e.at.2=true:=Pl.mem_dots oB.out e.at.1 e.at.2
    by_cases hin:e.at∈Pl.dots O
    ·rw[if_pos hin]at i1
     simpa[qR.1 hin]using i1
    ·rw[if_neg hin]at i1
     have:O e.at.1 e.at.2=false:=by
      cases hO:O e.at.1 e.at.2 with
      | false=>rfl
      | true=>exact absurd (qR.2 hO) hin
     simpa[this]using i1
   ·obtain⟨es',c',hm',_⟩:=id hI.2.2.2.2.1.2
    exact hI.2.2.2.2.1.2.keep (i3 _ _ hm' hmm (fun cs fr e=>by cases e))
   ·obtain⟨m,hm,_⟩:=hI.1
    exact⟨m,hm⟩
  ·rintro x w3 ⟨rfl,l,hp,hpw,⟨m,hm,qC⟩,_,hb,_⟩
   obtain⟨ao3,cap3,rfl⟩:=qC.form
   have c0:=cc 0 hm
   have fz:=zB hm 0
   have HM:=zA hm
   have HO:=zA qC
   have HB3:=zA hb
   have HP:=zA (hp.filter (fun e:Pl.Ev=> !O e.at.1 e.at.2))
   clear hm qC hb hp hpw
   generalize l.filter (fun e=> !O e.at.1 e.at.2)=lf at *
   go_wp2_with fail
   rw[zN HM.out (j:=0) (v:=.slice ao3 lf.length cap3) rfl]
   exact bodyPost_ret (v:=.slice ao3 lf.length cap3) (by simp[results,results203,go_sem,c0]) rfl ⟨_,lf,rfl,HP.out,HO.out,HB3.out⟩
end
section
open Go Go.RowKit Rw Rh
section
variable {P:Program} {ops:Array Oper} {Q:Exit→Act→World→Prop} {md:Region.Mode} {S:World→Prop} {B:Nat→Bool}
def wpK (P:Program) (md:Region.Mode) (ops:Array Oper) (Q:Exit→Act→World→Prop) (S:World→Prop) (B:Nat→Bool):Nat→Array Bool→Act→World→Prop
 | 0,listed,a,w=>Region.ready md ops listed=[]∧Q .normal a w
 | fuel+1,listed,a,w=>
  (Region.ready md ops listed=[]→Q .normal a w)∧
  ∀i∈Region.ready md ops listed,wpOp P ops Q i (fun a' w'=>(B i=true→S w→S w')∧wpK P md ops Q S B fuel (listed.setIfInBounds i true) a' w') a w
theorem vY:∀(fuel:Nat) (listed:Array Bool) (a:Act) (w:World),wpK P md ops Q S B fuel listed a w→wpAny P md ops Q fuel listed a w
 | 0,_,_,_,h=>h
 | fuel+1,_,_,_,h=>⟨h.1,fun i hi=>wpOp_mono (fun a' w' h'=>vY fuel _ a' w' h'.2) (h.2 i hi)⟩
theorem sU {T:World→Prop} {i:Nat} {oi:Oper} {v:Value} (hi:ops[i]?=some oi) (hsel:∀(j:Nat) (o:Oper) cs b,ops[j]?=some o→o.op≠.select cs b)
  (hstep:∀j oj w w',ops[j]?=some oj→(∀e∈oj.after,Region.binds md e=true→e.on≠i)→(B j=true→S w→S w')→T w→T w')
  (hQ:∀c a w,Q (.panic c) (a.put oi.dst v) w→Q (.panic c) a w) :
  ∀(fuel:Nat) (listed:Array Bool) (a:Act) (w:World),
   (∀j oj,ops[j]?=some oj→j≠i→listed.getD j true=false→(∀e∈oj.after,Region.binds md e=true→e.on≠i)→oi.apart ops oj=true)→
   i∈Region.ready md ops listed→YieldsIf P ops T oi v a→T w→
   wpK P md ops Q S B fuel (listed.setIfInBounds i true) (a.put oi.dst v) w→wpK P md ops Q S B (fuel+1) listed a w:=by
 intro fuel
 induction fuel with
 | zero=>
  intro listed a w _ hr hy hT H
  refine⟨fun h=>(by rw[h]at hr;cases hr),fun j hj=>?_⟩
  by_cases hji:j=i
  ·subst hji;exact hy.wpOp hi hT ⟨fun _ hS=>hS,H⟩
  ·have:=ready_mono hj hji
   rw[H.1]at this
   cases this
 | succ fuel ih=>
  intro listed a w hfree hr hy hT H
  refine⟨fun h=>(by rw[h]at hr;cases hr),fun j hj=>?_⟩
  by_cases hji:j=i
  ·subst hji;exact hy.wpOp hi hT ⟨fun _ hS=>hS,H⟩
  ·have h1:=H.2 j (ready_mono hj hji)
   obtain⟨hjun,oj,hoj,qF⟩:=mem_ready.1 hj
   have oE:∀e∈oj.after,Region.binds md e=true→e.on≠i:=fun e he hb heq=>by
    exact nZ
   have h2:=wpOp_putIf hoj (hfree j oj hoj hji hjun oE) (fun cs b=>hsel i oi cs b hi) (fun cs b=>hsel j oj cs b hoj) hQ hy h1
   have hfree':∀k ok,ops[k]?=some ok→k≠i→(listed.setIfInBounds j true).getD k true=false→
     (∀e∈ok.after,Region.binds md e=true→e.on≠i)→oi.apart ops ok=true:=fun k ok hk hki hun hno=>by
    exact mT
   refine wpOp_mono (fun a' w' h3=>⟨h3.2.1,ih (listed.setIfInBounds j true) a' w' hfree' (ready_mono hr (Ne.symm hji)) h3.1 (hstep j oj w w' hoj oE h3.2.1 hT) ?_⟩) h2
   rw[Array.setIfInBounds_comm _ _ hji]
   exact h3.2.2
def allWait (md:Region.Mode) (ops:Array Oper) (B:Nat→Bool) (i:Nat):Bool:=
 (List.range ops.size).all fun j=>B j||match ops[j]? with
  | some o=>o.after.toList.any fun e=>Region.binds md e&&e.on == i
  | none=>true
theorem wpK_take {i:Nat} (d:Nat) {oi:Oper} {v:Value} {fuel:Nat} {listed:Array Bool} {a:Act} {w:World} (hi:ops[i]?=some oi) (hd:((ops[i]?).any fun o=>o.dst == some d)=true)
  (hs:Region.noSelect ops=true) (hw:allWait md ops B i=true) (hf:Region.free md ops listed i=true) (hr:(Region.ready md ops listed).contains i=true)
  (hQ:∀c a w,Q (.panic c) (a.put oi.dst v) w→Q (.panic c) a w) (hy:YieldsIf P ops S oi v a) (hS:S w)
  (h:wpK P md ops Q S B fuel (listed.setIfInBounds i true) (a.put (some d) v) w):wpK P md ops Q S B (fuel+1) listed a w:=by
 have e:oi.dst=some d:=by rw[hi]at hd;simpa using hd
 refine sU (T:=S) hi (Region.noSelect_spec hs) (fun j oj w w' hoj oE hk hT=>?_) hQ fuel listed a w (Region.free_spec hi hf) (by simpa using hr) hy hS (by rw[e];exact h)
 refine hk ?_ hT
 cases hB:B j with
 | true=>rfl
 | false=>
  unfold allWait at hw
  rw[List.all_eq_true]at hw
  have:=hw j (List.mem_range.2 (gsi.1 hoj).1)
  simp only[hB,hoj,Bool.false_or,List.any_eq_true,Bool.and_eq_true,beq_iff_eq]at this
  obtain⟨x,hx,hb,hon⟩:=this
  exact absurd hon (oE x (by simpa using hx) hb)
theorem wpK_pure {i:Nat} (d:Nat) {oi:Oper} {v:Value} {fuel:Nat} {listed:Array Bool} {a:Act} {w:World} (hi:ops[i]?=some oi) (hd:((ops[i]?).any fun o=>o.dst == some d)=true)
  (hs:Region.noSelect ops=true) (hf:Region.free md ops listed i=true) (hr:(Region.ready md ops listed).contains i=true)
  (hQ:∀c a w,Q (.panic c) (a.put oi.dst v) w→Q (.panic c) a w) (hy:YieldsIf P ops (fun _=>True) oi v a)
  (h:wpK P md ops Q S B fuel (listed.setIfInBounds i true) (a.put (some d) v) w):wpK P md ops Q S B (fuel+1) listed a w:=by
 have e:oi.dst=some d:=by rw[hi]at hd;simpa using hd
 exact sU (T:=fun _=>True) hi (Region.noSelect_spec hs) (fun _ _ _ _ _ _ _ _=>trivial) hQ fuel listed a w (Region.free_spec hi hf) (by simpa using hr) hy trivial (by rw[e];exact h)
theorem rJ {i:Nat} {o:Oper} {fuel:Nat} {listed:Array Bool} {a:Act} {w:World} (hr:Region.ready md ops listed=[i]) (ho:ops[i]?=some o)
  (h:∀K':Act→World→Prop,Shut (∀a w',(B i=true→S w→S w')→((B i=true→S w→S w')→wpK P md ops Q S B fuel (listed.setIfInBounds i true) a w')→K' a w')→if Region.wanted o (yielded ops a.tmps)=true then Oper.wp P o a w K' Q else K' (a.put o.dst undef) w) :
  wpK P md ops Q S B (fuel+1) listed a w:=by
 exact mJ
theorem wpK_done {listed:Array Bool} {a:Act} {w:World} (hr:Region.ready md ops listed=[]) (h:Q .normal a w) :
  ∀fuel,wpK P md ops Q S B fuel listed a w
 | 0=>⟨hr,h⟩
 | _+1=>⟨fun _=>h,by rw[hr];simp⟩
theorem wp_region_K {id:Nat} {a:Act} {w:World} (S:World→Prop) (B:Nat→Bool) (hm:P.follows .mixedOrders=true) (hS:S w.drew)
  (h:S w.drew→wpK P .any ops Q S B ops.size (Array.replicate ops.size false) a w.drew):(Code.region id ops true).wp P Q a w:=
 wp_region_any hm (vY _ _ _ _ (h hS))
end
end
section
open Go.RowKit Rw Rh
section
variable {P:Program} {ops:Array Oper} {Q:Exit→Act→World→Prop} {S:World→Prop} {fuel:Nat} {listed:Array Bool} {a:Act} {w:World} {v:Value} {oi:Oper} {B:Nat→Bool}
theorem tf (i d:Nat) {a':Act} (hi:ops[i]?=some oi) (h:wpK P .any ops Q S B fuel (listed.setIfInBounds i true) a' w)
  (ha:∀w,True→(execOp a.eval oi).run P w=.ok (.value v) w:=by intro wS _;go_simp;(try with_reducible rfl))
  (he:a.put (some d) v=a':=by first | (simp only[pt,List.set];done) | (simp only[pt,List.set];exact rfl))
  (hg:Region.wanted oi (yielded ops a.tmps)=true:=by rfl) (hb:okB ops listed i d=true:=by kernel_rfl)
  (hQ:∀c a w,Q (.panic c) (a.put oi.dst v) w→Q (.panic c) a w:=by exact fun _ _ _ h=>h):wpK P .any ops Q S B (fuel+1) listed a w:=by
 obtain⟨h1,h2,h3,h4⟩:=uJ hb
 subst he
 exact wpK_pure d hi h1 h2 h3 h4 hQ (.inl ⟨hg,ha⟩) h
theorem tkk (i d:Nat) {a':Act} (hi:ops[i]?=some oi) (ha:∀w,S w→(execOp a.eval oi).run P w=.ok (.value v) w) (h:wpK P .any ops Q S B fuel (listed.setIfInBounds i true) a' w)
  (he:a.put (some d) v=a':=by first | (simp only[pt,List.set];done) | (simp only[pt,List.set];exact rfl))
  (hg:Region.wanted oi (yielded ops a.tmps)=true:=by rfl) (hb:okB ops listed i d=true:=by kernel_rfl) (hw:allWait .any ops B i=true:=by kernel_rfl) (hS:S w:=by assumption)
  (hQ:∀c a w,Q (.panic c) (a.put oi.dst v) w→Q (.panic c) a w:=by exact fun _ _ _ h=>h):wpK P .any ops Q S B (fuel+1) listed a w:=by
 obtain⟨h1,h2,h3,h4⟩:=uJ hb
 subst he
 exact wpK_take d hi h1 h2 hw h3 h4 hQ (.inl ⟨hg,ha⟩) hS h
end
end
section
open Go.RowKit Rw Rh
theorem evins_small (sl:Value) (n:Nat) (hn:n≤1) (w:World):Calls prog 366 #[sl,.int .i64 0,.int .i64 n,(Qm 261)] w fun r w'=>r=.returned (.tuple #[])∧w=w':=by
 have h1:¬(1:Int)<n:=by omega
 go_enter func366,ntmps366
 go_wp2_with fail
 go_loopw [8] (fun i wr=>i=.int .i64 1∧w=wr) (fun i _=>0)
 case atStart=>exact⟨rfl,rfl⟩
 case round=>
  obtain⟨rfl,rfl⟩:=hrel
  go_wp2_with fail
  exact yG results366 ⟨rfl,rfl⟩
theorem sI (sl:Value) (n:Nat) (hn:n≤1) (w:World):Calls prog 323 #[sl,.int .i64 n,(Qm 261)] w fun r w'=>r=.returned (.tuple #[])∧w=w':=by
 have h1:¬(20:Int)≤n:=by omega
 have h2:¬(20:Int)<n:=by omega
 go_enter func323,ntmps323
 go_wp2_with fail
 go_loopw [7,8] (fun i j wr=>i=.int .i64 0∧j=.int .i64 20∧w=wr) (fun i _ _=>0)
 case atStart=>exact⟨rfl,rfl,rfl⟩
 case round=>
  obtain⟨rfl,rfl,rfl⟩:=hrel
  go_wp2_with fail
  refine(evins_small sl n hn w).mono ?_
  rintro x w1 ⟨rfl,rfl⟩
  go_wp2_with fail
  go_loopw [6] (fun i wr=>i=.int .i64 20∧w=wr) (fun i _=>0)
  case atStart=>exact⟨rfl,rfl⟩
  case round=>
   obtain⟨rfl,rfl⟩:=hrel
   go_wp2_with fail
   exact yG results323 ⟨rfl,rfl⟩
theorem rW (ao:Option Addr) (n cap:Nat) (hn:n≤1) (w:World):Calls prog 262 #[.slice ao n cap,(Qm 261)] w fun r w'=>r=.returned (.tuple #[])∧w=w':=by
 have HN:=zA hn
 clear hn
 go_enter func262,ntmps262
 go_wp2_with fail
 refine(sI _ n HN.out w).mono ?_
 rintro x w1 ⟨rfl,rfl⟩
 go_wp2_with fail
 exact yG results262 ⟨rfl,rfl⟩
theorem row_take {α:Type} {K:Rk α} {w:World} {ao:Option Addr} {n cap:Nat} {xs:List α} (h:RowT K w (.slice ao n cap) xs) (m:Nat) (hm:m≤xs.length):RowT K w (.slice ao m cap) (xs.take m):=by
 obtain⟨ao',cap',e,h2,h3⟩:=h
 cases e
 refine⟨ao,cap,by rw[List.length_take,Nat.min_eq_left hm],fun e=>?_,fun i hi=>?_⟩
 ·obtain⟨rfl,rfl⟩:=h2 e
  simp
 ·rw[List.length_take]at hi
  obtain⟨g,off,cs,fr,h4,h5,h6⟩:=h3 i lD
  exact⟨g,off,cs,fr,h4,h5,fun j hj=>by rw[List.getElem_take];exact h6 j hj⟩
end
end Go.Proofs.YtodlmbfbfaofcaaGreat
