/- TopLoads, part 26. -/
import Derived.Test.YtodlmbfbfaofcaaGreatM01
import Derived.Test.YtodlmbfbfaofcaaGreatM03
import Derived.Test.YtodlmbfbfaofcaaGreatM07
import Derived.Test.YtodlmbfbfaofcaaGreatM25
open Go.Proofs.Tryz
namespace Go.Proofs.YtodlmbfbfaofcaaGreat
set_option linter.unusedVariables false
set_option linter.unusedSimpArgs false
set_option maxRecDepth 100000
set_option maxHeartbeats 1000000
section
open Go.RowKit Rw Rh
def Pl.EvBefore (a b:Pl.Ev):Prop:=Pl.Before a.at b.at
theorem tW (es:List Pl.Ev):(heldL es).map (·.1)=es.map Pl.Ev.at:=by unfold heldL;simp
theorem uX:∀(ds:List (Nat×Nat)) (es:List Pl.Ev),ds.Perm (es.map Pl.Ev.at)→∃l:List Pl.Ev,l.Perm es∧l.map Pl.Ev.at=ds
 | [],es,h=>by
  have h1:=h.length_eq
  have h2:es.length=0:=by simpa using h1.symm
  have:es=[]:=List.eq_nil_of_length_eq_zero h2
  exact⟨[],by rw[this],rfl⟩
 | d::ds,es,h=>by
  have hm:d∈es.map Pl.Ev.at:=h.mem_iff.1 (by simp)
  obtain⟨e,he,rfl⟩:=List.mem_map.1 hm
  obtain⟨a,b,rfl⟩:=List.append_of_mem he
  have h2:ds.Perm ((a++b).map Pl.Ev.at):=by
   rw[List.map_append,List.map_cons]at h
   rw[List.map_append]
   exact(List.perm_cons e.at).1 (h.trans List.perm_middle)
  obtain⟨l,h3,h4⟩:=uX ds (a++b) h2
  exact⟨e::l,(List.Perm.cons e h3).trans List.perm_middle.symm,by rw[List.map_cons,h4]⟩
theorem xV {w w':World} {row:Option Nat} {g T:Nat} {x:Obj} (hg:w.grownBy w' row) (rZ:∀g,row=some g→∃cs,w.heap[g]?=some (.cells cs T (0,0))) (h:w.heap[g]?=some x) (hx:∀cs,x≠.cells cs T (0,0)):w'.heap[g]?=w.heap[g]?:=
 hg.block g (gsi.1 h).1 (fun e=>by
  obtain⟨cs,h2⟩:=rZ g e.symm
  rw[h]at h2;injection h2 with h2;exact hx cs h2)
theorem BkC.grown {w w':World} {b ms mh T:Nat} {l l':List ((Nat×Nat)×Value)} {clock:Int} {row:Option Nat} (h:BkC w b ms mh l l' clock) (hg:w.grownBy w' row) (rZ:∀g,row=some g→∃cs,w.heap[g]?=some (.cells cs T (0,0))) (hT:T≠185):BkC w' b ms mh l l' clock:=
 h.keep (fun g hgg=>by
  rcases hgg with rfl | rfl | rfl
  ·exact xV hg rZ h.cells (fun cs e=>by injection e with _ e2;exact hT e2.symm)
  ·obtain⟨es,c,h1,_⟩:=h.seen
   exact xV hg rZ h1 (fun cs e=>by cases e)
  ·obtain⟨es,c,h1,_⟩:=h.held
   exact xV hg rZ h1 (fun cs e=>by cases e))
theorem ItAt.grown {w w':World} {r b T:Nat} {l left:List ((Nat×Nat)×Value)} {row:Option Nat} (h:ItAt w r b l left) (hg:w.grownBy w' row) (rZ:∀g,row=some g→∃cs,w.heap[g]?=some (.cells cs T (0,0))):ItAt w' r b l left:=by
 obtain⟨es,c,si,se,h1,h2,h3,h4⟩:=id h
 exact h.keep (xV hg rZ h1 (fun cs e=>by cases e)) (xV hg rZ h3 (fun cs e=>by cases e))
theorem sC (b ms mh f:Nat) (cb:Array Value) (l0:List ((Nat×Nat)×Value)) (es:List Pl.Ev) (clock:Int) (I:List Pl.Ev→World→Prop) (w:World) (h:BkC w b ms mh l0 (heldL es) clock) (hes:es.length≤1000) (hok:∀e∈es,e.Ok)
  (h0:∀W,Below w.heap.size w W→I [] W) (hA:∀l W W',I l W→Below W.heap.size W W'→I l W') (hB:∀l W,I l W→BkC W b ms mh l0 (heldL es) clock)
  (hcf:∀(x:Value) (W:World),Sem.run prog (callFunc f (#[x]++cb)) W=.ok (.enter f (#[x]++cb)) W)
  (hC:∀l e W,e∈es→I l W→l.length<es.length→Calls prog f (#[evv e]++cb) W fun r w'=>r=.returned (.bool true)∧I (l++[e]) w'∧(∀(g:Nat) (cs:Array Value) (fr:Nat×Nat),W.heap[g]?=some (Obj.cells cs 45 fr)→w'.heap[g]?=W.heap[g]?)) :
  Calls prog 163 #[Qp b,.func (.func f) #[] cb] w fun r w'=>r=.returned (.tuple #[])∧∃l,l.Perm es∧l.Pairwise Pl.EvBefore∧I l w':=by
 have hlt:=h.lt
 obtain⟨o,hrange,hit⟩:=it_range (T:=183) underlying183 h.held
 have hb1:=bn w o
 have HIT:=zA hit
 have HB:=zA hb1
 have HK:=zA (h.below hb1)
 have HK0:=zA h
 have HOK:=zA hok
 have HES:=zA hes
 have H0:=zA h0
 have HAA:=zA hA
 have HBB:=zA hB
 have HC:=zA hC
 have hq:∀w,(binOp BinOp.eql 111 (Qp b) (.pointer none)).run prog w=.ok (.bool false) w:=fun _=>rfl
 have c1:=cc 1 h.cells
 have hrange2:Sem.run prog (Instr.range 183 (.map (some mh))) w=.ok (Qp w.heap.size) (w.alloc o):=hrange
 clear h hlt hit hb1 hok hes h0 hA hB hC hrange
 go_enter func163,ntmps163
 go_wp2_with fail
 clear c1 hrange2
 generalize w.alloc o=W at *
 go_loopw [4,16] (fun u (_:Value) wr=>∃(done left:List ((Nat×Nat)×Value)),(done++left).Perm (heldL es)∧ItAt wr w.heap.size mh (heldL es) left∧OwnR kDot w.heap.size wr u (done.map (·.1))∧BkC wr b ms mh l0 (heldL es) clock∧Below w.heap.size w wr) (fun _ _ wr=>itLeft wr w.heap.size)
 case atStart=>exact⟨[],heldL es,by simp,HIT.out,yH _ _ _,HK.out,HB.out⟩
 case round=>
  obtain⟨done,left,qH,hit,rX,hk,hb⟩:=hrel
  have pL:=hit.left_eq
  rcases it_next hit 0 with⟨rfl,qD⟩ | ⟨pre,p,post,w1,o1,rfl,hw1,qD,hit2,hentry⟩
  ·have hkeys:(done.map (·.1)).Perm (es.map Pl.Ev.at):=by
    rw[List.append_nil]at qH
    rw[←tW]
    exact qH.map _
   have hnd:(es.map Pl.Ev.at).Nodup:=by rw[←tW];exact hit.len
   have HKEYS:=zA hkeys
   have HND:=zA hnd
   have qR:=zA rX
   have HK2:=zA hk
   have HB2:=zA hb
   clear qH hit rX hk hb pL hkeys hnd
   generalize done.map (·.1)=ds at *
   go_wp2_with fail
   have hdok:∀d∈ds,d.1<8∧d.2<98:=fun d hd=>by
    obtain⟨e,he,rfl⟩:=List.mem_map.1 (HKEYS.out.mem_iff.1 hd)
    obtain⟨n,s,hx⟩:=(HOK.out e he).dot
    rw[hx.key]
    exact⟨hx.n8,by have:=hx.s96;omega⟩
   have hdn:ds.Nodup:=HKEYS.out.nodup_iff.2 HND.out
   have hdl:ds.length=es.length:=by have:=HKEYS.out.length_eq;simpa using this
   have HSORT:=zA (dsort_any w.heap.size u4 ds wr qR.out hdok hdn (by rw[hdl];exact HES.out))
   clear hdok hdn hdl
   refine HSORT.out.mono ?_
   rintro x w6 ⟨rfl,ds',hp',hpw,hown',qZ⟩
   obtain⟨l,hl1,hl2⟩:=uX ds' es (hp'.trans HKEYS.out)
   have hbel:=qZ.since HB2.out (fun g hg=>(qR.out.lt g hg).1)
   have HI:=zA (H0.out w6 hbel)
   have HO:=zA hown'
   have HL1:=zA hl1
   have HL2:=zA hl2
   have HPW:=zA (show l.Pairwise Pl.EvBefore from by
    rw[←hl2]at hpw
    exact(List.pairwise_map (f:=Pl.Ev.at) (R:=Pl.Before)).1 hpw)
   have hlen:ds'.length=l.length:=by rw[←hl2];simp
   have qJ:=zA hlen
   have HLE:=zA (show l.length≤1000 by have:=hl1.length_eq;have:=HES.out;omega)
   obtain⟨ao,cap,rfl⟩:=hown'.toT.form
   clear hp' hpw hown' qZ hl1 hl2 hbel HSORT
   clear qR hlen
   rw[qJ.out]at HO ⊢
   go_wp2_with fail
   go_loopw [27] (fun i wr=>∃(k:Nat),k≤l.length∧i=.int .i64 k∧I (l.take k) wr∧OwnR kDot w.heap.size wr (.slice ao l.length cap) ds') (fun i _=>l.length - (intOf i).toNat)
   case atStart=>exact⟨0,by omega,rfl,HI.out,HO.out⟩
   case round=>
    obtain⟨k,hk,rfl,hI,ho⟩:=hrel
    by_cases hlt:k<l.length
    ·have qX:k<ds'.length:=by rw[qJ.out];exact hlt
     obtain⟨g,off,cap',hv,hg,hc⟩:=ho.toT.cell qX
     rw[qJ.out]at hv
     cases hv
     have hkd:ds'[k]=(l[k]).at:=by simp[←HL2.out]
     have pB:l[k]∈es:=HL1.out.mem_iff.1 (List.getElem_mem hlt)
     have c0:=hc 0 _ rfl
     have c1:=hc 1 _ rfl
     simp only[hkd,Nat.add_zero,show kDot.k=2 from rfl]at c0 c1
     have a1:(k:Int)+1≤9223372036854775807:=by have:=HLE.out;omega
     have b2:=bn wr (.cells (Qi (l[k]).at.1 (l[k]).at.2) 45)
     have rW:=heap_alloc_new wr (.cells (Qi (l[k]).at.1 (l[k]).at.2) 45)
     have hk2:=HBB.out _ _ (HAA.out _ _ _ hI b2)
     have hlook:=dm_look (T:=183) (E:=175) underlying183 (w:=(wr.alloc (.cells (Qi (l[k]).at.1 (l[k]).at.2) 45)).drew) (hk2.held.keep rfl) (l[k]).at (evv l[k]) (List.mem_map.2 ⟨_,pB,rfl⟩) false
     have HLOOK:=zA hlook
     have pG:=zA (HC.out (l.take k) l[k] _ pB (HAA.out _ _ _ hI b2.drew) (by rw[List.length_take];have:=HL1.out.length_eq;omega))
     have HTK:=zA (show l.take (k+1)=l.take k++[l[k]]from List.take_succ_eq_append_getElem hlt)
     have HO2:=zA (ho.below b2.drew)
     have qI:=zA rW
     have HK2:=zA hk2
     clear hc hkd pB b2 rW hk2 hlook hI ho hg qX
     generalize l[k]=ev at *
     generalize hn:ev.at.1=n at *
     generalize hs:ev.at.2=s at *
     have HNN:=zA hn
     have HSS:=zA hs
     clear hn hs
     go_wp2_with fail
     have e1:=cc 1 HK2.out.cells
     have e2:=cc 0 qI.out
     have e3:=cc 1 qI.out
     generalize hd:wr.heap.size=d at *
     generalize wr.alloc (.cells (Qi n s) 45)=W2 at *
     have hlk:Sem.run prog (Instr.lookup 183 (.map (some mh)) (.agg (Qi n s)) false) W2.drew=.ok (evv ev) W2.drew:=by
      have:=HLOOK.out
      unfold dkey at this
      rw[HNN.out,HSS.out]at this
      exact this
     refine zD (fun W'=>W'.cell? ⟨b,1,none⟩=some (.map (some mh))∧W'.cell? ⟨d,0,none⟩=some (.int .i64 n)∧W'.cell? ⟨d,1,none⟩=some (.int .i64 s)) 99 (by kernel_rfl) ⟨e1,e2,e3⟩ (fun rV=>?_)
     refine tk 0 31 rfl (by intro wS hSw;obtain⟨q0,q1,q2⟩:=id hSw;clear hSw;go_simp;(try with_reducible rfl)) ?_
     refine tk 1 32 rfl (by intro wS hSw;obtain⟨q0,q1,q2⟩:=id hSw;clear hSw;go_simp;(try with_reducible rfl)) ?_
     refine tk 2 33 rfl (by intro wS hSw;obtain⟨q0,q1,q2⟩:=id hSw;clear hSw;go_simp;(try with_reducible rfl)) ?_
     refine tk 3 34 rfl (by intro wS hSw;obtain⟨q0,q1,q2⟩:=id hSw;clear hSw;go_simp;(try with_reducible rfl)) ?_
     refine tk 4 35 rfl (by intro wS hSw;obtain⟨q0,q1,q2⟩:=id hSw;clear hSw;go_simp;(try with_reducible rfl)) ?_
     refine tk 5 36 rfl (by intro wS hSw;obtain⟨q0,q1,q2⟩:=id hSw;clear hSw;go_simp;(try with_reducible rfl)) ?_
     clear rV
     refine t1 6 rfl (fun K hK=>?_)
     go_simp
     refine hK.out _ _ (fun _=>⟨e1,e2,e3⟩) (fun _=>?_)
     clear hK K
     try simp only[zN]
     refine t1 7 rfl (fun K hK=>?_)
     go_simp
     refine pG.out.mono ?_
     rintro x w7 ⟨rfl,hI7,hk7⟩
     have HI7:=zA hI7
     have f1:=zF (j:=1) (HBB.out _ _ hI7).cells rfl
     have hd7:=(hk7 d _ _ qI.out).trans qI.out
     have f2:=cc 0 hd7
     have f3:=cc 1 hd7
     have HO7:=zA (HO2.out.keep (w':=w7) (fun g hg=>by
      obtain⟨cs,hcs⟩:=zK HO2.out hg
      exact hk7 g _ _ hcs))
     clear hI7 hk7 hd7 e1 e2 e3
     refine hK.out _ _ (fun _=>⟨f1,f2,f3⟩) (fun _=>?_)
     clear hK K
     try simp only[zN]
     refine t1 8 rfl (fun K hK=>?_)
     go_simp
     refine hK.out _ _ (fun _=>⟨f1,f2,f3⟩) (fun _=>?_)
     clear hK K
     try simp only[zN]
     refine wd ?_
     clear f1 f2 f3
     go_wp2_with fail
     exact⟨⟨k+1,by omega,rfl,by rw[HTK.out];exact HI7.out,HO7.out⟩,by simp[intOf];omega⟩
    ·obtain rfl:k=l.length:=by omega
     rw[List.take_length]at hI
     have HIE:=zA hI
     clear hI ho hlt hk
     go_wp2_with fail
     exact yD results163 ⟨rfl,l,HL1.out,HPW.out,HIE.out⟩
  ·have qT:w1.heap=wr.heap:=by rcases hw1 with rfl | rfl<;>rfl
   have hb1:Below w.heap.size w w1:=by
    rcases hw1 with rfl | rfl
    ·exact hb
    ·exact hb.drew
   obtain⟨⟨n,s⟩,pv⟩:=p
   have hb2:=xC hb1 (Nat.le_refl w.heap.size) o1
   have hiti:∃m a c d,wr.heap[w.heap.size]?=some (.mapIter m a c d):=by
    obtain⟨es',c',s1,s2,q1,q2,q3,_⟩:=hit
    exact⟨_,_,_,_,q3⟩
   have pI:OwnR kDot w.heap.size (setBlk w1 w.heap.size o1) u4 (done.map (·.1)):=rX.keep (fun g hg=>by
    rw[yC w1 _ o1 (fun e=>by
     obtain⟨cs,hcs⟩:=zK rX hg
     obtain⟨m,a,c,d,hi⟩:=hiti
     rw[e,hi]at hcs;cases hcs),qT])
   have hk2:BkC (setBlk w1 w.heap.size o1) b ms mh l0 (heldL es) clock:=hk.keep (fun g hg=>by
    rw[yC w1 _ o1 (fun e=>by
     have:=HK0.out.lt
     rcases hg with rfl | rfl | rfl<;>omega),qT])
   have hent:Sem.run prog (Instr.entry (Qp w.heap.size)) (setBlk w1 w.heap.size o1)=.ok (.tuple #[.agg (Qi n s),pv]) (setBlk w1 w.heap.size o1):=hentry _ rfl rfl
   have pU:Sem.run prog (Instr.next (Qp w.heap.size) false 0) wr=.ok (.tuple #[.bool true,.agg (Qi n s),pv]) (setBlk w1 w.heap.size o1):=qD
   have pJ:((done++[((n,s),pv)])++(pre++post)).Perm (heldL es):=by
    refine List.Perm.trans ?_ qH
    rw[List.append_assoc]
    refine List.Perm.append_left _ ?_
    exact(List.perm_middle (l₁:=pre) (a:=((n,s),pv)) (l₂:=post)).symm
   have hlen:done.length≤1000:=by
    have h1:=qH.length_eq
    have:(heldL es).length=es.length:=by unfold heldL;simp
    have:=HES.out
    simp at h1
    omega
   have b3:=(Below.refl (setBlk w1 w.heap.size o1).heap.size (setBlk w1 w.heap.size o1)).alloc (Nat.le_refl _) (.cells (Qi n s) 45)
   have b4:=b3.alloc b3.size (.cells (Qi n s) 45)
   have qG:=yJ kDot ((setBlk w1 w.heap.size o1).alloc (.cells (Qi n s) 45)) [(n,s)] (Qi n s) 1 rfl rfl
   rw[zE,wF,show w1.heap.size=wr.heap.size from by rw[qT]]at qG
   have qR:=zA (pI.below b4)
   have qC:=zA qG
   have HB4:=zA (hb2.trans (b4.mono hb2.size))
   have HK4:=zA (hk2.below b4)
   have HIT4:=zA (hit2.below b4)
   have HPERM:=zA pJ
   have HMEAS:=zA pL
   have qJ:=zA hlen
   have hsz1:(setBlk w1 w.heap.size o1).heap.size=wr.heap.size:=by rw[wF,qT]
   clear qH hit rX hk hb pL hb1 hb2 hiti pI hk2 qD hentry pJ hlen b3 b4 qG hit2 hw1
   go_wp2_with (
    at_builtin
    refine yT kDot rfl (.tmp 19) (.tmp 21) rfl rfl qR.out rfl qC.out (by have:=qJ.out;simp;omega) HB4.out HB4.out.size ?_
    intro v1 w5 hown1 hb1 hg0
    have rZ:=fun g hg=>zK qR.out (g:=g) hg
    have HV1:=zA hown1
    have HBV:=zA hb1
    have HKV:=zA (HK4.out.grown hg0 rZ (by decide))
    have HITV:=zA (HIT4.out.grown hg0 rZ)
    clear hown1 hb1 hg0 rZ)
   exact⟨⟨done++[((n,s),pv)],pre++post,HPERM.out,HITV.out,by simpa using HV1.out,HKV.out,HBV.out⟩,by rw[HITV.out.left_eq,HMEAS.out];simp⟩
def EsAt (base c:Nat) (l:List Pl.Ev) (w:World):Prop:=∃m,w.heap[c]?=some (.cells #[m] 97 (0,0))∧OwnR kEv base w m l
theorem EsAt.below {base c:Nat} {l:List Pl.Ev} {w w':World} (h:EsAt base c l w) (hb:Below w.heap.size w w'):EsAt base c l w':=by
 obtain⟨m,h1,h2⟩:=h
 exact⟨m,(hb.block c (gsi.1 h1).1).trans h1,h2.below hb⟩
def Kept (c:Nat) (w w':World):Prop:=∀(g:Nat) (x:Obj),w.heap[g]?=some x→g≠c→(∀cs fr,x≠.cells cs 175 fr)→w'.heap[g]?=w.heap[g]?
theorem Kept.of_below {c:Nat} {w w':World} (h:Below w.heap.size w w'):Kept c w w':=fun g x hg _ _=>h.block g (gsi.1 hg).1
theorem Kept.trans {c:Nat} {a b d:World} (h:Kept c a b) (k:Kept c b d):Kept c a d:=fun g x hg hc hx=>(k g x ((h g x hg hc hx).trans hg) hc hx).trans (h g x hg hc hx)
theorem Kept.bk {w w':World} {c b ms mh:Nat} {l l':List ((Nat×Nat)×Value)} {clock:Int} (k:Kept c w w') (h:BkC w b ms mh l l' clock) (hc:∀g,g=b∨g=ms∨g=mh→g≠c):BkC w' b ms mh l l' clock:=
 h.keep (fun g hg=>by
  have hne:=hc g hg
  rcases hg with rfl | rfl | rfl
  ·exact k _ _ h.cells hne (fun cs fr e=>by cases e)
  ·obtain⟨es,cl,h1,_⟩:=h.seen
   exact k _ _ h1 hne (fun cs fr e=>by cases e)
  ·obtain⟨es,cl,h1,_⟩:=h.held
   exact k _ _ h1 hne (fun cs fr e=>by cases e))
theorem bev1_ok (base c:Nat) (e:Pl.Ev) (l:List Pl.Ev) (w:World) (h:EsAt base c l w) (hc:base≤c) (hl:l.length≤1000) :
  Calls prog 164 #[evv e,Qp c] w fun r w'=>r=.returned (.bool true)∧EsAt base c (l++[e]) w'∧Below base w w'∧Kept c w w':=by
 obtain⟨m,hx,hm⟩:=h
 obtain⟨ao,cap,rfl⟩:=hm.toT.form
 have hcl:=(gsi.1 hx).1
 have b1:=bn w (.cells e 175)
 have hE:=heap_alloc_new w (.cells e 175)
 have hx1:=(b1.block c hcl).trans hx
 have hno:∀g,(Value.slice ao l.length cap).ownBlock=some g→g≠c∧g≠w.heap.size:=fun g hg=>⟨fun e=>by
  obtain⟨cs,hcs⟩:=zK hm hg
  rw[e,hx]at hcs;exact zI (by decide) hcs,by have:=(hm.lt g hg).2;omega⟩
 have HM:=zA (hm.below b1)
 have HB:=zA b1
 have HX:=zA hx1
 have HE:=zA hE
 have HNO:=zA hno
 have HC:=zA hc
 have HL:=zA hl
 have HM0:=zA hm
 have HX0:=zA hx
 clear hx hm hcl b1 hE hx1 hno hc hl
 go_enter func164,ntmps164
 go_wp2_with fail
 generalize (w.alloc (.cells e 175))=W at *
 have HXW:=zA (fun (W':World) (hW:Off (fun g=>(Value.slice ao l.length cap).ownBlock=some g) W W')=>(hW.same _ (gsi.1 HX.out).1 (fun e=>(HNO.out _ e).1 rfl)).trans HX.out)
 have HEW:=zA (fun (W':World) (hW:Off (fun g=>(Value.slice ao l.length cap).ownBlock=some g) W W')=>(hW.same _ (gsi.1 HE.out).1 (fun e=>(HNO.out _ e).2 rfl)).trans HE.out)
 refine zD (fun W'=>Off (fun g=>(Value.slice ao l.length cap).ownBlock=some g) W W') 5 (by kernel_rfl) ⟨Nat.le_refl _,fun _ _ _=>rfl,rfl,rfl,rfl⟩ (fun rV=>?_)
 refine tk 0 4 rfl (by intro wS hSw;have y:=HXW.out _ hSw;have d0:=cc 0 y;clear hSw;go_simp;(try with_reducible rfl)) ?_
 refine tk 1 5 rfl (by intro wS hSw;have y:=HEW.out _ hSw;have y0:=cc 0 y;have y1:=cc 1 y;have y2:=cc 2 y;have y3:=cc 3 y;have y4:=cc 4 y;have y5:=cc 5 y;have y6:=cc 6 y;have y7:=cc 7 y;have y8:=cc 8 y;have y9:=cc 9 y;have y10:=cc 10 y;have y11:=cc 11 y;have y12:=cc 12 y;have y13:=cc 13 y;clear hSw;go_simp;(try with_reducible rfl)) ?_
 refine t1 2 rfl (fun K hK=>?_)
 go_simp
 refine(rT e _).mono ?_
 rintro x w6 ⟨rfl,b6⟩
 have h6:=rV.trans (Off.of_below b6)
 have HH6:=zA h6
 have HO6:=zA ((HM.out.keep (w':=W.drew) (fun g hg=>rfl)).below b6)
 clear b6 rV h6
 refine hK.out _ _ (fun _=>HH6.out) (fun _=>?_)
 clear hK K
 try simp only[zN]
 refine t1 3 rfl (fun K hK=>?_)
 go_simp
 have b7:=bn w6 (.cells (eva e) 175)
 have HH7:=zA (HH6.out.trans (Off.of_below b7))
 have HO7:=zA (HO6.out.below b7)
 have qC:=zA (show RowC kEv (w6.alloc (.cells (eva e) 175)) (.slice (some ⟨w6.heap.size,0,none⟩) 1 1) [e]from yJ kEv w6 [e] (eva e) 1 rfl (by simp[Rk.encs,kEv]))
 clear b7
 refine hK.out _ _ (fun _=>HH7.out) (fun _=>?_)
 clear hK K
 try simp only[zN]
 generalize w6.alloc (.cells (eva e) 175)=w7 at *
 refine t1 4 rfl (fun K hK=>?_)
 rw[if_pos (by rfl)]
 have hb7:Below base w w7:=Below.trans (HB.out.mono (by have:=HM0.out;have:=HC.out;exact Nat.le_trans HC.out (Nat.le_of_lt (gsi.1 HX0.out).1))) ⟨HH7.out.rest.1,HH7.out.rest.2.1,HH7.out.rest.2.2,HH7.out.size,fun g hg=>HH7.out.same g (by have:=HB.out.size;have:=(gsi.1 HX0.out).1;have:=HC.out;omega) (fun e=>by have:=(HM0.out.lt g e).1;omega)⟩
 have qE:base≤w7.heap.size:=by
  have:=(gsi.1 HX0.out).1
  have:=HC.out
  have:=HB.out.size
  have:=HH7.out.size
  omega
 refine vD kEv rfl (.tmp 4) (.tmp 7) rfl rfl HO7.out rfl qC.out (by have:=HL.out;simp;omega) hb7 qE ?_
 intro v8 w8 hown8 hb8 hg8
 obtain⟨ao8,cap8,hv8⟩:=hown8.toT.form
 rw[List.length_append,List.length_singleton]at hv8
 subst hv8
 have hg9:World.grownBy w7 w8 (Value.slice ao l.length cap).ownBlock:=hg8
 have HH8:=zA (HH7.out.trans ⟨hg9.size,fun g hg hn=>hg9.block g hg (fun e=>hn e.symm),hg9.os,hg9.tape,hg9.output⟩)
 have HO8:=zA hown8
 have HB8:=zA hb8
 clear hb8 hg8 hg9 hown8 hb7 qE
 refine hK.out _ _ (fun _=>HH8.out) (fun _=>?_)
 clear hK K
 try simp only[zN]
 refine t1 5 rfl (fun K hK=>?_)
 have y8:=HXW.out w8 HH8.out
 have d0:=cc 0 y8
 have fz:=zB y8 0
 have HY8:=zA y8
 clear y8
 go_simp
 refine hK.out _ _ (fun h=>absurd rfl h) (fun _=>?_)
 clear hK K
 try simp only[zN]
 refine wd ?_
 have hx9:=zG (j:=0) HY8.out (.slice ao8 (l.length+1) cap8)
 have qY:=HO8.out.keep (w':=w8.setCell ⟨c,0,none⟩ (.slice ao8 (l.length+1) cap8)) (fun g hg=>Below.heap_setCell _ _ _ _ (fun e=>by
  obtain⟨cs,hcs⟩:=zK HO8.out hg
  rw[show g=c from e,HY8.out]at hcs;exact zI (by decide) hcs))
 have hb9:=zP HB8.out HC.out 0 (.slice ao8 (l.length+1) cap8)
 have hk9:Kept c w (w8.setCell ⟨c,0,none⟩ (.slice ao8 (l.length+1) cap8)):=fun g x hg hne hx=>by
  have hlt:=(gsi.1 hg).1
  refine(Below.heap_setCell _ _ _ _ hne).trans ((HH8.out.same g (Nat.lt_of_lt_of_le hlt HB.out.size) (fun e=>?_)).trans (HB.out.block g hlt))
  obtain⟨cs,hcs⟩:=zK HM0.out e
  rw[hg]at hcs;injection hcs with hcs;exact hx _ _ hcs
 have HX9:=zA (show(w8.setCell ⟨c,0,none⟩ (.slice ao8 (l.length+1) cap8)).heap[c]?=some (.cells #[.slice ao8 (l.length+1) cap8] 97 (0,0))from hx9.trans (by simp))
 have HO9:=zA qY
 have HB9:=zA hb9
 have HK9:=zA hk9
 clear hx9 qY hb9 hk9 d0 fz
 go_wp2_with fail
 go_ret
 exact⟨rfl,⟨_,HX9.out,HO9.out⟩,HB9.out,HK9.out⟩
theorem Kept.dots {w w':World} {c:Nat} (k:Kept c w w') (hc:∃m,w.heap[c]?=some (.cells #[m] 97 (0,0))):∀(g:Nat) (cs:Array Value) (fr:Nat×Nat),w.heap[g]?=some (Obj.cells cs 45 fr)→w'.heap[g]?=w.heap[g]?:=fun g cs fr hg=>k g _ hg (fun e=>by
  obtain⟨m,hm⟩:=hc
  rw[e,hm]at hg;exact zI (by decide) hg) (fun cs' fr' e=>by injection e with _ e2;exact absurd e2 (by decide))
theorem bevents_ok (b ms mh:Nat) (l0:List ((Nat×Nat)×Value)) (es:List Pl.Ev) (clock:Int) (w:World) (h:BkC w b ms mh l0 (heldL es) clock) (hes:es.length≤1000) (hok:∀e∈es,e.Ok) :
  Calls prog 96 #[Qp b] w fun r w'=>∃v l,r=.returned v∧l.Perm es∧l.Pairwise Pl.EvBefore∧OwnR kEv w.heap.size w' v l∧Below w.heap.size w w':=by
 have b1:=bn w (.cells #[.slice none 0 0] 97)
 have hx:=heap_alloc_new w (.cells #[.slice none 0 0] 97)
 have hlt:=h.lt
 have HWALK:=zA (sC b ms mh 164 #[Qp w.heap.size] l0 es clock (fun l W=>EsAt w.heap.size w.heap.size l W∧BkC W b ms mh l0 (heldL es) clock∧Below w.heap.size w W) (w.alloc (.cells #[.slice none 0 0] 97)) (h.below b1) hes hok
  (fun W hW=>⟨⟨_,(hW.block _ (gsi.1 hx).1).trans hx,yH _ _ _⟩,(h.below b1).below hW,b1.trans (hW.mono b1.size)⟩)
  (fun l W W' hI hb=>⟨hI.1.below hb,hI.2.1.below hb,hI.2.2.trans (hb.mono hI.2.2.size)⟩)
  (fun l W hI=>hI.2.1) (fun x W=>by kernel_rfl)
  (fun l e W he hI hl=>(bev1_ok w.heap.size w.heap.size e l W hI.1 (Nat.le_refl _) (by omega)).mono (by
   rintro r w' ⟨rfl,i1,i2,i3⟩
   refine⟨rfl,⟨i1,i3.bk hI.2.1 (fun g hg=>by rcases hg with rfl | rfl | rfl<;>omega),hI.2.2.trans i2⟩,i3.dots ?_⟩
   obtain⟨m,hm,_⟩:=hI.1
   exact⟨m,hm⟩)))
 clear b1 hx hlt h hok
 go_enter func96,ntmps96
 go_wp2_with fail
 refine HWALK.out.mono ?_
 rintro x w1 ⟨rfl,l,hp,hpw,⟨m,hm,rX⟩,hk,hb⟩
 obtain⟨ao,cap,rfl⟩:=rX.toT.form
 have c0:=cc 0 hm
 have fz:=zB hm 0
 have HM:=zA hm
 have HO:=zA rX
 have HB:=zA hb
 have HP:=zA hp
 have HPW:=zA hpw
 clear hm rX hb hp hpw hk HWALK
 go_wp2_with fail
 rw[zL HM.out (j:=0) (v:=.slice ao l.length cap) rfl]
 exact bodyPost_ret (v:=.slice ao l.length cap) (by simp[results,results96,go_sem,c0]) rfl ⟨_,l,rfl,HP.out,HPW.out,HO.out,HB.out⟩
theorem beach_cb (v:Value) (f:Nat) (cb:Array Value) (ds:List (Nat×Nat)) (I:Nat→World→Prop) (w:World) (h0:I 0 w) (hl:ds.length≤1000000000) (hD:∀k W,I k W→DotsC W v ds) (hA:∀k W W',I k W→Below W.heap.size W W'→I k W')
  (hcf:∀(x:Value) (W:World),Sem.run prog (callFunc f (#[x]++cb)) W=.ok (.enter f (#[x]++cb)) W)
  (hC:∀k (hk:k<ds.length) W,I k W→Calls prog f (#[.agg (Qi (ds[k]).1 (ds[k]).2)]++cb) W fun e w'=>e=.returned (.tuple #[])∧I (k+1) w') :
  Calls prog 279 #[v,.func (.func f) #[] cb] w fun e w'=>e=.returned (.tuple #[])∧I ds.length w':=by
 obtain⟨ao,cap,hv,_⟩:=hD 0 w h0
 have HD:=zA hD
 have HA:=zA hA
 have HC:=zA hC
 have HI:=zA h0
 subst hv
 clear hD hA hC h0
 go_enter func279,ntmps279
 go_wp2_with fail
 go_loopw [8] (fun i wr=>∃(k:Nat),k≤ds.length∧i=.int .i64 k∧I k wr) (fun i _=>ds.length - (intOf i).toNat)
 case atStart=>exact⟨0,by omega,rfl,HI.out⟩
 case round=>
  obtain⟨k,hk,rfl,hI⟩:=hrel
  by_cases hlt:k<ds.length
  ·obtain⟨ao',cap',hv,_,h3⟩:=HD.out k wr hI
   cases hv
   obtain⟨g,off,rfl,hg,c0,c1⟩:=h3 k hlt
   have HI2:=zA (HC.out k hlt _ (HA.out k wr (wr.alloc (.cells (Qi (ds[k]).1 (ds[k]).2) 45)) hI (bn _ _)))
   clear h3 hI HI
   generalize ((ds[k]).1:Int)=n at *
   generalize ((ds[k]).2:Int)=s at *
   go_wp2_with fail
   refine HI2.out.mono ?_
   rintro e w5 ⟨rfl,I5⟩
   have HI5:=zA I5
   clear I5 HI2
   go_wp2_with fail
   exact⟨⟨k+1,by omega,rfl,HI5.out⟩,by simp[intOf];omega⟩
  ·obtain rfl:k=ds.length:=by omega
   have HI2:=zA hI
   clear hI HI hlt
   go_wp2_with fail
   exact yD results279 ⟨rfl,HI2.out⟩
def KnAt (k km:Nat) (L:List (Nat×Nat)) (w:World):Prop:=w.heap[k]?=some (.cells #[.map (some km)] 182 (0,0))∧DmAt w km (L.map (fun d=>(d,.bool true)))
theorem KnAt.below {k km:Nat} {L:List (Nat×Nat)} {w w':World} (h:KnAt k km L w) (hb:Below w.heap.size w w'):KnAt k km L w':=
 ⟨(hb.block k (gsi.1 h.1).1).trans h.1,h.2.below hb⟩
theorem known1_ok (k km n s:Nat) (L:List (Nat×Nat)) (w:World) (h:KnAt k km L w) (hn:(n,s)∉L) :
  Calls prog 280 #[.agg (Qi n s),Qp k] w fun r w'=>r=.returned (.tuple #[])∧KnAt k km (L++[(n,s)]) w'∧Off (· = km) w w':=by
 have b1:=bn w (.cells (Qi n s) 45)
 have hk:=h.below b1
 have hmiss:∀p∈L.map (fun d=>(d,Value.bool true)),p.1≠(n,s):=fun p hp e=>by
  obtain⟨d,hd,rfl⟩:=List.mem_map.1 hp
  exact hn (e ▸ hd)
 obtain⟨o,qD,hdm⟩:=dm_put (T:=182) underlying182 hk.2 (n,s) hmiss (.bool true)
 have pU:Sem.run prog (Instr.mapUpdate 182 (.map (some km)) (.agg (Qi n s)) (.bool true)) (w.alloc (.cells (Qi n s) 45))=.ok () (setBlk (w.alloc (.cells (Qi n s) 45)) km o):=qD
 have c0:=cc 0 hk.1
 have HK:=zA (show KnAt k km (L++[(n,s)]) (setBlk (w.alloc (.cells (Qi n s) 45)) km o)from⟨(yC _ km o (hk.2.cells_ne hk.1)).trans hk.1,by rw[List.map_append];exact hdm⟩)
 have HO:=zA ((Off.of_below (F:=(· = km)) b1).setBlk (b:=km) (.inl rfl) o)
 clear b1 hk hmiss qD hdm h hn
 go_enter func280,ntmps280
 go_wp2_with fail
 exact yD results280 ⟨rfl,HK.out,HO.out⟩
end
end Go.Proofs.YtodlmbfbfaofcaaGreat
