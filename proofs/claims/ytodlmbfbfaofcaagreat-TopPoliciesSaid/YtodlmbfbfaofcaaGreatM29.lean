/- TopPolicies, part 29. -/
import Derived.Test.YtodlmbfbfaofcaaGreatM01
import Derived.Test.YtodlmbfbfaofcaaGreatM02
import Derived.Test.YtodlmbfbfaofcaaGreatM04
import Derived.Test.YtodlmbfbfaofcaaGreatM08
import Derived.Test.YtodlmbfbfaofcaaGreatM28
open Go.Proofs.Tryz
namespace Go.Proofs.YtodlmbfbfaofcaaGreat
set_option linter.unusedVariables false
set_option linter.unusedSimpArgs false
set_option maxRecDepth 100000
set_option maxHeartbeats 4000000
section
open Go.RowKit Rw Rh
theorem GoAt.calm {w w':World} {g o b ms mh n mtu:Nat} {S:List (Nat×Nat)} {es:List Pl.Ev} {clock:Int} (h:GoAt w g o b ms mh n mtu S es clock) (ho:Off (fun x=>x=b∨x=ms∨x=mh) w w') {k:Nat} {cs:Array Value} {t:TypeId} {fr:Nat×Nat} (hk:w.heap[k]?=some (.cells cs t fr)) (ht:t≠185):w'.heap[k]?=w.heap[k]?:=
 ho.same k (gsi.1 hk).1 (fun e=>by
  rcases e with rfl | rfl | rfl
  ·rw[h.bk.cells]at hk;exact zH (Ne.symm ht) hk
  ·exact h.bk.seen.cells_ne hk rfl
  ·exact h.bk.held.cells_ne hk rfl)
theorem GoAt.off1 {w w':World} {g o b ms mh n mtu:Nat} {S:List (Nat×Nat)} {es:List Pl.Ev} {clock:Int} (h:GoAt w g o b ms mh n mtu S es clock) {Y:Nat} {cs:Array Value} {t:TypeId} {fr:Nat×Nat} (hY:w.heap[Y]?=some (.cells cs t fr)) (ht:t≠185∧t≠218∧t≠45) (ho:Off (fun x=>x=Y) w w'):GoAt w' g o b ms mh n mtu S es clock:=
 ⟨(ho.same g (gsi.1 h.gs).1 (fun e=>by have h1:=h.gs;rw[show g=Y from e,hY]at h1;exact zH ht.2.1 h1)).trans h.gs,h.bk.keep (fun k hk=>by
  refine ho.same k ?_ (fun e=>?_)
  ·obtain⟨h1,h2,h3⟩:=h.bk.lt
   rcases hk with rfl | rfl | rfl<;>assumption
  ·have e':k=Y:=e
   rcases hk with rfl | rfl | rfl
   ·have h1:=h.bk.cells;rw[e',hY]at h1;exact zH ht.1 h1
   ·exact h.bk.seen.cells_ne hY e'.symm
   ·exact h.bk.held.cells_ne hY e'.symm),h.ok,fun e he=>(h.is e he).keep (fun k cs' fr' hk=>ho.same k (gsi.1 hk).1 (fun e=>by rw[show k=Y from e,hY]at hk;exact zH ht.2.2 hk)),h.may,h.len,h.n8⟩
def gotS (S:List (Nat×Nat)) (l:List Pl.Ev):List (Nat×Nat):=l.foldl addS S
def gotE (es l:List Pl.Ev):List Pl.Ev:=l.foldl (fun a e=>outE (e.at::e.rm) a++[e]) es
theorem gotS_snoc (S:List (Nat×Nat)) (l:List Pl.Ev) (e:Pl.Ev):gotS S (l++[e])=addS (gotS S l) e:=by unfold gotS;simp
theorem gotE_snoc (es l:List Pl.Ev) (e:Pl.Ev):gotE es (l++[e])=outE (e.at::e.rm) (gotE es l)++[e]:=by unfold gotE;simp
theorem mem_addDs {l:List (Nat×Nat)}:∀{S:List (Nat×Nat)} {x:Nat×Nat},x∈l.foldl addD S↔x∈S∨x∈l:=by
 induction l with
 | nil=>intro S x;simp
 | cons d l ih=>intro S x;rw[List.foldl_cons,ih,mem_addD,List.mem_cons,or_assoc]
theorem vC {S:List (Nat×Nat)} {e:Pl.Ev} {x:Nat×Nat}:x∈addS S e↔x∈S∨x=e.at∨x∈e.rm:=by
 unfold addS;rw[mem_addDs,mem_addD,or_assoc]
theorem tZ {l:List Pl.Ev}:∀{S:List (Nat×Nat)} {x:Nat×Nat},x∈gotS S l↔x∈S∨∃e∈l,x=e.at∨x∈e.rm:=by
 induction l with
 | nil=>intro S x;simp[gotS]
 | cons d l ih=>
  intro S x
  rw[show gotS S (d::l)=gotS (addS S d) l from rfl,ih,vC]
  simp[or_assoc]
theorem outE_abs {ds:List (Nat×Nat)} {a' a:List Pl.Ev} (h:a'.map Pl.Ev.abs=a.map Pl.Ev.abs):(outE ds a').map Pl.Ev.abs=(outE ds a).map Pl.Ev.abs:=by
 have hk:∀l:List Pl.Ev,(outE ds l).map Pl.Ev.abs=(l.map Pl.Ev.abs).filter (fun x=>decide (x.at∉ds)):=fun l=>by
  unfold outE
  rw[List.filter_map]
  rfl
 rw[hk,hk,h]
theorem uI (ds:List (Nat×Nat)) (a:List Pl.Ev):(outE ds a).length≤a.length:=List.length_filter_le _ _
theorem addE_abs {a' a:List Pl.Ev} {e e':Pl.Ev} (h:a'.map Pl.Ev.abs=a.map Pl.Ev.abs) (he:e'.abs=e.abs):(addE a' e e').map Pl.Ev.abs=(outE (e.at::e.rm) a++[e]).map Pl.Ev.abs:=by
 unfold addE
 rw[List.map_append,List.map_append,outE_abs h]
 simp[he]
def Fresh (S:List (Nat×Nat)) (l:List Pl.Ev):Prop:=(∀e∈l,e.at∉S)∧l.Pairwise (fun e e'=>e'.at≠e.at∧e'.at∉e.rm)
theorem Fresh.at {S:List (Nat×Nat)} {l:List Pl.Ev} (h:Fresh S l) {k:Nat} (hk:k<l.length):(l[k]).at∉gotS S (l.take k):=fun hm=>by
 rcases tZ.1 hm with h1 | ⟨e,he,h1⟩
 ·exact h.1 _ (List.getElem_mem hk) h1
 ·obtain⟨j,hj,rfl⟩:=List.mem_iff_getElem.1 he
  rw[List.length_take]at hj
  rw[List.getElem_take]at h1
  have h2:=List.pairwise_iff_getElem.1 h.2 j k lD hk lD
  rcases h1 with h1 | h1
  ·exact h2.1 h1
  ·exact h2.2 h1
theorem given_ok (g o b ms mh n mtu:Nat) (a:Nat) (ao:Option Addr) (cap:Nat) (new:List Pl.Ev) (S:List (Nat×Nat)) (es:List Pl.Ev) (clock:Int) (w:World) (h:GoAt w g o b ms mh n mtu S es clock) (hr:RowT kEv w (.slice ao new.length cap) new) (hri:∀e∈new,Is w e) (hok:∀e∈new,e.Ok) (hlen:es.length+new.length<768) (pP:Fresh S new) :
  Calls prog 122 #[Qp g,.agg (Qtk 5 (a:Int) (n:Int) (.slice ao new.length cap))] w fun r w'=>∃(x:Option Addr) (nv cv:Nat) (cl:Int) (er:List Pl.Ev),r=.returned (.agg #[.slice none 0 0,.slice x nv cv])∧Same er (gotE es new)∧GoAt w' g o b ms mh n mtu (gotS S new) er cl∧Off (fun x=>x=b∨x=ms∨x=mh) w w':=by
 obtain⟨hx,hy,b1⟩:=zU w (.cells (Qtk 5 (a:Int) (n:Int) (.slice ao new.length cap)) 115) (.cells #[.slice none 0 0,.slice none 0 0] 223)
 have HX:=zA hx
 have HY:=zA hy
 have HB:=zA b1
 have HG:=zA h
 have HG1:=zA (h.below b1)
 have HR:=zA hr
 have HRI:=zA hri
 have HN:=zA (And.intro hok (And.intro hlen pP))
 have HLT:=zA h.bk.lt
 have x7:=cc 14 hx
 clear hx hy b1 h hr hri hok hlen pP
 go_enter func122,ntmps122
 go_wp2_with fail
 clear x7
 have HOW:=zA (Off.of_below (F:=(fun x=>x=b∨x=ms∨x=mh)) HB.out)
 generalize (w.alloc (.cells (Qtk 5 (a:Int) (n:Int) (.slice ao new.length cap)) 115)).alloc (.cells #[.slice none 0 0,.slice none 0 0] 223)=W at *
 go_loopw [10] (fun i wr=>∃(k:Nat) (aon:Option Addr) (capn:Nat) (cl:Int) (er nr:List Pl.Ev),k≤new.length∧i=.int .i64 k∧Same er (gotE es (new.take k))∧er.length≤es.length+k∧nr.length=k∧GoAt wr g o b ms mh n mtu (gotS S (new.take k)) er cl∧wr.heap[w.heap.size+1]?=some (.cells #[.slice none 0 0,.slice aon k capn] 223 (0,0))∧OwnR kEv (w.heap.size+2) wr (.slice aon k capn) nr∧Off (fun x=>x=b∨x=ms∨x=mh) w wr) (fun i _=>new.length - (intOf i).toNat)
 case atStart=>exact⟨0,none,0,clock,es,[],by omega,rfl,rfl,by omega,rfl,HG1.out,HY.out,yJ _ _ _,HOW.out⟩
 case round=>
  obtain⟨k,aon,capn,cl,er,nr,hk,rfl,hab,hle,hnl,hg,hy,qC,ho⟩:=hrel
  by_cases hlt:k<new.length
  ·obtain⟨ge,off,cap',e1,hge,c0,c1,c2,c3,c4,c5,c6,c7,c8,c9,c10,c11,c12,c13⟩:=xS (HR.out.keep (fun k' cs fr hk'=>HG.out.calm ho hk' lF)).toC hlt
   cases e1
   have a1:(k:Int)+1≤9223372036854775807:=by have:=HN.out.2.1;omega
   have b2:=bn wr (.cells (new[k]) 175)
   have HTK:=zA (List.take_succ_eq_append_getElem hlt)
   have HLK:=zA hnl
   have HAB:=zA hab
   have HLE:=zA hle
   have HIV:=zA (((HRI.out _ (List.getElem_mem hlt)).keep (fun k' cs fr hk'=>HG.out.calm ho hk' lF)).below b2)
   have HOL:=zA (fun g hg=>(qC.lt g hg).2)
   have HEO:=zA (HN.out.1 new[k] (List.getElem_mem hlt))
   have hdot:=HN.out.2.2.at hlt
   have HDOT:=zA hdot
   have qK:=heap_alloc_new wr (.cells (new[k]) 175)
   have HG2:=zA (hg.below b2)
   have HY2:=zA (zC hy b2)
   have HO2:=zA (qC.below b2)
   have HOF:=zA (ho.trans (Off.of_below b2))
   have HSZ:=zA (show w.heap.size+2≤wr.heap.size from(gsi.1 hy).1)
   have HKL:=zA hlt
   clear b2 hg hy qC ho hdot hk hab hle hnl
   generalize new[k]=ev at *
   have qP:=zA qK
   clear qK
   go_wp2_with (refine zJ rfl 175 (.tmp 6) (.tmp 13) Qen ev rfl rfl _ rfl rfl rfl lE rfl lE rfl ?_)
   clear c0 c1 c2 c3 c4 c5 c6 c7 c8 c9 c10 c11 c12 c13 hlt
   generalize wr.alloc (.cells ev 175)=W4 at *
   have HGS:=zA HG2.out.gs
   refine zD (fun W'=>W'.heap[g]?=some (.cells #[.int .i64 n,.int .i64 mtu,Qp o,Qp b] 218 (0,0))∧W'.heap[wr.heap.size]?=some (.cells ev 175 (0,0))) 99 lE ⟨HGS.out,qP.out⟩ (fun qB=>?_)
   refine tkp 0 14 rfl ?_
   refine tkp 1 15 rfl ?_
   refine tkp 2 16 rfl ?_
   refine tk 3 17 rfl (by intro wS hSw;obtain⟨x,y⟩:=id hSw;have q3:=cc 3 x;clear hSw;go_simp;(try with_reducible rfl)) ?_
   refine tl 4 18 rfl 175 (.tmp 6) wr.heap.size rfl rfl (fun wS hSw=>hSw.2) underlying175 ?_
   refine t1 5 rfl (fun K hK=>?_)
   go_simp
   refine(badd_ok b ms mh (gotS S (new.take k)) er cl ev W4.drew (HG2.out.below (Below.refl _ _).drew).bk HEO.out (HIV.out.below (Below.refl _ _).drew) HDOT.out).mono ?_
   rintro r w5 ⟨rfl,⟨e',heab,hie,hbk⟩,hof⟩
   have hk5:∀(k:Nat) (cs:Array Value) (t:TypeId) (fr:Nat×Nat),W4.heap[k]?=some (.cells cs t fr)→t≠185→w5.heap[k]?=W4.heap[k]?:=fun k cs t fr hk ht=>(HG2.out.below (Below.refl _ _).drew).calm hof hk ht
   have hd5:∀(g:Nat) (cs:Array Value) (fr:Nat×Nat),W4.drew.heap[g]?=some (.cells cs 45 fr)→w5.heap[g]?=W4.drew.heap[g]?:=fun k cs fr hk=>(HG2.out.below (Below.refl _ _).drew).calm hof hk lF
   have HG5:=zA (show GoAt w5 g o b ms mh n mtu (addS (gotS S (new.take k)) ev) (addE er ev e') (max cl ev.time)from⟨(hk5 g _ _ _ HG2.out.gs lF).trans HG2.out.gs,hbk,fun e he=>by
    rcases List.mem_append.1 he with h | h
    ·exact HG2.out.ok e (List.mem_filter.1 h).1
    ·cases List.mem_singleton.1 h;exact hie.ok heab HEO.out,fun e he=>by
    rcases List.mem_append.1 he with h | h
    ·exact((HG2.out.is e (List.mem_filter.1 h).1).below (Below.refl _ _).drew).keep hd5
    ·cases List.mem_singleton.1 h;exact hie,fun d hd=>by
    obtain⟨n1,s1,hdt,hnm⟩:=HEO.out.dot
    rcases vC.1 hd with h | h | h
    ·exact HG2.out.may d h
    ·rw[h,hdt.key];exact⟨hdt.n8,hdt.s1,hdt.s96⟩
    ·exact⟨(hnm.may d h).1,(hnm.may d h).2.1,(hnm.may d h).2.2.1⟩,by unfold addE;have h1:=HN.out.2.1;have h2:=HLE.out;have h3:=HKL.out;have h4:=uI (ev.at::ev.rm) er;rw[List.length_append];simp only[List.length_cons,List.length_nil];omega,HG2.out.n8⟩)
   have HAB5:=zA (show Same (addE er ev e') (outE (ev.at::ev.rm) (gotE es (new.take k))++[ev])from addE_abs (e:=ev) HAB.out heab)
   have HLE5:=zA (show(addE er ev e').length≤es.length+(k+1) by unfold addE;have h2:=HLE.out;have h4:=uI (ev.at::ev.rm) er;rw[List.length_append];simp only[List.length_cons,List.length_nil];omega)
   have HIV5:=zA ((HIV.out.below (Below.refl _ _).drew).keep hd5)
   have HY5:=zA ((hk5 _ _ _ _ HY2.out lF).trans HY2.out)
   have HN5:=zA ((hk5 _ _ _ _ qP.out lF).trans qP.out)
   have HO5:=zA (HO2.out.keep (w':=w5) (fun g hg=>by obtain⟨cs,hcs⟩:=zK HO2.out hg;exact hk5 g cs 175 _ hcs lF))
   have HOF5:=zA (HOF.out.trans ((Off.of_below (Below.refl W4.heap.size W4).drew).trans hof))
   have HSZ5:=zA (show wr.heap.size+1≤w5.heap.size from Nat.le_trans (gsi.1 qP.out).1 hof.size)
   clear hbk hof hk5 hd5 heab hie HG2 HY2 qP HO2 HOF qB HIV HAB HLE
   generalize addE er ev e'=er' at *
   refine hK.out _ _ (fun _=>⟨HG5.out.gs,HN5.out⟩) (fun _=>?_)
   clear hK K
   try simp only[pt,List.set]
   have qB:=And.intro HG5.out.gs HN5.out
   refine tkp 6 20 rfl ?_
   refine wd ?_
   clear qB HDOT
   have y13:=cc 13 HN5.out
   go_wp2_with fail
   clear y13
   refine(uX ev w5 (by obtain⟨n1,s1,_,hN⟩:=HEO.out.dot;exact hN.len) HIV5.out).mono ?_
   rintro r w6 ⟨ro,rc,rfl,hi6,hb6⟩
   have hn6:=zC HN5.out hb6
   have z13:=zB hn6 13
   have y13:=cc 13 hn6
   have hn7:=zF (j:=13) hn6 (.slice ro ev.rm.length rc)
   rw[wL]at hn7
   have ho7:Off (fun x=>x=wr.heap.size) w6 (w6.setCell ⟨wr.heap.size,13,none⟩ (.slice ro ev.rm.length rc)):=(Off.refl (fun x=>x=wr.heap.size) w6).set (a:=⟨wr.heap.size,13,none⟩) (.inl rfl) _
   have HG7:=zA ((HG5.out.below hb6).off1 hn6 lF ho7)
   have HY7:=zA ((ho7.same _ (gsi.1 (zC HY5.out hb6)).1 (fun e=>by have:=HSZ.out;have e':w.heap.size+1=wr.heap.size:=e;omega)).trans (zC HY5.out hb6))
   have HO7:=zA ((HO5.out.below hb6).keep (fun g hg=>ho7.same g (Nat.lt_of_lt_of_le (HO5.out.lt g hg).2 hb6.size) (fun e=>by have:=HOL.out g hg;have e':g=wr.heap.size:=e;omega)))
   have HOF7:=zA ((HOF5.out.trans (Off.of_below hb6)).set (a:=⟨wr.heap.size,13,none⟩) (.inr (by have:=HSZ.out;show w.heap.size≤wr.heap.size;omega)) (.slice ro ev.rm.length rc))
   have HSZ7:=zA (show wr.heap.size+1≤(w6.setCell ⟨wr.heap.size,13,none⟩ (.slice ro ev.rm.length rc)).heap.size from Nat.le_trans (Nat.le_trans HSZ5.out hb6.size) ho7.size)
   have HN7:=zA hn7
   clear hi6 hb6 hn6 hn7 ho7 HG5 HY5 HN5 HO5 HOF5 HSZ5 HIV5
   generalize ev.mv ro rc=ex at *
   generalize hw7:w6.setCell ⟨wr.heap.size,13,none⟩ (.slice ro ev.rm.length rc)=w7 at *
   have b8:=bn w7 (.cells (eva ex) 175)
   have HG8:=zA (HG7.out.below b8)
   have HY8:=zA (zC HY7.out b8)
   have HN8:=zA (zC HN7.out b8)
   have HO8:=zA (HO7.out.below b8)
   have HOF8:=zA (HOF7.out.trans (Off.of_below b8))
   have HSZ8:=zA (show w.heap.size+2≤(w7.alloc (.cells (eva ex) 175)).heap.size from by have:=HSZ7.out;have:=HSZ.out;have:=b8.size;omega)
   have qI:=zA (yK kEv w7 [ex] (eva ex) 1 rfl (by simp[Rk.encs,kEv]))
   have yy:=cc 1 HY7.out
   have HL1:=zA (show nr.length+[ex].length≤1000000 by have h1:[ex].length=1:=rfl;have:=HN.out.2.1;have:=HKL.out;rw[h1,HLK.out];omega)
   clear b8
   go_wp2_with (first
    | refine zI rfl 175 (.tmp 6) wr.heap.size ex 175 (0,0) _ rfl rfl HN7.out underlying175 rfl lE ?_
    | (at_builtin
       refine yU kEv rfl (.tmp 26) (.tmp 28) rfl rfl HO8.out rfl qI.out HL1.out (Below.refl (w.heap.size+2) _) HSZ8.out ?_
       intro v9 w9 pG hb9 hg9
       obtain⟨aon9,capn9,hv9⟩:∃x y,v9=.slice x (k+1) y:=by
        obtain⟨x,y,e⟩:=pG.toT.form
        exact⟨x,y,by rw[e,List.length_append,HLK.out];rfl⟩
       subst hv9
       have qD:∀(g:Nat),(Value.slice aon k capn).ownBlock=some g→_:=fun g hg=>zK HO8.out hg
       have HG9:=zA (show GoAt w9 g o b ms mh n mtu (addS (gotS S (new.take k)) ev) er' (max cl ev.time)from⟨wT hg9 qD HG8.out.gs lF,HG8.out.bk.grown hg9 qD lF,HG8.out.ok,fun e he=>(HG8.out.is e he).keep (fun g cs fr hg=>(yT hg9 qD hg lF).trans hg.symm),HG8.out.may,HG8.out.len,HG8.out.n8⟩)
       have HY9:=zA (wT hg9 qD HY8.out lF)
       have HO9:=zA pG
       have HOF9:=zA (show Off (fun x=>x=b∨x=ms∨x=mh) w w9 from⟨Nat.le_trans HOF8.out.size hg9.size,fun g hg hn=>(hb9.block g lD).trans (HOF8.out.same g hg hn),⟨hg9.os.trans HOF8.out.rest.1,hg9.tape.trans HOF8.out.rest.2.1,hg9.output.trans HOF8.out.rest.2.2⟩⟩)
       have n1:=cc 1 HY9.out
       have fn1:=zB HY9.out 1
       clear pG hb9 hg9 qD))
   have hoz:Off (fun x=>x=w.heap.size+1) w9 (w9.setCell ⟨w.heap.size+1,1,none⟩ (.slice aon9 (k+1) capn9)):=(Off.refl (fun x=>x=w.heap.size+1) w9).set (a:=⟨w.heap.size+1,1,none⟩) (.inl rfl) _
   exact⟨⟨k+1,aon9,capn9,max cl ev.time,er',nr++[ex],HKL.out,rfl,by rw[HTK.out,gotE_snoc];exact HAB5.out,HLE5.out,by rw[List.length_append,HLK.out];rfl,by rw[HTK.out,gotS_snoc];exact HG9.out.off1 HY9.out lF hoz,by have h:=zF (j:=1) HY9.out (.slice aon9 (k+1) capn9);simpa using h,HO9.out.keep (fun g hg=>hoz.same g (HO9.out.lt g hg).2 (fun e=>by have:=(HO9.out.lt g hg).1;have e':g=w.heap.size+1:=e;omega)),HOF9.out.set (.inr (Nat.le_succ _)) _⟩,by simp[intOf];have:=HKL.out;omega⟩
  ·obtain rfl:k=new.length:=by omega
   rw[List.take_length]at hg hab
   have HGF:=zA hg
   have HABF:=zA hab
   have HYF:=zA hy
   have HOF:=zA ho
   clear hg hy qC ho hlt hk hab hle hnl
   have hoz:Off (fun x=>x=w.heap.size+1) wr (wr.setRow (w.heap.size+1) #[.slice none 0 0,.slice aon new.length capn]):=(Off.refl (fun x=>x=w.heap.size+1) wr).setRow (w.heap.size+1) (.inl rfl) _
   have HGZ:=zA (HGF.out.off1 HYF.out lF hoz)
   have HOZ:=zA (HOF.out.setRow (w.heap.size+1) (.inr (Nat.le_succ _)) #[.slice none 0 0,.slice aon new.length capn])
   have HYZ:=zA (yL HYF.out #[.slice none 0 0,.slice aon new.length capn])
   clear hoz
   go_wp2_with (first
    | refine zI rfl 223 (.tmp 4) (w.heap.size+1) #[.slice none 0 0,.slice aon new.length capn] 223 (0,0) _ rfl rfl HYF.out underlying223 rfl lE ?_
    | refine zR rfl 223 (.tmp 4) (.tmp 32) (w.heap.size+1) #[.slice none 0 0,.slice aon new.length capn] #[.slice none 0 0,.slice aon new.length capn] 223 rfl rfl rfl rfl HYF.out lE rfl lE ?_)
   generalize wr.setRow (w.heap.size+1) #[.slice none 0 0,.slice aon new.length capn]=wz at *
   have m0:=cc 0 HYZ.out
   have m1:=cc 1 HYZ.out
   exact bodyPost_ret (v:=.agg #[.slice none 0 0,.slice aon new.length capn]) (by simp[results,results122,go_sem,m0,m1]) rfl ⟨_,_,_,_,er,rfl,HABF.out,HGZ.out,HOZ.out⟩
theorem wD {T V:TypeId} (hT:prog.underlying T=some (.map 3 V)) {w:World} {b k:Nat} {es:Array MapEntry} (h:w.heap[b]?=some (.map es k)) (n:Int) (v:Value) (hf:(Instr.findKey 3 (.int .i64 n) es.toList).run prog w=.ok none w) :
  (Instr.mapUpdate T (.map (some b)) (.int .i64 n) v).run prog w=.ok () (setBlk w b (.map (es.push {key:=.int .i64 n,val:=v,born:=k}) (k+1))):=by
 have hg:(getObj b).run prog w=.ok (.map es k) w:=by simp[getObj,Sem.run,h]
 have hs:∀o,(setObj b o).run prog w=.ok () (setBlk w b o):=fun o=>by simp[setObj,Sem.run,h,setBlk]
 have hc:∀e,(Instr.checkKey e 10000 3 (.int .i64 n)).run prog w=.ok () w:=fun e=>by kernel_rfl
 unfold Instr.mapUpdate
 simp[run_underlying hT,hg,hc,hf,hs]
theorem sC {T V:TypeId} (hT:prog.underlying T=some (.map 3 V)) {w:World} {b k i:Nat} {es:Array MapEntry} {v:Value} (h:w.heap[b]?=some (.map es k)) (n:Int) (hf:(Instr.findKey 3 (.int .i64 n) es.toList).run prog w=.ok (some (i,v)) w) :
  (Instr.lookup T (.map (some b)) (.int .i64 n) true).run prog w=.ok (.tuple #[v,.bool true]) w:=by
 have hg:(getObj b).run prog w=.ok (.map es k) w:=by simp[getObj,Sem.run,h]
 have hc:∀e,(Instr.checkKey e 10000 3 (.int .i64 n)).run prog w=.ok () w:=fun e=>by kernel_rfl
 unfold Instr.lookup
 simp[run_underlying hT,hg,hc,hf]
theorem miss_run {T V:TypeId} (hT:prog.underlying T=some (.map 3 V)) {w:World} {b k:Nat} {es:Array MapEntry} {z:Value} (h:w.heap[b]?=some (.map es k)) (n:Int) (hz:(zeroValue V).run prog w=.ok z w) (hf:(Instr.findKey 3 (.int .i64 n) es.toList).run prog w=.ok none w) :
  (Instr.lookup T (.map (some b)) (.int .i64 n) true).run prog w=.ok (.tuple #[z,.bool false]) w:=by
 have hg:(getObj b).run prog w=.ok (.map es k) w:=by simp[getObj,Sem.run,h]
 have hc:∀e,(Instr.checkKey e 10000 3 (.int .i64 n)).run prog w=.ok () w:=fun e=>by kernel_rfl
 unfold Instr.lookup
 simp[run_underlying hT,hg,hc,hf,hz]
theorem gon_1 (g o b ms mh n mtu:Nat) (a q:Int) (ao:Option Addr) (nm cap:Nat) (S:List (Nat×Nat)) (es:List Pl.Ev) (clock:Int) (w:World) (h:GoAt w g o b ms mh n mtu S es clock) (hrt:∀W,Below w.heap.size w W→Calls prog 114 #[.agg (Qrj 1 a (n:Int) q (.slice ao nm cap))] W fun r w'=>r=.returned (.bool true)∧Below W.heap.size W w') :
  Calls prog 52 #[Qp g,.agg (Qrj 1 a (n:Int) q (.slice ao nm cap))] w fun r w'=>r=.returned (.tuple #[.slice none 0 0,.slice none 0 0,.int .i64 0])∧Below w.heap.size w w':=by
 have b1:=bn w (.cells (Qrj 1 a (n:Int) q (.slice ao nm cap)) 115)
 have HX:=zA (heap_alloc_new w (.cells (Qrj 1 a (n:Int) q (.slice ao nm cap)) 115))
 have HB:=zA b1
 have HG:=zA (fun (W:World) (hW:Below w.heap.size w W)=>h.below hW)
 have HM:=zA (hrt _ (b1.trans ((Below.refl _ _).drew.mono b1.size)))
 clear b1 h hrt
 go_enter func52,ntmps52
 go_wp2_with fail
 generalize w.alloc (.cells (Qrj 1 a (n:Int) q (.slice ao nm cap)) 115)=W at *
 refine zD (fun W'=>W'.heap[g]?=some (.cells #[.int .i64 n,.int .i64 mtu,Qp o,Qp b] 218 (0,0))∧W'.heap[w.heap.size]?=some (.cells (Qrj 1 a (n:Int) q (.slice ao nm cap)) 115 (0,0))) 99 lE ⟨(HG.out W HB.out).gs,HX.out⟩ (fun qB=>?_)
 refine tl 0 15 rfl 115 (.tmp 3) w.heap.size rfl rfl (fun wS hSw=>hSw.2) underlying115 ?_
 refine t1 1 rfl (fun K hK=>?_)
 go_simp
 refine HM.out.mono ?_
 rintro r w1 ⟨rfl,hb⟩
 have hb':=((Below.refl _ _).drew).trans hb
 have HB1:=zA (HB.out.trans (hb'.mono HB.out.size))
 have HX1:=zA (zC HX.out hb')
 clear hb hb' qB HX HB HM
 refine hK.out _ _ (fun _=>⟨(HG.out w1 HB1.out).gs,HX1.out⟩) (fun _=>?_)
 clear hK K
 try simp only[pt,List.set]
 have qB:=And.intro (HG.out w1 HB1.out).gs HX1.out
 refine tkp 2 17 rfl ?_
 refine tkp 3 18 rfl ?_
 refine tkp 4 19 rfl ?_
 refine tk 5 20 rfl lH ?_
 refine tkp 6 21 rfl ?_
 refine tkp 7 22 rfl ?_
 refine tkp 8 23 rfl ?_
 refine tk 9 24 rfl lH ?_
 refine tkp 10 25 rfl ?_
 refine tkp 11 26 rfl ?_
 refine tkp 12 14 rfl ?_
 refine wd ?_
 clear qB
 have hmm:=@run_makeMap prog
 have hmf:∀(fn:Fn) (first cap:Array Value) (w:World),(Instr.makeFunc fn first cap).run prog w=.ok (.func fn first cap) w:=fun _ _ _ _=>rfl
 have hm2:=heap_alloc_new w1 (.map #[] 0)
 have h4:=wD underlying220 hm2 4 (.func (.func 121) #[Qp g] #[]) lE
 have hm3:=yI hm2 (.map #[{key:=.int .i64 4,val:=.func (.func 121) #[Qp g] #[],born:=0}] 1)
 have h5:=wD underlying220 hm3 5 (.func (.func 122) #[Qp g] #[]) lE
 have hm4:=yI hm3 (.map #[{key:=.int .i64 4,val:=.func (.func 121) #[Qp g] #[],born:=0},{key:=.int .i64 5,val:=.func (.func 122) #[Qp g] #[],born:=1}] 2)
 have hb4:Below w1.heap.size w1 (setBlk (setBlk (w1.alloc (.map #[] 0)) w1.heap.size (.map #[{key:=.int .i64 4,val:=.func (.func 121) #[Qp g] #[],born:=0}] 1)) w1.heap.size (.map #[{key:=.int .i64 4,val:=.func (.func 121) #[Qp g] #[],born:=0},{key:=.int .i64 5,val:=.func (.func 122) #[Qp g] #[],born:=1}] 2)):=xC (xC (bn _ _) (Nat.le_refl _) _) (Nat.le_refl _) _
 have HB5:=zA (HB1.out.trans (hb4.mono HB1.out.size))
 have HX5:=zA (zC HX1.out hb4)
 have HM5:=zA hm4
 clear hm2 hm3 hm4 hb4
 change Sem.run prog _ _=.ok () (setBlk (w1.alloc (.map #[] 0)) w1.heap.size (.map #[{key:=.int .i64 4,val:=.func (.func 121) #[Qp g] #[],born:=0}] 1))at h4
 change Sem.run prog _ _=.ok () (setBlk (setBlk (w1.alloc (.map #[] 0)) w1.heap.size (.map #[{key:=.int .i64 4,val:=.func (.func 121) #[Qp g] #[],born:=0}] 1)) w1.heap.size (.map #[{key:=.int .i64 4,val:=.func (.func 121) #[Qp g] #[],born:=0},{key:=.int .i64 5,val:=.func (.func 122) #[Qp g] #[],born:=1}] 2))at h5
 have hlk:=miss_run underlying220 HM5.out 1 (z:=.nilFunc) lE lE
 have p0:=cc 0 HX5.out
 go_wp2_with (refine zI rfl 115 (.tmp 3) w.heap.size (Qrj 1 a (n:Int) q (.slice ao nm cap)) 115 (0,0) _ rfl rfl HX5.out underlying115 rfl lE ?_)
 exact bodyPost_ret (v:=.tuple #[.slice none 0 0,.slice none 0 0,.int .i64 0]) (by simp[results,results52,go_sem]) rfl ⟨rfl,HB5.out⟩
theorem gon_40 (g o b ms mh n mtu:Nat) (a:Nat) (O:Nat→Nat→Bool) (U:Nat→Nat) (M:List (Nat×Nat)) (ao:Option Addr) (cap:Nat) (S:List (Nat×Nat)) (es:List Pl.Ev) (clock:Int) (w:World) (h:GoAt w g o b ms mh n mtu S es clock) (hs:SetV w (.agg (Qu U ao M.length cap)) O U M) (ha:a<8) (hne:n≠a) (hl:(Pl.codes es).length≤4000) (hm:512≤mtu∧mtu≤4096) (hrt:∀W,Below w.heap.size w W→Calls prog 114 #[.agg (Qsu 4 (a:Int) (n:Int) 0 U (.slice ao M.length cap))] W fun r w'=>r=.returned (.bool true)∧Below W.heap.size W w') :
  Calls prog 52 #[Qp g,.agg (Qsu 4 (a:Int) (n:Int) 0 U (.slice ao M.length cap))] w fun r w'=>∃v ms' parts,r=.returned (.tuple #[v,.slice none 0 0,.int .i64 0])∧Deltas w' n a ms' parts∧Hands parts (es.filter (fun e=> !O e.at.1 e.at.2))∧(∀p∈parts,p≠[]∧p.length≤768)∧Below w.heap.size w w'∧∃tail,OwnR kMsg w.heap.size w' v (ms'++tail)∧(tail=[]∧(∀a s,O a s=true→(a,s)∈S)∨∃O' U' M' ao' cap',tail=[dgq n a 1 U' (ao',M'.length,cap')]∧SetV w' (Pl.setv U' (.slice ao' M'.length cap')) O' U' M'∧Holds O' S):=by
 have b1:=bn w (.cells (Qsu 4 (a:Int) (n:Int) 0 U (.slice ao M.length cap)) 115)
 have HX:=zA (heap_alloc_new w (.cells (Qsu 4 (a:Int) (n:Int) 0 U (.slice ao M.length cap)) 115))
 have HB:=zA b1
 have HG:=zA (fun (W:World) (hW:Below w.heap.size w W)=>h.below hW)
 have HM:=zA (hrt _ (b1.trans ((Below.refl _ _).drew.mono b1.size)))
 have HSV:=zA (fun (W:World) (hW:Below w.heap.size w W)=>told_0 g o b ms mh n mtu a O U M ao cap S es clock W (h.below hW) (hs.below hW) ha hne hl hm)
 clear b1 h hrt hs ha hne hl hm
 go_enter func52,ntmps52
 go_wp2_with fail
 generalize w.alloc (.cells (Qsu 4 (a:Int) (n:Int) 0 U (.slice ao M.length cap)) 115)=W at *
 refine zD (fun W'=>W'.heap[g]?=some (.cells #[.int .i64 n,.int .i64 mtu,Qp o,Qp b] 218 (0,0))∧W'.heap[w.heap.size]?=some (.cells (Qsu 4 (a:Int) (n:Int) 0 U (.slice ao M.length cap)) 115 (0,0))) 99 lE ⟨(HG.out W HB.out).gs,HX.out⟩ (fun qB=>?_)
 refine tl 0 15 rfl 115 (.tmp 3) w.heap.size rfl rfl (fun wS hSw=>hSw.2) underlying115 ?_
 refine t1 1 rfl (fun K hK=>?_)
 go_simp
 refine HM.out.mono ?_
 rintro r w1 ⟨rfl,hb⟩
 have hb':=((Below.refl _ _).drew).trans hb
 have HB1:=zA (HB.out.trans (hb'.mono HB.out.size))
 have HX1:=zA (zC HX.out hb')
 clear hb hb' qB HX HB HM
 refine hK.out _ _ (fun _=>⟨(HG.out w1 HB1.out).gs,HX1.out⟩) (fun _=>?_)
 clear hK K
 try simp only[pt,List.set]
 have qB:=And.intro (HG.out w1 HB1.out).gs HX1.out
 refine tkp 2 17 rfl ?_
 refine tkp 3 18 rfl ?_
 refine tkp 4 19 rfl ?_
 refine tk 5 20 rfl lH ?_
 refine tkp 6 21 rfl ?_
 refine tkp 7 22 rfl ?_
 refine tkp 8 23 rfl ?_
 refine tk 9 24 rfl lH ?_
 refine tkp 10 25 rfl ?_
 refine tkp 11 26 rfl ?_
 refine tkp 12 14 rfl ?_
 refine wd ?_
 clear qB
 have hmm:=@run_makeMap prog
 have hmf:∀(fn:Fn) (first cap:Array Value) (w:World),(Instr.makeFunc fn first cap).run prog w=.ok (.func fn first cap) w:=fun _ _ _ _=>rfl
 have hm2:=heap_alloc_new w1 (.map #[] 0)
 have h4:=wD underlying220 hm2 4 (.func (.func 121) #[Qp g] #[]) lE
 have hm3:=yI hm2 (.map #[{key:=.int .i64 4,val:=.func (.func 121) #[Qp g] #[],born:=0}] 1)
 have h5:=wD underlying220 hm3 5 (.func (.func 122) #[Qp g] #[]) lE
 have hm4:=yI hm3 (.map #[{key:=.int .i64 4,val:=.func (.func 121) #[Qp g] #[],born:=0},{key:=.int .i64 5,val:=.func (.func 122) #[Qp g] #[],born:=1}] 2)
 have hb4:Below w1.heap.size w1 (setBlk (setBlk (w1.alloc (.map #[] 0)) w1.heap.size (.map #[{key:=.int .i64 4,val:=.func (.func 121) #[Qp g] #[],born:=0}] 1)) w1.heap.size (.map #[{key:=.int .i64 4,val:=.func (.func 121) #[Qp g] #[],born:=0},{key:=.int .i64 5,val:=.func (.func 122) #[Qp g] #[],born:=1}] 2)):=xC (xC (bn _ _) (Nat.le_refl _) _) (Nat.le_refl _) _
 have HB5:=zA (HB1.out.trans (hb4.mono HB1.out.size))
 have HX5:=zA (zC HX1.out hb4)
 have HM5:=zA hm4
 clear hm2 hm3 hm4 hb4
 change Sem.run prog _ _=.ok () (setBlk (w1.alloc (.map #[] 0)) w1.heap.size (.map #[{key:=.int .i64 4,val:=.func (.func 121) #[Qp g] #[],born:=0}] 1))at h4
 change Sem.run prog _ _=.ok () (setBlk (setBlk (w1.alloc (.map #[] 0)) w1.heap.size (.map #[{key:=.int .i64 4,val:=.func (.func 121) #[Qp g] #[],born:=0}] 1)) w1.heap.size (.map #[{key:=.int .i64 4,val:=.func (.func 121) #[Qp g] #[],born:=0},{key:=.int .i64 5,val:=.func (.func 122) #[Qp g] #[],born:=1}] 2))at h5
 have hlk:=sC underlying220 HM5.out 4 (i:=0) (v:=.func (.func 121) #[Qp g] #[]) lE
 have p0:=cc 0 HX5.out
 go_wp2_with (refine zI rfl 115 (.tmp 3) w.heap.size (Qsu 4 (a:Int) (n:Int) 0 U (.slice ao M.length cap)) 115 (0,0) _ rfl rfl HX5.out underlying115 rfl lE ?_)
 clear hmm hmf h4 h5 hlk p0
 generalize setBlk (setBlk (w1.alloc (.map #[] 0)) w1.heap.size (.map #[{key:=.int .i64 4,val:=.func (.func 121) #[Qp g] #[],born:=0}] 1)) w1.heap.size (.map #[{key:=.int .i64 4,val:=.func (.func 121) #[Qp g] #[],born:=0},{key:=.int .i64 5,val:=.func (.func 122) #[Qp g] #[],born:=1}] 2)=w5 at *
 refine(HSV.out w5 HB5.out).mono ?_
 rintro r w6 ⟨v,mq,parts,rfl,qY,hfl,hpp,hb,htl⟩
 obtain⟨aov,nv,capv,rfl⟩:∃x y z,v=.slice x y z:=by
  obtain⟨tail,ho,_⟩:=htl
  obtain⟨x,z,e⟩:=ho.toT.form
  exact⟨x,_,z,e⟩
 have b7:=bn w6 (.cells #[.slice aov nv capv,.slice none 0 0] 223)
 have HA:=zA (heap_alloc_new w6 (.cells #[.slice aov nv capv,.slice none 0 0] 223))
 have HB7:=zA b7
 have HB6:=zA (HB5.out.trans (hb.mono HB5.out.size))
 have HZ:=zA (And.intro qY (And.intro hfl hpp))
 have HT:=zA htl
 have HS5:=zA HB5.out.size
 clear qY hfl hpp hb htl b7
 go_wp2_with (refine zJ rfl 223 (.tmp 10) (.tmp 43) #[.slice none 0 0,.slice none 0 0] #[.slice aov nv capv,.slice none 0 0] rfl rfl _ rfl rfl rfl lE rfl lE rfl ?_)
 generalize w6.alloc (.cells #[.slice aov nv capv,.slice none 0 0] 223)=w7 at *
 have m0:=cc 0 HA.out
 have m1:=cc 1 HA.out
 go_quiet (fail)
 have HD7:=zA (HB7.out.trans ((below_drewN (Below.refl _ _) nq).mono HB7.out.size))
 clear m0 m1
 generalize w7.drewN nq=w8 at *
 go_wp2_with fail
 refine bodyPost_ret (v:=.tuple #[.slice aov nv capv,.slice none 0 0,.int .i64 0]) (by simp[results,results52,go_sem]) rfl ?_
 have hA:=HZ.out.1.below HD7.out
 have hB:=HB6.out.trans (HD7.out.mono HB6.out.size)
 have hT:∃tail,OwnR kMsg w.heap.size w8 (.slice aov nv capv) (mq++tail)∧(tail=[]∧(∀a s,O a s=true→(a,s)∈S)∨∃O' U' M' ao' cap',tail=[dgq n a 1 U' (ao',M'.length,cap')]∧SetV w8 (Pl.setv U' (.slice ao' M'.length cap')) O' U' M'∧Holds O' S):=by
   obtain⟨tail,ho,ht⟩:=HT.out
   refine⟨tail,(ho.below HD7.out).mono HS5.out,?_⟩
   rcases ht with h | ⟨O',U',M',ao',cap',e,hs',ho'⟩
   ·exact .inl h
   ·exact .inr ⟨O',U',M',ao',cap',e,hs'.below HD7.out,ho'⟩
 first
 | exact⟨_,_,_,rfl,hA,HZ.out.2.1,HZ.out.2.2,hB,hT⟩
 | exact⟨_,rfl,_,_,hA,HZ.out.2.1,HZ.out.2.2,hB,hT⟩
theorem gon_41 (g o b ms mh n mtu:Nat) (a:Nat) (O:Nat→Nat→Bool) (U:Nat→Nat) (M:List (Nat×Nat)) (ao:Option Addr) (cap:Nat) (S:List (Nat×Nat)) (es:List Pl.Ev) (clock:Int) (w:World) (h:GoAt w g o b ms mh n mtu S es clock) (hs:SetV w (.agg (Qu U ao M.length cap)) O U M) (ha:a<8) (hne:n≠a) (hl:(Pl.codes es).length≤4000) (hm:512≤mtu∧mtu≤4096) (hrt:∀W,Below w.heap.size w W→Calls prog 114 #[.agg (Qsu 4 (a:Int) (n:Int) 1 U (.slice ao M.length cap))] W fun r w'=>r=.returned (.bool true)∧Below W.heap.size W w') :
  Calls prog 52 #[Qp g,.agg (Qsu 4 (a:Int) (n:Int) 1 U (.slice ao M.length cap))] w fun r w'=>∃v ms' parts,r=.returned (.tuple #[v,.slice none 0 0,.int .i64 0])∧Deltas w' n a ms' parts∧Hands parts (es.filter (fun e=> !O e.at.1 e.at.2))∧(∀p∈parts,p≠[]∧p.length≤768)∧Below w.heap.size w w'∧OwnR kMsg w.heap.size w' v ms':=by
 have b1:=bn w (.cells (Qsu 4 (a:Int) (n:Int) 1 U (.slice ao M.length cap)) 115)
 have HX:=zA (heap_alloc_new w (.cells (Qsu 4 (a:Int) (n:Int) 1 U (.slice ao M.length cap)) 115))
 have HB:=zA b1
 have HG:=zA (fun (W:World) (hW:Below w.heap.size w W)=>h.below hW)
 have HM:=zA (hrt _ (b1.trans ((Below.refl _ _).drew.mono b1.size)))
 have HSV:=zA (fun (W:World) (hW:Below w.heap.size w W)=>told_1 g o b ms mh n mtu a O U M ao cap S es clock W (h.below hW) (hs.below hW) ha hne hl hm)
 clear b1 h hrt hs ha hne hl hm
 go_enter func52,ntmps52
 go_wp2_with fail
 generalize w.alloc (.cells (Qsu 4 (a:Int) (n:Int) 1 U (.slice ao M.length cap)) 115)=W at *
 refine zD (fun W'=>W'.heap[g]?=some (.cells #[.int .i64 n,.int .i64 mtu,Qp o,Qp b] 218 (0,0))∧W'.heap[w.heap.size]?=some (.cells (Qsu 4 (a:Int) (n:Int) 1 U (.slice ao M.length cap)) 115 (0,0))) 99 lE ⟨(HG.out W HB.out).gs,HX.out⟩ (fun qB=>?_)
 refine tl 0 15 rfl 115 (.tmp 3) w.heap.size rfl rfl (fun wS hSw=>hSw.2) underlying115 ?_
 refine t1 1 rfl (fun K hK=>?_)
 go_simp
 refine HM.out.mono ?_
 rintro r w1 ⟨rfl,hb⟩
 have hb':=((Below.refl _ _).drew).trans hb
 have HB1:=zA (HB.out.trans (hb'.mono HB.out.size))
 have HX1:=zA (zC HX.out hb')
 clear hb hb' qB HX HB HM
 refine hK.out _ _ (fun _=>⟨(HG.out w1 HB1.out).gs,HX1.out⟩) (fun _=>?_)
 clear hK K
 try simp only[pt,List.set]
 have qB:=And.intro (HG.out w1 HB1.out).gs HX1.out
 refine tkp 2 17 rfl ?_
 refine tkp 3 18 rfl ?_
 refine tkp 4 19 rfl ?_
 refine tk 5 20 rfl lH ?_
 refine tkp 6 21 rfl ?_
 refine tkp 7 22 rfl ?_
 refine tkp 8 23 rfl ?_
 refine tk 9 24 rfl lH ?_
 refine tkp 10 25 rfl ?_
 refine tkp 11 26 rfl ?_
 refine tkp 12 14 rfl ?_
 refine wd ?_
 clear qB
 have hmm:=@run_makeMap prog
 have hmf:∀(fn:Fn) (first cap:Array Value) (w:World),(Instr.makeFunc fn first cap).run prog w=.ok (.func fn first cap) w:=fun _ _ _ _=>rfl
 have hm2:=heap_alloc_new w1 (.map #[] 0)
 have h4:=wD underlying220 hm2 4 (.func (.func 121) #[Qp g] #[]) lE
 have hm3:=yI hm2 (.map #[{key:=.int .i64 4,val:=.func (.func 121) #[Qp g] #[],born:=0}] 1)
 have h5:=wD underlying220 hm3 5 (.func (.func 122) #[Qp g] #[]) lE
 have hm4:=yI hm3 (.map #[{key:=.int .i64 4,val:=.func (.func 121) #[Qp g] #[],born:=0},{key:=.int .i64 5,val:=.func (.func 122) #[Qp g] #[],born:=1}] 2)
 have hb4:Below w1.heap.size w1 (setBlk (setBlk (w1.alloc (.map #[] 0)) w1.heap.size (.map #[{key:=.int .i64 4,val:=.func (.func 121) #[Qp g] #[],born:=0}] 1)) w1.heap.size (.map #[{key:=.int .i64 4,val:=.func (.func 121) #[Qp g] #[],born:=0},{key:=.int .i64 5,val:=.func (.func 122) #[Qp g] #[],born:=1}] 2)):=xC (xC (bn _ _) (Nat.le_refl _) _) (Nat.le_refl _) _
 have HB5:=zA (HB1.out.trans (hb4.mono HB1.out.size))
 have HX5:=zA (zC HX1.out hb4)
 have HM5:=zA hm4
 clear hm2 hm3 hm4 hb4
 change Sem.run prog _ _=.ok () (setBlk (w1.alloc (.map #[] 0)) w1.heap.size (.map #[{key:=.int .i64 4,val:=.func (.func 121) #[Qp g] #[],born:=0}] 1))at h4
 change Sem.run prog _ _=.ok () (setBlk (setBlk (w1.alloc (.map #[] 0)) w1.heap.size (.map #[{key:=.int .i64 4,val:=.func (.func 121) #[Qp g] #[],born:=0}] 1)) w1.heap.size (.map #[{key:=.int .i64 4,val:=.func (.func 121) #[Qp g] #[],born:=0},{key:=.int .i64 5,val:=.func (.func 122) #[Qp g] #[],born:=1}] 2))at h5
 have hlk:=sC underlying220 HM5.out 4 (i:=0) (v:=.func (.func 121) #[Qp g] #[]) lE
 have p0:=cc 0 HX5.out
 go_wp2_with (refine zI rfl 115 (.tmp 3) w.heap.size (Qsu 4 (a:Int) (n:Int) 1 U (.slice ao M.length cap)) 115 (0,0) _ rfl rfl HX5.out underlying115 rfl lE ?_)
 clear hmm hmf h4 h5 hlk p0
 generalize setBlk (setBlk (w1.alloc (.map #[] 0)) w1.heap.size (.map #[{key:=.int .i64 4,val:=.func (.func 121) #[Qp g] #[],born:=0}] 1)) w1.heap.size (.map #[{key:=.int .i64 4,val:=.func (.func 121) #[Qp g] #[],born:=0},{key:=.int .i64 5,val:=.func (.func 122) #[Qp g] #[],born:=1}] 2)=w5 at *
 refine(HSV.out w5 HB5.out).mono ?_
 rintro r w6 ⟨v,mq,parts,rfl,qY,hfl,hpp,hb,htl⟩
 obtain⟨aov,nv,capv,rfl⟩:∃x y z,v=.slice x y z:=by
  obtain⟨x,z,e⟩:=htl.toT.form
  exact⟨x,_,z,e⟩
 have b7:=bn w6 (.cells #[.slice aov nv capv,.slice none 0 0] 223)
 have HA:=zA (heap_alloc_new w6 (.cells #[.slice aov nv capv,.slice none 0 0] 223))
 have HB7:=zA b7
 have HB6:=zA (HB5.out.trans (hb.mono HB5.out.size))
 have HZ:=zA (And.intro qY (And.intro hfl hpp))
 have HT:=zA htl
 have HS5:=zA HB5.out.size
 clear qY hfl hpp hb htl b7
 go_wp2_with (refine zJ rfl 223 (.tmp 10) (.tmp 43) #[.slice none 0 0,.slice none 0 0] #[.slice aov nv capv,.slice none 0 0] rfl rfl _ rfl rfl rfl lE rfl lE rfl ?_)
 generalize w6.alloc (.cells #[.slice aov nv capv,.slice none 0 0] 223)=w7 at *
 have m0:=cc 0 HA.out
 have m1:=cc 1 HA.out
 go_quiet (fail)
 have HD7:=zA (HB7.out.trans ((below_drewN (Below.refl _ _) nq).mono HB7.out.size))
 clear m0 m1
 generalize w7.drewN nq=w8 at *
 go_wp2_with fail
 refine bodyPost_ret (v:=.tuple #[.slice aov nv capv,.slice none 0 0,.int .i64 0]) (by simp[results,results52,go_sem]) rfl ?_
 have hA:=HZ.out.1.below HD7.out
 have hB:=HB6.out.trans (HD7.out.mono HB6.out.size)
 have hT:OwnR kMsg w.heap.size w8 (.slice aov nv capv) mq:=(HT.out.below HD7.out).mono HS5.out
 first
 | exact⟨_,_,_,rfl,hA,HZ.out.2.1,HZ.out.2.2,hB,hT⟩
 | exact⟨_,rfl,_,_,hA,HZ.out.2.1,HZ.out.2.2,hB,hT⟩
theorem gon_5 (g o b ms mh n mtu:Nat) (a:Nat) (ao:Option Addr) (cap:Nat) (new:List Pl.Ev) (S:List (Nat×Nat)) (es:List Pl.Ev) (clock:Int) (w:World) (h:GoAt w g o b ms mh n mtu S es clock) (hr:RowT kEv w (.slice ao new.length cap) new) (hri:∀e∈new,Is w e) (hok:∀e∈new,e.Ok) (hlen:es.length+new.length<768) (pP:Fresh S new) (hrt:∀W,Below w.heap.size w W→Calls prog 114 #[.agg (Qtk 5 (a:Int) (n:Int) (.slice ao new.length cap))] W fun r w'=>r=.returned (.bool true)∧Below W.heap.size W w') :
  Calls prog 52 #[Qp g,.agg (Qtk 5 (a:Int) (n:Int) (.slice ao new.length cap))] w fun r w'=>∃v cl er,r=.returned (.tuple #[.slice none 0 0,v,.int .i64 0])∧Same er (gotE es new)∧GoAt w' g o b ms mh n mtu (gotS S new) er cl∧Off (fun x=>x=b∨x=ms∨x=mh) w w':=by
 have b1:=bn w (.cells (Qtk 5 (a:Int) (n:Int) (.slice ao new.length cap)) 115)
 have HX:=zA (heap_alloc_new w (.cells (Qtk 5 (a:Int) (n:Int) (.slice ao new.length cap)) 115))
 have HB:=zA b1
 have HG:=zA (fun (W:World) (hW:Below w.heap.size w W)=>h.below hW)
 have HM:=zA (hrt _ (b1.trans ((Below.refl _ _).drew.mono b1.size)))
 have HGV:=zA (fun (W:World) (hW:Below w.heap.size w W)=>given_ok g o b ms mh n mtu a ao cap new S es clock W (h.below hW) (hr.below hW) (fun e he=>(hri e he).below hW) hok hlen pP)
 clear b1 h hrt hr hri hok hlen pP
 go_enter func52,ntmps52
 go_wp2_with fail
 generalize w.alloc (.cells (Qtk 5 (a:Int) (n:Int) (.slice ao new.length cap)) 115)=W at *
 refine zD (fun W'=>W'.heap[g]?=some (.cells #[.int .i64 n,.int .i64 mtu,Qp o,Qp b] 218 (0,0))∧W'.heap[w.heap.size]?=some (.cells (Qtk 5 (a:Int) (n:Int) (.slice ao new.length cap)) 115 (0,0))) 99 lE ⟨(HG.out W HB.out).gs,HX.out⟩ (fun qB=>?_)
 refine tl 0 15 rfl 115 (.tmp 3) w.heap.size rfl rfl (fun wS hSw=>hSw.2) underlying115 ?_
 refine t1 1 rfl (fun K hK=>?_)
 go_simp
 refine HM.out.mono ?_
 rintro r w1 ⟨rfl,hb⟩
 have hb':=((Below.refl _ _).drew).trans hb
 have HB1:=zA (HB.out.trans (hb'.mono HB.out.size))
 have HX1:=zA (zC HX.out hb')
 clear hb hb' qB HX HB HM
 refine hK.out _ _ (fun _=>⟨(HG.out w1 HB1.out).gs,HX1.out⟩) (fun _=>?_)
 clear hK K
 try simp only[pt,List.set]
 have qB:=And.intro (HG.out w1 HB1.out).gs HX1.out
 refine tkp 2 17 rfl ?_
 refine tkp 3 18 rfl ?_
 refine tkp 4 19 rfl ?_
 refine tk 5 20 rfl lH ?_
 refine tkp 6 21 rfl ?_
 refine tkp 7 22 rfl ?_
 refine tkp 8 23 rfl ?_
 refine tk 9 24 rfl lH ?_
 refine tkp 10 25 rfl ?_
 refine tkp 11 26 rfl ?_
 refine tkp 12 14 rfl ?_
 refine wd ?_
 clear qB
 have hmm:=@run_makeMap prog
 have hmf:∀(fn:Fn) (first cap:Array Value) (w:World),(Instr.makeFunc fn first cap).run prog w=.ok (.func fn first cap) w:=fun _ _ _ _=>rfl
 have hm2:=heap_alloc_new w1 (.map #[] 0)
 have h4:=wD underlying220 hm2 4 (.func (.func 121) #[Qp g] #[]) lE
 have hm3:=yI hm2 (.map #[{key:=.int .i64 4,val:=.func (.func 121) #[Qp g] #[],born:=0}] 1)
 have h5:=wD underlying220 hm3 5 (.func (.func 122) #[Qp g] #[]) lE
 have hm4:=yI hm3 (.map #[{key:=.int .i64 4,val:=.func (.func 121) #[Qp g] #[],born:=0},{key:=.int .i64 5,val:=.func (.func 122) #[Qp g] #[],born:=1}] 2)
 have hb4:Below w1.heap.size w1 (setBlk (setBlk (w1.alloc (.map #[] 0)) w1.heap.size (.map #[{key:=.int .i64 4,val:=.func (.func 121) #[Qp g] #[],born:=0}] 1)) w1.heap.size (.map #[{key:=.int .i64 4,val:=.func (.func 121) #[Qp g] #[],born:=0},{key:=.int .i64 5,val:=.func (.func 122) #[Qp g] #[],born:=1}] 2)):=xC (xC (bn _ _) (Nat.le_refl _) _) (Nat.le_refl _) _
 have HB5:=zA (HB1.out.trans (hb4.mono HB1.out.size))
 have HX5:=zA (zC HX1.out hb4)
 have HM5:=zA hm4
 clear hm2 hm3 hm4 hb4
 change Sem.run prog _ _=.ok () (setBlk (w1.alloc (.map #[] 0)) w1.heap.size (.map #[{key:=.int .i64 4,val:=.func (.func 121) #[Qp g] #[],born:=0}] 1))at h4
 change Sem.run prog _ _=.ok () (setBlk (setBlk (w1.alloc (.map #[] 0)) w1.heap.size (.map #[{key:=.int .i64 4,val:=.func (.func 121) #[Qp g] #[],born:=0}] 1)) w1.heap.size (.map #[{key:=.int .i64 4,val:=.func (.func 121) #[Qp g] #[],born:=0},{key:=.int .i64 5,val:=.func (.func 122) #[Qp g] #[],born:=1}] 2))at h5
 have hlk:=sC underlying220 HM5.out 5 (i:=1) (v:=.func (.func 122) #[Qp g] #[]) lE
 have p0:=cc 0 HX5.out
 go_wp2_with (refine zI rfl 115 (.tmp 3) w.heap.size (Qtk 5 (a:Int) (n:Int) (.slice ao new.length cap)) 115 (0,0) _ rfl rfl HX5.out underlying115 rfl lE ?_)
 clear hmm hmf h4 h5 hlk p0
 generalize setBlk (setBlk (w1.alloc (.map #[] 0)) w1.heap.size (.map #[{key:=.int .i64 4,val:=.func (.func 121) #[Qp g] #[],born:=0}] 1)) w1.heap.size (.map #[{key:=.int .i64 4,val:=.func (.func 121) #[Qp g] #[],born:=0},{key:=.int .i64 5,val:=.func (.func 122) #[Qp g] #[],born:=1}] 2)=w5 at *
 refine(HGV.out w5 HB5.out).mono ?_
 rintro r w6 ⟨av,nv,cv,cl,er,rfl,hab6,hg6,ho6⟩
 have b7:=bn w6 (.cells #[.slice none 0 0,.slice av nv cv] 223)
 have HA:=zA (heap_alloc_new w6 (.cells #[.slice none 0 0,.slice av nv cv] 223))
 have HB7:=zA b7
 have HZ:=zA (And.intro hg6 ho6)
 have HAB:=zA hab6
 clear hg6 ho6 b7 hab6
 go_wp2_with (refine zJ rfl 223 (.tmp 10) (.tmp 43) #[.slice none 0 0,.slice none 0 0] #[.slice none 0 0,.slice av nv cv] rfl rfl _ rfl rfl rfl lE rfl lE rfl ?_)
 generalize w6.alloc (.cells #[.slice none 0 0,.slice av nv cv] 223)=w7 at *
 have m0:=cc 0 HA.out
 have m1:=cc 1 HA.out
 go_quiet (fail)
 have HD7:=zA (HB7.out.trans ((below_drewN (Below.refl _ _) nq).mono HB7.out.size))
 clear m0 m1
 generalize w7.drewN nq=w8 at *
 go_wp2_with fail
 exact bodyPost_ret (v:=.tuple #[.slice none 0 0,.slice av nv cv,.int .i64 0]) (by simp[results,results52,go_sem]) rfl ⟨_,_,er,rfl,HAB.out,HZ.out.1.below HD7.out,(Off.of_below HB5.out).trans (HZ.out.2.trans (Off.of_below HD7.out))⟩
end
end Go.Proofs.YtodlmbfbfaofcaaGreat
