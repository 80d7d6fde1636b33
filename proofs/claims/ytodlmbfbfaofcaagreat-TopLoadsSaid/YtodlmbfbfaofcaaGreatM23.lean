/- TopLoads, part 23. -/
import Derived.Test.YtodlmbfbfaofcaaGreatM01
import Derived.Test.YtodlmbfbfaofcaaGreatM03
import Derived.Test.YtodlmbfbfaofcaaGreatM07
import Derived.Test.YtodlmbfbfaofcaaGreatM16
import Derived.Test.YtodlmbfbfaofcaaGreatM17
import Derived.Test.YtodlmbfbfaofcaaGreatM22
open Go.Proofs.Tryz
namespace Go.Proofs.YtodlmbfbfaofcaaGreat
set_option linter.unusedVariables false
set_option linter.unusedSimpArgs false
set_option maxRecDepth 100000
set_option maxHeartbeats 4000000
section
open Go.RowKit Rw Rh
namespace Pl
theorem parts_le:∀(parts:List (List Ev)),(∀p∈parts,p≠[])→parts.length≤parts.flatten.length
 | [],_=>Nat.le_refl _
 | p::l,h=>by
  have h1:=parts_le l (fun q hq=>h q (List.mem_cons_of_mem _ hq))
  have h2:=List.length_pos_iff.2 (h p (List.mem_cons_self ..))
  rw[List.length_cons,List.flatten_cons,List.length_append];omega
theorem codes_drop (xs ys:List Ev):(codes ys).length≤(codes (xs++ys)).length:=by rw[uO,List.length_append];omega
end Pl
structure SpAt (w0:World) (a b mtu:Nat) (es:List Pl.Ev) (u:Value) (i:Nat) (rest:List Pl.Ev) (W:World):Prop where
 st:∃(ms:List Mq) (parts:List (List Pl.Ev)) (aoR:Option Addr) (capR:Nat),es=parts.flatten++rest∧(∀p∈parts,p≠[]∧p.length≤768)∧W.heap[w0.heap.size]?=some (.cells (Qtk 5 (a:Int) (b:Int) (.slice aoR rest.length capR)) 115 (0,0))∧RowS kEv W (.slice aoR rest.length capR) rest∧OwnR kMsg (w0.heap.size+1) W u ms∧Deltas W a b ms parts
 fit:FitN a b mtu rest i
 be:Below w0.heap.size w0 W
def restLen (w:World) (g:Nat):Nat:=match w.heap[g]? with
 | some (.cells c _ _)=>(match (c[14]?:Option Value)with
  | some (Value.slice _ n _)=>n
  | _=>0)
 | _=>0
theorem Deltas.keepE {w w':World} {a b:Nat} {ms:List Mq} {parts:List (List Pl.Ev)} (h:Deltas w a b ms parts) (k:∀(g:Nat) (cs:Array Value) (fr:Nat×Nat),w.heap[g]?=some (Obj.cells cs 175 fr)→w'.heap[g]?=w.heap[g]?):Deltas w' a b ms parts:=
 ⟨h.1,fun i hi hi'=>by
  obtain⟨ao,cap,e,hr⟩:=h.2 i hi hi'
  exact⟨ao,cap,e,hr.keep k⟩⟩
theorem wV {w:World} {g n cap:Nat} {ao:Option Addr} {a b:Value} {u0 u1 u2 u3 u4 u5 u6 u7 u8 u9 u10 u13 u15:Value} {t:TypeId} {fr:Nat×Nat} (h:w.heap[g]?=some (.cells #[u0,a,b,u1,u2,u3,u4,u5,u6,u7,u8,u9,u10,u13,.slice ao n cap,u15] t fr)):restLen w g=n:=by
 unfold restLen;rw[h];rfl
theorem split_ok (a b mtu:Nat) (ao:Option Addr) (cap:Nat) (es:List Pl.Ev) (w:World) (h:RowS kEv w (.slice ao es.length cap) es) (hes:es.length≤768) (hok:∀e∈es,e.Ok) (ha:a<8) (hb:b<8) (hne:a≠b) (hl:(Pl.codes es).length≤4000) (hm:512≤mtu∧mtu≤4096) :
  Calls prog 202 #[.agg (Qtk 5 (a:Int) (b:Int) (.slice ao es.length cap)),.int .i64 mtu] w fun r w'=>∃v ms parts,r=.returned (.tuple #[v,.int .i64 0])∧OwnR kMsg w.heap.size w' v ms∧Deltas w' a b ms parts∧parts.flatten=es∧(∀p∈parts,p≠[]∧p.length≤768)∧Below w.heap.size w w':=by
 have b1:=bn w (.cells (Qtk 5 (a:Int) (b:Int) (.slice ao es.length cap)) 115)
 have HX:=zA (heap_alloc_new w (.cells (Qtk 5 (a:Int) (b:Int) (.slice ao es.length cap)) 115))
 have HB:=zA b1
 have HS:=zA (h.below b1)
 have HF:=zA (Fit_ok a b mtu ao cap es _ (h.below b1) hes hok ha hb hne hl hm)
 have HH:=zA (And.intro hes (And.intro hok (And.intro ha (And.intro hb (And.intro hne (And.intro hl hm))))))
 clear b1 h hes hok ha hb hne hl hm
 go_enter func202,ntmps202
 go_wp2_with fail
 generalize w.alloc (.cells (Qtk 5 (a:Int) (b:Int) (.slice ao es.length cap)) 115)=W0 at *
 refine HF.out.mono ?_
 rintro r W1 ⟨i,rfl,hfit,hb1⟩
 have HA:Hid (SpAt w a b mtu es (.slice none 0 0) i es W1):=zA ⟨⟨[],[],ao,cap,rfl,fun p hp=>absurd hp (by simp),zC HX.out hb1,HS.out.below hb1,yH _ _ _,Deltas.nil _ _ _⟩,hfit,HB.out.trans (hb1.mono HB.out.size)⟩
 clear hfit hb1 HX HB HS HF
 go_wp2_with fail
 go_loopw [4,6] (fun u x wr=>∃(i:Nat) (rest:List Pl.Ev),x=.int .i64 i∧SpAt w a b mtu es u i rest wr∧rest.length≤es.length) (fun _ _ wr=>restLen wr w.heap.size)
 case atStart=>exact⟨i,es,rfl,HA.out,Nat.le_refl _⟩
 case round=>
  obtain⟨i,rest,rfl,hs,hle⟩:=hrel
  obtain⟨ms,parts,aoR,capR,he,hp,hx,hr,ho,hd⟩:=hs.st
  rcases rest.eq_nil_or_concat with hnil | _
  ·subst hnil
   obtain⟨aov,capv,rfl⟩:=ho.toT.form
   rw[List.append_nil]at he
   have m14:=cc 14 hx
   have HZ:=zA (And.intro ho (And.intro hd (And.intro he (And.intro hp hs.be))))
   clear hx hr ho hd he hp hs hle
   go_wp2_with fail
   exact bodyPost_ret (v:=.tuple #[.slice aov ms.length capv,.int .i64 0]) (by simp[results,results202,go_sem]) rfl ⟨_,ms,parts,rfl,HZ.out.1.mono (Nat.le_succ _),HZ.out.2.1,HZ.out.2.2.1.symm,HZ.out.2.2.2.1,HZ.out.2.2.2.2⟩
  ·have hne:rest≠[]:=by
    rename_i hcc;obtain⟨l,x,e⟩:=hcc;rw[e];simp
   have hpos:=hs.fit.pos HH.out.2.2.2.2.2.2.1 HH.out.2.2.1 HH.out.2.2.2.1 (fun e he'=>HH.out.2.1 e (by rw[he];exact List.mem_append_right _ he')) hne
   have hil:=hs.fit.le
   have hrl:rest.length≤768:=by have:=HH.out.1;have e:=congrArg List.length he;rw[List.length_append]at e;omega
   obtain⟨hc1,hc2⟩:=hr.cap
   obtain⟨aov,capv,rfl⟩:=ho.toT.form
   have m14:=cc 14 hx
   have hfirst:=hr.first hil
   have htl:(rest.take i).length=i:=by rw[List.length_take];omega
   have hdl:(rest.drop i).length=rest.length - i:=List.length_drop
   have hdrop:RowS kEv wr (.slice aoR rest.length capR) (rest.take i++rest.drop i):=by rw[List.take_append_drop];exact hr
   have hcut:=hdrop.drop
   rw[htl,hdl]at hcut
   have HWT:=zA (fun (W:World) (hW:Below wr.heap.size wr W)=>with_ok a b aoR rest.length capR (.slice aoR i capR) (rest.take i) W ((hfirst.below hW).1.toC) (by rw[htl];omega))
   simp only[htl]at HWT
   have HML:=zA (show ms.length≤768 by have:=HH.out.1;have h1:=hd.1;have h2:=Pl.parts_le parts (fun p hp'=>(hp p hp').1);have e:=congrArg List.length he;rw[List.length_append]at e;omega)
   have HX:=zA hx
   have HO:=zA ho
   have HD:=zA hd
   have HBE:=zA hs.be
   have HR:=zA hcut
   have HN:=zA (And.intro hpos (And.intro hil (And.intro hrl (And.intro hc1 hc2))))
   have HE:=zA (And.intro he hp)
   have HTL:=zA htl
   have HBS:=zA hs.be.size
   have HLE:=zA hle
   have HX0:=zA hx
   have x0:(0:Int)<rest.length:=by omega
   have x1:(0:Int)<i:=by omega
   have x2:(i:Int)≤capR:=by omega
   clear hs hx hr ho hd he hp hle hne hpos hil hrl hc1 hc2 hfirst hdrop hcut htl hdl
   go_wp2_with fail
   clear m14 x0 x1
   refine zD (fun W'=>Below w.heap.size w W'∧W'.heap[w.heap.size]?=some (.cells (Qtk 5 (a:Int) (b:Int) (.slice aoR rest.length capR)) 115 (0,0))) 99 (by kernel_rfl) ⟨HBE.out.drew,HX.out⟩ (fun rV=>?_)
   refine tkp 0 24 rfl ?_
   refine tl 1 25 rfl 115 (.tmp 2) w.heap.size rfl rfl (fun wS hSw=>hSw.2) underlying115 ?_
   refine tkp 2 26 rfl ?_
   refine tk 3 27 rfl (by intro wS hSw;obtain⟨_,y⟩:=id hSw;have q14:=cc 14 y;clear hSw;go_simp;(try with_reducible rfl)) ?_
   refine tkp 4 28 rfl ?_
   refine tk (v:=.slice aoR i capR) 5 29 rfl (by intro wS hSw;clear hSw;go_simp;(all_goals (intro h;exact absurd (h (by omega)) (by omega)))) ?_
   refine t1 6 rfl (fun K hK=>?_)
   go_simp
   refine(HWT.out _ (Below.refl _ _).drew).mono ?_
   rintro r w1 ⟨ao1,cap1,rfl,ho1,hb1⟩
   have hbw:=((Below.refl wr.heap.size wr).drew).trans hb1
   have HB1:=zA (HBE.out.trans (hbw.mono HBE.out.size))
   have HX1:=zA (zC HX.out hbw)
   have HO1:=zA (ho1.mono HBS.out)
   have HM1:=zA (HO.out.below hbw)
   have HD1:=zA (HD.out.below hbw)
   have HR1:=zA (HR.out.below hbw)
   clear ho1 hb1 hbw rV
   refine hK.out _ _ (fun _=>⟨HB1.out,HX1.out⟩) (fun _=>?_)
   clear hK K
   try simp only[pt,List.set]
   have rV:=And.intro HB1.out HX1.out
   refine t1 7 rfl (fun K hK=>?_)
   go_simp
   have b2:=bn w1 (.cells (Qtk 5 (a:Int) (b:Int) (.slice ao1 i cap1)) 115)
   have HB2:=zA (HB1.out.trans (b2.mono HB1.out.size))
   have HX2:=zA (zC HX1.out b2)
   have HO2:=zA (HO1.out.below b2)
   have HM2:=zA (HM1.out.below b2)
   have HD2:=zA (HD1.out.below b2)
   have HR2:=zA (HR1.out.below b2)
   have qC:=zA (show RowC kMsg (w1.alloc (.cells (Qtk 5 (a:Int) (b:Int) (.slice ao1 i cap1)) 115)) (.slice (some ⟨w1.heap.size,0,none⟩) 1 1) [dlq a b (ao1,i,cap1)]from yJ kMsg w1 [dlq a b (ao1,i,cap1)] (Qtk 5 (a:Int) (b:Int) (.slice ao1 i cap1)) 1 rfl (by simp[Rk.encs,kMsg,dlq]))
   clear b2 rV
   refine hK.out _ _ (fun _=>⟨HB2.out,HX2.out⟩) (fun _=>?_)
   clear hK K
   try simp only[pt,List.set]
   have rV:=And.intro HB2.out HX2.out
   generalize w1.alloc (.cells (Qtk 5 (a:Int) (b:Int) (.slice ao1 i cap1)) 115)=w2 at *
   refine t1 8 rfl (fun K hK=>?_)
   rw[if_pos (by rfl)]
   refine vD kMsg rfl (.tmp 24) (.tmp 31) rfl rfl HM2.out rfl qC.out (by have:=HML.out;simp;omega) (Below.refl (w.heap.size+1) w2) (by have:=(gsi.1 HX2.out).1;omega) ?_
   intro v3 w3 hown3 hb3 hg3
   obtain⟨ao3,cap3,rfl⟩:=hown3.toT.form
   have rZ:∀(g:Nat),(Value.slice aov ms.length capv).ownBlock=some g→_:=fun g hg=>zK HM2.out hg
   have HM3:=zA hown3
   have HB3:=zA (HB2.out.trans (hb3.mono (Nat.le_succ _)))
   have HX3:=zA ((hb3.block _ (Nat.lt_succ_self _)).trans HX2.out)
   have HK3:=zA (show ∀g cs fr,w2.heap[g]?=some (Obj.cells cs 175 fr)→w3.heap[g]?=w2.heap[g]? from fun g cs fr hgc=>hg3.block g (gsi.1 hgc).1 (fun e=>by obtain⟨cs',hcs'⟩:=rZ g e.symm;rw[hgc]at hcs';exact zI (by decide) hcs'))
   clear hown3 hb3 hg3 rZ rV
   refine hK.out _ _ (fun _=>⟨HB3.out,HX3.out⟩) (fun _=>?_)
   clear hK K
   try simp only[List.getElem_toArray,List.getElem_cons_succ,List.getElem_cons_zero,pt,List.set]
   have rV:=And.intro HB3.out HX3.out
   refine tkp 9 4 rfl ?_
   refine wd ?_
   clear rV
   have HDL:=zA (show(rest.drop i).length=rest.length - i from List.length_drop)
   have m14:=cc 14 HX3.out
   have f14:=zB HX3.out 14
   have x3:¬((i:Int)<0):=by omega
   have x4:(i:Int)≤rest.length:=by have:=HN.out;omega
   rcases Nat.lt_or_ge i capR with hlt | hge
   ·have HRQ:=zA (show RowS kEv w2 (.slice (aoR.map (fun a=>a.add (i*14))) (rest.length - i) (capR - i)) (rest.drop i) by have h:=HR2.out;unfold cutK at h;rw[if_neg (by omega)]at h;exact h)
    have x5:¬capR=i:=by omega
    have x6:¬capR - i=0:=by omega
    clear hlt
    have HO4:=zA (show Off (· = w.heap.size) w3 (w3.setCell ⟨w.heap.size,14,none⟩ (.slice (aoR.map (fun a=>a.add (i*14))) (rest.length - i) (capR - i)))from(Off.refl (fun x=>x=w.heap.size) w3).set (a:=⟨w.heap.size,14,none⟩) (.inl rfl) _)
    have HX4:=zA (show(w3.setCell ⟨w.heap.size,14,none⟩ (.slice (aoR.map (fun a=>a.add (i*14))) (rest.length - i) (capR - i))).heap[w.heap.size]?=some (.cells (Qtk 5 (a:Int) (b:Int) (.slice (aoR.map (fun a=>a.add (i*14))) (rest.length - i) (capR - i))) 115 (0,0))from by have h:=zG (j:=14) HX3.out (.slice (aoR.map (fun a=>a.add (i*14))) (rest.length - i) (capR - i));simp only[zN]at h;exact h)
    have HB4:=zA (zP HB3.out (Nat.le_refl _) 14 (.slice (aoR.map (fun a=>a.add (i*14))) (rest.length - i) (capR - i)))
    go_wp2_with (refine zH rfl 115 (.tmp 2) w.heap.size (Qtk 5 (a:Int) (b:Int) (.slice (aoR.map (fun a=>a.add (i*14))) (rest.length - i) (capR - i))) 115 (0,0) _ rfl rfl HX4.out underlying115 rfl (by kernel_rfl) ?_)
    clear m14 f14
    generalize w3.setCell ⟨w.heap.size,14,none⟩ (.slice (aoR.map (fun a=>a.add (i*14))) (rest.length - i) (capR - i))=w4 at *
    have hk4:∀g cs fr,w2.heap[g]?=some (Obj.cells cs 175 fr)→w4.heap[g]?=w2.heap[g]?:=fun g cs fr hg=>by
     have h3:=HK3.out g cs fr hg
     exact(HO4.out.same g (gsi.1 (h3.trans hg)).1 (fun e=>by have h5:=h3.trans hg;rw[show g=w.heap.size from e,HX3.out]at h5;exact zI (by decide) h5)).trans h3
    have hr4:RowS kEv w4 (.slice (aoR.map (fun a=>a.add (i*14))) (rest.length - i) (capR - i)) (rest.drop i):=⟨HRQ.out.1.keep hk4,HRQ.out.2⟩
    have hm4:OwnR kMsg (w.heap.size+1) w4 (.slice ao3 (ms.length+1) cap3) (ms++[dlq a b (ao1,i,cap1)]):=by
     have h:=HM3.out
     rw[List.length_append]at h
     exact h.keep (fun g hg=>HO4.out.same g (h.lt g hg).2 (fun e=>by have:=(h.lt g hg).1;have e':g=w.heap.size:=e;omega))
    have hd4:Deltas w4 a b (ms++[dlq a b (ao1,i,cap1)]) (parts++[rest.take i]):=by
     have h1:Deltas w4 a b ms parts:=HD2.out.keepE hk4
     have h2:RowT kEv w4 (.slice ao1 (rest.take i).length cap1) (rest.take i):=by rw[HTL.out];exact(HO2.out.toT).keep hk4
     have h3:=h1.snoc h2
     rwa [HTL.out]at h3
    have he4:es=(parts++[rest.take i]).flatten++rest.drop i:=by rw[List.flatten_append,List.flatten_singleton,List.append_assoc,List.take_append_drop];exact HE.out.1
    have hp4:∀p∈parts++[rest.take i],p≠[]∧p.length≤768:=fun p hp=>by
     rcases List.mem_append.1 hp with h | h
     ·exact HE.out.2 p h
     ·cases List.mem_singleton.1 h
      exact⟨fun e=>by have h0:(rest.take i).length=0:=(congrArg List.length e).trans rfl;have h1:=HTL.out;have:=HN.out.1;omega,by rw[HTL.out];have:=HN.out.2;omega⟩
    have HZ:=zA (And.intro hr4 (And.intro hm4 (And.intro hd4 (And.intro he4 hp4))))
    have HF:=zA (fit_ok a b mtu (aoR.map (fun a=>a.add (i*14))) (capR - i) (rest.drop i) w4 (by rw[HDL.out];exact hr4) (by rw[HDL.out];have:=HN.out.2.2.1;omega) (fun e he=>HH.out.2.1 e (by rw[he4];exact List.mem_append_right _ he)) HH.out.2.2.1 HH.out.2.2.2.1 HH.out.2.2.2.2.1 (Nat.le_trans (by rw[he4];exact Pl.codes_drop _ _) HH.out.2.2.2.2.2.1) HH.out.2.2.2.2.2.2.2)
    rw[HDL.out]at HF
    clear hr4 hm4 hd4 he4 hp4 hk4
    refine HF.out.mono ?_
    rintro r w5 ⟨i5,rfl,f1,f2,f3,hb5⟩
    have HF5:=zA (show FitN a b mtu (rest.drop i) i5 from⟨by rw[HDL.out];exact f1,f2,fun h=>f3 (by rw[←HDL.out];exact h)⟩)
    have HB5:=zA hb5
    clear f1 f2 f3 hb5
    go_wp2_with fail
    have hx5:=zC HX4.out HB5.out
    refine⟨⟨i5,rest.drop i,rfl,⟨⟨_,parts++[rest.take i],(aoR.map (fun a=>a.add (i*14))),(capR - i),HZ.out.2.2.2.1,HZ.out.2.2.2.2,by rw[HDL.out];exact hx5,by rw[HDL.out];exact HZ.out.1.below HB5.out,HZ.out.2.1.below HB5.out,HZ.out.2.2.1.below HB5.out⟩,HF5.out,HB4.out.trans (HB5.out.mono HB4.out.size)⟩,by rw[HDL.out];have:=HLE.out;omega⟩,?_⟩
    rw[wV HX0.out,wV hx5]
    have:=HN.out
    omega
   ·obtain rfl:i=capR:=by have:=HN.out;omega
    have HRQ:=zA (show RowS kEv w2 (.slice aoR (rest.length - i) 0) (rest.drop i) by have h:=HR2.out;unfold cutK at h;rw[if_pos rfl,Nat.sub_self]at h;exact h)
    clear hge
    have HO4:=zA (show Off (· = w.heap.size) w3 (w3.setCell ⟨w.heap.size,14,none⟩ (.slice aoR (rest.length - i) 0))from(Off.refl (fun x=>x=w.heap.size) w3).set (a:=⟨w.heap.size,14,none⟩) (.inl rfl) _)
    have HX4:=zA (show(w3.setCell ⟨w.heap.size,14,none⟩ (.slice aoR (rest.length - i) 0)).heap[w.heap.size]?=some (.cells (Qtk 5 (a:Int) (b:Int) (.slice aoR (rest.length - i) 0)) 115 (0,0))from by have h:=zG (j:=14) HX3.out (.slice aoR (rest.length - i) 0);simp only[zN]at h;exact h)
    have HB4:=zA (zP HB3.out (Nat.le_refl _) 14 (.slice aoR (rest.length - i) 0))
    go_wp2_with (refine zH rfl 115 (.tmp 2) w.heap.size (Qtk 5 (a:Int) (b:Int) (.slice aoR (rest.length - i) 0)) 115 (0,0) _ rfl rfl HX4.out underlying115 rfl (by kernel_rfl) ?_)
    clear m14 f14
    generalize w3.setCell ⟨w.heap.size,14,none⟩ (.slice aoR (rest.length - i) 0)=w4 at *
    have hk4:∀g cs fr,w2.heap[g]?=some (Obj.cells cs 175 fr)→w4.heap[g]?=w2.heap[g]?:=fun g cs fr hg=>by
     have h3:=HK3.out g cs fr hg
     exact(HO4.out.same g (gsi.1 (h3.trans hg)).1 (fun e=>by have h5:=h3.trans hg;rw[show g=w.heap.size from e,HX3.out]at h5;exact zI (by decide) h5)).trans h3
    have hr4:RowS kEv w4 (.slice aoR (rest.length - i) 0) (rest.drop i):=⟨HRQ.out.1.keep hk4,HRQ.out.2⟩
    have hm4:OwnR kMsg (w.heap.size+1) w4 (.slice ao3 (ms.length+1) cap3) (ms++[dlq a b (ao1,i,cap1)]):=by
     have h:=HM3.out
     rw[List.length_append]at h
     exact h.keep (fun g hg=>HO4.out.same g (h.lt g hg).2 (fun e=>by have:=(h.lt g hg).1;have e':g=w.heap.size:=e;omega))
    have hd4:Deltas w4 a b (ms++[dlq a b (ao1,i,cap1)]) (parts++[rest.take i]):=by
     have h1:Deltas w4 a b ms parts:=HD2.out.keepE hk4
     have h2:RowT kEv w4 (.slice ao1 (rest.take i).length cap1) (rest.take i):=by rw[HTL.out];exact(HO2.out.toT).keep hk4
     have h3:=h1.snoc h2
     rwa [HTL.out]at h3
    have he4:es=(parts++[rest.take i]).flatten++rest.drop i:=by rw[List.flatten_append,List.flatten_singleton,List.append_assoc,List.take_append_drop];exact HE.out.1
    have hp4:∀p∈parts++[rest.take i],p≠[]∧p.length≤768:=fun p hp=>by
     rcases List.mem_append.1 hp with h | h
     ·exact HE.out.2 p h
     ·cases List.mem_singleton.1 h
      exact⟨fun e=>by have h0:(rest.take i).length=0:=(congrArg List.length e).trans rfl;have h1:=HTL.out;have:=HN.out.1;omega,by rw[HTL.out];have:=HN.out.2;omega⟩
    have HZ:=zA (And.intro hr4 (And.intro hm4 (And.intro hd4 (And.intro he4 hp4))))
    have HF:=zA (fit_ok a b mtu aoR 0 (rest.drop i) w4 (by rw[HDL.out];exact hr4) (by rw[HDL.out];have:=HN.out.2.2.1;omega) (fun e he=>HH.out.2.1 e (by rw[he4];exact List.mem_append_right _ he)) HH.out.2.2.1 HH.out.2.2.2.1 HH.out.2.2.2.2.1 (Nat.le_trans (by rw[he4];exact Pl.codes_drop _ _) HH.out.2.2.2.2.2.1) HH.out.2.2.2.2.2.2.2)
    rw[HDL.out]at HF
    clear hr4 hm4 hd4 he4 hp4 hk4
    refine HF.out.mono ?_
    rintro r w5 ⟨i5,rfl,f1,f2,f3,hb5⟩
    have HF5:=zA (show FitN a b mtu (rest.drop i) i5 from⟨by rw[HDL.out];exact f1,f2,fun h=>f3 (by rw[←HDL.out];exact h)⟩)
    have HB5:=zA hb5
    clear f1 f2 f3 hb5
    go_wp2_with fail
    have hx5:=zC HX4.out HB5.out
    refine⟨⟨i5,rest.drop i,rfl,⟨⟨_,parts++[rest.take i],aoR,0,HZ.out.2.2.2.1,HZ.out.2.2.2.2,by rw[HDL.out];exact hx5,by rw[HDL.out];exact HZ.out.1.below HB5.out,HZ.out.2.1.below HB5.out,HZ.out.2.2.1.below HB5.out⟩,HF5.out,HB4.out.trans (HB5.out.mono HB4.out.size)⟩,by rw[HDL.out];have:=HLE.out;omega⟩,?_⟩
    rw[wV HX0.out,wV hx5]
    have:=HN.out
    omega
end
section
open Go.RowKit Rw Rh
theorem rU {P:Program} (w:World) (base:Nat) (t ty e:TypeId) (i:TypeInfo) (z:Value) (ht:P.underlying t=some (.slice e)) (hi:P.info? e=some i) (hz:i.zero=some z)
  (v:Value) (n:Nat) (xs:List Value) (rX:w.ownsRow base e i.size v n xs) (a:Addr) (m c:Nat) (news:List Value) (hl:news.length=m*i.size)
  (hnews:∀j u,news[j]?=some u→w.cell? (a.add j)=some u) (h1:∀u∈news,u.oneCell'=true) (hm:0<m) (h63:n+m≤maxLen) (hbytes:(n+m)*i.bytes≤140737488355328) :
  ∀v' w',(Builtin.append_ #[t,t] ty #[v,.slice (some a) m c]).run P w=.ok v' w'→∀g,v'.ownBlock=some g→v.ownBlock=some g∨g=w.heap.size:=by
 intro v' w' qD g hg
 have hsmall:n+m≤9223372036854775807:=by simp only[maxLen]at h63;omega
 rcases rX.2 with⟨rfl,rfl⟩ | ⟨b,cap,cur,rfl,hbg,hgg,hnc,hcm,hcs,htake⟩
 ·have hr:=run_append_nil (P:=P) w t ty e i z ht hi hz a m c news hl hnews hm (by omega) (by have hb:=hbytes;simp only[Nat.zero_add]at hb;omega)
  rw[hr]at qD
  cases qD
  simp[Value.ownBlock]at hg
  exact .inr hg.symm
 ·by_cases hroom:n+m≤cap
  ·have hfit:n*i.size+news.length≤cur.size:=by rw[hl,hcs,←Nat.add_mul];exact Nat.mul_le_mul_right _ hroom
   have hr:=run_append_room (P:=P) w t ty e i ht hi b n cap cur hgg a m c news hl hnews h1 hroom hfit
   rw[hr]at qD
   cases qD
   exact .inl hg
  ·have hr:=run_append_grow (P:=P) w t ty e i z ht hi hz ⟨b,0,none⟩ n cap xs rX.1 (rX.cells (g:=b) rfl) a m c news hl hnews (by omega) (by omega) (growslice_fits (by omega) hbytes)
   rw[hr]at qD
   cases qD
   simp[Value.ownBlock]at hg
   exact .inr hg.symm
variable {α:Type}
theorem tP (K:Rk α) {w w0:World} {o:Oper} {a:Act} {K':Act→World→Prop} {Q:Exit→Act→World→Prop} {base:Nat} {v x:Value} {xs ys:List α} (sl xl:Operand)
  (ho:o.op=.call {callee:=.builtin .append,args:=#[sl,xl],argTypes:=#[K.S,K.S]}) (hs:a.eval sl=v) (rX:OwnR K base w v xs) (hx:a.eval xl=x) (hc:RowC K w x ys) (hys:ys≠[])
  (hl:xs.length+ys.length≤1000000) (hb:Below base w0 w) (qE:base≤w.heap.size)
  (h:∀v' w',OwnR K base w' v' (xs++ys)→Below base w0 w'→w.grownBy w' v.ownBlock→(∀g,v'.ownBlock=some g→v.ownBlock=some g∨g=w.heap.size)→K' (a.put o.dst v') w'):Oper.wp prog o a w K' Q:=by
 obtain⟨i5,hi5,z0,z1,z2⟩:=info_parts K.hi
 obtain⟨ao,cap,rfl⟩:=hc.form
 have hbb:=K.hb
 have hlen:0<ys.length:=by cases ys with
  | nil=>exact absurd rfl hys
  | cons a b=>simp
 obtain⟨ad,rfl⟩:∃ad,ao=some ad:=by
  cases ao with
  | some ad=>exact⟨ad,rfl⟩
  | none=>have:=(hc.none rfl).1;omega
 have h63:xs.length+ys.length≤maxLen:=by unfold maxLen;omega
 have hby:(xs.length+ys.length)*K.bytes≤140737488355328:=by
  have:=Nat.mul_le_mul hl hbb
  omega
 obtain⟨v',w',hr,h2,h3,h4⟩:=run_append_own (P:=prog) w base K.S o.type K.T i5 K.z K.k K.bytes K.hu hi5 z0 z1 z2 K.hz K.hk v xs.length (K.encs xs) rX ad ys.length cap (K.encs ys) (K.encs_length ys) (hc.news ad rfl) (K.encs_one ys) h63 hby qE
 have hpl:=rU (P:=prog) w base K.S o.type K.T i5 K.z K.hu hi5 z0 v xs.length (K.encs xs) (by rw[z1];exact rX) ad ys.length cap (K.encs ys) (by rw[z1];exact K.encs_length ys) (hc.news ad rfl) (K.encs_one ys) hlen h63 (by rw[z2];exact hby) v' w' hr
 unfold Oper.wp
 simp[execOp,ho,resolve,invoke,builtin,hs,hx,hr,Result.andThen]
 refine h v' w' ?_ (hb.grown h3 qE (fun k hk=>(rX.lt k hk).1)) h3 hpl
 unfold OwnR;rw[List.length_append,K.encs_append]
 exact h2
theorem idxe_none (v:Value) (f:Nat) (cb:Array Value) (es:List Pl.Ev) (w:World) (hl:es.length≤1000000) (hx:RowC kEv w v es)
  (hcf:∀(x:Value) (W:World),Sem.run prog (callFunc f (#[x]++cb)) W=.ok (.enter f (#[x]++cb)) W)
  (hC:∀e∈es,∀W,Below w.heap.size w W→Calls prog f (#[evv e]++cb) W fun r w'=>r=.returned (.bool false)∧Below W.heap.size W w') :
  Calls prog 403 #[v,.func (.func f) #[] cb] w fun r w'=>r=.returned (.int .i64 (-1))∧Below w.heap.size w w':=by
 have HX:=zA hx
 obtain⟨ao,cap,rfl⟩:=hx.form
 have HC:=zA hC
 clear hC hx
 go_enter func403,ntmps403
 go_wp2_with fail
 go_loopw [8] (fun i wr=>∃(k:Nat),k≤es.length∧i=.int .i64 k∧Below w.heap.size w wr) (fun i _=>es.length - (intOf i).toNat)
 case atStart=>exact⟨0,by omega,rfl,Below.refl _ _⟩
 case round=>
  obtain⟨k,hk,rfl,hI⟩:=hrel
  have HI:=zA hI
  by_cases hlt:k<es.length
  ·obtain⟨g,off,cap',hv,hg,c0,c1,c2,c3,c4,c5,c6,c7,c8,c9,c10,c11,c12,c13⟩:=xX (HX.out.below hI) hlt
   cases hv
   have HC2:=zA (HC.out _ (List.getElem_mem hlt) wr hI)
   clear hI
   generalize es[k]=ev at *
   go_wp2_with fail
   refine HC2.out.mono ?_
   rintro e w5 ⟨rfl,b5⟩
   have HI5:=zA (HI.out.trans (b5.mono HI.out.size))
   clear b5
   go_wp2_with fail
   exact⟨⟨k+1,by omega,rfl,HI5.out⟩,by simp[intOf];omega⟩
  ·obtain rfl:k=es.length:=by omega
   clear hI hlt
   go_wp2_with fail
   go_ret
   exact⟨rfl,HI.out⟩
theorem eql45 (a b c d:Int) (w:World):(binOp .eql 45 (.agg (Qi a b)) (.agg (Qi c d))).run prog w=.ok (.bool (a == c&&b == d)) w:=by
 simp only[binOp]
 simp[equal45']
theorem shas1_ok (e:Pl.Ev) (t:Nat) (n s:Int) (w:World) (ht:w.heap[t]?=some (.cells (Qi n s) 45 (0,0))) (hne:(e.node == n&&e.seq == s)=false) :
  Calls prog 378 #[evv e,Qp t] w fun r w'=>r=.returned (.bool false)∧Below w.heap.size w w':=by
 have b1:=bn w (.cells e 175)
 have hx:=heap_alloc_new w (.cells e 175)
 have hy:=(b1.block t (gsi.1 ht).1).trans ht
 have HB:=zA b1
 have heq:∀w,(binOp .eql 45 (.agg (Qi e.node e.seq)) (.agg (Qi n s))).run prog w=.ok (.bool false) w:=fun w=>by rw[eql45,hne]
 have c0:=cc 0 hx
 have c1:=cc 1 hx
 have c2:=cc 2 hx
 have c3:=cc 3 hx
 have c4:=cc 4 hx
 have c5:=cc 5 hx
 have c6:=cc 6 hx
 have c7:=cc 7 hx
 have c8:=cc 8 hx
 have c9:=cc 9 hx
 have c10:=cc 10 hx
 have c11:=cc 11 hx
 have c12:=cc 12 hx
 have c13:=cc 13 hx
 have d0:=cc 0 hy
 have d1:=cc 1 hy
 clear b1 hx hy ht hne
 go_enter func378,ntmps378
 go_wp2_with fail
 go_ret
 exact⟨rfl,HB.out⟩
theorem sK (v:Value) (es:List Pl.Ev) (n s:Int) (w:World) (hl:es.length≤1000000) (hx:RowC kEv w v es) (hne:∀e∈es,(e.node == n&&e.seq == s)=false) :
  Calls prog 349 #[v,.agg (Qi n s)] w fun r w'=>r=.returned (.bool false)∧Below w.heap.size w w':=by
 have b1:=bn w (.cells (Qi n s) 45)
 have ht:=heap_alloc_new w (.cells (Qi n s) 45)
 have HC:Hid (Calls prog 377 #[v,.func (.func 378) #[] #[Qp w.heap.size]] (w.alloc (.cells (Qi n s) 45)) fun r w'=>r=.returned (.bool false)∧Below (w.alloc (.cells (Qi n s) 45)).heap.size (w.alloc (.cells (Qi n s) 45)) w'):=zA (by
  have rZ:=hx.below b1
  generalize w.alloc (.cells (Qi n s) 45)=W at *
  have HI:=zA (idxe_none v 378 #[Qp w.heap.size] es W hl rZ (fun x W=>by kernel_rfl) (fun e he W' hW=>shas1_ok e w.heap.size n s W' ((hW.block _ (gsi.1 ht).1).trans ht) (hne e he)))
  obtain⟨ao,cap,rfl⟩:=hx.form
  clear hx hne rZ ht b1
  go_enter func377,ntmps377
  go_wp2_with fail
  refine HI.out.mono ?_
  rintro e w1 ⟨rfl,b1⟩
  have HB:=zA b1
  clear b1 HI
  go_wp2_with fail
  go_ret
  exact⟨rfl,HB.out⟩)
 have HB:=zA b1
 obtain⟨ao,cap,rfl⟩:=hx.form
 clear hx hne ht b1
 go_enter func349,ntmps349
 go_wp2_with fail
 refine HC.out.mono ?_
 rintro e w1 ⟨rfl,b1⟩
 have HB1:=zA (HB.out.trans (b1.mono HB.out.size))
 clear b1 HC
 go_wp2_with fail
 go_ret
 exact⟨rfl,HB1.out⟩
end
end Go.Proofs.YtodlmbfbfaofcaaGreat
