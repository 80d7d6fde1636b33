/- TopPolicies, part 31. -/
import Derived.Test.YtodlmbfbfaofcaaGreatM01
import Derived.Test.YtodlmbfbfaofcaaGreatM02
import Derived.Test.YtodlmbfbfaofcaaGreatM04
import Derived.Test.YtodlmbfbfaofcaaGreatM08
import Derived.Test.YtodlmbfbfaofcaaGreatM30
open Go.Proofs.Tryz
namespace Go.Proofs.YtodlmbfbfaofcaaGreat
set_option linter.unusedVariables false
set_option linter.unusedSimpArgs false
set_option maxRecDepth 100000
set_option maxHeartbeats 4000000
section
open Go.RowKit Rw Rh
theorem AgAt.restore {Fs:Nat→Prop} {w w':World} {p:AgP} {c:Cf} {size:Int} {bs:List Int} {used upto:Int} {own:List Pl.Ev} {sd:List (Nat×Nat)} {es:List Pl.Ev} {clock:Int} (h:AgAt Fs w p c size bs used upto own sd es clock) (hof:Off Fs w w') {bs':List Int} {used' upto':Int} {own':List Pl.Ev} (hst:StAt (fun g=>Fs g∨w.heap.size≤g) w' p.s size bs' used' upto' 1 own') :
  AgAt (fun g=>(Fs g∨w.heap.size≤g)∧StTy w' g) w' p c size bs' used' upto' own' sd es clock:=
 have k:∀g,p.has g→w'.heap[g]?=w.heap[g]?:=fun g hg=>hof.same g (h.hlt g hg) (fun hF=>h.sep g hF hg)
 ⟨(k _ (.inl rfl)).trans h.ag,hst.tight,⟨(k _ (.inr (.inl rfl))).trans h.go.gs,h.go.bk.keep (fun g hg=>k g (by rcases hg with rfl | rfl | rfl<;>simp[AgP.has])),h.go.ok,fun e he=>(h.go.is e he).keep (Kd.off hof (fun g cs fr hg hF=>h.no45 hg (.inl hF))),h.go.may,h.go.len,h.go.n8⟩,
  h.dt.keep hof.size (fun g hg=>k g (by rcases hg with rfl | rfl | rfl<;>simp[AgP.has])),fun g hg hp=>hg.1.elim (fun hF=>h.sep g hF hp) (fun hl=>absurd (h.hlt g hp) lD),fun g hg=>hg.2,h.ok,h.ne,h.sm⟩
theorem AgAt.booked {Fs:Nat→Prop} {w w':World} {p:AgP} {c:Cf} {size:Int} {bs:List Int} {used upto:Int} {own:List Pl.Ev} {sd:List (Nat×Nat)} {es:List Pl.Ev} {clock:Int} (h:AgAt Fs w p c size bs used upto own sd es clock) {e e':Pl.Ev} {cl:Int} (hof:Off (fun x=>x=p.b∨x=p.ms∨x=p.mh) w w') (hbk:BkC w' p.b p.ms p.mh (seenD (addS sd e)) (heldL (addE es e e')) cl) (he:e.Ok) (hab:e'.abs=e.abs) (hi:Is w' e') (hl:es.length+1<768):AgAt Fs w' p c size bs used upto own (addS sd e) (addE es e e') cl:=
 have hne:∀g,g=p.b∨g=p.ms∨g=p.mh→p.has g:=fun g hg=>by rcases hg with rfl | rfl | rfl<;>simp[AgP.has]
 have hT:p.T≠p.b∧p.T≠p.ms∧p.T≠p.mh:=⟨h.ne.2.2.1,h.ne.2.2.2.1,h.ne.2.2.2.2⟩
 ⟨(h.go.calm hof h.ag lF).trans h.ag,h.st.keep (fun g hg=>hof.same g (h.lt g hg) (fun e'=>h.sep g hg (hne g e'))),⟨(h.go.calm hof h.go.gs lF).trans h.go.gs,hbk,fun x hx=>by
   rcases List.mem_append.1 hx with h1 | h1
   ·exact h.go.ok x (List.mem_filter.1 h1).1
   ·cases List.mem_singleton.1 h1;exact hi.ok hab he,fun x hx=>by
   rcases List.mem_append.1 hx with h1 | h1
   ·exact(h.go.is x (List.mem_filter.1 h1).1).keep (Kd.off hof (fun g cs fr hg hF=>h.no45 hg (.inr (hne g hF))))
   ·cases List.mem_singleton.1 h1;exact hi,fun d hd=>by
   obtain⟨n1,s1,hdt,hnm⟩:=he.dot
   rcases vC.1 hd with h1 | h1 | h1
   ·exact h.go.may d h1
   ·rw[h1,hdt.key];exact⟨hdt.n8,hdt.s1,hdt.s96⟩
   ·exact⟨(hnm.may d h1).1,(hnm.may d h1).2.1,(hnm.may d h1).2.2.1⟩,by unfold addE;have h4:=uI (e.at::e.rm) es;rw[List.length_append];simp only[List.length_cons,List.length_nil];omega,h.go.n8⟩,
  h.dt.keep hof.size (fun g hg=>hof.same g (h.hlt g (by rcases hg with rfl | rfl | rfl<;>simp[AgP.has])) (fun e'=>by
   rcases hg with rfl | rfl | rfl
   ·rcases e' with e' | e' | e'
    ·have h1:=h.dt.ms;rw[e',h.go.bk.cells]at h1;exact zH lF h1
    ·exact h.go.bk.seen.cells_ne h.dt.ms e'
    ·exact h.go.bk.held.cells_ne h.dt.ms e'
   ·rcases e' with e' | e' | e'
    ·exact hT.1 e'
    ·exact hT.2.1 e'
    ·exact hT.2.2 e'
   ·obtain⟨z,hz⟩:=h.dt.sm
    rcases e' with e' | e' | e'
    ·rw[e',h.go.bk.cells]at hz;cases hz
    ·exact h.sm.1 e'
    ·exact h.sm.2 e')),h.sep,fun g hg=>(h.ty g hg).keep (hof.same g (h.lt g hg) (fun e'=>h.sep g hg (hne g e'))),h.ok,h.ne,h.sm⟩
theorem next_any (F:Nat→Prop) (s':Nat) (size:Int) (bs:List Int) (u m:Nat) (inc:Int) (es:List Pl.Ev) (w:World) (h:StAt F w s' size bs u m inc es) (hin:∀g,F g→g<w.heap.size) (hu:u≤m∧m≤96∧u<96) (hl:(bs.length:Int)≤size) (hs':size≤16384) :
  Calls prog 306 #[Qp s'] w fun r w'=>(r=.returned (.tuple (Qi 0 7))∧Below w.heap.size w w'∧size<bs.length+200)∨∃bs' m',r=.returned (.tuple (Qi ((u:Int)+1) 0))∧StAt (fun g=>F g∨w.heap.size≤g) w' s' size bs' ((u+1:Nat):Int) ((m':Nat):Int) inc es∧Off F w w'∧(u+1≤m'∧m'≤96)∧(bs'.length:Int)≤size∧bs'.length≤bs.length+200:=by
 have hfl:=Pl.frame_len (1::Pl.vint (min (m+8) 96)) (by have:=Pl.vint_len6 (n:=min (m+8) 96) (by omega);rw[List.length_cons];omega)
 have hfv:=Pl.vint_len6 (n:=min (m+8) 96) lD
 rw[List.length_cons]at hfl
 have e1:((u+1:Nat):Int)=(u:Int)+1:=by omega
 rw[e1]
 by_cases hlt:u<m
 ·refine(next_old F s' size bs u m inc es w h lD lD lD).mono ?_
  rintro r w' ⟨rfl,h1,h2⟩
  exact .inr ⟨bs,m,rfl,h1.mono (fun g hg=>.inl hg),h2,by omega,hl,by omega⟩
 ·obtain rfl:m=u:=by omega
  by_cases hf:(bs.length:Int)+(Pl.frame (1::Pl.vint (min (m+8) 96))).length≤size
  ·refine(next_new F s' size bs m (min (m+8) 96) inc es w h hin hu.2.2 rfl lD lD hs' hf).mono ?_
   rintro r w' ⟨rfl,h1,h2⟩
   exact .inr ⟨_,min (m+8) 96,rfl,h1,h2,by omega,by rw[List.length_append];omega,by rw[List.length_append];omega⟩
  ·refine(next_room F s' size bs m (min (m+8) 96) inc es w h hin hu.2.2 rfl lD lD hs' lD).mono ?_
   rintro r w' ⟨rfl,h1⟩
   exact .inl ⟨rfl,h1,by omega⟩
theorem xT (Fs:Nat→Prop) (p:AgP) (c:Cf) (size:Int) (bs:List Int) (u m:Nat) (sd:List (Nat×Nat)) (es:List Pl.Ev) (clock:Int) (own:List Pl.Ev) (used upto:Int) (w:World) (h:AgAt Fs w p c size bs used upto own sd es clock):Calls prog 44 #[Qp p.a] w fun r w'=>r=.returned (Qp p.b)∧w=w':=by
 have x10:=cc 10 h.ag
 have y3:=cc 3 h.go.gs
 clear h
 have hbk:Calls prog 102 #[Qp p.g] w fun r w'=>r=.returned (Qp p.b)∧w=w':=by
  go_enter func102,ntmps102
  go_wp2_with fail
  go_ret
  exact⟨rfl,rfl⟩
 have HBK:=zA hbk
 clear hbk
 go_enter func44,ntmps44
 go_wp2_with fail
 refine HBK.out.mono ?_
 rintro r w' ⟨rfl,rfl⟩
 go_wp2_with fail
 go_ret
 exact⟨rfl,rfl⟩
theorem xK (Fs:Nat→Prop) (p:AgP) (c:Cf) (size:Int) (bs:List Int) (u m:Nat) (sd:List (Nat×Nat)) (es:List Pl.Ev) (clock:Int) (own:List Pl.Ev) (used upto:Int) (w:World) (h:AgAt Fs w p c size bs used upto own sd es clock):Calls prog 47 #[Qp p.a] w fun r w'=>r=.returned (.tuple #[])∧w=w':=by
 have x14:=cc 14 h.ag
 clear h
 go_enter func47,ntmps47
 go_wp2_with fail
 exact yG results47 ⟨rfl,rfl⟩
theorem anumber_ok (Fs:Nat→Prop) (p:AgP) (c:Cf) (size:Int) (bs:List Int) (u m:Nat) (own:List Pl.Ev) (sd:List (Nat×Nat)) (es:List Pl.Ev) (clock:Int) (E:Nat) (e:Pl.Ev) (w:World) (h:AgAt Fs w p c size bs u m own sd es clock) (hu:u≤m∧m≤96∧u<96) (hl:(bs.length:Int)≤size) (hs':size≤16384) (hE:w.heap[E]?=some (.cells e 175 (0,0))) (hF:¬Fs E) (hP:¬p.has E) (hn:e.node=c.n) (hne:(c.n,u+1)∉sd) :
  Calls prog 240 #[Qp p.a,Qp E] w fun r w'=>(r=.panicked [{v:=.iface 187 (.agg (Qo 7)),recovered:=false}]∧Below w.heap.size w w'∧size<bs.length+200)∨∃Fs' bs' m',r=.returned (.tuple #[])∧AgAt Fs' w' p c size bs' ((u+1:Nat):Int) ((m':Nat):Int) own sd es clock∧Off (fun g=>Fs g∨g=E) w w'∧(u+1≤m'∧m'≤96)∧((bs'.length:Int)≤size∧bs'.length≤bs.length+200)∧(∀g,Fs' g→Fs g∨w.heap.size≤g)∧w'.heap[E]?=some (.cells (Qy e.node (((u+1:Nat):Int)) e.time e.kind e.work e.value e.mn e.mx e.goal e.slack e.up e.down e.cool (.slice e.ro e.rn e.rc)) 175 (0,0)):=by
 rw[hn]at hE
 have HA:=zA (fun (W:World) (hW:Below w.heap.size w W)=>h.below hW)
 have HEW:=zA (fun (W:World) (hW:Below w.heap.size w W)=>zC hE hW)
 have HH:=zA (And.intro hu (And.intro hl (And.intro hs' (And.intro hF (And.intro hne h.ok.n)))))
 have HLT:=zA (And.intro h.lt (show E<w.heap.size from(gsi.1 hE).1))
 have HBK:=zA (xT Fs p c size bs u m sd es clock own u m w h)
 have HP:=zA hP
 have HN:=zA hn
 clear h hu hl hs' hE hF hn hne hP
 go_enter func240,ntmps240
 go_wp2_with fail
 refine HBK.out.mono ?_
 rintro r w' ⟨rfl,rfl⟩
 go_wp2_with fail
 refine(sE p.g p.o p.b p.ms p.mh c.n c.mtu sd es clock w (HA.out w (Below.refl _ _)).go).mono ?_
 rintro r w1 ⟨O,U,M,ao,cap,rfl,hv,hO,hb⟩
 have b2:=bn w1 (.cells (Qu U ao M.length cap) 60)
 have HB2:=zA (hb.trans (b2.mono hb.size))
 have HY:=zA (heap_alloc_new w1 (.cells (Qu U ao M.length cap) 60))
 have HV:=zA (hv.below b2)
 have HO:=zA hO
 have HYG:=zA hb.size
 have hag:=(HA.out _ HB2.out).ag
 have x9:=cc 9 hag
 clear hv hO hb b2 hag HBK
 go_wp2_with (refine zJ rfl 60 (.tmp 4) (.tmp 7) (Qv 0 0 0 0 0 0 0 0) (Qu U ao M.length cap) rfl rfl _ rfl rfl rfl lE rfl lE rfl ?_)
 refine wp_loop_rounds 1 ?_
 rw[rounds_succ]
 go_wp2_with fail
 clear x9
 generalize w1.alloc (.cells (Qu U ao M.length cap) 60)=w2 at *
 refine(next_any Fs p.s size bs u m 1 own w2 (HA.out w2 HB2.out).st (HA.out w2 HB2.out).lt HH.out.1 HH.out.2.1 HH.out.2.2.1).mono ?_
 rintro r w3 (⟨rfl,hb,hfu⟩ | ⟨bs',m',rfl,hst,hof,hmm,hbl⟩)
 ·have HB3:=zA (HB2.out.trans (hb.mono HB2.out.size))
  have HFU:=zA hfu
  clear hb hfu
  go_wp2_with fail
  refine(sF _ 7 lF _).mono ?_
  rintro r w4 ⟨rfl,rfl⟩
  go_wp2_with fail
  exact zT rfl (.inl ⟨rfl,HB3.out,HFU.out⟩)
 ·have hA3:=(HA.out w2 HB2.out).restore hof hst
  have hE3:=(hof.same E (Nat.lt_of_lt_of_le HLT.out.2 HB2.out.size) HH.out.2.2.2.1).trans (HEW.out w2 HB2.out)
  have HY3:=zA ((hof.same w1.heap.size (gsi.1 HY.out).1 (fun hF=>by have:=HLT.out.1 _ hF;have:=HYG.out;omega)).trans HY.out)
  have HM:=zA (And.intro hmm hbl)
  have fz:=zB hE3 1
  have yz:=cc 1 hE3
  have HE3:=zA hE3
  have HA3:=zA hA3
  have HO3:=zA (show Off (fun g=>Fs g∨g=E) w w3 from(Off.of_below HB2.out).trans (hof.mono (fun g _ h=>.inl h)))
  have HV3:=zA (HV.out.keep (w':=w3) (fun g cs fr hg=>hof.same g (gsi.1 hg).1 (fun hF=>by
   obtain⟨cs',t,fr',h1,h2⟩:=(HA.out w2 HB2.out).ty g hF
   rw[hg]at h1;rcases h2 with rfl | rfl | rfl | rfl<;>exact zH lF h1)))
  clear hst hof hA3 hE3 hmm hbl
  go_wp2_with fail
  refine(rC _ _).mono ?_
  rintro r w4 ⟨rfl,rfl⟩
  have ho4:Off (fun x=>x=E) w3 (w3.setCell ⟨E,1,none⟩ (.int .i64 ((u:Int)+1))):=(Off.refl (fun x=>x=E) w3).set (a:=⟨E,1,none⟩) (.inl rfl) _
  have hE4:(w3.setCell ⟨E,1,none⟩ (.int .i64 ((u:Int)+1))).heap[E]?=some (.cells (Qy ((c.n:Int)) (((u:Int)+1)) e.time e.kind e.work e.value e.mn e.mx e.goal e.slack e.up e.down e.cool (.slice e.ro e.rn e.rc)) 175 (0,0)):=by have h:=zF (j:=1) HE3.out (.int .i64 ((u:Int)+1));simpa using h
  have HE4:=zA hE4
  have HA4:=zA (HA3.out.keep ho4.size (fun g hg=>ho4.same g (hg.elim (HA3.out.lt g) (HA3.out.hlt g)) (fun e'=>by
   have e'':g=E:=e'
   rw[e'']at hg
   exact hg.elim (fun h=>h.1.elim HH.out.2.2.2.1 (fun h'=>by have:=HLT.out.2;have:=HB2.out.size;omega)) HP.out)) (fun e he=>(HA3.out.go.is e he).keep (Kd.one ho4 HE3.out lF)))
  have HO4:=zA (HO3.out.set (a:=⟨E,1,none⟩) (.inl (.inr rfl)) (.int .i64 ((u:Int)+1)))
  have hy4:(w3.setCell ⟨E,1,none⟩ (.int .i64 ((u:Int)+1))).heap[w1.heap.size]?=some (.cells (Qu U ao M.length cap) 60 (0,0)):=(ho4.same _ (gsi.1 HY3.out).1 (fun e'=>by have e'':w1.heap.size=E:=e';have:=HLT.out.2;have:=HYG.out;omega)).trans HY3.out
  have HY4:=zA hy4
  have HV4:=zA (HV3.out.keep (w':=w3.setCell ⟨E,1,none⟩ (.int .i64 ((u:Int)+1))) (fun g cs fr hg=>ho4.same g (gsi.1 hg).1 (fun e'=>by have e'':g=E:=e';rw[e'',HE3.out]at hg;exact zH lF hg)))
  have HS3:=zA (And.intro ho4.size HB2.out.size)
  clear ho4 hE4 hy4
  go_wp2_with fail
  clear fz yz HE3 HA3 HO3 HY3 HV3
  generalize w3.setCell ⟨E,1,none⟩ (.int .i64 ((u:Int)+1))=w4 at *
  refine zD (fun W'=>W'.heap[w1.heap.size]?=some (.cells (Qu U ao M.length cap) 60 (0,0))∧W'.heap[E]?=some (.cells (Qy ((c.n:Int)) (((u:Int)+1)) e.time e.kind e.work e.value e.mn e.mx e.goal e.slack e.up e.down e.cool (.slice e.ro e.rn e.rc)) 175 (0,0))) 99 lE ⟨HY4.out,HE4.out⟩ (fun qB=>?_)
  refine tl 0 20 rfl 60 (.tmp 4) w1.heap.size rfl rfl (fun wS hSw=>hSw.1) underlying60 ?_
  refine tkp 1 21 rfl ?_
  refine tkp 2 22 rfl ?_
  refine tkp 3 23 rfl ?_
  refine tk 4 24 rfl (by intro wS hSw;obtain⟨x,y⟩:=id hSw;have p0:=cc 0 y;have p1:=cc 1 y;clear hSw;go_simp;(try with_reducible rfl)) ?_
  refine t1 5 rfl (fun K hK=>?_)
  go_simp
  have hO0:O c.n (u+1)=false:=by
   cases ho:O c.n (u+1)with
   | false=>rfl
   | true=>
    exact absurd ((HO.out c.n (u+1)).1 ho) HH.out.2.2.2.2.1
  have hh:=has_ok (.agg (Qu U ao M.length cap)) c.n (u+1) O U M w4.drew (HV4.out.below (Below.refl _ _).drew) HH.out.2.2.2.2.2 (by have:=HH.out.1;omega)
  rw[hO0]at hh
  refine hh.mono ?_
  rintro r w5 ⟨rfl,hb⟩
  have hbw:=(Below.refl w4.heap.size w4).drew.trans hb
  have HB5:=zA hbw
  have hY5:=And.intro (zC HY4.out hbw) (zC HE4.out hbw)
  clear hh hO0 hb hbw qB
  refine hK.out _ _ (fun _=>hY5) (fun _=>?_)
  clear hK K
  try simp only[pt,List.set]
  have qB:=hY5
  refine tkp 6 26 rfl ?_
  refine wd ?_
  clear qB
  go_wp2_with fail
  refine bodyPost_ret (v:=.tuple #[]) (results_none results240 _ _ _) rfl (.inr ⟨_,bs',m',rfl,HA4.out.below HB5.out,HO4.out.trans (Off.of_below HB5.out),HM.out.1,HM.out.2,fun g hg=>hg.1.imp id (fun h=>Nat.le_trans HB2.out.size h),?_⟩)
  rw[HN.out]
  exact hY5.2
theorem bclock_ok (b ms mh:Nat) (l l':List ((Nat×Nat)×Value)) (clock:Int) (w:World) (h:BkC w b ms mh l l' clock):Calls prog 308 #[Qp b] w fun r w'=>r=.returned (.int .i64 clock)∧w=w':=by
 have x2:=cc 2 h.cells
 clear h
 go_enter func308,ntmps308
 go_wp2_with fail
 go_ret
 exact⟨rfl,rfl⟩
theorem aclock_ok (Fs:Nat→Prop) (p:AgP) (c:Cf) (size:Int) (bs:List Int) (u m:Nat) (own:List Pl.Ev) (sd:List (Nat×Nat)) (es:List Pl.Ev) (clock:Int) (E:Nat) (e:Pl.Ev) (w:World) (h:AgAt Fs w p c size bs u m own sd es clock) (hk:0≤clock∧clock≤1000) (hE:w.heap[E]?=some (.cells e 175 (0,0))) (hF:¬Fs E) (hP:¬p.has E) :
  Calls prog 241 #[Qp p.a,Qp E] w fun r w'=>r=.returned (.tuple #[])∧AgAt Fs w' p c size bs u m own sd es clock∧Off (fun g=>g=E) w w'∧w'.heap[E]?=some (.cells (Qy e.node e.seq (clock+1) e.kind e.work e.value e.mn e.mx e.goal e.slack e.up e.down e.cool (.slice e.ro e.rn e.rc)) 175 (0,0)):=by
 have hadd:Pl.add clock 1=clock+1:=by unfold Pl.add Pl.clamp Pl.within;repeat' split<;>omega
 have HBK:=zA (xT Fs p c size bs u m sd es clock own u m w h)
 have HCL:=zA (bclock_ok _ _ _ _ _ _ w h.go.bk)
 have HAD:=zA (add_any clock 1 w)
 rw[hadd]at HAD
 have HE:=zA hE
 have HG:=zA (fun (W:World) (hW:Off (fun g=>g=E) w W)=>h.keep hW.size (fun g hg=>hW.same g (hg.elim (h.lt g) (h.hlt g)) (fun e'=>by have e'':g=E:=e';rw[e'']at hg;exact hg.elim hF hP)) (fun e he=>(h.go.is e he).keep (Kd.one hW hE lF)))
 clear h hk hE hF hP hadd
 go_enter func241,ntmps241
 go_wp2_with fail
 refine HBK.out.mono ?_
 rintro r w' ⟨rfl,rfl⟩
 go_wp2_with fail
 refine HCL.out.mono ?_
 rintro r w' ⟨rfl,rfl⟩
 go_wp2_with fail
 refine HAD.out.mono ?_
 rintro r w1 ⟨rfl,hb⟩
 have hE1:=zC HE.out hb
 have fz:=zB hE1 2
 have yz:=cc 2 hE1
 have HO2:=zA ((Off.of_below (F:=fun g=>g=E) hb).set (a:=⟨E,2,none⟩) (.inl rfl) (.int .i64 (clock+1)))
 have HE2:=zA (show(w1.setCell ⟨E,2,none⟩ (.int .i64 (clock+1))).heap[E]?=some (.cells (Qy e.node e.seq (clock+1) e.kind e.work e.value e.mn e.mx e.goal e.slack e.up e.down e.cool (.slice e.ro e.rn e.rc)) 175 (0,0)) by have h:=zF (j:=2) hE1 (.int .i64 (clock+1));simpa using h)
 clear hb hE1
 go_wp2_with fail
 exact yG results241 ⟨rfl,HG.out _ HO2.out,HO2.out,HE2.out⟩
theorem akeep_ok (Fs:Nat→Prop) (p:AgP) (c:Cf) (size:Int) (bs:List Int) (u m:Nat) (own:List Pl.Ev) (sd:List (Nat×Nat)) (es:List Pl.Ev) (clock:Int) (E:Nat) (e:Pl.Ev) (w:World) (h:AgAt Fs w p c size bs u m own sd es clock) (hol:own.length≤700) (hi:Is w e) (hl:(bs.length:Int)≤size) (hs':size≤16384) (hE:w.heap[E]?=some (.cells e 175 (0,0))) (hF:¬Fs E) (he:e.Ok) (hne:∀x∈own,(x.node == e.node&&x.seq == e.seq)=false) :
  Calls prog 242 #[Qp p.a,Qp E] w fun r w'=>(r=.panicked [{v:=.iface 187 (.agg (Qo 7)),recovered:=false}]∧Below w.heap.size w w'∧size<bs.length+300)∨∃Fs' bs' e',r=.returned (.tuple #[])∧e'.abs=e.abs∧AgAt Fs' w' p c size bs' u m (own++[e']) sd es clock∧Off Fs w w'∧((bs'.length:Int)≤size∧bs'.length≤bs.length+300)∧(∀g,Fs' g→Fs g∨w.heap.size≤g):=by
 have HK:Hid (∀W,Below w.heap.size w W→Calls prog 309 #[Qp p.s,evv e] W fun r w'=>(r=.returned (.int .i64 7)∧Below W.heap.size W w'∧size<bs.length+300)∨∃bs' e',r=.returned (.int .i64 0)∧e'.abs=e.abs∧StAt (fun g=>Fs g∨W.heap.size≤g) w' p.s size bs' u m 1 (own++[e'])∧Off Fs W w'∧((bs'.length:Int)≤size∧bs'.length≤bs.length+300)):=zA (fun W hW=>by
  have hfv:=he.bytes
  have hfl:=Pl.frame_len (3::Pl.vints e.nums) (by rw[List.length_cons];omega)
  rw[List.length_cons]at hfl
  have hA:=h.below hW
  have hlen:=h.go.len
  by_cases hf:(bs.length:Int)+(Pl.frame (3::Pl.vints e.nums)).length≤size
  ·refine(keep_ok Fs p.s size bs u m 1 own e W hA.st hA.lt lD lD hs' (fun g cs fr hg hF=>hA.no45 hg (.inl hF)) he (hi.below hW) hne lD hf).mono ?_
   rintro r w' ⟨rfl,⟨e',h0,h1⟩,h2⟩
   exact .inr ⟨_,e',rfl,h0,h1,h2,by rw[List.length_append];omega,by rw[List.length_append];omega⟩
  ·refine(keep_full Fs p.s size bs u m 1 own e W hA.st hA.lt lD lD hs' he (hi.below hW) hne lD lD).mono ?_
   rintro r w' ⟨rfl,h1⟩
   exact .inl ⟨rfl,h1,by omega⟩)
 have HA:=zA (fun (W:World) (hW:Below w.heap.size w W)=>h.below hW)
 have HAG:=zA h.ag
 have HE:=zA hE
 have HF:=zA hF
 clear h hol hi hl hs' hE hF he hne
 go_enter func242,ntmps242
 go_wp2_with fail
 refine zD (fun W'=>W'.heap[p.a]?=some (.cells #[.int .i64 c.n,.int .i64 c.mtu,.int .i64 c.win,.int .i64 c.kp,.int .u64 c.salt,.int .u64 c.seed,.int .i64 c.c0,.int .i64 c.c1,.int .i64 c.c2,Qp p.s,Qp p.g,Qp p.D,Qp p.A,.int .i64 0,.bool false] 108 (0,0))∧W'.heap[E]?=some (.cells e 175 (0,0))) 99 lE ⟨HAG.out,HE.out⟩ (fun qB=>?_)
 refine tkp 0 4 rfl ?_
 refine tkp 1 5 rfl ?_
 refine tkp 2 6 rfl ?_
 refine tk 3 7 rfl (by intro wS hSw;obtain⟨x,y⟩:=id hSw;have q9:=cc 9 x;clear hSw;go_simp;(try with_reducible rfl)) ?_
 refine tkp 4 8 rfl ?_
 refine tkp 5 9 rfl ?_
 refine tl 6 10 rfl 175 (.tmp 9) E rfl rfl (fun wS hSw=>hSw.2) underlying175 ?_
 refine t1 7 rfl (fun K hK=>?_)
 go_simp
 refine(HK.out w.drew (Below.refl _ _).drew).mono ?_
 rintro r w1 (⟨rfl,hb,hfu⟩ | ⟨bs',e',rfl,hab,hst,hof,hbl⟩)
 ·have hbw:=(Below.refl w.heap.size w).drew.trans hb
  have hh:=And.intro (zC HAG.out hbw) (zC HE.out hbw)
  have HB:=zA hbw
  have HFU:=zA hfu
  clear hb hbw hfu qB
  refine hK.out _ _ (fun _=>hh) (fun _=>?_)
  clear hK K
  try simp only[pt,List.set]
  have qB:=hh
  refine t1 8 rfl (fun K hK=>?_)
  go_simp
  refine(rI 7 lF w1).mono ?_
  rintro r w2 ⟨rfl,rfl⟩
  exact zT rfl (.inl ⟨rfl,HB.out,HFU.out⟩)
 ·have hA1:=(HA.out w.drew (Below.refl _ _).drew).restore hof hst
  have hE1:=(hof.same E (gsi.1 HE.out).1 HF.out).trans HE.out
  have HAB:=zA hab
  have hh:=And.intro hA1.ag hE1
  have HZ:=zA (And.intro hA1 (And.intro ((Off.of_below (F:=Fs) (Below.refl w.heap.size w).drew).trans hof) hbl))
  clear hst hof hbl qB hA1 hE1 hab
  refine hK.out _ _ (fun _=>hh) (fun _=>?_)
  clear hK K
  try simp only[pt,List.set]
  have qB:=hh
  refine t1 8 rfl (fun K hK=>?_)
  go_simp
  refine(yO w1).mono ?_
  rintro r w2 ⟨rfl,rfl⟩
  refine hK.out _ _ (fun _=>hh) (fun _=>?_)
  clear hK K
  try simp only[pt,List.set]
  refine wd ?_
  clear qB hh
  go_wp2_with fail
  exact yG results242 (.inr ⟨_,bs',e',rfl,HAB.out,HZ.out.1,HZ.out.2.1,HZ.out.2.2,fun g hg=>hg.1⟩)
end
end Go.Proofs.YtodlmbfbfaofcaaGreat
