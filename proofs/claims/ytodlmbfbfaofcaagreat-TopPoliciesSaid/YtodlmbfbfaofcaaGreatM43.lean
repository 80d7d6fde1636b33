/- TopPolicies, part 43. -/
import Derived.Test.YtodlmbfbfaofcaaGreatM42
open Go.Proofs.Tryz
namespace Go.Proofs.YtodlmbfbfaofcaaGreat
set_option linter.unusedVariables false
set_option linter.unusedSimpArgs false
set_option maxRecDepth 100000
set_option maxHeartbeats 8000000
section
open Go.RowKit Rw Rh
theorem awake_query {x:AgD} {all:Pl.Al} {es:List Pl.Ev} {cl:Int} {w:World} {s1:Int} {e1 e2:Pl.Ev} (h:x.At all w es cl) (hwin:x.c.win=2) (hp:es.Perm [e1.abs,e2.abs]) (h1:∃rm:List (Nat×Nat),e1.abs={setE 2 0 9 10 0 2 1 0 rm with node:=0,seq:=s1,time:=1}) (h2:e2.kind=1∧e2.work=2∧e2.value=42∧e2.node=1) :
  Calls prog 10 #[Qp x.p.a,.int .i64 2] w fun r w'=>r=.returned (.tuple #[.agg (Qb true 0 s1 0 9 10 0 2 1 0 42 1 5),.int .i64 0])∧Below w.heap.size w w':=by
 obtain⟨er,sd,here,_,ha⟩:=h
 obtain⟨rm,h1⟩:=h1
 have hpr:(er.map Pl.Ev.abs).Perm [e1.abs,e2.abs]:=by rw[here];exact hp
 have hel:=hpr.length_eq
 rw[List.length_map]at hel
 have hel:er.length=2:=hel
 have qQ:∀{l:List Pl.Ev},(l.map Pl.Ev.abs).Perm [e1.abs,e2.abs]→∀e∈Pl.sets l 2,e.abs=e1.abs:=fun {l} hl e he=>by
  have h3:=List.mem_filter.1 he
  have h4:=hl.mem_iff.1 (List.mem_map.2 ⟨e,h3.1,rfl⟩)
  rcases List.mem_cons.1 h4 with h5 | h5
  ·exact h5
  ·have h8:e.abs=e2.abs:=List.mem_singleton.1 h5
   have h6:e.kind=e2.kind:=(wW h8).2.2.2.1
   have h7:=h3.2
   simp at h7
   omega
 have hs0:Pl.sets er 2≠[]:=fun h0=>by
  obtain⟨e,he,e2'⟩:=List.mem_map.1 (hpr.mem_iff.2 (List.mem_cons_self))
  have h3:e.kind=2:=(congrArg Pl.Ev.kind (e2'.trans h1))
  have h4:e.work=2:=(congrArg Pl.Ev.work (e2'.trans h1))
  have h5:e∈Pl.sets er 2:=List.mem_filter.2 ⟨he,by simp[h3,h4]⟩
  rw[h0]at h5
  cases h5
 have hsm:∀node:Nat,node<8→(Pl.smps er 2 node).length≤1:=fun node _=>by
  obtain⟨u,v,rfl,⟨g1,g2⟩ | ⟨g1,g2⟩⟩:=Pl.pair_abs hpr
  ·have h3:u.kind=2:=(congrArg Pl.Ev.kind (g1.trans h1))
   unfold Pl.smps
   rw[List.filter_cons_of_neg (by simp[h3])]
   exact List.length_filter_le _ _
  ·have h3:v.kind=2:=(congrArg Pl.Ev.kind (g2.trans h1))
   unfold Pl.smps
   rw[show[u,v]=[u]++[v]from rfl,List.filter_append,List.filter_cons_of_neg (a:=v) (by simp[h3]),List.filter_nil,List.append_nil]
   exact List.length_filter_le _ _
 refine(sO x.F x.p x.c x.size x.bs x.used x.upto x.own sd er cl 2 w ha (by rfl) lD hs0 (Nat.lt_of_le_of_lt (List.length_filter_le _ _) lD) hsm).mono ?_
 rintro r w' ⟨l,e,⟨m,hm,hs⟩,he,_,rfl,hb⟩
 have hpl:(l.map Pl.Ev.abs).Perm [e1.abs,e2.abs]:=by
  rw[show l.map Pl.Ev.abs=_ from hs]
  exact(hm.map _).trans hpr
 have hld:=Pl.load_two hpl (congrArg Pl.Ev.kind h1) h2
 have hea:=(qQ hpl e he).trans h1
 have f0:e.node=0:=congrArg Pl.Ev.node hea
 have f1:e.seq=s1:=congrArg Pl.Ev.seq hea
 have f2:e.mn=0:=congrArg Pl.Ev.mn hea
 have f3:e.mx=9:=congrArg Pl.Ev.mx hea
 have f4:e.goal=10:=congrArg Pl.Ev.goal hea
 have f5:e.slack=0:=congrArg Pl.Ev.slack hea
 have f6:e.up=2:=congrArg Pl.Ev.up hea
 have f7:e.down=1:=congrArg Pl.Ev.down hea
 have f8:e.cool=0:=congrArg Pl.Ev.cool hea
 rw[hwin,hld]
 have hask:Pl.askedQ e 42=5:=by
  unfold Pl.askedQ
  rw[f2,f3,f4]
  rfl
 simp only[hask,f0,f1,f2,f3,f4,f5,f6,f7,f8]
 exact⟨rfl,hb⟩
theorem awake_ok (w:World):Calls prog 6 #[] w fun e w'=>e=.returned (.bool true)∧Below w.heap.size w w':=by
 have hi0:∀W,Sem.run prog (Instr.index 79 (.agg #[.int .i64 10,.int .i64 0,.int .i64 2,.int .i64 0,.int .i64 0,.int .i64 9,.int .i64 10,.int .i64 0,.int .i64 2,.int .i64 1,.int .i64 0,.int .i64 9,.int .i64 1,.int .i64 2,.int .i64 42,.int .i64 0,.int .i64 0,.int .i64 0,.int .i64 0,.int .i64 0,.int .i64 0,.int .i64 0,.int .i64 15,.int .i64 0,.int .i64 1,.int .i64 0,.int .i64 0,.int .i64 0,.int .i64 0,.int .i64 0,.int .i64 0,.int .i64 0,.int .i64 0]) (.int .i64 0)) W=.ok (.agg (Qk 10 0 2 0 0 9 10 0 2 1 0)) W:=fun _=>by kernel_rfl
 have hi1:∀W,Sem.run prog (Instr.index 79 (.agg #[.int .i64 10,.int .i64 0,.int .i64 2,.int .i64 0,.int .i64 0,.int .i64 9,.int .i64 10,.int .i64 0,.int .i64 2,.int .i64 1,.int .i64 0,.int .i64 9,.int .i64 1,.int .i64 2,.int .i64 42,.int .i64 0,.int .i64 0,.int .i64 0,.int .i64 0,.int .i64 0,.int .i64 0,.int .i64 0,.int .i64 15,.int .i64 0,.int .i64 1,.int .i64 0,.int .i64 0,.int .i64 0,.int .i64 0,.int .i64 0,.int .i64 0,.int .i64 0,.int .i64 0]) (.int .i64 1)) W=.ok (.agg (Qkh 9 1 2 42)) W:=fun _=>by kernel_rfl
 have hi2:∀W,Sem.run prog (Instr.index 79 (.agg #[.int .i64 10,.int .i64 0,.int .i64 2,.int .i64 0,.int .i64 0,.int .i64 9,.int .i64 10,.int .i64 0,.int .i64 2,.int .i64 1,.int .i64 0,.int .i64 9,.int .i64 1,.int .i64 2,.int .i64 42,.int .i64 0,.int .i64 0,.int .i64 0,.int .i64 0,.int .i64 0,.int .i64 0,.int .i64 0,.int .i64 15,.int .i64 0,.int .i64 1,.int .i64 0,.int .i64 0,.int .i64 0,.int .i64 0,.int .i64 0,.int .i64 0,.int .i64 0,.int .i64 0]) (.int .i64 2)) W=.ok (.agg (Qki 15 0 1)) W:=fun _=>by kernel_rfl
 go_enter func6,ntmps6
 go_wp2_with fail
 refine(conf27_ok 2 w).mono ?_
 rintro e w1 ⟨rfl,hb1⟩
 have HB1:=zA hb1
 clear hb1
 go_wp2_with fail
 refine(to17_ok 2 2000 0 512 2 1 0 0 2 0 3 w1).mono ?_
 rintro e w2 ⟨rfl,hb2⟩
 have HB2:=zA (HB1.out.trans (hb2.mono HB1.out.size))
 clear hb2 HB1
 go_wp2_with fail
 refine(wnew_ok 2 2000 0 512 2 1 0 0 2 0 3 w2).mono ?_
 rintro e w3 (⟨e,_,_,hno,_⟩ | ⟨W,rfl,P,wc,d,r,F,p,c,wn,h1,h2,h3,h4,h5,h6,hb3,hfr⟩)
 ·exact absurd ⟨by rfl,by rfl,by rfl,of_decide_eq_true lE⟩ hno
 have hn2:wc.n=2:=by omega
 have hw2:wn=2:=by omega
 subst hw2
 have hq31:∀w,(binOp .eql 31 (Qp W) (.pointer none)).run prog w=.ok (.bool false) w:=fun _=>rfl
 have bP:=bn w3 (.cells (Qg 0 9 10 0 2 1 0) 38)
 have hP:=heap_alloc_new w3 (.cells (Qg 0 9 10 0 2 1 0) 38)
 have HP:=zA hP
 have HW:=zA (And.intro (h4.below bP) (And.intro h5 (And.intro hn2 (And.intro (h6.below bP) (And.intro (HB2.out.trans ((hb3.trans (bP.mono hb3.size)).mono HB2.out.size)) (fun i hi g hg=>(show w.heap.size≤g∧g≠w3.heap.size from⟨Nat.le_trans HB2.out.size (hfr i hi g hg),by have:=h6.lt hi g hg;omega⟩)))))))
 clear h1 h2 h3 h4 h5 h6 hb3 hfr hn2 bP hP HB2
 go_wp2_with (first
  | refine zJ rfl 38 (.tmp 3) (.tmp 22) Qgh (Qg 0 9 10 0 2 1 0) rfl rfl _ rfl rfl rfl lE rfl lE rfl ?_
  | refine zI rfl 38 (.tmp 3) w3.heap.size (Qg 0 9 10 0 2 1 0) 38 (0,0) _ rfl rfl HP.out underlying38 rfl lE ?_)
 generalize World.alloc w3 (.cells (Qg 0 9 10 0 2 1 0) 38)=w4 at *
 refine wp_loop_rounds 4 ?_
 have b0:=bn w4 (.cells (Qk 10 0 2 0 0 9 10 0 2 1 0) 43)
 have o0:=heap_alloc_new w4 (.cells (Qk 10 0 2 0 0 9 10 0 2 1 0) 43)
 have HO0:=zA o0
 have HB0x:=zA b0
 clear b0 o0
 rw[rounds_succ]
 go_wp2_with (first
  | refine zJ rfl 43 (.tmp 5) (.tmp 30) Qkl (Qk 10 0 2 0 0 9 10 0 2 1 0) rfl rfl _ rfl rfl rfl lE rfl lE rfl ?_
  | refine zI rfl 43 (.tmp 5) w4.heap.size (Qk 10 0 2 0 0 9 10 0 2 1 0) 43 (0,0) _ rfl rfl HO0.out underlying43 rfl lE ?_)
 generalize World.alloc w4 (.cells (Qk 10 0 2 0 0 9 10 0 2 1 0) 43)=w4a at *
 refine(Ring.set (HW.out.1.below HB0x.out) HW.out.2.1 (HW.out.2.2.2.1.below HB0x.out) lD 0 2 0 0 9 10 0 2 1 0).mono ?_
 rintro e w5 ⟨F1,⟨ho1,hF1⟩,hw1,(⟨e,⟨he,hz⟩,rfl,_⟩ | ⟨a,e1,eh1,rfl,hA,ha,⟨_,s1,he1⟩,hn1,hab1,hR1⟩)⟩
 ·have:=hz 0 rfl (by have:=HW.out.2.2.1;omega) ⟨_,⟨by rfl,by rfl⟩,1,rfl⟩
  omega
 obtain rfl:a=0:=by omega
 have he1':eh1.abs={setE 2 0 9 10 0 2 1 0 (stRm 2 [])with node:=0,seq:=(s1:Int),time:=1}:=by
  rw[hab1,he1,show(c 0).n=0 from(HW.out.2.2.2.1.cn 0 (by have:=HW.out.2.2.1;omega)).1]
  rfl
 have HE1:=zA he1'
 have hfr1:∀i,i<wc.n→∀g,F1 i g∨(p i).has g→w.heap.size≤g∧g≠w3.heap.size:=fun i hi g hg=>by
  rcases hg with hg | hg
  ·rcases hF1 i g hg with h | h
   ·exact HW.out.2.2.2.2.2 i hi g (.inl h)
   ·have h8:=(gsi.1 HP.out).1
    have h9:=HB0x.out.size
    exact⟨Nat.le_trans (Nat.le_trans HW.out.2.2.2.2.1.size HB0x.out.size) h,by omega⟩
  ·exact HW.out.2.2.2.2.2 i hi g (.inr hg)
 have hb1:Below w.heap.size w w5:=ho1.since (HW.out.2.2.2.2.1.trans (HB0x.out.mono HW.out.2.2.2.2.1.size)) (fun g ⟨i,hi,hg⟩=>(HW.out.2.2.2.2.2 i hi g hg).1)
 have HP5:=zA ((ho1.same _ (Nat.lt_of_lt_of_le (gsi.1 HP.out).1 HB0x.out.size) (fun ⟨i,hi,hg⟩=>(HW.out.2.2.2.2.2 i hi _ hg).2 rfl)).trans (zC HP.out HB0x.out))
 have HW1:=zA (And.intro hw1 (And.intro hR1 (And.intro hfr1 (And.intro hb1 (And.intro HW.out.2.1 HW.out.2.2.1)))))
 clear ho1 hF1 hw1 hR1 hfr1 hb1 HO0 HB0x HW HP hA ha he1 hn1 hab1 he1'
 go_wp2_with fail
 have b1:=bn w5 (.cells (Qkh 9 1 2 42) 43)
 have o1:=heap_alloc_new w5 (.cells (Qkh 9 1 2 42) 43)
 have HO1:=zA o1
 have HB1x:=zA b1
 clear b1 o1
 rw[rounds_succ]
 go_wp2_with (first
  | refine zJ rfl 43 (.tmp 5) (.tmp 30) Qkl (Qkh 9 1 2 42) rfl rfl _ rfl rfl rfl lE rfl lE rfl ?_
  | refine zI rfl 43 (.tmp 5) w5.heap.size (Qkh 9 1 2 42) 43 (0,0) _ rfl rfl HO1.out underlying43 rfl lE ?_)
 generalize World.alloc w5 (.cells (Qkh 9 1 2 42) 43)=w5a at *
 refine(Ring.sample (HW1.out.1.below HB1x.out) HW1.out.2.2.2.2.1 (HW1.out.2.1.below HB1x.out) lD 1 2 42 0 0 0 0 0 0 0).mono ?_
 rintro e w6 ⟨F2,⟨ho2,hF2⟩,hw2,(⟨e,⟨he,hz⟩,rfl,_⟩ | ⟨a,e2,eh2,rfl,hA,ha,⟨hk2,hwk2,hv2,_⟩,hn2,hab2,hR2⟩)⟩
 ·have:=hz 1 rfl (by have:=HW1.out.2.2.2.2.2;omega) ⟨smpE 2 42,rfl,rfl,rfl,rfl,by decide,by decide⟩
  omega
 obtain rfl:a=1:=by omega
 have hfr2:∀i,i<wc.n→∀g,F2 i g∨(p i).has g→w.heap.size≤g∧g≠w3.heap.size:=fun i hi g hg=>by
  rcases hg with hg | hg
  ·rcases hF2 i g hg with h | h
   ·exact HW1.out.2.2.1 i hi g (.inl h)
   ·have h8:=(gsi.1 HP5.out).1
    have h9:=HB1x.out.size
    exact⟨Nat.le_trans (Nat.le_trans HW1.out.2.2.2.1.size HB1x.out.size) h,by omega⟩
  ·exact HW1.out.2.2.1 i hi g (.inr hg)
 have hb2:Below w.heap.size w w6:=ho2.since (HW1.out.2.2.2.1.trans (HB1x.out.mono HW1.out.2.2.2.1.size)) (fun g ⟨i,hi,hg⟩=>(HW1.out.2.2.1 i hi g hg).1)
 have HP6:=zA ((ho2.same _ (Nat.lt_of_lt_of_le (gsi.1 HP5.out).1 HB1x.out.size) (fun ⟨i,hi,hg⟩=>(HW1.out.2.2.1 i hi _ hg).2 rfl)).trans (zC HP5.out HB1x.out))
 obtain⟨x,hx,hM⟩:=hR2.toM
 have hE2:put1 (put1 (fun _=>[]) 0 (addE [] e1 eh1)) 1 (addE ((put1 (fun _=>[]) 0 (addE [] e1 eh1)) 1) e2 eh2)=put1 (put1 (fun _=>[]) 0 [eh1]) 1 [eh2]:=by rw[zO _ _ (by decide)];rfl
 rw[hE2]at hR2 hM
 have hfl:(ringAl (put1 (put1 (fun _=>[]) 0 ([]++[e1])) 1 ((put1 (fun _=>[]) 0 ([]++[e1])) 1++[e2])) (put1 (put1 (fun _=>[]) 0 [eh1]) 1 [eh2]) wc.n).ev=[eh1.abs,eh2.abs]:=by
  rw[HW1.out.2.2.2.2.2]
  rfl
 have hlot:=hR2.lot (fun i hi=>by
  by_cases h1:i=1
  ·subst h1;rw[zQ];exact Nat.le_refl _
  rw[zO _ _ h1]
  by_cases h0:i=0
  ·subst h0;rw[zQ];exact Nat.le_refl _
  rw[zO _ _ h0];exact Nat.zero_le _) (by have:=HW1.out.2.2.2.2.2;omega) (by rw[HW1.out.2.2.2.2.2];exact of_decide_eq_true rfl)
 have HW2:=zA (And.intro hw2 (And.intro hM (And.intro (fun i hi=>(show r i=.pointer (some ⟨(x i).p.a,0,none⟩)from by rw[(hx i hi).1];exact HW1.out.2.2.2.2.1 i hi)) (And.intro hlot (And.intro (fun i hi g hg=>hfr2 i hi g ((hx i hi).2 g hg)) (And.intro hb2 (And.intro HW1.out.2.2.2.2.2 hfl)))))))
 have HE2:=zA (show eh2.kind=1∧eh2.work=2∧eh2.value=42∧eh2.node=1 from⟨(congrArg Pl.Ev.kind hab2).trans hk2,(congrArg Pl.Ev.work hab2).trans hwk2,(congrArg Pl.Ev.value hab2).trans hv2,(congrArg Pl.Ev.node hab2).trans hn2⟩)
 clear ho2 hF2 hw2 hR2 hfr2 hb2 HO1 HB1x HW1 HP5 hx hM hE2 hfl hlot hk2 hwk2 hv2 hn2 hA ha hab2
 go_wp2_with fail
 have b2:=bn w6 (.cells (Qki 15 0 1) 43)
 have o2:=heap_alloc_new w6 (.cells (Qki 15 0 1) 43)
 have HO2:=zA o2
 have HB2x:=zA b2
 clear b2 o2
 rw[rounds_succ]
 go_wp2_with (first
  | refine zJ rfl 43 (.tmp 5) (.tmp 30) Qkl (Qki 15 0 1) rfl rfl _ rfl rfl rfl lE rfl lE rfl ?_
  | refine zI rfl 43 (.tmp 5) w6.heap.size (Qki 15 0 1) 43 (0,0) _ rfl rfl HO2.out underlying43 rfl lE ?_)
 generalize World.alloc w6 (.cells (Qki 15 0 1) 43)=w6a at *
 have hmt:=RingM.meet (HW2.out.1.below HB2x.out) HW2.out.2.2.1 (HW2.out.2.1.below HB2x.out) HW2.out.2.2.2.1.1 HW2.out.2.2.2.1.2 (a:=0) (b:=1) (by have:=HW2.out.2.2.2.2.2.2.1;omega) (by have:=HW2.out.2.2.2.2.2.2.1;omega) lF 0 0 0 0 0 0 0 0
 rw[show((0:Nat):Int)=0 from rfl,show((1:Nat):Int)=1 from rfl]at hmt
 refine hmt.mono ?_
 rintro e w7 ⟨rfl,ho3,hw3,E3,hM3,hS3⟩
 have hb3:Below w.heap.size w w7:=ho3.since (HW2.out.2.2.2.2.2.1.trans (HB2x.out.mono HW2.out.2.2.2.2.2.1.size)) (fun g ⟨i,hi,hg⟩=>(HW2.out.2.2.2.2.1 i hi g hg).1)
 have HP7:=zA ((ho3.same _ (Nat.lt_of_lt_of_le (gsi.1 HP6.out).1 HB2x.out.size) (fun ⟨i,hi,hg⟩=>(HW2.out.2.2.2.2.1 i hi _ hg).2 rfl)).trans (zC HP6.out HB2x.out))
 have HW3:=zA (And.intro hw3 (And.intro hM3 (And.intro hS3 hb3)))
 clear hmt ho3 hw3 hM3 hS3 hb3 HO2 HB2x HP6
 go_wp2_with fail
 rw[rounds_succ]
 go_wp2_with fail
 have hm:=HW3.out.2.1
 have hsm:=HW3.out.2.2.1
 have hpm:∀i,i=0∨i=1→(E3 i).Perm [eh1.abs,eh2.abs]:=fun i hi=>by
  have h1:=HW2.out.2.2.2.1.1.nd
  rw[HW2.out.2.2.2.2.2.2.2]at h1
  obtain⟨_,⟨g1,g2⟩,g3,g4⟩:=hsm
  rcases hi with rfl | rfl
  ·exact(List.perm_ext_iff_of_nodup (Pl.nodup_at g1.1) (Pl.nodup_at h1)).2 fun e=>by rw[g2 e];simp[put1,absE]
  ·exact(List.perm_ext_iff_of_nodup (Pl.nodup_at g3.1) (Pl.nodup_at h1)).2 fun e=>by rw[g4 e];simp[put1,absE]
 have HQ:=zA (show ∀i,i=0∨i=1→∀V,Below w7.heap.size w7 V→Calls prog 10 #[Qp ((x i).p.a),.int .i64 2] V fun r w'=>r=.returned (.tuple #[.agg (Qb true 0 (s1:Int) 0 9 10 0 2 1 0 42 1 5),.int .i64 0])∧Below V.heap.size V w' from fun i hi V hV=>by
  have hin:i<wc.n:=by have:=HW2.out.2.2.2.2.2.2.1;omega
  obtain⟨cl,ha⟩:=hm.ag i hin
  exact awake_query (ha.below hV) (hm.cn i hin).2 (hpm i hi) ⟨stRm 2 [],HE1.out⟩ HE2.out)
 have HA0:=zA (fun V (hV:Below w7.heap.size w7 V)=>uR W P wc d r 0 V (HW3.out.1.below hV) (by have:=HW2.out.2.2.2.2.2.2.1;omega))
 have HA1:=zA (fun V (hV:Below w7.heap.size w7 V)=>uR W P wc d r 1 V (HW3.out.1.below hV) (by have:=HW2.out.2.2.2.2.2.2.1;omega))
 rw[HW2.out.2.2.1 0 (by have:=HW2.out.2.2.2.2.2.2.1;omega)]at HA0
 rw[HW2.out.2.2.1 1 (by have:=HW2.out.2.2.2.2.2.2.1;omega)]at HA1
 have HBB:=zA HW3.out.2.2.2
 clear hm hsm hpm HW2 HW3 HE2
 refine(HA0.out w7 (Below.refl _ _)).mono ?_
 rintro e w' ⟨rfl,rfl⟩
 go_wp2_with fail
 refine(HQ.out 0 (.inl rfl) w7 (Below.refl _ _)).mono ?_
 rintro e w8 ⟨rfl,hb8⟩
 have b9:=bn w8 (.cells (Qb true 0 (s1:Int) 0 9 10 0 2 1 0 42 1 5) 47)
 have HX8:=zA (heap_alloc_new w8 (.cells (Qb true 0 (s1:Int) 0 9 10 0 2 1 0 42 1 5) 47))
 have HB8:=zA (hb8.trans (b9.mono hb8.size))
 clear hb8 b9 HA0
 go_wp2_with (refine zJ rfl 47 (.tmp 6) (.tmp 40) (Qbm false) (Qb true 0 (s1:Int) 0 9 10 0 2 1 0 42 1 5) rfl rfl _ rfl rfl rfl lE rfl lE rfl ?_)
 generalize World.alloc w8 (.cells (Qb true 0 (s1:Int) 0 9 10 0 2 1 0 42 1 5) 47)=w9 at *
 refine(HA1.out w9 HB8.out).mono ?_
 rintro e w' ⟨rfl,rfl⟩
 go_wp2_with fail
 refine(HQ.out 1 (.inr rfl) w9 HB8.out).mono ?_
 rintro e w10 ⟨rfl,hb10⟩
 have b11:=bn w10 (.cells (Qb true 0 (s1:Int) 0 9 10 0 2 1 0 42 1 5) 47)
 have pC:=zA (heap_alloc_new w10 (.cells (Qb true 0 (s1:Int) 0 9 10 0 2 1 0 42 1 5) 47))
 have pQ:=zA (zC (zC HX8.out hb10) b11)
 have oC:=zA (HB8.out.trans ((hb10.trans (b11.mono hb10.size)).mono HB8.out.size))
 have HP10:=zA (zC HP7.out oC.out)
 clear hb10 b11 HA1 HQ HP7
 have u0:=cc 0 pQ.out
 have u1:=cc 1 pQ.out
 have u2:=cc 2 pQ.out
 have u3:=cc 3 pQ.out
 have u4:=cc 4 pQ.out
 have u5:=cc 5 pQ.out
 have u6:=cc 6 pQ.out
 have u7:=cc 7 pQ.out
 have u8:=cc 8 pQ.out
 have u9:=cc 9 pQ.out
 have u10:=cc 10 pQ.out
 have u11:=cc 11 pQ.out
 have u12:=cc 12 pQ.out
 have v0:=cc 0 pC.out
 have v1:=cc 1 pC.out
 have v2:=cc 2 pC.out
 have v3:=cc 3 pC.out
 have v4:=cc 4 pC.out
 have v5:=cc 5 pC.out
 have v6:=cc 6 pC.out
 have v7:=cc 7 pC.out
 have v8:=cc 8 pC.out
 have v9:=cc 9 pC.out
 have v10:=cc 10 pC.out
 have v11:=cc 11 pC.out
 have v12:=cc 12 pC.out
 have y0:=cc 0 HP10.out
 have y1:=cc 1 HP10.out
 have y2:=cc 2 HP10.out
 have y3:=cc 3 HP10.out
 have y4:=cc 4 HP10.out
 have y5:=cc 5 HP10.out
 have y6:=cc 6 HP10.out
 go_wp2_with (first
  | refine zJ rfl 47 (.tmp 8) (.tmp 46) (Qbm false) (Qb true 0 (s1:Int) 0 9 10 0 2 1 0 42 1 5) rfl rfl _ rfl rfl rfl lE rfl lE rfl ?_
)
 go_ret
 exact⟨rfl,HBB.out.trans (oC.out.mono HBB.out.size)⟩
end
end Go.Proofs.YtodlmbfbfaofcaaGreat
