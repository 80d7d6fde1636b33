/- TopLoads, part 48. -/
import Derived.Test.YtodlmbfbfaofcaaGreatM01
import Derived.Test.YtodlmbfbfaofcaaGreatM03
import Derived.Test.YtodlmbfbfaofcaaGreatM07
import Derived.Test.YtodlmbfbfaofcaaGreatM46
import Derived.Test.YtodlmbfbfaofcaaGreatM47
open Go.Proofs.Tryz
namespace Go.Proofs.YtodlmbfbfaofcaaGreat
set_option linter.unusedVariables false
set_option linter.unusedSimpArgs false
set_option maxRecDepth 100000
set_option maxHeartbeats 8000000
section
open Go.RowKit Rw Rh
theorem awake_load {e1 e2:Pl.Ev} {l:List Pl.Ev} (h1:e1.kind=2) (h2:e2.kind=1∧e2.work=2∧e2.value=42∧e2.node=1) (hp:l.Perm (Pl.flatE (put1 (put1 (fun _=>[]) 0 [e1]) 1 [e2]) 2)) (hE:∀i,i<2→((put1 (put1 (fun _=>[]) 0 [e1]) 1 [e2]) i).Pairwise (fun a b=>a.seq<b.seq)∧∀e∈(put1 (put1 (fun _=>[]) 0 [e1]) 1 [e2]) i,e.node=(i:Int)∧0≤e.seq) (h3:e1.value=0) (ho:∀node:Nat,(Pl.smps l 2 node).Pairwise (fun a b=>a.seq<b.seq)) :
  Pl.loadOf l 2 2 8=(42,1):=by
 have h:=Pl.load_law (E0:=put1 (put1 (fun _=>[]) 0 [e1]) 1 [e2]) (n:=2) (W:=2) 2 hp hE ho (by omega) (by omega) (by omega) (fun i hi e he=>?_)
 ·refine h.trans ?_
  have t0:Pl.tab (put1 (put1 (fun _=>[]) 0 [e1]) 1 [e2]) 2 (0*8+2)=[]:=by
   rw[Pl.tab_at _ _ _ _ (by omega)]
   simp[put1,Pl.smps,h1]
  have t1:Pl.tab (put1 (put1 (fun _=>[]) 0 [e1]) 1 [e2]) 2 (1*8+2)=[42]:=by
   rw[Pl.tab_at _ _ _ _ (by omega)]
   simp[put1,Pl.smps,h2]
  unfold Pl.lawOf
  simp only[List.range_succ,List.range_zero,List.nil_append,List.foldl_append,List.foldl_cons,List.foldl_nil]
  simp[Pl.lawStep,t0,t1,Pl.lastN,Pl.lsum]
  decide
 ·by_cases hi1:i=1
  ·subst hi1
   rw[zQ]at he
   cases List.mem_singleton.1 he
   omega
  ·rw[zO _ _ hi1]at he
   by_cases hi0:i=0
   ·subst hi0
    rw[zQ]at he
    cases List.mem_singleton.1 he
    omega
   ·omega
theorem awake_query {x:AgD} {es:List Pl.Ev} {cl:Int} {w:World} {s1 t1:Nat} {e2:Pl.Ev} (h:x.At w es cl) (hwin:x.c.win=2) (hp:es.Perm [(Pl.Ev.mk 0 s1 t1 2 2 0 0 9 10 0 2 1 0),e2]) (h2:e2.kind=1∧e2.work=2∧e2.value=42∧e2.node=1) (hE:∀i,i<2→((put1 (put1 (fun _=>[]) 0 [(Pl.Ev.mk 0 s1 t1 2 2 0 0 9 10 0 2 1 0)]) 1 [e2]) i).Pairwise (fun a b=>a.seq<b.seq)∧∀e∈(put1 (put1 (fun _=>[]) 0 [(Pl.Ev.mk 0 s1 t1 2 2 0 0 9 10 0 2 1 0)]) 1 [e2]) i,e.node=(i:Int)∧0≤e.seq) :
  Calls prog 10 #[Qp x.p.a,.int .i64 2] w fun r w'=>r=.returned (.tuple #[.agg (Qb true 0 (s1:Int) 0 9 10 0 2 1 0 42 1 5),.int .i64 0])∧Below w.heap.size w w':=by
 have hs:Pl.sets es 2=[(Pl.Ev.mk 0 s1 t1 2 2 0 0 9 10 0 2 1 0)]:=by
  have h3:(Pl.sets es 2).Perm (Pl.sets [(Pl.Ev.mk 0 s1 t1 2 2 0 0 9 10 0 2 1 0),e2] 2):=hp.filter _
  have h4:Pl.sets [(Pl.Ev.mk 0 s1 t1 2 2 0 0 9 10 0 2 1 0),e2] 2=[(Pl.Ev.mk 0 s1 t1 2 2 0 0 9 10 0 2 1 0)]:=by
   unfold Pl.sets
   simp[h2]
  rw[h4]at h3
  exact List.perm_singleton.1 h3
 refine(aquery_one x.F x.p x.c x.size x.bs x.used x.upto x.own es cl 2 (Pl.Ev.mk 0 s1 t1 2 2 0 0 9 10 0 2 1 0) w h (by rfl) (by rw[hp.length_eq];simp) hs (by rfl)).mono ?_
 rintro r w' ⟨l,hl,hord,rfl,hb⟩
 have hok:∀e∈l,e.Ok:=fun e he=>AgAt.go h |>.ok e (hl.mem_iff.1 he)
 have hld:=awake_load (e1:=(Pl.Ev.mk 0 s1 t1 2 2 0 0 9 10 0 2 1 0)) (e2:=e2) (l:=l) rfl h2 (hl.trans hp) hE rfl (fun node=>uB hord hok 2 node)
 rw[hwin,hld]
 exact⟨rfl,hb⟩
theorem awake_ok (w:World):Calls prog 6 #[] w fun e w'=>e=.returned (.bool true)∧Below w.heap.size w w':=by
 have hi0:∀W,Sem.run prog (Instr.index 79 (.agg #[.int .i64 10,.int .i64 0,.int .i64 2,.int .i64 0,.int .i64 0,.int .i64 9,.int .i64 10,.int .i64 0,.int .i64 2,.int .i64 1,.int .i64 0,.int .i64 9,.int .i64 1,.int .i64 2,.int .i64 42,.int .i64 0,.int .i64 0,.int .i64 0,.int .i64 0,.int .i64 0,.int .i64 0,.int .i64 0,.int .i64 15,.int .i64 0,.int .i64 1,.int .i64 0,.int .i64 0,.int .i64 0,.int .i64 0,.int .i64 0,.int .i64 0,.int .i64 0,.int .i64 0]) (.int .i64 0)) W=.ok (.agg (Qk 10 0 2 0 0 9 10 0 2 1 0)) W:=fun _=>by kernel_rfl
 have hi1:∀W,Sem.run prog (Instr.index 79 (.agg #[.int .i64 10,.int .i64 0,.int .i64 2,.int .i64 0,.int .i64 0,.int .i64 9,.int .i64 10,.int .i64 0,.int .i64 2,.int .i64 1,.int .i64 0,.int .i64 9,.int .i64 1,.int .i64 2,.int .i64 42,.int .i64 0,.int .i64 0,.int .i64 0,.int .i64 0,.int .i64 0,.int .i64 0,.int .i64 0,.int .i64 15,.int .i64 0,.int .i64 1,.int .i64 0,.int .i64 0,.int .i64 0,.int .i64 0,.int .i64 0,.int .i64 0,.int .i64 0,.int .i64 0]) (.int .i64 1)) W=.ok (.agg (Qkh 9 1 2 42)) W:=fun _=>by kernel_rfl
 have hi2:∀W,Sem.run prog (Instr.index 79 (.agg #[.int .i64 10,.int .i64 0,.int .i64 2,.int .i64 0,.int .i64 0,.int .i64 9,.int .i64 10,.int .i64 0,.int .i64 2,.int .i64 1,.int .i64 0,.int .i64 9,.int .i64 1,.int .i64 2,.int .i64 42,.int .i64 0,.int .i64 0,.int .i64 0,.int .i64 0,.int .i64 0,.int .i64 0,.int .i64 0,.int .i64 15,.int .i64 0,.int .i64 1,.int .i64 0,.int .i64 0,.int .i64 0,.int .i64 0,.int .i64 0,.int .i64 0,.int .i64 0,.int .i64 0]) (.int .i64 2)) W=.ok (.agg (Qki 15 0 1)) W:=fun _=>by kernel_rfl
 go_enter func6,ntmps6
 go_wp2_with fail
 refine(conf27_ok 2 w).mono ?_
 rintro e w1 ⟨rfl,hb1⟩
 have HB1:=zA hb1
 clear hb1
 go_wp2_with fail
 refine(to17_ok 2 2000 0 512 2 1 0 0 2 0 3 w1).mono ?_
 rintro e w2 ⟨rfl,hb2⟩
 have HB2:=zA (HB1.out.trans (hb2.mono HB1.out.size))
 clear hb2 HB1
 go_wp2_with fail
 refine(wnew_ok 2 2000 0 512 2 1 0 0 2 0 3 w2).mono ?_
 rintro e w3 (⟨e,_,_,hno,_⟩ | ⟨W,P,wc,d,r,F,p,c,wn,rfl,h1,h2,h3,h4,h5,h6,hb3,hfr⟩)
 ·exact absurd ⟨by rfl,by rfl,by rfl,of_decide_eq_true (by kernel_rfl)⟩ hno
 have hn2:wc.n=2:=by omega
 have hw2:wn=2:=by omega
 subst hw2
 have hq31:∀w,(binOp .eql 31 (Qp W) (.pointer none)).run prog w=.ok (.bool false) w:=fun _=>rfl
 have bP:=bn w3 (.cells (Qg 0 9 10 0 2 1 0) 38)
 have hP:=heap_alloc_new w3 (.cells (Qg 0 9 10 0 2 1 0) 38)
 have HP:=zA hP
 have HW:=zA (And.intro (h4.below bP) (And.intro h5 (And.intro hn2 (And.intro (h6.below bP) (And.intro (HB2.out.trans ((hb3.trans (bP.mono hb3.size)).mono HB2.out.size)) (fun i hi g hg=>(show w.heap.size≤g∧g≠w3.heap.size from⟨Nat.le_trans HB2.out.size (hfr i hi g hg),by have:=h6.lt hi g hg;omega⟩)))))))
 clear h1 h2 h3 h4 h5 h6 hb3 hfr hn2 bP hP HB2
 go_wp2_with (first
  | refine zJ rfl 38 (.tmp 3) (.tmp 22) Qgh (Qg 0 9 10 0 2 1 0) rfl rfl _ rfl rfl rfl (by kernel_rfl) rfl (by kernel_rfl) rfl ?_
  | refine zH rfl 38 (.tmp 3) w3.heap.size (Qg 0 9 10 0 2 1 0) 38 (0,0) _ rfl rfl HP.out underlying38 rfl (by kernel_rfl) ?_)
 generalize World.alloc w3 (.cells (Qg 0 9 10 0 2 1 0) 38)=w4 at *
 refine wp_loop_rounds 4 ?_
 have b0:=bn w4 (.cells (Qk 10 0 2 0 0 9 10 0 2 1 0) 43)
 have o0:=heap_alloc_new w4 (.cells (Qk 10 0 2 0 0 9 10 0 2 1 0) 43)
 have HO0:=zA o0
 have HB0x:=zA b0
 clear b0 o0
 rw[rounds_succ]
 go_wp2_with (first
  | refine zJ rfl 43 (.tmp 5) (.tmp 30) Qkl (Qk 10 0 2 0 0 9 10 0 2 1 0) rfl rfl _ rfl rfl rfl (by kernel_rfl) rfl (by kernel_rfl) rfl ?_
  | refine zH rfl 43 (.tmp 5) w4.heap.size (Qk 10 0 2 0 0 9 10 0 2 1 0) 43 (0,0) _ rfl rfl HO0.out underlying43 rfl (by kernel_rfl) ?_)
 generalize World.alloc w4 (.cells (Qk 10 0 2 0 0 9 10 0 2 1 0) 43)=w4a at *
 have qM:=Ring.set (HW.out.1.below HB0x.out) HW.out.2.1 (HW.out.2.2.2.1.below HB0x.out) (by omega) 0 (by have:=HW.out.2.2.1;omega) 0
 rw[show((0:Nat):Int)=0 from rfl]at qM
 refine qM.mono ?_
 rintro e w5 ⟨F1,e1,rfl,⟨ho1,hF1⟩,hw1,⟨s1,t1,rfl⟩,hR1⟩
 have hfr1:∀i,i<wc.n→∀g,F1 i g∨(p i).has g→w.heap.size≤g∧g≠w3.heap.size:=fun i hi g hg=>by
  rcases hg with hg | hg
  ·rcases hF1 i g hg with h | h
   ·exact HW.out.2.2.2.2.2 i hi g (.inl h)
   ·have h8:=(gsi.1 HP.out).1
    have h9:=HB0x.out.size
    exact⟨Nat.le_trans (Nat.le_trans HW.out.2.2.2.2.1.size HB0x.out.size) h,by omega⟩
  ·exact HW.out.2.2.2.2.2 i hi g (.inr hg)
 have hb1:Below w.heap.size w w5:=ho1.since (HW.out.2.2.2.2.1.trans (HB0x.out.mono HW.out.2.2.2.2.1.size)) (fun g ⟨i,hi,hg⟩=>(HW.out.2.2.2.2.2 i hi g hg).1)
 have HP5:=zA ((ho1.same _ (Nat.lt_of_lt_of_le (gsi.1 HP.out).1 HB0x.out.size) (fun ⟨i,hi,hg⟩=>(HW.out.2.2.2.2.2 i hi _ hg).2 rfl)).trans (zC HP.out HB0x.out))
 have HW1:=zA (And.intro hw1 (And.intro hR1 (And.intro hfr1 (And.intro hb1 (And.intro HW.out.2.1 HW.out.2.2.1)))))
 clear qM ho1 hF1 hw1 hR1 hfr1 hb1 HO0 HB0x HW HP
 go_wp2_with fail
 have b1:=bn w5 (.cells (Qkh 9 1 2 42) 43)
 have o1:=heap_alloc_new w5 (.cells (Qkh 9 1 2 42) 43)
 have HO1:=zA o1
 have HB1x:=zA b1
 clear b1 o1
 rw[rounds_succ]
 go_wp2_with (first
  | refine zJ rfl 43 (.tmp 5) (.tmp 30) Qkl (Qkh 9 1 2 42) rfl rfl _ rfl rfl rfl (by kernel_rfl) rfl (by kernel_rfl) rfl ?_
  | refine zH rfl 43 (.tmp 5) w5.heap.size (Qkh 9 1 2 42) 43 (0,0) _ rfl rfl HO1.out underlying43 rfl (by kernel_rfl) ?_)
 generalize World.alloc w5 (.cells (Qkh 9 1 2 42) 43)=w5a at *
 refine(Ring.sample (HW1.out.1.below HB1x.out) HW1.out.2.2.2.2.1 (HW1.out.2.1.below HB1x.out) (by omega) 1 2 42 0 0 0 0 0 0 0).mono ?_
 rintro e w6 ⟨F2,⟨ho2,hF2⟩,hw2,(⟨e,⟨he,hz⟩,rfl,_⟩ | ⟨a,e2,rfl,hA,ha,⟨hk2,hwk2,hv2,_⟩,hn2,hR2⟩)⟩
 ·have:=hz ⟨⟨by decide,by have:=HW1.out.2.2.2.2.2;omega⟩,by decide,by decide,by decide⟩
  omega
 obtain rfl:a=1:=by omega
 have hfr2:∀i,i<wc.n→∀g,F2 i g∨(p i).has g→w.heap.size≤g∧g≠w3.heap.size:=fun i hi g hg=>by
  rcases hg with hg | hg
  ·rcases hF2 i g hg with h | h
   ·exact HW1.out.2.2.1 i hi g (.inl h)
   ·have h8:=(gsi.1 HP5.out).1
    have h9:=HB1x.out.size
    exact⟨Nat.le_trans (Nat.le_trans HW1.out.2.2.2.1.size HB1x.out.size) h,by omega⟩
  ·exact HW1.out.2.2.1 i hi g (.inr hg)
 have hb2:Below w.heap.size w w6:=ho2.since (HW1.out.2.2.2.1.trans (HB1x.out.mono HW1.out.2.2.2.1.size)) (fun g ⟨i,hi,hg⟩=>(HW1.out.2.2.1 i hi g hg).1)
 have HP6:=zA ((ho2.same _ (Nat.lt_of_lt_of_le (gsi.1 HP5.out).1 HB1x.out.size) (fun ⟨i,hi,hg⟩=>(HW1.out.2.2.1 i hi _ hg).2 rfl)).trans (zC HP5.out HB1x.out))
 obtain⟨x,hx,hM⟩:=hR2.toM
 have hE2:put1 (put1 (fun _=>[]) 0 [Pl.Ev.mk 0 s1 t1 2 2 0 0 9 10 0 2 1 0]) 1 ((put1 (fun _=>[]) 0 [Pl.Ev.mk 0 s1 t1 2 2 0 0 9 10 0 2 1 0]) 1++[e2])=put1 (put1 (fun _=>[]) 0 [Pl.Ev.mk 0 s1 t1 2 2 0 0 9 10 0 2 1 0]) 1 [e2]:=by rw[zO _ _ (by decide)];rfl
 rw[hE2]at hR2 hM
 have hfl:Pl.flatE (put1 (put1 (fun _=>[]) 0 [Pl.Ev.mk 0 s1 t1 2 2 0 0 9 10 0 2 1 0]) 1 [e2]) wc.n=[Pl.Ev.mk 0 s1 t1 2 2 0 0 9 10 0 2 1 0,e2]:=by
  rw[HW1.out.2.2.2.2.2]
  rfl
 have hlot:=hR2.lot (by rw[hfl];simp) (by
  have hc:=Pl.codes_len (Pl.flatE (put1 (put1 (fun _=>[]) 0 [Pl.Ev.mk 0 s1 t1 2 2 0 0 9 10 0 2 1 0]) 1 [e2]) wc.n) (fun e he=>by
   obtain⟨i,hi,he'⟩:=Pl.mem_flatE.1 he
   exact hR2.oks hi e he')
  rw[hfl]at hc ⊢
  simp only[List.length_cons,List.length_nil]at hc
  omega)
 have HW2:=zA (And.intro hw2 (And.intro hM (And.intro (fun i hi=>(show r i=.pointer (some ⟨(x i).p.a,0,none⟩)from by rw[(hx i hi).1];exact HW1.out.2.2.2.2.1 i hi)) (And.intro hlot (And.intro (fun i hi g hg=>hfr2 i hi g ((hx i hi).2 g hg)) (And.intro hb2 (And.intro HW1.out.2.2.2.2.2 (And.intro hfl hR2.facts))))))))
 have HE2:=zA (And.intro hk2 (And.intro hwk2 (And.intro hv2 hn2)))
 clear ho2 hF2 hw2 hR2 hfr2 hb2 HO1 HB1x HW1 HP5 hx hM hE2 hfl hlot hk2 hwk2 hv2 hn2 hA ha
 go_wp2_with fail
 have b2:=bn w6 (.cells (Qki 15 0 1) 43)
 have o2:=heap_alloc_new w6 (.cells (Qki 15 0 1) 43)
 have HO2:=zA o2
 have HB2x:=zA b2
 clear b2 o2
 rw[rounds_succ]
 go_wp2_with (first
  | refine zJ rfl 43 (.tmp 5) (.tmp 30) Qkl (Qki 15 0 1) rfl rfl _ rfl rfl rfl (by kernel_rfl) rfl (by kernel_rfl) rfl ?_
  | refine zH rfl 43 (.tmp 5) w6.heap.size (Qki 15 0 1) 43 (0,0) _ rfl rfl HO2.out underlying43 rfl (by kernel_rfl) ?_)
 generalize World.alloc w6 (.cells (Qki 15 0 1) 43)=w6a at *
 have hmt:=RingM.meet (HW2.out.1.below HB2x.out) HW2.out.2.2.1 (HW2.out.2.1.below HB2x.out) HW2.out.2.2.2.1.1 HW2.out.2.2.2.1.2 (a:=0) (b:=1) (by have:=HW2.out.2.2.2.2.2.2.1;omega) (by have:=HW2.out.2.2.2.2.2.2.1;omega) (by decide) 0 0 0 0 0 0 0 0
 rw[show((0:Nat):Int)=0 from rfl,show((1:Nat):Int)=1 from rfl]at hmt
 refine hmt.mono ?_
 rintro e w7 ⟨rfl,ho3,hw3,E3,hM3,hS3⟩
 have hb3:Below w.heap.size w w7:=ho3.since (HW2.out.2.2.2.2.2.1.trans (HB2x.out.mono HW2.out.2.2.2.2.2.1.size)) (fun g ⟨i,hi,hg⟩=>(HW2.out.2.2.2.2.1 i hi g hg).1)
 have HP7:=zA ((ho3.same _ (Nat.lt_of_lt_of_le (gsi.1 HP6.out).1 HB2x.out.size) (fun ⟨i,hi,hg⟩=>(HW2.out.2.2.2.2.1 i hi _ hg).2 rfl)).trans (zC HP6.out HB2x.out))
 have HW3:=zA (And.intro hw3 (And.intro hM3 (And.intro hS3 hb3)))
 clear hmt ho3 hw3 hM3 hS3 hb3 HO2 HB2x HP6
 go_wp2_with fail
 rw[rounds_succ]
 go_wp2_with fail
 have hm:=HW3.out.2.1
 have hsm:=HW3.out.2.2.1
 have hpm:∀i,i=0∨i=1→(E3 i).Perm [Pl.Ev.mk 0 s1 t1 2 2 0 0 9 10 0 2 1 0,e2]:=fun i hi=>by
  have h1:=HW2.out.2.2.2.1.1.nd
  rw[HW2.out.2.2.2.2.2.2.2.1]at h1
  obtain⟨_,⟨g1,g2⟩,g3,g4⟩:=hsm
  rcases hi with rfl | rfl
  ·exact(List.perm_ext_iff_of_nodup (Pl.nodup_at g1.1) (Pl.nodup_at h1)).2 fun e=>by rw[g2 e];simp[put1]
  ·exact(List.perm_ext_iff_of_nodup (Pl.nodup_at g3.1) (Pl.nodup_at h1)).2 fun e=>by rw[g4 e];simp[put1]
 have hfc:=HW2.out.2.2.2.2.2.2.2.2
 rw[HW2.out.2.2.2.2.2.2.1]at hfc
 have HQ:=zA (show ∀i,i=0∨i=1→∀V,Below w7.heap.size w7 V→Calls prog 10 #[Qp ((x i).p.a),.int .i64 2] V fun r w'=>r=.returned (.tuple #[.agg (Qb true 0 (s1:Int) 0 9 10 0 2 1 0 42 1 5),.int .i64 0])∧Below V.heap.size V w' from fun i hi V hV=>by
  have hin:i<wc.n:=by have:=HW2.out.2.2.2.2.2.2.1;omega
  obtain⟨cl,ha⟩:=hm.ag i hin
  exact awake_query (AgAt.below ha hV) (hm.cn i hin).2 (hpm i hi) HE2.out hfc)
 have HA0:=zA (fun V (hV:Below w7.heap.size w7 V)=>uP W P wc d r 0 V (HW3.out.1.below hV) (by have:=HW2.out.2.2.2.2.2.2.1;omega))
 have HA1:=zA (fun V (hV:Below w7.heap.size w7 V)=>uP W P wc d r 1 V (HW3.out.1.below hV) (by have:=HW2.out.2.2.2.2.2.2.1;omega))
 rw[HW2.out.2.2.1 0 (by have:=HW2.out.2.2.2.2.2.2.1;omega)]at HA0
 rw[HW2.out.2.2.1 1 (by have:=HW2.out.2.2.2.2.2.2.1;omega)]at HA1
 have HBB:=zA HW3.out.2.2.2
 clear hm hsm hpm hfc HW2 HW3 HE2
 refine(HA0.out w7 (Below.refl _ _)).mono ?_
 rintro e w' ⟨rfl,rfl⟩
 go_wp2_with fail
 refine(HQ.out 0 (.inl rfl) w7 (Below.refl _ _)).mono ?_
 rintro e w8 ⟨rfl,hb8⟩
 have b9:=bn w8 (.cells (Qb true 0 (s1:Int) 0 9 10 0 2 1 0 42 1 5) 47)
 have HX8:=zA (heap_alloc_new w8 (.cells (Qb true 0 (s1:Int) 0 9 10 0 2 1 0 42 1 5) 47))
 have HB8:=zA (hb8.trans (b9.mono hb8.size))
 clear hb8 b9 HA0
 go_wp2_with (refine zJ rfl 47 (.tmp 6) (.tmp 40) (Qbm false) (Qb true 0 (s1:Int) 0 9 10 0 2 1 0 42 1 5) rfl rfl _ rfl rfl rfl (by kernel_rfl) rfl (by kernel_rfl) rfl ?_)
 generalize World.alloc w8 (.cells (Qb true 0 (s1:Int) 0 9 10 0 2 1 0 42 1 5) 47)=w9 at *
 refine(HA1.out w9 HB8.out).mono ?_
 rintro e w' ⟨rfl,rfl⟩
 go_wp2_with fail
 refine(HQ.out 1 (.inr rfl) w9 HB8.out).mono ?_
 rintro e w10 ⟨rfl,hb10⟩
 have b11:=bn w10 (.cells (Qb true 0 (s1:Int) 0 9 10 0 2 1 0 42 1 5) 47)
 have qV:=zA (heap_alloc_new w10 (.cells (Qb true 0 (s1:Int) 0 9 10 0 2 1 0 42 1 5) 47))
 have pH:=zA (zC (zC HX8.out hb10) b11)
 have pT:=zA (HB8.out.trans ((hb10.trans (b11.mono hb10.size)).mono HB8.out.size))
 have HP10:=zA (zC HP7.out pT.out)
 clear hb10 b11 HA1 HQ HP7
 have u0:=cc 0 pH.out
 have u1:=cc 1 pH.out
 have u2:=cc 2 pH.out
 have u3:=cc 3 pH.out
 have u4:=cc 4 pH.out
 have u5:=cc 5 pH.out
 have u6:=cc 6 pH.out
 have u7:=cc 7 pH.out
 have u8:=cc 8 pH.out
 have u9:=cc 9 pH.out
 have u10:=cc 10 pH.out
 have u11:=cc 11 pH.out
 have u12:=cc 12 pH.out
 have v0:=cc 0 qV.out
 have v1:=cc 1 qV.out
 have v2:=cc 2 qV.out
 have v3:=cc 3 qV.out
 have v4:=cc 4 qV.out
 have v5:=cc 5 qV.out
 have v6:=cc 6 qV.out
 have v7:=cc 7 qV.out
 have v8:=cc 8 qV.out
 have v9:=cc 9 qV.out
 have v10:=cc 10 qV.out
 have v11:=cc 11 qV.out
 have v12:=cc 12 qV.out
 have y0:=cc 0 HP10.out
 have y1:=cc 1 HP10.out
 have y2:=cc 2 HP10.out
 have y3:=cc 3 HP10.out
 have y4:=cc 4 HP10.out
 have y5:=cc 5 HP10.out
 have y6:=cc 6 HP10.out
 go_wp2_with (first
  | refine zJ rfl 47 (.tmp 8) (.tmp 46) (Qbm false) (Qb true 0 (s1:Int) 0 9 10 0 2 1 0 42 1 5) rfl rfl _ rfl rfl rfl (by kernel_rfl) rfl (by kernel_rfl) rfl ?_
)
 go_ret
 exact⟨rfl,HBB.out.trans (pT.out.mono HBB.out.size)⟩
end
end Go.Proofs.YtodlmbfbfaofcaaGreat
