/- TopLoads, part 49. -/
import Derived.Deep.Cut
import Derived.Test.YtodlmbfbfaofcaaGreatM01
import Derived.Test.YtodlmbfbfaofcaaGreatM03
import Derived.Test.YtodlmbfbfaofcaaGreatM07
import Derived.Test.YtodlmbfbfaofcaaGreatM46
import Derived.Test.YtodlmbfbfaofcaaGreatM48
open Go.Proofs.Tryz
namespace Go.Proofs.YtodlmbfbfaofcaaGreat
set_option linter.unusedVariables false
set_option linter.unusedSimpArgs false
set_option maxRecDepth 100000
set_option maxHeartbeats 16000000
section
open Go.RowKit Rw Rh
def OpsW (w:World) (la:Option Addr) (ln:Nat):Prop:=∀i,i<ln→∃g off,la=some ⟨g,off,none⟩∧g<w.heap.size∧∃K A B C q0 q1 q2 q3 q4 q5 q6:Int,w.rangeAt g (off+i*11) [.int .i64 K,.int .i64 A,.int .i64 B,.int .i64 C,.int .i64 q0,.int .i64 q1,.int .i64 q2,.int .i64 q3,.int .i64 q4,.int .i64 q5,.int .i64 q6]
theorem tab_len {w:World} {W P n:Nat} {size:Int} {k wn:Nat} {F:Nat→Nat→Prop} {p:Nat→AgP} {c:Nat→Cf} {E:Nat→List Pl.Ev} (h:Ring w W P n size k wn F p c E) (i:Nat):(Pl.tab E n i).length≤k:=by
 unfold Pl.tab
 split
 ·rename_i hi
  rw[List.length_map]
  exact Nat.le_trans (List.length_filter_le _ _) (h.ag _ hi).len
 ·simp
namespace Pl
theorem take_bound {vs:List Int} (h:Small vs) (q:Nat):0≤(vs.take q).foldl (fun s n=>min (s+n) 1099511627776) 0∧(vs.take q).foldl (fun s n=>min (s+n) 1099511627776) 0≤1099511627776:=by
 have h1:Small (vs.take q):=fun v hv=>h v (List.mem_of_mem_take hv)
 have h2:=tD h1
 have h3:=xU h1
 unfold lsum at h2
 rw[h2]
 omega
theorem lsum_bound {vs:List Int} (h:Small vs):0≤lsum vs∧lsum vs≤1099511627776:=by
 have h3:=xU h
 rw[tD h]
 omega
theorem lawOf_bound {f:Nat→List Int} (h:∀i,Small (f i)) (W:Nat):∀k,0≤(lawOf f W k).1∧(lawOf f W k).1≤1099511627776∧(lawOf f W k).2≤k
 | 0=>by unfold lawOf;simp
 | k+1=>by
  obtain⟨h1,h2,h3⟩:=lawOf_bound h W k
  rw[lawOf_succ]
  unfold lawStep
  split
  ·exact⟨h1,h2,Nat.le_succ_of_le h3⟩
  ·have h4:=lsum_bound ((h k).lastN W)
   have h5:=Int.tdiv_nonneg (show 0≤lsum (lastN (f k) W)+(lastN (f k) W).length - 1 by omega) (show 0≤((lastN (f k) W).length:Int) by omega)
   dsimp only
   omega
end Pl
theorem run_quo {o:Oper} {a:Act} {w:World} (x y:Operand) (ho:o.op=.binOp .quo 3 x y 3) {X Y:Int} (hx:a.eval x=.int .i64 X) (hy:a.eval y=.int .i64 Y) (h:(0≤X∧X≤4611686018427387904)∧1≤Y):(execOp a.eval o).run prog w=.ok (.value (.int .i64 (X.tdiv Y))) w:=by
 have h0:¬Y=0:=by omega
 have h2:=Int.tdiv_nonneg h.1.1 (show 0≤Y by omega)
 have h3:=Int.tdiv_le_self Y h.1.1
 have h1:IntKind.i64.wrap (X.tdiv Y)=X.tdiv Y:=by rw[IntKind.wrap_i64];omega
 simp[execOp,ho,hx,hy,binOp,eqGuard,Op.intDiv,h0,h1]
theorem run_cutn {o:Oper} {a:Act} {w:World} (s lo:Operand) (ho:o.op=.slice 34 s (some lo) none none) {ao:Option Addr} {n cap s0 m:Nat} (hs:a.eval s=.slice ao n cap) (hl:a.eval lo=.int .i64 ((s0:Nat):Int)) (hle:s0≤n) (hm:n - s0=m):(execOp a.eval o).run prog w=.ok (.value (.slice (cutK ao cap s0 1) m (cap - s0))) w:=by
 subst hm
 obtain⟨i5,hi5,z0,z1,z2⟩:=info_parts kInt.hi
 have hu:prog.underlying 34=some (.slice 3):=kInt.hu
 have hi:prog.info? 3=some i5:=hi5
 have z1':i5.size=1:=z1
 have h1:(s0:Int)≤(n:Int):=by omega
 simp[execOp,ho,hs,hl,Instr.slice,Instr.sliceAt,run_underlying hu,Instr.sliceBounds,Instr.sliceBound,asIntOf,sizeOf,typeInfo,hi,z1',cutK,h1]
 intro h
 omega
theorem loads_walk (nodes disk nd0 mtu win kp salt seed c0 c1 c2:Int) (la:Option Addr) (ln lc:Nat) (w:World) (hin:OpsW w la ln) (hl:(ln:Int)≤9223372036854775807) :
  Calls prog 3 #[.agg (Qc nodes disk nd0 mtu win kp salt seed c0 c1 c2),.slice la ln lc] w fun e w'=>e=.returned (.bool true)∧Below w.heap.size w w':=by
 have b1:=bn w (.cells (Qc nodes disk nd0 mtu win kp salt seed c0 c1 c2) 28)
 have hx:=heap_alloc_new w (.cells (Qc nodes disk nd0 mtu win kp salt seed c0 c1 c2) 28)
 have HX:=zA hx
 have HB:=zA b1
 have HIN:=zA hin
 have HL:=zA hl
 clear b1 hx hin hl
 go_enter func3,ntmps3
 go_wp2_with fail
 generalize World.alloc w (.cells (Qc nodes disk nd0 mtu win kp salt seed c0 c1 c2) 28)=w1 at *
 refine(awake_ok w1).mono ?_
 rintro e w2 ⟨rfl,hb⟩
 have HX2:=zA (zC HX.out hb)
 have HB2:=zA (HB.out.trans (hb.mono HB.out.size))
 clear hb HX HB
 go_wp2_with (refine zH rfl 28 (.tmp 2) w.heap.size (Qc nodes disk nd0 mtu win kp salt seed c0 c1 c2) 28 (0,0) _ rfl rfl HX2.out underlying28 rfl (by kernel_rfl) ?_)
 refine(made_any nodes disk nd0 mtu win kp salt seed c0 c1 c2 la ln lc 60 w2 HL.out).mono ?_
 rintro e w3 (⟨⟨v,rfl⟩,hb⟩ | ⟨W,P,wc,d,r,F,p,c,wn,rfl,h1,h2,h3,h4,h5,h6,h7,hb,hfr⟩)
 ·have HB3:=zA (HB2.out.trans (hb.mono HB2.out.size))
  clear hb
  go_wp2_with fail
  go_ret
  exact⟨rfl,HB3.out⟩
 ·have hS0:=Smp.start (w2:=w2) h5 h7 hb hfr
  have HS0:=zA hS0
  have HN:=zA (And.intro h1 (And.intro h2 (And.intro h3 (And.intro h4 h6))))
  clear hS0 h1 h2 h3 h4 h5 h6 h7 hb hfr
  go_wp2_with fail
  generalize hV:World.alloc w3 (Obj.cells _ 36)=w4
  have HS1:=zA (show Smp w2 w4 W P w3.heap.size wc d r disk 0 wn F p c (fun _=>[]) (fun _=>.slice none 0 0) (Pl.tab (fun _=>[]) wc.n)from by rw[←hV];exact HS0.out)
  clear hV HS0
  have HM3:=zA (show w2.heap.size≤w3.heap.size from HS1.out.lm)
  go_loopw [34] (fun i wr=>∃(k:Nat) (F:Nat→Nat→Prop) (E:Nat→List Pl.Ev) (v:Nat→Value),k≤ln∧i=.int .i64 k∧Smp w2 wr W P w3.heap.size wc d r disk k wn F p c E v (Pl.tab E wc.n)) (fun i _=>ln - (intOf i).toNat)
  case atStart=>exact⟨0,F,_,_,Nat.zero_le _,rfl,HS1.out⟩
  case round=>
   obtain⟨k,F,E,v,hk,rfl,hS⟩:=hrel
   clear HS1
   by_cases hlt:k<ln
   ·have hbw:=HB2.out.trans (hS.below.mono HB2.out.size)
    obtain⟨g,off,hla,hg,K,A,B,C,q0,q1,q2,q3,q4,q5,q6,hr0⟩:=HIN.out k hlt
    subst hla
    have hrg:∀j u,[.int .i64 K,.int .i64 A,.int .i64 B,.int .i64 C,.int .i64 q0,.int .i64 q1,.int .i64 q2,.int .i64 q3,.int .i64 q4,.int .i64 q5,.int .i64 q6][j]?=some u→wr.cell? ⟨g,off+k*11+j,none⟩=some u:=fun j u hu=>(World.cell?_of_block (a:=⟨g,off+k*11+j,none⟩) (hbw.block g hg)).trans (hr0 j u hu)
    have hji:(k:Int)<ln:=by omega
    have h0:¬(k:Int)<0:=by omega
    have hS60:=HN.out.1
    have a1:(k:Int)+1≤9223372036854775807:=by omega
    have x0:wr.cell? ⟨g,off+k*11,none⟩=some (.int .i64 K):=hrg 0 _ rfl
    have x1:wr.cell? ⟨g,off+k*11+1,none⟩=some (.int .i64 A):=hrg 1 _ rfl
    have x2:wr.cell? ⟨g,off+k*11+2,none⟩=some (.int .i64 B):=hrg 2 _ rfl
    have x3:wr.cell? ⟨g,off+k*11+3,none⟩=some (.int .i64 C):=hrg 3 _ rfl
    have x4:wr.cell? ⟨g,off+k*11+4,none⟩=some (.int .i64 q0):=hrg 4 _ rfl
    have x5:wr.cell? ⟨g,off+k*11+5,none⟩=some (.int .i64 q1):=hrg 5 _ rfl
    have x6:wr.cell? ⟨g,off+k*11+6,none⟩=some (.int .i64 q2):=hrg 6 _ rfl
    have x7:wr.cell? ⟨g,off+k*11+7,none⟩=some (.int .i64 q3):=hrg 7 _ rfl
    have x8:wr.cell? ⟨g,off+k*11+8,none⟩=some (.int .i64 q4):=hrg 8 _ rfl
    have x9:wr.cell? ⟨g,off+k*11+9,none⟩=some (.int .i64 q5):=hrg 9 _ rfl
    have x10:wr.cell? ⟨g,off+k*11+10,none⟩=some (.int .i64 q6):=hrg 10 _ rfl
    have b5:=bn wr (.cells (Qk K A B C q0 q1 q2 q3 q4 q5 q6) 40)
    have o5:=heap_alloc_new wr (.cells (Qk K A B C q0 q1 q2 q3 q4 q5 q6) 40)
    have z0:=cc 0 o5
    have HO5:=zA o5
    have HB5:=zA b5
    have HK:=zA (And.intro hlt hk)
    have HS:=zA hS
    clear hbw hr0 hrg b5 o5 hS hk hS60
    by_cases hK:K=9
    ·subst hK
     clear hlt
     go_wp2_with (first
      | refine zJ rfl 40 (.tmp 9) (.tmp 37) Qkl (Qk 9 A B C q0 q1 q2 q3 q4 q5 q6) rfl rfl _ rfl rfl rfl (by kernel_rfl) rfl (by kernel_rfl) rfl ?_
      | refine zH rfl 40 (.tmp 9) wr.heap.size (Qk 9 A B C q0 q1 q2 q3 q4 q5 q6) 40 (0,0) _ rfl rfl HO5.out underlying40 rfl (by kernel_rfl) ?_)
     generalize World.alloc wr (.cells (Qk 9 A B C q0 q1 q2 q3 q4 q5 q6) 40)=w5 at *
     have hS5:=HS.out.pass HB5.out (Nat.le_refl _)
     refine(Ring.sample hS5.wd HN.out.2.2.2.2 hS5.ring (by have:=HN.out.1;have:=HK.out;omega) A B C q0 q1 q2 q3 q4 q5 q6).mono ?_
     rintro e w6 ⟨F',⟨ho,hF⟩,hw,(⟨e,⟨he,_⟩,rfl,hR⟩ | ⟨a,ev,rfl,rfl,ha,⟨hk1,hwk,hv,hB,hC⟩,hn,hR⟩)⟩
     ·have HS6:=zA (hS5.did ho hF hw hR hS5.one (Nat.le_succ_of_le hS5.tot))
      have e0:(e == 0)=false:=by simpa using he
      clear ho hF hw hR he hS5 HS HB5 HO5 z0
      go_wp2_with fail
      exact⟨⟨k+1,F',E,v,HK.out.1,rfl,HS6.out⟩,by simp[intOf];have:=HK.out;omega⟩
     ·obtain⟨b,rfl,hb8⟩:∃b:Nat,B=b∧b<8:=⟨B.toNat,by omega,by omega⟩
      have hn8:=hS5.wd.n1
      have hab:a*8+b<64:=by omega
      have hS6:=hS5.did (E':=put1 E a (E a++[ev])) ho hF hw hR (fun i hi e he=>by
       by_cases hia:i=a
       ·subst hia
        rw[zQ]at he
        rcases List.mem_append.1 he with h | h
        ·exact hS5.one i hi e h
        ·cases List.mem_singleton.1 h
         exact⟨hk1,by rw[hv];exact hC⟩
       ·rw[zO _ _ hia]at he
        exact hS5.one i hi e he) (by rw[flatE_put1 _ _ _ _ ha];exact Nat.succ_le_succ hS5.tot)
      have hO6:=(ho.same _ (gsi.1 HO5.out).1 (fun ⟨i,hi,hg⟩=>by have:=HS.out.ring.lt hi _ hg;omega)).trans HO5.out
      have htl:=tab_len hS5.ring (a*8+b)
      have rX:=hS6.last.own (a*8+b) hab
      obtain⟨ao,cap,hvf⟩:=rX.toT.form
      have HVF:=zA hvf
      have HO6:=zA hO6
      have HS6:=zA hS6
      have HT:=zA (And.intro ha (And.intro hb8 (And.intro hk1 (And.intro hwk (And.intro hv (And.intro hn (And.intro htl hab)))))))
      have a0:¬(a:Int)<0:=by omega
      have a8:(a:Int)<8:=by omega
      have b0:¬(b:Int)<0:=by omega
      have b8:(b:Int)<8:=by omega
      clear ho hF hw hR hS5 HS HB5 HO5 z0 hO6 rX hvf hS6 htl hk1 hwk hv hB hC hn hn8 hb8 ha hab
      go_wp2_with fail
      refine zD (fun W'=>W'.heap[wr.heap.size]?=some (.cells (Qk 9 (a:Int) (b:Int) C q0 q1 q2 q3 q4 q5 q6) 40 (0,0))) 99 (by kernel_rfl) HO6.out (fun rV=>?_)
      refine tkp 0 45 rfl ?_
      refine tk 1 46 rfl (by intro wS hSw;have x1:=cc 1 hSw;have x2:=cc 2 hSw;have x3:=cc 3 hSw;clear hSw;go_simp;(try with_reducible rfl)) ?_
      refine tkp 2 47 rfl ?_
      refine tk 3 48 rfl (by intro wS hSw;have x1:=cc 1 hSw;have x2:=cc 2 hSw;have x3:=cc 3 hSw;clear hSw;go_simp;(try with_reducible rfl)) ?_
      refine tkp 4 49 rfl ?_
      refine tk 5 50 rfl (by intro wS hSw;have x1:=cc 1 hSw;have x2:=cc 2 hSw;have x3:=cc 3 hSw;clear hSw;go_simp;(try with_reducible rfl)) ?_
      refine tkp 6 51 rfl ?_
      refine tk 7 52 rfl (by intro wS hSw;have x1:=cc 1 hSw;have x2:=cc 2 hSw;have x3:=cc 3 hSw;clear hSw;go_simp;(try with_reducible rfl)) ?_
      refine tkp 8 53 rfl ?_
      refine tkp 9 54 rfl ?_
      refine tkp 11 56 rfl ?_
      refine tk 12 57 rfl (by intro wS hSw;have x1:=cc 1 hSw;have x2:=cc 2 hSw;have x3:=cc 3 hSw;clear hSw;go_simp;(try with_reducible rfl)) ?_
      refine tkp 15 60 rfl ?_
      refine t2 10 13 rfl rfl (fun K hK=>?_) (fun K hK=>?_)
      ·have hl6:w6.drew.heap[w3.heap.size]?=_:=HS6.out.last.blk
       have xl:=zF hl6 (xE v HT.out.2.2.2.2.2.2.2)
       rw[HVF.out]at xl
       go_simp
       refine hK.out _ _ (fun _=>rV) (fun _=>?_)
       clear hK K
       try simp only[List.getElem_toArray,List.getElem_cons_succ,List.getElem_cons_zero,pt,List.set]
       clear xl hl6
       refine t1 13 rfl (fun K hK=>?_)
       go_simp
       have b7:=(bn w6 (.cells (Qo C) 3)).drew
       have HB7:=zA b7
       have qC:=zA (show RowC kInt (w6.alloc (.cells (Qo C) 3)).drew (.slice (some ⟨w6.heap.size,0,none⟩) 1 1) [C]from yJ kInt w6 [C] (Qo C) 1 rfl (by simp[Rk.encs,kInt]))
       have hH7:=zC HO6.out b7
       clear b7 rV
       refine hK.out _ _ (fun _=>hH7) (fun _=>?_)
       clear hK K
       try simp only[List.getElem_toArray,List.getElem_cons_succ,List.getElem_cons_zero,pt,List.set]
       have rV:=hH7
       generalize (World.alloc w6 (.cells (Qo C) 3)).drew=w7 at *
       have hS7:=HS6.out.pass HB7.out (Nat.le_refl _)
       have rX:=hS7.last.own (a*8+b) HT.out.2.2.2.2.2.2.2
       rw[HVF.out]at rX
       refine t1 14 rfl (fun K hK=>?_)
       rw[if_pos (by rfl)]
       refine tP kInt (.tmp 55) (.tmp 58) rfl rfl rX rfl qC.out (by simp) (by have:=HT.out.2.2.2.2.2.2.1;have:=HK.out;have:=HN.out.1;simp;omega) (Below.refl (w3.heap.size+1) w7) (by have:=(hS7.last.lt (.inl rfl)).2;omega) (fun u w8 h1 h2 h3 h4=>?_)
       have pA:=LastAt.more hS7.last HT.out.2.2.2.2.2.2.2 h1 (by rw[HVF.out];exact h3) (by rw[HVF.out];exact h4)
       have hL8:=(h2.block _ (Nat.lt_succ_self _)).trans hS7.last.blk
       have hX8:w8.heap[wr.heap.size]?=_:=(h3.block _ (gsi.1 rV).1 (fun e=>by
        obtain⟨cs,hcs⟩:=zK rX e.symm
        rw[rV]at hcs
        exact zI (by decide) hcs)).trans rV
       have hX9:=(Below.heap_setCell w8 ⟨w3.heap.size,a*8+b,none⟩ u wr.heap.size (fun e=>by have e':wr.heap.size=w3.heap.size:=e;have:=hS7.last.blk;rw[←e',rV]at this;exact zI (by decide) this)).trans hX8
       have HS8:=zA (hS7.wrote pA.2.1 pA.1 pA.2.2)
       obtain⟨ao2,cap2,rfl⟩:=h1.toT.form
       simp only[List.length_append,List.length_singleton]at hX9
       clear h1 h2 h3 h4 rX pA hS7 qC hH7
       refine hK.out _ _ (fun _=>hX8) (fun _=>?_)
       clear hK K
       try simp only[List.getElem_toArray,List.getElem_cons_succ,List.getElem_cons_zero,pt,List.set]
       clear rV
       have rV:=hX8
       refine tkp 16 61 rfl ?_
       have f17:=zB hL8 (a*8+b)
       have x17:=zF hL8 (xE v HT.out.2.2.2.2.2.2.2)
       refine t1 17 rfl (fun K hK=>?_)
       go_simp
       refine hK.out _ _ (fun _=>hX9) (fun _=>?_)
       clear hK K
       try simp only[List.getElem_toArray,List.getElem_cons_succ,List.getElem_cons_zero,pt,List.set]
       refine wd ?_
       have htp:=tab_put E wc.n a b ev HT.out.1 HT.out.2.1 HT.out.2.2.1 HT.out.2.2.2.1 HT.out.2.2.2.2.2.1
       rw[HT.out.2.2.2.2.1]at htp
       have HTP:=zA htp
       clear rV hL8 hX8 hX9 f17 x17 htp
       go_wp2_with fail
       exact⟨⟨k+1,F',put1 E a (E a++[ev]),_,HK.out.1,rfl,by rw[HTP.out];have h:=HS8.out;simp only[List.length_append,List.length_singleton]at h;exact h⟩,by simp[intOf];have:=HK.out;omega⟩
      ·skip
       go_simp
       have b7:=(bn w6 (.cells (Qo C) 3)).drew
       have HB7:=zA b7
       have qC:=zA (show RowC kInt (w6.alloc (.cells (Qo C) 3)).drew (.slice (some ⟨w6.heap.size,0,none⟩) 1 1) [C]from yJ kInt w6 [C] (Qo C) 1 rfl (by simp[Rk.encs,kInt]))
       have hH7:=zC HO6.out b7
       clear b7 rV
       refine hK.out _ _ (fun _=>hH7) (fun _=>?_)
       clear hK K
       try simp only[List.getElem_toArray,List.getElem_cons_succ,List.getElem_cons_zero,pt,List.set]
       have rV:=hH7
       generalize (World.alloc w6 (.cells (Qo C) 3)).drew=w7 at *
       have hS7:=HS6.out.pass HB7.out (Nat.le_refl _)
       refine t1 10 rfl (fun K hK=>?_)
       have xl:=zF hS7.last.blk (xE v HT.out.2.2.2.2.2.2.2)
       rw[HVF.out]at xl
       go_simp
       refine hK.out _ _ (fun _=>rV) (fun _=>?_)
       clear hK K
       try simp only[List.getElem_toArray,List.getElem_cons_succ,List.getElem_cons_zero,pt,List.set]
       clear xl
       have rX:=hS7.last.own (a*8+b) HT.out.2.2.2.2.2.2.2
       rw[HVF.out]at rX
       refine t1 14 rfl (fun K hK=>?_)
       rw[if_pos (by rfl)]
       refine tP kInt (.tmp 55) (.tmp 58) rfl rfl rX rfl qC.out (by simp) (by have:=HT.out.2.2.2.2.2.2.1;have:=HK.out;have:=HN.out.1;simp;omega) (Below.refl (w3.heap.size+1) w7) (by have:=(hS7.last.lt (.inl rfl)).2;omega) (fun u w8 h1 h2 h3 h4=>?_)
       have pA:=LastAt.more hS7.last HT.out.2.2.2.2.2.2.2 h1 (by rw[HVF.out];exact h3) (by rw[HVF.out];exact h4)
       have hL8:=(h2.block _ (Nat.lt_succ_self _)).trans hS7.last.blk
       have hX8:w8.heap[wr.heap.size]?=_:=(h3.block _ (gsi.1 rV).1 (fun e=>by
        obtain⟨cs,hcs⟩:=zK rX e.symm
        rw[rV]at hcs
        exact zI (by decide) hcs)).trans rV
       have hX9:=(Below.heap_setCell w8 ⟨w3.heap.size,a*8+b,none⟩ u wr.heap.size (fun e=>by have e':wr.heap.size=w3.heap.size:=e;have:=hS7.last.blk;rw[←e',rV]at this;exact zI (by decide) this)).trans hX8
       have HS8:=zA (hS7.wrote pA.2.1 pA.1 pA.2.2)
       obtain⟨ao2,cap2,rfl⟩:=h1.toT.form
       simp only[List.length_append,List.length_singleton]at hX9
       clear h1 h2 h3 h4 rX pA hS7 qC hH7
       refine hK.out _ _ (fun _=>hX8) (fun _=>?_)
       clear hK K
       try simp only[List.getElem_toArray,List.getElem_cons_succ,List.getElem_cons_zero,pt,List.set]
       clear rV
       have rV:=hX8
       refine tkp 16 61 rfl ?_
       have f17:=zB hL8 (a*8+b)
       have x17:=zF hL8 (xE v HT.out.2.2.2.2.2.2.2)
       refine t1 17 rfl (fun K hK=>?_)
       go_simp
       refine hK.out _ _ (fun _=>hX9) (fun _=>?_)
       clear hK K
       try simp only[List.getElem_toArray,List.getElem_cons_succ,List.getElem_cons_zero,pt,List.set]
       refine wd ?_
       have htp:=tab_put E wc.n a b ev HT.out.1 HT.out.2.1 HT.out.2.2.1 HT.out.2.2.2.1 HT.out.2.2.2.2.2.1
       rw[HT.out.2.2.2.2.1]at htp
       have HTP:=zA htp
       clear rV hL8 hX8 hX9 f17 x17 htp
       go_wp2_with fail
       exact⟨⟨k+1,F',put1 E a (E a++[ev]),_,HK.out.1,rfl,by rw[HTP.out];have h:=HS8.out;simp only[List.length_append,List.length_singleton]at h;exact h⟩,by simp[intOf];have:=HK.out;omega⟩
    ·have eK:(K == 9)=false:=by simpa using hK
     have nK:(K != 9)=true:=by simpa using hK
     clear hlt
     go_wp2_with (refine zJ rfl 40 (.tmp 9) (.tmp 37) Qkl (Qk K A B C q0 q1 q2 q3 q4 q5 q6) rfl rfl _ rfl rfl rfl (by kernel_rfl) rfl (by kernel_rfl) rfl ?_)
     exact⟨⟨k+1,F,E,v,HK.out.1,rfl,HS.out.pass HB5.out (Nat.le_succ _)⟩,by simp[intOf];have:=HK.out;omega⟩
   ·obtain rfl:k=ln:=by omega
    obtain⟨x,hx,hM⟩:=hS.met
    have hlot:=hS.lot (by have:=HN.out.1;omega)
    have HM:=zA hM
    have HP:=zA (And.intro hlot.1 (And.intro hlot.2 (And.intro hS.ring.facts (And.intro hS.one (fun i hi=>(show r i=.pointer (some ⟨(x i).p.a,0,none⟩)from by rw[hx i hi];exact HN.out.2.2.2.2 i hi))))))
    have HC:=zA (show ∀V,Below w2.heap.size w2 V→V.heap[w.heap.size]?=some (.cells (Qc nodes disk nd0 mtu win kp salt seed c0 c1 c2) 28 (0,0))from fun V hV=>(hV.block _ (gsi.1 HX2.out).1).trans HX2.out)
    have HTL:=zA (show ∀i,(Pl.tab E wc.n i).length≤60 from fun i=>by have h1:=tab_len hS.ring i;have:=HN.out.1;omega)
    have HSM:=zA (show ∀i,Pl.Small (Pl.tab E wc.n i)from fun i y hy=>by
     unfold Pl.tab at hy
     split at hy
     ·rename_i hi
      obtain⟨e,he,rfl⟩:=List.mem_map.1 hy
      exact(hS.one _ hi e (List.mem_filter.1 he).1).2
     ·cases hy)
    clear hx hM hlot hS hk hlt HIN
    go_wp2_with fail
    go_loopw [63] (fun i wr=>∃(t:Nat) (E':Nat→List Pl.Ev),t≤2∧i=.int .i64 t∧Met w2 wr W P w3.heap.size wc d r wn x E' v (Pl.tab E wc.n)∧Pl.Col (Pl.flatE E wc.n) wc.n E t 0 E') (fun i _=>2 - (intOf i).toNat)
    case atStart=>exact⟨0,E,by omega,rfl,HM.out,Pl.Col.start HP.out.2.1⟩
    case round=>
     obtain⟨t,E',ht,rfl,hM,hcol⟩:=hrel
     clear HM
     by_cases htl:t<2
     ·have t1:(t:Int)<2:=by omega
      have t2:(t:Int)+1≤9223372036854775807:=by omega
      have y0:=cc 0 (HC.out wr hM.below)
      rw[←HN.out.2.1]at y0
      have HT:=zA (And.intro htl ht)
      have HM:=zA hM
      have HCOL:=zA hcol
      clear hM hcol ht htl
      go_wp2_with fail
      clear y0
      go_loopw [67] (fun i wr=>∃(j:Nat) (E':Nat→List Pl.Ev),j≤wc.n∧i=.int .i64 j∧Met w2 wr W P w3.heap.size wc d r wn x E' v (Pl.tab E wc.n)∧Pl.Col (Pl.flatE E wc.n) wc.n E t j E') (fun i _=>wc.n - (intOf i).toNat)
      case atStart=>exact⟨0,E',Nat.zero_le _,rfl,HM.out,HCOL.out⟩
      case round=>
       obtain⟨j,E2,hj,rfl,hM,hcol⟩:=hrel
       clear HM HCOL
       have hn1:=hM.wd.n1
       by_cases hjl:j<wc.n
       ·have j1:(j:Int)<(wc.n:Int):=by omega
        have j2:(j:Int)+1≤9223372036854775807:=by omega
        have rY:∀e∈Pl.flatE E wc.n,∃i,i<wc.n∧e∈E i:=fun e he=>Pl.mem_flatE.1 he
        have hcall:Calls prog 8 #[Qp W,.agg (Qki 15 0 (j:Int))] wr fun e w'=>(∃z:Int,e=.returned (.int .i64 z))∧∃E3,Met w2 w' W P w3.heap.size wc d r wn x E3 v (Pl.tab E wc.n)∧Pl.Col (Pl.flatE E wc.n) wc.n E t (j+1) E3:=by
         by_cases hj0:j=0
         ·subst hj0
          refine(meet_self hM.wd 0 (x 0).p.a hjl (HP.out.2.2.2.2 0 hjl) 0 0 0 0 0 0 0 0).mono ?_
          rintro e w' ⟨hz,hb⟩
          exact⟨hz,E2,hM.pass hb,hcol.self hjl rY⟩
         ·refine(RingM.meet hM.wd HP.out.2.2.2.2 hM.ring HP.out.1 (fun i hi=>(hcol.part i hi).1) (a:=0) (b:=j) (by omega) hjl (by omega) 0 0 0 0 0 0 0 0).mono ?_
          rintro e w' ⟨rfl,ho,hw,E3,hR,hs⟩
          exact⟨⟨0,rfl⟩,E3,hM.did ho hw hR,hcol.step hjl hj0 hs rY⟩
        have pG:=zA hcall
        have HJ:=zA hjl
        clear hM hcol hcall hj rY hn1 hjl
        go_wp2_with fail
        refine pG.out.mono ?_
        rintro e w' ⟨⟨z,rfl⟩,E3,hM3,hc3⟩
        have HM3x:=zA (And.intro hM3 hc3)
        clear hM3 hc3 pG
        go_wp2_with fail
        exact⟨⟨j+1,E3,HJ.out,rfl,HM3x.out⟩,by simp[intOf];have:=HJ.out;omega⟩
       ·obtain rfl:j=wc.n:=by omega
        have hc2:=hcol.next (fun e he=>Pl.mem_flatE.1 he)
        have HM2:=zA (And.intro hM hc2)
        clear hM hcol hc2 hj hjl hn1
        go_wp2_with fail
        exact⟨⟨t+1,E2,HT.out.1,rfl,HM2.out⟩,by simp[intOf];have:=HT.out;omega⟩
     ·obtain rfl:t=2:=by omega
      have HM:=zA (And.intro hM hcol)
      clear hM hcol ht htl
      go_wp2_with fail
      generalize wr=wz at *
      have hmz:=HM.out.1
      have HQ:=zA (show ∀i:Nat,i<wc.n→∀k:Nat,k<8→∀V,Below wz.heap.size wz V→Calls prog 10 #[Qp ((x i).p.a),.int .i64 k] V fun e w'=>e=.returned (.tuple #[.agg (Qb false 0 0 0 0 0 0 0 0 0 (Pl.lawOf (fun nd=>Pl.tab E wc.n (nd*8+k)) wn wc.n).1 (Pl.lawOf (fun nd=>Pl.tab E wc.n (nd*8+k)) wn wc.n).2 0),.int .i64 0])∧Below V.heap.size V w' from fun i hi k hk V hV=>by
       have h:=Met.query (hmz.pass hV) HP.out.1 HM.out.2 HP.out.2.2.1 HP.out.2.2.2.1 HN.out.2.2.2.1.2 i k hi hk
       exact h)
      have HAG:=zA (show ∀i:Nat,i<wc.n→∀V,Below wz.heap.size wz V→Calls prog 9 #[Qp W,.int .i64 i] V fun e w'=>e=.returned (Qp ((x i).p.a))∧V=w' from fun i hi V hV=>by
       have h:=uP W P wc d r i V (hmz.wd.below hV) hi
       rw[HP.out.2.2.2.2 i hi]at h
       exact h)
      have HTB:=zA (fun V (hV:Below wz.heap.size wz V)=>hmz.last.below hV)
      have HCC:=zA (fun V (hV:Below wz.heap.size wz V)=>HC.out V (hmz.below.trans (hV.mono hmz.below.size)))
      have HBW:=zA (HB2.out.trans (hmz.below.mono HB2.out.size))
      have HNN:=zA (And.intro hmz.wd.n1 (And.intro HN.out.2.1 (And.intro HN.out.2.2.1 (And.intro HN.out.2.2.2.1 HTL.out))))
      clear hmz HM HP HC HX2 HB2 HN HL HM3
      go_loopw [76] (fun i wr=>∃k:Nat,k≤8∧i=.int .i64 k∧Below wz.heap.size wz wr) (fun i _=>8 - (intOf i).toNat)
      case atStart=>exact⟨0,by omega,rfl,Below.refl _ _⟩
      case round=>
       obtain⟨k,hk,rfl,hb⟩:=hrel
       by_cases hkl:k<8
       ·have k1:(k:Int)<8:=by omega
        have k0:¬(k:Int)<0:=by omega
        have k2:(k:Int)+1≤9223372036854775807:=by omega
        have y0:=cc 0 (HCC.out wr hb)
        rw[←HNN.out.2.1]at y0
        have HK:=zA hkl
        have HBK:=zA hb
        clear hb hk hkl
        go_wp2_with fail
        clear y0
        go_loopw [12,13,81] (fun a b i wr=>∃j:Nat,j≤wc.n∧i=.int .i64 j∧a=.int .i64 (Pl.lawOf (fun nd=>Pl.tab E wc.n (nd*8+k)) wn j).1∧b=.int .i64 ((Pl.lawOf (fun nd=>Pl.tab E wc.n (nd*8+k)) wn j).2:Int)∧Below wz.heap.size wz wr) (fun _ _ i _=>wc.n - (intOf i).toNat)
        case atStart=>exact⟨0,Nat.zero_le _,rfl,rfl,rfl,HBK.out⟩
        case round=>
         obtain⟨j,hj,rfl,rfl,rfl,hb⟩:=hrel
         clear HBK
         have hn1:=HNN.out.1
         by_cases hjl:j<wc.n
         ·have j1:(j:Int)<(wc.n:Int):=by omega
          have j0:¬(j:Int)<0:=by omega
          have j8:(j:Int)<8:=by omega
          have j2:(j:Int)+1≤9223372036854775807:=by omega
          have hjk:j*8+k<64:=by have:=HK.out;omega
          have hlt:=HTB.out wr hb
          have rX:=hlt.own (j*8+k) hjk
          obtain⟨ao,cap,hvf⟩:=rX.toT.form
          have xl:=hlt.cell hjk
          rw[hvf]at xl
          have y4:=cc 4 (HCC.out wr hb)
          rw[←HNN.out.2.2.1]at y4
          have hfl:(Pl.tab E wc.n (j*8+k)).length≤60:=HNN.out.2.2.2.2 _
          have qR:=zA rX
          have HBJ:=zA hb
          have HJ:=zA (And.intro hjl (And.intro hjk hvf))
          have hwn:=HNN.out.2.2.2.1
          obtain⟨len,hlen⟩:∃len,len=(Pl.tab E wc.n (j*8+k)).length:=⟨_,rfl⟩
          rw[←hlen]at xl hfl
          have s1 : -9223372036854775808≤(len:Int) - (wn:Int):=by omega
          have s2:(len:Int) - (wn:Int)≤9223372036854775807:=by omega
          have HLE:=zA (And.intro hlen (And.intro hfl hwn))
          clear hlt rX hvf hb hj hjl hjk hn1 hlen hfl hwn
          obtain⟨m,hm⟩:∃m,len - (len - wn)=m:=⟨_,rfl⟩
          have HMM:=zA hm
          clear hm
          go_upto_region 31 with(refine wE rfl _ (run_cutn (.tmp 89) (.tmp 96) rfl rfl (s0:=len - wn) (by exact congrArg (Value.int .i64) (show max 0 ((len:Int) - (wn:Int))=((len - wn:Nat):Int) by omega)) (Nat.sub_le _ _) HMM.out) ?_)
          have qF:=zA (show ∀V,Below wz.heap.size wz V→RowT kInt V (.slice (cutK ao cap (len - wn) 1) m (cap - (len - wn))) (Pl.lastN (Pl.tab E wc.n (j*8+k)) wn)from fun V hV=>by
           have h1:=((HTB.out V hV).own (j*8+k) HJ.out.2.1).rowS
           rw[HJ.out.2.2,←HLE.out.1,←List.take_append_drop (len - wn) (Pl.tab E wc.n (j*8+k))]at h1
           have h2:=RowS.drop h1
           have h3:((Pl.tab E wc.n (j*8+k)).take (len - wn)).length=len - wn:=by rw[List.length_take,←HLE.out.1];omega
           have h4:((Pl.tab E wc.n (j*8+k)).drop (len - wn)).length=m:=by rw[List.length_drop,←HLE.out.1];exact HMM.out
           rw[h3,h4]at h2
           unfold Pl.lastN
           rw[←HLE.out.1]
           exact h2.1)
          have HLM:=zA (show(Pl.lastN (Pl.tab E wc.n (j*8+k)) wn).length=m from by unfold Pl.lastN;rw[List.length_drop,←HLE.out.1];exact HMM.out)
          have HSMX:=zA (show Pl.Small (Pl.lastN (Pl.tab E wc.n (j*8+k)) wn)from(HSM.out _).lastN wn)
          have hlb:=Pl.lawOf_bound (f:=fun nd=>Pl.tab E wc.n (nd*8+k)) (fun i=>HSM.out _) wn j
          have hm60:m≤60:=by have:=HMM.out;have:=HLE.out.2.1;omega
          have hls:=Pl.lawOf_succ (fun nd=>Pl.tab E wc.n (nd*8+k)) wn j
          unfold Pl.lawStep at hls
          dsimp only at hls
          rw[HLM.out]at hls
          have HLS:=zA hls
          have hj8:=HNN.out.1.2
          clear hls xl y4 s1 s2 j1 j0 j8
          generalize cutK ao cap (len - wn) 1=ao2 at *
          generalize cap - (len - wn)=cap2 at *
          generalize Pl.lastN (Pl.tab E wc.n (j*8+k)) wn=ys at *
          by_cases hm0:m=0
          ·have HM0:=zA hm0
           have em:((m:Int) == 0)=true:=by rw[hm0];rfl
           clear hlb hm0 hm60 hj8
           go_wp2_with fail
           exact⟨⟨j+1,HJ.out.1,rfl,by rw[HLS.out,if_pos HM0.out],by rw[HLS.out,if_pos HM0.out],HBJ.out⟩,by simp[intOf];have:=HJ.out.1;omega⟩
          ·have em:((m:Int) == 0)=false:=by simp;omega
           have HM0:=zA (And.intro hm0 (And.intro hm60 (And.intro hlb hj8)))
           clear hlb hm0 hm60 hj8
           go_wp2_with fail
           go_loopw [16,103] (fun a i wr=>∃q:Nat,q≤m∧i=.int .i64 q∧a=.int .i64 ((ys.take q).foldl (fun s n=>min (s+n) 1099511627776) 0)∧Below wz.heap.size wz wr) (fun _ i _=>m - (intOf i).toNat)
           case atStart=>exact⟨0,Nat.zero_le _,rfl,rfl,HBJ.out⟩
           case round=>
            obtain⟨q,hq,rfl,rfl,hb⟩:=hrel
            clear HBJ
            by_cases hql:q<m
            ·have hqy:q<ys.length:=by rw[HLM.out];exact hql
             have rZ:=qF.out wr hb
             rw[←HLM.out]at rZ
             obtain⟨gy,oy,cy,ey,_,hcy⟩:=rZ.cell hqy
             cases ey
             have xq:wr.cell? ⟨gy,oy+q,none⟩=some (.int .i64 ys[q]):=by
              have h:=hcy 0 (.int .i64 ys[q]) rfl
              have e:oy+q*kInt.k+0=oy+q:=by show oy+q*1+0=oy+q;omega
              rw[e]at h
              exact h
             have q1:(q:Int)<(m:Int):=by omega
             have q0:¬(q:Int)<0:=by omega
             have q2:(q:Int)+1≤9223372036854775807:=by have:=HM0.out.2.1;omega
             have hyq:=HSMX.out ys[q] (List.getElem_mem hqy)
             have hac:=Pl.take_bound HSMX.out q
             have hst:(ys.take (q+1)).foldl (fun s n=>min (s+n) 1099511627776) 0=min ((ys.take q).foldl (fun s n=>min (s+n) 1099511627776) 0+ys[q]) 1099511627776:=by
              rw[List.take_succ_eq_append_getElem hqy,List.foldl_append];rfl
             have HQL:=zA (And.intro hql hst)
             have HBQ:=zA hb
             clear rZ hcy hb hq hql hst
             generalize ys[q]=yq at *
             generalize (ys.take q).foldl (fun s n=>min (s+n) 1099511627776) 0=acc at *
             have s3 : -9223372036854775808≤acc+yq:=by omega
             have s4:acc+yq≤9223372036854775807:=by omega
             clear hqy hyq hac em
             go_wp2_with fail
             exact⟨⟨q+1,HQL.out.1,rfl,by rw[HQL.out.2],HBQ.out⟩,by simp[intOf];have:=HQL.out.1;omega⟩
            ·obtain rfl:q=m:=by omega
             have rY:ys.take q=ys:=List.take_of_length_le (by rw[HLM.out];exact Nat.le_refl _)
             rw[rY]
             have hsb:=Pl.lsum_bound HSMX.out
             have HE1:=zA (show Pl.lsum ys=ys.foldl (fun s n=>min (s+n) 1099511627776) 0 from rfl)
             rw[←HE1.out]
             obtain⟨hl0,hl1,hl2⟩:=HM0.out.2.2.1
             have hq60:=HM0.out.2.1
             have hq0:=HM0.out.1
             have hj8:=HM0.out.2.2.2
             have hjn:=HJ.out.1
             have HLS2:=zA (HLS.out.trans (if_neg HM0.out.1))
             generalize hA:(Pl.lawOf (fun nd=>Pl.tab E wc.n (nd*8+k)) wn j).1=la1 at *
             generalize hB:(Pl.lawOf (fun nd=>Pl.tab E wc.n (nd*8+k)) wn j).2=lb1 at *
             clear hA hB HE1
             generalize hS:Pl.lsum ys=sm at *
             clear hS
             have t1:(lb1:Int)+1≤9223372036854775807:=by omega
             have t2 : -9223372036854775808≤sm+(q:Int):=by omega
             have t3:sm+(q:Int)≤9223372036854775807:=by omega
             have t4 : -9223372036854775808≤sm+(q:Int) - 1:=by omega
             have t5:sm+(q:Int) - 1≤9223372036854775807:=by omega
             have t6:=Int.tdiv_nonneg (show 0≤sm+(q:Int) - 1 by omega) (show 0≤(q:Int) by omega)
             have t7:=Int.tdiv_le_self (q:Int) (show 0≤sm+(q:Int) - 1 by omega)
             have t8 : -9223372036854775808≤(sm+(q:Int) - 1).tdiv q:=by omega
             have t9:(sm+(q:Int) - 1).tdiv q≤9223372036854775807:=by omega
             have ta : -9223372036854775808≤la1+(sm+(q:Int) - 1).tdiv q:=by omega
             have tb:la1+(sm+(q:Int) - 1).tdiv q≤9223372036854775807:=by omega
             have HQF:=zA (show(0≤sm+(q:Int) - 1∧sm+(q:Int) - 1≤4611686018427387904)∧1≤(q:Int) by omega)
             have HBQ:=zA hb
             have HJJ:=zA hjn
             clear hb hq hql rY hsb hl0 hl1 hl2 hq60 hq0 hj8 hjn t6 t7
             go_upto_region 39 with fail
             go_upto_region 40 with(first | refine wE rfl _ (run_quo (.tmp 119) (.tmp 121) rfl rfl rfl HQF.out) ?_)
             go_wp2_with fail
             exact⟨⟨j+1,HJJ.out,rfl,by rw[HLS2.out],by rw[HLS2.out];rfl,HBQ.out⟩,by simp[intOf];have:=HJJ.out;omega⟩
         ·obtain rfl:j=wc.n:=by omega
          have y0:=cc 0 (HCC.out wr hb)
          rw[←HNN.out.2.1]at y0
          have HBL:=zA hb
          clear hb hj hjl hn1
          go_wp2_with fail
          clear y0
          go_loopw [128] (fun i wr=>∃j:Nat,j≤wc.n∧i=.int .i64 j∧Below wz.heap.size wz wr) (fun i _=>wc.n - (intOf i).toNat)
          case atStart=>exact⟨0,Nat.zero_le _,rfl,HBL.out⟩
          case round=>
           obtain⟨j,hj,rfl,hb⟩:=hrel
           clear HBL
           have hn1:=HNN.out.1
           by_cases hjl:j<wc.n
           ·have j1:(j:Int)<(wc.n:Int):=by omega
            have j2:(j:Int)+1≤9223372036854775807:=by omega
            have HJ:=zA hjl
            have HBL:=zA hb
            clear hb hj hjl hn1
            go_wp2_with fail
            refine(HAG.out j HJ.out wr HBL.out).mono ?_
            rintro e w' ⟨rfl,rfl⟩
            go_wp2_with fail
            refine(HQ.out j HJ.out k HK.out wr HBL.out).mono ?_
            rintro e wq ⟨rfl,hbq⟩
            have bq:=bn wq (.cells (Qb false 0 0 0 0 0 0 0 0 0 (Pl.lawOf (fun nd=>Pl.tab E wc.n (nd*8+k)) wn wc.n).1 ((Pl.lawOf (fun nd=>Pl.tab E wc.n (nd*8+k)) wn wc.n).2:Int) 0) 47)
            have hxq:=heap_alloc_new wq (.cells (Qb false 0 0 0 0 0 0 0 0 0 (Pl.lawOf (fun nd=>Pl.tab E wc.n (nd*8+k)) wn wc.n).1 ((Pl.lawOf (fun nd=>Pl.tab E wc.n (nd*8+k)) wn wc.n).2:Int) 0) 47)
            have xa:=cc 10 hxq
            have xb:=cc 11 hxq
            have HBQ:=zA (HBL.out.trans ((hbq.trans (bq.mono hbq.size)).mono HBL.out.size))
            clear hbq bq hxq
            go_wp2_with (refine zJ rfl 47 (.tmp 20) (.tmp 137) (Qbm false) (Qb false 0 0 0 0 0 0 0 0 0 (Pl.lawOf (fun nd=>Pl.tab E wc.n (nd*8+k)) wn wc.n).1 ((Pl.lawOf (fun nd=>Pl.tab E wc.n (nd*8+k)) wn wc.n).2:Int) 0) rfl rfl _ rfl rfl rfl (by kernel_rfl) rfl (by kernel_rfl) rfl ?_)
            exact⟨⟨j+1,HJ.out,rfl,HBQ.out⟩,by simp[intOf];have:=HJ.out;omega⟩
           ·obtain rfl:j=wc.n:=by omega
            have HBL:=zA hb
            clear hb hj hjl hn1
            go_wp2_with fail
            refine⟨?_,?_⟩
            ·(repeat apply Exists.intro)
             exact⟨⟨k+1,HK.out,rfl,HBL.out⟩,rfl⟩
            ·simp[intOf]
             have:=HK.out
             omega
       ·obtain rfl:k=8:=by omega
        have HBL:=zA hb
        clear hb hk hkl
        go_wp2_with fail
        go_ret
        exact⟨rfl,HBW.out.trans (HBL.out.mono HBW.out.size)⟩
end
end Go.Proofs.YtodlmbfbfaofcaaGreat
