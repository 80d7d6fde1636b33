/- TopLoads, part 25. -/
import Derived.Shelf.SlSortCmp.WholeK
import Derived.Test.YtodlmbfbfaofcaaGreatM01
import Derived.Test.YtodlmbfbfaofcaaGreatM03
import Derived.Test.YtodlmbfbfaofcaaGreatM07
import Derived.Test.YtodlmbfbfaofcaaGreatM24
open Go.Proofs.Tryz
namespace Go.Proofs.YtodlmbfbfaofcaaGreat
set_option linter.unusedVariables false
set_option linter.unusedSimpArgs false
set_option maxRecDepth 100000
set_option maxHeartbeats 1000000
section
open Go.RowKit Rw Rh
def itLeft (w:World) (r:Nat):Nat:=match w.heap[r]? with
 | some (.mapIter (some b) _ seen _)=>(match w.heap[b]? with
  | some (.map es _)=>(leftOf es seen).size
  | _=>0)
 | _=>0
theorem ItAt.left_eq {w:World} {r b:Nat} {l left:List ((Nat×Nat)×Value)} (h:ItAt w r b l left):itLeft w r=left.length:=by
 obtain⟨es,clock,since,seen,hb,he,hr,_,hl⟩:=h
 unfold itLeft
 simp only[hr,hb]
 have:=congrArg List.length hl
 simpa using this
theorem ItAt.len {w:World} {r b:Nat} {l left:List ((Nat×Nat)×Value)} (h:ItAt w r b l left):(l.map (·.1)).Nodup:=by
 obtain⟨es,clock,since,seen,hb,he,hr,_,hl⟩:=h
 exact he.keys
theorem bset_ok (ms:Nat) (l:List ((Nat×Nat)×Value)) (w:World) (h:DmAt w ms l) (hl:∀p∈l,p.1.1<8∧1≤p.1.2∧p.1.2≤96) :
  Calls prog 103 #[.map (some ms)] w fun r w'=>∃v O U M,r=.returned v∧SetV w' v O U M∧(∀n s,O n s=true↔∃p∈l,p.1=(n,s))∧Below w.heap.size w w':=by
 have b1:=bn w (.cells (Qv 0 0 0 0 0 0 0 0) 60)
 have b2:=b1.alloc b1.size (.cells (Qv 0 0 0 0 0 0 0 0) 60)
 have hA:=heap_alloc_new w (.cells (Qv 0 0 0 0 0 0 0 0) 60)
 have hA2:=((bn _ (.cells (Qv 0 0 0 0 0 0 0 0) 60)).block _ (gsi.1 hA).1).trans hA
 have hB:=heap_alloc_new (w.alloc (.cells (Qv 0 0 0 0 0 0 0 0) 60)) (.cells (Qv 0 0 0 0 0 0 0 0) 60)
 rw[zE]at hB
 have hm:=h.below b2
 have hms:=h.lt
 obtain⟨o,hrange,hit⟩:=it_range (T:=182) underlying182 hm
 have hsz:((w.alloc (.cells (Qv 0 0 0 0 0 0 0 0) 60)).alloc (.cells (Qv 0 0 0 0 0 0 0 0) 60)).heap.size=w.heap.size+1+1:=by rw[zE,zE]
 have hb3:=(Below.refl ((w.alloc (.cells (Qv 0 0 0 0 0 0 0 0) 60)).alloc (.cells (Qv 0 0 0 0 0 0 0 0) 60)).heap.size ((w.alloc (.cells (Qv 0 0 0 0 0 0 0 0) 60)).alloc (.cells (Qv 0 0 0 0 0 0 0 0) 60))).alloc (Nat.le_refl _) o
 rw[hsz]at hrange hit
 have HA:=zA ((hb3.block _ (gsi.1 hA2).1).trans hA2)
 have HBB:=zA ((hb3.block _ (gsi.1 hB).1).trans hB)
 have HIT:=zA hit
 have HW:=zA (b2.trans (hb3.mono b2.size))
 have HL:=zA hl
 have HMS:=zA hms
 clear b1 b2 hA hA2 hB hm hit hsz hb3 h hl hms
 go_enter func103,ntmps103
 go_wp2_with fail
 generalize ((w.alloc (.cells (Qv 0 0 0 0 0 0 0 0) 60)).alloc (.cells (Qv 0 0 0 0 0 0 0 0) 60)).alloc o=W at *
 go_loopw [10] (fun (u:Value) wr=>∃(done left:List ((Nat×Nat)×Value)) (O:Nat→Nat→Bool) (U:Nat→Nat) (m:Value) (M:List (Nat×Nat)),(done++left).Perm l∧ItAt wr (w.heap.size+1+1) ms l left∧wr.heap[w.heap.size+1]?=some (.cells #[.int .i64 (U 0),.int .i64 (U 1),.int .i64 (U 2),.int .i64 (U 3),.int .i64 (U 4),.int .i64 (U 5),.int .i64 (U 6),.int .i64 (U 7),m] 60 (0,0))∧SetV wr (Pl.setv U m) O U M∧(∀n s,O n s=true↔∃p∈done,p.1=(n,s))∧wr.heap[w.heap.size]?=some (.cells (Qv 0 0 0 0 0 0 0 0) 60 (0,0))∧Below w.heap.size w wr) (fun _ wr=>itLeft wr (w.heap.size+1+1))
 case atStart=>exact⟨[],l,fun _ _=>false,fun _=>0,.slice none 0 0,[],by simp,HIT.out,HBB.out,tL _,fun n s=>by simp,HA.out,HW.out⟩
 case round=>
  obtain⟨done,left,O,U,m,M,qH,hit,hB,qM,hO,hA,hb⟩:=hrel
  have pL:=hit.left_eq
  have hnd:=hit.len
  rcases it_next hit 0 with⟨rfl,qD⟩ | ⟨pre,p,post,w1,o1,rfl,hw1,qD,hit2,hentry⟩
  ·obtain⟨m',hm',hd,hc⟩:=qM
   cases hm'
   obtain⟨ao,cap,rfl,_⟩:=hd.toC
   have hset2:SetV wr (Pl.setv U (.slice ao M.length cap)) O U M:=⟨_,rfl,hd,hc⟩
   have qQ:=zA hset2
   have HAA:=zA hA
   have HBW:=zA hb
   have HOO:=zA (show ∀n s,O n s=true↔∃p∈l,p.1=(n,s)from fun n s=>by
    rw[hO]
    rw[List.append_nil]at qH
    exact⟨fun ⟨p,hp,e⟩=>⟨p,qH.mem_iff.1 hp,e⟩,fun ⟨p,hp,e⟩=>⟨p,qH.mem_iff.2 hp,e⟩⟩)
   have c0:=cc 0 hB
   have c1:=cc 1 hB
   have c2:=cc 2 hB
   have c3:=cc 3 hB
   have c4:=cc 4 hB
   have c5:=cc 5 hB
   have c6:=cc 6 hB
   have c7:=cc 7 hB
   have c8:=cc 8 hB
   have z0:=cc 0 hA
   have z1:=cc 1 hA
   have z2:=cc 2 hA
   have z3:=cc 3 hA
   have z4:=cc 4 hA
   have z5:=cc 5 hA
   have z6:=cc 6 hA
   have z7:=cc 7 hA
   have z8:=cc 8 hA
   have fz:=zB hA
   clear qH hit hB hset2 hd hc hO hA hb pL hnd
   go_wp2_with fail
   have hst:wr.setCells w.heap.size 0 [.int .i64 (U 0),.int .i64 (U 1),.int .i64 (U 2),.int .i64 (U 3),.int .i64 (U 4),.int .i64 (U 5),.int .i64 (U 6),.int .i64 (U 7),.slice ao M.length cap]=(Qhu0 wr w.heap.size U (.slice ao M.length cap):World):=rfl
   have rY:=xA [.int .i64 (U 0),.int .i64 (U 1),.int .i64 (U 2),.int .i64 (U 3),.int .i64 (U 4),.int .i64 (U 5),.int .i64 (U 6),.int .i64 (U 7),.slice ao M.length cap] HAA.out rfl
   have hbz:=xB HBW.out (Nat.le_refl w.heap.size) 0 [.int .i64 (U 0),.int .i64 (U 1),.int .i64 (U 2),.int .i64 (U 3),.int .i64 (U 4),.int .i64 (U 5),.int .i64 (U 6),.int .i64 (U 7),.slice ao M.length cap]
   have pK:=(yF w.heap.size [.int .i64 (U 0),.int .i64 (U 1),.int .i64 (U 2),.int .i64 (U 3),.int .i64 (U 4),.int .i64 (U 5),.int .i64 (U 6),.int .i64 (U 7),.slice ao M.length cap] 0 wr).2.1
   rw[hst]at rY hbz pK
   generalize (Qhu0 wr w.heap.size U (.slice ao M.length cap):World)=Z at *
   clear c0 c1 c2 c3 c4 c5 c6 c7 c8 z0 z1 z2 z3 z4 z5 z6 z7 z8 hst
   have c0:=cc 0 rY
   have c1:=cc 1 rY
   have c2:=cc 2 rY
   have c3:=cc 3 rY
   have c4:=cc 4 rY
   have c5:=cc 5 rY
   have c6:=cc 6 rY
   have c7:=cc 7 rY
   have c8:=cc 8 rY
   refine bodyPost_ret (v:=Pl.setv U (.slice ao M.length cap)) (by simp[results,results103,go_sem,c0,c1,c2,c3,c4,c5,c6,c7,c8,Pl.setv]) rfl ⟨_,O,U,M,rfl,qQ.out.keep (fun g cs fr hg=>pK g (fun e=>?_)),HOO.out,hbz⟩
   rw[e,HAA.out]at hg;exact zI (by decide) hg
  ·have qT:w1.heap=wr.heap:=by rcases hw1 with rfl | rfl<;>rfl
   have hb1:Below w.heap.size w w1:=by
    rcases hw1 with rfl | rfl
    ·exact hb
    ·exact hb.drew
   obtain⟨⟨n,s⟩,pv⟩:=p
   have hb2:=xC hb1 (show w.heap.size≤w.heap.size+1+1 by omega) o1
   have hitl:=hit.lt
   have hB2:(setBlk w1 (w.heap.size+1+1) o1).heap[w.heap.size+1]?=some (.cells #[.int .i64 (U 0),.int .i64 (U 1),.int .i64 (U 2),.int .i64 (U 3),.int .i64 (U 4),.int .i64 (U 5),.int .i64 (U 6),.int .i64 (U 7),m] 60 (0,0)):=(yC w1 _ o1 (by omega)).trans (by rw[qT];exact hB)
   have hA2:(setBlk w1 (w.heap.size+1+1) o1).heap[w.heap.size]?=some (.cells (Qv 0 0 0 0 0 0 0 0) 60 (0,0)):=(yC w1 _ o1 (by omega)).trans (by rw[qT];exact hA)
   have hS2:SetV (setBlk w1 (w.heap.size+1+1) o1) (Pl.setv U m) O U M:=qM.keep (fun g cs fr hg=>by
    rw[yC w1 _ o1 (fun e=>by
     obtain⟨es',c',s1,s2,q1,q2,q3,_⟩:=hit
     rw[e,q3]at hg;cases hg),qT])
   have hent:Sem.run prog (Instr.entry (Qp (w.heap.size+1+1))) (setBlk w1 (w.heap.size+1+1) o1)=.ok (.tuple #[.agg (Qi n s),pv]) (setBlk w1 (w.heap.size+1+1) o1):=hentry _ rfl rfl
   have pU:Sem.run prog (Instr.next (Qp (w.heap.size+1+1)) false 0) wr=.ok (.tuple #[.bool true,.agg (Qi n s),pv]) (setBlk w1 (w.heap.size+1+1) o1):=qD
   have pB:((n,s),pv)∈l:=qH.mem_iff.1 (by simp)
   have hns:=HL.out _ pB
   have hOf:O n s=false:=by
    cases hb:O n s with
    | false=>rfl
    | true=>
     obtain⟨q,hq,e⟩:=(hO n s).1 hb
     have hnd2:=(qH.map (·.1)).nodup_iff.2 hnd
     rw[List.map_append,List.nodup_append]at hnd2
     exact absurd e (hnd2.2.2 q.1 (List.mem_map.2 ⟨q,hq,rfl⟩) (n,s) (by simp))
   have pJ:((done++[((n,s),pv)])++(pre++post)).Perm l:=by
    refine List.Perm.trans ?_ qH
    rw[List.append_assoc]
    refine List.Perm.append_left _ ?_
    exact(List.perm_middle (l₁:=pre) (a:=((n,s),pv)) (l₂:=post)).symm
   have hO2:∀a b,Pl.put1 O n s a b=true↔∃p∈done++[((n,s),pv)],p.1=(a,b):=fun a b=>by
    unfold Pl.put1
    split
    ·rename_i h
     obtain⟨rfl,rfl⟩:=h
     exact⟨fun _=>⟨((a,b),pv),by simp,rfl⟩,fun _=>rfl⟩
    ·rename_i h
     rw[hO]
     constructor
     ·rintro⟨q,hq,e⟩;exact⟨q,by simp[hq],e⟩
     ·rintro⟨q,hq,e⟩
      rcases List.mem_append.1 hq with hq | hq
      ·exact⟨q,hq,e⟩
      ·simp at hq
       subst hq
       simp at e
       exact absurd ⟨e.1.symm,e.2.symm⟩ h
   have hb3:=(Below.refl (setBlk w1 (w.heap.size+1+1) o1).heap.size (setBlk w1 (w.heap.size+1+1) o1)).alloc (Nat.le_refl _) (.cells (Qi n s) 45)
   have hB3:=(hb3.block _ (gsi.1 hB2).1).trans hB2
   have HADD:=zA (add_ok (Pl.setv U m) n s O U M _ (hS2.below hb3) hns.1 hns.2 hOf)
   have HA3:=zA ((hb3.block _ (gsi.1 hA2).1).trans hA2)
   have HB3:=zA hB3
   have HIT3:=zA (hit2.below hb3)
   have HBL3:=zA (hb2.trans (hb3.mono hb2.size))
   have HPERM:=zA pJ
   have HO2:=zA hO2
   have HMEAS:=zA pL
   have c0:=cc 0 hB3
   have c1:=cc 1 hB3
   have c2:=cc 2 hB3
   have c3:=cc 3 hB3
   have c4:=cc 4 hB3
   have c5:=cc 5 hB3
   have c6:=cc 6 hB3
   have c7:=cc 7 hB3
   have c8:=cc 8 hB3
   clear qH hit hB qM hO hA hb pL hnd qT hb1 hb2 hitl hB2 hA2 hS2 qD pB hns hOf pJ hO2 hb3 hB3 hit2 hentry hw1
   go_wp2_with fail
   generalize (setBlk w1 (w.heap.size+1+1) o1).alloc (.cells (Qi n s) 45)=W3 at *
   refine HADD.out.mono ?_
   rintro x w4 ⟨v4,U1,M1,rfl,⟨m1,rfl,hd4,hc4⟩,b4⟩
   obtain⟨ao1,cap1,rfl,_⟩:=hd4.toC
   have b5:=bn w4 (.cells (Qu U1 ao1 M1.length cap1) 60)
   have b45:=b4.trans (b5.mono b4.size)
   have hB5:=(b45.block _ (gsi.1 HB3.out).1).trans HB3.out
   have hS5:SetV _ (Pl.setv U1 (.slice ao1 M1.length cap1)) (Pl.put1 O n s) U1 M1:=SetV.below (w:=w4) ⟨_,rfl,hd4,hc4⟩ b5
   have HS5:=zA hS5
   have HB5:=zA hB5
   have HA5:=zA ((b45.block _ (gsi.1 HA3.out).1).trans HA3.out)
   have HIT5:=zA (HIT3.out.below b45)
   have HBL5:=zA (HBL3.out.trans (b45.mono HBL3.out.size))
   have hxx:=heap_alloc_new w4 (.cells (Qu U1 ao1 M1.length cap1) 60)
   clear c0 c1 c2 c3 c4 c5 c6 c7 c8
   have c0:=cc 0 hB5
   have c1:=cc 1 hB5
   have c2:=cc 2 hB5
   have c3:=cc 3 hB5
   have c4:=cc 4 hB5
   have c5:=cc 5 hB5
   have c6:=cc 6 hB5
   have c7:=cc 7 hB5
   have c8:=cc 8 hB5
   have x0:=cc 0 hxx
   have x1:=cc 1 hxx
   have x2:=cc 2 hxx
   have x3:=cc 3 hxx
   have x4:=cc 4 hxx
   have x5:=cc 5 hxx
   have x6:=cc 6 hxx
   have x7:=cc 7 hxx
   have x8:=cc 8 hxx
   have fz:=zB hB5
   have hne:w4.heap.size≠w.heap.size+1:=fun e=>by
    have:=(gsi.1 HB3.out).1
    have:=b4.size
    omega
   clear b4 b5 b45 hB5 hS5 hxx hd4 hc4 HADD
   go_wp2_with fail
   generalize hW5:w4.alloc (.cells (Qu U1 ao1 M1.length cap1) 60)=W5 at *
   have hst:W5.setCells (w.heap.size+1) 0 [.int .i64 (U1 0),.int .i64 (U1 1),.int .i64 (U1 2),.int .i64 (U1 3),.int .i64 (U1 4),.int .i64 (U1 5),.int .i64 (U1 6),.int .i64 (U1 7),.slice ao1 M1.length cap1]=(Qhu0 W5 (w.heap.size+1) U1 (.slice ao1 M1.length cap1):World):=rfl
   have rY:=xA [.int .i64 (U1 0),.int .i64 (U1 1),.int .i64 (U1 2),.int .i64 (U1 3),.int .i64 (U1 4),.int .i64 (U1 5),.int .i64 (U1 6),.int .i64 (U1 7),.slice ao1 M1.length cap1] HB5.out rfl
   have hbz:=xB HBL5.out (show w.heap.size≤w.heap.size+1 by omega) 0 [.int .i64 (U1 0),.int .i64 (U1 1),.int .i64 (U1 2),.int .i64 (U1 3),.int .i64 (U1 4),.int .i64 (U1 5),.int .i64 (U1 6),.int .i64 (U1 7),.slice ao1 M1.length cap1]
   have pK:=(yF (w.heap.size+1) [.int .i64 (U1 0),.int .i64 (U1 1),.int .i64 (U1 2),.int .i64 (U1 3),.int .i64 (U1 4),.int .i64 (U1 5),.int .i64 (U1 6),.int .i64 (U1 7),.slice ao1 M1.length cap1] 0 W5).2.1
   rw[hst]at rY hbz pK
   have hitz:=HIT5.out.keep (pK ms (by have:=HMS.out;omega)) (pK (w.heap.size+1+1) (by omega))
   have hsz:=HS5.out.keep (fun g cs fr hg=>pK g (fun e=>by rw[e,HB5.out]at hg;exact zI (by decide) hg))
   have haz:=(pK w.heap.size (by omega)).trans HA5.out
   refine⟨⟨done++[((n,s),pv)],pre++post,Pl.put1 O n s,U1,.slice ao1 M1.length cap1,M1,HPERM.out,hitz,rY,hsz,HO2.out,haz,hbz⟩,?_⟩
   rw[hitz.left_eq,HMEAS.out]
   simp
theorem bseen_ok (b ms mh:Nat) (l l':List ((Nat×Nat)×Value)) (clock:Int) (w:World) (h:BkC w b ms mh l l' clock) (hl:∀p∈l,p.1.1<8∧1≤p.1.2∧p.1.2≤96) :
  Calls prog 45 #[Qp b] w fun r w'=>∃v O U M,r=.returned v∧SetV w' v O U M∧(∀n s,O n s=true↔∃p∈l,p.1=(n,s))∧Below w.heap.size w w':=by
 have b1:=bn w (.cells (Qv 0 0 0 0 0 0 0 0) 60)
 have hA:=heap_alloc_new w (.cells (Qv 0 0 0 0 0 0 0 0) 60)
 have hk:=h.below b1
 have qQ:=zA (bset_ok ms l _ hk.seen hl)
 have HB:=zA b1
 have HA:=zA hA
 have c0:=cc 0 hk.cells
 have hq:∀w,(binOp BinOp.eql 111 (Qp b) (.pointer none)).run prog w=.ok (.bool false) w:=fun _=>rfl
 clear b1 hA hk h hl
 go_enter func45,ntmps45
 go_wp2_with fail
 generalize w.alloc (.cells (Qv 0 0 0 0 0 0 0 0) 60)=W at *
 refine qQ.out.mono ?_
 rintro x w1 ⟨v,O,U,M,rfl,hs,hO,b1⟩
 obtain⟨m,rfl,hd,hc⟩:=hs
 obtain⟨ao,cap,rfl,_⟩:=hd.toC
 have hA1:=(b1.block _ (gsi.1 HA.out).1).trans HA.out
 have HS:=zA (show SetV w1 (Pl.setv U (.slice ao M.length cap)) O U M from⟨_,rfl,hd,hc⟩)
 have HB1:=zA (HB.out.trans (b1.mono HB.out.size))
 have HA1:=zA hA1
 have HO:=zA hO
 have z0:=cc 0 hA1
 have z1:=cc 1 hA1
 have z2:=cc 2 hA1
 have z3:=cc 3 hA1
 have z4:=cc 4 hA1
 have z5:=cc 5 hA1
 have z6:=cc 6 hA1
 have z7:=cc 7 hA1
 have z8:=cc 8 hA1
 have fz:=zB hA1
 clear hd hc b1 hA1 hO c0 qQ
 go_wp2_with fail
 have hst:w1.setCells w.heap.size 0 [.int .i64 (U 0),.int .i64 (U 1),.int .i64 (U 2),.int .i64 (U 3),.int .i64 (U 4),.int .i64 (U 5),.int .i64 (U 6),.int .i64 (U 7),.slice ao M.length cap]=(Qhu0 w1 w.heap.size U (.slice ao M.length cap):World):=rfl
 have rY:=xA [.int .i64 (U 0),.int .i64 (U 1),.int .i64 (U 2),.int .i64 (U 3),.int .i64 (U 4),.int .i64 (U 5),.int .i64 (U 6),.int .i64 (U 7),.slice ao M.length cap] HA1.out rfl
 have hbz:=xB HB1.out (Nat.le_refl w.heap.size) 0 [.int .i64 (U 0),.int .i64 (U 1),.int .i64 (U 2),.int .i64 (U 3),.int .i64 (U 4),.int .i64 (U 5),.int .i64 (U 6),.int .i64 (U 7),.slice ao M.length cap]
 have pK:=(yF w.heap.size [.int .i64 (U 0),.int .i64 (U 1),.int .i64 (U 2),.int .i64 (U 3),.int .i64 (U 4),.int .i64 (U 5),.int .i64 (U 6),.int .i64 (U 7),.slice ao M.length cap] 0 w1).2.1
 rw[hst]at rY hbz pK
 generalize (Qhu0 w1 w.heap.size U (.slice ao M.length cap):World)=Z at *
 clear z0 z1 z2 z3 z4 z5 z6 z7 z8 hst
 have c0:=cc 0 rY
 have c1:=cc 1 rY
 have c2:=cc 2 rY
 have c3:=cc 3 rY
 have c4:=cc 4 rY
 have c5:=cc 5 rY
 have c6:=cc 6 rY
 have c7:=cc 7 rY
 have c8:=cc 8 rY
 refine bodyPost_ret (v:=Pl.setv U (.slice ao M.length cap)) (by simp[results,results45,go_sem,c0,c1,c2,c3,c4,c5,c6,c7,c8,Pl.setv]) rfl ⟨_,O,U,M,rfl,HS.out.keep (fun g cs fr hg=>pK g (fun e=>?_)),HO.out,hbz⟩
 rw[e,HA1.out]at hg;exact zI (by decide) hg
end
section
open Go.RowKit Go.Shelf Rw Rh
def sortRen:Go.Shelf.Ren:=⟨fun | 6=>255 | 15=>319 | 14=>318 | 28=>363 | 29=>364 | 20=>355 | 21=>356 | 22=>357 | 23=>358 | 24=>359 | 25=>360 | 26=>361 | 27=>362 | 46=>386 | 47=>387 | 48=>388 | 49=>389 | 50=>390 | 57=>408 | n=>n,fun | 22=>58 | 24=>45 | 25=>376 | 3=>3 | 39=>256 | 0=>0 | 53=>353 | 55=>22 | 4=>4 | 46=>468 | 45=>467 | 50=>178 | 5=>5 | 9=>9 | 66=>490 | 70=>301 | 76=>504 | 77=>505 | n=>n,fun n=>n⟩
theorem sortDots:SlLaysF0.n6 prog sortRen:={
 mixed:=by kernel_rfl,
 f6:=⟨Tryz.f255.name,by decide,func255.trans (congrArg some (by kernel_rfl))⟩,
 f14:=⟨Tryz.f318.name,by decide,func318.trans (congrArg some (by kernel_rfl))⟩,
 f15:=func319.trans (congrArg some (by kernel_rfl)),
 f20:=⟨Tryz.f355.name,by decide,func355.trans (congrArg some (by kernel_rfl))⟩,
 f21:=⟨Tryz.f356.name,by decide,func356.trans (congrArg some (by kernel_rfl))⟩,
 f22:=⟨Tryz.f357.name,by decide,func357.trans (congrArg some (by kernel_rfl))⟩,
 f23:=⟨Tryz.f358.name,by decide,func358.trans (congrArg some (by kernel_rfl))⟩,
 f24:=⟨Tryz.f359.name,by decide,func359.trans (congrArg some (by kernel_rfl))⟩,
 f25:=⟨Tryz.f360.name,by decide,func360.trans (congrArg some (by kernel_rfl))⟩,
 f26:=⟨Tryz.f361.name,by decide,func361.trans (congrArg some (by kernel_rfl))⟩,
 f27:=⟨Tryz.f362.name,by decide,func362.trans (congrArg some (by kernel_rfl))⟩,
 f28:=func363.trans (congrArg some (by kernel_rfl)),
 f29:=func364.trans (congrArg some (by kernel_rfl)),
 f46:=⟨Tryz.f386.name,by decide,func386.trans (congrArg some (by kernel_rfl))⟩,
 f47:=func387.trans (congrArg some (by kernel_rfl)),
 f48:=func388.trans (congrArg some (by kernel_rfl)),
 f49:=⟨Tryz.f389.name,by decide,func389.trans (congrArg some (by kernel_rfl))⟩,
 f50:=⟨Tryz.f390.name,by decide,func390.trans (congrArg some (by kernel_rfl))⟩,
 f57:=⟨Tryz.f408.name,by decide,func408.trans (congrArg some (by kernel_rfl))⟩,
 t0:=underlying0,
 a0:=Tryz.isAgg0,
 z0:=Tryz.sizeOf0,
 v0:=Tryz.zeroValue0,
 t3:=underlying3,
 a3:=Tryz.isAgg3,
 z3:=Tryz.sizeOf3,
 v3:=Tryz.zeroValue3,
 t4:=underlying4,
 a4:=Tryz.isAgg4,
 z4:=Tryz.sizeOf4,
 v4:=Tryz.zeroValue4,
 t5:=underlying5,
 a5:=Tryz.isAgg5,
 z5:=Tryz.sizeOf5,
 v5:=Tryz.zeroValue5,
 t9:=underlying9,
 a9:=Tryz.isAgg9,
 z9:=Tryz.sizeOf9,
 v9:=Tryz.zeroValue9,
 t22:=underlying58,
 a22:=Tryz.isAgg58,
 z22:=Tryz.sizeOf58,
 v22:=Tryz.zeroValue58,
 t25:=underlying376,
 a25:=Tryz.isAgg376,
 z25:=Tryz.sizeOf376,
 v25:=Tryz.zeroValue376,
 t39:=underlying256,
 a39:=Tryz.isAgg256,
 z39:=Tryz.sizeOf256,
 v39:=Tryz.zeroValue256,
 t45:=underlying467,
 a45:=Tryz.isAgg467,
 z45:=Tryz.sizeOf467,
 v45:=Tryz.zeroValue467,
 t46:=underlying468,
 a46:=Tryz.isAgg468,
 z46:=Tryz.sizeOf468,
 v46:=Tryz.zeroValue468,
 t50:=underlying178,
 a50:=Tryz.isAgg178,
 z50:=Tryz.sizeOf178,
 v50:=Tryz.zeroValue178,
 t53:=underlying353,
 a53:=Tryz.isAgg353,
 z53:=Tryz.sizeOf353,
 v53:=Tryz.zeroValue353,
 t55:=underlying22,
 a55:=Tryz.isAgg22,
 z55:=Tryz.sizeOf22,
 v55:=Tryz.zeroValue22,
 t66:=underlying490,
 a66:=Tryz.isAgg490,
 z66:=Tryz.sizeOf490,
 v66:=Tryz.zeroValue490,
 t70:=underlying301,
 a70:=Tryz.isAgg301,
 z70:=Tryz.sizeOf301,
 v70:=Tryz.zeroValue301,
 t76:=underlying504,
 a76:=Tryz.isAgg504,
 z76:=Tryz.sizeOf504,
 v76:=Tryz.zeroValue504,
 t77:=underlying505,
 a77:=Tryz.isAgg505,
 z77:=Tryz.sizeOf505,
 v77:=Tryz.zeroValue505}
abbrev Sd:=Fin 8×Fin 98
def Sd.cells (x:Sd):List Value:=[.int .i64 ((x.1.val:Nat):Int),.int .i64 ((x.2.val:Nat):Int)]
def Sd.cf (x y:Sd):Int:=Pl.cmp (x.1.val:Nat) (x.2.val:Nat) (y.1.val:Nat) (y.2.val:Nat)
def Sd.back (x:Sd):Nat×Nat:=(x.1.val,x.2.val)
theorem Sd.lt_iff (x y:Sd):ltOf Sd.cf x y=true↔Pl.Before x.back y.back:=by
 unfold ltOf Sd.cf Pl.cmp Pl.Before Sd.back
 simp only[decide_eq_true_eq]
 split
 ·rename_i h
  omega
 ·rename_i h
  omega
theorem Sd.swo:Go.Sort.SWO (ltOf Sd.cf) where
 irrefl x:=by
  cases h:ltOf Sd.cf x x with
  | false=>rfl
  | true=>
   have:=(Sd.lt_iff x x).1 h
   unfold Pl.Before at this
   omega
 trans x y z h1 h2:=by
  rw[Sd.lt_iff]at *
  unfold Pl.Before at *
  omega
 ntrans x y z h1 h2:=by
  have k:∀a b:Sd,ltOf Sd.cf a b=false↔¬Pl.Before a.back b.back:=fun a b=>by rw[←Sd.lt_iff];simp
  rw[k]at *
  unfold Pl.Before at *
  omega
theorem dcmp_ok (a b c d:Nat) (w:World) (ha:a≤1000) (hb:b≤1000) (hc:c≤1000) (hd:d≤1000) :
  Calls prog 256 #[.agg (Qi a b),.agg (Qi c d)] w fun e w'=>e=.returned (.int .i64 (Pl.cmp a b c d))∧w'=(w.alloc (.cells (Qi a b) 45)).alloc (.cells (Qi c d) 45):=by
 have e1 : -9223372036854775808≤(a:Int) - c:=by omega
 have e2:(a:Int) - c≤9223372036854775807:=by omega
 have e3 : -9223372036854775808≤(b:Int) - d:=by omega
 have e4:(b:Int) - d≤9223372036854775807:=by omega
 by_cases h:a=c
 ·have h':((a:Int) != c)=false:=by simp[h]
  have HH:=zA (show Pl.cmp a b c d=(b:Int) - d from if_pos (by omega))
  clear h
  go_enter func256,ntmps256
  go_wp2_with fail
  go_ret
  exact⟨congrArg (fun b=>Ending.returned (.int .i64 b)) HH.out.symm,rfl⟩
 ·have h':((a:Int) != c)=true:=by simp;omega
  have HH:=zA (show Pl.cmp a b c d=(a:Int) - c from if_neg (by omega))
  clear h
  go_enter func256,ntmps256
  go_wp2_with fail
  go_ret
  exact⟨congrArg (fun b=>Ending.returned (.int .i64 b)) HH.out.symm,rfl⟩
theorem dcmp_lays (blk off size:Nat) (w:World):CmpLays prog 256 #[] Sd.cells 2 Sd.cf blk off size w:=fun m os dk _ x y=>by
 refine(dcmp_ok x.1.val x.2.val y.1.val y.2.val _ (by omega) (by omega) (by omega) (by omega)).mono ?_
 rintro e w' ⟨rfl,rfl⟩
 exact⟨rfl,0,_,by rw[Go.Sort.alloc_eq_grow,Go.Sort.alloc_eq_grow,Go.Sort.grow_grow];rfl⟩
theorem dsort_core (g cap:Nat) (d:Array Sd) (w:World) (hH:Go.Sort.HoldsK Sd.cells 2 w g 0 d) (hg:g<w.heap.size) (hs:d.size≤1000) :
  Calls prog 255 #[.slice (some ⟨g,0,none⟩) d.size cap,Qm 256] w fun e w'=>e=.returned (.tuple #[])∧∃d' n os,Go.Sort.PermIn 0 d.size d d'∧Go.Sort.SortedIn (ltOf Sd.cf) 0 d.size d'∧w'=sortWorldK Sd.cells 2 w g 0 n d' os:=by
 have eg:∀args w,(callFunc 256 args).run prog w=.ok (.enter 256 args) w:=enters_of func256 (by kernel_rfl) rfl
 exact AnyQ.slices_SortFunc sortDots 2 Tryz.isAgg45 Tryz.sizeOf45 Sd.cells (fun _=>rfl) (fun x v hv=>by simp[Sd.cells]at hv;rcases hv with rfl | rfl<;>rfl) Sd.cf Sd.swo 256 #[] g 0 cap d w eg (dcmp_lays g 0 d.size w) hH hg (by omega)
theorem dins_nil (f:Value) (w:World):Calls prog 355 #[.slice none 0 0,.int .i64 0,.int .i64 0,f] w fun e w'=>e=.returned (.tuple #[])∧w'=w:=by
 go_enter func355,ntmps355
 go_wp2_with fail
 refine wp_loop_rounds 1 ?_
 rw[rounds_succ]
 go_wp2_with fail
 exact yD results355 ⟨rfl,rfl⟩
theorem dpdq_nil (f:Value) (n:Int) (w:World):Calls prog 318 #[.slice none 0 0,.int .i64 0,.int .i64 0,.int .i64 n,f] w fun e w'=>e=.returned (.tuple #[])∧w'=w:=by
 go_enter func318,ntmps318
 go_wp2_with fail
 refine wp_loop_rounds 1 ?_
 rw[rounds_succ]
 go_wp2_with fail
 refine(dins_nil _ _).mono ?_
 rintro e w' ⟨rfl,rfl⟩
 go_wp2_with fail
 exact bodyPost_ret (v:=.tuple #[]) (results_none results318 _ _ _) rfl ⟨rfl,rfl⟩
theorem dsort_nil (w:World):Calls prog 255 #[.slice none 0 0,Qm 256] w fun e w'=>e=.returned (.tuple #[])∧Below w.heap.size w w':=by
 have hl:∀w,Calls prog 319 #[.int .u64 0] w fun e w'=>(∃n:Int,e=.returned (.int .i64 n))∧w'=w:=fun w=>
  (Any.bits_Len (SlLaysF0.n15.bits (P:=prog) (ρ:=sortRen) {sortDots with}) 0 w (by omega) (by omega)).mono (by rintro e w' ⟨rfl,rfl⟩;exact⟨⟨_,rfl⟩,rfl⟩)
 have HL:=zA hl
 clear hl
 go_enter func255,ntmps255
 go_wp2_with fail
 refine(HL.out w).mono ?_
 rintro e w' ⟨⟨n,rfl⟩,rfl⟩
 go_wp2_with fail
 refine(dpdq_nil _ _ _).mono ?_
 rintro e w' ⟨rfl,rfl⟩
 go_wp2_with fail
 exact yD results255 ⟨rfl,Below.refl _ _⟩
def Sd.of (x:Nat×Nat):Sd:=(⟨x.1%8,Nat.mod_lt _ (by decide)⟩,⟨x.2%98,Nat.mod_lt _ (by decide)⟩)
theorem Sd.back_of {x:Nat×Nat} (h:x.1<8∧x.2<98):(Sd.of x).back=x:=by
 unfold Sd.of Sd.back
 simp only[Nat.mod_eq_of_lt h.1,Nat.mod_eq_of_lt h.2]
theorem Sd.cells_back (x:Sd):x.cells=kDot.enc x.back:=rfl
theorem sd_get (d:Array Sd) (j:Nat) (hj:j<d.size*2):some (Go.Sort.flatK Sd.cells 2 d)[j]! = (kDot.encs (d.toList.map Sd.back))[j]?:=by
 rw[Go.Sort.get_flatK _ _ _ _ hj]
 have hi:j / 2<d.size:=by omega
 have h1:=kDot.encs_get (d.toList.map Sd.back) (j / 2) (j%2) (by simpa using hi) (show j%2<2 by omega)
 rw[show j / 2*kDot.k+j%2=j from by show j / 2*2+j%2=j;omega]at h1
 rw[h1,getElem!_pos d (j / 2) hi]
 simp only[List.getElem_map,Array.getElem_toList]
 have hl:(kDot.enc (d[j / 2]).back).length=2:=kDot.hlen _
 have hm:j%2<(kDot.enc (d[j / 2]).back).length:=by rw[hl];omega
 rw[List.getElem?_eq_getElem hm,Sd.cells_back,getElem!_pos (kDot.enc (d[j / 2]).back) (j%2) hm]
theorem dsort_ok (g cap base:Nat) (ds:List (Nat×Nat)) (w:World) (ho:OwnR kDot base w (.slice (some ⟨g,0,none⟩) ds.length cap) ds) (hd:∀d∈ds,d.1<8∧d.2<98) (hn:ds.Nodup) (hl:ds.length≤1000) :
  Calls prog 255 #[.slice (some ⟨g,0,none⟩) ds.length cap,Qm 256] w fun e w'=>e=.returned (.tuple #[])∧∃ds',ds'.Perm ds∧ds'.Pairwise Pl.Before∧OwnR kDot base w' (.slice (some ⟨g,0,none⟩) ds.length cap) ds'∧Off (· = g) w w':=by
 rcases id ho.2 with⟨h,_⟩ | ⟨g',cap',cur,hv,hbg,hg,hnc,hcm,hcs,htake⟩
 ·cases h
 cases hv
 change w.heap[g]?=some (.cells cur 45 (0,0))at hg
 change cur.size=cap*2 at hcs
 change cur.toList.take (ds.length*2)=kDot.encs ds at htake
 have hlt:=(gsi.1 hg).1
 have hback:((ds.map Sd.of).toArray.toList.map Sd.back)=ds:=by
  simp only[List.map_map]
  conv=>rhs;rw[←List.map_id ds]
  exact List.map_congr_left (fun x hx=>Sd.back_of (hd x hx))
 have hsz:(ds.map Sd.of).toArray.size=ds.length:=by simp
 have pD:∀j,j<ds.length*2→cur[j]?=(kDot.encs ds)[j]?:=fun j hj=>by
  rw[←htake,List.getElem?_take,if_pos hj];simp
 have hH:Go.Sort.HoldsK Sd.cells 2 w g 0 (ds.map Sd.of).toArray:=fun j hj=>by
  rw[Go.Sort.size_flatK,hsz]at hj
  refine⟨?_,zB hg _⟩
  have h1:=sd_get (ds.map Sd.of).toArray j (by rw[hsz];exact hj)
  rw[hback,←pD j hj]at h1
  rw[Nat.zero_add]
  exact zF hg h1.symm
 have hcore:=dsort_core g cap (ds.map Sd.of).toArray w hH hlt (by rw[hsz];exact hl)
 rw[hsz]at hcore
 refine hcore.mono ?_
 rintro e w' ⟨rfl,d',n,os,⟨hp1,_,hp2⟩,hso,rfl⟩
 rw[hsz]at hp1
 have qH:(d'.toList.map Sd.back).Perm ds:=by
  have h1:d'.toList.Perm (ds.map Sd.of).toArray.toList:=by
   have e1:d'.extract 0 ds.length=d':=by rw[←hp1];simp
   have e2:(ds.map Sd.of).toArray.extract 0 ds.length=(ds.map Sd.of).toArray:=by rw[←hsz];exact Array.extract_size
   rw[e1,e2]at hp2
   exact hp2
  have:=h1.map Sd.back
  rw[hback]at this
  exact this
 have hlen':(d'.toList.map Sd.back).length=ds.length:=by simp[hp1]
 refine⟨rfl,d'.toList.map Sd.back,qH,?_,?_,?_⟩
 ·rw[List.pairwise_iff_getElem]
  intro i j hi hj hij
  have hi':i<d'.size:=by simpa using hi
  have hj':j<d'.size:=by simpa using hj
  have h1:=hso i j (Nat.zero_le _) hij (by omega)
  rw[getElem!_pos d' i hi',getElem!_pos d' j hj']at h1
  have h2:¬Pl.Before (d'[j]).back (d'[i]).back:=fun h=>by
   rw[(Sd.lt_iff _ _).2 h]at h1;cases h1
  have hnd:=qH.nodup_iff.2 hn
  have h3:(d'.toList.map Sd.back)[i]≠(d'.toList.map Sd.back)[j]:=fun e=>by
   have:=(List.getElem_inj (h₀:=hi) (h₁:=hj) hnd).1 e
   omega
  simp only[List.getElem_map,Array.getElem_toList]at h3 ⊢
  unfold Pl.Before at *
  have h4:¬((d'[i]).back.1=(d'[j]).back.1∧(d'[i]).back.2=(d'[j]).back.2):=fun h=>h3 (Prod.ext h.1 h.2)
  omega
 ·have qT:(sortWorldK Sd.cells 2 w g 0 n d' os).heap[g]?=some (.cells (Go.Sort.putCells id 0 (Go.Sort.flatK Sd.cells 2 d') cur) 45 (0,0)):=by
   unfold sortWorldK
   rw[Go.Sort.heap_grow_old _ _ (by unfold Go.Sort.putRowK;rw[Go.Sort.size_putRow];exact hlt)]
   unfold Go.Sort.putRowK Go.Sort.putRow Go.Sort.mapBlock
   simp only[Array.getElem?_modify,Go.Sort.heap_ahead,if_true,hg,Option.map_some,Go.Sort.onCells]
  have hsz2:(Go.Sort.putCells id 0 (Go.Sort.flatK Sd.cells 2 d') cur).size=cap*2:=by
   unfold Go.Sort.putCells
   rw[Array.size_mapIdx]
   exact hcs
  have htk:(Go.Sort.putCells id 0 (Go.Sort.flatK Sd.cells 2 d') cur).toList.take (ds.length*2)=kDot.encs (d'.toList.map Sd.back):=by
   apply List.ext_getElem?
   intro i
   rw[List.getElem?_take]
   split
   ·rename_i hi
    have hic:i<cur.size:=by
     rw[hcs]
     omega
    rw[←sd_get d' i (by omega)]
    unfold Go.Sort.putCells
    rw[Array.getElem?_toList,Array.getElem?_mapIdx,Array.getElem?_eq_getElem hic,Option.map_some,if_pos ⟨Nat.zero_le _,by rw[Go.Sort.size_flatK];omega⟩]
    rfl
   ·rename_i hi
    rw[List.getElem?_eq_none]
    rw[kDot.encs_length,hlen']
    have h2:kDot.k=2:=rfl
    rw[h2]
    omega
  refine⟨by rw[kDot.encs_length,hlen'],.inr ⟨g,cap,_,by rw[hlen'],hbg,qT,by rw[hlen'];exact hnc,hcm,hsz2,by rw[hlen'];exact htk⟩⟩
 ·refine⟨?_,fun k hk hne=>?_,rfl,rfl,rfl⟩
  ·unfold sortWorldK Go.Sort.putRowK
   rw[Go.Sort.size_grow,Go.Sort.size_putRow,Go.Sort.heap_ahead]
   omega
  ·unfold sortWorldK
   rw[Go.Sort.heap_grow_old _ _ (by unfold Go.Sort.putRowK;rw[Go.Sort.size_putRow];exact hk)]
   unfold Go.Sort.putRowK Go.Sort.putRow Go.Sort.mapBlock
   simp only[Array.getElem?_modify,Go.Sort.heap_ahead]
   rw[if_neg (fun e=>hne e.symm)]
theorem dsort_any (base:Nat) (v:Value) (ds:List (Nat×Nat)) (w:World) (ho:OwnR kDot base w v ds) (hd:∀d∈ds,d.1<8∧d.2<98) (hn:ds.Nodup) (hl:ds.length≤1000) :
  Calls prog 255 #[v,Qm 256] w fun e w'=>e=.returned (.tuple #[])∧∃ds',ds'.Perm ds∧ds'.Pairwise Pl.Before∧OwnR kDot base w' v ds'∧Off (fun g=>v.ownBlock=some g) w w':=by
 rcases id ho.2 with⟨rfl,h0⟩ | ⟨g,cap,cur,rfl,_⟩
 ·have:ds=[]:=List.eq_nil_of_length_eq_zero h0
  subst this
  refine(dsort_nil w).mono ?_
  rintro e w' ⟨rfl,hb⟩
  exact⟨rfl,[],List.Perm.refl _,List.Pairwise.nil,yH _ _ _,Off.of_below hb⟩
 ·refine(dsort_ok g cap base ds w ho hd hn hl).mono ?_
  rintro e w' ⟨rfl,ds',h1,h2,h3,h4⟩
  exact⟨rfl,ds',h1,h2,by have:=h1.length_eq;rw[←this]at h3;rw[←this];exact h3,h4.mono (fun g _ e=>by rw[show g=_ from e];rfl)⟩
end
end Go.Proofs.YtodlmbfbfaofcaaGreat
