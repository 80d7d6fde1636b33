/- TopPolicies, part 18. -/
import Derived.Shelf.SlSortCmp.WholeK
import Derived.Test.YtodlmbfbfaofcaaGreatM01
import Derived.Test.YtodlmbfbfaofcaaGreatM02
import Derived.Test.YtodlmbfbfaofcaaGreatM04
import Derived.Test.YtodlmbfbfaofcaaGreatM08
import Derived.Test.YtodlmbfbfaofcaaGreatM17
open Go.Proofs.Tryz
namespace Go.Proofs.YtodlmbfbfaofcaaGreat
set_option linter.unusedVariables false
set_option linter.unusedSimpArgs false
set_option maxRecDepth 100000
set_option maxHeartbeats 1000000
section
open Go.RowKit Rw Rh
def itLeft (w:World) (r:Nat):Nat:=match w.heap[r]? with
 | some (.mapIter (some b) _ seen _)=>(match w.heap[b]? with
  | some (.map es _)=>(leftOf es seen).size
  | _=>0)
 | _=>0
theorem ItAt.left_eq {w:World} {r b:Nat} {l left:List ((Nat×Nat)×Value)} (h:ItAt w r b l left):itLeft w r=left.length:=by
 obtain⟨es,clock,since,seen,hb,he,hr,_,hl⟩:=h
 unfold itLeft
 simp only[hr,hb]
 have:=congrArg List.length hl
 simpa using this
theorem ItAt.len {w:World} {r b:Nat} {l left:List ((Nat×Nat)×Value)} (h:ItAt w r b l left):(l.map (·.1)).Nodup:=by
 obtain⟨es,clock,since,seen,hb,he,hr,_,hl⟩:=h
 exact he.keys
theorem bset_ok (ms:Nat) (l:List ((Nat×Nat)×Value)) (w:World) (h:DmAt w ms l) (hl:∀p∈l,p.1.1<8∧1≤p.1.2∧p.1.2≤96) :
  Calls prog 103 #[.map (some ms)] w fun r w'=>∃v O U M,r=.returned v∧SetV w' v O U M∧(∀n s,O n s=true↔∃p∈l,p.1=(n,s))∧Below w.heap.size w w':=by
 have b1:=bn w (.cells (Qv 0 0 0 0 0 0 0 0) 60)
 have b2:=b1.alloc b1.size (.cells (Qv 0 0 0 0 0 0 0 0) 60)
 have hA:=heap_alloc_new w (.cells (Qv 0 0 0 0 0 0 0 0) 60)
 have hA2:=((bn _ (.cells (Qv 0 0 0 0 0 0 0 0) 60)).block _ (gsi.1 hA).1).trans hA
 have hB:=heap_alloc_new (w.alloc (.cells (Qv 0 0 0 0 0 0 0 0) 60)) (.cells (Qv 0 0 0 0 0 0 0 0) 60)
 rw[zG]at hB
 have hm:=h.below b2
 have hms:=h.lt
 obtain⟨o,hrange,hit⟩:=it_range (T:=182) underlying182 hm
 have hsz:((w.alloc (.cells (Qv 0 0 0 0 0 0 0 0) 60)).alloc (.cells (Qv 0 0 0 0 0 0 0 0) 60)).heap.size=w.heap.size+1+1:=by rw[zG,zG]
 have hb3:=(Below.refl ((w.alloc (.cells (Qv 0 0 0 0 0 0 0 0) 60)).alloc (.cells (Qv 0 0 0 0 0 0 0 0) 60)).heap.size ((w.alloc (.cells (Qv 0 0 0 0 0 0 0 0) 60)).alloc (.cells (Qv 0 0 0 0 0 0 0 0) 60))).alloc (Nat.le_refl _) o
 rw[hsz]at hrange hit
 have HA:=zA ((hb3.block _ (gsi.1 hA2).1).trans hA2)
 have HBB:=zA ((hb3.block _ (gsi.1 hB).1).trans hB)
 have HIT:=zA hit
 have HW:=zA (b2.trans (hb3.mono b2.size))
 have HL:=zA hl
 have HMS:=zA hms
 clear b1 b2 hA hA2 hB hm hit hsz hb3 h hl hms
 go_enter func103,ntmps103
 go_wp2_with fail
 generalize ((w.alloc (.cells (Qv 0 0 0 0 0 0 0 0) 60)).alloc (.cells (Qv 0 0 0 0 0 0 0 0) 60)).alloc o=W at *
 go_loopw [10] (fun (u:Value) wr=>∃(done left:List ((Nat×Nat)×Value)) (O:Nat→Nat→Bool) (U:Nat→Nat) (m:Value) (M:List (Nat×Nat)),(done++left).Perm l∧ItAt wr (w.heap.size+1+1) ms l left∧wr.heap[w.heap.size+1]?=some (.cells #[.int .i64 (U 0),.int .i64 (U 1),.int .i64 (U 2),.int .i64 (U 3),.int .i64 (U 4),.int .i64 (U 5),.int .i64 (U 6),.int .i64 (U 7),m] 60 (0,0))∧SetV wr (Pl.setv U m) O U M∧(∀n s,O n s=true↔∃p∈done,p.1=(n,s))∧wr.heap[w.heap.size]?=some (.cells (Qv 0 0 0 0 0 0 0 0) 60 (0,0))∧Below w.heap.size w wr) (fun _ wr=>itLeft wr (w.heap.size+1+1))
 case atStart=>exact⟨[],l,fun _ _=>false,fun _=>0,.slice none 0 0,[],by simp,HIT.out,HBB.out,tT _,fun n s=>by simp,HA.out,HW.out⟩
 case round=>
  obtain⟨done,left,O,U,m,M,qN,hit,hB,qQ,hO,hA,hb⟩:=hrel
  have pX:=hit.left_eq
  have hnd:=hit.len
  rcases it_next hit 0 with⟨rfl,qH⟩ | ⟨pre,p,post,w1,o1,rfl,hw1,qH,hit2,hentry⟩
  ·obtain⟨m',hm',hd,hc⟩:=qQ
   cases hm'
   obtain⟨ao,cap,rfl,_⟩:=hd.toC
   have hset2:SetV wr (Pl.setv U (.slice ao M.length cap)) O U M:=⟨_,rfl,hd,hc⟩
   have qW:=zA hset2
   have HAA:=zA hA
   have HBW:=zA hb
   have HOO:=zA (show ∀n s,O n s=true↔∃p∈l,p.1=(n,s)from fun n s=>by
    rw[hO]
    rw[List.append_nil]at qN
    exact⟨fun ⟨p,hp,e⟩=>⟨p,qN.mem_iff.1 hp,e⟩,fun ⟨p,hp,e⟩=>⟨p,qN.mem_iff.2 hp,e⟩⟩)
   have c0:=cc 0 hB
   have c1:=cc 1 hB
   have c2:=cc 2 hB
   have c3:=cc 3 hB
   have c4:=cc 4 hB
   have c5:=cc 5 hB
   have c6:=cc 6 hB
   have c7:=cc 7 hB
   have c8:=cc 8 hB
   have z0:=cc 0 hA
   have z1:=cc 1 hA
   have z2:=cc 2 hA
   have z3:=cc 3 hA
   have z4:=cc 4 hA
   have z5:=cc 5 hA
   have z6:=cc 6 hA
   have z7:=cc 7 hA
   have z8:=cc 8 hA
   have fz:=zB hA
   clear qN hit hB hset2 hd hc hO hA hb pX hnd
   go_wp2_with fail
   have hst:wr.setCells w.heap.size 0 [.int .i64 (U 0),.int .i64 (U 1),.int .i64 (U 2),.int .i64 (U 3),.int .i64 (U 4),.int .i64 (U 5),.int .i64 (U 6),.int .i64 (U 7),.slice ao M.length cap]=(Qhu0 wr w.heap.size U (.slice ao M.length cap):World):=rfl
   have qF:=xA [.int .i64 (U 0),.int .i64 (U 1),.int .i64 (U 2),.int .i64 (U 3),.int .i64 (U 4),.int .i64 (U 5),.int .i64 (U 6),.int .i64 (U 7),.slice ao M.length cap] HAA.out rfl
   have hbz:=xB HBW.out (Nat.le_refl w.heap.size) 0 [.int .i64 (U 0),.int .i64 (U 1),.int .i64 (U 2),.int .i64 (U 3),.int .i64 (U 4),.int .i64 (U 5),.int .i64 (U 6),.int .i64 (U 7),.slice ao M.length cap]
   have pW:=(yB w.heap.size [.int .i64 (U 0),.int .i64 (U 1),.int .i64 (U 2),.int .i64 (U 3),.int .i64 (U 4),.int .i64 (U 5),.int .i64 (U 6),.int .i64 (U 7),.slice ao M.length cap] 0 wr).2.1
   rw[hst]at qF hbz pW
   generalize (Qhu0 wr w.heap.size U (.slice ao M.length cap):World)=Z at *
   clear c0 c1 c2 c3 c4 c5 c6 c7 c8 z0 z1 z2 z3 z4 z5 z6 z7 z8 hst
   have c0:=cc 0 qF
   have c1:=cc 1 qF
   have c2:=cc 2 qF
   have c3:=cc 3 qF
   have c4:=cc 4 qF
   have c5:=cc 5 qF
   have c6:=cc 6 qF
   have c7:=cc 7 qF
   have c8:=cc 8 qF
   refine bodyPost_ret (v:=Pl.setv U (.slice ao M.length cap)) (by simp[results,results103,go_sem,c0,c1,c2,c3,c4,c5,c6,c7,c8,Pl.setv]) rfl ⟨_,O,U,M,rfl,qW.out.keep (fun g cs fr hg=>pW g (fun e=>?_)),HOO.out,hbz⟩
   rw[e,HAA.out]at hg;exact zH lF hg
  ·have pA:w1.heap=wr.heap:=by rcases hw1 with rfl | rfl<;>rfl
   have hb1:Below w.heap.size w w1:=by
    rcases hw1 with rfl | rfl
    ·exact hb
    ·exact hb.drew
   obtain⟨⟨n,s⟩,pv⟩:=p
   have hb2:=xC hb1 (show w.heap.size≤w.heap.size+1+1 by omega) o1
   have hitl:=hit.lt
   have hB2:(setBlk w1 (w.heap.size+1+1) o1).heap[w.heap.size+1]?=some (.cells #[.int .i64 (U 0),.int .i64 (U 1),.int .i64 (U 2),.int .i64 (U 3),.int .i64 (U 4),.int .i64 (U 5),.int .i64 (U 6),.int .i64 (U 7),m] 60 (0,0)):=(zY w1 _ o1 lD).trans (by rw[pA];exact hB)
   have hA2:(setBlk w1 (w.heap.size+1+1) o1).heap[w.heap.size]?=some (.cells (Qv 0 0 0 0 0 0 0 0) 60 (0,0)):=(zY w1 _ o1 lD).trans (by rw[pA];exact hA)
   have hS2:SetV (setBlk w1 (w.heap.size+1+1) o1) (Pl.setv U m) O U M:=qQ.keep (fun g cs fr hg=>by
    rw[zY w1 _ o1 (fun e=>by
     obtain⟨es',c',s1,s2,q1,q2,q3,_⟩:=hit
     rw[e,q3]at hg;cases hg),pA])
   have hent:Sem.run prog (Instr.entry (Qp (w.heap.size+1+1))) (setBlk w1 (w.heap.size+1+1) o1)=.ok (.tuple #[.agg (Qi n s),pv]) (setBlk w1 (w.heap.size+1+1) o1):=hentry _ rfl rfl
   have qZ:Sem.run prog (Instr.next (Qp (w.heap.size+1+1)) false 0) wr=.ok (.tuple #[.bool true,.agg (Qi n s),pv]) (setBlk w1 (w.heap.size+1+1) o1):=qH
   have qR:((n,s),pv)∈l:=qN.mem_iff.1 (by simp)
   have hns:=HL.out _ qR
   have hOf:O n s=false:=by
    cases hb:O n s with
    | false=>rfl
    | true=>
     obtain⟨q,hq,e⟩:=(hO n s).1 hb
     have hnd2:=(qN.map (·.1)).nodup_iff.2 hnd
     rw[List.map_append,List.nodup_append]at hnd2
     exact absurd e (hnd2.2.2 q.1 (List.mem_map.2 ⟨q,hq,rfl⟩) (n,s) (by simp))
   have pV:((done++[((n,s),pv)])++(pre++post)).Perm l:=by
    exact mL
   have hO2:∀a b,Pl.put1 O n s a b=true↔∃p∈done++[((n,s),pv)],p.1=(a,b):=fun a b=>by
    unfold Pl.put1
    split
    ·rename_i h
     obtain⟨rfl,rfl⟩:=h
     exact⟨fun _=>⟨((a,b),pv),by simp,rfl⟩,fun _=>rfl⟩
    ·rename_i h
     rw[hO]
     constructor
     ·rintro⟨q,hq,e⟩;exact⟨q,by simp[hq],e⟩
     ·rintro⟨q,hq,e⟩
      rcases List.mem_append.1 hq with hq | hq
      ·exact⟨q,hq,e⟩
      ·simp at hq
       subst hq
       simp at e
       exact absurd ⟨e.1.symm,e.2.symm⟩ h
   have hb3:=(Below.refl (setBlk w1 (w.heap.size+1+1) o1).heap.size (setBlk w1 (w.heap.size+1+1) o1)).alloc (Nat.le_refl _) (.cells (Qi n s) 45)
   have hB3:=(hb3.block _ (gsi.1 hB2).1).trans hB2
   have HADD:=zA (add_ok (Pl.setv U m) n s O U M _ (hS2.below hb3) hns.1 hns.2 hOf)
   have HA3:=zA ((hb3.block _ (gsi.1 hA2).1).trans hA2)
   have HB3:=zA hB3
   have HIT3:=zA (hit2.below hb3)
   have HBL3:=zA (hb2.trans (hb3.mono hb2.size))
   have HPERM:=zA pV
   have HO2:=zA hO2
   have HMEAS:=zA pX
   have c0:=cc 0 hB3
   have c1:=cc 1 hB3
   have c2:=cc 2 hB3
   have c3:=cc 3 hB3
   have c4:=cc 4 hB3
   have c5:=cc 5 hB3
   have c6:=cc 6 hB3
   have c7:=cc 7 hB3
   have c8:=cc 8 hB3
   clear qN hit hB qQ hO hA hb pX hnd pA hb1 hb2 hitl hB2 hA2 hS2 qH qR hns hOf pV hO2 hb3 hB3 hit2 hentry hw1
   go_wp2_with fail
   generalize (setBlk w1 (w.heap.size+1+1) o1).alloc (.cells (Qi n s) 45)=W3 at *
   refine HADD.out.mono ?_
   rintro x w4 ⟨v4,U1,M1,rfl,⟨m1,rfl,hd4,hc4⟩,b4⟩
   obtain⟨ao1,cap1,rfl,_⟩:=hd4.toC
   have b5:=bn w4 (.cells (Qu U1 ao1 M1.length cap1) 60)
   have b45:=b4.trans (b5.mono b4.size)
   have hB5:=(b45.block _ (gsi.1 HB3.out).1).trans HB3.out
   have hS5:SetV _ (Pl.setv U1 (.slice ao1 M1.length cap1)) (Pl.put1 O n s) U1 M1:=SetV.below (w:=w4) ⟨_,rfl,hd4,hc4⟩ b5
   have HS5:=zA hS5
   have HB5:=zA hB5
   have HA5:=zA ((b45.block _ (gsi.1 HA3.out).1).trans HA3.out)
   have HIT5:=zA (HIT3.out.below b45)
   have HBL5:=zA (HBL3.out.trans (b45.mono HBL3.out.size))
   have hxx:=heap_alloc_new w4 (.cells (Qu U1 ao1 M1.length cap1) 60)
   clear c0 c1 c2 c3 c4 c5 c6 c7 c8
   have c0:=cc 0 hB5
   have c1:=cc 1 hB5
   have c2:=cc 2 hB5
   have c3:=cc 3 hB5
   have c4:=cc 4 hB5
   have c5:=cc 5 hB5
   have c6:=cc 6 hB5
   have c7:=cc 7 hB5
   have c8:=cc 8 hB5
   have x0:=cc 0 hxx
   have x1:=cc 1 hxx
   have x2:=cc 2 hxx
   have x3:=cc 3 hxx
   have x4:=cc 4 hxx
   have x5:=cc 5 hxx
   have x6:=cc 6 hxx
   have x7:=cc 7 hxx
   have x8:=cc 8 hxx
   have fz:=zB hB5
   have hne:w4.heap.size≠w.heap.size+1:=fun e=>by
    have:=(gsi.1 HB3.out).1
    have:=b4.size
    omega
   clear b4 b5 b45 hB5 hS5 hxx hd4 hc4 HADD
   go_wp2_with fail
   generalize hW5:w4.alloc (.cells (Qu U1 ao1 M1.length cap1) 60)=W5 at *
   have hst:W5.setCells (w.heap.size+1) 0 [.int .i64 (U1 0),.int .i64 (U1 1),.int .i64 (U1 2),.int .i64 (U1 3),.int .i64 (U1 4),.int .i64 (U1 5),.int .i64 (U1 6),.int .i64 (U1 7),.slice ao1 M1.length cap1]=(Qhu0 W5 (w.heap.size+1) U1 (.slice ao1 M1.length cap1):World):=rfl
   have qF:=xA [.int .i64 (U1 0),.int .i64 (U1 1),.int .i64 (U1 2),.int .i64 (U1 3),.int .i64 (U1 4),.int .i64 (U1 5),.int .i64 (U1 6),.int .i64 (U1 7),.slice ao1 M1.length cap1] HB5.out rfl
   have hbz:=xB HBL5.out (show w.heap.size≤w.heap.size+1 by omega) 0 [.int .i64 (U1 0),.int .i64 (U1 1),.int .i64 (U1 2),.int .i64 (U1 3),.int .i64 (U1 4),.int .i64 (U1 5),.int .i64 (U1 6),.int .i64 (U1 7),.slice ao1 M1.length cap1]
   have pW:=(yB (w.heap.size+1) [.int .i64 (U1 0),.int .i64 (U1 1),.int .i64 (U1 2),.int .i64 (U1 3),.int .i64 (U1 4),.int .i64 (U1 5),.int .i64 (U1 6),.int .i64 (U1 7),.slice ao1 M1.length cap1] 0 W5).2.1
   rw[hst]at qF hbz pW
   have hitz:=HIT5.out.keep (pW ms (by have:=HMS.out;omega)) (pW (w.heap.size+1+1) lD)
   have hsz:=HS5.out.keep (fun g cs fr hg=>pW g (fun e=>by rw[e,HB5.out]at hg;exact zH lF hg))
   have haz:=(pW w.heap.size lD).trans HA5.out
   refine⟨⟨done++[((n,s),pv)],pre++post,Pl.put1 O n s,U1,.slice ao1 M1.length cap1,M1,HPERM.out,hitz,qF,hsz,HO2.out,haz,hbz⟩,?_⟩
   rw[hitz.left_eq,HMEAS.out]
   simp
theorem bseen_ok (b ms mh:Nat) (l l':List ((Nat×Nat)×Value)) (clock:Int) (w:World) (h:BkC w b ms mh l l' clock) (hl:∀p∈l,p.1.1<8∧1≤p.1.2∧p.1.2≤96) :
  Calls prog 45 #[Qp b] w fun r w'=>∃v O U M,r=.returned v∧SetV w' v O U M∧(∀n s,O n s=true↔∃p∈l,p.1=(n,s))∧Below w.heap.size w w':=by
 have b1:=bn w (.cells (Qv 0 0 0 0 0 0 0 0) 60)
 have hA:=heap_alloc_new w (.cells (Qv 0 0 0 0 0 0 0 0) 60)
 have hk:=h.below b1
 have qW:=zA (bset_ok ms l _ hk.seen hl)
 have HB:=zA b1
 have HA:=zA hA
 have c0:=cc 0 hk.cells
 have hq:∀w,(binOp BinOp.eql 111 (Qp b) (.pointer none)).run prog w=.ok (.bool false) w:=fun _=>rfl
 clear b1 hA hk h hl
 go_enter func45,ntmps45
 go_wp2_with fail
 generalize w.alloc (.cells (Qv 0 0 0 0 0 0 0 0) 60)=W at *
 refine qW.out.mono ?_
 rintro x w1 ⟨v,O,U,M,rfl,hs,hO,b1⟩
 obtain⟨m,rfl,hd,hc⟩:=hs
 obtain⟨ao,cap,rfl,_⟩:=hd.toC
 have hA1:=(b1.block _ (gsi.1 HA.out).1).trans HA.out
 have HS:=zA (show SetV w1 (Pl.setv U (.slice ao M.length cap)) O U M from⟨_,rfl,hd,hc⟩)
 have HB1:=zA (HB.out.trans (b1.mono HB.out.size))
 have HA1:=zA hA1
 have HO:=zA hO
 have z0:=cc 0 hA1
 have z1:=cc 1 hA1
 have z2:=cc 2 hA1
 have z3:=cc 3 hA1
 have z4:=cc 4 hA1
 have z5:=cc 5 hA1
 have z6:=cc 6 hA1
 have z7:=cc 7 hA1
 have z8:=cc 8 hA1
 have fz:=zB hA1
 clear hd hc b1 hA1 hO c0 qW
 go_wp2_with fail
 have hst:w1.setCells w.heap.size 0 [.int .i64 (U 0),.int .i64 (U 1),.int .i64 (U 2),.int .i64 (U 3),.int .i64 (U 4),.int .i64 (U 5),.int .i64 (U 6),.int .i64 (U 7),.slice ao M.length cap]=(Qhu0 w1 w.heap.size U (.slice ao M.length cap):World):=rfl
 have qF:=xA [.int .i64 (U 0),.int .i64 (U 1),.int .i64 (U 2),.int .i64 (U 3),.int .i64 (U 4),.int .i64 (U 5),.int .i64 (U 6),.int .i64 (U 7),.slice ao M.length cap] HA1.out rfl
 have hbz:=xB HB1.out (Nat.le_refl w.heap.size) 0 [.int .i64 (U 0),.int .i64 (U 1),.int .i64 (U 2),.int .i64 (U 3),.int .i64 (U 4),.int .i64 (U 5),.int .i64 (U 6),.int .i64 (U 7),.slice ao M.length cap]
 have pW:=(yB w.heap.size [.int .i64 (U 0),.int .i64 (U 1),.int .i64 (U 2),.int .i64 (U 3),.int .i64 (U 4),.int .i64 (U 5),.int .i64 (U 6),.int .i64 (U 7),.slice ao M.length cap] 0 w1).2.1
 rw[hst]at qF hbz pW
 generalize (Qhu0 w1 w.heap.size U (.slice ao M.length cap):World)=Z at *
 clear z0 z1 z2 z3 z4 z5 z6 z7 z8 hst
 have c0:=cc 0 qF
 have c1:=cc 1 qF
 have c2:=cc 2 qF
 have c3:=cc 3 qF
 have c4:=cc 4 qF
 have c5:=cc 5 qF
 have c6:=cc 6 qF
 have c7:=cc 7 qF
 have c8:=cc 8 qF
 refine bodyPost_ret (v:=Pl.setv U (.slice ao M.length cap)) (by simp[results,results45,go_sem,c0,c1,c2,c3,c4,c5,c6,c7,c8,Pl.setv]) rfl ⟨_,O,U,M,rfl,HS.out.keep (fun g cs fr hg=>pW g (fun e=>?_)),HO.out,hbz⟩
 rw[e,HA1.out]at hg;exact zH lF hg
end
section
open Go.RowKit Go.Shelf Rw Rh
def sortRen:Go.Shelf.Ren:=⟨fun | 6=>255 | 15=>319 | 14=>318 | 28=>363 | 29=>364 | 20=>355 | 21=>356 | 22=>357 | 23=>358 | 24=>359 | 25=>360 | 26=>361 | 27=>362 | 46=>386 | 47=>387 | 48=>388 | 49=>389 | 50=>390 | 57=>408 | n=>n,fun | 22=>58 | 24=>45 | 25=>376 | 3=>3 | 39=>256 | 0=>0 | 53=>353 | 55=>22 | 4=>4 | 46=>468 | 45=>467 | 50=>178 | 5=>5 | 9=>9 | 66=>490 | 70=>301 | 76=>504 | 77=>505 | n=>n,fun n=>n⟩
theorem sortDots:SlLaysF0.n6 prog sortRen:={
 mixed:=by kernel_rfl,
 f6:=⟨Tryz.f255.name,by decide,func255.trans (congrArg some lE)⟩,
 f14:=⟨Tryz.f318.name,by decide,func318.trans (congrArg some lE)⟩,
 f15:=func319.trans (congrArg some lE),
 f20:=⟨Tryz.f355.name,by decide,func355.trans (congrArg some lE)⟩,
 f21:=⟨Tryz.f356.name,by decide,func356.trans (congrArg some lE)⟩,
 f22:=⟨Tryz.f357.name,by decide,func357.trans (congrArg some lE)⟩,
 f23:=⟨Tryz.f358.name,by decide,func358.trans (congrArg some lE)⟩,
 f24:=⟨Tryz.f359.name,by decide,func359.trans (congrArg some lE)⟩,
 f25:=⟨Tryz.f360.name,by decide,func360.trans (congrArg some lE)⟩,
 f26:=⟨Tryz.f361.name,by decide,func361.trans (congrArg some lE)⟩,
 f27:=⟨Tryz.f362.name,by decide,func362.trans (congrArg some lE)⟩,
 f28:=func363.trans (congrArg some lE),
 f29:=func364.trans (congrArg some lE),
 f46:=⟨Tryz.f386.name,by decide,func386.trans (congrArg some lE)⟩,
 f47:=func387.trans (congrArg some lE),
 f48:=func388.trans (congrArg some lE),
 f49:=⟨Tryz.f389.name,by decide,func389.trans (congrArg some lE)⟩,
 f50:=⟨Tryz.f390.name,by decide,func390.trans (congrArg some lE)⟩,
 f57:=⟨Tryz.f408.name,by decide,func408.trans (congrArg some lE)⟩,
 t0:=underlying0,
 a0:=Tryz.isAgg0,
 z0:=Tryz.sizeOf0,
 v0:=Tryz.zeroValue0,
 t3:=underlying3,
 a3:=Tryz.isAgg3,
 z3:=Tryz.sizeOf3,
 v3:=Tryz.zeroValue3,
 t4:=underlying4,
 a4:=Tryz.isAgg4,
 z4:=Tryz.sizeOf4,
 v4:=Tryz.zeroValue4,
 t5:=underlying5,
 a5:=Tryz.isAgg5,
 z5:=Tryz.sizeOf5,
 v5:=Tryz.zeroValue5,
 t9:=underlying9,
 a9:=Tryz.isAgg9,
 z9:=Tryz.sizeOf9,
 v9:=Tryz.zeroValue9,
 t22:=underlying58,
 a22:=Tryz.isAgg58,
 z22:=Tryz.sizeOf58,
 v22:=Tryz.zeroValue58,
 t25:=underlying376,
 a25:=Tryz.isAgg376,
 z25:=Tryz.sizeOf376,
 v25:=Tryz.zeroValue376,
 t39:=underlying256,
 a39:=Tryz.isAgg256,
 z39:=Tryz.sizeOf256,
 v39:=Tryz.zeroValue256,
 t45:=underlying467,
 a45:=Tryz.isAgg467,
 z45:=Tryz.sizeOf467,
 v45:=Tryz.zeroValue467,
 t46:=underlying468,
 a46:=Tryz.isAgg468,
 z46:=Tryz.sizeOf468,
 v46:=Tryz.zeroValue468,
 t50:=underlying178,
 a50:=Tryz.isAgg178,
 z50:=Tryz.sizeOf178,
 v50:=Tryz.zeroValue178,
 t53:=underlying353,
 a53:=Tryz.isAgg353,
 z53:=Tryz.sizeOf353,
 v53:=Tryz.zeroValue353,
 t55:=underlying22,
 a55:=Tryz.isAgg22,
 z55:=Tryz.sizeOf22,
 v55:=Tryz.zeroValue22,
 t66:=underlying490,
 a66:=Tryz.isAgg490,
 z66:=Tryz.sizeOf490,
 v66:=Tryz.zeroValue490,
 t70:=underlying301,
 a70:=Tryz.isAgg301,
 z70:=Tryz.sizeOf301,
 v70:=Tryz.zeroValue301,
 t76:=underlying504,
 a76:=Tryz.isAgg504,
 z76:=Tryz.sizeOf504,
 v76:=Tryz.zeroValue504,
 t77:=underlying505,
 a77:=Tryz.isAgg505,
 z77:=Tryz.sizeOf505,
 v77:=Tryz.zeroValue505}
abbrev Sd:=Fin 8×Fin 98
def Sd.cells (x:Sd):List Value:=[.int .i64 ((x.1.val:Nat):Int),.int .i64 ((x.2.val:Nat):Int)]
def Sd.cf (x y:Sd):Int:=Pl.cmp (x.1.val:Nat) (x.2.val:Nat) (y.1.val:Nat) (y.2.val:Nat)
def Sd.back (x:Sd):Nat×Nat:=(x.1.val,x.2.val)
theorem Sd.lt_iff (x y:Sd):ltOf Sd.cf x y=true↔Pl.Before x.back y.back:=by
 unfold ltOf Sd.cf Pl.cmp Pl.Before Sd.back
 simp only[decide_eq_true_eq]
 split
 ·rename_i h
  omega
 ·rename_i h
  omega
theorem Sd.swo:Go.Sort.SWO (ltOf Sd.cf) where
 irrefl x:=by
  cases h:ltOf Sd.cf x x with
  | false=>rfl
  | true=>
   have:=(Sd.lt_iff x x).1 h
   unfold Pl.Before at this
   omega
 trans x y z h1 h2:=by
  rw[Sd.lt_iff]at *
  unfold Pl.Before at *
  omega
 ntrans x y z h1 h2:=by
  have k:∀a b:Sd,ltOf Sd.cf a b=false↔¬Pl.Before a.back b.back:=fun a b=>by rw[←Sd.lt_iff];simp
  rw[k]at *
  unfold Pl.Before at *
  omega
theorem dcmp_ok (a b c d:Nat) (w:World) (ha:a≤1000) (hb:b≤1000) (hc:c≤1000) (hd:d≤1000) :
  Calls prog 256 #[.agg (Qi a b),.agg (Qi c d)] w fun e w'=>e=.returned (.int .i64 (Pl.cmp a b c d))∧w'=(w.alloc (.cells (Qi a b) 45)).alloc (.cells (Qi c d) 45):=by
 have e1 : -9223372036854775808≤(a:Int) - c:=by omega
 have e2:(a:Int) - c≤9223372036854775807:=by omega
 have e3 : -9223372036854775808≤(b:Int) - d:=by omega
 have e4:(b:Int) - d≤9223372036854775807:=by omega
 by_cases h:a=c
 ·have h':((a:Int) != c)=false:=by simp[h]
  have HH:=zA (show Pl.cmp a b c d=(b:Int) - d from if_pos lD)
  exact mR
 ·have h':((a:Int) != c)=true:=by simp;omega
  have HH:=zA (show Pl.cmp a b c d=(a:Int) - c from if_neg lD)
  exact mR
theorem dcmp_lays (blk off size:Nat) (w:World):CmpLays prog 256 #[] Sd.cells 2 Sd.cf blk off size w:=fun m os dk _ x y=>by
 refine(dcmp_ok x.1.val x.2.val y.1.val y.2.val _ lD lD lD lD).mono ?_
 rintro e w' ⟨rfl,rfl⟩
 exact⟨rfl,0,_,by rw[Go.Sort.alloc_eq_grow,Go.Sort.alloc_eq_grow,Go.Sort.grow_grow];rfl⟩
theorem dsort_core (g cap:Nat) (d:Array Sd) (w:World) (hH:Go.Sort.HoldsK Sd.cells 2 w g 0 d) (hg:g<w.heap.size) (hs:d.size≤1000) :
  Calls prog 255 #[.slice (some ⟨g,0,none⟩) d.size cap,Qm 256] w fun e w'=>e=.returned (.tuple #[])∧∃d' n os,Go.Sort.PermIn 0 d.size d d'∧Go.Sort.SortedIn (ltOf Sd.cf) 0 d.size d'∧w'=sortWorldK Sd.cells 2 w g 0 n d' os:=by
 have eg:∀args w,(callFunc 256 args).run prog w=.ok (.enter 256 args) w:=enters_of func256 lE rfl
 exact AnyQ.slices_SortFunc sortDots 2 Tryz.isAgg45 Tryz.sizeOf45 Sd.cells (fun _=>rfl) (fun x v hv=>by simp[Sd.cells]at hv;rcases hv with rfl | rfl<;>rfl) Sd.cf Sd.swo 256 #[] g 0 cap d w eg (dcmp_lays g 0 d.size w) hH hg lD
theorem dins_nil (f:Value) (w:World):Calls prog 355 #[.slice none 0 0,.int .i64 0,.int .i64 0,f] w fun e w'=>e=.returned (.tuple #[])∧w'=w:=by
 go_enter func355,ntmps355
 go_wp2_with fail
 refine wp_loop_rounds 1 ?_
 rw[rounds_succ]
 go_wp2_with fail
 exact yG results355 ⟨rfl,rfl⟩
theorem dpdq_nil (f:Value) (n:Int) (w:World):Calls prog 318 #[.slice none 0 0,.int .i64 0,.int .i64 0,.int .i64 n,f] w fun e w'=>e=.returned (.tuple #[])∧w'=w:=by
 go_enter func318,ntmps318
 go_wp2_with fail
 refine wp_loop_rounds 1 ?_
 rw[rounds_succ]
 go_wp2_with fail
 refine(dins_nil _ _).mono ?_
 rintro e w' ⟨rfl,rfl⟩
 go_wp2_with fail
 exact bodyPost_ret (v:=.tuple #[]) (results_none results318 _ _ _) rfl ⟨rfl,rfl⟩
theorem dsort_nil (w:World):Calls prog 255 #[.slice none 0 0,Qm 256] w fun e w'=>e=.returned (.tuple #[])∧Below w.heap.size w w':=by
 have hl:∀w,Calls prog 319 #[.int .u64 0] w fun e w'=>(∃n:Int,e=.returned (.int .i64 n))∧w'=w:=fun w=>
  (Any.bits_Len (SlLaysF0.n15.bits (P:=prog) (ρ:=sortRen) {sortDots with}) 0 w lD lD).mono (by rintro e w' ⟨rfl,rfl⟩;exact⟨⟨_,rfl⟩,rfl⟩)
 have HL:=zA hl
 clear hl
 go_enter func255,ntmps255
 go_wp2_with fail
 refine(HL.out w).mono ?_
 rintro e w' ⟨⟨n,rfl⟩,rfl⟩
 go_wp2_with fail
 refine(dpdq_nil _ _ _).mono ?_
 rintro e w' ⟨rfl,rfl⟩
 go_wp2_with fail
 exact yG results255 ⟨rfl,Below.refl _ _⟩
def Sd.of (x:Nat×Nat):Sd:=(⟨x.1%8,Nat.mod_lt _ lF⟩,⟨x.2%98,Nat.mod_lt _ lF⟩)
theorem Sd.back_of {x:Nat×Nat} (h:x.1<8∧x.2<98):(Sd.of x).back=x:=by
 unfold Sd.of Sd.back
 simp only[Nat.mod_eq_of_lt h.1,Nat.mod_eq_of_lt h.2]
theorem Sd.cells_back (x:Sd):x.cells=kDot.enc x.back:=rfl
theorem sd_get (d:Array Sd) (j:Nat) (hj:j<d.size*2):some (Go.Sort.flatK Sd.cells 2 d)[j]! = (kDot.encs (d.toList.map Sd.back))[j]?:=by
 rw[Go.Sort.get_flatK _ _ _ _ hj]
 have hi:j / 2<d.size:=by omega
 have h1:=kDot.encs_get (d.toList.map Sd.back) (j / 2) (j%2) (by simpa using hi) (show j%2<2 by omega)
 rw[show j / 2*kDot.k+j%2=j from by show j / 2*2+j%2=j;omega]at h1
 rw[h1,getElem!_pos d (j / 2) hi]
 simp only[List.getElem_map,Array.getElem_toList]
 have hl:(kDot.enc (d[j / 2]).back).length=2:=kDot.hlen _
 have hm:j%2<(kDot.enc (d[j / 2]).back).length:=by rw[hl];omega
 rw[List.getElem?_eq_getElem hm,Sd.cells_back,getElem!_pos (kDot.enc (d[j / 2]).back) (j%2) hm]
theorem dsort_ok (g cap base:Nat) (ds:List (Nat×Nat)) (w:World) (ho:OwnR kDot base w (.slice (some ⟨g,0,none⟩) ds.length cap) ds) (hd:∀d∈ds,d.1<8∧d.2<98) (hn:ds.Nodup) (hl:ds.length≤1000) :
  Calls prog 255 #[.slice (some ⟨g,0,none⟩) ds.length cap,Qm 256] w fun e w'=>e=.returned (.tuple #[])∧∃ds',ds'.Perm ds∧ds'.Pairwise Pl.Before∧OwnR kDot base w' (.slice (some ⟨g,0,none⟩) ds.length cap) ds'∧Off (· = g) w w':=by
 rcases id ho.2 with⟨h,_⟩ | ⟨g',cap',cur,hv,hbg,hg,hnc,hcm,hcs,htake⟩
 ·cases h
 cases hv
 change w.heap[g]?=some (.cells cur 45 (0,0))at hg
 change cur.size=cap*2 at hcs
 change cur.toList.take (ds.length*2)=kDot.encs ds at htake
 have hlt:=(gsi.1 hg).1
 have hback:((ds.map Sd.of).toArray.toList.map Sd.back)=ds:=by
  simp only[List.map_map]
  conv=>rhs;rw[←List.map_id ds]
  exact List.map_congr_left (fun x hx=>Sd.back_of (hd x hx))
 have hsz:(ds.map Sd.of).toArray.size=ds.length:=by simp
 have pJ:∀j,j<ds.length*2→cur[j]?=(kDot.encs ds)[j]?:=fun j hj=>by
  rw[←htake,List.getElem?_take,if_pos hj];simp
 have hH:Go.Sort.HoldsK Sd.cells 2 w g 0 (ds.map Sd.of).toArray:=fun j hj=>by
  rw[Go.Sort.size_flatK,hsz]at hj
  refine⟨?_,zB hg _⟩
  have h1:=sd_get (ds.map Sd.of).toArray j (by rw[hsz];exact hj)
  rw[hback,←pJ j hj]at h1
  rw[Nat.zero_add]
  exact zE hg h1.symm
 have hcore:=dsort_core g cap (ds.map Sd.of).toArray w hH hlt (by rw[hsz];exact hl)
 rw[hsz]at hcore
 refine hcore.mono ?_
 rintro e w' ⟨rfl,d',n,os,⟨hp1,_,hp2⟩,hso,rfl⟩
 rw[hsz]at hp1
 have qN:(d'.toList.map Sd.back).Perm ds:=by
  have h1:d'.toList.Perm (ds.map Sd.of).toArray.toList:=by
   have e1:d'.extract 0 ds.length=d':=by rw[←hp1];simp
   have e2:(ds.map Sd.of).toArray.extract 0 ds.length=(ds.map Sd.of).toArray:=by rw[←hsz];exact Array.extract_size
   rw[e1,e2]at hp2
   exact hp2
  have:=h1.map Sd.back
  rw[hback]at this
  exact this
 have hlen':(d'.toList.map Sd.back).length=ds.length:=by simp[hp1]
 refine⟨rfl,d'.toList.map Sd.back,qN,?_,?_,?_⟩
 ·rw[List.pairwise_iff_getElem]
  intro i j hi hj hij
  have hi':i<d'.size:=by simpa using hi
  have hj':j<d'.size:=by simpa using hj
  have h1:=hso i j (Nat.zero_le _) hij lD
  rw[getElem!_pos d' i hi',getElem!_pos d' j hj']at h1
  have h2:¬Pl.Before (d'[j]).back (d'[i]).back:=fun h=>by
   rw[(Sd.lt_iff _ _).2 h]at h1;cases h1
  have hnd:=qN.nodup_iff.2 hn
  have h3:(d'.toList.map Sd.back)[i]≠(d'.toList.map Sd.back)[j]:=fun e=>by
   have:=(List.getElem_inj (h₀:=hi) (h₁:=hj) hnd).1 e
   omega
  simp only[List.getElem_map,Array.getElem_toList]at h3 ⊢
  unfold Pl.Before at *
  have h4:¬((d'[i]).back.1=(d'[j]).back.1∧(d'[i]).back.2=(d'[j]).back.2):=fun h=>h3 (Prod.ext h.1 h.2)
  omega
 ·have pA:(sortWorldK Sd.cells 2 w g 0 n d' os).heap[g]?=some (.cells (Go.Sort.putCells id 0 (Go.Sort.flatK Sd.cells 2 d') cur) 45 (0,0)):=by
   unfold sortWorldK
   rw[Go.Sort.heap_grow_old _ _ (by unfold Go.Sort.putRowK;rw[Go.Sort.size_putRow];exact hlt)]
   unfold Go.Sort.putRowK Go.Sort.putRow Go.Sort.mapBlock
   simp only[Array.getElem?_modify,Go.Sort.heap_ahead,if_true,hg,Option.map_some,Go.Sort.onCells]
  have hsz2:(Go.Sort.putCells id 0 (Go.Sort.flatK Sd.cells 2 d') cur).size=cap*2:=by
   unfold Go.Sort.putCells
   rw[Array.size_mapIdx]
   exact hcs
  have htk:(Go.Sort.putCells id 0 (Go.Sort.flatK Sd.cells 2 d') cur).toList.take (ds.length*2)=kDot.encs (d'.toList.map Sd.back):=by
   apply List.ext_getElem?
   intro i
   rw[List.getElem?_take]
   split
   ·rename_i hi
    have hic:i<cur.size:=by
     rw[hcs]
     omega
    rw[←sd_get d' i (by omega)]
    unfold Go.Sort.putCells
    rw[Array.getElem?_toList,Array.getElem?_mapIdx,Array.getElem?_eq_getElem hic,Option.map_some,if_pos ⟨Nat.zero_le _,by rw[Go.Sort.size_flatK];omega⟩]
    rfl
   ·rename_i hi
    rw[List.getElem?_eq_none]
    rw[kDot.encs_length,hlen']
    have h2:kDot.k=2:=rfl
    rw[h2]
    omega
  refine⟨by rw[kDot.encs_length,hlen'],.inr ⟨g,cap,_,by rw[hlen'],hbg,pA,by rw[hlen'];exact hnc,hcm,hsz2,by rw[hlen'];exact htk⟩⟩
 ·refine⟨?_,fun k hk hne=>?_,rfl,rfl,rfl⟩
  ·unfold sortWorldK Go.Sort.putRowK
   rw[Go.Sort.size_grow,Go.Sort.size_putRow,Go.Sort.heap_ahead]
   omega
  ·unfold sortWorldK
   rw[Go.Sort.heap_grow_old _ _ (by unfold Go.Sort.putRowK;rw[Go.Sort.size_putRow];exact hk)]
   unfold Go.Sort.putRowK Go.Sort.putRow Go.Sort.mapBlock
   simp only[Array.getElem?_modify,Go.Sort.heap_ahead]
   rw[if_neg (fun e=>hne e.symm)]
theorem dsort_any (base:Nat) (v:Value) (ds:List (Nat×Nat)) (w:World) (ho:OwnR kDot base w v ds) (hd:∀d∈ds,d.1<8∧d.2<98) (hn:ds.Nodup) (hl:ds.length≤1000) :
  Calls prog 255 #[v,Qm 256] w fun e w'=>e=.returned (.tuple #[])∧∃ds',ds'.Perm ds∧ds'.Pairwise Pl.Before∧OwnR kDot base w' v ds'∧Off (fun g=>v.ownBlock=some g) w w':=by
 rcases id ho.2 with⟨rfl,h0⟩ | ⟨g,cap,cur,rfl,_⟩
 ·have:ds=[]:=List.eq_nil_of_length_eq_zero h0
  subst this
  refine(dsort_nil w).mono ?_
  rintro e w' ⟨rfl,hb⟩
  exact⟨rfl,[],List.Perm.refl _,List.Pairwise.nil,yJ _ _ _,Off.of_below hb⟩
 ·refine(dsort_ok g cap base ds w ho hd hn hl).mono ?_
  rintro e w' ⟨rfl,ds',h1,h2,h3,h4⟩
  exact⟨rfl,ds',h1,h2,by have:=h1.length_eq;rw[←this]at h3;rw[←this];exact h3,h4.mono (fun g _ e=>by rw[show g=_ from e];rfl)⟩
end
section
open Go.RowKit Rw Rh
def Pl.EvBefore (a b:Pl.Ev):Prop:=Pl.Before a.at b.at
theorem sD (es:List Pl.Ev):(heldL es).map (·.1)=es.map Pl.Ev.at:=by unfold heldL;simp
theorem tD:∀(ds:List (Nat×Nat)) (es:List Pl.Ev),ds.Perm (es.map Pl.Ev.at)→∃l:List Pl.Ev,l.Perm es∧l.map Pl.Ev.at=ds
 | [],es,h=>by
  have h1:=h.length_eq
  have h2:es.length=0:=by simpa using h1.symm
  have:es=[]:=List.eq_nil_of_length_eq_zero h2
  exact⟨[],by rw[this],rfl⟩
 | d::ds,es,h=>by
  have hm:d∈es.map Pl.Ev.at:=h.mem_iff.1 (by simp)
  obtain⟨e,he,rfl⟩:=List.mem_map.1 hm
  obtain⟨a,b,rfl⟩:=List.append_of_mem he
  have h2:ds.Perm ((a++b).map Pl.Ev.at):=by
   rw[List.map_append,List.map_cons]at h
   rw[List.map_append]
   exact(List.perm_cons e.at).1 (h.trans List.perm_middle)
  obtain⟨l,h3,h4⟩:=tD ds (a++b) h2
  exact⟨e::l,(List.Perm.cons e h3).trans List.perm_middle.symm,by rw[List.map_cons,h4]⟩
theorem xR {w w':World} {row:Option Nat} {g T:Nat} {x:Obj} (hg:w.grownBy w' row) (qD:∀g,row=some g→∃cs,w.heap[g]?=some (.cells cs T (0,0))) (h:w.heap[g]?=some x) (hx:∀cs,x≠.cells cs T (0,0)):w'.heap[g]?=w.heap[g]?:=
 hg.block g (gsi.1 h).1 (fun e=>by
  obtain⟨cs,h2⟩:=qD g e.symm
  rw[h]at h2;injection h2 with h2;exact hx cs h2)
theorem BkC.grown {w w':World} {b ms mh T:Nat} {l l':List ((Nat×Nat)×Value)} {clock:Int} {row:Option Nat} (h:BkC w b ms mh l l' clock) (hg:w.grownBy w' row) (qD:∀g,row=some g→∃cs,w.heap[g]?=some (.cells cs T (0,0))) (hT:T≠185):BkC w' b ms mh l l' clock:=
 h.keep (fun g hgg=>by
  rcases hgg with rfl | rfl | rfl
  ·exact xR hg qD h.cells (fun cs e=>by injection e with _ e2;exact hT e2.symm)
  ·obtain⟨es,c,h1,_⟩:=h.seen
   exact xR hg qD h1 (fun cs e=>by cases e)
  ·obtain⟨es,c,h1,_⟩:=h.held
   exact xR hg qD h1 (fun cs e=>by cases e))
theorem ItAt.grown {w w':World} {r b T:Nat} {l left:List ((Nat×Nat)×Value)} {row:Option Nat} (h:ItAt w r b l left) (hg:w.grownBy w' row) (qD:∀g,row=some g→∃cs,w.heap[g]?=some (.cells cs T (0,0))):ItAt w' r b l left:=by
 obtain⟨es,c,si,se,h1,h2,h3,h4⟩:=id h
 exact h.keep (xR hg qD h1 (fun cs e=>by cases e)) (xR hg qD h3 (fun cs e=>by cases e))
theorem sL (b ms mh f:Nat) (cb:Array Value) (l0:List ((Nat×Nat)×Value)) (es:List Pl.Ev) (clock:Int) (I:List Pl.Ev→World→Prop) (w:World) (h:BkC w b ms mh l0 (heldL es) clock) (hes:es.length≤1000) (hok:∀e∈es,e.Ok)
  (h0:∀W,Below w.heap.size w W→I [] W) (hA:∀l W W',I l W→Below W.heap.size W W'→I l W') (hB:∀l W,I l W→BkC W b ms mh l0 (heldL es) clock)
  (hcf:∀(x:Value) (W:World),Sem.run prog (callFunc f (#[x]++cb)) W=.ok (.enter f (#[x]++cb)) W)
  (hC:∀l e W,e∈es→I l W→l.length<es.length→Calls prog f (#[evv e]++cb) W fun r w'=>r=.returned (.bool true)∧I (l++[e]) w'∧(∀(g:Nat) (cs:Array Value) (fr:Nat×Nat),W.heap[g]?=some (Obj.cells cs 45 fr)→w'.heap[g]?=W.heap[g]?)) :
  Calls prog 163 #[Qp b,.func (.func f) #[] cb] w fun r w'=>r=.returned (.tuple #[])∧∃l,l.Perm es∧l.Pairwise Pl.EvBefore∧I l w':=by
 have hlt:=h.lt
 obtain⟨o,hrange,hit⟩:=it_range (T:=183) underlying183 h.held
 have hb1:=bn w o
 have HIT:=zA hit
 have HB:=zA hb1
 have HK:=zA (h.below hb1)
 have HK0:=zA h
 have HOK:=zA hok
 have HES:=zA hes
 have H0:=zA h0
 have HAA:=zA hA
 have HBB:=zA hB
 have HC:=zA hC
 have hq:∀w,(binOp BinOp.eql 111 (Qp b) (.pointer none)).run prog w=.ok (.bool false) w:=fun _=>rfl
 have c1:=cc 1 h.cells
 have hrange2:Sem.run prog (Instr.range 183 (.map (some mh))) w=.ok (Qp w.heap.size) (w.alloc o):=hrange
 clear h hlt hit hb1 hok hes h0 hA hB hC hrange
 go_enter func163,ntmps163
 go_wp2_with fail
 clear c1 hrange2
 generalize w.alloc o=W at *
 go_loopw [4,16] (fun u (_:Value) wr=>∃(done left:List ((Nat×Nat)×Value)),(done++left).Perm (heldL es)∧ItAt wr w.heap.size mh (heldL es) left∧OwnR kDot w.heap.size wr u (done.map (·.1))∧BkC wr b ms mh l0 (heldL es) clock∧Below w.heap.size w wr) (fun _ _ wr=>itLeft wr w.heap.size)
 case atStart=>exact⟨[],heldL es,by simp,HIT.out,yJ _ _ _,HK.out,HB.out⟩
 case round=>
  obtain⟨done,left,qN,hit,qC,hk,hb⟩:=hrel
  have pX:=hit.left_eq
  rcases it_next hit 0 with⟨rfl,qH⟩ | ⟨pre,p,post,w1,o1,rfl,hw1,qH,hit2,hentry⟩
  ·have hkeys:(done.map (·.1)).Perm (es.map Pl.Ev.at):=by
    rw[List.append_nil]at qN
    rw[←sD]
    exact qN.map _
   have hnd:(es.map Pl.Ev.at).Nodup:=by rw[←sD];exact hit.len
   have HKEYS:=zA hkeys
   have HND:=zA hnd
   have qX:=zA qC
   have HK2:=zA hk
   have HB2:=zA hb
   clear qN hit qC hk hb pX hkeys hnd
   generalize done.map (·.1)=ds at *
   go_wp2_with fail
   have hdok:∀d∈ds,d.1<8∧d.2<98:=fun d hd=>by
    obtain⟨e,he,rfl⟩:=List.mem_map.1 (HKEYS.out.mem_iff.1 hd)
    obtain⟨n,s,hx,_⟩:=(HOK.out e he).dot
    rw[hx.key]
    exact⟨hx.n8,by have:=hx.s96;omega⟩
   have hdn:ds.Nodup:=HKEYS.out.nodup_iff.2 HND.out
   have hdl:ds.length=es.length:=by have:=HKEYS.out.length_eq;simpa using this
   have HSORT:=zA (dsort_any w.heap.size u4 ds wr qX.out hdok hdn (by rw[hdl];exact HES.out))
   clear hdok hdn hdl
   refine HSORT.out.mono ?_
   rintro x w6 ⟨rfl,ds',hp',hpw,hown',pS⟩
   obtain⟨l,hl1,hl2⟩:=tD ds' es (hp'.trans HKEYS.out)
   have hbel:=pS.since HB2.out (fun g hg=>(qX.out.lt g hg).1)
   have HI:=zA (H0.out w6 hbel)
   have HO:=zA hown'
   have HL1:=zA hl1
   have HL2:=zA hl2
   have HPW:=zA (show l.Pairwise Pl.EvBefore from by
    rw[←hl2]at hpw
    exact(List.pairwise_map (f:=Pl.Ev.at) (R:=Pl.Before)).1 hpw)
   have hlen:ds'.length=l.length:=by rw[←hl2];simp
   have qO:=zA hlen
   have HLE:=zA (show l.length≤1000 by have:=hl1.length_eq;have:=HES.out;omega)
   obtain⟨ao,cap,rfl⟩:=hown'.toT.form
   clear hp' hpw hown' pS hl1 hl2 hbel HSORT
   clear qX hlen
   rw[qO.out]at HO ⊢
   go_wp2_with fail
   go_loopw [27] (fun i wr=>∃(k:Nat),k≤l.length∧i=.int .i64 k∧I (l.take k) wr∧OwnR kDot w.heap.size wr (.slice ao l.length cap) ds') (fun i _=>l.length - (intOf i).toNat)
   case atStart=>exact⟨0,by omega,rfl,HI.out,HO.out⟩
   case round=>
    obtain⟨k,hk,rfl,hI,ho⟩:=hrel
    by_cases hlt:k<l.length
    ·have pF:k<ds'.length:=by rw[qO.out];exact hlt
     obtain⟨g,off,cap',hv,hg,hc⟩:=ho.toT.cell pF
     rw[qO.out]at hv
     cases hv
     have hkd:ds'[k]=(l[k]).at:=by simp[←HL2.out]
     have qR:l[k]∈es:=HL1.out.mem_iff.1 (List.getElem_mem hlt)
     have c0:=hc 0 _ rfl
     have c1:=hc 1 _ rfl
     simp only[hkd,Nat.add_zero,show kDot.k=2 from rfl]at c0 c1
     have a1:(k:Int)+1≤9223372036854775807:=by have:=HLE.out;omega
     have b2:=bn wr (.cells (Qi (l[k]).at.1 (l[k]).at.2) 45)
     have qK:=heap_alloc_new wr (.cells (Qi (l[k]).at.1 (l[k]).at.2) 45)
     have hk2:=HBB.out _ _ (HAA.out _ _ _ hI b2)
     have hlook:=dm_look (T:=183) (E:=175) underlying183 (w:=(wr.alloc (.cells (Qi (l[k]).at.1 (l[k]).at.2) 45)).drew) (hk2.held.keep rfl) (l[k]).at (evv l[k]) (List.mem_map.2 ⟨_,qR,rfl⟩) false
     have HLOOK:=zA hlook
     have pM:=zA (HC.out (l.take k) l[k] _ qR (HAA.out _ _ _ hI b2.drew) (by rw[List.length_take];have:=HL1.out.length_eq;omega))
     have HTK:=zA (show l.take (k+1)=l.take k++[l[k]]from List.take_succ_eq_append_getElem hlt)
     have HO2:=zA (ho.below b2.drew)
     have qP:=zA qK
     have HK2:=zA hk2
     clear hc hkd qR b2 qK hk2 hlook hI ho hg pF
     generalize l[k]=ev at *
     generalize hn:ev.at.1=n at *
     generalize hs:ev.at.2=s at *
     have HNN:=zA hn
     have HSS:=zA hs
     clear hn hs
     go_wp2_with fail
     have e1:=cc 1 HK2.out.cells
     have e2:=cc 0 qP.out
     have e3:=cc 1 qP.out
     generalize hd:wr.heap.size=d at *
     generalize wr.alloc (.cells (Qi n s) 45)=W2 at *
     have hlk:Sem.run prog (Instr.lookup 183 (.map (some mh)) (.agg (Qi n s)) false) W2.drew=.ok (evv ev) W2.drew:=by
      have:=HLOOK.out
      unfold dkey at this
      rw[HNN.out,HSS.out]at this
      exact this
     refine zD (fun W'=>W'.cell? ⟨b,1,none⟩=some (.map (some mh))∧W'.cell? ⟨d,0,none⟩=some (.int .i64 n)∧W'.cell? ⟨d,1,none⟩=some (.int .i64 s)) 99 lE ⟨e1,e2,e3⟩ (fun qB=>?_)
     refine tk 0 31 rfl lG ?_
     refine tk 1 32 rfl lG ?_
     refine tk 2 33 rfl lG ?_
     refine tk 3 34 rfl lG ?_
     refine tk 4 35 rfl lG ?_
     refine tk 5 36 rfl lG ?_
     clear qB
     refine t1 6 rfl (fun K hK=>?_)
     go_simp
     refine hK.out _ _ (fun _=>⟨e1,e2,e3⟩) (fun _=>?_)
     clear hK K
     try simp only[zP]
     refine t1 7 rfl (fun K hK=>?_)
     go_simp
     refine pM.out.mono ?_
     rintro x w7 ⟨rfl,hI7,hk7⟩
     have HI7:=zA hI7
     have f1:=zE (j:=1) (HBB.out _ _ hI7).cells rfl
     have hd7:=(hk7 d _ _ qP.out).trans qP.out
     have f2:=cc 0 hd7
     have f3:=cc 1 hd7
     have HO7:=zA (HO2.out.keep (w':=w7) (fun g hg=>by
      obtain⟨cs,hcs⟩:=zK HO2.out hg
      exact hk7 g _ _ hcs))
     clear hI7 hk7 hd7 e1 e2 e3
     refine hK.out _ _ (fun _=>⟨f1,f2,f3⟩) (fun _=>?_)
     clear hK K
     try simp only[zP]
     refine t1 8 rfl (fun K hK=>?_)
     go_simp
     refine hK.out _ _ (fun _=>⟨f1,f2,f3⟩) (fun _=>?_)
     clear hK K
     try simp only[zP]
     refine wd ?_
     clear f1 f2 f3
     go_wp2_with fail
     exact⟨⟨k+1,by omega,rfl,by rw[HTK.out];exact HI7.out,HO7.out⟩,by simp[intOf];omega⟩
    ·obtain rfl:k=l.length:=by omega
     rw[List.take_length]at hI
     have HIE:=zA hI
     clear hI ho hlt hk
     go_wp2_with fail
     exact yG results163 ⟨rfl,l,HL1.out,HPW.out,HIE.out⟩
  ·have pA:w1.heap=wr.heap:=by rcases hw1 with rfl | rfl<;>rfl
   have hb1:Below w.heap.size w w1:=by
    rcases hw1 with rfl | rfl
    ·exact hb
    ·exact hb.drew
   obtain⟨⟨n,s⟩,pv⟩:=p
   have hb2:=xC hb1 (Nat.le_refl w.heap.size) o1
   have hiti:∃m a c d,wr.heap[w.heap.size]?=some (.mapIter m a c d):=by
    obtain⟨es',c',s1,s2,q1,q2,q3,_⟩:=hit
    exact⟨_,_,_,_,q3⟩
   have pR:OwnR kDot w.heap.size (setBlk w1 w.heap.size o1) u4 (done.map (·.1)):=qC.keep (fun g hg=>by
    rw[zY w1 _ o1 (fun e=>by
     obtain⟨cs,hcs⟩:=zK qC hg
     obtain⟨m,a,c,d,hi⟩:=hiti
     rw[e,hi]at hcs;cases hcs),pA])
   have hk2:BkC (setBlk w1 w.heap.size o1) b ms mh l0 (heldL es) clock:=hk.keep (fun g hg=>by
    rw[zY w1 _ o1 (fun e=>by
     have:=HK0.out.lt
     rcases hg with rfl | rfl | rfl<;>omega),pA])
   have hent:Sem.run prog (Instr.entry (Qp w.heap.size)) (setBlk w1 w.heap.size o1)=.ok (.tuple #[.agg (Qi n s),pv]) (setBlk w1 w.heap.size o1):=hentry _ rfl rfl
   have qZ:Sem.run prog (Instr.next (Qp w.heap.size) false 0) wr=.ok (.tuple #[.bool true,.agg (Qi n s),pv]) (setBlk w1 w.heap.size o1):=qH
   have pV:((done++[((n,s),pv)])++(pre++post)).Perm (heldL es):=by
    exact mL
   have hlen:done.length≤1000:=by
    have h1:=qN.length_eq
    have:(heldL es).length=es.length:=by unfold heldL;simp
    have:=HES.out
    simp at h1
    omega
   have b3:=(Below.refl (setBlk w1 w.heap.size o1).heap.size (setBlk w1 w.heap.size o1)).alloc (Nat.le_refl _) (.cells (Qi n s) 45)
   have b4:=b3.alloc b3.size (.cells (Qi n s) 45)
   have qL:=yK kDot ((setBlk w1 w.heap.size o1).alloc (.cells (Qi n s) 45)) [(n,s)] (Qi n s) 1 rfl rfl
   rw[zG,wB,show w1.heap.size=wr.heap.size from by rw[pA]]at qL
   have qX:=zA (pR.below b4)
   have qI:=zA qL
   have HB4:=zA (hb2.trans (b4.mono hb2.size))
   have HK4:=zA (hk2.below b4)
   have HIT4:=zA (hit2.below b4)
   have HPERM:=zA pV
   have HMEAS:=zA pX
   have qO:=zA hlen
   have hsz1:(setBlk w1 w.heap.size o1).heap.size=wr.heap.size:=by rw[wB,pA]
   clear qN hit qC hk hb pX hb1 hb2 hiti pR hk2 qH hentry pV hlen b3 b4 qL hit2 hw1
   go_wp2_with (
    at_builtin
    refine yU kDot rfl (.tmp 19) (.tmp 21) rfl rfl qX.out rfl qI.out (by have:=qO.out;simp;omega) HB4.out HB4.out.size ?_
    intro v1 w5 hown1 hb1 hg0
    have qD:=fun g hg=>zK qX.out (g:=g) hg
    have HV1:=zA hown1
    have HBV:=zA hb1
    have HKV:=zA (HK4.out.grown hg0 qD lF)
    have HITV:=zA (HIT4.out.grown hg0 qD)
    clear hown1 hb1 hg0 qD)
   exact⟨⟨done++[((n,s),pv)],pre++post,HPERM.out,HITV.out,by simpa using HV1.out,HKV.out,HBV.out⟩,by rw[HITV.out.left_eq,HMEAS.out];simp⟩
end
end Go.Proofs.YtodlmbfbfaofcaaGreat
