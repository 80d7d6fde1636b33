/- TopLoads, part 17. -/
import Derived.Deep.WholeRow
import Derived.Test.YtodlmbfbfaofcaaGreatM01
import Derived.Test.YtodlmbfbfaofcaaGreatM03
import Derived.Test.YtodlmbfbfaofcaaGreatM07
import Derived.Test.YtodlmbfbfaofcaaGreatM08
import Derived.Test.YtodlmbfbfaofcaaGreatM16
open Go.Proofs.Tryz
namespace Go.Proofs.YtodlmbfbfaofcaaGreat
set_option linter.unusedVariables false
set_option linter.unusedSimpArgs false
set_option maxRecDepth 100000
set_option maxHeartbeats 8000000
section
open Go.RowKit Rw Rh
theorem zT (w:World) (a b:Obj):((w.alloc a).alloc b).heap[w.heap.size]?=some a∧((w.alloc a).alloc b).heap[w.heap.size+1]?=some b∧Below w.heap.size w ((w.alloc a).alloc b):=by
 have h1:=heap_alloc_new w a
 have hs:=zE w a
 have hlt:w.heap.size<(w.alloc a).heap.size:=by rw[hs];omega
 refine⟨(heap_alloc_old (w.alloc a) b hlt).trans h1,?_,(bn w a).alloc (Nat.le_of_lt hlt) b⟩
 have h2:=heap_alloc_new (w.alloc a) b
 rw[hs]at h2;exact h2
theorem ev_own1 {w:World} {base:Nat} {v:Value} {e:Pl.Ev} (h:OwnR kEv base w v [e]):∃(g cap:Nat) (cur:Array Value),v=.slice (some ⟨g,0,none⟩) 1 cap∧base≤g∧w.heap[g]?=some (.cells cur 175 (0,0))∧∀(j:Nat) (u:Value),(kEv.enc e)[j]?=some u→cur[j]?=some u:=by
 rcases h.2 with⟨_,h0⟩ | ⟨g,cap,cur,rfl,hb,hg,_,_,_,ht⟩
 ·simp at h0
 ·refine⟨g,cap,cur,rfl,hb,hg,fun j u hj=>?_⟩
  have h1:(kEv.encs [e])[j]?=some u:=by simpa[Rk.encs]using hj
  rw[←ht,List.getElem?_take]at h1
  split at h1
  ·simpa using h1
  ·cases h1
theorem xT (w:World) (k:Nat):w.drew.heap[k]?=w.heap[k]?:=rfl
theorem set7 (w:World) (g:Nat) (a0 a1 a2 a3 a4 a5 a6:Value) {t:TypeId} {cs:Array Value} (h:w.heap[g]?=some (.cells cs t (0,0))) (hs:cs.size=7):(((((((((((((((w).setCell ⟨g,0,none⟩ (a0))).setCell ⟨g,1,none⟩ (a1))).setCell ⟨g,2,none⟩ (a2))).setCell ⟨g,3,none⟩ (a3))).setCell ⟨g,4,none⟩ (a4))).setCell ⟨g,5,none⟩ (a5))).setCell ⟨g,6,none⟩ (a6))).heap[g]?=some (.cells #[a0,a1,a2,a3,a4,a5,a6] t (0,0))∧(∀k,k≠g→(((((((((((((((w).setCell ⟨g,0,none⟩ (a0))).setCell ⟨g,1,none⟩ (a1))).setCell ⟨g,2,none⟩ (a2))).setCell ⟨g,3,none⟩ (a3))).setCell ⟨g,4,none⟩ (a4))).setCell ⟨g,5,none⟩ (a5))).setCell ⟨g,6,none⟩ (a6))).heap[k]?=w.heap[k]?)∧∀{B:Nat} {w0:World},Below B w0 w→B≤g→Below B w0 (((((((((((((((w).setCell ⟨g,0,none⟩ (a0))).setCell ⟨g,1,none⟩ (a1))).setCell ⟨g,2,none⟩ (a2))).setCell ⟨g,3,none⟩ (a3))).setCell ⟨g,4,none⟩ (a4))).setCell ⟨g,5,none⟩ (a5))).setCell ⟨g,6,none⟩ (a6))):=by
 refine⟨xA [a0,a1,a2,a3,a4,a5,a6] h hs,fun k hk=>(yF g [a0,a1,a2,a3,a4,a5,a6] 0 w).2.1 k hk,fun hb hg=>xB hb hg 0 [a0,a1,a2,a3,a4,a5,a6]⟩
theorem set2 (w:World) (g:Nat) (a0 a1:Value) {t:TypeId} {cs:Array Value} (h:w.heap[g]?=some (.cells cs t (0,0))) (hs:cs.size=2):(((((w).setCell ⟨g,0,none⟩ (a0))).setCell ⟨g,1,none⟩ (a1))).heap[g]?=some (.cells #[a0,a1] t (0,0))∧(∀k,k≠g→(((((w).setCell ⟨g,0,none⟩ (a0))).setCell ⟨g,1,none⟩ (a1))).heap[k]?=w.heap[k]?)∧∀{B:Nat} {w0:World},Below B w0 w→B≤g→Below B w0 (((((w).setCell ⟨g,0,none⟩ (a0))).setCell ⟨g,1,none⟩ (a1))):=by
 refine⟨xA [a0,a1] h hs,fun k hk=>(yF g [a0,a1] 0 w).2.1 k hk,fun hb hg=>xB hb hg 0 [a0,a1]⟩
theorem winner_none (v:Value) (es:List Pl.Ev) (work:Int) (w:World) (h:RowC kEv w v es) (hn:es.length≤1000) (hs:Pl.sets es work=[]) :
  Calls prog 41 #[v,.int .i64 work] w fun r w'=>r=.returned (.tuple #[.agg Qgh,.agg (Qi 0 0),.bool false])∧Below w.heap.size w w':=by
 obtain⟨hx,hy,b1⟩:=zT w (.cells Qgh 38) (.cells (Qi 0 0) 45)
 have HC:=zA (psets_ok v es work _ (h.below b1) hn (by rw[hs];simp))
 have HX:=zA hx
 have HY:=zA hy
 have HB:=zA b1
 have HS:=zA hs
 have HSZ:Hid (((w.alloc (.cells Qgh 38)).alloc (.cells (Qi 0 0) 45)).heap.size=w.heap.size+2):=zA (by rw[zE,zE])
 clear h b1 hs hn hx hy
 go_enter func41,ntmps41
 go_wp2_with fail
 generalize (w.alloc (.cells Qgh 38)).alloc (.cells (Qi 0 0) 45)=W at *
 refine HC.out.mono ?_
 rintro x w1 ⟨v1,rfl,ho,hb⟩
 rw[HS.out]at ho
 have hx:=(hb.block _ (gsi.1 HX.out).1).trans HX.out
 have hy:=(hb.block _ (gsi.1 HY.out).1).trans HY.out
 have HB1:=zA (HB.out.trans (hb.mono HB.out.size))
 obtain⟨ao,cap,rfl⟩:=ho.toT.form
 have fx0:=zB hx 0
 have fx1:=zB hx 1
 have fx2:=zB hx 2
 have fx3:=zB hx 3
 have fx4:=zB hx 4
 have fx5:=zB hx 5
 have fx6:=zB hx 6
 have fy0:=zB hy 0
 have fy1:=zB hy 1
 have c0:=cc 0 hx
 have c1:=cc 1 hx
 have c2:=cc 2 hx
 have c3:=cc 3 hx
 have c4:=cc 4 hx
 have c5:=cc 5 hx
 have c6:=cc 6 hx
 have d0:=cc 0 hy
 have d1:=cc 1 hy
 have HX1:=zA hx
 have HY1:=zA hy
 clear ho hb hx hy HX HY HC HB
 go_wp2_with fail
 have hz:=xA [.int .i64 0,.int .i64 0,.int .i64 0,.int .i64 0,.int .i64 0,.int .i64 0,.int .i64 0] HX1.out rfl
 have hy2:=((yF w.heap.size [.int .i64 0,.int .i64 0,.int .i64 0,.int .i64 0,.int .i64 0,.int .i64 0,.int .i64 0] 0 w1).2.1 (w.heap.size+1) (by omega)).trans HY1.out
 have hz2:=xA [.int .i64 0,.int .i64 0] hy2 rfl
 have hz1:=((yF (w.heap.size+1) [.int .i64 0,.int .i64 0] 0 (w1.setCells w.heap.size 0 [.int .i64 0,.int .i64 0,.int .i64 0,.int .i64 0,.int .i64 0,.int .i64 0,.int .i64 0])).2.1 w.heap.size (by omega)).trans hz
 have hb3:=xB (xB HB1.out (Nat.le_refl _) 0 [.int .i64 0,.int .i64 0,.int .i64 0,.int .i64 0,.int .i64 0,.int .i64 0,.int .i64 0]) (Nat.le_succ _) 0 [.int .i64 0,.int .i64 0]
 obtain⟨k1,k2,k3⟩:(((((((((((((((((((w1).setCell ⟨w.heap.size,0,none⟩ (.int .i64 0))).setCell ⟨w.heap.size,1,none⟩ (.int .i64 0))).setCell ⟨w.heap.size,2,none⟩ (.int .i64 0))).setCell ⟨w.heap.size,3,none⟩ (.int .i64 0))).setCell ⟨w.heap.size,4,none⟩ (.int .i64 0))).setCell ⟨w.heap.size,5,none⟩ (.int .i64 0))).setCell ⟨w.heap.size,6,none⟩ (.int .i64 0))).setCell ⟨(w.heap.size+1),0,none⟩ (.int .i64 0))).setCell ⟨(w.heap.size+1),1,none⟩ (.int .i64 0))).heap[w.heap.size]?=some (.cells Qgh 38 (0,0))∧(((((((((((((((((((w1).setCell ⟨w.heap.size,0,none⟩ (.int .i64 0))).setCell ⟨w.heap.size,1,none⟩ (.int .i64 0))).setCell ⟨w.heap.size,2,none⟩ (.int .i64 0))).setCell ⟨w.heap.size,3,none⟩ (.int .i64 0))).setCell ⟨w.heap.size,4,none⟩ (.int .i64 0))).setCell ⟨w.heap.size,5,none⟩ (.int .i64 0))).setCell ⟨w.heap.size,6,none⟩ (.int .i64 0))).setCell ⟨(w.heap.size+1),0,none⟩ (.int .i64 0))).setCell ⟨(w.heap.size+1),1,none⟩ (.int .i64 0))).heap[w.heap.size+1]?=some (.cells (Qi 0 0) 45 (0,0))∧Below w.heap.size w (((((((((((((((((((w1).setCell ⟨w.heap.size,0,none⟩ (.int .i64 0))).setCell ⟨w.heap.size,1,none⟩ (.int .i64 0))).setCell ⟨w.heap.size,2,none⟩ (.int .i64 0))).setCell ⟨w.heap.size,3,none⟩ (.int .i64 0))).setCell ⟨w.heap.size,4,none⟩ (.int .i64 0))).setCell ⟨w.heap.size,5,none⟩ (.int .i64 0))).setCell ⟨w.heap.size,6,none⟩ (.int .i64 0))).setCell ⟨(w.heap.size+1),0,none⟩ (.int .i64 0))).setCell ⟨(w.heap.size+1),1,none⟩ (.int .i64 0))):=⟨hz1,hz2,hb3⟩
 clear hz hy2 hz2 hz1 hb3
 generalize ((((((((((((((((((w1).setCell ⟨w.heap.size,0,none⟩ (.int .i64 0))).setCell ⟨w.heap.size,1,none⟩ (.int .i64 0))).setCell ⟨w.heap.size,2,none⟩ (.int .i64 0))).setCell ⟨w.heap.size,3,none⟩ (.int .i64 0))).setCell ⟨w.heap.size,4,none⟩ (.int .i64 0))).setCell ⟨w.heap.size,5,none⟩ (.int .i64 0))).setCell ⟨w.heap.size,6,none⟩ (.int .i64 0))).setCell ⟨(w.heap.size+1),0,none⟩ (.int .i64 0))).setCell ⟨(w.heap.size+1),1,none⟩ (.int .i64 0))=Z at *
 have e0:=cc 0 k1
 have e1:=cc 1 k1
 have e2:=cc 2 k1
 have e3:=cc 3 k1
 have e4:=cc 4 k1
 have e5:=cc 5 k1
 have e6:=cc 6 k1
 have g0:=cc 0 k2
 have g1:=cc 1 k2
 exact bodyPost_ret (v:=.tuple #[.agg Qgh,.agg (Qi 0 0),.bool false]) (by simp[results,results41,go_sem,e0,e1,e2,e3,e4,e5,e6,g0,g1]) rfl ⟨rfl,k3⟩
theorem winner_one (v:Value) (es:List Pl.Ev) (work:Int) (e:Pl.Ev) (w:World) (h:RowC kEv w v es) (hn:es.length≤1000) (hs:Pl.sets es work=[e]) :
  Calls prog 41 #[v,.int .i64 work] w fun r w'=>r=.returned (.tuple #[.agg (Qg e.mn e.mx e.goal e.slack e.up e.down e.cool),.agg (Qi e.node e.seq),.bool true])∧Below w.heap.size w w':=by
 obtain⟨hx,hy,b1⟩:=zT w (.cells Qgh 38) (.cells (Qi 0 0) 45)
 have HC:=zA (psets_ok v es work _ (h.below b1) hn (by rw[hs];simp))
 have HX:=zA hx
 have HY:=zA hy
 have HB:=zA b1
 have HS:=zA hs
 have HSZ:Hid (((w.alloc (.cells Qgh 38)).alloc (.cells (Qi 0 0) 45)).heap.size=w.heap.size+2):=zA (by rw[zE,zE])
 clear h b1 hs hn hx hy
 go_enter func41,ntmps41
 go_wp2_with fail
 generalize (w.alloc (.cells Qgh 38)).alloc (.cells (Qi 0 0) 45)=W at *
 refine HC.out.mono ?_
 rintro x w1 ⟨v1,rfl,ho,hb⟩
 rw[HS.out]at ho
 have hx:=(hb.block _ (gsi.1 HX.out).1).trans HX.out
 have hy:=(hb.block _ (gsi.1 HY.out).1).trans HY.out
 have HB1:=zA (HB.out.trans (hb.mono HB.out.size))
 obtain⟨g,cap,cur,rfl,hbg,hg,hcur⟩:=ev_own1 ho
 have HG:=zA hg
 have pF:=zA hcur
 have HBG:=zA (show w.heap.size+2≤g by rw[HSZ.out]at hbg;exact hbg)
 have HX1:=zA hx
 have HY1:=zA hy
 have HS1:=zA (fun (W:World) (h:W.heap[g]?=w1.heap[g]?)=>h.trans HG.out)
 clear ho hb hx hy HX HY HC HB hg hcur hbg HSZ
 go_wp2_with fail
 refine zD (fun W=>W.heap[g]?=w1.heap[g]?) 99 (by kernel_rfl) rfl (fun rV=>?_)
 refine tkp 0 16 rfl ?_
 refine tkp 1 17 rfl ?_
 refine tkp 2 18 rfl ?_
 refine tk 3 19 rfl (by intro wS hSw;have y:=HS1.out _ hSw;have q6:=zF (j:=6) y (pF.out 6 _ rfl);have q7:=zF (j:=7) y (pF.out 7 _ rfl);have q8:=zF (j:=8) y (pF.out 8 _ rfl);have q9:=zF (j:=9) y (pF.out 9 _ rfl);have q10:=zF (j:=10) y (pF.out 10 _ rfl);have q11:=zF (j:=11) y (pF.out 11 _ rfl);have q12:=zF (j:=12) y (pF.out 12 _ rfl);clear hSw;go_simp;(try with_reducible rfl)) ?_
 refine tkp 4 20 rfl ?_
 refine tkp 5 21 rfl ?_
 refine tkp 6 22 rfl ?_
 refine tk 7 23 rfl (by intro wS hSw;have y:=HS1.out _ hSw;have q0:=zF (j:=0) y (pF.out 0 _ rfl);have q1:=zF (j:=1) y (pF.out 1 _ rfl);clear hSw;go_simp;(try with_reducible rfl)) ?_
 have fx0:=zB HX1.out 0
 have fx1:=zB HX1.out 1
 have fx2:=zB HX1.out 2
 have fx3:=zB HX1.out 3
 have fx4:=zB HX1.out 4
 have fx5:=zB HX1.out 5
 have fx6:=zB HX1.out 6
 have c0:=cc 0 HX1.out
 have c1:=cc 1 HX1.out
 have c2:=cc 2 HX1.out
 have c3:=cc 3 HX1.out
 have c4:=cc 4 HX1.out
 have c5:=cc 5 HX1.out
 have c6:=cc 6 HX1.out
 have qQ:=zA (set7 w1 w.heap.size (.int .i64 e.mn) (.int .i64 e.mx) (.int .i64 e.goal) (.int .i64 e.slack) (.int .i64 e.up) (.int .i64 e.down) (.int .i64 e.cool) HX1.out rfl)
 clear rV
 refine t1 8 rfl (fun K hK=>?_)
 go_simp
 obtain⟨p1,p2,p3⟩:=qQ.out
 have hy7:(((((((((((((((w1).setCell ⟨w.heap.size,0,none⟩ (.int .i64 e.mn))).setCell ⟨w.heap.size,1,none⟩ (.int .i64 e.mx))).setCell ⟨w.heap.size,2,none⟩ (.int .i64 e.goal))).setCell ⟨w.heap.size,3,none⟩ (.int .i64 e.slack))).setCell ⟨w.heap.size,4,none⟩ (.int .i64 e.up))).setCell ⟨w.heap.size,5,none⟩ (.int .i64 e.down))).setCell ⟨w.heap.size,6,none⟩ (.int .i64 e.cool))).drew.heap[w.heap.size+1]?=_:=(xT _ _).trans <| (p2 (w.heap.size+1) (by omega)).trans HY1.out
 have HP1:Hid ((((((((((((((((w1).setCell ⟨w.heap.size,0,none⟩ (.int .i64 e.mn))).setCell ⟨w.heap.size,1,none⟩ (.int .i64 e.mx))).setCell ⟨w.heap.size,2,none⟩ (.int .i64 e.goal))).setCell ⟨w.heap.size,3,none⟩ (.int .i64 e.slack))).setCell ⟨w.heap.size,4,none⟩ (.int .i64 e.up))).setCell ⟨w.heap.size,5,none⟩ (.int .i64 e.down))).setCell ⟨w.heap.size,6,none⟩ (.int .i64 e.cool))).drew.heap[w.heap.size]?=_):=zA ((xT _ _).trans p1)
 have HP2:Hid ((((((((((((((((w1).setCell ⟨w.heap.size,0,none⟩ (.int .i64 e.mn))).setCell ⟨w.heap.size,1,none⟩ (.int .i64 e.mx))).setCell ⟨w.heap.size,2,none⟩ (.int .i64 e.goal))).setCell ⟨w.heap.size,3,none⟩ (.int .i64 e.slack))).setCell ⟨w.heap.size,4,none⟩ (.int .i64 e.up))).setCell ⟨w.heap.size,5,none⟩ (.int .i64 e.down))).setCell ⟨w.heap.size,6,none⟩ (.int .i64 e.cool))).drew.heap[g]?=w1.heap[g]?):=zA ((xT _ _).trans <| p2 g (by have:=HBG.out;omega))
 have HPB:=zA (p3 HB1.out (Nat.le_refl _)).drew
 clear p1 p2 p3 qQ c0 c1 c2 c3 c4 c5 c6 fx0 fx1 fx2 fx3 fx4 fx5 fx6
 generalize (((((((((((((((w1).setCell ⟨w.heap.size,0,none⟩ (.int .i64 e.mn))).setCell ⟨w.heap.size,1,none⟩ (.int .i64 e.mx))).setCell ⟨w.heap.size,2,none⟩ (.int .i64 e.goal))).setCell ⟨w.heap.size,3,none⟩ (.int .i64 e.slack))).setCell ⟨w.heap.size,4,none⟩ (.int .i64 e.up))).setCell ⟨w.heap.size,5,none⟩ (.int .i64 e.down))).setCell ⟨w.heap.size,6,none⟩ (.int .i64 e.cool))).drew=Z1 at *
 refine hK.out _ _ (fun _=>HP2.out) (fun _=>?_)
 clear hK K
 try simp only[zN]
 have HSET2:=zA (set2 Z1 (w.heap.size+1) (.int .i64 e.node) (.int .i64 e.seq) hy7 rfl)
 have dd0:=cc 0 hy7
 have dd1:=cc 1 hy7
 have ff0:=zB hy7 0
 have ff1:=zB hy7 1
 clear hy7
 refine t1 9 rfl (fun K hK=>?_)
 go_simp
 obtain⟨d1,d2,d3⟩:=HSET2.out
 have HD1:Hid ((((((Z1).setCell ⟨(w.heap.size+1),0,none⟩ (.int .i64 e.node))).setCell ⟨(w.heap.size+1),1,none⟩ (.int .i64 e.seq))).heap[w.heap.size+1]?=_):=zA d1
 have HD2:Hid ((((((Z1).setCell ⟨(w.heap.size+1),0,none⟩ (.int .i64 e.node))).setCell ⟨(w.heap.size+1),1,none⟩ (.int .i64 e.seq))).heap[w.heap.size]?=_):=zA ((d2 w.heap.size (by omega)).trans HP1.out)
 have HD3:Hid ((((((Z1).setCell ⟨(w.heap.size+1),0,none⟩ (.int .i64 e.node))).setCell ⟨(w.heap.size+1),1,none⟩ (.int .i64 e.seq))).heap[g]?=w1.heap[g]?):=zA ((d2 g (by have:=HBG.out;omega)).trans HP2.out)
 have HDB:=zA (d3 HPB.out (Nat.le_succ _))
 clear d1 d2 d3 HSET2 dd0 dd1 ff0 ff1
 generalize (((((Z1).setCell ⟨(w.heap.size+1),0,none⟩ (.int .i64 e.node))).setCell ⟨(w.heap.size+1),1,none⟩ (.int .i64 e.seq)))=Z at *
 refine hK.out _ _ (fun _=>HD3.out) (fun _=>?_)
 clear hK K
 try simp only[zN]
 refine t1 10 rfl (fun K hK=>?_)
 go_simp
 refine hK.out _ _ (fun _=>HD3.out) (fun _=>?_)
 clear hK K
 try simp only[zN]
 refine wd ?_
 have e0:=cc 0 HD2.out
 have e1:=cc 1 HD2.out
 have e2:=cc 2 HD2.out
 have e3:=cc 3 HD2.out
 have e4:=cc 4 HD2.out
 have e5:=cc 5 HD2.out
 have e6:=cc 6 HD2.out
 have g0:=cc 0 HD1.out
 have g1:=cc 1 HD1.out
 go_wp2_with fail
 exact bodyPost_ret (v:=.tuple #[.agg (Qg e.mn e.mx e.goal e.slack e.up e.down e.cool),.agg (Qi e.node e.seq),.bool true]) (by simp[results,results41,go_sem,e0,e1,e2,e3,e4,e5,e6,g0,g1]) rfl ⟨rfl,HDB.out⟩
def Pl.askedQ (e:Pl.Ev) (load:Int):Int:=Pl.within (Pl.ceilQ (max load 0) e.goal) e.mn e.mx
theorem asked_ok (e:Pl.Ev) (load:Int) (w:World) (h:e.polOk=true) :
  Calls prog 43 #[.agg (Qg e.mn e.mx e.goal e.slack e.up e.down e.cool),.int .i64 load] w fun r w'=>r=.returned (.tuple (Qi (Pl.askedQ e load) (Pl.ceilE e.goal)))∧Below w.heap.size w w':=by
 have b1:=bn w (.cells (Qg e.mn e.mx e.goal e.slack e.up e.down e.cool) 38)
 have hx:=heap_alloc_new w (.cells (Qg e.mn e.mx e.goal e.slack e.up e.down e.cool) 38)
 have HB:=zA b1
 have HX:=zA hx
 have HP:=zA (uH e (w.alloc (.cells (Qg e.mn e.mx e.goal e.slack e.up e.down e.cool) 38)) h)
 have c0:=cc 0 hx
 have c1:=cc 1 hx
 have c2:=cc 2 hx
 have c3:=cc 3 hx
 have c4:=cc 4 hx
 have c5:=cc 5 hx
 have c6:=cc 6 hx
 have hmax:∀W,Sem.run prog (Builtin.max_ #[3,3] 3 (Qi load 0)) W=.ok (.int .i64 (max load 0)) W:=fun W=>by
  unfold Builtin.max_
  simp[Builtin.max2]
  split<;>omega
 clear b1 hx h
 go_enter func43,ntmps43
 go_wp2_with fail
 generalize w.alloc (.cells (Qg e.mn e.mx e.goal e.slack e.up e.down e.cool) 38)=W at *
 refine HP.out.mono ?_
 rintro x w1 ⟨rfl,hb⟩
 have hx:=(hb.block _ (gsi.1 HX.out).1).trans HX.out
 have HB1:=zA (HB.out.trans (hb.mono HB.out.size))
 clear c0 c1 c2 c3 c4 c5 c6
 have c0:=cc 0 hx
 have c1:=cc 1 hx
 have c2:=cc 2 hx
 have c3:=cc 3 hx
 have c4:=cc 4 hx
 have c5:=cc 5 hx
 have c6:=cc 6 hx
 clear hb hx HX HP HB
 go_wp2_with fail
 refine(ceil_any _ _ _).mono ?_
 rintro x w2 ⟨rfl,rfl⟩
 go_wp2_with fail
 refine(within_any _ _ _ _).mono ?_
 rintro x w2 ⟨rfl,rfl⟩
 go_wp2_with fail
 exact bodyPost_ret (v:=.tuple (Qi (Pl.askedQ e load) (Pl.ceilE e.goal))) (by simp[results,results43,go_sem,Pl.askedQ]) rfl ⟨rfl,HB1.out⟩
theorem zJ {P:Program} {w w0:World} {ops:Array Oper} {rest:List Oper} {o:Oper} {a:Act} {Q:Exit→Act→World→Prop} (hgd:o.guard=none) (t:TypeId) (pl vl:Operand) (c c':Array Value)
  (ho:o.op=.store t pl vl) (hw:w=w0.alloc (.cells c t)) (k:Nat) (hk:w0.heap.size=k) (hp:a.eval pl=.pointer (some ⟨k,0,none⟩)) (hv:a.eval vl=.agg c')
  (hi:(P.info? t).map (·.size)=some c'.size) (hs:c.size=c'.size) (h1:c'.all (·.oneCell')=true) (hd:o.dst=none)
  (h:wpList P ops Q rest a (w0.alloc (.cells c' t))):wpList P ops Q (o::rest) a w:=by
 subst hw
 subst hk
 refine wpList_plain hgd fun K hK'=>?_
 have qD:=run_storeAt_new (P:=P) w0 t c c' hi hs h1
 unfold Oper.wp
 simp[execOp,ho,hp,hv,qD,Result.andThen]
 have h2:a.put o.dst undef=a:=by rw[hd];rfl
 exact hK' _ _ (by simpa[hd,Act.put]using h)
theorem has_1 (w:World):Calls prog 111 (Qo 1) w fun r w'=>r=.returned (.agg Qfa)∧Below w.heap.size w w':=by
 have H2:=zA (zT w (.cells Qfa 198) (.cells Qfb 295))
 go_enter func111,ntmps111
 go_wp2_with (refine zJ rfl 295 (.tmp 3) (.tmp 9) _ Qfb rfl rfl _ (zE _ _) rfl rfl (by kernel_rfl) (by kernel_rfl) (by kernel_rfl) rfl ?_)
 obtain⟨p1,p2,p3⟩:=H2.out
 have HP3:=zA p3
 clear p2 p3 H2
 generalize (w.alloc (.cells Qfa 198)).alloc (.cells Qfb 295)=Z at *
 have c0:=cc 0 p1
 have c1:=cc 1 p1
 have c2:=cc 2 p1
 have c3:=cc 3 p1
 exact bodyPost_ret (v:=.agg Qfa) (by simp[results,results111,go_sem,c0,c1,c2,c3]) rfl ⟨rfl,HP3.out⟩
theorem has_4 (w:World):Calls prog 111 (Qo 4) w fun r w'=>r=.returned (.agg Qfc)∧Below w.heap.size w w':=by
 have H2:=zA (zT w (.cells Qfc 198) (.cells Qfb 295))
 go_enter func111,ntmps111
 go_wp2_with (refine zJ rfl 295 (.tmp 3) (.tmp 9) _ Qfb rfl rfl _ (zE _ _) rfl rfl (by kernel_rfl) (by kernel_rfl) (by kernel_rfl) rfl ?_)
 obtain⟨p1,p2,p3⟩:=H2.out
 have HP3:=zA p3
 clear p2 p3 H2
 generalize (w.alloc (.cells Qfc 198)).alloc (.cells Qfb 295)=Z at *
 have c0:=cc 0 p1
 have c1:=cc 1 p1
 have c2:=cc 2 p1
 have c3:=cc 3 p1
 exact bodyPost_ret (v:=.agg Qfc) (by simp[results,results111,go_sem,c0,c1,c2,c3]) rfl ⟨rfl,HP3.out⟩
theorem has_5 (w:World):Calls prog 111 (Qo 5) w fun r w'=>r=.returned (.agg Qfd)∧Below w.heap.size w w':=by
 have H2:=zA (zT w (.cells Qfd 198) (.cells Qfb 295))
 go_enter func111,ntmps111
 go_wp2_with (refine zJ rfl 295 (.tmp 3) (.tmp 9) _ Qfb rfl rfl _ (zE _ _) rfl rfl (by kernel_rfl) (by kernel_rfl) (by kernel_rfl) rfl ?_)
 obtain⟨p1,p2,p3⟩:=H2.out
 have HP3:=zA p3
 clear p2 p3 H2
 generalize (w.alloc (.cells Qfd 198)).alloc (.cells Qfb 295)=Z at *
 have c0:=cc 0 p1
 have c1:=cc 1 p1
 have c2:=cc 2 p1
 have c3:=cc 3 p1
 exact bodyPost_ret (v:=.agg Qfd) (by simp[results,results111,go_sem,c0,c1,c2,c3]) rfl ⟨rfl,HP3.out⟩
theorem xQ (n:Int) (w:World):Calls prog 190 (Qo n) w fun r w'=>r=.returned (.bool (Pl.inside n 0 7))∧w=w':=by
 go_enter func190,ntmps190
 go_wp2_with fail
 refine(yM _ _ _ _).mono ?_
 rintro r w2 ⟨rfl,rfl⟩
 go_wp2_with fail
 go_ret
 exact⟨rfl,rfl⟩
structure DtAt (w:World) (D T O S n:Nat) (c0 c1 c2:Int):Prop where
 ms:w.heap[D]?=some (.cells #[.int .i64 n,.int .i64 1,.int .i64 c0,.int .i64 c1,.int .i64 c2,Qp T,Qp O,.int .i64 0,.int .i64 0,.pointer none,.int .i64 0,.map (some S),.slice none 0 0,.bool false] 210 (0,0))
 tb:∃t:Mem.Pl.Tab,Mem.TabAt w T n t∧t.known n=true∧t.st n=1∧t.inc n=1
 sm:∃k,w.heap[S]?=some (.map #[] k)
 ne:D≠T∧S≠T
 n8:n<8
theorem DtAt.keep {w w':World} {D T O S n:Nat} {c0 c1 c2:Int} (h:DtAt w D T O S n c0 c1 c2) (hs:w.heap.size≤w'.heap.size) (k:∀g,g=D∨g=T∨g=S→w'.heap[g]?=w.heap[g]?):DtAt w' D T O S n c0 c1 c2:=by
 obtain⟨t,h1,h2⟩:=h.tb
 obtain⟨z,hz⟩:=h.sm
 exact⟨(k _ (.inl rfl)).trans h.ms,⟨t,h1.kept hs (k _ (.inr (.inl rfl))),h2⟩,⟨z,(k _ (.inr (.inr rfl))).trans hz⟩,h.ne,h.n8⟩
theorem DtAt.lt {w:World} {D T O S n:Nat} {c0 c1 c2:Int} (h:DtAt w D T O S n c0 c1 c2):D<w.heap.size∧T<w.heap.size∧S<w.heap.size:=by
 obtain⟨t,h1,h2⟩:=h.tb
 obtain⟨z,hz⟩:=h.sm
 exact⟨(gsi.1 h.ms).1,h1.lt,(gsi.1 hz).1⟩
theorem DtAt.below {w w':World} {D T O S n:Nat} {c0 c1 c2:Int} (h:DtAt w D T O S n c0 c1 c2) (hb:Below w.heap.size w w'):DtAt w' D T O S n c0 c1 c2:=
 h.keep hb.size (fun g hg=>hb.block g (by obtain⟨h1,h2,h3⟩:=h.lt;rcases hg with rfl | rfl | rfl<;>assumption))
theorem memof_ok (T n:Nat) (sf:Int) (t:Mem.Pl.Tab) (w:World) (h:Mem.TabAt w T sf t) (hn:n<8) (hk:t.known n=true) :
  Calls prog 197 #[Qp T,.int .i64 n] w fun r w'=>r=.returned (.tuple #[.agg (Qj n (t.st n) (t.inc n)),.bool true])∧Below w.heap.size w w':=by
 have a0:(n:Int)<8:=by omega
 have b1:=bn w (.cells (Qj 0 0 0) 212)
 have h1:=h.below b1
 have HN:=zA (heap_alloc_new w (.cells (Qj (n:Int) (t.st n) (t.inc n)) 212))
 have HB:=zA (bn w (.cells (Qj (n:Int) (t.st n) (t.inc n)) 212))
 have k0:=h1.kn n hn
 have k1:=h1.no n hn
 have k2:=h1.st n hn
 have k3:=h1.inc n hn
 rw[hk]at k0 k1
 rw[if_pos rfl]at k1
 have hlt:=h1.lt
 have hsz:=zE w (.cells (Qj 0 0 0) 212)
 clear h h1 hk b1
 generalize t.st n=st at *
 generalize t.inc n=inc at *
 go_enter func197,ntmps197
 go_wp2_with (refine zJ rfl 212 (.tmp 4) (.tmp 31) _ (Qj (n:Int) st inc) rfl rfl _ rfl rfl rfl (by kernel_rfl) rfl (by kernel_rfl) rfl ?_)
 have x0:=cc 0 HN.out
 have x1:=cc 1 HN.out
 have x2:=cc 2 HN.out
 exact bodyPost_ret (v:=.tuple #[.agg (Qj n st inc),.bool true]) (by simp[results,results197,go_sem,x0,x1,x2]) rfl ⟨rfl,HB.out⟩
theorem zX {w w':World} {g:Nat} {o:Obj} (h:w.heap[g]?=some o) (hb:Below w.heap.size w w'):w'.heap[g]?=some o:=(hb.block _ (gsi.1 h).1).trans h
theorem del_none {T:TypeId} {V:TypeId} (hT:prog.underlying T=some (.map 3 V)) {w:World} {b k:Nat} (h:w.heap[b]?=some (.map #[] k)) (n:Int) (ty:TypeId):(Builtin.delete_ #[T,3] ty #[.map (some b),.int .i64 n]).run prog w=.ok (.tuple #[]) w:=by
 have hg:(getObj b).run prog w=.ok (.map #[] k) w:=by simp[getObj,Sem.run,h]
 have hs:(setObj b (.map #[] k)).run prog w=.ok () w:=by
  have:w.heap.setIfInBounds b (.map #[] k)=w.heap:=by
   apply Array.ext
   ·simp
   ·intro i h1 h2
    rw[Array.getElem_setIfInBounds]
    split
    ·rename_i e;subst e;exact(gsi.1 h).2.symm
    ·rfl
  have key:({w with heap:=w.heap.setIfInBounds b (.map #[] k)}:World)=w:=by rw[this]
  simp only[setObj,Sem.run,h]
  exact congrArg (Result.ok ()) key
 have hc:∀e,(Instr.checkKey e 10000 3 (.int .i64 n)).run prog w=.ok () w:=fun e=>by kernel_rfl
 have hf:(Instr.findKey 3 (.int .i64 n) []).run prog w=.ok none w:=by kernel_rfl
 unfold Builtin.delete_
 simp[run_underlying hT,hg,hc,hf,hs]
theorem hear_ok (D T O S n nd:Nat) (c0 c1 c2:Int) (w:World) (h:DtAt w D T O S n c0 c1 c2) (hd:nd<8) (hne:nd≠n) :
  Calls prog 115 #[Qp D,.agg (Qj nd 1 1)] w fun r w'=>r=.returned (.tuple #[])∧DtAt w' D T O S n c0 c1 c2∧Off (· = T) w w':=by
 obtain⟨t,ht,hk,hst,hinc⟩:=h.tb
 have b1:=bn w (.cells (Qj nd 1 1) 212)
 have hx:=heap_alloc_new w (.cells (Qj nd 1 1) 212)
 have h1:=h.below b1
 have ht1:=ht.below b1
 obtain⟨z,hz⟩:=h1.sm
 have HLT:=zA h.lt
 have HB:=zA b1
 have HD1:=zA h1
 have HTB:=zA ht1
 have HX:=zA hx
 have HZ:=zA hz
 have HK:=zA (And.intro hk (And.intro hst hinc))
 have HNE:=zA (show((nd:Int) == n)=false by simp;omega)
 have HND:=zA (And.intro hd hne)
 clear h b1 hx h1 ht ht1 hz hk hst hinc hd hne
 go_enter func115,ntmps115
 go_wp2_with fail
 generalize w.alloc (.cells (Qj nd 1 1) 212)=W at *
 refine zD (fun W'=>W'.heap[D]?=some (.cells #[.int .i64 n,.int .i64 1,.int .i64 c0,.int .i64 c1,.int .i64 c2,Qp T,Qp O,.int .i64 0,.int .i64 0,.pointer none,.int .i64 0,.map (some S),.slice none 0 0,.bool false] 210 (0,0))∧W'.heap[w.heap.size]?=some (.cells (Qj nd 1 1) 212 (0,0))) 99 (by kernel_rfl) ⟨HD1.out.ms,HX.out⟩ (fun rV=>?_)
 refine tkp 0 7 rfl ?_
 refine tkp 1 8 rfl ?_
 refine tkp 2 9 rfl ?_
 refine tk 3 10 rfl (by intro wS hSw;obtain⟨x,y⟩:=id hSw;have q5:=cc 5 x;have p0:=cc 0 y;have p1:=cc 1 y;have p2:=cc 2 y;clear hSw;go_simp;(try with_reducible rfl)) ?_
 refine tk 4 11 rfl (by intro wS hSw;obtain⟨x,y⟩:=id hSw;have q5:=cc 5 x;have p0:=cc 0 y;have p1:=cc 1 y;have p2:=cc 2 y;clear hSw;go_simp;(try with_reducible rfl)) ?_
 refine t1 5 rfl (fun K hK=>?_)
 go_simp
 refine(Mem.hear_any T nd 1 1 n t W.drew (HTB.out.below (Below.refl _ _).drew)).mono ?_
 rintro r w1 ⟨rfl,ht1,htu⟩
 have HT1:=zA ht1
 have hD:=(htu.same D (gsi.1 HD1.out.ms).1 HD1.out.ne.1).trans HD1.out.ms
 have hX:=(htu.same w.heap.size (gsi.1 HX.out).1 (by have:=HLT.out.2.1;omega)).trans HX.out
 have hS:=(htu.same S (gsi.1 HZ.out).1 HD1.out.ne.2).trans HZ.out
 have HD2:=zA hD
 have HX2:=zA hX
 have HS2:=zA hS
 have HO2:=zA (show Off (· = T) w w1 from(Off.of_below HB.out).trans ⟨htu.size,htu.same,htu.rest⟩)
 clear ht1 htu hD hX hS rV
 refine hK.out _ _ (fun _=>⟨HD2.out,HX2.out⟩) (fun _=>?_)
 clear hK K
 try simp only[pt,List.set]
 have rV:=And.intro HD2.out HX2.out
 refine tkp 6 6 rfl ?_
 refine tkp 7 13 rfl ?_
 refine tkp 8 14 rfl ?_
 refine tkp 9 4 rfl ?_
 refine tkp 10 5 rfl ?_
 refine wd ?_
 clear rV
 have hdt:∀W',Below w1.heap.size w1 W'→DtAt W' D T O S n c0 c1 c2∧Off (· = T) w W':=fun W' hW=>by
  refine⟨DtAt.below ⟨HD2.out,⟨_,HT1.out,?_⟩,⟨z,HS2.out⟩,HD1.out.ne,HD1.out.n8⟩ hW,HO2.out.trans (Off.of_below hW)⟩
  obtain⟨h1,h2⟩:=HND.out
  unfold Mem.Pl.Tab.hear
  split
  ·simp only[Mem.Pl.Tab.set,Int.toNat_natCast,if_neg (Ne.symm h2)]
   exact HK.out
  ·exact HK.out
 have HDT:=zA hdt
 clear hdt
 cases hs:t.said nd 1 1 with
 | false=>
  go_wp2_with fail
  go_quiet (fail)
  have HE:=HDT.out _ (below_drewN (Below.refl _ _) nq)
  have HF:=zA HE
  clear HE
  go_wp2_with fail
  exact bodyPost_ret (v:=.tuple #[]) (results_none results115 _ _ _) rfl ⟨rfl,HF.out.1,HF.out.2⟩
 | true=>
  have q0:=cc 0 HD2.out
  have p0:=cc 0 HX2.out
  have hne:=HNE.out
  go_wp2_with fail
  go_quiet (fail)
  have hb:=below_drewN (Below.refl w1.heap.size w1) nq
  have HBN:=zA hb
  clear q0 p0 hne
  have hHD:=zX HD2.out hb
  have hHX:=zX HX2.out hb
  have HHD:=zA hHD
  have HHX:=zA hHX
  have HHS:=zA (zX HS2.out hb)
  clear hb hHD hHX
  generalize w1.drewN nq=W3 at *
  go_wp2_with fail
  refine zD (fun W'=>W'.heap[D]?=some (.cells #[.int .i64 n,.int .i64 1,.int .i64 c0,.int .i64 c1,.int .i64 c2,Qp T,Qp O,.int .i64 0,.int .i64 0,.pointer none,.int .i64 0,.map (some S),.slice none 0 0,.bool false] 210 (0,0))∧W'.heap[w.heap.size]?=some (.cells (Qj nd 1 1) 212 (0,0))) 99 (by kernel_rfl) ⟨HHD.out,HHX.out⟩ (fun rV=>?_)
  refine tkp 0 26 rfl ?_
  refine tkp 1 27 rfl ?_
  refine tkp 2 28 rfl ?_
  refine tk 3 29 rfl (by intro wS hSw;obtain⟨x,y⟩:=id hSw;have q11:=cc 11 x;have p0:=cc 0 y;clear hSw;go_simp;(try with_reducible rfl)) ?_
  refine tkp 4 30 rfl ?_
  refine tk 5 31 rfl (by intro wS hSw;obtain⟨x,y⟩:=id hSw;have q11:=cc 11 x;have p0:=cc 0 y;clear hSw;go_simp;(try with_reducible rfl)) ?_
  refine t1 6 rfl (fun K hK=>?_)
  have qS:=fun ty=>del_none underlying207 (w:=W3.drew) HHS.out nd ty
  go_simp
  refine hK.out _ _ (fun _=>rV) (fun _=>?_)
  clear hK K
  try simp only[pt,List.set]
  refine wd ?_
  have p1:=zF (w:=W3.drew) (j:=1) HHX.out rfl
  have HF:=zA (HDT.out W3.drew (HBN.out.trans ((Below.refl _ _).drew.mono HBN.out.size)))
  clear rV
  go_wp2_with fail
  exact yD results115 ⟨rfl,HF.out.1,HF.out.2⟩
theorem wU {w:World} {g:Nat} {c:Array Value} {t:TypeId} (hg:w.heap[g]?=some (.cells c t (0,0))) (cs:Array Value):(w.setRow g cs).heap[g]?=some (.cells cs t (0,0)):=setRow_heap w g c cs t (0,0) hg
theorem wK (w:World) (g:Nat) (cs:Array Value) (k:Nat) (hk:k≠g):(w.setRow g cs).heap[k]?=w.heap[k]?:=by
 simp only[World.setRow]
 rw[Array.getElem?_modify,if_neg (fun e=>hk e.symm)]
theorem rC (w:World) (g:Nat) (cs:Array Value):(w.setRow g cs).heap.size=w.heap.size:=by simp[World.setRow]
theorem yE {B:Nat} {a w:World} {g:Nat} (h:Below B a w) (hg:B≤g) (cs:Array Value):Below B a (w.setRow g cs):=
 ⟨h.os,h.tape,h.output,by rw[rC];exact h.size,fun i hi=>(wK w g cs i (by omega)).trans (h.block i hi)⟩
theorem wL (D T O S n:Nat) (c0 c1 c2:Int) (w:World) (h:DtAt w D T O S n c0 c1 c2) :
  Calls prog 116 #[Qp D] w fun r w'=>r=.returned (.tuple #[])∧Below w.heap.size w w':=by
 obtain⟨t,ht,hk,hst,hinc⟩:=h.tb
 have HOF:=zA (fun (W:World) (hW:Below w.heap.size w W)=>memof_ok T n n t W (ht.below hW) h.n8 hk)
 rw[hst,hinc]at HOF
 have HB0:=zA ((Below.refl w.heap.size w).drew)
 have HD:=zA h.ms
 clear h ht hk hst hinc
 go_enter func116,ntmps116
 go_wp2_with fail
 refine zD (fun W'=>W'.heap[D]?=some (.cells #[.int .i64 n,.int .i64 1,.int .i64 c0,.int .i64 c1,.int .i64 c2,Qp T,Qp O,.int .i64 0,.int .i64 0,.pointer none,.int .i64 0,.map (some S),.slice none 0 0,.bool false] 210 (0,0))) 99 (by kernel_rfl) HD.out (fun rV=>?_)
 refine tkp 0 6 rfl ?_
 refine tkp 1 7 rfl ?_
 refine tkp 2 8 rfl ?_
 refine tk 3 9 rfl (by intro wS hSw;have q0:=cc 0 hSw;have q5:=cc 5 hSw;clear hSw;go_simp;(try with_reducible rfl)) ?_
 refine tkp 4 10 rfl ?_
 refine tkp 5 11 rfl ?_
 refine tkp 6 12 rfl ?_
 refine tk 7 13 rfl (by intro wS hSw;have q0:=cc 0 hSw;have q5:=cc 5 hSw;clear hSw;go_simp;(try with_reducible rfl)) ?_
 refine t2 8 12 rfl rfl (fun K hK=>?_) (fun K hK=>?_)
 ·go_simp
  refine(HOF.out _ (HB0.out)).mono ?_
  rintro r w1 ⟨rfl,hb⟩
  have HB:=zA (HB0.out.trans (hb.mono HB0.out.size))
  have HD1:=zA (zX HD.out HB.out)
  clear hb rV
  refine hK.out _ _ (fun _=>HD1.out) (fun _=>?_)
  clear hK K
  try simp only[pt,List.set]
  have rV:=HD1.out
  refine tkp 9 5 rfl ?_
  refine tkp 10 15 rfl ?_
  refine tkp 11 16 rfl ?_
  refine t1 12 rfl (fun K hK=>?_)
  go_simp
  have HBA:=zA (HB.out.alloc HB.out.size (.cells (Qj 0 0 0) 212))
  have HXA:=zA (show(World.alloc (w1) (.cells (Qj 0 0 0) 212)).heap[(w1).heap.size]?=some (.cells (Qj 0 0 0) 212)from heap_alloc_new (w1) (.cells (Qj 0 0 0) 212))
  have HGE:=zA (show w.heap.size≤(w1).heap.size from HB.out.size)
  have HB2:=HBA
  have HX2:=HXA
  clear HBA HXA
  have HD2:=zA (zX HD.out HB2.out)
  refine hK.out _ _ (fun _=>HD2.out) (fun _=>?_)
  clear hK K
  try simp only[pt,List.set]
  generalize World.alloc w1 (.cells (Qj 0 0 0) 212)=w2 at *
  refine t1 13 rfl (fun K hK=>?_)
  rw[if_pos (by rfl)]
  refine yG 212 (.tmp 2) (.tmp 15) w1.heap.size rfl rfl rfl rfl HX2.out (by kernel_rfl) rfl (by kernel_rfl) ?_
  have HB3:=zA (yE HB2.out HGE.out (Qj (n:Int) 1 1))
  have HX3:=zA (wU HX2.out (Qj (n:Int) 1 1))
  have HD3:=zA (zX HD.out HB3.out)
  generalize World.setRow w2 w1.heap.size (Qj (n:Int) 1 1)=w3 at *
  clear rV
  refine hK.out _ _ (fun _=>HD3.out) (fun _=>?_)
  clear hK K
  try simp only[pt,List.set]
  have rV:=HD3.out
  refine tkp 14 3 rfl ?_
  refine wd ?_
  clear rV
  have x1:=cc 1 HX3.out
  have x2:=cc 2 HX3.out
  have d1:=cc 1 HD3.out
  go_wp2_with fail
  go_quiet (fail)
  clear x1 x2 d1
  have HB4:=zA (HB3.out.trans ((below_drewN (Below.refl _ _) nq).mono HB3.out.size))
  have d13:=cc 13 (zX HD.out HB4.out)
  generalize w3.drewN nq=w4 at *
  go_wp2_with fail
  exact bodyPost_ret (v:=.tuple #[]) (results_none results116 _ _ _) rfl ⟨rfl,HB4.out⟩
 ·go_simp
  have HBA:=zA (HB0.out.alloc HB0.out.size (.cells (Qj 0 0 0) 212))
  have HXA:=zA (show(World.alloc (w.drew) (.cells (Qj 0 0 0) 212)).heap[(w).heap.size]?=some (.cells (Qj 0 0 0) 212)from heap_alloc_new (w.drew) (.cells (Qj 0 0 0) 212))
  have HGE:=zA (show w.heap.size≤(w).heap.size from HB0.out.size)
  have HDA:=zA (zX HD.out HBA.out)
  clear HB0
  have HB0:=HBA
  clear HBA
  refine hK.out _ _ (fun _=>HDA.out) (fun _=>?_)
  clear hK K
  try simp only[pt,List.set]
  clear rV
  have rV:=HDA.out
  refine t1 8 rfl (fun K hK=>?_)
  go_simp
  refine(HOF.out _ (HB0.out)).mono ?_
  rintro r w1 ⟨rfl,hb⟩
  have HB:=zA (HB0.out.trans (hb.mono HB0.out.size))
  have HD1:=zA (zX HD.out HB.out)
  have HX2:=zA (zX HXA.out hb)
  have HB2:=HB
  clear hb rV
  refine hK.out _ _ (fun _=>HD1.out) (fun _=>?_)
  clear hK K
  try simp only[pt,List.set]
  have rV:=HD1.out
  refine tkp 9 5 rfl ?_
  refine tkp 10 15 rfl ?_
  refine tkp 11 16 rfl ?_
  refine t1 13 rfl (fun K hK=>?_)
  rw[if_pos (by rfl)]
  refine yG 212 (.tmp 2) (.tmp 15) w.heap.size rfl rfl rfl rfl HX2.out (by kernel_rfl) rfl (by kernel_rfl) ?_
  have HB3:=zA (yE HB2.out HGE.out (Qj (n:Int) 1 1))
  have HX3:=zA (wU HX2.out (Qj (n:Int) 1 1))
  have HD3:=zA (zX HD.out HB3.out)
  generalize World.setRow w1 w.heap.size (Qj (n:Int) 1 1)=w3 at *
  clear rV
  refine hK.out _ _ (fun _=>HD3.out) (fun _=>?_)
  clear hK K
  try simp only[pt,List.set]
  have rV:=HD3.out
  refine tkp 14 3 rfl ?_
  refine wd ?_
  clear rV
  have x1:=cc 1 HX3.out
  have x2:=cc 2 HX3.out
  have d1:=cc 1 HD3.out
  go_wp2_with fail
  go_quiet (fail)
  clear x1 x2 d1
  have HB4:=zA (HB3.out.trans ((below_drewN (Below.refl _ _) nq).mono HB3.out.size))
  have d13:=cc 13 (zX HD.out HB4.out)
  generalize w3.drewN nq=w4 at *
  go_wp2_with fail
  exact bodyPost_ret (v:=.tuple #[]) (results_none results116 _ _ _) rfl ⟨rfl,HB4.out⟩
theorem send_ok (D T O S n:Nat) (c0 c1 c2 k to sq nd:Int) (w:World) (h:DtAt w D T O S n c0 c1 c2) :
  Calls prog 198 #[Qp D,.int .i64 k,.int .i64 to,.int .i64 sq,.int .i64 nd] w fun r w'=>∃ao m cap,r=.returned (.agg (Qri k (n:Int) to sq nd (.slice ao m cap)))∧Below w.heap.size w w':=by
 obtain⟨t,ht,_⟩:=h.tb
 have b1:=bn w (.cells Qnn 115)
 have HX:=zA (heap_alloc_new w (.cells Qnn 115))
 have HB:=zA b1
 have HALL:=zA (Mem.all_any T n t (w.alloc (.cells Qnn 115)).drew ((ht.below b1).below (Below.refl _ _).drew))
 have HD:=zA (zX h.ms b1)
 clear h ht b1
 go_enter func198,ntmps198
 go_wp2_with fail
 generalize w.alloc (.cells Qnn 115)=W at *
 refine zD (fun W'=>W'.heap[D]?=some (.cells #[.int .i64 n,.int .i64 1,.int .i64 c0,.int .i64 c1,.int .i64 c2,Qp T,Qp O,.int .i64 0,.int .i64 0,.pointer none,.int .i64 0,.map (some S),.slice none 0 0,.bool false] 210 (0,0))) 99 (by kernel_rfl) HD.out (fun rV=>?_)
 refine tkp 0 11 rfl ?_
 refine tkp 1 12 rfl ?_
 refine tkp 2 13 rfl ?_
 refine tkp 3 14 rfl ?_
 refine tk 4 15 rfl (by intro wS hSw;have q0:=cc 0 hSw;have q5:=cc 5 hSw;clear hSw;go_simp;(try with_reducible rfl)) ?_
 refine tkp 5 16 rfl ?_
 refine tkp 6 17 rfl ?_
 refine tkp 7 18 rfl ?_
 refine tkp 8 19 rfl ?_
 refine tkp 9 20 rfl ?_
 refine tkp 10 21 rfl ?_
 refine tk 11 22 rfl (by intro wS hSw;have q0:=cc 0 hSw;have q5:=cc 5 hSw;clear hSw;go_simp;(try with_reducible rfl)) ?_
 refine t1 12 rfl (fun K hK=>?_)
 go_simp
 refine HALL.out.mono ?_
 rintro r w1 ⟨v,rfl,hb,hr⟩
 obtain⟨ao,cap,rfl⟩:=Mem.own_shape hr
 generalize (t.ks 8).length=m at *
 have hb':=((Below.refl _ _).drew).trans hb
 have HB1:=zA (HB.out.trans (hb'.mono HB.out.size))
 have HX1:=zA (zX HX.out hb')
 have HD1:=zA (zX HD.out hb')
 clear hb hb' rV hr
 refine hK.out _ _ (fun _=>HD1.out) (fun _=>?_)
 clear hK K
 try simp only[pt,List.set]
 have rV:=HD1.out
 refine tkp 13 24 rfl ?_
 refine t1 14 rfl (fun K hK=>?_)
 rw[if_pos (by rfl)]
 refine yG 115 (.tmp 10) (.tmp 24) w.heap.size rfl rfl rfl rfl HX1.out (by kernel_rfl) rfl (by kernel_rfl) ?_
 have HB3:=zA (yE HB1.out (Nat.le_refl _) (Qri k (n:Int) to sq nd (.slice ao m cap)))
 have HX3:=zA (wU HX1.out (Qri k (n:Int) to sq nd (.slice ao m cap)))
 have HD3:=zA ((wK w1 w.heap.size (Qri k (n:Int) to sq nd (.slice ao m cap)) D (fun e=>by have h:=HD1.out;rw[e,HX1.out]at h;exact zI (by decide) h)).trans HD1.out)
 generalize w1.setRow w.heap.size (Qri k (n:Int) to sq nd (.slice ao m cap))=w3 at *
 clear rV
 refine hK.out _ _ (fun _=>HD3.out) (fun _=>?_)
 clear hK K
 refine wd ?_
 have m0:=cc 0 HX3.out
 have m1:=cc 1 HX3.out
 have m2:=cc 2 HX3.out
 have m3:=cc 3 HX3.out
 have m4:=cc 4 HX3.out
 have m5:=cc 5 HX3.out
 have m6:=cc 6 HX3.out
 have m7:=cc 7 HX3.out
 have m8:=cc 8 HX3.out
 have m9:=cc 9 HX3.out
 have m10:=cc 10 HX3.out
 have m11:=cc 11 HX3.out
 have m12:=cc 12 HX3.out
 have m13:=cc 13 HX3.out
 have m14:=cc 14 HX3.out
 have m15:=cc 15 HX3.out
 go_wp2_with fail
 exact bodyPost_ret (v:=.agg (Qri k (n:Int) to sq nd (.slice ao m cap))) (by simp[results,results198,go_sem,m0,m1,m2,m3,m4,m5,m6,m7,m8,m9,m10,m11,m12,m13,m14,m15]) rfl ⟨_,_,_,rfl,HB3.out⟩
end
end Go.Proofs.YtodlmbfbfaofcaaGreat
