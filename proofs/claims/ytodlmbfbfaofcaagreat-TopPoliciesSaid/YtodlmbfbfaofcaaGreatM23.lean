/- TopPolicies, part 23. -/
import Derived.Test.YtodlmbfbfaofcaaGreatM01
import Derived.Test.YtodlmbfbfaofcaaGreatM02
import Derived.Test.YtodlmbfbfaofcaaGreatM04
import Derived.Test.YtodlmbfbfaofcaaGreatM08
import Derived.Test.YtodlmbfbfaofcaaGreatM09
import Derived.Test.YtodlmbfbfaofcaaGreatM21
import Derived.Test.YtodlmbfbfaofcaaGreatM22
open Go.Proofs.Tryz
namespace Go.Proofs.YtodlmbfbfaofcaaGreat
set_option linter.unusedVariables false
set_option linter.unusedSimpArgs false
set_option maxRecDepth 100000
set_option maxHeartbeats 2000000
section
open Go.RowKit Rw Rh
def kMem:Rk (Int×Int×Int) where
 T:=212
 S:=113
 k:=3
 bytes:=24
 z:=.agg (Qj 0 0 0)
 enc:=fun d=>[.int .i64 d.1,.int .i64 d.2.1,.int .i64 d.2.2]
 hlen:=fun _=>rfl
 hone:=fun x u hu=>by simp at hu;rcases hu with rfl | rfl | rfl<;>rfl
 hk:=by decide
 hu:=by kernel_rfl
 hi:=by kernel_rfl
 hz:=rfl
 hb:=by decide
theorem uZ (w:World):Calls prog 191 #[.slice none 0 0] w fun r w'=>r=.returned (.bool true)∧Below w.heap.size w w':=by
 go_enter func191,ntmps191
 go_wp2_with fail
 refine wp_loop_rounds 1 ?_
 rw[rounds_succ]
 go_wp2_with fail
 go_ret
 exact⟨rfl,Below.refl _ _⟩
theorem wC (v:Value) (nd st inc:Int) (w:World) (h:RowC kMem w v [(nd,st,inc)]) (h1:Pl.inside nd 0 7=true) (h2:Pl.inside st 1 4=true) (h3:Pl.inside inc 0 1099511627776=true) :
  Calls prog 191 #[v] w fun r w'=>r=.returned (.bool true)∧Below w.heap.size w w':=by
 obtain⟨g,off,cap,rfl,hg,hc⟩:=h.cell (i:=0) (by simp)
 have c0:w.cell? ⟨g,off,none⟩=some (.int .i64 nd):=by have:=hc 0 _ rfl;simpa using this
 have c1:w.cell? ⟨g,off+1,none⟩=some (.int .i64 st):=by have:=hc 1 _ rfl;simpa using this
 have c2:w.cell? ⟨g,off+2,none⟩=some (.int .i64 inc):=by have:=hc 2 _ rfl;simpa using this
 have HB:=zA (bn w (.cells (Qj nd st inc) 212))
 have hn:¬nd≤ -1:=by unfold Pl.inside at h1;simp at h1;omega
 have H1:=zA h1
 have H2:=zA h2
 have H3:=zA h3
 clear h hc h1 h2 h3
 go_enter func191,ntmps191
 go_wp2_with fail
 refine wp_loop_rounds 2 ?_
 rw[rounds_succ]
 go_wp2_with fail
 refine(xN _ _).mono ?_
 rintro r w2 ⟨rfl,rfl⟩
 rw[H1.out]
 go_wp2_with fail
 refine(yM _ _ _ _).mono ?_
 rintro r w2 ⟨rfl,rfl⟩
 rw[H2.out]
 go_wp2_with fail
 refine(yM _ _ _ _).mono ?_
 rintro r w2 ⟨rfl,rfl⟩
 rw[H3.out]
 go_wp2_with fail
 rw[rounds_succ]
 go_wp2_with fail
 go_ret
 exact⟨rfl,HB.out⟩
theorem uM (w:World) (a b q:Int) (ao:Option Addr) (n cap:Nat) (hq:Pl.inside q 0 1099511627776=true) (ha:Pl.inside a 0 7=true) (hb:Pl.inside b 0 7=true) (hne:a≠b) (hm:∀W,Below w.heap.size w W→Calls prog 191 #[.slice ao n cap] W fun r w'=>r=.returned (.bool true)∧Below W.heap.size W w'):Calls prog 114 #[.agg (Qrj 1 a b q (.slice ao n cap))] w fun r w'=>r=.returned (.bool true)∧Below w.heap.size w w':=by
 have HQ:=zA hq
 have HM:=zA (hm _ (bn w (.cells (Qrj 1 a b q (.slice ao n cap)) 115)))
 clear hq hm
 have HA:=zA ha
 have HB2:=zA hb
 have he:(a == b)=false:=by simpa using hne
 have HX:=zA (heap_alloc_new w (.cells (Qrj 1 a b q (.slice ao n cap)) 115))
 have HB:=zA (bn w (.cells (Qrj 1 a b q (.slice ao n cap)) 115))
 clear ha hb hne
 go_enter func114,ntmps114
 go_wp2_with fail
 refine(yM _ _ _ _).mono ?_
 rintro r w2 ⟨rfl,rfl⟩
 rw[show Pl.inside 1 1 5=true by decide]
 go_wp2_with fail
 refine(xN _ _).mono ?_
 rintro r w2 ⟨rfl,rfl⟩
 rw[HA.out]
 go_wp2_with fail
 refine(xN _ _).mono ?_
 rintro r w2 ⟨rfl,rfl⟩
 rw[HB2.out]
 go_wp2_with fail
 refine(HM.out).mono ?_
 rintro r W0 ⟨rfl,hb⟩
 have HBW:=zA (HB.out.trans (hb.mono HB.out.size))
 have HXW:=zA (zZ hb HX.out)
 have HXB:=zA (fun (W:World) (hW:Below W0.heap.size W0 W)=>zZ hW HXW.out)
 skip
 have f0:∀p:Beh W0,p.w.cell? ⟨w.heap.size,0,none⟩=_:=fun p=>p.cell (cc 0 HXW.out)
 have f1:∀p:Beh W0,p.w.cell? ⟨w.heap.size,1,none⟩=_:=fun p=>p.cell (cc 1 HXW.out)
 have f2:∀p:Beh W0,p.w.cell? ⟨w.heap.size,2,none⟩=_:=fun p=>p.cell (cc 2 HXW.out)
 have f3:∀p:Beh W0,p.w.cell? ⟨w.heap.size,3,none⟩=_:=fun p=>p.cell (cc 3 HXW.out)
 have f4:∀p:Beh W0,p.w.cell? ⟨w.heap.size,4,none⟩=_:=fun p=>p.cell (cc 4 HXW.out)
 have f5:∀p:Beh W0,p.w.cell? ⟨w.heap.size,5,none⟩=_:=fun p=>p.cell (cc 5 HXW.out)
 have f6:∀p:Beh W0,p.w.cell? ⟨w.heap.size,6,none⟩=_:=fun p=>p.cell (cc 6 HXW.out)
 have f7:∀p:Beh W0,p.w.cell? ⟨w.heap.size,7,none⟩=_:=fun p=>p.cell (cc 7 HXW.out)
 have f8:∀p:Beh W0,p.w.cell? ⟨w.heap.size,8,none⟩=_:=fun p=>p.cell (cc 8 HXW.out)
 have f9:∀p:Beh W0,p.w.cell? ⟨w.heap.size,9,none⟩=_:=fun p=>p.cell (cc 9 HXW.out)
 have f10:∀p:Beh W0,p.w.cell? ⟨w.heap.size,10,none⟩=_:=fun p=>p.cell (cc 10 HXW.out)
 have f11:∀p:Beh W0,p.w.cell? ⟨w.heap.size,11,none⟩=_:=fun p=>p.cell (cc 11 HXW.out)
 have f12:∀p:Beh W0,p.w.cell? ⟨w.heap.size,12,none⟩=_:=fun p=>p.cell (cc 12 HXW.out)
 have f13:∀p:Beh W0,p.w.cell? ⟨w.heap.size,13,none⟩=_:=fun p=>p.cell (cc 13 HXW.out)
 have f14:∀p:Beh W0,p.w.cell? ⟨w.heap.size,14,none⟩=_:=fun p=>p.cell (cc 14 HXW.out)
 have f15:∀p:Beh W0,p.w.cell? ⟨w.heap.size,15,none⟩=_:=fun p=>p.cell (cc 15 HXW.out)
 clear hb HX HB HA HB2
 go_wp2_with fail
 go_loopw [35] (fun i wr=>∃(j:Nat),j≤4∧i=.int .i64 j∧Below W0.heap.size W0 wr) (fun i _=>4 - (intOf i).toNat)
 case atStart=>exact⟨0,by omega,rfl,Below.refl _ _⟩
 case round=>
  obtain⟨j,hj,rfl,hb⟩:=hrel
  have HBR:=zA hb
  clear hb
  by_cases hlt:j<4
  ·obtain⟨f,hf⟩:∃f,f=192+j:=⟨_,rfl⟩
   have h4:j=0∨j=1∨j=2∨j=3:=by omega
   have hix:∀w,(Instr.index 307 (.agg #[Qm 192,Qm 193,Qm 194,Qm 195]) (.int .i64 j)).run prog w=.ok (.func (.func f) #[] #[]) w:=by
    rcases h4 with rfl | rfl | rfl | rfl<;>subst hf<;>intro w<;>kernel_rfl
   have hcf:∀(x y:Value) (W:World),Sem.run prog (callFunc f #[x,y]) W=.ok (.enter f #[x,y]) W:=by
    rcases h4 with rfl | rfl | rfl | rfl<;>subst hf<;>intro x y W<;>kernel_rfl
   have HASK:Hid (∀p:Beh W0,Calls prog f #[.agg Qfa,.agg (Qrj 1 a b q (.slice ao n cap))] p.w fun r w'=>r=.returned (.bool true)∧Below p.w.heap.size p.w w'):=zA (by
    rcases h4 with rfl | rfl | rfl | rfl<;>subst hf<;>intro p
    ·exact askSeq_1 a b q ao n cap _ HQ.out
    ·exact askNode_1 a b q ao n cap _
    ·exact askSeen_1 a b q ao n cap _
    ·exact askEvents_1 a b q ao n cap _)
   have a0:(j:Int)<4:=by omega
   have a1:(j:Int)+1≤9223372036854775807:=by omega
   clear h4 hf
   go_wp2_with fail
   clear hix
   refine zS lE lE HBR.out ?_
   repeat (go_big_quiet_step (first | exact Calls.beh_of (has_1 _) | exact Calls.beh_of (HASK.out _)))
   exact nF
  ·obtain rfl:j=4:=by omega
   exact nP
theorem uL (w:World) (a b q:Int) (U:Nat→Nat) (ao:Option Addr) (n cap:Nat) (O:Nat→Nat→Bool) (M:List (Nat×Nat)) (h:SetV w (Pl.setv U (.slice ao n cap)) O U M) (hq:Pl.inside q 0 1=true) (ha:Pl.inside a 0 7=true) (hb:Pl.inside b 0 7=true) (hne:a≠b):Calls prog 114 #[.agg (Qsu 4 a b q U (.slice ao n cap))] w fun r w'=>r=.returned (.bool true)∧Below w.heap.size w w':=by
 have HQ:=zA hq
 have H:=zA h
 clear hq h
 have HA:=zA ha
 have HB2:=zA hb
 have he:(a == b)=false:=by simpa using hne
 have HX:=zA (heap_alloc_new w (.cells (Qsu 4 a b q U (.slice ao n cap)) 115))
 have HB:=zA (bn w (.cells (Qsu 4 a b q U (.slice ao n cap)) 115))
 clear ha hb hne
 go_enter func114,ntmps114
 go_wp2_with fail
 refine(yM _ _ _ _).mono ?_
 rintro r w2 ⟨rfl,rfl⟩
 rw[show Pl.inside 4 1 5=true by decide]
 go_wp2_with fail
 refine(xN _ _).mono ?_
 rintro r w2 ⟨rfl,rfl⟩
 rw[HA.out]
 go_wp2_with fail
 refine(xN _ _).mono ?_
 rintro r w2 ⟨rfl,rfl⟩
 rw[HB2.out]
 go_wp2_with fail
 refine(uZ _).mono ?_
 rintro r W0 ⟨rfl,hb⟩
 have HBW:=zA (HB.out.trans (hb.mono HB.out.size))
 have HXW:=zA (zZ hb HX.out)
 have HXB:=zA (fun (W:World) (hW:Below W0.heap.size W0 W)=>zZ hW HXW.out)
 have HH:=zA (fun (p:Beh W0)=>H.out.below (HBW.out.trans (p.b.mono HBW.out.size)))
 have f0:∀p:Beh W0,p.w.cell? ⟨w.heap.size,0,none⟩=_:=fun p=>p.cell (cc 0 HXW.out)
 have f1:∀p:Beh W0,p.w.cell? ⟨w.heap.size,1,none⟩=_:=fun p=>p.cell (cc 1 HXW.out)
 have f2:∀p:Beh W0,p.w.cell? ⟨w.heap.size,2,none⟩=_:=fun p=>p.cell (cc 2 HXW.out)
 have f3:∀p:Beh W0,p.w.cell? ⟨w.heap.size,3,none⟩=_:=fun p=>p.cell (cc 3 HXW.out)
 have f4:∀p:Beh W0,p.w.cell? ⟨w.heap.size,4,none⟩=_:=fun p=>p.cell (cc 4 HXW.out)
 have f5:∀p:Beh W0,p.w.cell? ⟨w.heap.size,5,none⟩=_:=fun p=>p.cell (cc 5 HXW.out)
 have f6:∀p:Beh W0,p.w.cell? ⟨w.heap.size,6,none⟩=_:=fun p=>p.cell (cc 6 HXW.out)
 have f7:∀p:Beh W0,p.w.cell? ⟨w.heap.size,7,none⟩=_:=fun p=>p.cell (cc 7 HXW.out)
 have f8:∀p:Beh W0,p.w.cell? ⟨w.heap.size,8,none⟩=_:=fun p=>p.cell (cc 8 HXW.out)
 have f9:∀p:Beh W0,p.w.cell? ⟨w.heap.size,9,none⟩=_:=fun p=>p.cell (cc 9 HXW.out)
 have f10:∀p:Beh W0,p.w.cell? ⟨w.heap.size,10,none⟩=_:=fun p=>p.cell (cc 10 HXW.out)
 have f11:∀p:Beh W0,p.w.cell? ⟨w.heap.size,11,none⟩=_:=fun p=>p.cell (cc 11 HXW.out)
 have f12:∀p:Beh W0,p.w.cell? ⟨w.heap.size,12,none⟩=_:=fun p=>p.cell (cc 12 HXW.out)
 have f13:∀p:Beh W0,p.w.cell? ⟨w.heap.size,13,none⟩=_:=fun p=>p.cell (cc 13 HXW.out)
 have f14:∀p:Beh W0,p.w.cell? ⟨w.heap.size,14,none⟩=_:=fun p=>p.cell (cc 14 HXW.out)
 have f15:∀p:Beh W0,p.w.cell? ⟨w.heap.size,15,none⟩=_:=fun p=>p.cell (cc 15 HXW.out)
 clear hb HX HB HA HB2
 go_wp2_with fail
 go_loopw [35] (fun i wr=>∃(j:Nat),j≤4∧i=.int .i64 j∧Below W0.heap.size W0 wr) (fun i _=>4 - (intOf i).toNat)
 case atStart=>exact⟨0,by omega,rfl,Below.refl _ _⟩
 case round=>
  obtain⟨j,hj,rfl,hb⟩:=hrel
  have HBR:=zA hb
  clear hb
  by_cases hlt:j<4
  ·obtain⟨f,hf⟩:∃f,f=192+j:=⟨_,rfl⟩
   have h4:j=0∨j=1∨j=2∨j=3:=by omega
   have hix:∀w,(Instr.index 307 (.agg #[Qm 192,Qm 193,Qm 194,Qm 195]) (.int .i64 j)).run prog w=.ok (.func (.func f) #[] #[]) w:=by
    rcases h4 with rfl | rfl | rfl | rfl<;>subst hf<;>intro w<;>kernel_rfl
   have hcf:∀(x y:Value) (W:World),Sem.run prog (callFunc f #[x,y]) W=.ok (.enter f #[x,y]) W:=by
    rcases h4 with rfl | rfl | rfl | rfl<;>subst hf<;>intro x y W<;>kernel_rfl
   have HASK:Hid (∀p:Beh W0,Calls prog f #[.agg Qfc,.agg (Qsu 4 a b q U (.slice ao n cap))] p.w fun r w'=>r=.returned (.bool true)∧Below p.w.heap.size p.w w'):=zA (by
    rcases h4 with rfl | rfl | rfl | rfl<;>subst hf<;>intro p
    ·exact askSeq_4 a b q U ao n cap _ HQ.out
    ·exact askNode_4 a b q U ao n cap _
    ·exact askSeen_4 a b q U ao n cap _ O M (HH.out _)
    ·exact askEvents_4 a b q U ao n cap _)
   have a0:(j:Int)<4:=by omega
   have a1:(j:Int)+1≤9223372036854775807:=by omega
   clear h4 hf
   go_wp2_with fail
   clear hix
   refine zS lE lE HBR.out ?_
   repeat (go_big_quiet_step (first | exact Calls.beh_of (has_4 _) | exact Calls.beh_of (HASK.out _)))
   exact nF
  ·obtain rfl:j=4:=by omega
   exact nP
theorem uK (w:World) (a b:Int) (ao:Option Addr) (n cap:Nat) (es:List Pl.Ev) (h:RowC kEv w (.slice ao n cap) es) (hn:es.length≤768) (hok:∀e∈es,e.Ok) (hi:∀e∈es,Is w e) (ha:Pl.inside a 0 7=true) (hb:Pl.inside b 0 7=true) (hne:a≠b):Calls prog 114 #[.agg (Qtk 5 a b (.slice ao n cap))] w fun r w'=>r=.returned (.bool true)∧Below w.heap.size w w':=by
 have HN:=zA hn
 have HOK:=zA hok
 have H:=zA h
 have HIS:=zA hi
 clear hn hok h hi
 have HA:=zA ha
 have HB2:=zA hb
 have he:(a == b)=false:=by simpa using hne
 have HX:=zA (heap_alloc_new w (.cells (Qtk 5 a b (.slice ao n cap)) 115))
 have HB:=zA (bn w (.cells (Qtk 5 a b (.slice ao n cap)) 115))
 clear ha hb hne
 go_enter func114,ntmps114
 go_wp2_with fail
 refine(yM _ _ _ _).mono ?_
 rintro r w2 ⟨rfl,rfl⟩
 rw[show Pl.inside 5 1 5=true by decide]
 go_wp2_with fail
 refine(xN _ _).mono ?_
 rintro r w2 ⟨rfl,rfl⟩
 rw[HA.out]
 go_wp2_with fail
 refine(xN _ _).mono ?_
 rintro r w2 ⟨rfl,rfl⟩
 rw[HB2.out]
 go_wp2_with fail
 refine(uZ _).mono ?_
 rintro r W0 ⟨rfl,hb⟩
 have HBW:=zA (HB.out.trans (hb.mono HB.out.size))
 have HXW:=zA (zZ hb HX.out)
 have HXB:=zA (fun (W:World) (hW:Below W0.heap.size W0 W)=>zZ hW HXW.out)
 have HHI:=zA (fun (p:Beh W0) e he=>(HIS.out e he).below (HBW.out.trans (p.b.mono HBW.out.size)))
 have HH:=zA (fun (p:Beh W0)=>H.out.below (HBW.out.trans (p.b.mono HBW.out.size)))
 have f0:∀p:Beh W0,p.w.cell? ⟨w.heap.size,0,none⟩=_:=fun p=>p.cell (cc 0 HXW.out)
 have f1:∀p:Beh W0,p.w.cell? ⟨w.heap.size,1,none⟩=_:=fun p=>p.cell (cc 1 HXW.out)
 have f2:∀p:Beh W0,p.w.cell? ⟨w.heap.size,2,none⟩=_:=fun p=>p.cell (cc 2 HXW.out)
 have f3:∀p:Beh W0,p.w.cell? ⟨w.heap.size,3,none⟩=_:=fun p=>p.cell (cc 3 HXW.out)
 have f4:∀p:Beh W0,p.w.cell? ⟨w.heap.size,4,none⟩=_:=fun p=>p.cell (cc 4 HXW.out)
 have f5:∀p:Beh W0,p.w.cell? ⟨w.heap.size,5,none⟩=_:=fun p=>p.cell (cc 5 HXW.out)
 have f6:∀p:Beh W0,p.w.cell? ⟨w.heap.size,6,none⟩=_:=fun p=>p.cell (cc 6 HXW.out)
 have f7:∀p:Beh W0,p.w.cell? ⟨w.heap.size,7,none⟩=_:=fun p=>p.cell (cc 7 HXW.out)
 have f8:∀p:Beh W0,p.w.cell? ⟨w.heap.size,8,none⟩=_:=fun p=>p.cell (cc 8 HXW.out)
 have f9:∀p:Beh W0,p.w.cell? ⟨w.heap.size,9,none⟩=_:=fun p=>p.cell (cc 9 HXW.out)
 have f10:∀p:Beh W0,p.w.cell? ⟨w.heap.size,10,none⟩=_:=fun p=>p.cell (cc 10 HXW.out)
 have f11:∀p:Beh W0,p.w.cell? ⟨w.heap.size,11,none⟩=_:=fun p=>p.cell (cc 11 HXW.out)
 have f12:∀p:Beh W0,p.w.cell? ⟨w.heap.size,12,none⟩=_:=fun p=>p.cell (cc 12 HXW.out)
 have f13:∀p:Beh W0,p.w.cell? ⟨w.heap.size,13,none⟩=_:=fun p=>p.cell (cc 13 HXW.out)
 have f14:∀p:Beh W0,p.w.cell? ⟨w.heap.size,14,none⟩=_:=fun p=>p.cell (cc 14 HXW.out)
 have f15:∀p:Beh W0,p.w.cell? ⟨w.heap.size,15,none⟩=_:=fun p=>p.cell (cc 15 HXW.out)
 clear hb HX HB HA HB2
 go_wp2_with fail
 go_loopw [35] (fun i wr=>∃(j:Nat),j≤4∧i=.int .i64 j∧Below W0.heap.size W0 wr) (fun i _=>4 - (intOf i).toNat)
 case atStart=>exact⟨0,by omega,rfl,Below.refl _ _⟩
 case round=>
  obtain⟨j,hj,rfl,hb⟩:=hrel
  have HBR:=zA hb
  clear hb
  by_cases hlt:j<4
  ·obtain⟨f,hf⟩:∃f,f=192+j:=⟨_,rfl⟩
   have h4:j=0∨j=1∨j=2∨j=3:=by omega
   have hix:∀w,(Instr.index 307 (.agg #[Qm 192,Qm 193,Qm 194,Qm 195]) (.int .i64 j)).run prog w=.ok (.func (.func f) #[] #[]) w:=by
    rcases h4 with rfl | rfl | rfl | rfl<;>subst hf<;>intro w<;>kernel_rfl
   have hcf:∀(x y:Value) (W:World),Sem.run prog (callFunc f #[x,y]) W=.ok (.enter f #[x,y]) W:=by
    rcases h4 with rfl | rfl | rfl | rfl<;>subst hf<;>intro x y W<;>kernel_rfl
   have HASK:Hid (∀p:Beh W0,Calls prog f #[.agg Qfd,.agg (Qtk 5 a b (.slice ao n cap))] p.w fun r w'=>r=.returned (.bool true)∧Below p.w.heap.size p.w w'):=zA (by
    rcases h4 with rfl | rfl | rfl | rfl<;>subst hf<;>intro p
    ·exact askSeq_5 a b ao n cap _
    ·exact askNode_5 a b ao n cap _
    ·exact askSeen_5 a b ao n cap _
    ·exact askEvents_5 a b ao n cap _ es (HH.out _) HN.out HOK.out (HHI.out _))
   have a0:(j:Int)<4:=by omega
   have a1:(j:Int)+1≤9223372036854775807:=by omega
   clear h4 hf
   go_wp2_with fail
   clear hix
   refine zS lE lE HBR.out ?_
   repeat (go_big_quiet_step (first | exact Calls.beh_of (has_5 _) | exact Calls.beh_of (HASK.out _)))
   exact nF
  ·obtain rfl:j=4:=by omega
   exact nP
theorem ping_ok (D T O S n:Nat) (c0 c1 c2:Int) (a b q:Int) (ao:Option Addr) (nm cap:Nat) (w:World) (h:DtAt w D T O S n c0 c1 c2) :
  Calls prog 117 #[Qp D,.agg (Qrj 1 a b q (.slice ao nm cap))] w fun r w'=>∃ad:Addr,r=.returned (.slice (some ad) 1 1)∧Below w.heap.size w w':=by
 have b1:=bn w (.cells (Qrj 1 a b q (.slice ao nm cap)) 115)
 have HX:=zA (heap_alloc_new w (.cells (Qrj 1 a b q (.slice ao nm cap)) 115))
 have HB:=zA b1
 have HS:=zA (fun (W:World) (hW:Below w.heap.size w W)=>send_ok D T O S n c0 c1 c2 2 a q n W (h.below hW))
 have HD:=zA (zW h.ms b1)
 clear h b1
 go_enter func117,ntmps117
 go_wp2_with fail
 generalize w.alloc (.cells (Qrj 1 a b q (.slice ao nm cap)) 115)=W at *
 refine zD (fun W'=>W'.heap[D]?=some (.cells #[.int .i64 n,.int .i64 1,.int .i64 c0,.int .i64 c1,.int .i64 c2,Qp T,Qp O,.int .i64 0,.int .i64 0,.pointer none,.int .i64 0,.map (some S),.slice none 0 0,.bool false] 210 (0,0))∧W'.heap[w.heap.size]?=some (.cells (Qrj 1 a b q (.slice ao nm cap)) 115 (0,0))) 99 lE ⟨HD.out,HX.out⟩ (fun qB=>?_)
 refine tkp 0 5 rfl ?_
 refine tkp 1 6 rfl ?_
 refine tk 2 7 rfl lU ?_
 refine tkp 3 8 rfl ?_
 refine tk 4 9 rfl lU ?_
 refine tkp 5 10 rfl ?_
 refine tkp 6 11 rfl ?_
 refine tkp 7 12 rfl ?_
 refine tk 8 13 rfl lU ?_
 refine t1 9 rfl (fun K hK=>?_)
 go_simp
 refine(HS.out W.drew (HB.out.trans ((Below.refl _ _).drew.mono HB.out.size))).mono ?_
 rintro r w1 ⟨ao1,m1,cap1,rfl,hb⟩
 have hb':=((Below.refl _ _).drew).trans hb
 have HB1:=zA (HB.out.trans (hb'.mono HB.out.size))
 have HX1:=zA (zW HX.out hb')
 have HD1:=zA (zW HD.out hb')
 clear hb hb' qB HX HB
 refine hK.out _ _ (fun _=>⟨HD1.out,HX1.out⟩) (fun _=>?_)
 clear hK K
 try simp only[pt,List.set]
 have qB:=And.intro HD1.out HX1.out
 refine t1 10 rfl (fun K hK=>?_)
 go_simp
 generalize hob:Obj.cells #[Value.int .i64 2,.int .i64 n,.int .i64 a,.int .i64 q,.int .i64 n,.int .i64 0,.int .i64 0,.int .i64 0,.int .i64 0,.int .i64 0,.int .i64 0,.int .i64 0,.int .i64 0,.slice none 0 0,.slice none 0 0,.slice ao1 m1 cap1] 115=ob
 have HB2:=zA (HB1.out.alloc HB1.out.size ob)
 have HX2:=zA (zW HX1.out (bn _ ob))
 have HD2:=zA (zW HD1.out (bn _ ob))
 clear qB
 refine hK.out _ _ (fun _=>⟨HD2.out,HX2.out⟩) (fun _=>?_)
 clear hK K
 try simp only[pt,List.set]
 have qB:=And.intro HD2.out HX2.out
 refine tkp 11 4 rfl ?_
 refine wd ?_
 go_wp2_with fail
 go_ret
 exact⟨_,rfl,HB2.out⟩
theorem nothing_4 (D:Nat) (a b q:Int) (U:Nat→Nat) (ao:Option Addr) (nm cap:Nat) (w:World) :
  Calls prog 120 #[Qp D,.agg (Qsu 4 a b q U (.slice ao nm cap))] w fun r w'=>r=.returned (.slice none 0 0)∧Below w.heap.size w w':=by
 have HB:=zA (bn w (.cells (Qsu 4 a b q U (.slice ao nm cap)) 115))
 go_enter func120,ntmps120
 go_wp2_with fail
 go_ret
 exact⟨rfl,HB.out⟩
theorem nothing_5 (D:Nat) (a b q:Int) (ao:Option Addr) (nm cap:Nat) (w:World) :
  Calls prog 120 #[Qp D,.agg (Qtk 5 a b (.slice ao nm cap))] w fun r w'=>r=.returned (.slice none 0 0)∧Below w.heap.size w w':=by
 have HB:=zA (bn w (.cells (Qtk 5 a b (.slice ao nm cap)) 115))
 go_enter func120,ntmps120
 go_wp2_with fail
 go_ret
 exact⟨rfl,HB.out⟩
theorem don_4 (D T O S n:Nat) (c0 c1 c2:Int) (a q:Int) (U:Nat→Nat) (ao:Option Addr) (nm:Nat) (cap:Nat) (w:World) (h:DtAt w D T O S n c0 c1 c2) (hm:∀W,Below w.heap.size w W→Calls prog 114 #[.agg (Qsu 4 a (n:Int) q U (.slice ao nm cap))] W fun r w'=>r=.returned (.bool true)∧Below W.heap.size W w') :
  Calls prog 51 #[Qp D,.agg (Qsu 4 a (n:Int) q U (.slice ao nm cap))] w fun r w'=>r=.returned (.tuple #[.slice none 0 0,.int .i64 0])∧Below w.heap.size w w':=by
 have b1:=bn w (.cells (Qsu 4 a (n:Int) q U (.slice ao nm cap)) 115)
 have HX:=zA (heap_alloc_new w (.cells (Qsu 4 a (n:Int) q U (.slice ao nm cap)) 115))
 have HB:=zA b1
 have HD:=zA (zW h.ms b1)
 have HM:=zA (hm _ (b1.trans ((Below.refl _ _).drew.mono b1.size)))
 have HDT:=zA (fun (W:World) (hW:Below w.heap.size w W)=>h.below hW)
 have HLT:=zA h.lt
 clear h b1 hm
 go_enter func51,ntmps51
 go_wp2_with fail
 generalize w.alloc (.cells (Qsu 4 a (n:Int) q U (.slice ao nm cap)) 115)=W at *
 refine zD (fun W'=>W'.heap[D]?=some (.cells #[.int .i64 n,.int .i64 1,.int .i64 c0,.int .i64 c1,.int .i64 c2,Qp T,Qp O,.int .i64 0,.int .i64 0,.pointer none,.int .i64 0,.map (some S),.slice none 0 0,.bool false] 210 (0,0))∧W'.heap[w.heap.size]?=some (.cells (Qsu 4 a (n:Int) q U (.slice ao nm cap)) 115 (0,0))) 99 lE ⟨HD.out,HX.out⟩ (fun qB=>?_)
 refine tl 0 13 rfl 115 (.tmp 3) w.heap.size rfl rfl (fun wS hSw=>hSw.2) underlying115 ?_
 refine t1 1 rfl (fun K hK=>?_)
 go_simp
 refine HM.out.mono ?_
 rintro r w1 ⟨rfl,hb⟩
 have hb':=((Below.refl _ _).drew).trans hb
 have HB1:=zA (HB.out.trans (hb'.mono HB.out.size))
 have HX1:=zA (zW HX.out hb')
 have HD1:=zA (zW HD.out hb')
 clear hb hb' qB HX HB HD HM
 refine hK.out _ _ (fun _=>⟨HD1.out,HX1.out⟩) (fun _=>?_)
 clear hK K
 try simp only[pt,List.set]
 have qB:=And.intro HD1.out HX1.out
 refine tkp 2 15 rfl ?_
 refine tkp 3 16 rfl ?_
 refine tkp 4 17 rfl ?_
 refine tk 5 18 rfl lH ?_
 refine tkp 6 19 rfl ?_
 refine tkp 7 20 rfl ?_
 refine tkp 8 21 rfl ?_
 refine tk 9 22 rfl lH ?_
 refine tkp 10 23 rfl ?_
 refine tkp 11 24 rfl ?_
 refine tkp 12 12 rfl ?_
 refine wd ?_
 clear qB
 have d13:=cc 13 HD1.out
 have p15:=cc 15 HX1.out
 go_wp2_with fail
 refine wp_loop_rounds 1 ?_
 rw[rounds_succ]
 go_wp2_with fail
 refine(wH D T O S n c0 c1 c2 w1 (HDT.out w1 HB1.out)).mono ?_
 rintro r w4 ⟨rfl,hb⟩
 have HBZ:=zA (hb.alloc hb.size (.cells #[.nilFunc,Qm 117,Qm 118,Qm 119,Qm 120,Qm 120] 216))
 have HY5:=zA (heap_alloc_new w4 (.cells #[.nilFunc,Qm 117,Qm 118,Qm 119,Qm 120,Qm 120] 216))
 have HX5:=zA (zW HX1.out HBZ.out)
 clear hb p15 d13
 go_wp2_with (refine zJ rfl 216 (.tmp 8) (.tmp 43) #[.nilFunc,.nilFunc,.nilFunc,.nilFunc,.nilFunc,.nilFunc] #[.nilFunc,Qm 117,Qm 118,Qm 119,Qm 120,Qm 120] rfl rfl _ rfl rfl rfl lE rfl lE rfl ?_)
 generalize w4.alloc (.cells #[.nilFunc,Qm 117,Qm 118,Qm 119,Qm 120,Qm 120] 216)=w5 at *
 refine zD (fun W'=>W'.heap[w4.heap.size]?=some (.cells #[.nilFunc,Qm 117,Qm 118,Qm 119,Qm 120,Qm 120] 216 (0,0))∧W'.heap[w.heap.size]?=some (.cells (Qsu 4 a (n:Int) q U (.slice ao nm cap)) 115 (0,0))) 99 lE ⟨HY5.out,HX5.out⟩ (fun qB=>?_)
 refine tkp 0 44 rfl ?_
 refine tk 1 45 rfl kI ?_
 refine tkp 2 46 rfl ?_
 refine tk 3 47 rfl kI ?_
 refine tkp 4 48 rfl ?_
 refine tl 5 49 rfl 115 (.tmp 3) w.heap.size rfl rfl (fun wS hSw=>hSw.2) underlying115 ?_
 refine t1 6 rfl (fun K hK=>?_)
 go_simp
 refine(nothing_4 D a n q U ao nm cap w5.drew).mono ?_
 exact nB
theorem don_5 (D T O S n:Nat) (c0 c1 c2:Int) (a q:Int) (ao:Option Addr) (nm:Nat) (cap:Nat) (w:World) (h:DtAt w D T O S n c0 c1 c2) (hm:∀W,Below w.heap.size w W→Calls prog 114 #[.agg (Qtk 5 a (n:Int) (.slice ao nm cap))] W fun r w'=>r=.returned (.bool true)∧Below W.heap.size W w') :
  Calls prog 51 #[Qp D,.agg (Qtk 5 a (n:Int) (.slice ao nm cap))] w fun r w'=>r=.returned (.tuple #[.slice none 0 0,.int .i64 0])∧Below w.heap.size w w':=by
 have b1:=bn w (.cells (Qtk 5 a (n:Int) (.slice ao nm cap)) 115)
 have HX:=zA (heap_alloc_new w (.cells (Qtk 5 a (n:Int) (.slice ao nm cap)) 115))
 have HB:=zA b1
 have HD:=zA (zW h.ms b1)
 have HM:=zA (hm _ (b1.trans ((Below.refl _ _).drew.mono b1.size)))
 have HDT:=zA (fun (W:World) (hW:Below w.heap.size w W)=>h.below hW)
 have HLT:=zA h.lt
 clear h b1 hm
 go_enter func51,ntmps51
 go_wp2_with fail
 generalize w.alloc (.cells (Qtk 5 a (n:Int) (.slice ao nm cap)) 115)=W at *
 refine zD (fun W'=>W'.heap[D]?=some (.cells #[.int .i64 n,.int .i64 1,.int .i64 c0,.int .i64 c1,.int .i64 c2,Qp T,Qp O,.int .i64 0,.int .i64 0,.pointer none,.int .i64 0,.map (some S),.slice none 0 0,.bool false] 210 (0,0))∧W'.heap[w.heap.size]?=some (.cells (Qtk 5 a (n:Int) (.slice ao nm cap)) 115 (0,0))) 99 lE ⟨HD.out,HX.out⟩ (fun qB=>?_)
 refine tl 0 13 rfl 115 (.tmp 3) w.heap.size rfl rfl (fun wS hSw=>hSw.2) underlying115 ?_
 refine t1 1 rfl (fun K hK=>?_)
 go_simp
 refine HM.out.mono ?_
 rintro r w1 ⟨rfl,hb⟩
 have hb':=((Below.refl _ _).drew).trans hb
 have HB1:=zA (HB.out.trans (hb'.mono HB.out.size))
 have HX1:=zA (zW HX.out hb')
 have HD1:=zA (zW HD.out hb')
 clear hb hb' qB HX HB HD HM
 refine hK.out _ _ (fun _=>⟨HD1.out,HX1.out⟩) (fun _=>?_)
 clear hK K
 try simp only[pt,List.set]
 have qB:=And.intro HD1.out HX1.out
 refine tkp 2 15 rfl ?_
 refine tkp 3 16 rfl ?_
 refine tkp 4 17 rfl ?_
 refine tk 5 18 rfl lH ?_
 refine tkp 6 19 rfl ?_
 refine tkp 7 20 rfl ?_
 refine tkp 8 21 rfl ?_
 refine tk 9 22 rfl lH ?_
 refine tkp 10 23 rfl ?_
 refine tkp 11 24 rfl ?_
 refine tkp 12 12 rfl ?_
 refine wd ?_
 clear qB
 have d13:=cc 13 HD1.out
 have p15:=cc 15 HX1.out
 go_wp2_with fail
 refine wp_loop_rounds 1 ?_
 rw[rounds_succ]
 go_wp2_with fail
 refine(wH D T O S n c0 c1 c2 w1 (HDT.out w1 HB1.out)).mono ?_
 rintro r w4 ⟨rfl,hb⟩
 have HBZ:=zA (hb.alloc hb.size (.cells #[.nilFunc,Qm 117,Qm 118,Qm 119,Qm 120,Qm 120] 216))
 have HY5:=zA (heap_alloc_new w4 (.cells #[.nilFunc,Qm 117,Qm 118,Qm 119,Qm 120,Qm 120] 216))
 have HX5:=zA (zW HX1.out HBZ.out)
 clear hb p15 d13
 go_wp2_with (refine zJ rfl 216 (.tmp 8) (.tmp 43) #[.nilFunc,.nilFunc,.nilFunc,.nilFunc,.nilFunc,.nilFunc] #[.nilFunc,Qm 117,Qm 118,Qm 119,Qm 120,Qm 120] rfl rfl _ rfl rfl rfl lE rfl lE rfl ?_)
 generalize w4.alloc (.cells #[.nilFunc,Qm 117,Qm 118,Qm 119,Qm 120,Qm 120] 216)=w5 at *
 refine zD (fun W'=>W'.heap[w4.heap.size]?=some (.cells #[.nilFunc,Qm 117,Qm 118,Qm 119,Qm 120,Qm 120] 216 (0,0))∧W'.heap[w.heap.size]?=some (.cells (Qtk 5 a (n:Int) (.slice ao nm cap)) 115 (0,0))) 99 lE ⟨HY5.out,HX5.out⟩ (fun qB=>?_)
 refine tkp 0 44 rfl ?_
 refine tk 1 45 rfl kJ ?_
 refine tkp 2 46 rfl ?_
 refine tk 3 47 rfl kJ ?_
 refine tkp 4 48 rfl ?_
 refine tl 5 49 rfl 115 (.tmp 3) w.heap.size rfl rfl (fun wS hSw=>hSw.2) underlying115 ?_
 refine t1 6 rfl (fun K hK=>?_)
 go_simp
 refine(nothing_5 D a n q ao nm cap w5.drew).mono ?_
 exact nB
theorem don_1 (D T O S n:Nat) (c0 c1 c2:Int) (a q:Int) (ao:Option Addr) (cap:Nat) (w:World) (h:DtAt w D T O S n c0 c1 c2) (nd:Nat) (qR:RowC kMem w (.slice ao 1 cap) [((nd:Int),1,1)]) (hd:nd<8) (hne:nd≠n) (hm:∀W,Below w.heap.size w W→Calls prog 114 #[.agg (Qrj 1 a (n:Int) q (.slice ao 1 cap))] W fun r w'=>r=.returned (.bool true)∧Below W.heap.size W w') :
  Calls prog 51 #[Qp D,.agg (Qrj 1 a (n:Int) q (.slice ao 1 cap))] w fun r w'=>∃ad:Addr,r=.returned (.tuple #[.slice (some ad) 1 1,.int .i64 0])∧DtAt w' D T O S n c0 c1 c2∧Off (· = T) w w':=by
 have b1:=bn w (.cells (Qrj 1 a (n:Int) q (.slice ao 1 cap)) 115)
 have HX:=zA (heap_alloc_new w (.cells (Qrj 1 a (n:Int) q (.slice ao 1 cap)) 115))
 have HB:=zA b1
 have HD:=zA (zW h.ms b1)
 have HM:=zA (hm _ (b1.trans ((Below.refl _ _).drew.mono b1.size)))
 have HDT:=zA (fun (W:World) (hW:Below w.heap.size w W)=>h.below hW)
 have HLT:=zA h.lt
 have HMEM:=zA (fun (W:World) (hW:Below w.heap.size w W)=>qR.below hW)
 have HND:=zA (And.intro hd hne)
 clear qR hd hne
 clear h b1 hm
 go_enter func51,ntmps51
 go_wp2_with fail
 generalize w.alloc (.cells (Qrj 1 a (n:Int) q (.slice ao 1 cap)) 115)=W at *
 refine zD (fun W'=>W'.heap[D]?=some (.cells #[.int .i64 n,.int .i64 1,.int .i64 c0,.int .i64 c1,.int .i64 c2,Qp T,Qp O,.int .i64 0,.int .i64 0,.pointer none,.int .i64 0,.map (some S),.slice none 0 0,.bool false] 210 (0,0))∧W'.heap[w.heap.size]?=some (.cells (Qrj 1 a (n:Int) q (.slice ao 1 cap)) 115 (0,0))) 99 lE ⟨HD.out,HX.out⟩ (fun qB=>?_)
 refine tl 0 13 rfl 115 (.tmp 3) w.heap.size rfl rfl (fun wS hSw=>hSw.2) underlying115 ?_
 refine t1 1 rfl (fun K hK=>?_)
 go_simp
 refine HM.out.mono ?_
 rintro r w1 ⟨rfl,hb⟩
 have hb':=((Below.refl _ _).drew).trans hb
 have HB1:=zA (HB.out.trans (hb'.mono HB.out.size))
 have HX1:=zA (zW HX.out hb')
 have HD1:=zA (zW HD.out hb')
 clear hb hb' qB HX HB HD HM
 refine hK.out _ _ (fun _=>⟨HD1.out,HX1.out⟩) (fun _=>?_)
 clear hK K
 try simp only[pt,List.set]
 have qB:=And.intro HD1.out HX1.out
 refine tkp 2 15 rfl ?_
 refine tkp 3 16 rfl ?_
 refine tkp 4 17 rfl ?_
 refine tk 5 18 rfl lH ?_
 refine tkp 6 19 rfl ?_
 refine tkp 7 20 rfl ?_
 refine tkp 8 21 rfl ?_
 refine tk 9 22 rfl lH ?_
 refine tkp 10 23 rfl ?_
 refine tkp 11 24 rfl ?_
 refine tkp 12 12 rfl ?_
 refine wd ?_
 clear qB
 have d13:=cc 13 HD1.out
 have p15:=cc 15 HX1.out
 go_wp2_with fail
 have qM:=zA (HMEM.out w1 HB1.out)
 obtain⟨g,off,cap',e1,hg,hc⟩:=qM.out.cell (i:=0) (by simp)
 cases e1
 have y0:w1.cell? ⟨g,off,none⟩=some (.int .i64 nd):=by have:=hc 0 _ rfl;simpa using this
 have y1:w1.cell? ⟨g,off+1,none⟩=some (.int .i64 1):=by have:=hc 1 _ rfl;simpa using this
 have y2:w1.cell? ⟨g,off+2,none⟩=some (.int .i64 1):=by have:=hc 2 _ rfl;simpa using this
 clear hc qM
 refine wp_loop_rounds 2 ?_
 rw[rounds_succ]
 have hn1:=heap_alloc_new w1 (.cells (Qj (nd:Int) 1 1) 212)
 have HB2:=zA (HB1.out.alloc HB1.out.size (.cells (Qj (nd:Int) 1 1) 212))
 have HX2:=zA (zW HX1.out (bn _ (.cells (Qj (nd:Int) 1 1) 212)))
 have z0:=cc 0 hn1
 have z1:=cc 1 hn1
 have z2:=cc 2 hn1
 clear hn1
 go_wp2_with fail
 clear y0 y1 y2 z0 z1 z2 hg p15 d13
 generalize w1.alloc (.cells (Qj (nd:Int) 1 1) 212)=w2 at *
 refine(hear_ok D T O S n nd c0 c1 c2 w2 (HDT.out w2 HB2.out) HND.out.1 HND.out.2).mono ?_
 rintro r w3 ⟨rfl,hd3,ho3⟩
 have HD3:=zA hd3
 have HO3:=zA (show Off (· = T) w w3 from(Off.of_below HB2.out).trans ho3)
 have HX3:=zA ((ho3.same w.heap.size (gsi.1 HX2.out).1 (by have:=HLT.out.2.1;omega)).trans HX2.out)
 clear hd3 ho3 HB2 HX2 HB1 HX1 HD1
 go_wp2_with fail
 rw[rounds_succ]
 go_wp2_with fail
 refine(wH D T O S n c0 c1 c2 w3 HD3.out).mono ?_
 rintro r w4 ⟨rfl,hb⟩
 have HBZ:=zA (hb.alloc hb.size (.cells #[.nilFunc,Qm 117,Qm 118,Qm 119,Qm 120,Qm 120] 216))
 have HY5:=zA (heap_alloc_new w4 (.cells #[.nilFunc,Qm 117,Qm 118,Qm 119,Qm 120,Qm 120] 216))
 have HX5:=zA (zW HX3.out HBZ.out)
 clear hb
 go_wp2_with (refine zJ rfl 216 (.tmp 8) (.tmp 43) #[.nilFunc,.nilFunc,.nilFunc,.nilFunc,.nilFunc,.nilFunc] #[.nilFunc,Qm 117,Qm 118,Qm 119,Qm 120,Qm 120] rfl rfl _ rfl rfl rfl lE rfl lE rfl ?_)
 generalize w4.alloc (.cells #[.nilFunc,Qm 117,Qm 118,Qm 119,Qm 120,Qm 120] 216)=w5 at *
 refine zD (fun W'=>W'.heap[w4.heap.size]?=some (.cells #[.nilFunc,Qm 117,Qm 118,Qm 119,Qm 120,Qm 120] 216 (0,0))∧W'.heap[w.heap.size]?=some (.cells (Qrj 1 a (n:Int) q (.slice (some ⟨g,off,none⟩) 1 cap)) 115 (0,0))) 99 lE ⟨HY5.out,HX5.out⟩ (fun qB=>?_)
 refine tkp 0 44 rfl ?_
 refine tk 1 45 rfl kK ?_
 refine tkp 2 46 rfl ?_
 refine tk 3 47 rfl kK ?_
 refine tkp 4 48 rfl ?_
 refine tl 5 49 rfl 115 (.tmp 3) w.heap.size rfl rfl (fun wS hSw=>hSw.2) underlying115 ?_
 refine t1 6 rfl (fun K hK=>?_)
 go_simp
 have HD5:=zA (show DtAt w5.drew D T O S n c0 c1 c2 from HD3.out.below (HBZ.out.trans ((Below.refl _ _).drew.mono HBZ.out.size)))
 refine(ping_ok D T O S n c0 c1 c2 a n q (some ⟨g,off,none⟩) 1 cap w5.drew HD5.out).mono ?_
 rintro r w6 ⟨ad6,rfl,hb⟩
 have HB6:=zA (HBZ.out.trans (((Below.refl _ _).drew.trans hb).mono HBZ.out.size))
 have hHD:=And.intro (zW HY5.out ((Below.refl _ _).drew.trans hb)) (zW HX5.out ((Below.refl _ _).drew.trans hb))
 clear hb qB
 refine hK.out _ _ (fun _=>hHD) (fun _=>?_)
 clear hK K
 try simp only[pt,List.set]
 have qB:=hHD
 refine tkp 7 4 rfl ?_
 refine tkp 8 5 rfl ?_
 refine wd ?_
 clear qB hHD
 go_wp2_with fail
 exact bodyPost_ret (v:=.tuple #[.slice (some ad6) 1 1,.int .i64 0]) (by simp[results,results51,go_sem]) rfl ⟨_,rfl,HD3.out.below HB6.out,HO3.out.trans (Off.of_below HB6.out)⟩
structure Wc where
 n:Nat
 disk:Int
 nd:Int
 mtu:Int
 win:Int
 kp:Int
 salt:Int
 seed:Int
 c0:Int
 c1:Int
 c2:Int
 net:Addr
 api:Addr
structure WdAt (w:World) (W P:Nat) (c:Wc) (d r:Nat→Value):Prop where
 wd:w.heap[W]?=some (.cells #[.int .i64 c.n,.int .i64 c.disk,.int .i64 c.nd,.int .i64 c.mtu,.int .i64 c.win,.int .i64 c.kp,.int .u64 c.salt,.int .u64 c.seed,.int .i64 c.c0,.int .i64 c.c1,.int .i64 c.c2,.slice (some ⟨P,0,none⟩) c.n c.n,.pointer (some c.net),.pointer (some c.api)] 96 (0,0))
 pl:∃cs,w.heap[P]?=some (.cells cs 91 (0,0))∧cs.size=c.n*3∧∀i,i<c.n→cs[i*3]?=some (d i)∧cs[i*3+1]?=some (r i)∧cs[i*3+2]?=some (.pointer none)
 n1:1≤c.n∧c.n≤8
theorem WdAt.ne {w:World} {W P:Nat} {c:Wc} {d r:Nat→Value} (h:WdAt w W P c d r):W≠P:=fun e=>by
 obtain⟨cs,h1,_⟩:=h.pl
 have h2:=h.wd
 rw[e,h1]at h2
 cases h2
theorem WdAt.lt {w:World} {W P:Nat} {c:Wc} {d r:Nat→Value} (h:WdAt w W P c d r):W<w.heap.size∧P<w.heap.size:=by
 obtain⟨cs,h1,_⟩:=h.pl
 exact⟨(gsi.1 h.wd).1,(gsi.1 h1).1⟩
theorem WdAt.keep {w w':World} {W P:Nat} {c:Wc} {d r:Nat→Value} (h:WdAt w W P c d r) (k:∀g,g=W∨g=P→w'.heap[g]?=w.heap[g]?):WdAt w' W P c d r:=by
 obtain⟨cs,h1,h2⟩:=h.pl
 exact⟨(k W (.inl rfl)).trans h.wd,⟨cs,(k P (.inr rfl)).trans h1,h2⟩,h.n1⟩
theorem WdAt.below {w w':World} {W P:Nat} {c:Wc} {d r:Nat→Value} (h:WdAt w W P c d r) (hb:Below w.heap.size w w'):WdAt w' W P c d r:=
 h.keep (fun g hg=>hb.block g (hg.elim (fun e=>e ▸ h.lt.1) (fun e=>e ▸ h.lt.2)))
theorem WdAt.disk {w:World} {W P:Nat} {c:Wc} {d r:Nat→Value} (h:WdAt w W P c d r) {i:Nat} (hi:i<c.n):w.cell? ⟨P,i*3,none⟩=some (d i):=by
 obtain⟨cs,h1,_,h2⟩:=h.pl
 have:=(h2 i hi).1
 simp[World.cell?,h1,this]
theorem WdAt.runs {w:World} {W P:Nat} {c:Wc} {d r:Nat→Value} (h:WdAt w W P c d r) {i:Nat} (hi:i<c.n):w.cell? ⟨P,i*3+1,none⟩=some (r i):=by
 obtain⟨cs,h1,_,h2⟩:=h.pl
 have:=(h2 i hi).2.1
 simp[World.cell?,h1,this]
theorem tO (x:Int) (w:World):Calls prog 36 #[.bool true,.int .i64 x] w fun r w'=>r=.returned (.tuple #[])∧w=w':=by
 go_enter func36,ntmps36
 go_wp2_with fail
 exact yG results36 ⟨rfl,rfl⟩
theorem tP (x:Int) (w:World):Calls prog 36 #[.bool false,.int .i64 x] w fun r w'=>r=.panicked [{v:=.iface 140 (.agg (Qo x)),recovered:=false}]∧w=w':=by
 go_enter func36,ntmps36
 go_wp2_with fail
 exact⟨rfl,rfl,rfl⟩
theorem xY (w:World):Calls prog 64 (Qo 0) w fun r w'=>r=.returned (.tuple #[])∧w=w':=by
 go_enter func64,ntmps64
 go_wp2_with fail
 exact yG results64 ⟨rfl,rfl⟩
theorem vG (x:Int) (hx:(x != 0)=true) (w:World):Calls prog 64 (Qo x) w fun r w'=>r=.panicked [{v:=.iface 140 (.agg (Qo x)),recovered:=false}]∧w=w':=by
 go_enter func64,ntmps64
 go_wp2_with fail
 exact⟨rfl,rfl,rfl⟩
theorem vZ (W P:Nat) (c:Wc) (d r:Nat→Value) (n:Int) (w:World) (h:WdAt w W P c d r):Calls prog 38 #[Qp W,.int .i64 n] w fun x w'=>x=.returned (.bool (Pl.inside n 0 ((c.n:Int) - 1)))∧w=w':=by
 have HX:=zA (cc 11 h.wd)
 have x11:=HX.out
 have hn:=h.n1
 clear h
 go_enter func38,ntmps38
 go_wp2_with fail
 refine(xU n 0 ((c.n:Int) - 1) _).mono ?_
 rintro x w' ⟨rfl,rfl⟩
 go_wp2_with fail
 go_ret
 exact⟨rfl,rfl⟩
theorem wplace_ok (W P:Nat) (c:Wc) (d r:Nat→Value) (n:Nat) (w:World) (h:WdAt w W P c d r) (hn:n<c.n):Calls prog 74 #[Qp W,.int .i64 n] w fun x w'=>x=.returned (.pointer (some ⟨P,n*3,none⟩))∧w=w':=by
 have HI:=zA (vZ W P c d r n w h)
 have x11:=cc 11 h.wd
 have hin:Pl.inside n 0 ((c.n:Int) - 1)=true:=(by unfold Pl.inside;simp;omega)
 simp only[hin]at HI
 have h1:(n:Int)<c.n:=by omega
 have h0:¬(n:Int)<0:=by omega
 clear h hin
 go_enter func74,ntmps74
 go_wp2_with fail
 refine HI.out.mono ?_
 rintro x w' ⟨rfl,rfl⟩
 go_wp2_with fail
 refine(tO 2 _).mono ?_
 rintro x w' ⟨rfl,rfl⟩
 go_wp2_with fail
 go_ret
 exact⟨rfl,rfl⟩
theorem wplace_bad (W P:Nat) (c:Wc) (d r:Nat→Value) (n:Int) (w:World) (h:WdAt w W P c d r) (hn:Pl.inside n 0 ((c.n:Int) - 1)=false):Calls prog 74 #[Qp W,.int .i64 n] w fun x w'=>x=.panicked [{v:=.iface 140 (.agg (Qo 2)),recovered:=false}]∧w=w':=by
 have HI:=zA (vZ W P c d r n w h)
 simp only[hn]at HI
 clear h hn
 go_enter func74,ntmps74
 go_wp2_with fail
 refine HI.out.mono ?_
 rintro x w' ⟨rfl,rfl⟩
 go_wp2_with fail
 refine(tP 2 _).mono ?_
 rintro x w' ⟨rfl,rfl⟩
 go_wp2_with fail
 exact zT rfl ⟨rfl,rfl⟩
theorem vF (W P:Nat) (c:Wc) (d r:Nat→Value) (n:Nat) (a:Addr) (w:World) (h:WdAt w W P c d r) (hn:n<c.n) (hr:r n=.pointer (some a)):Calls prog 68 #[Qp W,.int .i64 n] w fun x w'=>x=.returned (.pointer (some ⟨P,n*3,none⟩))∧w=w':=by
 have HI:=zA (wplace_ok W P c d r n w h hn)
 have hc:=h.runs hn
 rw[hr]at hc
 clear h
 go_enter func68,ntmps68
 go_wp2_with fail
 refine HI.out.mono ?_
 rintro x w' ⟨rfl,rfl⟩
 go_wp2_with fail
 refine(tO 10 _).mono ?_
 rintro x w' ⟨rfl,rfl⟩
 go_wp2_with fail
 go_ret
 exact⟨rfl,rfl⟩
theorem tL (W P:Nat) (c:Wc) (d r:Nat→Value) (n:Int) (w:World) (h:WdAt w W P c d r) (hn:Pl.inside n 0 ((c.n:Int) - 1)=false):Calls prog 68 #[Qp W,.int .i64 n] w fun x w'=>x=.panicked [{v:=.iface 140 (.agg (Qo 2)),recovered:=false}]∧w=w':=by
 have HI:=zA (wplace_bad W P c d r n w h hn)
 clear h hn
 go_enter func68,ntmps68
 go_wp2_with fail
 refine HI.out.mono ?_
 rintro x w' ⟨rfl,rfl⟩
 go_wp2_with fail
 exact zT rfl ⟨rfl,rfl⟩
theorem uR (W P:Nat) (c:Wc) (d r:Nat→Value) (n:Nat) (w:World) (h:WdAt w W P c d r) (hn:n<c.n):Calls prog 9 #[Qp W,.int .i64 n] w fun x w'=>x=.returned (r n)∧w=w':=by
 have HI:=zA (vZ W P c d r n w h)
 have x11:=cc 11 h.wd
 have hin:Pl.inside n 0 ((c.n:Int) - 1)=true:=(by unfold Pl.inside;simp;omega)
 simp only[hin]at HI
 have hc:=h.runs hn
 have h1:(n:Int)<c.n:=by omega
 have h0:¬(n:Int)<0:=by omega
 clear h hin
 go_enter func9,ntmps9
 go_wp2_with fail
 refine HI.out.mono ?_
 rintro x w' ⟨rfl,rfl⟩
 go_wp2_with fail
 go_ret
 exact⟨rfl,rfl⟩
end
end Go.Proofs.YtodlmbfbfaofcaaGreat
