/- TopLoads, part 30. -/
import Derived.Test.YtodlmbfbfaofcaaGreatM01
import Derived.Test.YtodlmbfbfaofcaaGreatM03
import Derived.Test.YtodlmbfbfaofcaaGreatM07
import Derived.Test.YtodlmbfbfaofcaaGreatM29
open Go.Proofs.Tryz
namespace Go.Proofs.YtodlmbfbfaofcaaGreat
set_option linter.unusedVariables false
set_option linter.unusedSimpArgs false
set_option maxRecDepth 100000
set_option maxHeartbeats 4000000
section
open Go.RowKit Rw Rh
theorem wI {T V:TypeId} (hT:prog.underlying T=some (.map 3 V)) {w:World} {b k:Nat} {es:Array MapEntry} (h:w.heap[b]?=some (.map es k)) (n:Int) (v:Value) (hf:(Instr.findKey 3 (.int .i64 n) es.toList).run prog w=.ok none w) :
  (Instr.mapUpdate T (.map (some b)) (.int .i64 n) v).run prog w=.ok () (setBlk w b (.map (es.push {key:=.int .i64 n,val:=v,born:=k}) (k+1))):=by
 have hg:(getObj b).run prog w=.ok (.map es k) w:=by simp[getObj,Sem.run,h]
 have hs:∀o,(setObj b o).run prog w=.ok () (setBlk w b o):=fun o=>by simp[setObj,Sem.run,h,setBlk]
 have hc:∀e,(Instr.checkKey e 10000 3 (.int .i64 n)).run prog w=.ok () w:=fun e=>by kernel_rfl
 unfold Instr.mapUpdate
 simp[run_underlying hT,hg,hc,hf,hs]
theorem tU {T V:TypeId} (hT:prog.underlying T=some (.map 3 V)) {w:World} {b k i:Nat} {es:Array MapEntry} {v:Value} (h:w.heap[b]?=some (.map es k)) (n:Int) (hf:(Instr.findKey 3 (.int .i64 n) es.toList).run prog w=.ok (some (i,v)) w) :
  (Instr.lookup T (.map (some b)) (.int .i64 n) true).run prog w=.ok (.tuple #[v,.bool true]) w:=by
 have hg:(getObj b).run prog w=.ok (.map es k) w:=by simp[getObj,Sem.run,h]
 have hc:∀e,(Instr.checkKey e 10000 3 (.int .i64 n)).run prog w=.ok () w:=fun e=>by kernel_rfl
 unfold Instr.lookup
 simp[run_underlying hT,hg,hc,hf]
theorem miss_run {T V:TypeId} (hT:prog.underlying T=some (.map 3 V)) {w:World} {b k:Nat} {es:Array MapEntry} {z:Value} (h:w.heap[b]?=some (.map es k)) (n:Int) (hz:(zeroValue V).run prog w=.ok z w) (hf:(Instr.findKey 3 (.int .i64 n) es.toList).run prog w=.ok none w) :
  (Instr.lookup T (.map (some b)) (.int .i64 n) true).run prog w=.ok (.tuple #[z,.bool false]) w:=by
 have hg:(getObj b).run prog w=.ok (.map es k) w:=by simp[getObj,Sem.run,h]
 have hc:∀e,(Instr.checkKey e 10000 3 (.int .i64 n)).run prog w=.ok () w:=fun e=>by kernel_rfl
 unfold Instr.lookup
 simp[run_underlying hT,hg,hc,hf,hz]
theorem gon_1 (g o b ms mh n mtu:Nat) (a q:Int) (ao:Option Addr) (nm cap:Nat) (es:List Pl.Ev) (clock:Int) (w:World) (h:GoAt w g o b ms mh n mtu es clock) (hrt:∀W,Below w.heap.size w W→Calls prog 114 #[.agg (Qrj 1 a (n:Int) q (.slice ao nm cap))] W fun r w'=>r=.returned (.bool true)∧Below W.heap.size W w') :
  Calls prog 52 #[Qp g,.agg (Qrj 1 a (n:Int) q (.slice ao nm cap))] w fun r w'=>r=.returned (.tuple #[.slice none 0 0,.slice none 0 0,.int .i64 0])∧Below w.heap.size w w':=by
 have b1:=bn w (.cells (Qrj 1 a (n:Int) q (.slice ao nm cap)) 115)
 have HX:=zA (heap_alloc_new w (.cells (Qrj 1 a (n:Int) q (.slice ao nm cap)) 115))
 have HB:=zA b1
 have HG:=zA (fun (W:World) (hW:Below w.heap.size w W)=>h.below hW)
 have HM:=zA (hrt _ (b1.trans ((Below.refl _ _).drew.mono b1.size)))
 clear b1 h hrt
 go_enter func52,ntmps52
 go_wp2_with fail
 generalize w.alloc (.cells (Qrj 1 a (n:Int) q (.slice ao nm cap)) 115)=W at *
 refine zD (fun W'=>W'.heap[g]?=some (.cells #[.int .i64 n,.int .i64 mtu,Qp o,Qp b] 218 (0,0))∧W'.heap[w.heap.size]?=some (.cells (Qrj 1 a (n:Int) q (.slice ao nm cap)) 115 (0,0))) 99 (by kernel_rfl) ⟨(HG.out W HB.out).gs,HX.out⟩ (fun rV=>?_)
 refine tl 0 15 rfl 115 (.tmp 3) w.heap.size rfl rfl (fun wS hSw=>hSw.2) underlying115 ?_
 refine t1 1 rfl (fun K hK=>?_)
 go_simp
 refine HM.out.mono ?_
 rintro r w1 ⟨rfl,hb⟩
 have hb':=((Below.refl _ _).drew).trans hb
 have HB1:=zA (HB.out.trans (hb'.mono HB.out.size))
 have HX1:=zA (zC HX.out hb')
 clear hb hb' rV HX HB HM
 refine hK.out _ _ (fun _=>⟨(HG.out w1 HB1.out).gs,HX1.out⟩) (fun _=>?_)
 clear hK K
 try simp only[pt,List.set]
 have rV:=And.intro (HG.out w1 HB1.out).gs HX1.out
 refine tkp 2 17 rfl ?_
 refine tkp 3 18 rfl ?_
 refine tkp 4 19 rfl ?_
 refine tk 5 20 rfl (by intro wS hSw;obtain⟨x,y⟩:=id hSw;have q0:=cc 0 x;have p2:=cc 2 y;clear hSw;go_simp;(try with_reducible rfl)) ?_
 refine tkp 6 21 rfl ?_
 refine tkp 7 22 rfl ?_
 refine tkp 8 23 rfl ?_
 refine tk 9 24 rfl (by intro wS hSw;obtain⟨x,y⟩:=id hSw;have q0:=cc 0 x;have p2:=cc 2 y;clear hSw;go_simp;(try with_reducible rfl)) ?_
 refine tkp 10 25 rfl ?_
 refine tkp 11 26 rfl ?_
 refine tkp 12 14 rfl ?_
 refine wd ?_
 clear rV
 have hmm:=@run_makeMap prog
 have hmf:∀(fn:Fn) (first cap:Array Value) (w:World),(Instr.makeFunc fn first cap).run prog w=.ok (.func fn first cap) w:=fun _ _ _ _=>rfl
 have hm2:=heap_alloc_new w1 (.map #[] 0)
 have h4:=wI underlying220 hm2 4 (.func (.func 121) #[Qp g] #[]) (by kernel_rfl)
 have hm3:=yR hm2 (.map #[{key:=.int .i64 4,val:=.func (.func 121) #[Qp g] #[],born:=0}] 1)
 have h5:=wI underlying220 hm3 5 (.func (.func 122) #[Qp g] #[]) (by kernel_rfl)
 have hm4:=yR hm3 (.map #[{key:=.int .i64 4,val:=.func (.func 121) #[Qp g] #[],born:=0},{key:=.int .i64 5,val:=.func (.func 122) #[Qp g] #[],born:=1}] 2)
 have hb4:Below w1.heap.size w1 (setBlk (setBlk (w1.alloc (.map #[] 0)) w1.heap.size (.map #[{key:=.int .i64 4,val:=.func (.func 121) #[Qp g] #[],born:=0}] 1)) w1.heap.size (.map #[{key:=.int .i64 4,val:=.func (.func 121) #[Qp g] #[],born:=0},{key:=.int .i64 5,val:=.func (.func 122) #[Qp g] #[],born:=1}] 2)):=xC (xC (bn _ _) (Nat.le_refl _) _) (Nat.le_refl _) _
 have HB5:=zA (HB1.out.trans (hb4.mono HB1.out.size))
 have HX5:=zA (zC HX1.out hb4)
 have HM5:=zA hm4
 clear hm2 hm3 hm4 hb4
 change Sem.run prog _ _=.ok () (setBlk (w1.alloc (.map #[] 0)) w1.heap.size (.map #[{key:=.int .i64 4,val:=.func (.func 121) #[Qp g] #[],born:=0}] 1))at h4
 change Sem.run prog _ _=.ok () (setBlk (setBlk (w1.alloc (.map #[] 0)) w1.heap.size (.map #[{key:=.int .i64 4,val:=.func (.func 121) #[Qp g] #[],born:=0}] 1)) w1.heap.size (.map #[{key:=.int .i64 4,val:=.func (.func 121) #[Qp g] #[],born:=0},{key:=.int .i64 5,val:=.func (.func 122) #[Qp g] #[],born:=1}] 2))at h5
 have hlk:=miss_run underlying220 HM5.out 1 (z:=.nilFunc) (by kernel_rfl) (by kernel_rfl)
 have p0:=cc 0 HX5.out
 go_wp2_with (refine zH rfl 115 (.tmp 3) w.heap.size (Qrj 1 a (n:Int) q (.slice ao nm cap)) 115 (0,0) _ rfl rfl HX5.out underlying115 rfl (by kernel_rfl) ?_)
 exact bodyPost_ret (v:=.tuple #[.slice none 0 0,.slice none 0 0,.int .i64 0]) (by simp[results,results52,go_sem]) rfl ⟨rfl,HB5.out⟩
theorem gon_40 (g o b ms mh n mtu:Nat) (a:Nat) (O:Nat→Nat→Bool) (U:Nat→Nat) (M:List (Nat×Nat)) (ao:Option Addr) (cap:Nat) (es:List Pl.Ev) (clock:Int) (w:World) (h:GoAt w g o b ms mh n mtu es clock) (hs:SetV w (.agg (Qu U ao M.length cap)) O U M) (ha:a<8) (hne:n≠a) (hl:(Pl.codes es).length≤4000) (hm:512≤mtu∧mtu≤4096) (hrt:∀W,Below w.heap.size w W→Calls prog 114 #[.agg (Qsu 4 (a:Int) (n:Int) 0 U (.slice ao M.length cap))] W fun r w'=>r=.returned (.bool true)∧Below W.heap.size W w') :
  Calls prog 52 #[Qp g,.agg (Qsu 4 (a:Int) (n:Int) 0 U (.slice ao M.length cap))] w fun r w'=>∃v ms' parts,r=.returned (.tuple #[v,.slice none 0 0,.int .i64 0])∧Deltas w' n a ms' parts∧parts.flatten.Perm (es.filter (fun e=> !O e.at.1 e.at.2))∧(∀p∈parts,p≠[]∧p.length≤768)∧Below w.heap.size w w'∧∃tail,OwnR kMsg w.heap.size w' v (ms'++tail)∧(tail=[]∧(∀a s,O a s=true→∃e∈es,e.at=(a,s))∨∃O' U' M' ao' cap',tail=[dgq n a 1 U' (ao',M'.length,cap')]∧SetV w' (Pl.setv U' (.slice ao' M'.length cap')) O' U' M'∧Holds O' es):=by
 have b1:=bn w (.cells (Qsu 4 (a:Int) (n:Int) 0 U (.slice ao M.length cap)) 115)
 have HX:=zA (heap_alloc_new w (.cells (Qsu 4 (a:Int) (n:Int) 0 U (.slice ao M.length cap)) 115))
 have HB:=zA b1
 have HG:=zA (fun (W:World) (hW:Below w.heap.size w W)=>h.below hW)
 have HM:=zA (hrt _ (b1.trans ((Below.refl _ _).drew.mono b1.size)))
 have HSV:=zA (fun (W:World) (hW:Below w.heap.size w W)=>told_0 g o b ms mh n mtu a O U M ao cap es clock W (h.below hW) (hs.below hW) ha hne hl hm)
 clear b1 h hrt hs ha hne hl hm
 go_enter func52,ntmps52
 go_wp2_with fail
 generalize w.alloc (.cells (Qsu 4 (a:Int) (n:Int) 0 U (.slice ao M.length cap)) 115)=W at *
 refine zD (fun W'=>W'.heap[g]?=some (.cells #[.int .i64 n,.int .i64 mtu,Qp o,Qp b] 218 (0,0))∧W'.heap[w.heap.size]?=some (.cells (Qsu 4 (a:Int) (n:Int) 0 U (.slice ao M.length cap)) 115 (0,0))) 99 (by kernel_rfl) ⟨(HG.out W HB.out).gs,HX.out⟩ (fun rV=>?_)
 refine tl 0 15 rfl 115 (.tmp 3) w.heap.size rfl rfl (fun wS hSw=>hSw.2) underlying115 ?_
 refine t1 1 rfl (fun K hK=>?_)
 go_simp
 refine HM.out.mono ?_
 rintro r w1 ⟨rfl,hb⟩
 have hb':=((Below.refl _ _).drew).trans hb
 have HB1:=zA (HB.out.trans (hb'.mono HB.out.size))
 have HX1:=zA (zC HX.out hb')
 clear hb hb' rV HX HB HM
 refine hK.out _ _ (fun _=>⟨(HG.out w1 HB1.out).gs,HX1.out⟩) (fun _=>?_)
 clear hK K
 try simp only[pt,List.set]
 have rV:=And.intro (HG.out w1 HB1.out).gs HX1.out
 refine tkp 2 17 rfl ?_
 refine tkp 3 18 rfl ?_
 refine tkp 4 19 rfl ?_
 refine tk 5 20 rfl (by intro wS hSw;obtain⟨x,y⟩:=id hSw;have q0:=cc 0 x;have p2:=cc 2 y;clear hSw;go_simp;(try with_reducible rfl)) ?_
 refine tkp 6 21 rfl ?_
 refine tkp 7 22 rfl ?_
 refine tkp 8 23 rfl ?_
 refine tk 9 24 rfl (by intro wS hSw;obtain⟨x,y⟩:=id hSw;have q0:=cc 0 x;have p2:=cc 2 y;clear hSw;go_simp;(try with_reducible rfl)) ?_
 refine tkp 10 25 rfl ?_
 refine tkp 11 26 rfl ?_
 refine tkp 12 14 rfl ?_
 refine wd ?_
 clear rV
 have hmm:=@run_makeMap prog
 have hmf:∀(fn:Fn) (first cap:Array Value) (w:World),(Instr.makeFunc fn first cap).run prog w=.ok (.func fn first cap) w:=fun _ _ _ _=>rfl
 have hm2:=heap_alloc_new w1 (.map #[] 0)
 have h4:=wI underlying220 hm2 4 (.func (.func 121) #[Qp g] #[]) (by kernel_rfl)
 have hm3:=yR hm2 (.map #[{key:=.int .i64 4,val:=.func (.func 121) #[Qp g] #[],born:=0}] 1)
 have h5:=wI underlying220 hm3 5 (.func (.func 122) #[Qp g] #[]) (by kernel_rfl)
 have hm4:=yR hm3 (.map #[{key:=.int .i64 4,val:=.func (.func 121) #[Qp g] #[],born:=0},{key:=.int .i64 5,val:=.func (.func 122) #[Qp g] #[],born:=1}] 2)
 have hb4:Below w1.heap.size w1 (setBlk (setBlk (w1.alloc (.map #[] 0)) w1.heap.size (.map #[{key:=.int .i64 4,val:=.func (.func 121) #[Qp g] #[],born:=0}] 1)) w1.heap.size (.map #[{key:=.int .i64 4,val:=.func (.func 121) #[Qp g] #[],born:=0},{key:=.int .i64 5,val:=.func (.func 122) #[Qp g] #[],born:=1}] 2)):=xC (xC (bn _ _) (Nat.le_refl _) _) (Nat.le_refl _) _
 have HB5:=zA (HB1.out.trans (hb4.mono HB1.out.size))
 have HX5:=zA (zC HX1.out hb4)
 have HM5:=zA hm4
 clear hm2 hm3 hm4 hb4
 change Sem.run prog _ _=.ok () (setBlk (w1.alloc (.map #[] 0)) w1.heap.size (.map #[{key:=.int .i64 4,val:=.func (.func 121) #[Qp g] #[],born:=0}] 1))at h4
 change Sem.run prog _ _=.ok () (setBlk (setBlk (w1.alloc (.map #[] 0)) w1.heap.size (.map #[{key:=.int .i64 4,val:=.func (.func 121) #[Qp g] #[],born:=0}] 1)) w1.heap.size (.map #[{key:=.int .i64 4,val:=.func (.func 121) #[Qp g] #[],born:=0},{key:=.int .i64 5,val:=.func (.func 122) #[Qp g] #[],born:=1}] 2))at h5
 have hlk:=tU underlying220 HM5.out 4 (i:=0) (v:=.func (.func 121) #[Qp g] #[]) (by kernel_rfl)
 have p0:=cc 0 HX5.out
 go_wp2_with (refine zH rfl 115 (.tmp 3) w.heap.size (Qsu 4 (a:Int) (n:Int) 0 U (.slice ao M.length cap)) 115 (0,0) _ rfl rfl HX5.out underlying115 rfl (by kernel_rfl) ?_)
 clear hmm hmf h4 h5 hlk p0
 generalize setBlk (setBlk (w1.alloc (.map #[] 0)) w1.heap.size (.map #[{key:=.int .i64 4,val:=.func (.func 121) #[Qp g] #[],born:=0}] 1)) w1.heap.size (.map #[{key:=.int .i64 4,val:=.func (.func 121) #[Qp g] #[],born:=0},{key:=.int .i64 5,val:=.func (.func 122) #[Qp g] #[],born:=1}] 2)=w5 at *
 refine(HSV.out w5 HB5.out).mono ?_
 rintro r w6 ⟨v,mq,parts,rfl,qS,hfl,hpp,hb,htl⟩
 obtain⟨aov,nv,capv,rfl⟩:∃x y z,v=.slice x y z:=by
  obtain⟨tail,ho,_⟩:=htl
  obtain⟨x,z,e⟩:=ho.toT.form
  exact⟨x,_,z,e⟩
 have b7:=bn w6 (.cells #[.slice aov nv capv,.slice none 0 0] 223)
 have HA:=zA (heap_alloc_new w6 (.cells #[.slice aov nv capv,.slice none 0 0] 223))
 have HB7:=zA b7
 have HB6:=zA (HB5.out.trans (hb.mono HB5.out.size))
 have HZ:=zA (And.intro qS (And.intro hfl hpp))
 have HT:=zA htl
 have HS5:=zA HB5.out.size
 clear qS hfl hpp hb htl b7
 go_wp2_with (refine zJ rfl 223 (.tmp 10) (.tmp 43) #[.slice none 0 0,.slice none 0 0] #[.slice aov nv capv,.slice none 0 0] rfl rfl _ rfl rfl rfl (by kernel_rfl) rfl (by kernel_rfl) rfl ?_)
 generalize w6.alloc (.cells #[.slice aov nv capv,.slice none 0 0] 223)=w7 at *
 have m0:=cc 0 HA.out
 have m1:=cc 1 HA.out
 go_quiet (fail)
 have HD7:=zA (HB7.out.trans ((below_drewN (Below.refl _ _) nq).mono HB7.out.size))
 clear m0 m1
 generalize w7.drewN nq=w8 at *
 go_wp2_with fail
 refine bodyPost_ret (v:=.tuple #[.slice aov nv capv,.slice none 0 0,.int .i64 0]) (by simp[results,results52,go_sem]) rfl ?_
 have hA:=HZ.out.1.below HD7.out
 have hB:=HB6.out.trans (HD7.out.mono HB6.out.size)
 have hT:∃tail,OwnR kMsg w.heap.size w8 (.slice aov nv capv) (mq++tail)∧(tail=[]∧(∀a s,O a s=true→∃e∈es,e.at=(a,s))∨∃O' U' M' ao' cap',tail=[dgq n a 1 U' (ao',M'.length,cap')]∧SetV w8 (Pl.setv U' (.slice ao' M'.length cap')) O' U' M'∧Holds O' es):=by
   obtain⟨tail,ho,ht⟩:=HT.out
   refine⟨tail,(ho.below HD7.out).mono HS5.out,?_⟩
   rcases ht with h | ⟨O',U',M',ao',cap',e,hs',ho'⟩
   ·exact .inl h
   ·exact .inr ⟨O',U',M',ao',cap',e,hs'.below HD7.out,ho'⟩
 first
 | exact⟨_,_,_,rfl,hA,HZ.out.2.1,HZ.out.2.2,hB,hT⟩
 | exact⟨_,rfl,_,_,hA,HZ.out.2.1,HZ.out.2.2,hB,hT⟩
theorem gon_41 (g o b ms mh n mtu:Nat) (a:Nat) (O:Nat→Nat→Bool) (U:Nat→Nat) (M:List (Nat×Nat)) (ao:Option Addr) (cap:Nat) (es:List Pl.Ev) (clock:Int) (w:World) (h:GoAt w g o b ms mh n mtu es clock) (hs:SetV w (.agg (Qu U ao M.length cap)) O U M) (ha:a<8) (hne:n≠a) (hl:(Pl.codes es).length≤4000) (hm:512≤mtu∧mtu≤4096) (hrt:∀W,Below w.heap.size w W→Calls prog 114 #[.agg (Qsu 4 (a:Int) (n:Int) 1 U (.slice ao M.length cap))] W fun r w'=>r=.returned (.bool true)∧Below W.heap.size W w') :
  Calls prog 52 #[Qp g,.agg (Qsu 4 (a:Int) (n:Int) 1 U (.slice ao M.length cap))] w fun r w'=>∃v ms' parts,r=.returned (.tuple #[v,.slice none 0 0,.int .i64 0])∧Deltas w' n a ms' parts∧parts.flatten.Perm (es.filter (fun e=> !O e.at.1 e.at.2))∧(∀p∈parts,p≠[]∧p.length≤768)∧Below w.heap.size w w'∧OwnR kMsg w.heap.size w' v ms':=by
 have b1:=bn w (.cells (Qsu 4 (a:Int) (n:Int) 1 U (.slice ao M.length cap)) 115)
 have HX:=zA (heap_alloc_new w (.cells (Qsu 4 (a:Int) (n:Int) 1 U (.slice ao M.length cap)) 115))
 have HB:=zA b1
 have HG:=zA (fun (W:World) (hW:Below w.heap.size w W)=>h.below hW)
 have HM:=zA (hrt _ (b1.trans ((Below.refl _ _).drew.mono b1.size)))
 have HSV:=zA (fun (W:World) (hW:Below w.heap.size w W)=>told_1 g o b ms mh n mtu a O U M ao cap es clock W (h.below hW) (hs.below hW) ha hne hl hm)
 clear b1 h hrt hs ha hne hl hm
 go_enter func52,ntmps52
 go_wp2_with fail
 generalize w.alloc (.cells (Qsu 4 (a:Int) (n:Int) 1 U (.slice ao M.length cap)) 115)=W at *
 refine zD (fun W'=>W'.heap[g]?=some (.cells #[.int .i64 n,.int .i64 mtu,Qp o,Qp b] 218 (0,0))∧W'.heap[w.heap.size]?=some (.cells (Qsu 4 (a:Int) (n:Int) 1 U (.slice ao M.length cap)) 115 (0,0))) 99 (by kernel_rfl) ⟨(HG.out W HB.out).gs,HX.out⟩ (fun rV=>?_)
 refine tl 0 15 rfl 115 (.tmp 3) w.heap.size rfl rfl (fun wS hSw=>hSw.2) underlying115 ?_
 refine t1 1 rfl (fun K hK=>?_)
 go_simp
 refine HM.out.mono ?_
 rintro r w1 ⟨rfl,hb⟩
 have hb':=((Below.refl _ _).drew).trans hb
 have HB1:=zA (HB.out.trans (hb'.mono HB.out.size))
 have HX1:=zA (zC HX.out hb')
 clear hb hb' rV HX HB HM
 refine hK.out _ _ (fun _=>⟨(HG.out w1 HB1.out).gs,HX1.out⟩) (fun _=>?_)
 clear hK K
 try simp only[pt,List.set]
 have rV:=And.intro (HG.out w1 HB1.out).gs HX1.out
 refine tkp 2 17 rfl ?_
 refine tkp 3 18 rfl ?_
 refine tkp 4 19 rfl ?_
 refine tk 5 20 rfl (by intro wS hSw;obtain⟨x,y⟩:=id hSw;have q0:=cc 0 x;have p2:=cc 2 y;clear hSw;go_simp;(try with_reducible rfl)) ?_
 refine tkp 6 21 rfl ?_
 refine tkp 7 22 rfl ?_
 refine tkp 8 23 rfl ?_
 refine tk 9 24 rfl (by intro wS hSw;obtain⟨x,y⟩:=id hSw;have q0:=cc 0 x;have p2:=cc 2 y;clear hSw;go_simp;(try with_reducible rfl)) ?_
 refine tkp 10 25 rfl ?_
 refine tkp 11 26 rfl ?_
 refine tkp 12 14 rfl ?_
 refine wd ?_
 clear rV
 have hmm:=@run_makeMap prog
 have hmf:∀(fn:Fn) (first cap:Array Value) (w:World),(Instr.makeFunc fn first cap).run prog w=.ok (.func fn first cap) w:=fun _ _ _ _=>rfl
 have hm2:=heap_alloc_new w1 (.map #[] 0)
 have h4:=wI underlying220 hm2 4 (.func (.func 121) #[Qp g] #[]) (by kernel_rfl)
 have hm3:=yR hm2 (.map #[{key:=.int .i64 4,val:=.func (.func 121) #[Qp g] #[],born:=0}] 1)
 have h5:=wI underlying220 hm3 5 (.func (.func 122) #[Qp g] #[]) (by kernel_rfl)
 have hm4:=yR hm3 (.map #[{key:=.int .i64 4,val:=.func (.func 121) #[Qp g] #[],born:=0},{key:=.int .i64 5,val:=.func (.func 122) #[Qp g] #[],born:=1}] 2)
 have hb4:Below w1.heap.size w1 (setBlk (setBlk (w1.alloc (.map #[] 0)) w1.heap.size (.map #[{key:=.int .i64 4,val:=.func (.func 121) #[Qp g] #[],born:=0}] 1)) w1.heap.size (.map #[{key:=.int .i64 4,val:=.func (.func 121) #[Qp g] #[],born:=0},{key:=.int .i64 5,val:=.func (.func 122) #[Qp g] #[],born:=1}] 2)):=xC (xC (bn _ _) (Nat.le_refl _) _) (Nat.le_refl _) _
 have HB5:=zA (HB1.out.trans (hb4.mono HB1.out.size))
 have HX5:=zA (zC HX1.out hb4)
 have HM5:=zA hm4
 clear hm2 hm3 hm4 hb4
 change Sem.run prog _ _=.ok () (setBlk (w1.alloc (.map #[] 0)) w1.heap.size (.map #[{key:=.int .i64 4,val:=.func (.func 121) #[Qp g] #[],born:=0}] 1))at h4
 change Sem.run prog _ _=.ok () (setBlk (setBlk (w1.alloc (.map #[] 0)) w1.heap.size (.map #[{key:=.int .i64 4,val:=.func (.func 121) #[Qp g] #[],born:=0}] 1)) w1.heap.size (.map #[{key:=.int .i64 4,val:=.func (.func 121) #[Qp g] #[],born:=0},{key:=.int .i64 5,val:=.func (.func 122) #[Qp g] #[],born:=1}] 2))at h5
 have hlk:=tU underlying220 HM5.out 4 (i:=0) (v:=.func (.func 121) #[Qp g] #[]) (by kernel_rfl)
 have p0:=cc 0 HX5.out
 go_wp2_with (refine zH rfl 115 (.tmp 3) w.heap.size (Qsu 4 (a:Int) (n:Int) 1 U (.slice ao M.length cap)) 115 (0,0) _ rfl rfl HX5.out underlying115 rfl (by kernel_rfl) ?_)
 clear hmm hmf h4 h5 hlk p0
 generalize setBlk (setBlk (w1.alloc (.map #[] 0)) w1.heap.size (.map #[{key:=.int .i64 4,val:=.func (.func 121) #[Qp g] #[],born:=0}] 1)) w1.heap.size (.map #[{key:=.int .i64 4,val:=.func (.func 121) #[Qp g] #[],born:=0},{key:=.int .i64 5,val:=.func (.func 122) #[Qp g] #[],born:=1}] 2)=w5 at *
 refine(HSV.out w5 HB5.out).mono ?_
 rintro r w6 ⟨v,mq,parts,rfl,qS,hfl,hpp,hb,htl⟩
 obtain⟨aov,nv,capv,rfl⟩:∃x y z,v=.slice x y z:=by
  obtain⟨x,z,e⟩:=htl.toT.form
  exact⟨x,_,z,e⟩
 have b7:=bn w6 (.cells #[.slice aov nv capv,.slice none 0 0] 223)
 have HA:=zA (heap_alloc_new w6 (.cells #[.slice aov nv capv,.slice none 0 0] 223))
 have HB7:=zA b7
 have HB6:=zA (HB5.out.trans (hb.mono HB5.out.size))
 have HZ:=zA (And.intro qS (And.intro hfl hpp))
 have HT:=zA htl
 have HS5:=zA HB5.out.size
 clear qS hfl hpp hb htl b7
 go_wp2_with (refine zJ rfl 223 (.tmp 10) (.tmp 43) #[.slice none 0 0,.slice none 0 0] #[.slice aov nv capv,.slice none 0 0] rfl rfl _ rfl rfl rfl (by kernel_rfl) rfl (by kernel_rfl) rfl ?_)
 generalize w6.alloc (.cells #[.slice aov nv capv,.slice none 0 0] 223)=w7 at *
 have m0:=cc 0 HA.out
 have m1:=cc 1 HA.out
 go_quiet (fail)
 have HD7:=zA (HB7.out.trans ((below_drewN (Below.refl _ _) nq).mono HB7.out.size))
 clear m0 m1
 generalize w7.drewN nq=w8 at *
 go_wp2_with fail
 refine bodyPost_ret (v:=.tuple #[.slice aov nv capv,.slice none 0 0,.int .i64 0]) (by simp[results,results52,go_sem]) rfl ?_
 have hA:=HZ.out.1.below HD7.out
 have hB:=HB6.out.trans (HD7.out.mono HB6.out.size)
 have hT:OwnR kMsg w.heap.size w8 (.slice aov nv capv) mq:=(HT.out.below HD7.out).mono HS5.out
 first
 | exact⟨_,_,_,rfl,hA,HZ.out.2.1,HZ.out.2.2,hB,hT⟩
 | exact⟨_,rfl,_,_,hA,HZ.out.2.1,HZ.out.2.2,hB,hT⟩
theorem gon_5 (g o b ms mh n mtu:Nat) (a:Nat) (ao:Option Addr) (cap:Nat) (new es:List Pl.Ev) (clock:Int) (w:World) (h:GoAt w g o b ms mh n mtu es clock) (hr:RowT kEv w (.slice ao new.length cap) new) (hok:∀e∈new,e.Ok) (hlen:(es++new).length<768) (pQ:((es++new).map Pl.Ev.at).Nodup) (hrt:∀W,Below w.heap.size w W→Calls prog 114 #[.agg (Qtk 5 (a:Int) (n:Int) (.slice ao new.length cap))] W fun r w'=>r=.returned (.bool true)∧Below W.heap.size W w') :
  Calls prog 52 #[Qp g,.agg (Qtk 5 (a:Int) (n:Int) (.slice ao new.length cap))] w fun r w'=>∃v cl,r=.returned (.tuple #[.slice none 0 0,v,.int .i64 0])∧GoAt w' g o b ms mh n mtu (es++new) cl∧Off (fun x=>x=b∨x=ms∨x=mh) w w':=by
 have b1:=bn w (.cells (Qtk 5 (a:Int) (n:Int) (.slice ao new.length cap)) 115)
 have HX:=zA (heap_alloc_new w (.cells (Qtk 5 (a:Int) (n:Int) (.slice ao new.length cap)) 115))
 have HB:=zA b1
 have HG:=zA (fun (W:World) (hW:Below w.heap.size w W)=>h.below hW)
 have HM:=zA (hrt _ (b1.trans ((Below.refl _ _).drew.mono b1.size)))
 have HGV:=zA (fun (W:World) (hW:Below w.heap.size w W)=>given_ok g o b ms mh n mtu a ao cap new es clock W (h.below hW) (hr.below hW) hok hlen pQ)
 clear b1 h hrt hr hok hlen pQ
 go_enter func52,ntmps52
 go_wp2_with fail
 generalize w.alloc (.cells (Qtk 5 (a:Int) (n:Int) (.slice ao new.length cap)) 115)=W at *
 refine zD (fun W'=>W'.heap[g]?=some (.cells #[.int .i64 n,.int .i64 mtu,Qp o,Qp b] 218 (0,0))∧W'.heap[w.heap.size]?=some (.cells (Qtk 5 (a:Int) (n:Int) (.slice ao new.length cap)) 115 (0,0))) 99 (by kernel_rfl) ⟨(HG.out W HB.out).gs,HX.out⟩ (fun rV=>?_)
 refine tl 0 15 rfl 115 (.tmp 3) w.heap.size rfl rfl (fun wS hSw=>hSw.2) underlying115 ?_
 refine t1 1 rfl (fun K hK=>?_)
 go_simp
 refine HM.out.mono ?_
 rintro r w1 ⟨rfl,hb⟩
 have hb':=((Below.refl _ _).drew).trans hb
 have HB1:=zA (HB.out.trans (hb'.mono HB.out.size))
 have HX1:=zA (zC HX.out hb')
 clear hb hb' rV HX HB HM
 refine hK.out _ _ (fun _=>⟨(HG.out w1 HB1.out).gs,HX1.out⟩) (fun _=>?_)
 clear hK K
 try simp only[pt,List.set]
 have rV:=And.intro (HG.out w1 HB1.out).gs HX1.out
 refine tkp 2 17 rfl ?_
 refine tkp 3 18 rfl ?_
 refine tkp 4 19 rfl ?_
 refine tk 5 20 rfl (by intro wS hSw;obtain⟨x,y⟩:=id hSw;have q0:=cc 0 x;have p2:=cc 2 y;clear hSw;go_simp;(try with_reducible rfl)) ?_
 refine tkp 6 21 rfl ?_
 refine tkp 7 22 rfl ?_
 refine tkp 8 23 rfl ?_
 refine tk 9 24 rfl (by intro wS hSw;obtain⟨x,y⟩:=id hSw;have q0:=cc 0 x;have p2:=cc 2 y;clear hSw;go_simp;(try with_reducible rfl)) ?_
 refine tkp 10 25 rfl ?_
 refine tkp 11 26 rfl ?_
 refine tkp 12 14 rfl ?_
 refine wd ?_
 clear rV
 have hmm:=@run_makeMap prog
 have hmf:∀(fn:Fn) (first cap:Array Value) (w:World),(Instr.makeFunc fn first cap).run prog w=.ok (.func fn first cap) w:=fun _ _ _ _=>rfl
 have hm2:=heap_alloc_new w1 (.map #[] 0)
 have h4:=wI underlying220 hm2 4 (.func (.func 121) #[Qp g] #[]) (by kernel_rfl)
 have hm3:=yR hm2 (.map #[{key:=.int .i64 4,val:=.func (.func 121) #[Qp g] #[],born:=0}] 1)
 have h5:=wI underlying220 hm3 5 (.func (.func 122) #[Qp g] #[]) (by kernel_rfl)
 have hm4:=yR hm3 (.map #[{key:=.int .i64 4,val:=.func (.func 121) #[Qp g] #[],born:=0},{key:=.int .i64 5,val:=.func (.func 122) #[Qp g] #[],born:=1}] 2)
 have hb4:Below w1.heap.size w1 (setBlk (setBlk (w1.alloc (.map #[] 0)) w1.heap.size (.map #[{key:=.int .i64 4,val:=.func (.func 121) #[Qp g] #[],born:=0}] 1)) w1.heap.size (.map #[{key:=.int .i64 4,val:=.func (.func 121) #[Qp g] #[],born:=0},{key:=.int .i64 5,val:=.func (.func 122) #[Qp g] #[],born:=1}] 2)):=xC (xC (bn _ _) (Nat.le_refl _) _) (Nat.le_refl _) _
 have HB5:=zA (HB1.out.trans (hb4.mono HB1.out.size))
 have HX5:=zA (zC HX1.out hb4)
 have HM5:=zA hm4
 clear hm2 hm3 hm4 hb4
 change Sem.run prog _ _=.ok () (setBlk (w1.alloc (.map #[] 0)) w1.heap.size (.map #[{key:=.int .i64 4,val:=.func (.func 121) #[Qp g] #[],born:=0}] 1))at h4
 change Sem.run prog _ _=.ok () (setBlk (setBlk (w1.alloc (.map #[] 0)) w1.heap.size (.map #[{key:=.int .i64 4,val:=.func (.func 121) #[Qp g] #[],born:=0}] 1)) w1.heap.size (.map #[{key:=.int .i64 4,val:=.func (.func 121) #[Qp g] #[],born:=0},{key:=.int .i64 5,val:=.func (.func 122) #[Qp g] #[],born:=1}] 2))at h5
 have hlk:=tU underlying220 HM5.out 5 (i:=1) (v:=.func (.func 122) #[Qp g] #[]) (by kernel_rfl)
 have p0:=cc 0 HX5.out
 go_wp2_with (refine zH rfl 115 (.tmp 3) w.heap.size (Qtk 5 (a:Int) (n:Int) (.slice ao new.length cap)) 115 (0,0) _ rfl rfl HX5.out underlying115 rfl (by kernel_rfl) ?_)
 clear hmm hmf h4 h5 hlk p0
 generalize setBlk (setBlk (w1.alloc (.map #[] 0)) w1.heap.size (.map #[{key:=.int .i64 4,val:=.func (.func 121) #[Qp g] #[],born:=0}] 1)) w1.heap.size (.map #[{key:=.int .i64 4,val:=.func (.func 121) #[Qp g] #[],born:=0},{key:=.int .i64 5,val:=.func (.func 122) #[Qp g] #[],born:=1}] 2)=w5 at *
 refine(HGV.out w5 HB5.out).mono ?_
 rintro r w6 ⟨av,nv,cv,cl,rfl,hg6,ho6⟩
 have b7:=bn w6 (.cells #[.slice none 0 0,.slice av nv cv] 223)
 have HA:=zA (heap_alloc_new w6 (.cells #[.slice none 0 0,.slice av nv cv] 223))
 have HB7:=zA b7
 have HZ:=zA (And.intro hg6 ho6)
 clear hg6 ho6 b7
 go_wp2_with (refine zJ rfl 223 (.tmp 10) (.tmp 43) #[.slice none 0 0,.slice none 0 0] #[.slice none 0 0,.slice av nv cv] rfl rfl _ rfl rfl rfl (by kernel_rfl) rfl (by kernel_rfl) rfl ?_)
 generalize w6.alloc (.cells #[.slice none 0 0,.slice av nv cv] 223)=w7 at *
 have m0:=cc 0 HA.out
 have m1:=cc 1 HA.out
 go_quiet (fail)
 have HD7:=zA (HB7.out.trans ((below_drewN (Below.refl _ _) nq).mono HB7.out.size))
 clear m0 m1
 generalize w7.drewN nq=w8 at *
 go_wp2_with fail
 exact bodyPost_ret (v:=.tuple #[.slice none 0 0,.slice av nv cv,.int .i64 0]) (by simp[results,results52,go_sem]) rfl ⟨_,_,rfl,HZ.out.1.below HD7.out,(Off.of_below HB5.out).trans (HZ.out.2.trans (Off.of_below HD7.out))⟩
end
end Go.Proofs.YtodlmbfbfaofcaaGreat
