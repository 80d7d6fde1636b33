/- TopLoads, part 29. -/
import Derived.Test.YtodlmbfbfaofcaaGreatM01
import Derived.Test.YtodlmbfbfaofcaaGreatM03
import Derived.Test.YtodlmbfbfaofcaaGreatM07
import Derived.Test.YtodlmbfbfaofcaaGreatM28
open Go.Proofs.Tryz
namespace Go.Proofs.YtodlmbfbfaofcaaGreat
set_option linter.unusedVariables false
set_option linter.unusedSimpArgs false
set_option maxRecDepth 100000
set_option maxHeartbeats 4000000
section
open Go.RowKit Rw Rh
theorem GoAt.calm {w w':World} {g o b ms mh n mtu:Nat} {es:List Pl.Ev} {clock:Int} (h:GoAt w g o b ms mh n mtu es clock) (ho:Off (fun x=>x=b∨x=ms∨x=mh) w w') {k:Nat} {cs:Array Value} {t:TypeId} {fr:Nat×Nat} (hk:w.heap[k]?=some (.cells cs t fr)) (ht:t≠185):w'.heap[k]?=w.heap[k]?:=
 ho.same k (gsi.1 hk).1 (fun e=>by
  rcases e with rfl | rfl | rfl
  ·rw[h.bk.cells]at hk;exact zI (Ne.symm ht) hk
  ·exact h.bk.seen.cells_ne hk rfl
  ·exact h.bk.held.cells_ne hk rfl)
theorem GoAt.off1 {w w':World} {g o b ms mh n mtu:Nat} {es:List Pl.Ev} {clock:Int} (h:GoAt w g o b ms mh n mtu es clock) {Y:Nat} {cs:Array Value} {t:TypeId} {fr:Nat×Nat} (hY:w.heap[Y]?=some (.cells cs t fr)) (ht:t≠185∧t≠218) (ho:Off (fun x=>x=Y) w w'):GoAt w' g o b ms mh n mtu es clock:=
 ⟨(ho.same g (gsi.1 h.gs).1 (fun e=>by have h1:=h.gs;rw[show g=Y from e,hY]at h1;exact zI ht.2 h1)).trans h.gs,h.bk.keep (fun k hk=>by
  refine ho.same k ?_ (fun e=>?_)
  ·obtain⟨h1,h2,h3⟩:=h.bk.lt
   rcases hk with rfl | rfl | rfl<;>assumption
  ·have e':k=Y:=e
   rcases hk with rfl | rfl | rfl
   ·have h1:=h.bk.cells;rw[e',hY]at h1;exact zI ht.1 h1
   ·exact h.bk.seen.cells_ne hY e'.symm
   ·exact h.bk.held.cells_ne hY e'.symm),h.ok,h.len,h.n8⟩
theorem given_ok (g o b ms mh n mtu:Nat) (a:Nat) (ao:Option Addr) (cap:Nat) (new es:List Pl.Ev) (clock:Int) (w:World) (h:GoAt w g o b ms mh n mtu es clock) (hr:RowT kEv w (.slice ao new.length cap) new) (hok:∀e∈new,e.Ok) (hlen:(es++new).length<768) (pQ:((es++new).map Pl.Ev.at).Nodup) :
  Calls prog 122 #[Qp g,.agg (Qtk 5 (a:Int) (n:Int) (.slice ao new.length cap))] w fun r w'=>∃(x:Option Addr) (nv cv:Nat) (cl:Int),r=.returned (.agg #[.slice none 0 0,.slice x nv cv])∧GoAt w' g o b ms mh n mtu (es++new) cl∧Off (fun x=>x=b∨x=ms∨x=mh) w w':=by
 obtain⟨hx,hy,b1⟩:=zT w (.cells (Qtk 5 (a:Int) (n:Int) (.slice ao new.length cap)) 115) (.cells #[.slice none 0 0,.slice none 0 0] 223)
 have HX:=zA hx
 have HY:=zA hy
 have HB:=zA b1
 have HG:=zA h
 have HG1:=zA (h.below b1)
 have HR:=zA hr
 have HN:=zA (And.intro hok (And.intro hlen pQ))
 have HLT:=zA h.bk.lt
 have x7:=cc 14 hx
 clear hx hy b1 h hr hok hlen pQ
 go_enter func122,ntmps122
 go_wp2_with fail
 clear x7
 have HOW:=zA (Off.of_below (F:=(fun x=>x=b∨x=ms∨x=mh)) HB.out)
 generalize (w.alloc (.cells (Qtk 5 (a:Int) (n:Int) (.slice ao new.length cap)) 115)).alloc (.cells #[.slice none 0 0,.slice none 0 0] 223)=W at *
 go_loopw [10] (fun i wr=>∃(k:Nat) (aon:Option Addr) (capn:Nat) (cl:Int),k≤new.length∧i=.int .i64 k∧GoAt wr g o b ms mh n mtu (es++new.take k) cl∧wr.heap[w.heap.size+1]?=some (.cells #[.slice none 0 0,.slice aon k capn] 223 (0,0))∧OwnR kEv (w.heap.size+2) wr (.slice aon k capn) (new.take k)∧Off (fun x=>x=b∨x=ms∨x=mh) w wr) (fun i _=>new.length - (intOf i).toNat)
 case atStart=>exact⟨0,none,0,clock,by omega,rfl,by rw[List.take_zero,List.append_nil];exact HG1.out,HY.out,yH _ _ _,HOW.out⟩
 case round=>
  obtain⟨k,aon,capn,cl,hk,rfl,hg,hy,rX,ho⟩:=hrel
  by_cases hlt:k<new.length
  ·obtain⟨ge,off,cap',e1,hge,c0,c1,c2,c3,c4,c5,c6,c7,c8,c9,c10,c11,c12,c13⟩:=xX (HR.out.keep (fun k' cs fr hk'=>HG.out.calm ho hk' (by decide))).toC hlt
   cases e1
   have a1:(k:Int)+1≤9223372036854775807:=by have:=HN.out.2.1;rw[List.length_append]at this;omega
   have b2:=bn wr (.cells (new[k]) 175)
   have HTK:=zA (List.take_succ_eq_append_getElem hlt)
   have HLK:=zA (show(new.take k).length=k by rw[List.length_take];omega)
   have HEO:=zA (HN.out.1 new[k] (List.getElem_mem hlt))
   have hdot:∀x∈es++new.take k,x.at≠(new[k]).at:=fun x hx he=>by
    have hnd:=HN.out.2.2
    have h2:es++new=(es++new.take k)++new[k]::new.drop (k+1):=by rw[List.append_assoc,←List.drop_eq_getElem_cons hlt,List.take_append_drop]
    rw[h2,List.map_append,List.nodup_append]at hnd
    exact hnd.2.2 _ (List.mem_map.2 ⟨x,hx,rfl⟩) _ (List.mem_map.2 ⟨new[k],List.mem_cons_self ..,rfl⟩) he
   have HDOT:=zA hdot
   have rW:=heap_alloc_new wr (.cells (new[k]) 175)
   have HG2:=zA (hg.below b2)
   have HY2:=zA (zC hy b2)
   have HO2:=zA (rX.below b2)
   have HOF:=zA (ho.trans (Off.of_below b2))
   have HSZ:=zA (show w.heap.size+2≤wr.heap.size from(gsi.1 hy).1)
   have HKL:=zA hlt
   clear b2 hg hy rX ho hdot hk
   generalize new[k]=ev at *
   have qI:=zA rW
   clear rW
   go_wp2_with (refine zJ rfl 175 (.tmp 6) (.tmp 13) Qen ev rfl rfl _ rfl rfl rfl (by kernel_rfl) rfl (by kernel_rfl) rfl ?_)
   clear c0 c1 c2 c3 c4 c5 c6 c7 c8 c9 c10 c11 c12 c13 hlt
   generalize wr.alloc (.cells ev 175)=W4 at *
   have HGS:=zA HG2.out.gs
   refine zD (fun W'=>W'.heap[g]?=some (.cells #[.int .i64 n,.int .i64 mtu,Qp o,Qp b] 218 (0,0))∧W'.heap[wr.heap.size]?=some (.cells ev 175 (0,0))) 99 (by kernel_rfl) ⟨HGS.out,qI.out⟩ (fun rV=>?_)
   refine tkp 0 14 rfl ?_
   refine tkp 1 15 rfl ?_
   refine tkp 2 16 rfl ?_
   refine tk 3 17 rfl (by intro wS hSw;obtain⟨x,y⟩:=id hSw;have q3:=cc 3 x;clear hSw;go_simp;(try with_reducible rfl)) ?_
   refine tl 4 18 rfl 175 (.tmp 6) wr.heap.size rfl rfl (fun wS hSw=>hSw.2) underlying175 ?_
   refine t1 5 rfl (fun K hK=>?_)
   go_simp
   refine(badd_ok b ms mh (es++new.take k) cl ev W4.drew (HG2.out.below (Below.refl _ _).drew).bk HEO.out HDOT.out).mono ?_
   rintro r w5 ⟨rfl,hbk,hof⟩
   have hk5:∀(k:Nat) (cs:Array Value) (t:TypeId) (fr:Nat×Nat),W4.heap[k]?=some (.cells cs t fr)→t≠185→w5.heap[k]?=W4.heap[k]?:=fun k cs t fr hk ht=>(HG2.out.below (Below.refl _ _).drew).calm hof hk ht
   have HG5:=zA (show GoAt w5 g o b ms mh n mtu ((es++new.take k)++[ev]) (max cl ev.time)from⟨(hk5 g _ _ _ HG2.out.gs (by decide)).trans HG2.out.gs,hbk,fun e he=>by
    rcases List.mem_append.1 he with h | h
    ·exact HG2.out.ok e h
    ·cases List.mem_singleton.1 h;exact HEO.out,by have h1:=HN.out.2.1;have h2:=HLK.out;have h3:=HKL.out;rw[List.length_append]at h1 ⊢;rw[List.length_append,h2];simp;omega,HG2.out.n8⟩)
   have HY5:=zA ((hk5 _ _ _ _ HY2.out (by decide)).trans HY2.out)
   have HN5:=zA ((hk5 _ _ _ _ qI.out (by decide)).trans qI.out)
   have HO5:=zA (HO2.out.keep (w':=w5) (fun g hg=>by obtain⟨cs,hcs⟩:=zK HO2.out hg;exact hk5 g cs 175 _ hcs (by decide)))
   have HOF5:=zA (HOF.out.trans ((Off.of_below (Below.refl W4.heap.size W4).drew).trans hof))
   have HSZ5:=zA (show wr.heap.size+1≤w5.heap.size from Nat.le_trans (gsi.1 qI.out).1 hof.size)
   clear hbk hof hk5 HG2 HY2 qI HO2 HOF rV
   refine hK.out _ _ (fun _=>⟨HG5.out.gs,HN5.out⟩) (fun _=>?_)
   clear hK K
   try simp only[pt,List.set]
   have rV:=And.intro HG5.out.gs HN5.out
   refine tkp 6 20 rfl ?_
   refine wd ?_
   clear rV HDOT
   have y13:=cc 13 HN5.out
   go_wp2_with fail
   refine(xL w5).mono ?_
   rintro r w6 ⟨rfl,rfl⟩
   have z13:=zB HN5.out 13
   have hid:w5.setCell ⟨wr.heap.size,13,none⟩ (.slice none 0 0)=w5:=zL HN5.out (j:=13) (v:=.slice none 0 0) rfl
   have b8:=bn w5 (.cells (eva ev) 175)
   have HG8:=zA (HG5.out.below b8)
   have HY8:=zA (zC HY5.out b8)
   have HN8:=zA (zC HN5.out b8)
   have HO8:=zA (HO5.out.below b8)
   have HOF8:=zA (HOF5.out.trans (Off.of_below b8))
   have HSZ8:=zA (show w.heap.size+2≤(w5.alloc (.cells (eva ev) 175)).heap.size from by have:=HSZ5.out;have:=HSZ.out;have:=b8.size;omega)
   have qC:=zA (yJ kEv w5 [ev] (eva ev) 1 rfl (by simp[Rk.encs,kEv]))
   have yy:=cc 1 HY5.out
   have HL1:=zA (show(new.take k).length+[ev].length≤1000000 by have h1:[ev].length=1:=rfl;have:=HN.out.2.1;rw[List.length_append]at this;have:=HKL.out;rw[h1,HLK.out];omega)
   clear b8
   go_wp2_with (first
    | refine zH rfl 175 (.tmp 6) wr.heap.size ev 175 (0,0) _ rfl rfl HN5.out underlying175 rfl (by kernel_rfl) ?_
    | (at_builtin
       refine yT kEv rfl (.tmp 26) (.tmp 28) rfl rfl HO8.out rfl qC.out HL1.out (Below.refl (w.heap.size+2) _) HSZ8.out ?_
       intro v9 w9 qY hb9 hg9
       obtain⟨aon9,capn9,hv9⟩:∃x y,v9=.slice x (k+1) y:=by
        obtain⟨x,y,e⟩:=qY.toT.form
        exact⟨x,y,by rw[e,List.length_append,HLK.out];rfl⟩
       subst hv9
       have rZ:∀(g:Nat),(Value.slice aon k capn).ownBlock=some g→_:=fun g hg=>zK HO8.out hg
       have HG9:=zA (show GoAt w9 g o b ms mh n mtu ((es++new.take k)++[ev]) (max cl ev.time)from⟨wX hg9 rZ HG8.out.gs (by decide),HG8.out.bk.grown hg9 rZ (by decide),HG8.out.ok,HG8.out.len,HG8.out.n8⟩)
       have HY9:=zA (wX hg9 rZ HY8.out (by decide))
       have HO9:=zA qY
       have HOF9:=zA (show Off (fun x=>x=b∨x=ms∨x=mh) w w9 from⟨Nat.le_trans HOF8.out.size hg9.size,fun g hg hn=>(hb9.block g (by omega)).trans (HOF8.out.same g hg hn),⟨hg9.os.trans HOF8.out.rest.1,hg9.tape.trans HOF8.out.rest.2.1,hg9.output.trans HOF8.out.rest.2.2⟩⟩)
       have n1:=cc 1 HY9.out
       have fn1:=zB HY9.out 1
       clear qY hb9 hg9 rZ))
   have hoz:Off (fun x=>x=w.heap.size+1) w9 (w9.setCell ⟨w.heap.size+1,1,none⟩ (.slice aon9 (k+1) capn9)):=(Off.refl (fun x=>x=w.heap.size+1) w9).set (a:=⟨w.heap.size+1,1,none⟩) (.inl rfl) _
   exact⟨⟨k+1,aon9,capn9,max cl ev.time,HKL.out,rfl,by rw[HTK.out,←List.append_assoc];exact HG9.out.off1 HY9.out (by decide) hoz,by have h:=zG (j:=1) HY9.out (.slice aon9 (k+1) capn9);simpa using h,by rw[HTK.out];exact HO9.out.keep (fun g hg=>hoz.same g (HO9.out.lt g hg).2 (fun e=>by have:=(HO9.out.lt g hg).1;have e':g=w.heap.size+1:=e;omega)),HOF9.out.set (.inr (Nat.le_succ _)) _⟩,by simp[intOf];have:=HKL.out;omega⟩
  ·obtain rfl:k=new.length:=by omega
   rw[List.take_length]at hg rX
   have HGF:=zA hg
   have HYF:=zA hy
   have HOF:=zA ho
   clear hg hy rX ho hlt hk
   have hoz:Off (fun x=>x=w.heap.size+1) wr (wr.setRow (w.heap.size+1) #[.slice none 0 0,.slice aon new.length capn]):=(Off.refl (fun x=>x=w.heap.size+1) wr).setRow (w.heap.size+1) (.inl rfl) _
   have HGZ:=zA (HGF.out.off1 HYF.out (by decide) hoz)
   have HOZ:=zA (HOF.out.setRow (w.heap.size+1) (.inr (Nat.le_succ _)) #[.slice none 0 0,.slice aon new.length capn])
   have HYZ:=zA (yL HYF.out #[.slice none 0 0,.slice aon new.length capn])
   clear hoz
   go_wp2_with (first
    | refine zH rfl 223 (.tmp 4) (w.heap.size+1) #[.slice none 0 0,.slice aon new.length capn] 223 (0,0) _ rfl rfl HYF.out underlying223 rfl (by kernel_rfl) ?_
    | refine zR rfl 223 (.tmp 4) (.tmp 32) (w.heap.size+1) #[.slice none 0 0,.slice aon new.length capn] #[.slice none 0 0,.slice aon new.length capn] 223 rfl rfl rfl rfl HYF.out (by kernel_rfl) rfl (by kernel_rfl) ?_)
   generalize wr.setRow (w.heap.size+1) #[.slice none 0 0,.slice aon new.length capn]=wz at *
   have m0:=cc 0 HYZ.out
   have m1:=cc 1 HYZ.out
   exact bodyPost_ret (v:=.agg #[.slice none 0 0,.slice aon new.length capn]) (by simp[results,results122,go_sem,m0,m1]) rfl ⟨_,_,_,_,rfl,HGZ.out,HOZ.out⟩
end
end Go.Proofs.YtodlmbfbfaofcaaGreat
