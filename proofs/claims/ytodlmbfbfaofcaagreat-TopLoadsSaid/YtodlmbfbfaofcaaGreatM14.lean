/- TopLoads, part 14. -/
import Derived.Test.YtodlmbfbfaofcaaGreatM01
import Derived.Test.YtodlmbfbfaofcaaGreatM07
import Derived.Test.YtodlmbfbfaofcaaGreatM13
open Go.Proofs.Tryz
namespace Go.Proofs.YtodlmbfbfaofcaaGreat
set_option linter.unusedVariables false
set_option linter.unusedSimpArgs false
set_option maxRecDepth 100000
set_option maxHeartbeats 4000000
section
open Go.RowKit Rw Rh
theorem yN (cs:Array Value) (v:Value) (n:Nat) (hn:n<4) (hv:cs[n]?=some v) (W:World):Sem.run prog (Instr.index 395 (.agg cs) (.int .i64 n)) W=.ok v W:=by
 have hn':(n:Int)<4:=by omega
 unfold Instr.index
 go_simp
theorem yV (cs:Array Value) (v:Value) (n:Nat) (hn:n<7) (hv:cs[n]?=some v) (W:World):Sem.run prog (Instr.index 439 (.agg cs) (.int .i64 n)) W=.ok v W:=by
 have hn':(n:Int)<7:=by omega
 unfold Instr.index
 go_simp
theorem through_w (p:Nat) (eb:Nat) (I:Nat→World→Prop) (w:World) (h0:I 0 w)
  (hA:∀k W W',I k W→Below W.heap.size W W'→I k W')
  (hC:∀k,k<6→∀W,I k W→Calls prog 252 #[Qp p,.pointer (some ⟨eb,k,none⟩)] W fun e w'=>e=.returned (.tuple #[])∧I (k+1) w')
  (hK:∀k W,4≤k→I k W→W.cell? ⟨eb,3,none⟩=some (.int .i64 1)) :
  Calls prog 187 #[Qp eb,.iface 371 (Qp p)] w fun e w'=>e=.returned (.tuple #[])∧I 6 w':=by
 have HI:=zA h0
 have HC:=zA hC
 have HA:=zA hA
 have HK:=zA hK
 clear h0 hC hA hK
 have hm:∀w,Sem.run prog (method 629 371 (Qp p) "murmur/event.number") w=.ok (252,Qp p) w:=fun _=>by kernel_rfl
 go_enter func187,ntmps187
 go_wp2_with fail
 have HBX:=zA (Below.refl w.heap.size w)
 refine zU (by kernel_rfl) (by kernel_rfl) HBX.out ?_
 repeat (go_big_quiet_step (fail))
 refine wpQuiet_nil ?_
 intro _ hw'
 obtain⟨q,hw''⟩:=hw'
 subst hw''
 have HI0:=zA (HA.out 0 w q.w HI.out q.b)
 generalize q.w=w0 at *
 have ix0:∀W,Sem.run prog (Instr.index 395 (.agg #[Qp eb,.pointer (some ⟨eb,1,none⟩),.pointer (some ⟨eb,2,none⟩),.pointer (some ⟨eb,3,none⟩)]) (.int .i64 0)) W=.ok (Qp eb) W:=fun W=>yN _ _ 0 (by decide) rfl W
 have ix1:∀W,Sem.run prog (Instr.index 395 (.agg #[Qp eb,.pointer (some ⟨eb,1,none⟩),.pointer (some ⟨eb,2,none⟩),.pointer (some ⟨eb,3,none⟩)]) (.int .i64 1)) W=.ok (.pointer (some ⟨eb,1,none⟩)) W:=fun W=>yN _ _ 1 (by decide) rfl W
 have ix2:∀W,Sem.run prog (Instr.index 395 (.agg #[Qp eb,.pointer (some ⟨eb,1,none⟩),.pointer (some ⟨eb,2,none⟩),.pointer (some ⟨eb,3,none⟩)]) (.int .i64 2)) W=.ok (.pointer (some ⟨eb,2,none⟩)) W:=fun W=>yN _ _ 2 (by decide) rfl W
 have ix3:∀W,Sem.run prog (Instr.index 395 (.agg #[Qp eb,.pointer (some ⟨eb,1,none⟩),.pointer (some ⟨eb,2,none⟩),.pointer (some ⟨eb,3,none⟩)]) (.int .i64 3)) W=.ok (.pointer (some ⟨eb,3,none⟩)) W:=fun W=>yN _ _ 3 (by decide) rfl W
 go_wp2_with fail
 refine wp_loop_rounds 5 ?_
 rw[rounds_succ]
 go_wp2_with fail
 refine(HC.out 0 (by decide) w0 HI0.out).mono ?_
 rintro e w1 ⟨rfl,i1⟩
 have HI1:=zA i1
 clear i1
 go_wp2_with fail
 rw[rounds_succ]
 go_wp2_with fail
 refine(HC.out 1 (by decide) w1 HI1.out).mono ?_
 rintro e w2 ⟨rfl,i2⟩
 have HI2:=zA i2
 clear i2
 go_wp2_with fail
 rw[rounds_succ]
 go_wp2_with fail
 refine(HC.out 2 (by decide) w2 HI2.out).mono ?_
 rintro e w3 ⟨rfl,i3⟩
 have HI3:=zA i3
 clear i3
 go_wp2_with fail
 rw[rounds_succ]
 go_wp2_with fail
 refine(HC.out 3 (by decide) w3 HI3.out).mono ?_
 rintro e w4 ⟨rfl,i4⟩
 have HI4:=zA i4
 clear i4
 go_wp2_with fail
 rw[rounds_succ]
 have c3:=HK.out 4 w4 (by decide) HI4.out
 go_wp2_with fail
 refine(zY _ _ _ w4).mono ?_
 rintro e w' ⟨rfl,rfl⟩
 rw[show Pl.inside 1 1 3=true from rfl]
 go_wp2_with fail
 refine(HC.out 4 (by decide) w4 HI4.out).mono ?_
 rintro e w5 ⟨rfl,i5⟩
 have HI5:=zA i5
 clear i5
 have c3':=HK.out 5 w5 (by decide) HI5.out
 go_wp2_with fail
 refine(HC.out 5 (by decide) w5 HI5.out).mono ?_
 rintro e w6 ⟨rfl,i6⟩
 have HI6:=zA i6
 clear i6
 go_wp2_with fail
 exact bodyPost_ret (v:=.tuple #[]) (results_none results187 _ _ _) rfl ⟨rfl,HI6.out⟩
theorem through_r (r:Nat) (eb:Nat) (I:Nat→World→Prop) (w:World) (h0:I 0 w)
  (hA:∀k W W',I k W→Below W.heap.size W W'→I k W')
  (hC:∀k,k<6→∀W,I k W→Calls prog 185 #[.agg #[Qp r],.pointer (some ⟨eb,k,none⟩)] W fun e w'=>e=.returned (.tuple #[])∧I (k+1) w')
  (hK:∀k W,4≤k→I k W→W.cell? ⟨eb,3,none⟩=some (.int .i64 1)) :
  Calls prog 187 #[Qp eb,.iface 299 (.agg #[Qp r])] w fun e w'=>e=.returned (.tuple #[])∧I 6 w':=by
 have HI:=zA h0
 have HC:=zA hC
 have HA:=zA hA
 have HK:=zA hK
 clear h0 hC hA hK
 have hm:∀w,Sem.run prog (method 629 299 (.agg #[Qp r]) "murmur/event.number") w=.ok (185,.agg #[Qp r]) w:=fun _=>by kernel_rfl
 go_enter func187,ntmps187
 go_wp2_with fail
 have HBX:=zA (Below.refl w.heap.size w)
 refine zU (by kernel_rfl) (by kernel_rfl) HBX.out ?_
 repeat (go_big_quiet_step (fail))
 refine wpQuiet_nil ?_
 intro _ hw'
 obtain⟨q,hw''⟩:=hw'
 subst hw''
 have HI0:=zA (HA.out 0 w q.w HI.out q.b)
 generalize q.w=w0 at *
 have ix0:∀W,Sem.run prog (Instr.index 395 (.agg #[Qp eb,.pointer (some ⟨eb,1,none⟩),.pointer (some ⟨eb,2,none⟩),.pointer (some ⟨eb,3,none⟩)]) (.int .i64 0)) W=.ok (Qp eb) W:=fun W=>yN _ _ 0 (by decide) rfl W
 have ix1:∀W,Sem.run prog (Instr.index 395 (.agg #[Qp eb,.pointer (some ⟨eb,1,none⟩),.pointer (some ⟨eb,2,none⟩),.pointer (some ⟨eb,3,none⟩)]) (.int .i64 1)) W=.ok (.pointer (some ⟨eb,1,none⟩)) W:=fun W=>yN _ _ 1 (by decide) rfl W
 have ix2:∀W,Sem.run prog (Instr.index 395 (.agg #[Qp eb,.pointer (some ⟨eb,1,none⟩),.pointer (some ⟨eb,2,none⟩),.pointer (some ⟨eb,3,none⟩)]) (.int .i64 2)) W=.ok (.pointer (some ⟨eb,2,none⟩)) W:=fun W=>yN _ _ 2 (by decide) rfl W
 have ix3:∀W,Sem.run prog (Instr.index 395 (.agg #[Qp eb,.pointer (some ⟨eb,1,none⟩),.pointer (some ⟨eb,2,none⟩),.pointer (some ⟨eb,3,none⟩)]) (.int .i64 3)) W=.ok (.pointer (some ⟨eb,3,none⟩)) W:=fun W=>yN _ _ 3 (by decide) rfl W
 go_wp2_with fail
 refine wp_loop_rounds 5 ?_
 rw[rounds_succ]
 go_wp2_with fail
 refine(HC.out 0 (by decide) w0 HI0.out).mono ?_
 rintro e w1 ⟨rfl,i1⟩
 have HI1:=zA i1
 clear i1
 go_wp2_with fail
 rw[rounds_succ]
 go_wp2_with fail
 refine(HC.out 1 (by decide) w1 HI1.out).mono ?_
 rintro e w2 ⟨rfl,i2⟩
 have HI2:=zA i2
 clear i2
 go_wp2_with fail
 rw[rounds_succ]
 go_wp2_with fail
 refine(HC.out 2 (by decide) w2 HI2.out).mono ?_
 rintro e w3 ⟨rfl,i3⟩
 have HI3:=zA i3
 clear i3
 go_wp2_with fail
 rw[rounds_succ]
 go_wp2_with fail
 refine(HC.out 3 (by decide) w3 HI3.out).mono ?_
 rintro e w4 ⟨rfl,i4⟩
 have HI4:=zA i4
 clear i4
 go_wp2_with fail
 rw[rounds_succ]
 have c3:=HK.out 4 w4 (by decide) HI4.out
 go_wp2_with fail
 refine(zY _ _ _ w4).mono ?_
 rintro e w' ⟨rfl,rfl⟩
 rw[show Pl.inside 1 1 3=true from rfl]
 go_wp2_with fail
 refine(HC.out 4 (by decide) w4 HI4.out).mono ?_
 rintro e w5 ⟨rfl,i5⟩
 have HI5:=zA i5
 clear i5
 have c3':=HK.out 5 w5 (by decide) HI5.out
 go_wp2_with fail
 refine(HC.out 5 (by decide) w5 HI5.out).mono ?_
 rintro e w6 ⟨rfl,i6⟩
 have HI6:=zA i6
 clear i6
 go_wp2_with fail
 exact bodyPost_ret (v:=.tuple #[]) (results_none results187 _ _ _) rfl ⟨rfl,HI6.out⟩
theorem policy_w (p:Nat) (eb:Nat) (I:Nat→World→Prop) (w:World) (h0:I 0 w)
  (hA:∀k W W',I k W→Below W.heap.size W W'→I k W')
  (hC:∀k,k<7→∀W,I k W→Calls prog 252 #[Qp p,.pointer (some ⟨eb,k+6,none⟩)] W fun e w'=>e=.returned (.tuple #[])∧I (k+1) w')
  :
  Calls prog 272 #[.pointer (some ⟨eb,6,none⟩),.func (.method "murmur/event.number") #[.iface 371 (Qp p)] #[]] w fun e w'=>e=.returned (.tuple #[])∧I 7 w':=by
 have HI:=zA h0
 have HC:=zA hC
 have HA:=zA hA
 clear h0 hC hA
 have hm:∀w,Sem.run prog (method 629 371 (Qp p) "murmur/event.number") w=.ok (252,Qp p) w:=fun _=>by kernel_rfl
 go_enter func272,ntmps272
 go_wp2_with fail
 have HBX:=zA (Below.refl w.heap.size w)
 refine zU (by kernel_rfl) (by kernel_rfl) HBX.out ?_
 repeat (go_big_quiet_step (fail))
 refine wpQuiet_nil ?_
 intro _ hw'
 obtain⟨q,hw''⟩:=hw'
 subst hw''
 have HI0:=zA (HA.out 0 w q.w HI.out q.b)
 generalize q.w=w0 at *
 have ix0:∀W,Sem.run prog (Instr.index 439 (.agg #[.pointer (some ⟨eb,6,none⟩),.pointer (some ⟨eb,7,none⟩),.pointer (some ⟨eb,8,none⟩),.pointer (some ⟨eb,9,none⟩),.pointer (some ⟨eb,10,none⟩),.pointer (some ⟨eb,11,none⟩),.pointer (some ⟨eb,12,none⟩)]) (.int .i64 0)) W=.ok (.pointer (some ⟨eb,6,none⟩)) W:=fun W=>yV _ _ 0 (by decide) rfl W
 have ix1:∀W,Sem.run prog (Instr.index 439 (.agg #[.pointer (some ⟨eb,6,none⟩),.pointer (some ⟨eb,7,none⟩),.pointer (some ⟨eb,8,none⟩),.pointer (some ⟨eb,9,none⟩),.pointer (some ⟨eb,10,none⟩),.pointer (some ⟨eb,11,none⟩),.pointer (some ⟨eb,12,none⟩)]) (.int .i64 1)) W=.ok (.pointer (some ⟨eb,7,none⟩)) W:=fun W=>yV _ _ 1 (by decide) rfl W
 have ix2:∀W,Sem.run prog (Instr.index 439 (.agg #[.pointer (some ⟨eb,6,none⟩),.pointer (some ⟨eb,7,none⟩),.pointer (some ⟨eb,8,none⟩),.pointer (some ⟨eb,9,none⟩),.pointer (some ⟨eb,10,none⟩),.pointer (some ⟨eb,11,none⟩),.pointer (some ⟨eb,12,none⟩)]) (.int .i64 2)) W=.ok (.pointer (some ⟨eb,8,none⟩)) W:=fun W=>yV _ _ 2 (by decide) rfl W
 have ix3:∀W,Sem.run prog (Instr.index 439 (.agg #[.pointer (some ⟨eb,6,none⟩),.pointer (some ⟨eb,7,none⟩),.pointer (some ⟨eb,8,none⟩),.pointer (some ⟨eb,9,none⟩),.pointer (some ⟨eb,10,none⟩),.pointer (some ⟨eb,11,none⟩),.pointer (some ⟨eb,12,none⟩)]) (.int .i64 3)) W=.ok (.pointer (some ⟨eb,9,none⟩)) W:=fun W=>yV _ _ 3 (by decide) rfl W
 have ix4:∀W,Sem.run prog (Instr.index 439 (.agg #[.pointer (some ⟨eb,6,none⟩),.pointer (some ⟨eb,7,none⟩),.pointer (some ⟨eb,8,none⟩),.pointer (some ⟨eb,9,none⟩),.pointer (some ⟨eb,10,none⟩),.pointer (some ⟨eb,11,none⟩),.pointer (some ⟨eb,12,none⟩)]) (.int .i64 4)) W=.ok (.pointer (some ⟨eb,10,none⟩)) W:=fun W=>yV _ _ 4 (by decide) rfl W
 have ix5:∀W,Sem.run prog (Instr.index 439 (.agg #[.pointer (some ⟨eb,6,none⟩),.pointer (some ⟨eb,7,none⟩),.pointer (some ⟨eb,8,none⟩),.pointer (some ⟨eb,9,none⟩),.pointer (some ⟨eb,10,none⟩),.pointer (some ⟨eb,11,none⟩),.pointer (some ⟨eb,12,none⟩)]) (.int .i64 5)) W=.ok (.pointer (some ⟨eb,11,none⟩)) W:=fun W=>yV _ _ 5 (by decide) rfl W
 have ix6:∀W,Sem.run prog (Instr.index 439 (.agg #[.pointer (some ⟨eb,6,none⟩),.pointer (some ⟨eb,7,none⟩),.pointer (some ⟨eb,8,none⟩),.pointer (some ⟨eb,9,none⟩),.pointer (some ⟨eb,10,none⟩),.pointer (some ⟨eb,11,none⟩),.pointer (some ⟨eb,12,none⟩)]) (.int .i64 6)) W=.ok (.pointer (some ⟨eb,12,none⟩)) W:=fun W=>yV _ _ 6 (by decide) rfl W
 go_wp2_with fail
 refine wp_loop_rounds 8 ?_
 rw[rounds_succ]
 go_wp2_with fail
 refine(HC.out 0 (by decide) w0 HI0.out).mono ?_
 rintro e w1 ⟨rfl,i1⟩
 have HI1:=zA i1
 clear i1
 go_wp2_with fail
 rw[rounds_succ]
 go_wp2_with fail
 refine(HC.out 1 (by decide) w1 HI1.out).mono ?_
 rintro e w2 ⟨rfl,i2⟩
 have HI2:=zA i2
 clear i2
 go_wp2_with fail
 rw[rounds_succ]
 go_wp2_with fail
 refine(HC.out 2 (by decide) w2 HI2.out).mono ?_
 rintro e w3 ⟨rfl,i3⟩
 have HI3:=zA i3
 clear i3
 go_wp2_with fail
 rw[rounds_succ]
 go_wp2_with fail
 refine(HC.out 3 (by decide) w3 HI3.out).mono ?_
 rintro e w4 ⟨rfl,i4⟩
 have HI4:=zA i4
 clear i4
 go_wp2_with fail
 rw[rounds_succ]
 go_wp2_with fail
 refine(HC.out 4 (by decide) w4 HI4.out).mono ?_
 rintro e w5 ⟨rfl,i5⟩
 have HI5:=zA i5
 clear i5
 go_wp2_with fail
 rw[rounds_succ]
 go_wp2_with fail
 refine(HC.out 5 (by decide) w5 HI5.out).mono ?_
 rintro e w6 ⟨rfl,i6⟩
 have HI6:=zA i6
 clear i6
 go_wp2_with fail
 rw[rounds_succ]
 go_wp2_with fail
 refine(HC.out 6 (by decide) w6 HI6.out).mono ?_
 rintro e w7 ⟨rfl,i7⟩
 have HI7:=zA i7
 clear i7
 go_wp2_with fail
 rw[rounds_succ]
 go_wp2_with fail
 exact yD results272 ⟨rfl,HI7.out⟩
theorem policy_r (r:Nat) (eb:Nat) (I:Nat→World→Prop) (w:World) (h0:I 0 w)
  (hA:∀k W W',I k W→Below W.heap.size W W'→I k W')
  (hC:∀k,k<7→∀W,I k W→Calls prog 185 #[.agg #[Qp r],.pointer (some ⟨eb,k+6,none⟩)] W fun e w'=>e=.returned (.tuple #[])∧I (k+1) w')
  :
  Calls prog 272 #[.pointer (some ⟨eb,6,none⟩),.func (.method "murmur/event.number") #[.iface 299 (.agg #[Qp r])] #[]] w fun e w'=>e=.returned (.tuple #[])∧I 7 w':=by
 have HI:=zA h0
 have HC:=zA hC
 have HA:=zA hA
 clear h0 hC hA
 have hm:∀w,Sem.run prog (method 629 299 (.agg #[Qp r]) "murmur/event.number") w=.ok (185,.agg #[Qp r]) w:=fun _=>by kernel_rfl
 go_enter func272,ntmps272
 go_wp2_with fail
 have HBX:=zA (Below.refl w.heap.size w)
 refine zU (by kernel_rfl) (by kernel_rfl) HBX.out ?_
 repeat (go_big_quiet_step (fail))
 refine wpQuiet_nil ?_
 intro _ hw'
 obtain⟨q,hw''⟩:=hw'
 subst hw''
 have HI0:=zA (HA.out 0 w q.w HI.out q.b)
 generalize q.w=w0 at *
 have ix0:∀W,Sem.run prog (Instr.index 439 (.agg #[.pointer (some ⟨eb,6,none⟩),.pointer (some ⟨eb,7,none⟩),.pointer (some ⟨eb,8,none⟩),.pointer (some ⟨eb,9,none⟩),.pointer (some ⟨eb,10,none⟩),.pointer (some ⟨eb,11,none⟩),.pointer (some ⟨eb,12,none⟩)]) (.int .i64 0)) W=.ok (.pointer (some ⟨eb,6,none⟩)) W:=fun W=>yV _ _ 0 (by decide) rfl W
 have ix1:∀W,Sem.run prog (Instr.index 439 (.agg #[.pointer (some ⟨eb,6,none⟩),.pointer (some ⟨eb,7,none⟩),.pointer (some ⟨eb,8,none⟩),.pointer (some ⟨eb,9,none⟩),.pointer (some ⟨eb,10,none⟩),.pointer (some ⟨eb,11,none⟩),.pointer (some ⟨eb,12,none⟩)]) (.int .i64 1)) W=.ok (.pointer (some ⟨eb,7,none⟩)) W:=fun W=>yV _ _ 1 (by decide) rfl W
 have ix2:∀W,Sem.run prog (Instr.index 439 (.agg #[.pointer (some ⟨eb,6,none⟩),.pointer (some ⟨eb,7,none⟩),.pointer (some ⟨eb,8,none⟩),.pointer (some ⟨eb,9,none⟩),.pointer (some ⟨eb,10,none⟩),.pointer (some ⟨eb,11,none⟩),.pointer (some ⟨eb,12,none⟩)]) (.int .i64 2)) W=.ok (.pointer (some ⟨eb,8,none⟩)) W:=fun W=>yV _ _ 2 (by decide) rfl W
 have ix3:∀W,Sem.run prog (Instr.index 439 (.agg #[.pointer (some ⟨eb,6,none⟩),.pointer (some ⟨eb,7,none⟩),.pointer (some ⟨eb,8,none⟩),.pointer (some ⟨eb,9,none⟩),.pointer (some ⟨eb,10,none⟩),.pointer (some ⟨eb,11,none⟩),.pointer (some ⟨eb,12,none⟩)]) (.int .i64 3)) W=.ok (.pointer (some ⟨eb,9,none⟩)) W:=fun W=>yV _ _ 3 (by decide) rfl W
 have ix4:∀W,Sem.run prog (Instr.index 439 (.agg #[.pointer (some ⟨eb,6,none⟩),.pointer (some ⟨eb,7,none⟩),.pointer (some ⟨eb,8,none⟩),.pointer (some ⟨eb,9,none⟩),.pointer (some ⟨eb,10,none⟩),.pointer (some ⟨eb,11,none⟩),.pointer (some ⟨eb,12,none⟩)]) (.int .i64 4)) W=.ok (.pointer (some ⟨eb,10,none⟩)) W:=fun W=>yV _ _ 4 (by decide) rfl W
 have ix5:∀W,Sem.run prog (Instr.index 439 (.agg #[.pointer (some ⟨eb,6,none⟩),.pointer (some ⟨eb,7,none⟩),.pointer (some ⟨eb,8,none⟩),.pointer (some ⟨eb,9,none⟩),.pointer (some ⟨eb,10,none⟩),.pointer (some ⟨eb,11,none⟩),.pointer (some ⟨eb,12,none⟩)]) (.int .i64 5)) W=.ok (.pointer (some ⟨eb,11,none⟩)) W:=fun W=>yV _ _ 5 (by decide) rfl W
 have ix6:∀W,Sem.run prog (Instr.index 439 (.agg #[.pointer (some ⟨eb,6,none⟩),.pointer (some ⟨eb,7,none⟩),.pointer (some ⟨eb,8,none⟩),.pointer (some ⟨eb,9,none⟩),.pointer (some ⟨eb,10,none⟩),.pointer (some ⟨eb,11,none⟩),.pointer (some ⟨eb,12,none⟩)]) (.int .i64 6)) W=.ok (.pointer (some ⟨eb,12,none⟩)) W:=fun W=>yV _ _ 6 (by decide) rfl W
 go_wp2_with fail
 refine wp_loop_rounds 8 ?_
 rw[rounds_succ]
 go_wp2_with fail
 refine(HC.out 0 (by decide) w0 HI0.out).mono ?_
 rintro e w1 ⟨rfl,i1⟩
 have HI1:=zA i1
 clear i1
 go_wp2_with fail
 rw[rounds_succ]
 go_wp2_with fail
 refine(HC.out 1 (by decide) w1 HI1.out).mono ?_
 rintro e w2 ⟨rfl,i2⟩
 have HI2:=zA i2
 clear i2
 go_wp2_with fail
 rw[rounds_succ]
 go_wp2_with fail
 refine(HC.out 2 (by decide) w2 HI2.out).mono ?_
 rintro e w3 ⟨rfl,i3⟩
 have HI3:=zA i3
 clear i3
 go_wp2_with fail
 rw[rounds_succ]
 go_wp2_with fail
 refine(HC.out 3 (by decide) w3 HI3.out).mono ?_
 rintro e w4 ⟨rfl,i4⟩
 have HI4:=zA i4
 clear i4
 go_wp2_with fail
 rw[rounds_succ]
 go_wp2_with fail
 refine(HC.out 4 (by decide) w4 HI4.out).mono ?_
 rintro e w5 ⟨rfl,i5⟩
 have HI5:=zA i5
 clear i5
 go_wp2_with fail
 rw[rounds_succ]
 go_wp2_with fail
 refine(HC.out 5 (by decide) w5 HI5.out).mono ?_
 rintro e w6 ⟨rfl,i6⟩
 have HI6:=zA i6
 clear i6
 go_wp2_with fail
 rw[rounds_succ]
 go_wp2_with fail
 refine(HC.out 6 (by decide) w6 HI6.out).mono ?_
 rintro e w7 ⟨rfl,i7⟩
 have HI7:=zA i7
 clear i7
 go_wp2_with fail
 rw[rounds_succ]
 go_wp2_with fail
 exact yD results272 ⟨rfl,HI7.out⟩
end
end Go.Proofs.YtodlmbfbfaofcaaGreat
