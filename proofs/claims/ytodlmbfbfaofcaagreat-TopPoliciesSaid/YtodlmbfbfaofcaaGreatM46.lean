/- TopPolicies: for every input the law returns true, and each argument reads behind the call as it read before. No condition. -/
import Derived.Test.YtodlmbfbfaofcaaGreatM44
import Derived.Test.YtodlmbfbfaofcaaGreatM45
open Go.Proofs.Tryz
namespace Go.Proofs.YtodlmbfbfaofcaaGreat
set_option linter.unusedVariables false
set_option linter.unusedSimpArgs false
set_option maxRecDepth 100000
section
open Go.ChangeShapes Go.WideShapes Go.ChangeAt Go.RowKit Rw Rh
open Go.ChangeMaps (open_string shut_string)
namespace topPolicies
theorem own:ownKnob prog.godebug=none:=by kernel_rfl
theorem laidOut:laidOutB prog=true:=by kernel_rfl
theorem lifted (os:Os) (started:os.Started) (H:Type) (enc:TypeId×Value→H) :
  ReturnsInHanded {} Tryz.checked os 4 .any (Rows.topPoliciesSpec.pre6 enc prog Tryz.f4 Rows.topPoliciesRow.domain false) (Rows.topPoliciesSpec.post enc prog Tryz.f4 false true false false):=by
 refine returnsInHanded_of_change (C:=Tryz.checked) own started lE func4
  (ChangeSpec.witness6 (enc:=enc) (C:=Tryz.checked) false ⟨#[],#[.agg (Qcd 0 0 0 0 0 0 0 0),.slice none 0 0],[]⟩ 8 lE lE lE lE) ?_
 intro W base args ds gs before hval0 hW hcnd _
 have pD:∀(j:Nat) t v,Tryz.f4.params[j]?=some t→args[j]?=some v→Value.okWide prog W .any base t v:=hval0
 have hW':=hW
 obtain⟨p,q,hA0,hV,rfl,hfz,hnd⟩:=hW
 have hA:DataW.TrodAll enc prog W 0 (fun _=>true) true Tryz.f4.params.toList args.toList ds p:=hA0
 rw[Tryz.params4]at hA pD
 obtain⟨v0,vs0,d0,ds0,p0,q0,hargs,rfl,rfl,h0,r0⟩:=trodAll_cons hA
 obtain⟨v1,vs1,d1,ds1,p1,q1,rfl,rfl,rfl,h1,r1⟩:=trodAll_cons r0
 obtain⟨rfl,rfl,rfl⟩:=trodAll_nil r1
 obtain rfl:args=#[v0,v1]:=by cases args;simp_all
 obtain⟨rfl,rfl⟩:=trodVars_none hV
 have k0:=h0
 have lt0:∀x∈p0,x.block<W.heap.size:=by obtain⟨m,hm⟩:=k0;exact DataW.trod_lt m _ _ _ hm
 have w0:=open_conf (pD 0 28 v0 rfl rfl) h0
 have k1:=h1
 have lt1:∀x∈p1,x.block<W.heap.size:=by obtain⟨m,hm⟩:=k1;exact DataW.trod_lt m _ _ _ hm
 have w1:=open_ops (pD 1 29 v1 rfl rfl) h1
 clear hA0 hval0
 obtain⟨a,b,c,d,e,f,g,i,j,k,l,rfl⟩:=w0
 obtain⟨la,ln,lc,rfl,hl,hin⟩:=w1
 refine(pol_walk a b c d e f g i j k l la ln lc W hin hl).mono fun e W' ⟨he,bel⟩=>?_
 subst he
 exact⟨_,rfl,_,_,_,[],_,[],hW',trodAll_mk1 (shut_bool underlying4 _),(trodAll_cons_mk (Below.trod laidOut lE (of_decide_eq_true lE) k0 bel lt0) (trodAll_cons_mk (Below.trod laidOut lE (of_decide_eq_true lE) k1 bel lt1) trodAll_mk0)),rfl,bel.frame _,fun h=>by cases h⟩
theorem closed:joinedFacts Tryz.pinned.checked.prog 4 Tryz.f4 Rows.topPoliciesSpec Rows.topPoliciesRow=true:=by
 unfold joinedFacts
 simp only[Bool.and_eq_true]
 exact⟨⟨⟨⟨⟨⟨⟨⟨⟨⟨⟨⟨⟨⟨⟨⟨⟨⟨⟨⟨⟨⟨⟨⟨⟨⟨⟨⟨⟨⟨⟨fact0,fact1⟩,fact2⟩,fact3⟩,fact4⟩,fact5⟩,fact6⟩,fact7⟩,fact8⟩,fact9⟩,fact10⟩,fact11⟩,fact12⟩,fact13⟩,fact14⟩,fact15⟩,fact16⟩,fact17⟩,fact18⟩,fact19⟩,fact20⟩,fact21⟩,fact22⟩,fact23⟩,fact24⟩,fact25⟩,fact26⟩,fact27⟩,lE⟩,fact29⟩,fact30⟩,fact31⟩
theorem over:Rows.topPoliciesRow.holds Tryz.pinned (OpenSpec.ofChange Rows.topPoliciesSpec):=
 OpenClaim.holds_of_wide 4 Tryz.f4 rfl rfl rfl rfl rfl rfl rfl ⟨rfl,rfl,rfl,rfl,rfl⟩ rfl rfl rfl rfl rfl factNamed func4 closed factInst factWrap
  (fun os started H enc _=>lifted os started H enc)
theorem proved:Rows.TopPoliciesSaid:=over
#print axioms proved
end topPolicies
end
end Go.Proofs.YtodlmbfbfaofcaaGreat
