/- TopPolicies, part 45. -/
import Derived.Test.YtodlmbfbfaofcaaGreatChecked
import Derived.Test.YtodlmbfbfaofcaaGreatM08
open Go.Proofs.Tryz
namespace Go.Proofs.YtodlmbfbfaofcaaGreat
set_option linter.unusedVariables false
set_option linter.unusedSimpArgs false
set_option maxRecDepth 100000
section
open Go.ChangeShapes Go.WideShapes Go.ChangeAt Go.RowKit Rw Rh
namespace topPolicies
theorem fact0:(Rows.topPoliciesRow.wf (OpenSpec.ofChange Rows.topPoliciesSpec))=true:=by kernel_rfl
theorem fact1:(laidOutB Tryz.pinned.checked.prog)=true:=by kernel_rfl
theorem fact2:(mapsRowed Tryz.pinned.checked.prog)=true:=by kernel_rfl
theorem fact3:(Tryz.f4.params.all (Tryz.pinned.checked.prog.readableRec ·))=true:=by kernel_rfl
theorem fact4:(namedTie Tryz.pinned.checked.prog Rows.topPoliciesRow.named Rows.topPoliciesSpec.vars)=true:=by kernel_rfl
theorem fact5:((Rows.topPoliciesRow.stops == []))=true:=by kernel_rfl
theorem fact6:((Tryz.pinned.checked.prog.stops == []))=true:=by kernel_rfl
theorem fact7:((Rows.topPoliciesRow.knobs == []))=true:=by kernel_rfl
theorem fact8:((Tryz.pinned.checked.prog.stopKnobs == []))=true:=by kernel_rfl
theorem fact9:((Rows.topPoliciesRow.inPlace == Tryz.pinned.checked.prog.inPlace 4))=true:=by kernel_rfl
theorem fact10:((Rows.topPoliciesRow.unfollowed == Tryz.pinned.checked.prog.unfollowed 4))=true:=by kernel_rfl
theorem fact11:((Rows.topPoliciesRow.recurses == Tryz.pinned.checked.prog.recurses 4))=true:=by kernel_rfl
theorem fact12:((Rows.topPoliciesRow.named == Tryz.pinned.checked.prog.varsNamed 4))=true:=by kernel_rfl
theorem fact13:((Rows.topPoliciesRow.maps == (Tryz.f4.params.toList++Rows.topPoliciesSpec.plain.varTypes Tryz.pinned.checked.prog).any (Tryz.pinned.checked.prog.mapsRec ·)))=true:=by kernel_rfl
theorem fact14:((Rows.topPoliciesRow.ifaces == (Tryz.f4.params.toList++Rows.topPoliciesSpec.plain.varTypes Tryz.pinned.checked.prog).any (Tryz.pinned.checked.prog.ifacesRec ·)))=true:=by kernel_rfl
theorem fact15:((Rows.topPoliciesRow.mapsOut == Tryz.pinned.checked.prog.mapsAmong Tryz.f4.resultTypes.toList))=true:=by kernel_rfl
theorem fact16:((Rows.topPoliciesRow.loops == (Tryz.f4.params.toList++Rows.topPoliciesSpec.plain.varTypes Tryz.pinned.checked.prog).any (Tryz.pinned.checked.prog.loopsFrom ·)))=true:=by kernel_rfl
theorem fact17:((Rows.topPoliciesRow.wideKeys == (Tryz.f4.params.toList++Rows.topPoliciesSpec.plain.varTypes Tryz.pinned.checked.prog++Tryz.f4.resultTypes.toList).any (Tryz.pinned.checked.prog.wideKeysFrom ·)))=true:=by kernel_rfl
theorem fact18:(Rows.topPoliciesSpec.vars.all (Tryz.pinned.checked.prog.varReadable ·))=true:=by kernel_rfl
theorem fact19:(Tryz.f4.resultTypes.all (fun t=>Tryz.pinned.checked.prog.readableRec t&&decide (t<Tryz.pinned.checked.prog.types.size)))=true:=by kernel_rfl
theorem fact20:((Rows.topPoliciesRow.ifacesOut == Tryz.f4.resultTypes.toList.any (Tryz.pinned.checked.prog.ifacesRec ·)))=true:=by kernel_rfl
theorem fact21:((Rows.topPoliciesRow.loopsOut == Tryz.f4.resultTypes.toList.any (Tryz.pinned.checked.prog.loopsFrom ·)))=true:=by kernel_rfl
theorem fact22:((Rows.topPoliciesRow.plainKeys == Tryz.pinned.checked.prog.plainKeys))=true:=by kernel_rfl
theorem fact23:(Rows.topPoliciesRow.shortTexts.isNone)=true:=by kernel_rfl
theorem fact24:(Tryz.pinned.checked.prog.stopsHeard)=true:=by kernel_rfl
theorem fact25:(Tryz.pinned.checked.prog.mayEnter)=true:=by kernel_rfl
theorem fact26:((Rows.topPoliciesRow.lifted == Tryz.pinned.checked.prog.liftsFinal))=true:=by kernel_rfl
theorem fact27:((Tryz.pinned.checked.prog.make == some Rows.topPoliciesRow.make))=true:=by kernel_rfl
theorem fact29:((Rows.topPoliciesRow.pinned == Rows.topPoliciesRow.pinnedBy))=true:=by kernel_rfl
theorem fact30:((Rows.topPoliciesRow.veiled == (Tryz.f4.params.toList++Rows.topPoliciesSpec.plain.varTypes Tryz.pinned.checked.prog++Tryz.f4.resultTypes.toList).any (Tryz.pinned.checked.prog.veiledRec ·)))=true:=by kernel_rfl
theorem fact31:(Rows.topPoliciesRow.veiledFits Tryz.pinned.checked.prog Tryz.f4.params.toList (Tryz.f4.params.toList++Rows.topPoliciesSpec.plain.varTypes Tryz.pinned.checked.prog++Tryz.f4.resultTypes.toList))=true:=by kernel_rfl
theorem factNamed:Tryz.pinned.checked.prog.funcNamed Rows.topPoliciesRow.func=some 4:=by kernel_rfl
theorem factInst:Tryz.f4.isInstance Tryz.pinned.checked.prog Rows.topPoliciesRow.origin Rows.topPoliciesRow.targs:=of_decide_eq_true lE
theorem factWrap:Tryz.f4.isWrapper Tryz.pinned.checked.prog Rows.topPoliciesRow.wrapper Rows.topPoliciesRow.mainSum:=by
 unfold Func.isWrapper;first | (rw[if_pos (by decide +kernel)];kernel_rfl) | (rw[if_neg (by decide +kernel)];exact⟨rfl,rfl⟩)
end topPolicies
end
end Go.Proofs.YtodlmbfbfaofcaaGreat
