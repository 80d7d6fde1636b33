/- TopLoads, part 51. -/
import Derived.Below
import Derived.OpenShut
import Derived.ProofKit
import Derived.WalkKit
import Derived.Test.YtodlmbfbfaofcaaGreatM01
import Derived.Test.YtodlmbfbfaofcaaGreatM07
import Derived.Test.YtodlmbfbfaofcaaGreatM50
open Go.Proofs.Tryz
namespace Go.Proofs.YtodlmbfbfaofcaaGreat
set_option linter.unusedVariables false
set_option linter.unusedSimpArgs false
set_option maxRecDepth 100000
section
open Go.ChangeShapes Go.WideShapes Go.ChangeAt Go.RowKit Rw Rh
namespace topLoads
theorem fact0:(Rows.topLoadsRow.wf (OpenSpec.ofChange Rows.topLoadsSpec))=true:=by kernel_rfl
theorem fact1:(laidOutB Tryz.pinned.checked.prog)=true:=by kernel_rfl
theorem fact2:(mapsRowed Tryz.pinned.checked.prog)=true:=by kernel_rfl
theorem fact3:(Tryz.f3.params.all (Tryz.pinned.checked.prog.readableRec ·))=true:=by kernel_rfl
theorem fact4:(namedTie Tryz.pinned.checked.prog Rows.topLoadsRow.named Rows.topLoadsSpec.vars)=true:=by kernel_rfl
theorem fact5:((Rows.topLoadsRow.stops == []))=true:=by kernel_rfl
theorem fact6:((Tryz.pinned.checked.prog.stops == []))=true:=by kernel_rfl
theorem fact7:((Rows.topLoadsRow.knobs == []))=true:=by kernel_rfl
theorem fact8:((Tryz.pinned.checked.prog.stopKnobs == []))=true:=by kernel_rfl
theorem fact9:((Rows.topLoadsRow.inPlace == Tryz.pinned.checked.prog.inPlace 3))=true:=by kernel_rfl
theorem fact10:((Rows.topLoadsRow.unfollowed == Tryz.pinned.checked.prog.unfollowed 3))=true:=by kernel_rfl
theorem fact11:((Rows.topLoadsRow.recurses == Tryz.pinned.checked.prog.recurses 3))=true:=by kernel_rfl
theorem fact12:((Rows.topLoadsRow.named == Tryz.pinned.checked.prog.varsNamed 3))=true:=by kernel_rfl
theorem fact13:((Rows.topLoadsRow.maps == (Tryz.f3.params.toList++Rows.topLoadsSpec.plain.varTypes Tryz.pinned.checked.prog).any (Tryz.pinned.checked.prog.mapsRec ·)))=true:=by kernel_rfl
theorem fact14:((Rows.topLoadsRow.ifaces == (Tryz.f3.params.toList++Rows.topLoadsSpec.plain.varTypes Tryz.pinned.checked.prog).any (Tryz.pinned.checked.prog.ifacesRec ·)))=true:=by kernel_rfl
theorem fact15:((Rows.topLoadsRow.mapsOut == Tryz.pinned.checked.prog.mapsAmong Tryz.f3.resultTypes.toList))=true:=by kernel_rfl
theorem fact16:((Rows.topLoadsRow.loops == (Tryz.f3.params.toList++Rows.topLoadsSpec.plain.varTypes Tryz.pinned.checked.prog).any (Tryz.pinned.checked.prog.loopsFrom ·)))=true:=by kernel_rfl
theorem fact17:((Rows.topLoadsRow.wideKeys == (Tryz.f3.params.toList++Rows.topLoadsSpec.plain.varTypes Tryz.pinned.checked.prog++Tryz.f3.resultTypes.toList).any (Tryz.pinned.checked.prog.wideKeysFrom ·)))=true:=by kernel_rfl
theorem fact18:(Rows.topLoadsSpec.vars.all (Tryz.pinned.checked.prog.varReadable ·))=true:=by kernel_rfl
theorem fact19:(Tryz.f3.resultTypes.all (fun t=>Tryz.pinned.checked.prog.readableRec t&&decide (t<Tryz.pinned.checked.prog.types.size)))=true:=by kernel_rfl
theorem fact20:((Rows.topLoadsRow.ifacesOut == Tryz.f3.resultTypes.toList.any (Tryz.pinned.checked.prog.ifacesRec ·)))=true:=by kernel_rfl
theorem fact21:((Rows.topLoadsRow.loopsOut == Tryz.f3.resultTypes.toList.any (Tryz.pinned.checked.prog.loopsFrom ·)))=true:=by kernel_rfl
theorem fact22:((Rows.topLoadsRow.plainKeys == Tryz.pinned.checked.prog.plainKeys))=true:=by kernel_rfl
theorem fact23:(Rows.topLoadsRow.shortTexts.isNone)=true:=by kernel_rfl
theorem fact24:(Tryz.pinned.checked.prog.stopsHeard)=true:=by kernel_rfl
theorem fact25:(Tryz.pinned.checked.prog.mayEnter)=true:=by kernel_rfl
theorem fact26:((Rows.topLoadsRow.lifted == Tryz.pinned.checked.prog.liftsFinal))=true:=by kernel_rfl
theorem fact27:((Tryz.pinned.checked.prog.make == some Rows.topLoadsRow.make))=true:=by kernel_rfl
theorem fact29:((Rows.topLoadsRow.pinned == Rows.topLoadsRow.pinnedBy))=true:=by kernel_rfl
theorem fact30:((Rows.topLoadsRow.veiled == (Tryz.f3.params.toList++Rows.topLoadsSpec.plain.varTypes Tryz.pinned.checked.prog++Tryz.f3.resultTypes.toList).any (Tryz.pinned.checked.prog.veiledRec ·)))=true:=by kernel_rfl
theorem fact31:(Rows.topLoadsRow.veiledFits Tryz.pinned.checked.prog Tryz.f3.params.toList (Tryz.f3.params.toList++Rows.topLoadsSpec.plain.varTypes Tryz.pinned.checked.prog++Tryz.f3.resultTypes.toList))=true:=by kernel_rfl
theorem factNamed:Tryz.pinned.checked.prog.funcNamed Rows.topLoadsRow.func=some 3:=by kernel_rfl
theorem factInst:Tryz.f3.isInstance Tryz.pinned.checked.prog Rows.topLoadsRow.origin Rows.topLoadsRow.targs:=of_decide_eq_true (by kernel_rfl)
theorem factWrap:Tryz.f3.isWrapper Tryz.pinned.checked.prog Rows.topLoadsRow.wrapper Rows.topLoadsRow.mainSum:=by
 unfold Func.isWrapper;first | (rw[if_pos (by decide +kernel)];kernel_rfl) | (rw[if_neg (by decide +kernel)];exact⟨rfl,rfl⟩)
end topLoads
end
end Go.Proofs.YtodlmbfbfaofcaaGreat
