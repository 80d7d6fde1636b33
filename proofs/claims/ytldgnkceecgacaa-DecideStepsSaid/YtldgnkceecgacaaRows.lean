/-
  No cell of these rows narrows 'for every input' (looked for: loops, veiled, ifaces, maps, wideKeys, modest, calm, conditions, laid).
  DERIVED. THE GIVEN ROWS OF THIS SEAT. 10 by the template 'for every input the law returns true; each argument reads behind the call as it read before'; 0 by the template 'total and deterministic' (their statements: YtldgnkceecgacaaTotals.lean).
  GIVEN WITH THE SEED: the statements are not yours to turn. If you find one false, say at which input.
  Laid BY PROGRAM, IN A SANDBOX (cutbox-rows.mjs): the forced cells as the released guide's own fill.sh prints them over the translation be1b377f3cc259cb… (all of the seat's roots in one cut). By AI agents, Wed Nov 11 2026. No macro, syntax, notation, axiom, sorry.
-/
import Derived.Test.YtldgnkceecgacaaChecked
import GoSem.Claim
import GoSem.ClaimJoined
import GoSem.ClaimMapViews
import Derived.JoinedTies
import Derived.KernelRfl
namespace Go.Proofs.Ytldgnkceecgacaa
/- THE CELL 'sum', in the pinned program and in every row, IS THE sha256 OF THE DUMP (.gsa) THAT YtldgnkceecgacaaProg.lean LOADS. Nothing in Lean hashes anything: it is a label: what it is worth is what the hold of that sum in a sandbox is worth. -/
noncomputable def Try.pinned : Pinned := { name := "ytldgnkceecgacaa", sum := "be1b377f3cc259cbecada07c033a3a98e46543ef59ee7c711faf8acd28140b08", checked := Try.checked }
namespace Rows
def none {H : Type} : Left H := { results := [], args := [] }

/-- 'murmurlaw01.SatDivides': WHATEVER THE INPUT: true; the input reads as it did. -/
def satDividesSpec : ChangeSpec := { name := "satDivides", fn := fun _ => fun
  | [d1, d2] => { results := [.lit (.bool true)], args := [d1, d2] }
  | _ => none }
def satDividesRow : OpenClaim := { program := "ytldgnkceecgacaa", sum := "be1b377f3cc259cbecada07c033a3a98e46543ef59ee7c711faf8acd28140b08", func := "murmur/murmurlaw01.SatDivides", spec := "satDivides", unfollowed := true, recurses := true, apart := false }
def SatDividesSaid : Prop := satDividesRow.holds Try.pinned (OpenSpec.ofChange satDividesSpec)

/-- ITS FALSE NEIGHBOUR: 'it returns false'. Refute it at one input. -/
def satDividesWrong : ChangeSpec := { name := "satDivides", fn := fun _ => fun
  | [d1, d2] => { results := [.lit (.bool false)], args := [d1, d2] }
  | _ => none }
def SatDividesWrongFalsely : Prop := satDividesRow.holds Try.pinned (OpenSpec.ofChange satDividesWrong)

/-- 'murmurlaw01.SatWithin': WHATEVER THE INPUT: true; the input reads as it did. -/
def satWithinSpec : ChangeSpec := { name := "satWithin", fn := fun _ => fun
  | [d1, d2, d3] => { results := [.lit (.bool true)], args := [d1, d2, d3] }
  | _ => none }
def satWithinRow : OpenClaim := { program := "ytldgnkceecgacaa", sum := "be1b377f3cc259cbecada07c033a3a98e46543ef59ee7c711faf8acd28140b08", func := "murmur/murmurlaw01.SatWithin", spec := "satWithin", unfollowed := true, recurses := true, apart := false }
def SatWithinSaid : Prop := satWithinRow.holds Try.pinned (OpenSpec.ofChange satWithinSpec)

/-- ITS FALSE NEIGHBOUR: 'it returns false'. Refute it at one input. -/
def satWithinWrong : ChangeSpec := { name := "satWithin", fn := fun _ => fun
  | [d1, d2, d3] => { results := [.lit (.bool false)], args := [d1, d2, d3] }
  | _ => none }
def SatWithinWrongFalsely : Prop := satWithinRow.holds Try.pinned (OpenSpec.ofChange satWithinWrong)

/-- 'murmurlaw01.SatRounds': WHATEVER THE INPUT: true; the input reads as it did. -/
def satRoundsSpec : ChangeSpec := { name := "satRounds", fn := fun _ => fun
  | [d1, d2, d3] => { results := [.lit (.bool true)], args := [d1, d2, d3] }
  | _ => none }
def satRoundsRow : OpenClaim := { program := "ytldgnkceecgacaa", sum := "be1b377f3cc259cbecada07c033a3a98e46543ef59ee7c711faf8acd28140b08", func := "murmur/murmurlaw01.SatRounds", spec := "satRounds", unfollowed := true, recurses := true, apart := false }
def SatRoundsSaid : Prop := satRoundsRow.holds Try.pinned (OpenSpec.ofChange satRoundsSpec)

/-- ITS FALSE NEIGHBOUR: 'it returns false'. Refute it at one input. -/
def satRoundsWrong : ChangeSpec := { name := "satRounds", fn := fun _ => fun
  | [d1, d2, d3] => { results := [.lit (.bool false)], args := [d1, d2, d3] }
  | _ => none }
def SatRoundsWrongFalsely : Prop := satRoundsRow.holds Try.pinned (OpenSpec.ofChange satRoundsWrong)

/-- 'murmurlaw01.SatReckons': WHATEVER THE INPUT: true; the input reads as it did. -/
def satReckonsSpec : ChangeSpec := { name := "satReckons", fn := fun _ => fun
  | [d1, d2, d3] => { results := [.lit (.bool true)], args := [d1, d2, d3] }
  | _ => none }
def satReckonsRow : OpenClaim := { program := "ytldgnkceecgacaa", sum := "be1b377f3cc259cbecada07c033a3a98e46543ef59ee7c711faf8acd28140b08", func := "murmur/murmurlaw01.SatReckons", spec := "satReckons", unfollowed := true, recurses := true, apart := false }
def SatReckonsSaid : Prop := satReckonsRow.holds Try.pinned (OpenSpec.ofChange satReckonsSpec)

/-- ITS FALSE NEIGHBOUR: 'it returns false'. Refute it at one input. -/
def satReckonsWrong : ChangeSpec := { name := "satReckons", fn := fun _ => fun
  | [d1, d2, d3] => { results := [.lit (.bool false)], args := [d1, d2, d3] }
  | _ => none }
def SatReckonsWrongFalsely : Prop := satReckonsRow.holds Try.pinned (OpenSpec.ofChange satReckonsWrong)

/-- 'murmurlaw01.SatBounds': WHATEVER THE INPUT: true; the input reads as it did. -/
def satBoundsSpec : ChangeSpec := { name := "satBounds", fn := fun _ => fun
  | [d1, d2, d3] => { results := [.lit (.bool true)], args := [d1, d2, d3] }
  | _ => none }
def satBoundsRow : OpenClaim := { program := "ytldgnkceecgacaa", sum := "be1b377f3cc259cbecada07c033a3a98e46543ef59ee7c711faf8acd28140b08", func := "murmur/murmurlaw01.SatBounds", spec := "satBounds", unfollowed := true, recurses := true, apart := false }
def SatBoundsSaid : Prop := satBoundsRow.holds Try.pinned (OpenSpec.ofChange satBoundsSpec)

/-- ITS FALSE NEIGHBOUR: 'it returns false'. Refute it at one input. -/
def satBoundsWrong : ChangeSpec := { name := "satBounds", fn := fun _ => fun
  | [d1, d2, d3] => { results := [.lit (.bool false)], args := [d1, d2, d3] }
  | _ => none }
def SatBoundsWrongFalsely : Prop := satBoundsRow.holds Try.pinned (OpenSpec.ofChange satBoundsWrong)

/-- 'murmurlaw11.DecideSteps': WHATEVER THE INPUT: true; the input reads as it did. -/
def decideStepsSpec : ChangeSpec := { name := "decideSteps", fn := fun _ => fun
  | [d1, d2, d3] => { results := [.lit (.bool true)], args := [d1, d2, d3] }
  | _ => none }
def decideStepsRow : OpenClaim := { program := "ytldgnkceecgacaa", sum := "be1b377f3cc259cbecada07c033a3a98e46543ef59ee7c711faf8acd28140b08", func := "murmur/murmurlaw11.DecideSteps", spec := "decideSteps", unfollowed := true, recurses := true, apart := false }
def DecideStepsSaid : Prop := decideStepsRow.holds Try.pinned (OpenSpec.ofChange decideStepsSpec)

/-- ITS FALSE NEIGHBOUR: 'it returns false'. Refute it at one input. -/
def decideStepsWrong : ChangeSpec := { name := "decideSteps", fn := fun _ => fun
  | [d1, d2, d3] => { results := [.lit (.bool false)], args := [d1, d2, d3] }
  | _ => none }
def DecideStepsWrongFalsely : Prop := decideStepsRow.holds Try.pinned (OpenSpec.ofChange decideStepsWrong)

/-- 'murmurlaw11.DecideStable': WHATEVER THE INPUT: true; the input reads as it did. -/
def decideStableSpec : ChangeSpec := { name := "decideStable", fn := fun _ => fun
  | [d1, d2, d3] => { results := [.lit (.bool true)], args := [d1, d2, d3] }
  | _ => none }
def decideStableRow : OpenClaim := { program := "ytldgnkceecgacaa", sum := "be1b377f3cc259cbecada07c033a3a98e46543ef59ee7c711faf8acd28140b08", func := "murmur/murmurlaw11.DecideStable", spec := "decideStable", unfollowed := true, recurses := true, apart := false }
def DecideStableSaid : Prop := decideStableRow.holds Try.pinned (OpenSpec.ofChange decideStableSpec)

/-- ITS FALSE NEIGHBOUR: 'it returns false'. Refute it at one input. -/
def decideStableWrong : ChangeSpec := { name := "decideStable", fn := fun _ => fun
  | [d1, d2, d3] => { results := [.lit (.bool false)], args := [d1, d2, d3] }
  | _ => none }
def DecideStableWrongFalsely : Prop := decideStableRow.holds Try.pinned (OpenSpec.ofChange decideStableWrong)

/-- 'murmurlaw11.DecideBounds': WHATEVER THE INPUT: true; the input reads as it did. -/
def decideBoundsSpec : ChangeSpec := { name := "decideBounds", fn := fun _ => fun
  | [d1, d2, d3] => { results := [.lit (.bool true)], args := [d1, d2, d3] }
  | _ => none }
def decideBoundsRow : OpenClaim := { program := "ytldgnkceecgacaa", sum := "be1b377f3cc259cbecada07c033a3a98e46543ef59ee7c711faf8acd28140b08", func := "murmur/murmurlaw11.DecideBounds", spec := "decideBounds", unfollowed := true, recurses := true, apart := false }
def DecideBoundsSaid : Prop := decideBoundsRow.holds Try.pinned (OpenSpec.ofChange decideBoundsSpec)

/-- ITS FALSE NEIGHBOUR: 'it returns false'. Refute it at one input. -/
def decideBoundsWrong : ChangeSpec := { name := "decideBounds", fn := fun _ => fun
  | [d1, d2, d3] => { results := [.lit (.bool false)], args := [d1, d2, d3] }
  | _ => none }
def DecideBoundsWrongFalsely : Prop := decideBoundsRow.holds Try.pinned (OpenSpec.ofChange decideBoundsWrong)

/-- 'murmurlaw11.DecideMore': WHATEVER THE INPUT: true; the input reads as it did. -/
def decideMoreSpec : ChangeSpec := { name := "decideMore", fn := fun _ => fun
  | [d] => { results := [.lit (.bool true)], args := [d] }
  | _ => none }
def decideMoreRow : OpenClaim := { program := "ytldgnkceecgacaa", sum := "be1b377f3cc259cbecada07c033a3a98e46543ef59ee7c711faf8acd28140b08", func := "murmur/murmurlaw11.DecideMore", spec := "decideMore", unfollowed := true, recurses := true, apart := false }
def DecideMoreSaid : Prop := decideMoreRow.holds Try.pinned (OpenSpec.ofChange decideMoreSpec)

/-- ITS FALSE NEIGHBOUR: 'it returns false'. Refute it at one input. -/
def decideMoreWrong : ChangeSpec := { name := "decideMore", fn := fun _ => fun
  | [d] => { results := [.lit (.bool false)], args := [d] }
  | _ => none }
def DecideMoreWrongFalsely : Prop := decideMoreRow.holds Try.pinned (OpenSpec.ofChange decideMoreWrong)

/-- 'murmurlaw11.DecideRests': WHATEVER THE INPUT: true; the input reads as it did. -/
def decideRestsSpec : ChangeSpec := { name := "decideRests", fn := fun _ => fun
  | [d1, d2, d3] => { results := [.lit (.bool true)], args := [d1, d2, d3] }
  | _ => none }
def decideRestsRow : OpenClaim := { program := "ytldgnkceecgacaa", sum := "be1b377f3cc259cbecada07c033a3a98e46543ef59ee7c711faf8acd28140b08", func := "murmur/murmurlaw11.DecideRests", spec := "decideRests", unfollowed := true, recurses := true, apart := false }
def DecideRestsSaid : Prop := decideRestsRow.holds Try.pinned (OpenSpec.ofChange decideRestsSpec)

/-- ITS FALSE NEIGHBOUR: 'it returns false'. Refute it at one input. -/
def decideRestsWrong : ChangeSpec := { name := "decideRests", fn := fun _ => fun
  | [d1, d2, d3] => { results := [.lit (.bool false)], args := [d1, d2, d3] }
  | _ => none }
def DecideRestsWrongFalsely : Prop := decideRestsRow.holds Try.pinned (OpenSpec.ofChange decideRestsWrong)

/- THE SECOND FORM. 'bulk': how many values and letters a reading holds, each counted each time it is reached (what is shared counts as often as it is met; a slice's spare places count too). A statement '..UptoSaid' is the law's where the arguments, and the package variables that the reading takes, are together of bulk at most 1048576: NARROWER than '..Said'. Prove '..Said' where nothing that the law and all that it calls make is longer than what came in: it says more and counts as full. Else prove '..UptoSaid'. A law counts once. -/
mutual
def uptoBulk {H : Type} : DataW H → Nat
  | .lit (.string bytes) => bytes.length + 1
  | .lit _ => 1
  | .nil => 1
  | .ptr d => uptoBulk d + 1
  | .slice elems spare => uptoBulkAll elems + uptoBulkAll spare + 1
  | .agg parts => uptoBulkAll parts + 1
  | .iface _ d => uptoBulk d + 1
  | .map entries => uptoBulkEntries entries + 1
  | .held _ => 1
def uptoBulkAll {H : Type} : List (DataW H) → Nat
  | [] => 0
  | d :: r => uptoBulk d + uptoBulkAll r
def uptoBulkEntries {H : Type} : List (Lit × DataW H) → Nat
  | [] => 0
  | x :: r => uptoBulkEntry x + uptoBulkEntries r
def uptoBulkEntry {H : Type} : Lit × DataW H → Nat
  | (.string bytes, d) => bytes.length + uptoBulk d + 1
  | (_, d) => uptoBulk d + 1
 end
def uptoSmall : (H : Type) → List (DataW H) → Bool := fun _ ds => decide (uptoBulkAll ds ≤ 1048576)
def OpenSpec.upto (s : _root_.Go.ChangeSpec) : _root_.Go.OpenSpec := { _root_.Go.OpenSpec.ofChange s with cond := some uptoSmall }

/-- 'murmurlaw01.SatDivides', WHERE WHAT IT READS IS OF BULK AT MOST 1048576: true; the input reads as it did. -/
def satDividesUptoRow : OpenClaim := { program := "ytldgnkceecgacaa", sum := "be1b377f3cc259cbecada07c033a3a98e46543ef59ee7c711faf8acd28140b08", func := "murmur/murmurlaw01.SatDivides", spec := "satDivides", unfollowed := true, recurses := true, apart := false, narrowed := true }
def SatDividesUptoSaid : Prop := satDividesUptoRow.holds Try.pinned (OpenSpec.upto satDividesSpec)

/-- 'murmurlaw01.SatWithin', WHERE WHAT IT READS IS OF BULK AT MOST 1048576: true; the input reads as it did. -/
def satWithinUptoRow : OpenClaim := { program := "ytldgnkceecgacaa", sum := "be1b377f3cc259cbecada07c033a3a98e46543ef59ee7c711faf8acd28140b08", func := "murmur/murmurlaw01.SatWithin", spec := "satWithin", unfollowed := true, recurses := true, apart := false, narrowed := true }
def SatWithinUptoSaid : Prop := satWithinUptoRow.holds Try.pinned (OpenSpec.upto satWithinSpec)

/-- 'murmurlaw01.SatRounds', WHERE WHAT IT READS IS OF BULK AT MOST 1048576: true; the input reads as it did. -/
def satRoundsUptoRow : OpenClaim := { program := "ytldgnkceecgacaa", sum := "be1b377f3cc259cbecada07c033a3a98e46543ef59ee7c711faf8acd28140b08", func := "murmur/murmurlaw01.SatRounds", spec := "satRounds", unfollowed := true, recurses := true, apart := false, narrowed := true }
def SatRoundsUptoSaid : Prop := satRoundsUptoRow.holds Try.pinned (OpenSpec.upto satRoundsSpec)

/-- 'murmurlaw01.SatReckons', WHERE WHAT IT READS IS OF BULK AT MOST 1048576: true; the input reads as it did. -/
def satReckonsUptoRow : OpenClaim := { program := "ytldgnkceecgacaa", sum := "be1b377f3cc259cbecada07c033a3a98e46543ef59ee7c711faf8acd28140b08", func := "murmur/murmurlaw01.SatReckons", spec := "satReckons", unfollowed := true, recurses := true, apart := false, narrowed := true }
def SatReckonsUptoSaid : Prop := satReckonsUptoRow.holds Try.pinned (OpenSpec.upto satReckonsSpec)

/-- 'murmurlaw01.SatBounds', WHERE WHAT IT READS IS OF BULK AT MOST 1048576: true; the input reads as it did. -/
def satBoundsUptoRow : OpenClaim := { program := "ytldgnkceecgacaa", sum := "be1b377f3cc259cbecada07c033a3a98e46543ef59ee7c711faf8acd28140b08", func := "murmur/murmurlaw01.SatBounds", spec := "satBounds", unfollowed := true, recurses := true, apart := false, narrowed := true }
def SatBoundsUptoSaid : Prop := satBoundsUptoRow.holds Try.pinned (OpenSpec.upto satBoundsSpec)

/-- 'murmurlaw11.DecideSteps', WHERE WHAT IT READS IS OF BULK AT MOST 1048576: true; the input reads as it did. -/
def decideStepsUptoRow : OpenClaim := { program := "ytldgnkceecgacaa", sum := "be1b377f3cc259cbecada07c033a3a98e46543ef59ee7c711faf8acd28140b08", func := "murmur/murmurlaw11.DecideSteps", spec := "decideSteps", unfollowed := true, recurses := true, apart := false, narrowed := true }
def DecideStepsUptoSaid : Prop := decideStepsUptoRow.holds Try.pinned (OpenSpec.upto decideStepsSpec)

/-- 'murmurlaw11.DecideStable', WHERE WHAT IT READS IS OF BULK AT MOST 1048576: true; the input reads as it did. -/
def decideStableUptoRow : OpenClaim := { program := "ytldgnkceecgacaa", sum := "be1b377f3cc259cbecada07c033a3a98e46543ef59ee7c711faf8acd28140b08", func := "murmur/murmurlaw11.DecideStable", spec := "decideStable", unfollowed := true, recurses := true, apart := false, narrowed := true }
def DecideStableUptoSaid : Prop := decideStableUptoRow.holds Try.pinned (OpenSpec.upto decideStableSpec)

/-- 'murmurlaw11.DecideBounds', WHERE WHAT IT READS IS OF BULK AT MOST 1048576: true; the input reads as it did. -/
def decideBoundsUptoRow : OpenClaim := { program := "ytldgnkceecgacaa", sum := "be1b377f3cc259cbecada07c033a3a98e46543ef59ee7c711faf8acd28140b08", func := "murmur/murmurlaw11.DecideBounds", spec := "decideBounds", unfollowed := true, recurses := true, apart := false, narrowed := true }
def DecideBoundsUptoSaid : Prop := decideBoundsUptoRow.holds Try.pinned (OpenSpec.upto decideBoundsSpec)

/-- 'murmurlaw11.DecideMore', WHERE WHAT IT READS IS OF BULK AT MOST 1048576: true; the input reads as it did. -/
def decideMoreUptoRow : OpenClaim := { program := "ytldgnkceecgacaa", sum := "be1b377f3cc259cbecada07c033a3a98e46543ef59ee7c711faf8acd28140b08", func := "murmur/murmurlaw11.DecideMore", spec := "decideMore", unfollowed := true, recurses := true, apart := false, narrowed := true }
def DecideMoreUptoSaid : Prop := decideMoreUptoRow.holds Try.pinned (OpenSpec.upto decideMoreSpec)

/-- 'murmurlaw11.DecideRests', WHERE WHAT IT READS IS OF BULK AT MOST 1048576: true; the input reads as it did. -/
def decideRestsUptoRow : OpenClaim := { program := "ytldgnkceecgacaa", sum := "be1b377f3cc259cbecada07c033a3a98e46543ef59ee7c711faf8acd28140b08", func := "murmur/murmurlaw11.DecideRests", spec := "decideRests", unfollowed := true, recurses := true, apart := false, narrowed := true }
def DecideRestsUptoSaid : Prop := decideRestsUptoRow.holds Try.pinned (OpenSpec.upto decideRestsSpec)

end Rows
end Go.Proofs.Ytldgnkceecgacaa
