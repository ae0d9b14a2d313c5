/-
  No cell of these rows narrows 'for every input' (looked for: loops, veiled, ifaces, maps, wideKeys, modest, calm, conditions, laid).
  DERIVED. THE GIVEN ROWS OF THIS SEAT. 19 by the template 'for every input the law returns true; each argument reads behind the call as it read before'; 0 by the template 'total and deterministic' (their statements: YtiiokdeehlfeeaaTotals.lean).
  GIVEN WITH THE SEED: the statements are not yours to turn. If you find one false, say at which input.
  Laid BY PROGRAM, IN A SANDBOX (cutbox-rows.mjs): the forced cells as the released guide's own fill.sh prints them over the translation cc42b926fd0fbcb8… (all of the seat's roots in one cut). By AI agents, Wed Nov 11 2026. No macro, syntax, notation, axiom, sorry.
-/
import Derived.Test.YtiiokdeehlfeeaaChecked
import GoSem.Claim
import GoSem.ClaimJoined
import GoSem.ClaimMapViews
import Derived.JoinedTies
import Derived.KernelRfl
namespace Go.Proofs.Ytiiokdeehlfeeaa
/- THE CELL 'sum', in the pinned program and in every row, IS THE sha256 OF THE DUMP (.gsa) THAT YtiiokdeehlfeeaaProg.lean LOADS. Nothing in Lean hashes anything: it is a label: what it is worth is what the hold of that sum in a sandbox is worth. -/
noncomputable def Try.pinned : Pinned := { name := "ytiiokdeehlfeeaa", sum := "cc42b926fd0fbcb801f93523a775edf1976070c9c1438024b05ba4cc17cfa500", checked := Try.checked }
namespace Rows
def none {H : Type} : Left H := { results := [], args := [] }

/-- 'moorsomlaw09.ProbeMore': WHATEVER THE INPUT: true; the input reads as it did. -/
def probeMoreSpec : ChangeSpec := { name := "probeMore", fn := fun _ => fun
  | [d1, d2] => { results := [.lit (.bool true)], args := [d1, d2] }
  | _ => none }
def probeMoreRow : OpenClaim := { program := "ytiiokdeehlfeeaa", sum := "cc42b926fd0fbcb801f93523a775edf1976070c9c1438024b05ba4cc17cfa500", func := "moorsom/moorsomlaw09.ProbeMore", spec := "probeMore", unfollowed := true, recurses := true, apart := false }
def ProbeMoreSaid : Prop := probeMoreRow.holds Try.pinned (OpenSpec.ofChange probeMoreSpec)

/-- ITS FALSE NEIGHBOUR: 'it returns false'. Refute it at one input. -/
def probeMoreWrong : ChangeSpec := { name := "probeMore", fn := fun _ => fun
  | [d1, d2] => { results := [.lit (.bool false)], args := [d1, d2] }
  | _ => none }
def ProbeMoreWrongFalsely : Prop := probeMoreRow.holds Try.pinned (OpenSpec.ofChange probeMoreWrong)

/-- 'moorsomlaw09.ProbePairs': WHATEVER THE INPUT: true; the input reads as it did. -/
def probePairsSpec : ChangeSpec := { name := "probePairs", fn := fun _ => fun
  | [d1, d2] => { results := [.lit (.bool true)], args := [d1, d2] }
  | _ => none }
def probePairsRow : OpenClaim := { program := "ytiiokdeehlfeeaa", sum := "cc42b926fd0fbcb801f93523a775edf1976070c9c1438024b05ba4cc17cfa500", func := "moorsom/moorsomlaw09.ProbePairs", spec := "probePairs", unfollowed := true, recurses := true, apart := false }
def ProbePairsSaid : Prop := probePairsRow.holds Try.pinned (OpenSpec.ofChange probePairsSpec)

/-- ITS FALSE NEIGHBOUR: 'it returns false'. Refute it at one input. -/
def probePairsWrong : ChangeSpec := { name := "probePairs", fn := fun _ => fun
  | [d1, d2] => { results := [.lit (.bool false)], args := [d1, d2] }
  | _ => none }
def ProbePairsWrongFalsely : Prop := probePairsRow.holds Try.pinned (OpenSpec.ofChange probePairsWrong)

/-- 'moorsomlaw09.ProbeAsks': WHATEVER THE INPUT: true; the input reads as it did. -/
def probeAsksSpec : ChangeSpec := { name := "probeAsks", fn := fun _ => fun
  | [d1, d2, d3] => { results := [.lit (.bool true)], args := [d1, d2, d3] }
  | _ => none }
def probeAsksRow : OpenClaim := { program := "ytiiokdeehlfeeaa", sum := "cc42b926fd0fbcb801f93523a775edf1976070c9c1438024b05ba4cc17cfa500", func := "moorsom/moorsomlaw09.ProbeAsks", spec := "probeAsks", unfollowed := true, recurses := true, apart := false }
def ProbeAsksSaid : Prop := probeAsksRow.holds Try.pinned (OpenSpec.ofChange probeAsksSpec)

/-- ITS FALSE NEIGHBOUR: 'it returns false'. Refute it at one input. -/
def probeAsksWrong : ChangeSpec := { name := "probeAsks", fn := fun _ => fun
  | [d1, d2, d3] => { results := [.lit (.bool false)], args := [d1, d2, d3] }
  | _ => none }
def ProbeAsksWrongFalsely : Prop := probeAsksRow.holds Try.pinned (OpenSpec.ofChange probeAsksWrong)

/-- 'moorsomlaw09.ProbeWorsts': WHATEVER THE INPUT: true; the input reads as it did. -/
def probeWorstsSpec : ChangeSpec := { name := "probeWorsts", fn := fun _ => fun
  | [d1, d2, d3] => { results := [.lit (.bool true)], args := [d1, d2, d3] }
  | _ => none }
def probeWorstsRow : OpenClaim := { program := "ytiiokdeehlfeeaa", sum := "cc42b926fd0fbcb801f93523a775edf1976070c9c1438024b05ba4cc17cfa500", func := "moorsom/moorsomlaw09.ProbeWorsts", spec := "probeWorsts", unfollowed := true, recurses := true, apart := false }
def ProbeWorstsSaid : Prop := probeWorstsRow.holds Try.pinned (OpenSpec.ofChange probeWorstsSpec)

/-- ITS FALSE NEIGHBOUR: 'it returns false'. Refute it at one input. -/
def probeWorstsWrong : ChangeSpec := { name := "probeWorsts", fn := fun _ => fun
  | [d1, d2, d3] => { results := [.lit (.bool false)], args := [d1, d2, d3] }
  | _ => none }
def ProbeWorstsWrongFalsely : Prop := probeWorstsRow.holds Try.pinned (OpenSpec.ofChange probeWorstsWrong)

/-- 'moorsomlaw09.ProbeTurns': WHATEVER THE INPUT: true; the input reads as it did. -/
def probeTurnsSpec : ChangeSpec := { name := "probeTurns", fn := fun _ => fun
  | [d1, d2, d3] => { results := [.lit (.bool true)], args := [d1, d2, d3] }
  | _ => none }
def probeTurnsRow : OpenClaim := { program := "ytiiokdeehlfeeaa", sum := "cc42b926fd0fbcb801f93523a775edf1976070c9c1438024b05ba4cc17cfa500", func := "moorsom/moorsomlaw09.ProbeTurns", spec := "probeTurns", unfollowed := true, recurses := true, apart := false }
def ProbeTurnsSaid : Prop := probeTurnsRow.holds Try.pinned (OpenSpec.ofChange probeTurnsSpec)

/-- ITS FALSE NEIGHBOUR: 'it returns false'. Refute it at one input. -/
def probeTurnsWrong : ChangeSpec := { name := "probeTurns", fn := fun _ => fun
  | [d1, d2, d3] => { results := [.lit (.bool false)], args := [d1, d2, d3] }
  | _ => none }
def ProbeTurnsWrongFalsely : Prop := probeTurnsRow.holds Try.pinned (OpenSpec.ofChange probeTurnsWrong)

/-- 'moorsomlaw09.ProbeTrue': WHATEVER THE INPUT: true; the input reads as it did. -/
def probeTrueSpec : ChangeSpec := { name := "probeTrue", fn := fun _ => fun
  | [d1, d2, d3] => { results := [.lit (.bool true)], args := [d1, d2, d3] }
  | _ => none }
def probeTrueRow : OpenClaim := { program := "ytiiokdeehlfeeaa", sum := "cc42b926fd0fbcb801f93523a775edf1976070c9c1438024b05ba4cc17cfa500", func := "moorsom/moorsomlaw09.ProbeTrue", spec := "probeTrue", unfollowed := true, recurses := true, apart := false }
def ProbeTrueSaid : Prop := probeTrueRow.holds Try.pinned (OpenSpec.ofChange probeTrueSpec)

/-- ITS FALSE NEIGHBOUR: 'it returns false'. Refute it at one input. -/
def probeTrueWrong : ChangeSpec := { name := "probeTrue", fn := fun _ => fun
  | [d1, d2, d3] => { results := [.lit (.bool false)], args := [d1, d2, d3] }
  | _ => none }
def ProbeTrueWrongFalsely : Prop := probeTrueRow.holds Try.pinned (OpenSpec.ofChange probeTrueWrong)

/-- 'moorsomlaw09.ProbeSides': WHATEVER THE INPUT: true; the input reads as it did. -/
def probeSidesSpec : ChangeSpec := { name := "probeSides", fn := fun _ => fun
  | [d1, d2, d3] => { results := [.lit (.bool true)], args := [d1, d2, d3] }
  | _ => none }
def probeSidesRow : OpenClaim := { program := "ytiiokdeehlfeeaa", sum := "cc42b926fd0fbcb801f93523a775edf1976070c9c1438024b05ba4cc17cfa500", func := "moorsom/moorsomlaw09.ProbeSides", spec := "probeSides", unfollowed := true, recurses := true, apart := false }
def ProbeSidesSaid : Prop := probeSidesRow.holds Try.pinned (OpenSpec.ofChange probeSidesSpec)

/-- ITS FALSE NEIGHBOUR: 'it returns false'. Refute it at one input. -/
def probeSidesWrong : ChangeSpec := { name := "probeSides", fn := fun _ => fun
  | [d1, d2, d3] => { results := [.lit (.bool false)], args := [d1, d2, d3] }
  | _ => none }
def ProbeSidesWrongFalsely : Prop := probeSidesRow.holds Try.pinned (OpenSpec.ofChange probeSidesWrong)

/-- 'moorsomlaw02.BoundClosed': WHATEVER THE INPUT: true; the input reads as it did. -/
def boundClosedSpec : ChangeSpec := { name := "boundClosed", fn := fun _ => fun
  | [d1, d2, d3] => { results := [.lit (.bool true)], args := [d1, d2, d3] }
  | _ => none }
def boundClosedRow : OpenClaim := { program := "ytiiokdeehlfeeaa", sum := "cc42b926fd0fbcb801f93523a775edf1976070c9c1438024b05ba4cc17cfa500", func := "moorsom/moorsomlaw02.BoundClosed", spec := "boundClosed", unfollowed := true, recurses := true, apart := false }
def BoundClosedSaid : Prop := boundClosedRow.holds Try.pinned (OpenSpec.ofChange boundClosedSpec)

/-- ITS FALSE NEIGHBOUR: 'it returns false'. Refute it at one input. -/
def boundClosedWrong : ChangeSpec := { name := "boundClosed", fn := fun _ => fun
  | [d1, d2, d3] => { results := [.lit (.bool false)], args := [d1, d2, d3] }
  | _ => none }
def BoundClosedWrongFalsely : Prop := boundClosedRow.holds Try.pinned (OpenSpec.ofChange boundClosedWrong)

/-- 'moorsomlaw02.BoundOpens': WHATEVER THE INPUT: true; the input reads as it did. -/
def boundOpensSpec : ChangeSpec := { name := "boundOpens", fn := fun _ => fun
  | [d1, d2, d3] => { results := [.lit (.bool true)], args := [d1, d2, d3] }
  | _ => none }
def boundOpensRow : OpenClaim := { program := "ytiiokdeehlfeeaa", sum := "cc42b926fd0fbcb801f93523a775edf1976070c9c1438024b05ba4cc17cfa500", func := "moorsom/moorsomlaw02.BoundOpens", spec := "boundOpens", unfollowed := true, recurses := true, apart := false }
def BoundOpensSaid : Prop := boundOpensRow.holds Try.pinned (OpenSpec.ofChange boundOpensSpec)

/-- ITS FALSE NEIGHBOUR: 'it returns false'. Refute it at one input. -/
def boundOpensWrong : ChangeSpec := { name := "boundOpens", fn := fun _ => fun
  | [d1, d2, d3] => { results := [.lit (.bool false)], args := [d1, d2, d3] }
  | _ => none }
def BoundOpensWrongFalsely : Prop := boundOpensRow.holds Try.pinned (OpenSpec.ofChange boundOpensWrong)

/-- 'moorsomlaw02.BoundEnds': WHATEVER THE INPUT: true; the input reads as it did. -/
def boundEndsSpec : ChangeSpec := { name := "boundEnds", fn := fun _ => fun
  | [d1, d2] => { results := [.lit (.bool true)], args := [d1, d2] }
  | _ => none }
def boundEndsRow : OpenClaim := { program := "ytiiokdeehlfeeaa", sum := "cc42b926fd0fbcb801f93523a775edf1976070c9c1438024b05ba4cc17cfa500", func := "moorsom/moorsomlaw02.BoundEnds", spec := "boundEnds", unfollowed := true, recurses := true, apart := false }
def BoundEndsSaid : Prop := boundEndsRow.holds Try.pinned (OpenSpec.ofChange boundEndsSpec)

/-- ITS FALSE NEIGHBOUR: 'it returns false'. Refute it at one input. -/
def boundEndsWrong : ChangeSpec := { name := "boundEnds", fn := fun _ => fun
  | [d1, d2] => { results := [.lit (.bool false)], args := [d1, d2] }
  | _ => none }
def BoundEndsWrongFalsely : Prop := boundEndsRow.holds Try.pinned (OpenSpec.ofChange boundEndsWrong)

/-- 'moorsomlaw02.BoundConflicts': WHATEVER THE INPUT: true; the input reads as it did. -/
def boundConflictsSpec : ChangeSpec := { name := "boundConflicts", fn := fun _ => fun
  | [d1, d2] => { results := [.lit (.bool true)], args := [d1, d2] }
  | _ => none }
def boundConflictsRow : OpenClaim := { program := "ytiiokdeehlfeeaa", sum := "cc42b926fd0fbcb801f93523a775edf1976070c9c1438024b05ba4cc17cfa500", func := "moorsom/moorsomlaw02.BoundConflicts", spec := "boundConflicts", unfollowed := true, recurses := true, apart := false }
def BoundConflictsSaid : Prop := boundConflictsRow.holds Try.pinned (OpenSpec.ofChange boundConflictsSpec)

/-- ITS FALSE NEIGHBOUR: 'it returns false'. Refute it at one input. -/
def boundConflictsWrong : ChangeSpec := { name := "boundConflicts", fn := fun _ => fun
  | [d1, d2] => { results := [.lit (.bool false)], args := [d1, d2] }
  | _ => none }
def BoundConflictsWrongFalsely : Prop := boundConflictsRow.holds Try.pinned (OpenSpec.ofChange boundConflictsWrong)

/-- 'moorsomlaw02.BoundChecks': WHATEVER THE INPUT: true; the input reads as it did. -/
def boundChecksSpec : ChangeSpec := { name := "boundChecks", fn := fun _ => fun
  | [d1, d2, d3] => { results := [.lit (.bool true)], args := [d1, d2, d3] }
  | _ => none }
def boundChecksRow : OpenClaim := { program := "ytiiokdeehlfeeaa", sum := "cc42b926fd0fbcb801f93523a775edf1976070c9c1438024b05ba4cc17cfa500", func := "moorsom/moorsomlaw02.BoundChecks", spec := "boundChecks", unfollowed := true, recurses := true, apart := false }
def BoundChecksSaid : Prop := boundChecksRow.holds Try.pinned (OpenSpec.ofChange boundChecksSpec)

/-- ITS FALSE NEIGHBOUR: 'it returns false'. Refute it at one input. -/
def boundChecksWrong : ChangeSpec := { name := "boundChecks", fn := fun _ => fun
  | [d1, d2, d3] => { results := [.lit (.bool false)], args := [d1, d2, d3] }
  | _ => none }
def BoundChecksWrongFalsely : Prop := boundChecksRow.holds Try.pinned (OpenSpec.ofChange boundChecksWrong)

/-- 'moorsomlaw02.BoundWhole': WHATEVER THE INPUT: true; the input reads as it did. -/
def boundWholeSpec : ChangeSpec := { name := "boundWhole", fn := fun _ => fun
  | [d1, d2, d3] => { results := [.lit (.bool true)], args := [d1, d2, d3] }
  | _ => none }
def boundWholeRow : OpenClaim := { program := "ytiiokdeehlfeeaa", sum := "cc42b926fd0fbcb801f93523a775edf1976070c9c1438024b05ba4cc17cfa500", func := "moorsom/moorsomlaw02.BoundWhole", spec := "boundWhole", unfollowed := true, recurses := true, apart := false }
def BoundWholeSaid : Prop := boundWholeRow.holds Try.pinned (OpenSpec.ofChange boundWholeSpec)

/-- ITS FALSE NEIGHBOUR: 'it returns false'. Refute it at one input. -/
def boundWholeWrong : ChangeSpec := { name := "boundWhole", fn := fun _ => fun
  | [d1, d2, d3] => { results := [.lit (.bool false)], args := [d1, d2, d3] }
  | _ => none }
def BoundWholeWrongFalsely : Prop := boundWholeRow.holds Try.pinned (OpenSpec.ofChange boundWholeWrong)

/-- 'moorsomlaw02.BoundIdle': WHATEVER THE INPUT: true; the input reads as it did. -/
def boundIdleSpec : ChangeSpec := { name := "boundIdle", fn := fun _ => fun
  | [d1, d2, d3] => { results := [.lit (.bool true)], args := [d1, d2, d3] }
  | _ => none }
def boundIdleRow : OpenClaim := { program := "ytiiokdeehlfeeaa", sum := "cc42b926fd0fbcb801f93523a775edf1976070c9c1438024b05ba4cc17cfa500", func := "moorsom/moorsomlaw02.BoundIdle", spec := "boundIdle", unfollowed := true, recurses := true, apart := false }
def BoundIdleSaid : Prop := boundIdleRow.holds Try.pinned (OpenSpec.ofChange boundIdleSpec)

/-- ITS FALSE NEIGHBOUR: 'it returns false'. Refute it at one input. -/
def boundIdleWrong : ChangeSpec := { name := "boundIdle", fn := fun _ => fun
  | [d1, d2, d3] => { results := [.lit (.bool false)], args := [d1, d2, d3] }
  | _ => none }
def BoundIdleWrongFalsely : Prop := boundIdleRow.holds Try.pinned (OpenSpec.ofChange boundIdleWrong)

/-- 'moorsomlaw02.BoundCloses': WHATEVER THE INPUT: true; the input reads as it did. -/
def boundClosesSpec : ChangeSpec := { name := "boundCloses", fn := fun _ => fun
  | [d1, d2, d3] => { results := [.lit (.bool true)], args := [d1, d2, d3] }
  | _ => none }
def boundClosesRow : OpenClaim := { program := "ytiiokdeehlfeeaa", sum := "cc42b926fd0fbcb801f93523a775edf1976070c9c1438024b05ba4cc17cfa500", func := "moorsom/moorsomlaw02.BoundCloses", spec := "boundCloses", unfollowed := true, recurses := true, apart := false }
def BoundClosesSaid : Prop := boundClosesRow.holds Try.pinned (OpenSpec.ofChange boundClosesSpec)

/-- ITS FALSE NEIGHBOUR: 'it returns false'. Refute it at one input. -/
def boundClosesWrong : ChangeSpec := { name := "boundCloses", fn := fun _ => fun
  | [d1, d2, d3] => { results := [.lit (.bool false)], args := [d1, d2, d3] }
  | _ => none }
def BoundClosesWrongFalsely : Prop := boundClosesRow.holds Try.pinned (OpenSpec.ofChange boundClosesWrong)

/-- 'moorsomlaw02.BoundEither': WHATEVER THE INPUT: true; the input reads as it did. -/
def boundEitherSpec : ChangeSpec := { name := "boundEither", fn := fun _ => fun
  | [d1, d2, d3] => { results := [.lit (.bool true)], args := [d1, d2, d3] }
  | _ => none }
def boundEitherRow : OpenClaim := { program := "ytiiokdeehlfeeaa", sum := "cc42b926fd0fbcb801f93523a775edf1976070c9c1438024b05ba4cc17cfa500", func := "moorsom/moorsomlaw02.BoundEither", spec := "boundEither", unfollowed := true, recurses := true, apart := false }
def BoundEitherSaid : Prop := boundEitherRow.holds Try.pinned (OpenSpec.ofChange boundEitherSpec)

/-- ITS FALSE NEIGHBOUR: 'it returns false'. Refute it at one input. -/
def boundEitherWrong : ChangeSpec := { name := "boundEither", fn := fun _ => fun
  | [d1, d2, d3] => { results := [.lit (.bool false)], args := [d1, d2, d3] }
  | _ => none }
def BoundEitherWrongFalsely : Prop := boundEitherRow.holds Try.pinned (OpenSpec.ofChange boundEitherWrong)

/-- 'moorsomlaw02.BoundProofs': WHATEVER THE INPUT: true; the input reads as it did. -/
def boundProofsSpec : ChangeSpec := { name := "boundProofs", fn := fun _ => fun
  | [d1, d2, d3] => { results := [.lit (.bool true)], args := [d1, d2, d3] }
  | _ => none }
def boundProofsRow : OpenClaim := { program := "ytiiokdeehlfeeaa", sum := "cc42b926fd0fbcb801f93523a775edf1976070c9c1438024b05ba4cc17cfa500", func := "moorsom/moorsomlaw02.BoundProofs", spec := "boundProofs", unfollowed := true, recurses := true, apart := false }
def BoundProofsSaid : Prop := boundProofsRow.holds Try.pinned (OpenSpec.ofChange boundProofsSpec)

/-- ITS FALSE NEIGHBOUR: 'it returns false'. Refute it at one input. -/
def boundProofsWrong : ChangeSpec := { name := "boundProofs", fn := fun _ => fun
  | [d1, d2, d3] => { results := [.lit (.bool false)], args := [d1, d2, d3] }
  | _ => none }
def BoundProofsWrongFalsely : Prop := boundProofsRow.holds Try.pinned (OpenSpec.ofChange boundProofsWrong)

/-- 'moorsomlaw02.BoundTaken': WHATEVER THE INPUT: true; the input reads as it did. -/
def boundTakenSpec : ChangeSpec := { name := "boundTaken", fn := fun _ => fun
  | [d1, d2, d3] => { results := [.lit (.bool true)], args := [d1, d2, d3] }
  | _ => none }
def boundTakenRow : OpenClaim := { program := "ytiiokdeehlfeeaa", sum := "cc42b926fd0fbcb801f93523a775edf1976070c9c1438024b05ba4cc17cfa500", func := "moorsom/moorsomlaw02.BoundTaken", spec := "boundTaken", unfollowed := true, recurses := true, apart := false }
def BoundTakenSaid : Prop := boundTakenRow.holds Try.pinned (OpenSpec.ofChange boundTakenSpec)

/-- ITS FALSE NEIGHBOUR: 'it returns false'. Refute it at one input. -/
def boundTakenWrong : ChangeSpec := { name := "boundTaken", fn := fun _ => fun
  | [d1, d2, d3] => { results := [.lit (.bool false)], args := [d1, d2, d3] }
  | _ => none }
def BoundTakenWrongFalsely : Prop := boundTakenRow.holds Try.pinned (OpenSpec.ofChange boundTakenWrong)

/-- 'moorsomlaw02.BoundGreatest': WHATEVER THE INPUT: true; the input reads as it did. -/
def boundGreatestSpec : ChangeSpec := { name := "boundGreatest", fn := fun _ => fun
  | [d1, d2, d3] => { results := [.lit (.bool true)], args := [d1, d2, d3] }
  | _ => none }
def boundGreatestRow : OpenClaim := { program := "ytiiokdeehlfeeaa", sum := "cc42b926fd0fbcb801f93523a775edf1976070c9c1438024b05ba4cc17cfa500", func := "moorsom/moorsomlaw02.BoundGreatest", spec := "boundGreatest", unfollowed := true, recurses := true, apart := false }
def BoundGreatestSaid : Prop := boundGreatestRow.holds Try.pinned (OpenSpec.ofChange boundGreatestSpec)

/-- ITS FALSE NEIGHBOUR: 'it returns false'. Refute it at one input. -/
def boundGreatestWrong : ChangeSpec := { name := "boundGreatest", fn := fun _ => fun
  | [d1, d2, d3] => { results := [.lit (.bool false)], args := [d1, d2, d3] }
  | _ => none }
def BoundGreatestWrongFalsely : Prop := boundGreatestRow.holds Try.pinned (OpenSpec.ofChange boundGreatestWrong)

/- THE SECOND FORM. 'bulk': how many values and letters a reading holds, each counted each time it is reached (what is shared counts as often as it is met; a slice's spare places count too). A statement '..UptoSaid' is the law's where the arguments, and the package variables that the reading takes, are together of bulk at most 1048576: NARROWER than '..Said'. Prove '..Said' where nothing that the law and all that it calls make is longer than what came in: it says more and counts as full. Else prove '..UptoSaid'. A law counts once. -/
mutual
def uptoBulk {H : Type} : DataW H → Nat
  | .lit (.string bytes) => bytes.length + 1
  | .lit _ => 1
  | .nil => 1
  | .ptr d => uptoBulk d + 1
  | .slice elems spare => uptoBulkAll elems + uptoBulkAll spare + 1
  | .agg parts => uptoBulkAll parts + 1
  | .iface _ d => uptoBulk d + 1
  | .map entries => uptoBulkEntries entries + 1
  | .held _ => 1
def uptoBulkAll {H : Type} : List (DataW H) → Nat
  | [] => 0
  | d :: r => uptoBulk d + uptoBulkAll r
def uptoBulkEntries {H : Type} : List (Lit × DataW H) → Nat
  | [] => 0
  | x :: r => uptoBulkEntry x + uptoBulkEntries r
def uptoBulkEntry {H : Type} : Lit × DataW H → Nat
  | (.string bytes, d) => bytes.length + uptoBulk d + 1
  | (_, d) => uptoBulk d + 1
 end
def uptoSmall : (H : Type) → List (DataW H) → Bool := fun _ ds => decide (uptoBulkAll ds ≤ 1048576)
def OpenSpec.upto (s : _root_.Go.ChangeSpec) : _root_.Go.OpenSpec := { _root_.Go.OpenSpec.ofChange s with cond := some uptoSmall }

/-- 'moorsomlaw09.ProbeMore', WHERE WHAT IT READS IS OF BULK AT MOST 1048576: true; the input reads as it did. -/
def probeMoreUptoRow : OpenClaim := { program := "ytiiokdeehlfeeaa", sum := "cc42b926fd0fbcb801f93523a775edf1976070c9c1438024b05ba4cc17cfa500", func := "moorsom/moorsomlaw09.ProbeMore", spec := "probeMore", unfollowed := true, recurses := true, apart := false, narrowed := true }
def ProbeMoreUptoSaid : Prop := probeMoreUptoRow.holds Try.pinned (OpenSpec.upto probeMoreSpec)

/-- 'moorsomlaw09.ProbePairs', WHERE WHAT IT READS IS OF BULK AT MOST 1048576: true; the input reads as it did. -/
def probePairsUptoRow : OpenClaim := { program := "ytiiokdeehlfeeaa", sum := "cc42b926fd0fbcb801f93523a775edf1976070c9c1438024b05ba4cc17cfa500", func := "moorsom/moorsomlaw09.ProbePairs", spec := "probePairs", unfollowed := true, recurses := true, apart := false, narrowed := true }
def ProbePairsUptoSaid : Prop := probePairsUptoRow.holds Try.pinned (OpenSpec.upto probePairsSpec)

/-- 'moorsomlaw09.ProbeAsks', WHERE WHAT IT READS IS OF BULK AT MOST 1048576: true; the input reads as it did. -/
def probeAsksUptoRow : OpenClaim := { program := "ytiiokdeehlfeeaa", sum := "cc42b926fd0fbcb801f93523a775edf1976070c9c1438024b05ba4cc17cfa500", func := "moorsom/moorsomlaw09.ProbeAsks", spec := "probeAsks", unfollowed := true, recurses := true, apart := false, narrowed := true }
def ProbeAsksUptoSaid : Prop := probeAsksUptoRow.holds Try.pinned (OpenSpec.upto probeAsksSpec)

/-- 'moorsomlaw09.ProbeWorsts', WHERE WHAT IT READS IS OF BULK AT MOST 1048576: true; the input reads as it did. -/
def probeWorstsUptoRow : OpenClaim := { program := "ytiiokdeehlfeeaa", sum := "cc42b926fd0fbcb801f93523a775edf1976070c9c1438024b05ba4cc17cfa500", func := "moorsom/moorsomlaw09.ProbeWorsts", spec := "probeWorsts", unfollowed := true, recurses := true, apart := false, narrowed := true }
def ProbeWorstsUptoSaid : Prop := probeWorstsUptoRow.holds Try.pinned (OpenSpec.upto probeWorstsSpec)

/-- 'moorsomlaw09.ProbeTurns', WHERE WHAT IT READS IS OF BULK AT MOST 1048576: true; the input reads as it did. -/
def probeTurnsUptoRow : OpenClaim := { program := "ytiiokdeehlfeeaa", sum := "cc42b926fd0fbcb801f93523a775edf1976070c9c1438024b05ba4cc17cfa500", func := "moorsom/moorsomlaw09.ProbeTurns", spec := "probeTurns", unfollowed := true, recurses := true, apart := false, narrowed := true }
def ProbeTurnsUptoSaid : Prop := probeTurnsUptoRow.holds Try.pinned (OpenSpec.upto probeTurnsSpec)

/-- 'moorsomlaw09.ProbeTrue', WHERE WHAT IT READS IS OF BULK AT MOST 1048576: true; the input reads as it did. -/
def probeTrueUptoRow : OpenClaim := { program := "ytiiokdeehlfeeaa", sum := "cc42b926fd0fbcb801f93523a775edf1976070c9c1438024b05ba4cc17cfa500", func := "moorsom/moorsomlaw09.ProbeTrue", spec := "probeTrue", unfollowed := true, recurses := true, apart := false, narrowed := true }
def ProbeTrueUptoSaid : Prop := probeTrueUptoRow.holds Try.pinned (OpenSpec.upto probeTrueSpec)

/-- 'moorsomlaw09.ProbeSides', WHERE WHAT IT READS IS OF BULK AT MOST 1048576: true; the input reads as it did. -/
def probeSidesUptoRow : OpenClaim := { program := "ytiiokdeehlfeeaa", sum := "cc42b926fd0fbcb801f93523a775edf1976070c9c1438024b05ba4cc17cfa500", func := "moorsom/moorsomlaw09.ProbeSides", spec := "probeSides", unfollowed := true, recurses := true, apart := false, narrowed := true }
def ProbeSidesUptoSaid : Prop := probeSidesUptoRow.holds Try.pinned (OpenSpec.upto probeSidesSpec)

/-- 'moorsomlaw02.BoundClosed', WHERE WHAT IT READS IS OF BULK AT MOST 1048576: true; the input reads as it did. -/
def boundClosedUptoRow : OpenClaim := { program := "ytiiokdeehlfeeaa", sum := "cc42b926fd0fbcb801f93523a775edf1976070c9c1438024b05ba4cc17cfa500", func := "moorsom/moorsomlaw02.BoundClosed", spec := "boundClosed", unfollowed := true, recurses := true, apart := false, narrowed := true }
def BoundClosedUptoSaid : Prop := boundClosedUptoRow.holds Try.pinned (OpenSpec.upto boundClosedSpec)

/-- 'moorsomlaw02.BoundOpens', WHERE WHAT IT READS IS OF BULK AT MOST 1048576: true; the input reads as it did. -/
def boundOpensUptoRow : OpenClaim := { program := "ytiiokdeehlfeeaa", sum := "cc42b926fd0fbcb801f93523a775edf1976070c9c1438024b05ba4cc17cfa500", func := "moorsom/moorsomlaw02.BoundOpens", spec := "boundOpens", unfollowed := true, recurses := true, apart := false, narrowed := true }
def BoundOpensUptoSaid : Prop := boundOpensUptoRow.holds Try.pinned (OpenSpec.upto boundOpensSpec)

/-- 'moorsomlaw02.BoundEnds', WHERE WHAT IT READS IS OF BULK AT MOST 1048576: true; the input reads as it did. -/
def boundEndsUptoRow : OpenClaim := { program := "ytiiokdeehlfeeaa", sum := "cc42b926fd0fbcb801f93523a775edf1976070c9c1438024b05ba4cc17cfa500", func := "moorsom/moorsomlaw02.BoundEnds", spec := "boundEnds", unfollowed := true, recurses := true, apart := false, narrowed := true }
def BoundEndsUptoSaid : Prop := boundEndsUptoRow.holds Try.pinned (OpenSpec.upto boundEndsSpec)

/-- 'moorsomlaw02.BoundConflicts', WHERE WHAT IT READS IS OF BULK AT MOST 1048576: true; the input reads as it did. -/
def boundConflictsUptoRow : OpenClaim := { program := "ytiiokdeehlfeeaa", sum := "cc42b926fd0fbcb801f93523a775edf1976070c9c1438024b05ba4cc17cfa500", func := "moorsom/moorsomlaw02.BoundConflicts", spec := "boundConflicts", unfollowed := true, recurses := true, apart := false, narrowed := true }
def BoundConflictsUptoSaid : Prop := boundConflictsUptoRow.holds Try.pinned (OpenSpec.upto boundConflictsSpec)

/-- 'moorsomlaw02.BoundChecks', WHERE WHAT IT READS IS OF BULK AT MOST 1048576: true; the input reads as it did. -/
def boundChecksUptoRow : OpenClaim := { program := "ytiiokdeehlfeeaa", sum := "cc42b926fd0fbcb801f93523a775edf1976070c9c1438024b05ba4cc17cfa500", func := "moorsom/moorsomlaw02.BoundChecks", spec := "boundChecks", unfollowed := true, recurses := true, apart := false, narrowed := true }
def BoundChecksUptoSaid : Prop := boundChecksUptoRow.holds Try.pinned (OpenSpec.upto boundChecksSpec)

/-- 'moorsomlaw02.BoundWhole', WHERE WHAT IT READS IS OF BULK AT MOST 1048576: true; the input reads as it did. -/
def boundWholeUptoRow : OpenClaim := { program := "ytiiokdeehlfeeaa", sum := "cc42b926fd0fbcb801f93523a775edf1976070c9c1438024b05ba4cc17cfa500", func := "moorsom/moorsomlaw02.BoundWhole", spec := "boundWhole", unfollowed := true, recurses := true, apart := false, narrowed := true }
def BoundWholeUptoSaid : Prop := boundWholeUptoRow.holds Try.pinned (OpenSpec.upto boundWholeSpec)

/-- 'moorsomlaw02.BoundIdle', WHERE WHAT IT READS IS OF BULK AT MOST 1048576: true; the input reads as it did. -/
def boundIdleUptoRow : OpenClaim := { program := "ytiiokdeehlfeeaa", sum := "cc42b926fd0fbcb801f93523a775edf1976070c9c1438024b05ba4cc17cfa500", func := "moorsom/moorsomlaw02.BoundIdle", spec := "boundIdle", unfollowed := true, recurses := true, apart := false, narrowed := true }
def BoundIdleUptoSaid : Prop := boundIdleUptoRow.holds Try.pinned (OpenSpec.upto boundIdleSpec)

/-- 'moorsomlaw02.BoundCloses', WHERE WHAT IT READS IS OF BULK AT MOST 1048576: true; the input reads as it did. -/
def boundClosesUptoRow : OpenClaim := { program := "ytiiokdeehlfeeaa", sum := "cc42b926fd0fbcb801f93523a775edf1976070c9c1438024b05ba4cc17cfa500", func := "moorsom/moorsomlaw02.BoundCloses", spec := "boundCloses", unfollowed := true, recurses := true, apart := false, narrowed := true }
def BoundClosesUptoSaid : Prop := boundClosesUptoRow.holds Try.pinned (OpenSpec.upto boundClosesSpec)

/-- 'moorsomlaw02.BoundEither', WHERE WHAT IT READS IS OF BULK AT MOST 1048576: true; the input reads as it did. -/
def boundEitherUptoRow : OpenClaim := { program := "ytiiokdeehlfeeaa", sum := "cc42b926fd0fbcb801f93523a775edf1976070c9c1438024b05ba4cc17cfa500", func := "moorsom/moorsomlaw02.BoundEither", spec := "boundEither", unfollowed := true, recurses := true, apart := false, narrowed := true }
def BoundEitherUptoSaid : Prop := boundEitherUptoRow.holds Try.pinned (OpenSpec.upto boundEitherSpec)

/-- 'moorsomlaw02.BoundProofs', WHERE WHAT IT READS IS OF BULK AT MOST 1048576: true; the input reads as it did. -/
def boundProofsUptoRow : OpenClaim := { program := "ytiiokdeehlfeeaa", sum := "cc42b926fd0fbcb801f93523a775edf1976070c9c1438024b05ba4cc17cfa500", func := "moorsom/moorsomlaw02.BoundProofs", spec := "boundProofs", unfollowed := true, recurses := true, apart := false, narrowed := true }
def BoundProofsUptoSaid : Prop := boundProofsUptoRow.holds Try.pinned (OpenSpec.upto boundProofsSpec)

/-- 'moorsomlaw02.BoundTaken', WHERE WHAT IT READS IS OF BULK AT MOST 1048576: true; the input reads as it did. -/
def boundTakenUptoRow : OpenClaim := { program := "ytiiokdeehlfeeaa", sum := "cc42b926fd0fbcb801f93523a775edf1976070c9c1438024b05ba4cc17cfa500", func := "moorsom/moorsomlaw02.BoundTaken", spec := "boundTaken", unfollowed := true, recurses := true, apart := false, narrowed := true }
def BoundTakenUptoSaid : Prop := boundTakenUptoRow.holds Try.pinned (OpenSpec.upto boundTakenSpec)

/-- 'moorsomlaw02.BoundGreatest', WHERE WHAT IT READS IS OF BULK AT MOST 1048576: true; the input reads as it did. -/
def boundGreatestUptoRow : OpenClaim := { program := "ytiiokdeehlfeeaa", sum := "cc42b926fd0fbcb801f93523a775edf1976070c9c1438024b05ba4cc17cfa500", func := "moorsom/moorsomlaw02.BoundGreatest", spec := "boundGreatest", unfollowed := true, recurses := true, apart := false, narrowed := true }
def BoundGreatestUptoSaid : Prop := boundGreatestUptoRow.holds Try.pinned (OpenSpec.upto boundGreatestSpec)

end Rows
end Go.Proofs.Ytiiokdeehlfeeaa
