/-
  No cell of these rows narrows 'for every input' (looked for: loops, veiled, ifaces, maps, wideKeys, modest, calm, conditions, laid).
  DERIVED. THE GIVEN ROWS OF THIS SEAT. 7 by the template 'for every input the law returns true; each argument reads behind the call as it read before'; 0 by the template 'total and deterministic' (their statements: YtiiokdeehlfeeaaGreatTotals.lean).
  GIVEN WITH THE SEED: the statements are not yours to turn. If you find one false, say at which input.
  Laid BY PROGRAM, IN A SANDBOX (cutbox-rows.mjs): the forced cells as the released guide's own fill.sh prints them over the translation b1f8075dd0045b95… (all of the seat's roots in one cut). By AI agents, Wed Nov 11 2026. No macro, syntax, notation, axiom, sorry.
-/
import Derived.Test.YtiiokdeehlfeeaaGreatChecked
import GoSem.Claim
import GoSem.ClaimJoined
import GoSem.ClaimMapViews
import Derived.JoinedTies
import Derived.KernelRfl
namespace Go.Proofs.YtiiokdeehlfeeaaGreat
/- THE CELL 'sum', in the pinned program and in every row, IS THE sha256 OF THE DUMP (.gsa) THAT YtiiokdeehlfeeaaGreatProg.lean LOADS. Nothing in Lean hashes anything: it is a label: what it is worth is what the hold of that sum in a sandbox is worth. -/
noncomputable def Tryz.pinned : Pinned := { name := "ytiiokdeehlfeeaagreat", sum := "b1f8075dd0045b955f8bbcf6cd56b19ca577a5684f126f3bb0f7a37cde48cbe8", checked := Tryz.checked }
namespace Rows
def none {H : Type} : Left H := { results := [], args := [] }

/-- 'moorsomlaw09.ProbeChoices': WHATEVER THE INPUT: true; the input reads as it did. -/
def probeChoicesSpec : ChangeSpec := { name := "probeChoices", fn := fun _ => fun
  | [d1, d2, d3] => { results := [.lit (.bool true)], args := [d1, d2, d3] }
  | _ => none }
def probeChoicesRow : OpenClaim := { program := "ytiiokdeehlfeeaagreat", sum := "b1f8075dd0045b955f8bbcf6cd56b19ca577a5684f126f3bb0f7a37cde48cbe8", func := "moorsom/moorsomlaw09.ProbeChoices", spec := "probeChoices", unfollowed := true, recurses := true, apart := false }
def ProbeChoicesSaid : Prop := probeChoicesRow.holds Tryz.pinned (OpenSpec.ofChange probeChoicesSpec)

/-- ITS FALSE NEIGHBOUR: 'it returns false'. Refute it at one input. -/
def probeChoicesWrong : ChangeSpec := { name := "probeChoices", fn := fun _ => fun
  | [d1, d2, d3] => { results := [.lit (.bool false)], args := [d1, d2, d3] }
  | _ => none }
def ProbeChoicesWrongFalsely : Prop := probeChoicesRow.holds Tryz.pinned (OpenSpec.ofChange probeChoicesWrong)

/-- 'moorsomlaw09.ProbeTwins': WHATEVER THE INPUT: true; the input reads as it did. -/
def probeTwinsSpec : ChangeSpec := { name := "probeTwins", fn := fun _ => fun
  | [d1, d2, d3] => { results := [.lit (.bool true)], args := [d1, d2, d3] }
  | _ => none }
def probeTwinsRow : OpenClaim := { program := "ytiiokdeehlfeeaagreat", sum := "b1f8075dd0045b955f8bbcf6cd56b19ca577a5684f126f3bb0f7a37cde48cbe8", func := "moorsom/moorsomlaw09.ProbeTwins", spec := "probeTwins", unfollowed := true, recurses := true, apart := false }
def ProbeTwinsSaid : Prop := probeTwinsRow.holds Tryz.pinned (OpenSpec.ofChange probeTwinsSpec)

/-- ITS FALSE NEIGHBOUR: 'it returns false'. Refute it at one input. -/
def probeTwinsWrong : ChangeSpec := { name := "probeTwins", fn := fun _ => fun
  | [d1, d2, d3] => { results := [.lit (.bool false)], args := [d1, d2, d3] }
  | _ => none }
def ProbeTwinsWrongFalsely : Prop := probeTwinsRow.holds Tryz.pinned (OpenSpec.ofChange probeTwinsWrong)

/-- 'moorsomlaw09.ProbeValues': WHATEVER THE INPUT: true; the input reads as it did. -/
def probeValuesSpec : ChangeSpec := { name := "probeValues", fn := fun _ => fun
  | [d1, d2, d3] => { results := [.lit (.bool true)], args := [d1, d2, d3] }
  | _ => none }
def probeValuesRow : OpenClaim := { program := "ytiiokdeehlfeeaagreat", sum := "b1f8075dd0045b955f8bbcf6cd56b19ca577a5684f126f3bb0f7a37cde48cbe8", func := "moorsom/moorsomlaw09.ProbeValues", spec := "probeValues", unfollowed := true, recurses := true, apart := false }
def ProbeValuesSaid : Prop := probeValuesRow.holds Tryz.pinned (OpenSpec.ofChange probeValuesSpec)

/-- ITS FALSE NEIGHBOUR: 'it returns false'. Refute it at one input. -/
def probeValuesWrong : ChangeSpec := { name := "probeValues", fn := fun _ => fun
  | [d1, d2, d3] => { results := [.lit (.bool false)], args := [d1, d2, d3] }
  | _ => none }
def ProbeValuesWrongFalsely : Prop := probeValuesRow.holds Tryz.pinned (OpenSpec.ofChange probeValuesWrong)

/-- 'moorsomlaw09.ProbePicks': WHATEVER THE INPUT: true; the input reads as it did. -/
def probePicksSpec : ChangeSpec := { name := "probePicks", fn := fun _ => fun
  | [d1, d2, d3] => { results := [.lit (.bool true)], args := [d1, d2, d3] }
  | _ => none }
def probePicksRow : OpenClaim := { program := "ytiiokdeehlfeeaagreat", sum := "b1f8075dd0045b955f8bbcf6cd56b19ca577a5684f126f3bb0f7a37cde48cbe8", func := "moorsom/moorsomlaw09.ProbePicks", spec := "probePicks", unfollowed := true, recurses := true, apart := false }
def ProbePicksSaid : Prop := probePicksRow.holds Tryz.pinned (OpenSpec.ofChange probePicksSpec)

/-- ITS FALSE NEIGHBOUR: 'it returns false'. Refute it at one input. -/
def probePicksWrong : ChangeSpec := { name := "probePicks", fn := fun _ => fun
  | [d1, d2, d3] => { results := [.lit (.bool false)], args := [d1, d2, d3] }
  | _ => none }
def ProbePicksWrongFalsely : Prop := probePicksRow.holds Tryz.pinned (OpenSpec.ofChange probePicksWrong)

/-- 'moorsomlaw09.ProbeOutcomes': WHATEVER THE INPUT: true; the input reads as it did. -/
def probeOutcomesSpec : ChangeSpec := { name := "probeOutcomes", fn := fun _ => fun
  | [d1, d2, d3] => { results := [.lit (.bool true)], args := [d1, d2, d3] }
  | _ => none }
def probeOutcomesRow : OpenClaim := { program := "ytiiokdeehlfeeaagreat", sum := "b1f8075dd0045b955f8bbcf6cd56b19ca577a5684f126f3bb0f7a37cde48cbe8", func := "moorsom/moorsomlaw09.ProbeOutcomes", spec := "probeOutcomes", unfollowed := true, recurses := true, apart := false }
def ProbeOutcomesSaid : Prop := probeOutcomesRow.holds Tryz.pinned (OpenSpec.ofChange probeOutcomesSpec)

/-- ITS FALSE NEIGHBOUR: 'it returns false'. Refute it at one input. -/
def probeOutcomesWrong : ChangeSpec := { name := "probeOutcomes", fn := fun _ => fun
  | [d1, d2, d3] => { results := [.lit (.bool false)], args := [d1, d2, d3] }
  | _ => none }
def ProbeOutcomesWrongFalsely : Prop := probeOutcomesRow.holds Tryz.pinned (OpenSpec.ofChange probeOutcomesWrong)

/-- 'moorsomlaw09.ProbeSettles': WHATEVER THE INPUT: true; the input reads as it did. -/
def probeSettlesSpec : ChangeSpec := { name := "probeSettles", fn := fun _ => fun
  | [d1, d2, d3] => { results := [.lit (.bool true)], args := [d1, d2, d3] }
  | _ => none }
def probeSettlesRow : OpenClaim := { program := "ytiiokdeehlfeeaagreat", sum := "b1f8075dd0045b955f8bbcf6cd56b19ca577a5684f126f3bb0f7a37cde48cbe8", func := "moorsom/moorsomlaw09.ProbeSettles", spec := "probeSettles", unfollowed := true, recurses := true, apart := false }
def ProbeSettlesSaid : Prop := probeSettlesRow.holds Tryz.pinned (OpenSpec.ofChange probeSettlesSpec)

/-- ITS FALSE NEIGHBOUR: 'it returns false'. Refute it at one input. -/
def probeSettlesWrong : ChangeSpec := { name := "probeSettles", fn := fun _ => fun
  | [d1, d2, d3] => { results := [.lit (.bool false)], args := [d1, d2, d3] }
  | _ => none }
def ProbeSettlesWrongFalsely : Prop := probeSettlesRow.holds Tryz.pinned (OpenSpec.ofChange probeSettlesWrong)

/-- 'moorsomlaw02.BoundMoves': WHATEVER THE INPUT: true; the input reads as it did. -/
def boundMovesSpec : ChangeSpec := { name := "boundMoves", fn := fun _ => fun
  | [d1, d2, d3] => { results := [.lit (.bool true)], args := [d1, d2, d3] }
  | _ => none }
def boundMovesRow : OpenClaim := { program := "ytiiokdeehlfeeaagreat", sum := "b1f8075dd0045b955f8bbcf6cd56b19ca577a5684f126f3bb0f7a37cde48cbe8", func := "moorsom/moorsomlaw02.BoundMoves", spec := "boundMoves", unfollowed := true, recurses := true, apart := false }
def BoundMovesSaid : Prop := boundMovesRow.holds Tryz.pinned (OpenSpec.ofChange boundMovesSpec)

/-- ITS FALSE NEIGHBOUR: 'it returns false'. Refute it at one input. -/
def boundMovesWrong : ChangeSpec := { name := "boundMoves", fn := fun _ => fun
  | [d1, d2, d3] => { results := [.lit (.bool false)], args := [d1, d2, d3] }
  | _ => none }
def BoundMovesWrongFalsely : Prop := boundMovesRow.holds Tryz.pinned (OpenSpec.ofChange boundMovesWrong)

/- THE SECOND FORM. 'bulk': how many values and letters a reading holds, each counted each time it is reached (what is shared counts as often as it is met; a slice's spare places count too). A statement '..UptoSaid' is the law's where the arguments, and the package variables that the reading takes, are together of bulk at most 1048576: NARROWER than '..Said'. Prove '..Said' where nothing that the law and all that it calls make is longer than what came in: it says more and counts as full. Else prove '..UptoSaid'. A law counts once. -/
mutual
def uptoBulk {H : Type} : DataW H → Nat
  | .lit (.string bytes) => bytes.length + 1
  | .lit _ => 1
  | .nil => 1
  | .ptr d => uptoBulk d + 1
  | .slice elems spare => uptoBulkAll elems + uptoBulkAll spare + 1
  | .agg parts => uptoBulkAll parts + 1
  | .iface _ d => uptoBulk d + 1
  | .map entries => uptoBulkEntries entries + 1
  | .held _ => 1
def uptoBulkAll {H : Type} : List (DataW H) → Nat
  | [] => 0
  | d :: r => uptoBulk d + uptoBulkAll r
def uptoBulkEntries {H : Type} : List (Lit × DataW H) → Nat
  | [] => 0
  | x :: r => uptoBulkEntry x + uptoBulkEntries r
def uptoBulkEntry {H : Type} : Lit × DataW H → Nat
  | (.string bytes, d) => bytes.length + uptoBulk d + 1
  | (_, d) => uptoBulk d + 1
 end
def uptoSmall : (H : Type) → List (DataW H) → Bool := fun _ ds => decide (uptoBulkAll ds ≤ 1048576)
def OpenSpec.upto (s : _root_.Go.ChangeSpec) : _root_.Go.OpenSpec := { _root_.Go.OpenSpec.ofChange s with cond := some uptoSmall }

/-- 'moorsomlaw09.ProbeChoices', WHERE WHAT IT READS IS OF BULK AT MOST 1048576: true; the input reads as it did. -/
def probeChoicesUptoRow : OpenClaim := { program := "ytiiokdeehlfeeaagreat", sum := "b1f8075dd0045b955f8bbcf6cd56b19ca577a5684f126f3bb0f7a37cde48cbe8", func := "moorsom/moorsomlaw09.ProbeChoices", spec := "probeChoices", unfollowed := true, recurses := true, apart := false, narrowed := true }
def ProbeChoicesUptoSaid : Prop := probeChoicesUptoRow.holds Tryz.pinned (OpenSpec.upto probeChoicesSpec)

/-- 'moorsomlaw09.ProbeTwins', WHERE WHAT IT READS IS OF BULK AT MOST 1048576: true; the input reads as it did. -/
def probeTwinsUptoRow : OpenClaim := { program := "ytiiokdeehlfeeaagreat", sum := "b1f8075dd0045b955f8bbcf6cd56b19ca577a5684f126f3bb0f7a37cde48cbe8", func := "moorsom/moorsomlaw09.ProbeTwins", spec := "probeTwins", unfollowed := true, recurses := true, apart := false, narrowed := true }
def ProbeTwinsUptoSaid : Prop := probeTwinsUptoRow.holds Tryz.pinned (OpenSpec.upto probeTwinsSpec)

/-- 'moorsomlaw09.ProbeValues', WHERE WHAT IT READS IS OF BULK AT MOST 1048576: true; the input reads as it did. -/
def probeValuesUptoRow : OpenClaim := { program := "ytiiokdeehlfeeaagreat", sum := "b1f8075dd0045b955f8bbcf6cd56b19ca577a5684f126f3bb0f7a37cde48cbe8", func := "moorsom/moorsomlaw09.ProbeValues", spec := "probeValues", unfollowed := true, recurses := true, apart := false, narrowed := true }
def ProbeValuesUptoSaid : Prop := probeValuesUptoRow.holds Tryz.pinned (OpenSpec.upto probeValuesSpec)

/-- 'moorsomlaw09.ProbePicks', WHERE WHAT IT READS IS OF BULK AT MOST 1048576: true; the input reads as it did. -/
def probePicksUptoRow : OpenClaim := { program := "ytiiokdeehlfeeaagreat", sum := "b1f8075dd0045b955f8bbcf6cd56b19ca577a5684f126f3bb0f7a37cde48cbe8", func := "moorsom/moorsomlaw09.ProbePicks", spec := "probePicks", unfollowed := true, recurses := true, apart := false, narrowed := true }
def ProbePicksUptoSaid : Prop := probePicksUptoRow.holds Tryz.pinned (OpenSpec.upto probePicksSpec)

/-- 'moorsomlaw09.ProbeOutcomes', WHERE WHAT IT READS IS OF BULK AT MOST 1048576: true; the input reads as it did. -/
def probeOutcomesUptoRow : OpenClaim := { program := "ytiiokdeehlfeeaagreat", sum := "b1f8075dd0045b955f8bbcf6cd56b19ca577a5684f126f3bb0f7a37cde48cbe8", func := "moorsom/moorsomlaw09.ProbeOutcomes", spec := "probeOutcomes", unfollowed := true, recurses := true, apart := false, narrowed := true }
def ProbeOutcomesUptoSaid : Prop := probeOutcomesUptoRow.holds Tryz.pinned (OpenSpec.upto probeOutcomesSpec)

/-- 'moorsomlaw09.ProbeSettles', WHERE WHAT IT READS IS OF BULK AT MOST 1048576: true; the input reads as it did. -/
def probeSettlesUptoRow : OpenClaim := { program := "ytiiokdeehlfeeaagreat", sum := "b1f8075dd0045b955f8bbcf6cd56b19ca577a5684f126f3bb0f7a37cde48cbe8", func := "moorsom/moorsomlaw09.ProbeSettles", spec := "probeSettles", unfollowed := true, recurses := true, apart := false, narrowed := true }
def ProbeSettlesUptoSaid : Prop := probeSettlesUptoRow.holds Tryz.pinned (OpenSpec.upto probeSettlesSpec)

/-- 'moorsomlaw02.BoundMoves', WHERE WHAT IT READS IS OF BULK AT MOST 1048576: true; the input reads as it did. -/
def boundMovesUptoRow : OpenClaim := { program := "ytiiokdeehlfeeaagreat", sum := "b1f8075dd0045b955f8bbcf6cd56b19ca577a5684f126f3bb0f7a37cde48cbe8", func := "moorsom/moorsomlaw02.BoundMoves", spec := "boundMoves", unfollowed := true, recurses := true, apart := false, narrowed := true }
def BoundMovesUptoSaid : Prop := boundMovesUptoRow.holds Tryz.pinned (OpenSpec.upto boundMovesSpec)

end Rows
end Go.Proofs.YtiiokdeehlfeeaaGreat
