/-
  No cell of these rows narrows 'for every input' (looked for: loops, veiled, ifaces, maps, wideKeys, modest, calm, conditions, laid).
  DERIVED. THE GIVEN ROWS OF THIS SEAT. 15 by the template 'for every input the law returns true; each argument reads behind the call as it read before'; 0 by the template 'total and deterministic' (their statements: YteajddicacjkhaaGreatTotals.lean).
  GIVEN WITH THE SEED: the statements are not yours to turn. If you find one false, say at which input.
  Laid BY PROGRAM, IN A SANDBOX (cutbox-rows.mjs): the forced cells as the released guide's own fill.sh prints them over the translation 2a0a8eb54ff2d12f… (all of the seat's roots in one cut). By AI agents, Wed Nov 11 2026. No macro, syntax, notation, axiom, sorry.
-/
import Derived.Test.YteajddicacjkhaaGreatChecked
import GoSem.Claim
import GoSem.ClaimJoined
import GoSem.ClaimMapViews
import Derived.JoinedTies
import Derived.KernelRfl
namespace Go.Proofs.YteajddicacjkhaaGreat
/- THE CELL 'sum', in the pinned program and in every row, IS THE sha256 OF THE DUMP (.gsa) THAT YteajddicacjkhaaGreatProg.lean LOADS. Nothing in Lean hashes anything: it is a label: what it is worth is what the hold of that sum in a sandbox is worth. -/
noncomputable def Tryz.pinned : Pinned := { name := "yteajddicacjkhaagreat", sum := "2a0a8eb54ff2d12f9585a2275e89a6ffba0e4f952cc43df0878d18c41a9d8f11", checked := Tryz.checked }
namespace Rows
def none {H : Type} : Left H := { results := [], args := [] }

/-- 'moorsomlaw06.MarkChecks': WHATEVER THE INPUT: true; the input reads as it did. -/
def markChecksSpec : ChangeSpec := { name := "markChecks", fn := fun _ => fun
  | [d1, d2] => { results := [.lit (.bool true)], args := [d1, d2] }
  | _ => none }
def markChecksRow : OpenClaim := { program := "yteajddicacjkhaagreat", sum := "2a0a8eb54ff2d12f9585a2275e89a6ffba0e4f952cc43df0878d18c41a9d8f11", func := "moorsom/moorsomlaw06.MarkChecks", spec := "markChecks", unfollowed := true, recurses := true, apart := false }
def MarkChecksSaid : Prop := markChecksRow.holds Tryz.pinned (OpenSpec.ofChange markChecksSpec)

/-- ITS FALSE NEIGHBOUR: 'it returns false'. Refute it at one input. -/
def markChecksWrong : ChangeSpec := { name := "markChecks", fn := fun _ => fun
  | [d1, d2] => { results := [.lit (.bool false)], args := [d1, d2] }
  | _ => none }
def MarkChecksWrongFalsely : Prop := markChecksRow.holds Tryz.pinned (OpenSpec.ofChange markChecksWrong)

/-- 'moorsomlaw06.MarkAnswers': WHATEVER THE INPUT: true; the input reads as it did. -/
def markAnswersSpec : ChangeSpec := { name := "markAnswers", fn := fun _ => fun
  | [d] => { results := [.lit (.bool true)], args := [d] }
  | _ => none }
def markAnswersRow : OpenClaim := { program := "yteajddicacjkhaagreat", sum := "2a0a8eb54ff2d12f9585a2275e89a6ffba0e4f952cc43df0878d18c41a9d8f11", func := "moorsom/moorsomlaw06.MarkAnswers", spec := "markAnswers", unfollowed := true, recurses := true, apart := false }
def MarkAnswersSaid : Prop := markAnswersRow.holds Tryz.pinned (OpenSpec.ofChange markAnswersSpec)

/-- ITS FALSE NEIGHBOUR: 'it returns false'. Refute it at one input. -/
def markAnswersWrong : ChangeSpec := { name := "markAnswers", fn := fun _ => fun
  | [d] => { results := [.lit (.bool false)], args := [d] }
  | _ => none }
def MarkAnswersWrongFalsely : Prop := markAnswersRow.holds Tryz.pinned (OpenSpec.ofChange markAnswersWrong)

/-- 'moorsomlaw06.MarkWitnesses': WHATEVER THE INPUT: true; the input reads as it did. -/
def markWitnessesSpec : ChangeSpec := { name := "markWitnesses", fn := fun _ => fun
  | [d1, d2] => { results := [.lit (.bool true)], args := [d1, d2] }
  | _ => none }
def markWitnessesRow : OpenClaim := { program := "yteajddicacjkhaagreat", sum := "2a0a8eb54ff2d12f9585a2275e89a6ffba0e4f952cc43df0878d18c41a9d8f11", func := "moorsom/moorsomlaw06.MarkWitnesses", spec := "markWitnesses", unfollowed := true, recurses := true, apart := false }
def MarkWitnessesSaid : Prop := markWitnessesRow.holds Tryz.pinned (OpenSpec.ofChange markWitnessesSpec)

/-- ITS FALSE NEIGHBOUR: 'it returns false'. Refute it at one input. -/
def markWitnessesWrong : ChangeSpec := { name := "markWitnesses", fn := fun _ => fun
  | [d1, d2] => { results := [.lit (.bool false)], args := [d1, d2] }
  | _ => none }
def MarkWitnessesWrongFalsely : Prop := markWitnessesRow.holds Tryz.pinned (OpenSpec.ofChange markWitnessesWrong)

/-- 'moorsomlaw06.MarkSure': WHATEVER THE INPUT: true; the input reads as it did. -/
def markSureSpec : ChangeSpec := { name := "markSure", fn := fun _ => fun
  | [d1, d2] => { results := [.lit (.bool true)], args := [d1, d2] }
  | _ => none }
def markSureRow : OpenClaim := { program := "yteajddicacjkhaagreat", sum := "2a0a8eb54ff2d12f9585a2275e89a6ffba0e4f952cc43df0878d18c41a9d8f11", func := "moorsom/moorsomlaw06.MarkSure", spec := "markSure", unfollowed := true, recurses := true, apart := false }
def MarkSureSaid : Prop := markSureRow.holds Tryz.pinned (OpenSpec.ofChange markSureSpec)

/-- ITS FALSE NEIGHBOUR: 'it returns false'. Refute it at one input. -/
def markSureWrong : ChangeSpec := { name := "markSure", fn := fun _ => fun
  | [d1, d2] => { results := [.lit (.bool false)], args := [d1, d2] }
  | _ => none }
def MarkSureWrongFalsely : Prop := markSureRow.holds Tryz.pinned (OpenSpec.ofChange markSureWrong)

/-- 'moorsomlaw06.MarkHeights': WHATEVER THE INPUT: true; the input reads as it did. -/
def markHeightsSpec : ChangeSpec := { name := "markHeights", fn := fun _ => fun
  | [d1, d2] => { results := [.lit (.bool true)], args := [d1, d2] }
  | _ => none }
def markHeightsRow : OpenClaim := { program := "yteajddicacjkhaagreat", sum := "2a0a8eb54ff2d12f9585a2275e89a6ffba0e4f952cc43df0878d18c41a9d8f11", func := "moorsom/moorsomlaw06.MarkHeights", spec := "markHeights", unfollowed := true, recurses := true, apart := false }
def MarkHeightsSaid : Prop := markHeightsRow.holds Tryz.pinned (OpenSpec.ofChange markHeightsSpec)

/-- ITS FALSE NEIGHBOUR: 'it returns false'. Refute it at one input. -/
def markHeightsWrong : ChangeSpec := { name := "markHeights", fn := fun _ => fun
  | [d1, d2] => { results := [.lit (.bool false)], args := [d1, d2] }
  | _ => none }
def MarkHeightsWrongFalsely : Prop := markHeightsRow.holds Tryz.pinned (OpenSpec.ofChange markHeightsWrong)

/-- 'moorsomlaw06.MarkMasses': WHATEVER THE INPUT: true; the input reads as it did. -/
def markMassesSpec : ChangeSpec := { name := "markMasses", fn := fun _ => fun
  | [d1, d2] => { results := [.lit (.bool true)], args := [d1, d2] }
  | _ => none }
def markMassesRow : OpenClaim := { program := "yteajddicacjkhaagreat", sum := "2a0a8eb54ff2d12f9585a2275e89a6ffba0e4f952cc43df0878d18c41a9d8f11", func := "moorsom/moorsomlaw06.MarkMasses", spec := "markMasses", unfollowed := true, recurses := true, apart := false }
def MarkMassesSaid : Prop := markMassesRow.holds Tryz.pinned (OpenSpec.ofChange markMassesSpec)

/-- ITS FALSE NEIGHBOUR: 'it returns false'. Refute it at one input. -/
def markMassesWrong : ChangeSpec := { name := "markMasses", fn := fun _ => fun
  | [d1, d2] => { results := [.lit (.bool false)], args := [d1, d2] }
  | _ => none }
def MarkMassesWrongFalsely : Prop := markMassesRow.holds Tryz.pinned (OpenSpec.ofChange markMassesWrong)

/-- 'moorsomlaw06.MarkMarks': WHATEVER THE INPUT: true; the input reads as it did. -/
def markMarksSpec : ChangeSpec := { name := "markMarks", fn := fun _ => fun
  | [d1, d2] => { results := [.lit (.bool true)], args := [d1, d2] }
  | _ => none }
def markMarksRow : OpenClaim := { program := "yteajddicacjkhaagreat", sum := "2a0a8eb54ff2d12f9585a2275e89a6ffba0e4f952cc43df0878d18c41a9d8f11", func := "moorsom/moorsomlaw06.MarkMarks", spec := "markMarks", unfollowed := true, recurses := true, apart := false }
def MarkMarksSaid : Prop := markMarksRow.holds Tryz.pinned (OpenSpec.ofChange markMarksSpec)

/-- ITS FALSE NEIGHBOUR: 'it returns false'. Refute it at one input. -/
def markMarksWrong : ChangeSpec := { name := "markMarks", fn := fun _ => fun
  | [d1, d2] => { results := [.lit (.bool false)], args := [d1, d2] }
  | _ => none }
def MarkMarksWrongFalsely : Prop := markMarksRow.holds Tryz.pinned (OpenSpec.ofChange markMarksWrong)

/-- 'moorsomlaw06.MarkDraughts': WHATEVER THE INPUT: true; the input reads as it did. -/
def markDraughtsSpec : ChangeSpec := { name := "markDraughts", fn := fun _ => fun
  | [d1, d2, d3] => { results := [.lit (.bool true)], args := [d1, d2, d3] }
  | _ => none }
def markDraughtsRow : OpenClaim := { program := "yteajddicacjkhaagreat", sum := "2a0a8eb54ff2d12f9585a2275e89a6ffba0e4f952cc43df0878d18c41a9d8f11", func := "moorsom/moorsomlaw06.MarkDraughts", spec := "markDraughts", unfollowed := true, recurses := true, apart := false }
def MarkDraughtsSaid : Prop := markDraughtsRow.holds Tryz.pinned (OpenSpec.ofChange markDraughtsSpec)

/-- ITS FALSE NEIGHBOUR: 'it returns false'. Refute it at one input. -/
def markDraughtsWrong : ChangeSpec := { name := "markDraughts", fn := fun _ => fun
  | [d1, d2, d3] => { results := [.lit (.bool false)], args := [d1, d2, d3] }
  | _ => none }
def MarkDraughtsWrongFalsely : Prop := markDraughtsRow.holds Tryz.pinned (OpenSpec.ofChange markDraughtsWrong)

/-- 'moorsomlaw06.MarkNarrows': WHATEVER THE INPUT: true; the input reads as it did. -/
def markNarrowsSpec : ChangeSpec := { name := "markNarrows", fn := fun _ => fun
  | [d1, d2, d3] => { results := [.lit (.bool true)], args := [d1, d2, d3] }
  | _ => none }
def markNarrowsRow : OpenClaim := { program := "yteajddicacjkhaagreat", sum := "2a0a8eb54ff2d12f9585a2275e89a6ffba0e4f952cc43df0878d18c41a9d8f11", func := "moorsom/moorsomlaw06.MarkNarrows", spec := "markNarrows", unfollowed := true, recurses := true, apart := false }
def MarkNarrowsSaid : Prop := markNarrowsRow.holds Tryz.pinned (OpenSpec.ofChange markNarrowsSpec)

/-- ITS FALSE NEIGHBOUR: 'it returns false'. Refute it at one input. -/
def markNarrowsWrong : ChangeSpec := { name := "markNarrows", fn := fun _ => fun
  | [d1, d2, d3] => { results := [.lit (.bool false)], args := [d1, d2, d3] }
  | _ => none }
def MarkNarrowsWrongFalsely : Prop := markNarrowsRow.holds Tryz.pinned (OpenSpec.ofChange markNarrowsWrong)

/-- 'moorsomlaw06.MarkTables': WHATEVER THE INPUT: true; the input reads as it did. -/
def markTablesSpec : ChangeSpec := { name := "markTables", fn := fun _ => fun
  | [d1, d2] => { results := [.lit (.bool true)], args := [d1, d2] }
  | _ => none }
def markTablesRow : OpenClaim := { program := "yteajddicacjkhaagreat", sum := "2a0a8eb54ff2d12f9585a2275e89a6ffba0e4f952cc43df0878d18c41a9d8f11", func := "moorsom/moorsomlaw06.MarkTables", spec := "markTables", unfollowed := true, recurses := true, apart := false }
def MarkTablesSaid : Prop := markTablesRow.holds Tryz.pinned (OpenSpec.ofChange markTablesSpec)

/-- ITS FALSE NEIGHBOUR: 'it returns false'. Refute it at one input. -/
def markTablesWrong : ChangeSpec := { name := "markTables", fn := fun _ => fun
  | [d1, d2] => { results := [.lit (.bool false)], args := [d1, d2] }
  | _ => none }
def MarkTablesWrongFalsely : Prop := markTablesRow.holds Tryz.pinned (OpenSpec.ofChange markTablesWrong)

/-- 'moorsomlaw06.MarkSinks': WHATEVER THE INPUT: true; the input reads as it did. -/
def markSinksSpec : ChangeSpec := { name := "markSinks", fn := fun _ => fun
  | [d] => { results := [.lit (.bool true)], args := [d] }
  | _ => none }
def markSinksRow : OpenClaim := { program := "yteajddicacjkhaagreat", sum := "2a0a8eb54ff2d12f9585a2275e89a6ffba0e4f952cc43df0878d18c41a9d8f11", func := "moorsom/moorsomlaw06.MarkSinks", spec := "markSinks", unfollowed := true, recurses := true, apart := false }
def MarkSinksSaid : Prop := markSinksRow.holds Tryz.pinned (OpenSpec.ofChange markSinksSpec)

/-- ITS FALSE NEIGHBOUR: 'it returns false'. Refute it at one input. -/
def markSinksWrong : ChangeSpec := { name := "markSinks", fn := fun _ => fun
  | [d] => { results := [.lit (.bool false)], args := [d] }
  | _ => none }
def MarkSinksWrongFalsely : Prop := markSinksRow.holds Tryz.pinned (OpenSpec.ofChange markSinksWrong)

/-- 'moorsomlaw06.MarkSharp': WHATEVER THE INPUT: true; the input reads as it did. -/
def markSharpSpec : ChangeSpec := { name := "markSharp", fn := fun _ => fun
  | [d1, d2] => { results := [.lit (.bool true)], args := [d1, d2] }
  | _ => none }
def markSharpRow : OpenClaim := { program := "yteajddicacjkhaagreat", sum := "2a0a8eb54ff2d12f9585a2275e89a6ffba0e4f952cc43df0878d18c41a9d8f11", func := "moorsom/moorsomlaw06.MarkSharp", spec := "markSharp", unfollowed := true, recurses := true, apart := false }
def MarkSharpSaid : Prop := markSharpRow.holds Tryz.pinned (OpenSpec.ofChange markSharpSpec)

/-- ITS FALSE NEIGHBOUR: 'it returns false'. Refute it at one input. -/
def markSharpWrong : ChangeSpec := { name := "markSharp", fn := fun _ => fun
  | [d1, d2] => { results := [.lit (.bool false)], args := [d1, d2] }
  | _ => none }
def MarkSharpWrongFalsely : Prop := markSharpRow.holds Tryz.pinned (OpenSpec.ofChange markSharpWrong)

/-- 'moorsomlaw06.MarkKeeps': WHATEVER THE INPUT: true; the input reads as it did. -/
def markKeepsSpec : ChangeSpec := { name := "markKeeps", fn := fun _ => fun
  | [d1, d2] => { results := [.lit (.bool true)], args := [d1, d2] }
  | _ => none }
def markKeepsRow : OpenClaim := { program := "yteajddicacjkhaagreat", sum := "2a0a8eb54ff2d12f9585a2275e89a6ffba0e4f952cc43df0878d18c41a9d8f11", func := "moorsom/moorsomlaw06.MarkKeeps", spec := "markKeeps", unfollowed := true, recurses := true, apart := false }
def MarkKeepsSaid : Prop := markKeepsRow.holds Tryz.pinned (OpenSpec.ofChange markKeepsSpec)

/-- ITS FALSE NEIGHBOUR: 'it returns false'. Refute it at one input. -/
def markKeepsWrong : ChangeSpec := { name := "markKeeps", fn := fun _ => fun
  | [d1, d2] => { results := [.lit (.bool false)], args := [d1, d2] }
  | _ => none }
def MarkKeepsWrongFalsely : Prop := markKeepsRow.holds Tryz.pinned (OpenSpec.ofChange markKeepsWrong)

/-- 'moorsomlaw06.MarkProves': WHATEVER THE INPUT: true; the input reads as it did. -/
def markProvesSpec : ChangeSpec := { name := "markProves", fn := fun _ => fun
  | [d1, d2] => { results := [.lit (.bool true)], args := [d1, d2] }
  | _ => none }
def markProvesRow : OpenClaim := { program := "yteajddicacjkhaagreat", sum := "2a0a8eb54ff2d12f9585a2275e89a6ffba0e4f952cc43df0878d18c41a9d8f11", func := "moorsom/moorsomlaw06.MarkProves", spec := "markProves", unfollowed := true, recurses := true, apart := false }
def MarkProvesSaid : Prop := markProvesRow.holds Tryz.pinned (OpenSpec.ofChange markProvesSpec)

/-- ITS FALSE NEIGHBOUR: 'it returns false'. Refute it at one input. -/
def markProvesWrong : ChangeSpec := { name := "markProves", fn := fun _ => fun
  | [d1, d2] => { results := [.lit (.bool false)], args := [d1, d2] }
  | _ => none }
def MarkProvesWrongFalsely : Prop := markProvesRow.holds Tryz.pinned (OpenSpec.ofChange markProvesWrong)

/-- 'moorsomlaw06.MarkProofs': WHATEVER THE INPUT: true; the input reads as it did. -/
def markProofsSpec : ChangeSpec := { name := "markProofs", fn := fun _ => fun
  | [d1, d2] => { results := [.lit (.bool true)], args := [d1, d2] }
  | _ => none }
def markProofsRow : OpenClaim := { program := "yteajddicacjkhaagreat", sum := "2a0a8eb54ff2d12f9585a2275e89a6ffba0e4f952cc43df0878d18c41a9d8f11", func := "moorsom/moorsomlaw06.MarkProofs", spec := "markProofs", unfollowed := true, recurses := true, apart := false }
def MarkProofsSaid : Prop := markProofsRow.holds Tryz.pinned (OpenSpec.ofChange markProofsSpec)

/-- ITS FALSE NEIGHBOUR: 'it returns false'. Refute it at one input. -/
def markProofsWrong : ChangeSpec := { name := "markProofs", fn := fun _ => fun
  | [d1, d2] => { results := [.lit (.bool false)], args := [d1, d2] }
  | _ => none }
def MarkProofsWrongFalsely : Prop := markProofsRow.holds Tryz.pinned (OpenSpec.ofChange markProofsWrong)

/- THE SECOND FORM. 'bulk': how many values and letters a reading holds, each counted each time it is reached (what is shared counts as often as it is met; a slice's spare places count too). A statement '..UptoSaid' is the law's where the arguments, and the package variables that the reading takes, are together of bulk at most 1048576: NARROWER than '..Said'. Prove '..Said' where nothing that the law and all that it calls make is longer than what came in: it says more and counts as full. Else prove '..UptoSaid'. A law counts once. -/
mutual
def uptoBulk {H : Type} : DataW H → Nat
  | .lit (.string bytes) => bytes.length + 1
  | .lit _ => 1
  | .nil => 1
  | .ptr d => uptoBulk d + 1
  | .slice elems spare => uptoBulkAll elems + uptoBulkAll spare + 1
  | .agg parts => uptoBulkAll parts + 1
  | .iface _ d => uptoBulk d + 1
  | .map entries => uptoBulkEntries entries + 1
  | .held _ => 1
def uptoBulkAll {H : Type} : List (DataW H) → Nat
  | [] => 0
  | d :: r => uptoBulk d + uptoBulkAll r
def uptoBulkEntries {H : Type} : List (Lit × DataW H) → Nat
  | [] => 0
  | x :: r => uptoBulkEntry x + uptoBulkEntries r
def uptoBulkEntry {H : Type} : Lit × DataW H → Nat
  | (.string bytes, d) => bytes.length + uptoBulk d + 1
  | (_, d) => uptoBulk d + 1
 end
def uptoSmall : (H : Type) → List (DataW H) → Bool := fun _ ds => decide (uptoBulkAll ds ≤ 1048576)
def OpenSpec.upto (s : _root_.Go.ChangeSpec) : _root_.Go.OpenSpec := { _root_.Go.OpenSpec.ofChange s with cond := some uptoSmall }

/-- 'moorsomlaw06.MarkChecks', WHERE WHAT IT READS IS OF BULK AT MOST 1048576: true; the input reads as it did. -/
def markChecksUptoRow : OpenClaim := { program := "yteajddicacjkhaagreat", sum := "2a0a8eb54ff2d12f9585a2275e89a6ffba0e4f952cc43df0878d18c41a9d8f11", func := "moorsom/moorsomlaw06.MarkChecks", spec := "markChecks", unfollowed := true, recurses := true, apart := false, narrowed := true }
def MarkChecksUptoSaid : Prop := markChecksUptoRow.holds Tryz.pinned (OpenSpec.upto markChecksSpec)

/-- 'moorsomlaw06.MarkAnswers', WHERE WHAT IT READS IS OF BULK AT MOST 1048576: true; the input reads as it did. -/
def markAnswersUptoRow : OpenClaim := { program := "yteajddicacjkhaagreat", sum := "2a0a8eb54ff2d12f9585a2275e89a6ffba0e4f952cc43df0878d18c41a9d8f11", func := "moorsom/moorsomlaw06.MarkAnswers", spec := "markAnswers", unfollowed := true, recurses := true, apart := false, narrowed := true }
def MarkAnswersUptoSaid : Prop := markAnswersUptoRow.holds Tryz.pinned (OpenSpec.upto markAnswersSpec)

/-- 'moorsomlaw06.MarkWitnesses', WHERE WHAT IT READS IS OF BULK AT MOST 1048576: true; the input reads as it did. -/
def markWitnessesUptoRow : OpenClaim := { program := "yteajddicacjkhaagreat", sum := "2a0a8eb54ff2d12f9585a2275e89a6ffba0e4f952cc43df0878d18c41a9d8f11", func := "moorsom/moorsomlaw06.MarkWitnesses", spec := "markWitnesses", unfollowed := true, recurses := true, apart := false, narrowed := true }
def MarkWitnessesUptoSaid : Prop := markWitnessesUptoRow.holds Tryz.pinned (OpenSpec.upto markWitnessesSpec)

/-- 'moorsomlaw06.MarkSure', WHERE WHAT IT READS IS OF BULK AT MOST 1048576: true; the input reads as it did. -/
def markSureUptoRow : OpenClaim := { program := "yteajddicacjkhaagreat", sum := "2a0a8eb54ff2d12f9585a2275e89a6ffba0e4f952cc43df0878d18c41a9d8f11", func := "moorsom/moorsomlaw06.MarkSure", spec := "markSure", unfollowed := true, recurses := true, apart := false, narrowed := true }
def MarkSureUptoSaid : Prop := markSureUptoRow.holds Tryz.pinned (OpenSpec.upto markSureSpec)

/-- 'moorsomlaw06.MarkHeights', WHERE WHAT IT READS IS OF BULK AT MOST 1048576: true; the input reads as it did. -/
def markHeightsUptoRow : OpenClaim := { program := "yteajddicacjkhaagreat", sum := "2a0a8eb54ff2d12f9585a2275e89a6ffba0e4f952cc43df0878d18c41a9d8f11", func := "moorsom/moorsomlaw06.MarkHeights", spec := "markHeights", unfollowed := true, recurses := true, apart := false, narrowed := true }
def MarkHeightsUptoSaid : Prop := markHeightsUptoRow.holds Tryz.pinned (OpenSpec.upto markHeightsSpec)

/-- 'moorsomlaw06.MarkMasses', WHERE WHAT IT READS IS OF BULK AT MOST 1048576: true; the input reads as it did. -/
def markMassesUptoRow : OpenClaim := { program := "yteajddicacjkhaagreat", sum := "2a0a8eb54ff2d12f9585a2275e89a6ffba0e4f952cc43df0878d18c41a9d8f11", func := "moorsom/moorsomlaw06.MarkMasses", spec := "markMasses", unfollowed := true, recurses := true, apart := false, narrowed := true }
def MarkMassesUptoSaid : Prop := markMassesUptoRow.holds Tryz.pinned (OpenSpec.upto markMassesSpec)

/-- 'moorsomlaw06.MarkMarks', WHERE WHAT IT READS IS OF BULK AT MOST 1048576: true; the input reads as it did. -/
def markMarksUptoRow : OpenClaim := { program := "yteajddicacjkhaagreat", sum := "2a0a8eb54ff2d12f9585a2275e89a6ffba0e4f952cc43df0878d18c41a9d8f11", func := "moorsom/moorsomlaw06.MarkMarks", spec := "markMarks", unfollowed := true, recurses := true, apart := false, narrowed := true }
def MarkMarksUptoSaid : Prop := markMarksUptoRow.holds Tryz.pinned (OpenSpec.upto markMarksSpec)

/-- 'moorsomlaw06.MarkDraughts', WHERE WHAT IT READS IS OF BULK AT MOST 1048576: true; the input reads as it did. -/
def markDraughtsUptoRow : OpenClaim := { program := "yteajddicacjkhaagreat", sum := "2a0a8eb54ff2d12f9585a2275e89a6ffba0e4f952cc43df0878d18c41a9d8f11", func := "moorsom/moorsomlaw06.MarkDraughts", spec := "markDraughts", unfollowed := true, recurses := true, apart := false, narrowed := true }
def MarkDraughtsUptoSaid : Prop := markDraughtsUptoRow.holds Tryz.pinned (OpenSpec.upto markDraughtsSpec)

/-- 'moorsomlaw06.MarkNarrows', WHERE WHAT IT READS IS OF BULK AT MOST 1048576: true; the input reads as it did. -/
def markNarrowsUptoRow : OpenClaim := { program := "yteajddicacjkhaagreat", sum := "2a0a8eb54ff2d12f9585a2275e89a6ffba0e4f952cc43df0878d18c41a9d8f11", func := "moorsom/moorsomlaw06.MarkNarrows", spec := "markNarrows", unfollowed := true, recurses := true, apart := false, narrowed := true }
def MarkNarrowsUptoSaid : Prop := markNarrowsUptoRow.holds Tryz.pinned (OpenSpec.upto markNarrowsSpec)

/-- 'moorsomlaw06.MarkTables', WHERE WHAT IT READS IS OF BULK AT MOST 1048576: true; the input reads as it did. -/
def markTablesUptoRow : OpenClaim := { program := "yteajddicacjkhaagreat", sum := "2a0a8eb54ff2d12f9585a2275e89a6ffba0e4f952cc43df0878d18c41a9d8f11", func := "moorsom/moorsomlaw06.MarkTables", spec := "markTables", unfollowed := true, recurses := true, apart := false, narrowed := true }
def MarkTablesUptoSaid : Prop := markTablesUptoRow.holds Tryz.pinned (OpenSpec.upto markTablesSpec)

/-- 'moorsomlaw06.MarkSinks', WHERE WHAT IT READS IS OF BULK AT MOST 1048576: true; the input reads as it did. -/
def markSinksUptoRow : OpenClaim := { program := "yteajddicacjkhaagreat", sum := "2a0a8eb54ff2d12f9585a2275e89a6ffba0e4f952cc43df0878d18c41a9d8f11", func := "moorsom/moorsomlaw06.MarkSinks", spec := "markSinks", unfollowed := true, recurses := true, apart := false, narrowed := true }
def MarkSinksUptoSaid : Prop := markSinksUptoRow.holds Tryz.pinned (OpenSpec.upto markSinksSpec)

/-- 'moorsomlaw06.MarkSharp', WHERE WHAT IT READS IS OF BULK AT MOST 1048576: true; the input reads as it did. -/
def markSharpUptoRow : OpenClaim := { program := "yteajddicacjkhaagreat", sum := "2a0a8eb54ff2d12f9585a2275e89a6ffba0e4f952cc43df0878d18c41a9d8f11", func := "moorsom/moorsomlaw06.MarkSharp", spec := "markSharp", unfollowed := true, recurses := true, apart := false, narrowed := true }
def MarkSharpUptoSaid : Prop := markSharpUptoRow.holds Tryz.pinned (OpenSpec.upto markSharpSpec)

/-- 'moorsomlaw06.MarkKeeps', WHERE WHAT IT READS IS OF BULK AT MOST 1048576: true; the input reads as it did. -/
def markKeepsUptoRow : OpenClaim := { program := "yteajddicacjkhaagreat", sum := "2a0a8eb54ff2d12f9585a2275e89a6ffba0e4f952cc43df0878d18c41a9d8f11", func := "moorsom/moorsomlaw06.MarkKeeps", spec := "markKeeps", unfollowed := true, recurses := true, apart := false, narrowed := true }
def MarkKeepsUptoSaid : Prop := markKeepsUptoRow.holds Tryz.pinned (OpenSpec.upto markKeepsSpec)

/-- 'moorsomlaw06.MarkProves', WHERE WHAT IT READS IS OF BULK AT MOST 1048576: true; the input reads as it did. -/
def markProvesUptoRow : OpenClaim := { program := "yteajddicacjkhaagreat", sum := "2a0a8eb54ff2d12f9585a2275e89a6ffba0e4f952cc43df0878d18c41a9d8f11", func := "moorsom/moorsomlaw06.MarkProves", spec := "markProves", unfollowed := true, recurses := true, apart := false, narrowed := true }
def MarkProvesUptoSaid : Prop := markProvesUptoRow.holds Tryz.pinned (OpenSpec.upto markProvesSpec)

/-- 'moorsomlaw06.MarkProofs', WHERE WHAT IT READS IS OF BULK AT MOST 1048576: true; the input reads as it did. -/
def markProofsUptoRow : OpenClaim := { program := "yteajddicacjkhaagreat", sum := "2a0a8eb54ff2d12f9585a2275e89a6ffba0e4f952cc43df0878d18c41a9d8f11", func := "moorsom/moorsomlaw06.MarkProofs", spec := "markProofs", unfollowed := true, recurses := true, apart := false, narrowed := true }
def MarkProofsUptoSaid : Prop := markProofsUptoRow.holds Tryz.pinned (OpenSpec.upto markProofsSpec)

end Rows
end Go.Proofs.YteajddicacjkhaaGreat
