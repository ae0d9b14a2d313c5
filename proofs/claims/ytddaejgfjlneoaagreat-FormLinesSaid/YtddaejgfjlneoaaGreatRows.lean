/-
  No cell of these rows narrows 'for every input' (looked for: loops, veiled, ifaces, maps, wideKeys, modest, calm, conditions, laid).
  DERIVED. THE GIVEN ROWS OF THIS SEAT. 19 by the template 'for every input the law returns true; each argument reads behind the call as it read before'; 0 by the template 'total and deterministic' (their statements: YtddaejgfjlneoaaGreatTotals.lean).
  GIVEN WITH THE SEED: the statements are not yours to turn. If you find one false, say at which input.
  Laid BY PROGRAM, IN A SANDBOX (cutbox-rows.mjs): the forced cells as the released guide's own fill.sh prints them over the translation b08a0fba03887c0c… (all of the seat's roots in one cut). By AI agents, Wed Nov 11 2026. No macro, syntax, notation, axiom, sorry.
-/
import Derived.Test.YtddaejgfjlneoaaGreatChecked
import GoSem.Claim
import GoSem.ClaimJoined
import GoSem.ClaimMapViews
import Derived.JoinedTies
import Derived.KernelRfl
namespace Go.Proofs.YtddaejgfjlneoaaGreat
/- THE CELL 'sum', in the pinned program and in every row, IS THE sha256 OF THE DUMP (.gsa) THAT YtddaejgfjlneoaaGreatProg.lean LOADS. Nothing in Lean hashes anything: it is a label: what it is worth is what the hold of that sum in a sandbox is worth. -/
noncomputable def Tryz.pinned : Pinned := { name := "ytddaejgfjlneoaagreat", sum := "b08a0fba03887c0ce50a4efcf400386315d3aa24a824935e46ad28fdefb1b34e", checked := Tryz.checked }
namespace Rows
def none {H : Type} : Left H := { results := [], args := [] }

/-- 'moorsomlaw03.FormBounds': WHATEVER THE INPUT: true; the input reads as it did. -/
def formBoundsSpec : ChangeSpec := { name := "formBounds", fn := fun _ => fun
  | [d1, d2, d3] => { results := [.lit (.bool true)], args := [d1, d2, d3] }
  | _ => none }
def formBoundsRow : OpenClaim := { program := "ytddaejgfjlneoaagreat", sum := "b08a0fba03887c0ce50a4efcf400386315d3aa24a824935e46ad28fdefb1b34e", func := "moorsom/moorsomlaw03.FormBounds", spec := "formBounds", unfollowed := true, recurses := true, apart := false }
def FormBoundsSaid : Prop := formBoundsRow.holds Tryz.pinned (OpenSpec.ofChange formBoundsSpec)

/-- ITS FALSE NEIGHBOUR: 'it returns false'. Refute it at one input. -/
def formBoundsWrong : ChangeSpec := { name := "formBounds", fn := fun _ => fun
  | [d1, d2, d3] => { results := [.lit (.bool false)], args := [d1, d2, d3] }
  | _ => none }
def FormBoundsWrongFalsely : Prop := formBoundsRow.holds Tryz.pinned (OpenSpec.ofChange formBoundsWrong)

/-- 'moorsomlaw03.FormTapes': WHATEVER THE INPUT: true; the input reads as it did. -/
def formTapesSpec : ChangeSpec := { name := "formTapes", fn := fun _ => fun
  | [d1, d2, d3] => { results := [.lit (.bool true)], args := [d1, d2, d3] }
  | _ => none }
def formTapesRow : OpenClaim := { program := "ytddaejgfjlneoaagreat", sum := "b08a0fba03887c0ce50a4efcf400386315d3aa24a824935e46ad28fdefb1b34e", func := "moorsom/moorsomlaw03.FormTapes", spec := "formTapes", unfollowed := true, recurses := true, apart := false }
def FormTapesSaid : Prop := formTapesRow.holds Tryz.pinned (OpenSpec.ofChange formTapesSpec)

/-- ITS FALSE NEIGHBOUR: 'it returns false'. Refute it at one input. -/
def formTapesWrong : ChangeSpec := { name := "formTapes", fn := fun _ => fun
  | [d1, d2, d3] => { results := [.lit (.bool false)], args := [d1, d2, d3] }
  | _ => none }
def FormTapesWrongFalsely : Prop := formTapesRow.holds Tryz.pinned (OpenSpec.ofChange formTapesWrong)

/-- 'moorsomlaw03.FormClashes': WHATEVER THE INPUT: true; the input reads as it did. -/
def formClashesSpec : ChangeSpec := { name := "formClashes", fn := fun _ => fun
  | [d] => { results := [.lit (.bool true)], args := [d] }
  | _ => none }
def formClashesRow : OpenClaim := { program := "ytddaejgfjlneoaagreat", sum := "b08a0fba03887c0ce50a4efcf400386315d3aa24a824935e46ad28fdefb1b34e", func := "moorsom/moorsomlaw03.FormClashes", spec := "formClashes", unfollowed := true, recurses := true, apart := false }
def FormClashesSaid : Prop := formClashesRow.holds Tryz.pinned (OpenSpec.ofChange formClashesSpec)

/-- ITS FALSE NEIGHBOUR: 'it returns false'. Refute it at one input. -/
def formClashesWrong : ChangeSpec := { name := "formClashes", fn := fun _ => fun
  | [d] => { results := [.lit (.bool false)], args := [d] }
  | _ => none }
def FormClashesWrongFalsely : Prop := formClashesRow.holds Tryz.pinned (OpenSpec.ofChange formClashesWrong)

/-- 'moorsomlaw03.FormLines': WHATEVER THE INPUT: true; the input reads as it did. -/
def formLinesSpec : ChangeSpec := { name := "formLines", fn := fun _ => fun
  | [d1, d2, d3] => { results := [.lit (.bool true)], args := [d1, d2, d3] }
  | _ => none }
def formLinesRow : OpenClaim := { program := "ytddaejgfjlneoaagreat", sum := "b08a0fba03887c0ce50a4efcf400386315d3aa24a824935e46ad28fdefb1b34e", func := "moorsom/moorsomlaw03.FormLines", spec := "formLines", unfollowed := true, recurses := true, apart := false }
def FormLinesSaid : Prop := formLinesRow.holds Tryz.pinned (OpenSpec.ofChange formLinesSpec)

/-- ITS FALSE NEIGHBOUR: 'it returns false'. Refute it at one input. -/
def formLinesWrong : ChangeSpec := { name := "formLines", fn := fun _ => fun
  | [d1, d2, d3] => { results := [.lit (.bool false)], args := [d1, d2, d3] }
  | _ => none }
def FormLinesWrongFalsely : Prop := formLinesRow.holds Tryz.pinned (OpenSpec.ofChange formLinesWrong)

/-- 'moorsomlaw03.FormRaw': WHATEVER THE INPUT: true; the input reads as it did. -/
def formRawSpec : ChangeSpec := { name := "formRaw", fn := fun _ => fun
  | [d] => { results := [.lit (.bool true)], args := [d] }
  | _ => none }
def formRawRow : OpenClaim := { program := "ytddaejgfjlneoaagreat", sum := "b08a0fba03887c0ce50a4efcf400386315d3aa24a824935e46ad28fdefb1b34e", func := "moorsom/moorsomlaw03.FormRaw", spec := "formRaw", unfollowed := true, recurses := true, apart := false }
def FormRawSaid : Prop := formRawRow.holds Tryz.pinned (OpenSpec.ofChange formRawSpec)

/-- ITS FALSE NEIGHBOUR: 'it returns false'. Refute it at one input. -/
def formRawWrong : ChangeSpec := { name := "formRaw", fn := fun _ => fun
  | [d] => { results := [.lit (.bool false)], args := [d] }
  | _ => none }
def FormRawWrongFalsely : Prop := formRawRow.holds Tryz.pinned (OpenSpec.ofChange formRawWrong)

/-- 'moorsomlaw03.FormWeights': WHATEVER THE INPUT: true; the input reads as it did. -/
def formWeightsSpec : ChangeSpec := { name := "formWeights", fn := fun _ => fun
  | [d1, d2] => { results := [.lit (.bool true)], args := [d1, d2] }
  | _ => none }
def formWeightsRow : OpenClaim := { program := "ytddaejgfjlneoaagreat", sum := "b08a0fba03887c0ce50a4efcf400386315d3aa24a824935e46ad28fdefb1b34e", func := "moorsom/moorsomlaw03.FormWeights", spec := "formWeights", unfollowed := true, recurses := true, apart := false }
def FormWeightsSaid : Prop := formWeightsRow.holds Tryz.pinned (OpenSpec.ofChange formWeightsSpec)

/-- ITS FALSE NEIGHBOUR: 'it returns false'. Refute it at one input. -/
def formWeightsWrong : ChangeSpec := { name := "formWeights", fn := fun _ => fun
  | [d1, d2] => { results := [.lit (.bool false)], args := [d1, d2] }
  | _ => none }
def FormWeightsWrongFalsely : Prop := formWeightsRow.holds Tryz.pinned (OpenSpec.ofChange formWeightsWrong)

/-- 'moorsomlaw03.FormTold': WHATEVER THE INPUT: true; the input reads as it did. -/
def formToldSpec : ChangeSpec := { name := "formTold", fn := fun _ => fun
  | [d1, d2] => { results := [.lit (.bool true)], args := [d1, d2] }
  | _ => none }
def formToldRow : OpenClaim := { program := "ytddaejgfjlneoaagreat", sum := "b08a0fba03887c0ce50a4efcf400386315d3aa24a824935e46ad28fdefb1b34e", func := "moorsom/moorsomlaw03.FormTold", spec := "formTold", unfollowed := true, recurses := true, apart := false }
def FormToldSaid : Prop := formToldRow.holds Tryz.pinned (OpenSpec.ofChange formToldSpec)

/-- ITS FALSE NEIGHBOUR: 'it returns false'. Refute it at one input. -/
def formToldWrong : ChangeSpec := { name := "formTold", fn := fun _ => fun
  | [d1, d2] => { results := [.lit (.bool false)], args := [d1, d2] }
  | _ => none }
def FormToldWrongFalsely : Prop := formToldRow.holds Tryz.pinned (OpenSpec.ofChange formToldWrong)

/-- 'moorsomlaw03.FormFalse': WHATEVER THE INPUT: true; the input reads as it did. -/
def formFalseSpec : ChangeSpec := { name := "formFalse", fn := fun _ => fun
  | [d1, d2] => { results := [.lit (.bool true)], args := [d1, d2] }
  | _ => none }
def formFalseRow : OpenClaim := { program := "ytddaejgfjlneoaagreat", sum := "b08a0fba03887c0ce50a4efcf400386315d3aa24a824935e46ad28fdefb1b34e", func := "moorsom/moorsomlaw03.FormFalse", spec := "formFalse", unfollowed := true, recurses := true, apart := false }
def FormFalseSaid : Prop := formFalseRow.holds Tryz.pinned (OpenSpec.ofChange formFalseSpec)

/-- ITS FALSE NEIGHBOUR: 'it returns false'. Refute it at one input. -/
def formFalseWrong : ChangeSpec := { name := "formFalse", fn := fun _ => fun
  | [d1, d2] => { results := [.lit (.bool false)], args := [d1, d2] }
  | _ => none }
def FormFalseWrongFalsely : Prop := formFalseRow.holds Tryz.pinned (OpenSpec.ofChange formFalseWrong)

/-- 'moorsomlaw03.FormChecks': WHATEVER THE INPUT: true; the input reads as it did. -/
def formChecksSpec : ChangeSpec := { name := "formChecks", fn := fun _ => fun
  | [d1, d2] => { results := [.lit (.bool true)], args := [d1, d2] }
  | _ => none }
def formChecksRow : OpenClaim := { program := "ytddaejgfjlneoaagreat", sum := "b08a0fba03887c0ce50a4efcf400386315d3aa24a824935e46ad28fdefb1b34e", func := "moorsom/moorsomlaw03.FormChecks", spec := "formChecks", unfollowed := true, recurses := true, apart := false }
def FormChecksSaid : Prop := formChecksRow.holds Tryz.pinned (OpenSpec.ofChange formChecksSpec)

/-- ITS FALSE NEIGHBOUR: 'it returns false'. Refute it at one input. -/
def formChecksWrong : ChangeSpec := { name := "formChecks", fn := fun _ => fun
  | [d1, d2] => { results := [.lit (.bool false)], args := [d1, d2] }
  | _ => none }
def FormChecksWrongFalsely : Prop := formChecksRow.holds Tryz.pinned (OpenSpec.ofChange formChecksWrong)

/-- 'moorsomlaw03.FormHulls': WHATEVER THE INPUT: true; the input reads as it did. -/
def formHullsSpec : ChangeSpec := { name := "formHulls", fn := fun _ => fun
  | [d1, d2, d3] => { results := [.lit (.bool true)], args := [d1, d2, d3] }
  | _ => none }
def formHullsRow : OpenClaim := { program := "ytddaejgfjlneoaagreat", sum := "b08a0fba03887c0ce50a4efcf400386315d3aa24a824935e46ad28fdefb1b34e", func := "moorsom/moorsomlaw03.FormHulls", spec := "formHulls", unfollowed := true, recurses := true, apart := false }
def FormHullsSaid : Prop := formHullsRow.holds Tryz.pinned (OpenSpec.ofChange formHullsSpec)

/-- ITS FALSE NEIGHBOUR: 'it returns false'. Refute it at one input. -/
def formHullsWrong : ChangeSpec := { name := "formHulls", fn := fun _ => fun
  | [d1, d2, d3] => { results := [.lit (.bool false)], args := [d1, d2, d3] }
  | _ => none }
def FormHullsWrongFalsely : Prop := formHullsRow.holds Tryz.pinned (OpenSpec.ofChange formHullsWrong)

/-- 'moorsomlaw03.FormWithouts': WHATEVER THE INPUT: true; the input reads as it did. -/
def formWithoutsSpec : ChangeSpec := { name := "formWithouts", fn := fun _ => fun
  | [d1, d2, d3] => { results := [.lit (.bool true)], args := [d1, d2, d3] }
  | _ => none }
def formWithoutsRow : OpenClaim := { program := "ytddaejgfjlneoaagreat", sum := "b08a0fba03887c0ce50a4efcf400386315d3aa24a824935e46ad28fdefb1b34e", func := "moorsom/moorsomlaw03.FormWithouts", spec := "formWithouts", unfollowed := true, recurses := true, apart := false }
def FormWithoutsSaid : Prop := formWithoutsRow.holds Tryz.pinned (OpenSpec.ofChange formWithoutsSpec)

/-- ITS FALSE NEIGHBOUR: 'it returns false'. Refute it at one input. -/
def formWithoutsWrong : ChangeSpec := { name := "formWithouts", fn := fun _ => fun
  | [d1, d2, d3] => { results := [.lit (.bool false)], args := [d1, d2, d3] }
  | _ => none }
def FormWithoutsWrongFalsely : Prop := formWithoutsRow.holds Tryz.pinned (OpenSpec.ofChange formWithoutsWrong)

/-- 'moorsomlaw03.FormAttains': WHATEVER THE INPUT: true; the input reads as it did. -/
def formAttainsSpec : ChangeSpec := { name := "formAttains", fn := fun _ => fun
  | [d1, d2, d3] => { results := [.lit (.bool true)], args := [d1, d2, d3] }
  | _ => none }
def formAttainsRow : OpenClaim := { program := "ytddaejgfjlneoaagreat", sum := "b08a0fba03887c0ce50a4efcf400386315d3aa24a824935e46ad28fdefb1b34e", func := "moorsom/moorsomlaw03.FormAttains", spec := "formAttains", unfollowed := true, recurses := true, apart := false }
def FormAttainsSaid : Prop := formAttainsRow.holds Tryz.pinned (OpenSpec.ofChange formAttainsSpec)

/-- ITS FALSE NEIGHBOUR: 'it returns false'. Refute it at one input. -/
def formAttainsWrong : ChangeSpec := { name := "formAttains", fn := fun _ => fun
  | [d1, d2, d3] => { results := [.lit (.bool false)], args := [d1, d2, d3] }
  | _ => none }
def FormAttainsWrongFalsely : Prop := formAttainsRow.holds Tryz.pinned (OpenSpec.ofChange formAttainsWrong)

/-- 'moorsomlaw03.FormNarrows': WHATEVER THE INPUT: true; the input reads as it did. -/
def formNarrowsSpec : ChangeSpec := { name := "formNarrows", fn := fun _ => fun
  | [d1, d2, d3] => { results := [.lit (.bool true)], args := [d1, d2, d3] }
  | _ => none }
def formNarrowsRow : OpenClaim := { program := "ytddaejgfjlneoaagreat", sum := "b08a0fba03887c0ce50a4efcf400386315d3aa24a824935e46ad28fdefb1b34e", func := "moorsom/moorsomlaw03.FormNarrows", spec := "formNarrows", unfollowed := true, recurses := true, apart := false }
def FormNarrowsSaid : Prop := formNarrowsRow.holds Tryz.pinned (OpenSpec.ofChange formNarrowsSpec)

/-- ITS FALSE NEIGHBOUR: 'it returns false'. Refute it at one input. -/
def formNarrowsWrong : ChangeSpec := { name := "formNarrows", fn := fun _ => fun
  | [d1, d2, d3] => { results := [.lit (.bool false)], args := [d1, d2, d3] }
  | _ => none }
def FormNarrowsWrongFalsely : Prop := formNarrowsRow.holds Tryz.pinned (OpenSpec.ofChange formNarrowsWrong)

/-- 'moorsomlaw03.FormClaims': WHATEVER THE INPUT: true; the input reads as it did. -/
def formClaimsSpec : ChangeSpec := { name := "formClaims", fn := fun _ => fun
  | [d1, d2] => { results := [.lit (.bool true)], args := [d1, d2] }
  | _ => none }
def formClaimsRow : OpenClaim := { program := "ytddaejgfjlneoaagreat", sum := "b08a0fba03887c0ce50a4efcf400386315d3aa24a824935e46ad28fdefb1b34e", func := "moorsom/moorsomlaw03.FormClaims", spec := "formClaims", unfollowed := true, recurses := true, apart := false }
def FormClaimsSaid : Prop := formClaimsRow.holds Tryz.pinned (OpenSpec.ofChange formClaimsSpec)

/-- ITS FALSE NEIGHBOUR: 'it returns false'. Refute it at one input. -/
def formClaimsWrong : ChangeSpec := { name := "formClaims", fn := fun _ => fun
  | [d1, d2] => { results := [.lit (.bool false)], args := [d1, d2] }
  | _ => none }
def FormClaimsWrongFalsely : Prop := formClaimsRow.holds Tryz.pinned (OpenSpec.ofChange formClaimsWrong)

/-- 'moorsomlaw03.FormAll': WHATEVER THE INPUT: true; the input reads as it did. -/
def formAllSpec : ChangeSpec := { name := "formAll", fn := fun _ => fun
  | [d1, d2, d3] => { results := [.lit (.bool true)], args := [d1, d2, d3] }
  | _ => none }
def formAllRow : OpenClaim := { program := "ytddaejgfjlneoaagreat", sum := "b08a0fba03887c0ce50a4efcf400386315d3aa24a824935e46ad28fdefb1b34e", func := "moorsom/moorsomlaw03.FormAll", spec := "formAll", unfollowed := true, recurses := true, apart := false }
def FormAllSaid : Prop := formAllRow.holds Tryz.pinned (OpenSpec.ofChange formAllSpec)

/-- ITS FALSE NEIGHBOUR: 'it returns false'. Refute it at one input. -/
def formAllWrong : ChangeSpec := { name := "formAll", fn := fun _ => fun
  | [d1, d2, d3] => { results := [.lit (.bool false)], args := [d1, d2, d3] }
  | _ => none }
def FormAllWrongFalsely : Prop := formAllRow.holds Tryz.pinned (OpenSpec.ofChange formAllWrong)

/-- 'moorsomlaw03.FormAgain': WHATEVER THE INPUT: true; the input reads as it did. -/
def formAgainSpec : ChangeSpec := { name := "formAgain", fn := fun _ => fun
  | [d1, d2] => { results := [.lit (.bool true)], args := [d1, d2] }
  | _ => none }
def formAgainRow : OpenClaim := { program := "ytddaejgfjlneoaagreat", sum := "b08a0fba03887c0ce50a4efcf400386315d3aa24a824935e46ad28fdefb1b34e", func := "moorsom/moorsomlaw03.FormAgain", spec := "formAgain", unfollowed := true, recurses := true, apart := false }
def FormAgainSaid : Prop := formAgainRow.holds Tryz.pinned (OpenSpec.ofChange formAgainSpec)

/-- ITS FALSE NEIGHBOUR: 'it returns false'. Refute it at one input. -/
def formAgainWrong : ChangeSpec := { name := "formAgain", fn := fun _ => fun
  | [d1, d2] => { results := [.lit (.bool false)], args := [d1, d2] }
  | _ => none }
def FormAgainWrongFalsely : Prop := formAgainRow.holds Tryz.pinned (OpenSpec.ofChange formAgainWrong)

/-- 'moorsomlaw03.FormProves': WHATEVER THE INPUT: true; the input reads as it did. -/
def formProvesSpec : ChangeSpec := { name := "formProves", fn := fun _ => fun
  | [d1, d2] => { results := [.lit (.bool true)], args := [d1, d2] }
  | _ => none }
def formProvesRow : OpenClaim := { program := "ytddaejgfjlneoaagreat", sum := "b08a0fba03887c0ce50a4efcf400386315d3aa24a824935e46ad28fdefb1b34e", func := "moorsom/moorsomlaw03.FormProves", spec := "formProves", unfollowed := true, recurses := true, apart := false }
def FormProvesSaid : Prop := formProvesRow.holds Tryz.pinned (OpenSpec.ofChange formProvesSpec)

/-- ITS FALSE NEIGHBOUR: 'it returns false'. Refute it at one input. -/
def formProvesWrong : ChangeSpec := { name := "formProves", fn := fun _ => fun
  | [d1, d2] => { results := [.lit (.bool false)], args := [d1, d2] }
  | _ => none }
def FormProvesWrongFalsely : Prop := formProvesRow.holds Tryz.pinned (OpenSpec.ofChange formProvesWrong)

/-- 'moorsomlaw03.FormSound': WHATEVER THE INPUT: true; the input reads as it did. -/
def formSoundSpec : ChangeSpec := { name := "formSound", fn := fun _ => fun
  | [d1, d2] => { results := [.lit (.bool true)], args := [d1, d2] }
  | _ => none }
def formSoundRow : OpenClaim := { program := "ytddaejgfjlneoaagreat", sum := "b08a0fba03887c0ce50a4efcf400386315d3aa24a824935e46ad28fdefb1b34e", func := "moorsom/moorsomlaw03.FormSound", spec := "formSound", unfollowed := true, recurses := true, apart := false }
def FormSoundSaid : Prop := formSoundRow.holds Tryz.pinned (OpenSpec.ofChange formSoundSpec)

/-- ITS FALSE NEIGHBOUR: 'it returns false'. Refute it at one input. -/
def formSoundWrong : ChangeSpec := { name := "formSound", fn := fun _ => fun
  | [d1, d2] => { results := [.lit (.bool false)], args := [d1, d2] }
  | _ => none }
def FormSoundWrongFalsely : Prop := formSoundRow.holds Tryz.pinned (OpenSpec.ofChange formSoundWrong)

/-- 'moorsomlaw03.FormTrue': WHATEVER THE INPUT: true; the input reads as it did. -/
def formTrueSpec : ChangeSpec := { name := "formTrue", fn := fun _ => fun
  | [d1, d2] => { results := [.lit (.bool true)], args := [d1, d2] }
  | _ => none }
def formTrueRow : OpenClaim := { program := "ytddaejgfjlneoaagreat", sum := "b08a0fba03887c0ce50a4efcf400386315d3aa24a824935e46ad28fdefb1b34e", func := "moorsom/moorsomlaw03.FormTrue", spec := "formTrue", unfollowed := true, recurses := true, apart := false }
def FormTrueSaid : Prop := formTrueRow.holds Tryz.pinned (OpenSpec.ofChange formTrueSpec)

/-- ITS FALSE NEIGHBOUR: 'it returns false'. Refute it at one input. -/
def formTrueWrong : ChangeSpec := { name := "formTrue", fn := fun _ => fun
  | [d1, d2] => { results := [.lit (.bool false)], args := [d1, d2] }
  | _ => none }
def FormTrueWrongFalsely : Prop := formTrueRow.holds Tryz.pinned (OpenSpec.ofChange formTrueWrong)

/- THE SECOND FORM. 'bulk': how many values and letters a reading holds, each counted each time it is reached (what is shared counts as often as it is met; a slice's spare places count too). A statement '..UptoSaid' is the law's where the arguments, and the package variables that the reading takes, are together of bulk at most 1048576: NARROWER than '..Said'. Prove '..Said' where nothing that the law and all that it calls make is longer than what came in: it says more and counts as full. Else prove '..UptoSaid'. A law counts once. -/
mutual
def uptoBulk {H : Type} : DataW H → Nat
  | .lit (.string bytes) => bytes.length + 1
  | .lit _ => 1
  | .nil => 1
  | .ptr d => uptoBulk d + 1
  | .slice elems spare => uptoBulkAll elems + uptoBulkAll spare + 1
  | .agg parts => uptoBulkAll parts + 1
  | .iface _ d => uptoBulk d + 1
  | .map entries => uptoBulkEntries entries + 1
  | .held _ => 1
def uptoBulkAll {H : Type} : List (DataW H) → Nat
  | [] => 0
  | d :: r => uptoBulk d + uptoBulkAll r
def uptoBulkEntries {H : Type} : List (Lit × DataW H) → Nat
  | [] => 0
  | x :: r => uptoBulkEntry x + uptoBulkEntries r
def uptoBulkEntry {H : Type} : Lit × DataW H → Nat
  | (.string bytes, d) => bytes.length + uptoBulk d + 1
  | (_, d) => uptoBulk d + 1
 end
def uptoSmall : (H : Type) → List (DataW H) → Bool := fun _ ds => decide (uptoBulkAll ds ≤ 1048576)
def OpenSpec.upto (s : _root_.Go.ChangeSpec) : _root_.Go.OpenSpec := { _root_.Go.OpenSpec.ofChange s with cond := some uptoSmall }

/-- 'moorsomlaw03.FormBounds', WHERE WHAT IT READS IS OF BULK AT MOST 1048576: true; the input reads as it did. -/
def formBoundsUptoRow : OpenClaim := { program := "ytddaejgfjlneoaagreat", sum := "b08a0fba03887c0ce50a4efcf400386315d3aa24a824935e46ad28fdefb1b34e", func := "moorsom/moorsomlaw03.FormBounds", spec := "formBounds", unfollowed := true, recurses := true, apart := false, narrowed := true }
def FormBoundsUptoSaid : Prop := formBoundsUptoRow.holds Tryz.pinned (OpenSpec.upto formBoundsSpec)

/-- 'moorsomlaw03.FormTapes', WHERE WHAT IT READS IS OF BULK AT MOST 1048576: true; the input reads as it did. -/
def formTapesUptoRow : OpenClaim := { program := "ytddaejgfjlneoaagreat", sum := "b08a0fba03887c0ce50a4efcf400386315d3aa24a824935e46ad28fdefb1b34e", func := "moorsom/moorsomlaw03.FormTapes", spec := "formTapes", unfollowed := true, recurses := true, apart := false, narrowed := true }
def FormTapesUptoSaid : Prop := formTapesUptoRow.holds Tryz.pinned (OpenSpec.upto formTapesSpec)

/-- 'moorsomlaw03.FormClashes', WHERE WHAT IT READS IS OF BULK AT MOST 1048576: true; the input reads as it did. -/
def formClashesUptoRow : OpenClaim := { program := "ytddaejgfjlneoaagreat", sum := "b08a0fba03887c0ce50a4efcf400386315d3aa24a824935e46ad28fdefb1b34e", func := "moorsom/moorsomlaw03.FormClashes", spec := "formClashes", unfollowed := true, recurses := true, apart := false, narrowed := true }
def FormClashesUptoSaid : Prop := formClashesUptoRow.holds Tryz.pinned (OpenSpec.upto formClashesSpec)

/-- 'moorsomlaw03.FormLines', WHERE WHAT IT READS IS OF BULK AT MOST 1048576: true; the input reads as it did. -/
def formLinesUptoRow : OpenClaim := { program := "ytddaejgfjlneoaagreat", sum := "b08a0fba03887c0ce50a4efcf400386315d3aa24a824935e46ad28fdefb1b34e", func := "moorsom/moorsomlaw03.FormLines", spec := "formLines", unfollowed := true, recurses := true, apart := false, narrowed := true }
def FormLinesUptoSaid : Prop := formLinesUptoRow.holds Tryz.pinned (OpenSpec.upto formLinesSpec)

/-- 'moorsomlaw03.FormRaw', WHERE WHAT IT READS IS OF BULK AT MOST 1048576: true; the input reads as it did. -/
def formRawUptoRow : OpenClaim := { program := "ytddaejgfjlneoaagreat", sum := "b08a0fba03887c0ce50a4efcf400386315d3aa24a824935e46ad28fdefb1b34e", func := "moorsom/moorsomlaw03.FormRaw", spec := "formRaw", unfollowed := true, recurses := true, apart := false, narrowed := true }
def FormRawUptoSaid : Prop := formRawUptoRow.holds Tryz.pinned (OpenSpec.upto formRawSpec)

/-- 'moorsomlaw03.FormWeights', WHERE WHAT IT READS IS OF BULK AT MOST 1048576: true; the input reads as it did. -/
def formWeightsUptoRow : OpenClaim := { program := "ytddaejgfjlneoaagreat", sum := "b08a0fba03887c0ce50a4efcf400386315d3aa24a824935e46ad28fdefb1b34e", func := "moorsom/moorsomlaw03.FormWeights", spec := "formWeights", unfollowed := true, recurses := true, apart := false, narrowed := true }
def FormWeightsUptoSaid : Prop := formWeightsUptoRow.holds Tryz.pinned (OpenSpec.upto formWeightsSpec)

/-- 'moorsomlaw03.FormTold', WHERE WHAT IT READS IS OF BULK AT MOST 1048576: true; the input reads as it did. -/
def formToldUptoRow : OpenClaim := { program := "ytddaejgfjlneoaagreat", sum := "b08a0fba03887c0ce50a4efcf400386315d3aa24a824935e46ad28fdefb1b34e", func := "moorsom/moorsomlaw03.FormTold", spec := "formTold", unfollowed := true, recurses := true, apart := false, narrowed := true }
def FormToldUptoSaid : Prop := formToldUptoRow.holds Tryz.pinned (OpenSpec.upto formToldSpec)

/-- 'moorsomlaw03.FormFalse', WHERE WHAT IT READS IS OF BULK AT MOST 1048576: true; the input reads as it did. -/
def formFalseUptoRow : OpenClaim := { program := "ytddaejgfjlneoaagreat", sum := "b08a0fba03887c0ce50a4efcf400386315d3aa24a824935e46ad28fdefb1b34e", func := "moorsom/moorsomlaw03.FormFalse", spec := "formFalse", unfollowed := true, recurses := true, apart := false, narrowed := true }
def FormFalseUptoSaid : Prop := formFalseUptoRow.holds Tryz.pinned (OpenSpec.upto formFalseSpec)

/-- 'moorsomlaw03.FormChecks', WHERE WHAT IT READS IS OF BULK AT MOST 1048576: true; the input reads as it did. -/
def formChecksUptoRow : OpenClaim := { program := "ytddaejgfjlneoaagreat", sum := "b08a0fba03887c0ce50a4efcf400386315d3aa24a824935e46ad28fdefb1b34e", func := "moorsom/moorsomlaw03.FormChecks", spec := "formChecks", unfollowed := true, recurses := true, apart := false, narrowed := true }
def FormChecksUptoSaid : Prop := formChecksUptoRow.holds Tryz.pinned (OpenSpec.upto formChecksSpec)

/-- 'moorsomlaw03.FormHulls', WHERE WHAT IT READS IS OF BULK AT MOST 1048576: true; the input reads as it did. -/
def formHullsUptoRow : OpenClaim := { program := "ytddaejgfjlneoaagreat", sum := "b08a0fba03887c0ce50a4efcf400386315d3aa24a824935e46ad28fdefb1b34e", func := "moorsom/moorsomlaw03.FormHulls", spec := "formHulls", unfollowed := true, recurses := true, apart := false, narrowed := true }
def FormHullsUptoSaid : Prop := formHullsUptoRow.holds Tryz.pinned (OpenSpec.upto formHullsSpec)

/-- 'moorsomlaw03.FormWithouts', WHERE WHAT IT READS IS OF BULK AT MOST 1048576: true; the input reads as it did. -/
def formWithoutsUptoRow : OpenClaim := { program := "ytddaejgfjlneoaagreat", sum := "b08a0fba03887c0ce50a4efcf400386315d3aa24a824935e46ad28fdefb1b34e", func := "moorsom/moorsomlaw03.FormWithouts", spec := "formWithouts", unfollowed := true, recurses := true, apart := false, narrowed := true }
def FormWithoutsUptoSaid : Prop := formWithoutsUptoRow.holds Tryz.pinned (OpenSpec.upto formWithoutsSpec)

/-- 'moorsomlaw03.FormAttains', WHERE WHAT IT READS IS OF BULK AT MOST 1048576: true; the input reads as it did. -/
def formAttainsUptoRow : OpenClaim := { program := "ytddaejgfjlneoaagreat", sum := "b08a0fba03887c0ce50a4efcf400386315d3aa24a824935e46ad28fdefb1b34e", func := "moorsom/moorsomlaw03.FormAttains", spec := "formAttains", unfollowed := true, recurses := true, apart := false, narrowed := true }
def FormAttainsUptoSaid : Prop := formAttainsUptoRow.holds Tryz.pinned (OpenSpec.upto formAttainsSpec)

/-- 'moorsomlaw03.FormNarrows', WHERE WHAT IT READS IS OF BULK AT MOST 1048576: true; the input reads as it did. -/
def formNarrowsUptoRow : OpenClaim := { program := "ytddaejgfjlneoaagreat", sum := "b08a0fba03887c0ce50a4efcf400386315d3aa24a824935e46ad28fdefb1b34e", func := "moorsom/moorsomlaw03.FormNarrows", spec := "formNarrows", unfollowed := true, recurses := true, apart := false, narrowed := true }
def FormNarrowsUptoSaid : Prop := formNarrowsUptoRow.holds Tryz.pinned (OpenSpec.upto formNarrowsSpec)

/-- 'moorsomlaw03.FormClaims', WHERE WHAT IT READS IS OF BULK AT MOST 1048576: true; the input reads as it did. -/
def formClaimsUptoRow : OpenClaim := { program := "ytddaejgfjlneoaagreat", sum := "b08a0fba03887c0ce50a4efcf400386315d3aa24a824935e46ad28fdefb1b34e", func := "moorsom/moorsomlaw03.FormClaims", spec := "formClaims", unfollowed := true, recurses := true, apart := false, narrowed := true }
def FormClaimsUptoSaid : Prop := formClaimsUptoRow.holds Tryz.pinned (OpenSpec.upto formClaimsSpec)

/-- 'moorsomlaw03.FormAll', WHERE WHAT IT READS IS OF BULK AT MOST 1048576: true; the input reads as it did. -/
def formAllUptoRow : OpenClaim := { program := "ytddaejgfjlneoaagreat", sum := "b08a0fba03887c0ce50a4efcf400386315d3aa24a824935e46ad28fdefb1b34e", func := "moorsom/moorsomlaw03.FormAll", spec := "formAll", unfollowed := true, recurses := true, apart := false, narrowed := true }
def FormAllUptoSaid : Prop := formAllUptoRow.holds Tryz.pinned (OpenSpec.upto formAllSpec)

/-- 'moorsomlaw03.FormAgain', WHERE WHAT IT READS IS OF BULK AT MOST 1048576: true; the input reads as it did. -/
def formAgainUptoRow : OpenClaim := { program := "ytddaejgfjlneoaagreat", sum := "b08a0fba03887c0ce50a4efcf400386315d3aa24a824935e46ad28fdefb1b34e", func := "moorsom/moorsomlaw03.FormAgain", spec := "formAgain", unfollowed := true, recurses := true, apart := false, narrowed := true }
def FormAgainUptoSaid : Prop := formAgainUptoRow.holds Tryz.pinned (OpenSpec.upto formAgainSpec)

/-- 'moorsomlaw03.FormProves', WHERE WHAT IT READS IS OF BULK AT MOST 1048576: true; the input reads as it did. -/
def formProvesUptoRow : OpenClaim := { program := "ytddaejgfjlneoaagreat", sum := "b08a0fba03887c0ce50a4efcf400386315d3aa24a824935e46ad28fdefb1b34e", func := "moorsom/moorsomlaw03.FormProves", spec := "formProves", unfollowed := true, recurses := true, apart := false, narrowed := true }
def FormProvesUptoSaid : Prop := formProvesUptoRow.holds Tryz.pinned (OpenSpec.upto formProvesSpec)

/-- 'moorsomlaw03.FormSound', WHERE WHAT IT READS IS OF BULK AT MOST 1048576: true; the input reads as it did. -/
def formSoundUptoRow : OpenClaim := { program := "ytddaejgfjlneoaagreat", sum := "b08a0fba03887c0ce50a4efcf400386315d3aa24a824935e46ad28fdefb1b34e", func := "moorsom/moorsomlaw03.FormSound", spec := "formSound", unfollowed := true, recurses := true, apart := false, narrowed := true }
def FormSoundUptoSaid : Prop := formSoundUptoRow.holds Tryz.pinned (OpenSpec.upto formSoundSpec)

/-- 'moorsomlaw03.FormTrue', WHERE WHAT IT READS IS OF BULK AT MOST 1048576: true; the input reads as it did. -/
def formTrueUptoRow : OpenClaim := { program := "ytddaejgfjlneoaagreat", sum := "b08a0fba03887c0ce50a4efcf400386315d3aa24a824935e46ad28fdefb1b34e", func := "moorsom/moorsomlaw03.FormTrue", spec := "formTrue", unfollowed := true, recurses := true, apart := false, narrowed := true }
def FormTrueUptoSaid : Prop := formTrueUptoRow.holds Tryz.pinned (OpenSpec.upto formTrueSpec)

end Rows
end Go.Proofs.YtddaejgfjlneoaaGreat
