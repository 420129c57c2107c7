/-
  No cell of these rows narrows 'for every input' (looked for: loops, veiled, ifaces, maps, wideKeys, modest, calm, conditions, laid).
  DERIVED. THE GIVEN ROWS OF THIS SEAT. 6 by the template 'for every input the law returns true; each argument reads behind the call as it read before'; 0 by the template 'total and deterministic' (their statements: YtfahchgglapglaaTotals.lean).
  GIVEN WITH THE SEED: the statements are not yours to turn. If you find one false, say at which input.
  Laid BY PROGRAM, IN A SANDBOX (cutbox-rows.mjs): the forced cells as the released guide's own fill.sh prints them over the translation 055bf09540442c30… (all of the seat's roots in one cut). By AI agents, Wed Nov 11 2026. No macro, syntax, notation, axiom, sorry.
-/
import Derived.Test.YtfahchgglapglaaChecked
import GoSem.Claim
import GoSem.ClaimJoined
import GoSem.ClaimMapViews
import Derived.JoinedTies
import Derived.KernelRfl
namespace Go.Proofs.Ytfahchgglapglaa
/- THE CELL 'sum', in the pinned program and in every row, IS THE sha256 OF THE DUMP (.gsa) THAT YtfahchgglapglaaProg.lean LOADS. Nothing in Lean hashes anything: it is a label: what it is worth is what the hold of that sum in a sandbox is worth. -/
noncomputable def Try.pinned : Pinned := { name := "ytfahchgglapglaa", sum := "055bf09540442c30000a9d70d4e678986a4a8de50da56a06f1b2bd6e2b8dcd37", checked := Try.checked }
namespace Rows
def none {H : Type} : Left H := { results := [], args := [] }

/-- 'fairleadlaw10.ParseReads': WHATEVER THE INPUT: true; the input reads as it did. -/
def parseReadsSpec : ChangeSpec := { name := "parseReads", fn := fun _ => fun
  | [d] => { results := [.lit (.bool true)], args := [d] }
  | _ => none }
def parseReadsRow : OpenClaim := { program := "ytfahchgglapglaa", sum := "055bf09540442c30000a9d70d4e678986a4a8de50da56a06f1b2bd6e2b8dcd37", func := "fairlead/fairleadlaw10.ParseReads", spec := "parseReads", unfollowed := true, recurses := true, apart := false }
def ParseReadsSaid : Prop := parseReadsRow.holds Try.pinned (OpenSpec.ofChange parseReadsSpec)

/-- ITS FALSE NEIGHBOUR: 'it returns false'. Refute it at one input. -/
def parseReadsWrong : ChangeSpec := { name := "parseReads", fn := fun _ => fun
  | [d] => { results := [.lit (.bool false)], args := [d] }
  | _ => none }
def ParseReadsWrongFalsely : Prop := parseReadsRow.holds Try.pinned (OpenSpec.ofChange parseReadsWrong)

/-- 'fairleadlaw10.ParseJoins': WHATEVER THE INPUT: true; the input reads as it did. -/
def parseJoinsSpec : ChangeSpec := { name := "parseJoins", fn := fun _ => fun
  | [d1, d2] => { results := [.lit (.bool true)], args := [d1, d2] }
  | _ => none }
def parseJoinsRow : OpenClaim := { program := "ytfahchgglapglaa", sum := "055bf09540442c30000a9d70d4e678986a4a8de50da56a06f1b2bd6e2b8dcd37", func := "fairlead/fairleadlaw10.ParseJoins", spec := "parseJoins", unfollowed := true, recurses := true, apart := false }
def ParseJoinsSaid : Prop := parseJoinsRow.holds Try.pinned (OpenSpec.ofChange parseJoinsSpec)

/-- ITS FALSE NEIGHBOUR: 'it returns false'. Refute it at one input. -/
def parseJoinsWrong : ChangeSpec := { name := "parseJoins", fn := fun _ => fun
  | [d1, d2] => { results := [.lit (.bool false)], args := [d1, d2] }
  | _ => none }
def ParseJoinsWrongFalsely : Prop := parseJoinsRow.holds Try.pinned (OpenSpec.ofChange parseJoinsWrong)

/-- 'fairleadlaw10.ParseCut': WHATEVER THE INPUT: true; the input reads as it did. -/
def parseCutSpec : ChangeSpec := { name := "parseCut", fn := fun _ => fun
  | [d] => { results := [.lit (.bool true)], args := [d] }
  | _ => none }
def parseCutRow : OpenClaim := { program := "ytfahchgglapglaa", sum := "055bf09540442c30000a9d70d4e678986a4a8de50da56a06f1b2bd6e2b8dcd37", func := "fairlead/fairleadlaw10.ParseCut", spec := "parseCut", unfollowed := true, recurses := true, apart := false }
def ParseCutSaid : Prop := parseCutRow.holds Try.pinned (OpenSpec.ofChange parseCutSpec)

/-- ITS FALSE NEIGHBOUR: 'it returns false'. Refute it at one input. -/
def parseCutWrong : ChangeSpec := { name := "parseCut", fn := fun _ => fun
  | [d] => { results := [.lit (.bool false)], args := [d] }
  | _ => none }
def ParseCutWrongFalsely : Prop := parseCutRow.holds Try.pinned (OpenSpec.ofChange parseCutWrong)

/-- 'fairleadlaw10.ParseBlanks': WHATEVER THE INPUT: true; the input reads as it did. -/
def parseBlanksSpec : ChangeSpec := { name := "parseBlanks", fn := fun _ => fun
  | [d] => { results := [.lit (.bool true)], args := [d] }
  | _ => none }
def parseBlanksRow : OpenClaim := { program := "ytfahchgglapglaa", sum := "055bf09540442c30000a9d70d4e678986a4a8de50da56a06f1b2bd6e2b8dcd37", func := "fairlead/fairleadlaw10.ParseBlanks", spec := "parseBlanks", unfollowed := true, recurses := true, apart := false }
def ParseBlanksSaid : Prop := parseBlanksRow.holds Try.pinned (OpenSpec.ofChange parseBlanksSpec)

/-- ITS FALSE NEIGHBOUR: 'it returns false'. Refute it at one input. -/
def parseBlanksWrong : ChangeSpec := { name := "parseBlanks", fn := fun _ => fun
  | [d] => { results := [.lit (.bool false)], args := [d] }
  | _ => none }
def ParseBlanksWrongFalsely : Prop := parseBlanksRow.holds Try.pinned (OpenSpec.ofChange parseBlanksWrong)

/-- 'fairleadlaw10.ParseMany': WHATEVER THE INPUT: true; the input reads as it did. -/
def parseManySpec : ChangeSpec := { name := "parseMany", fn := fun _ => fun
  | [d1, d2, d3] => { results := [.lit (.bool true)], args := [d1, d2, d3] }
  | _ => none }
def parseManyRow : OpenClaim := { program := "ytfahchgglapglaa", sum := "055bf09540442c30000a9d70d4e678986a4a8de50da56a06f1b2bd6e2b8dcd37", func := "fairlead/fairleadlaw10.ParseMany", spec := "parseMany", unfollowed := true, recurses := true, apart := false }
def ParseManySaid : Prop := parseManyRow.holds Try.pinned (OpenSpec.ofChange parseManySpec)

/-- ITS FALSE NEIGHBOUR: 'it returns false'. Refute it at one input. -/
def parseManyWrong : ChangeSpec := { name := "parseMany", fn := fun _ => fun
  | [d1, d2, d3] => { results := [.lit (.bool false)], args := [d1, d2, d3] }
  | _ => none }
def ParseManyWrongFalsely : Prop := parseManyRow.holds Try.pinned (OpenSpec.ofChange parseManyWrong)

/-- 'fairleadlaw10.ParseBounds': WHATEVER THE INPUT: true; the input reads as it did. -/
def parseBoundsSpec : ChangeSpec := { name := "parseBounds", fn := fun _ => fun
  | [d] => { results := [.lit (.bool true)], args := [d] }
  | _ => none }
def parseBoundsRow : OpenClaim := { program := "ytfahchgglapglaa", sum := "055bf09540442c30000a9d70d4e678986a4a8de50da56a06f1b2bd6e2b8dcd37", func := "fairlead/fairleadlaw10.ParseBounds", spec := "parseBounds", unfollowed := true, recurses := true, apart := false }
def ParseBoundsSaid : Prop := parseBoundsRow.holds Try.pinned (OpenSpec.ofChange parseBoundsSpec)

/-- ITS FALSE NEIGHBOUR: 'it returns false'. Refute it at one input. -/
def parseBoundsWrong : ChangeSpec := { name := "parseBounds", fn := fun _ => fun
  | [d] => { results := [.lit (.bool false)], args := [d] }
  | _ => none }
def ParseBoundsWrongFalsely : Prop := parseBoundsRow.holds Try.pinned (OpenSpec.ofChange parseBoundsWrong)

/- THE SECOND FORM. 'bulk': how many values and letters a reading holds, each counted each time it is reached (what is shared counts as often as it is met; a slice's spare places count too). A statement '..UptoSaid' is the law's where the arguments, and the package variables that the reading takes, are together of bulk at most 1048576: NARROWER than '..Said'. Prove '..Said' where nothing that the law and all that it calls make is longer than what came in: it says more and counts as full. Else prove '..UptoSaid'. A law counts once. -/
mutual
def uptoBulk {H : Type} : DataW H → Nat
  | .lit (.string bytes) => bytes.length + 1
  | .lit _ => 1
  | .nil => 1
  | .ptr d => uptoBulk d + 1
  | .slice elems spare => uptoBulkAll elems + uptoBulkAll spare + 1
  | .agg parts => uptoBulkAll parts + 1
  | .iface _ d => uptoBulk d + 1
  | .map entries => uptoBulkEntries entries + 1
  | .held _ => 1
def uptoBulkAll {H : Type} : List (DataW H) → Nat
  | [] => 0
  | d :: r => uptoBulk d + uptoBulkAll r
def uptoBulkEntries {H : Type} : List (Lit × DataW H) → Nat
  | [] => 0
  | x :: r => uptoBulkEntry x + uptoBulkEntries r
def uptoBulkEntry {H : Type} : Lit × DataW H → Nat
  | (.string bytes, d) => bytes.length + uptoBulk d + 1
  | (_, d) => uptoBulk d + 1
 end
def uptoSmall : (H : Type) → List (DataW H) → Bool := fun _ ds => decide (uptoBulkAll ds ≤ 1048576)
def OpenSpec.upto (s : _root_.Go.ChangeSpec) : _root_.Go.OpenSpec := { _root_.Go.OpenSpec.ofChange s with cond := some uptoSmall }

/-- 'fairleadlaw10.ParseReads', WHERE WHAT IT READS IS OF BULK AT MOST 1048576: true; the input reads as it did. -/
def parseReadsUptoRow : OpenClaim := { program := "ytfahchgglapglaa", sum := "055bf09540442c30000a9d70d4e678986a4a8de50da56a06f1b2bd6e2b8dcd37", func := "fairlead/fairleadlaw10.ParseReads", spec := "parseReads", unfollowed := true, recurses := true, apart := false, narrowed := true }
def ParseReadsUptoSaid : Prop := parseReadsUptoRow.holds Try.pinned (OpenSpec.upto parseReadsSpec)

/-- 'fairleadlaw10.ParseJoins', WHERE WHAT IT READS IS OF BULK AT MOST 1048576: true; the input reads as it did. -/
def parseJoinsUptoRow : OpenClaim := { program := "ytfahchgglapglaa", sum := "055bf09540442c30000a9d70d4e678986a4a8de50da56a06f1b2bd6e2b8dcd37", func := "fairlead/fairleadlaw10.ParseJoins", spec := "parseJoins", unfollowed := true, recurses := true, apart := false, narrowed := true }
def ParseJoinsUptoSaid : Prop := parseJoinsUptoRow.holds Try.pinned (OpenSpec.upto parseJoinsSpec)

/-- 'fairleadlaw10.ParseCut', WHERE WHAT IT READS IS OF BULK AT MOST 1048576: true; the input reads as it did. -/
def parseCutUptoRow : OpenClaim := { program := "ytfahchgglapglaa", sum := "055bf09540442c30000a9d70d4e678986a4a8de50da56a06f1b2bd6e2b8dcd37", func := "fairlead/fairleadlaw10.ParseCut", spec := "parseCut", unfollowed := true, recurses := true, apart := false, narrowed := true }
def ParseCutUptoSaid : Prop := parseCutUptoRow.holds Try.pinned (OpenSpec.upto parseCutSpec)

/-- 'fairleadlaw10.ParseBlanks', WHERE WHAT IT READS IS OF BULK AT MOST 1048576: true; the input reads as it did. -/
def parseBlanksUptoRow : OpenClaim := { program := "ytfahchgglapglaa", sum := "055bf09540442c30000a9d70d4e678986a4a8de50da56a06f1b2bd6e2b8dcd37", func := "fairlead/fairleadlaw10.ParseBlanks", spec := "parseBlanks", unfollowed := true, recurses := true, apart := false, narrowed := true }
def ParseBlanksUptoSaid : Prop := parseBlanksUptoRow.holds Try.pinned (OpenSpec.upto parseBlanksSpec)

/-- 'fairleadlaw10.ParseMany', WHERE WHAT IT READS IS OF BULK AT MOST 1048576: true; the input reads as it did. -/
def parseManyUptoRow : OpenClaim := { program := "ytfahchgglapglaa", sum := "055bf09540442c30000a9d70d4e678986a4a8de50da56a06f1b2bd6e2b8dcd37", func := "fairlead/fairleadlaw10.ParseMany", spec := "parseMany", unfollowed := true, recurses := true, apart := false, narrowed := true }
def ParseManyUptoSaid : Prop := parseManyUptoRow.holds Try.pinned (OpenSpec.upto parseManySpec)

/-- 'fairleadlaw10.ParseBounds', WHERE WHAT IT READS IS OF BULK AT MOST 1048576: true; the input reads as it did. -/
def parseBoundsUptoRow : OpenClaim := { program := "ytfahchgglapglaa", sum := "055bf09540442c30000a9d70d4e678986a4a8de50da56a06f1b2bd6e2b8dcd37", func := "fairlead/fairleadlaw10.ParseBounds", spec := "parseBounds", unfollowed := true, recurses := true, apart := false, narrowed := true }
def ParseBoundsUptoSaid : Prop := parseBoundsUptoRow.holds Try.pinned (OpenSpec.upto parseBoundsSpec)

end Rows
end Go.Proofs.Ytfahchgglapglaa
