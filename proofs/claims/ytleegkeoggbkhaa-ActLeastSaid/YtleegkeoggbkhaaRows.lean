/-
  No cell of these rows narrows 'for every input' (looked for: loops, veiled, ifaces, maps, wideKeys, modest, calm, conditions, laid).
  DERIVED. THE GIVEN ROWS OF THIS SEAT. 6 by the template 'for every input the law returns true; each argument reads behind the call as it read before'; 0 by the template 'total and deterministic' (their statements: YtleegkeoggbkhaaTotals.lean).
  GIVEN WITH THE SEED: the statements are not yours to turn. If you find one false, say at which input.
  Laid BY PROGRAM, IN A SANDBOX (cutbox-rows.mjs): the forced cells as the released guide's own fill.sh prints them over the translation d890d32765c29234… (all of the seat's roots in one cut). By AI agents, Wed Nov 11 2026. No macro, syntax, notation, axiom, sorry.
-/
import Derived.Test.YtleegkeoggbkhaaChecked
import GoSem.Claim
import GoSem.ClaimJoined
import GoSem.ClaimMapViews
import Derived.JoinedTies
import Derived.KernelRfl
namespace Go.Proofs.Ytleegkeoggbkhaa
/- THE CELL 'sum', in the pinned program and in every row, IS THE sha256 OF THE DUMP (.gsa) THAT YtleegkeoggbkhaaProg.lean LOADS. Nothing in Lean hashes anything: it is a label: what it is worth is what the hold of that sum in a sandbox is worth. -/
noncomputable def Try.pinned : Pinned := { name := "ytleegkeoggbkhaa", sum := "d890d32765c292347e89763b9fdec4e4f6ee3e08cbdb89a332365a7224dc95cd", checked := Try.checked }
namespace Rows
def none {H : Type} : Left H := { results := [], args := [] }

/-- 'fairleadlaw07.ActValues': WHATEVER THE INPUT: true; the input reads as it did. -/
def actValuesSpec : ChangeSpec := { name := "actValues", fn := fun _ => fun
  | [d] => { results := [.lit (.bool true)], args := [d] }
  | _ => none }
def actValuesRow : OpenClaim := { program := "ytleegkeoggbkhaa", sum := "d890d32765c292347e89763b9fdec4e4f6ee3e08cbdb89a332365a7224dc95cd", func := "fairlead/fairleadlaw07.ActValues", spec := "actValues", apart := false }
def ActValuesSaid : Prop := actValuesRow.holds Try.pinned (OpenSpec.ofChange actValuesSpec)

/-- ITS FALSE NEIGHBOUR: 'it returns false'. Refute it at one input. -/
def actValuesWrong : ChangeSpec := { name := "actValues", fn := fun _ => fun
  | [d] => { results := [.lit (.bool false)], args := [d] }
  | _ => none }
def ActValuesWrongFalsely : Prop := actValuesRow.holds Try.pinned (OpenSpec.ofChange actValuesWrong)

/-- 'fairleadlaw07.ActOf': WHATEVER THE INPUT: true; the input reads as it did. -/
def actOfSpec : ChangeSpec := { name := "actOf", fn := fun _ => fun
  | [d] => { results := [.lit (.bool true)], args := [d] }
  | _ => none }
def actOfRow : OpenClaim := { program := "ytleegkeoggbkhaa", sum := "d890d32765c292347e89763b9fdec4e4f6ee3e08cbdb89a332365a7224dc95cd", func := "fairlead/fairleadlaw07.ActOf", spec := "actOf", apart := false }
def ActOfSaid : Prop := actOfRow.holds Try.pinned (OpenSpec.ofChange actOfSpec)

/-- ITS FALSE NEIGHBOUR: 'it returns false'. Refute it at one input. -/
def actOfWrong : ChangeSpec := { name := "actOf", fn := fun _ => fun
  | [d] => { results := [.lit (.bool false)], args := [d] }
  | _ => none }
def ActOfWrongFalsely : Prop := actOfRow.holds Try.pinned (OpenSpec.ofChange actOfWrong)

/-- 'fairleadlaw07.ActBack': WHATEVER THE INPUT: true; the input reads as it did. -/
def actBackSpec : ChangeSpec := { name := "actBack", fn := fun _ => fun
  | [d1, d2] => { results := [.lit (.bool true)], args := [d1, d2] }
  | _ => none }
def actBackRow : OpenClaim := { program := "ytleegkeoggbkhaa", sum := "d890d32765c292347e89763b9fdec4e4f6ee3e08cbdb89a332365a7224dc95cd", func := "fairlead/fairleadlaw07.ActBack", spec := "actBack", apart := false }
def ActBackSaid : Prop := actBackRow.holds Try.pinned (OpenSpec.ofChange actBackSpec)

/-- ITS FALSE NEIGHBOUR: 'it returns false'. Refute it at one input. -/
def actBackWrong : ChangeSpec := { name := "actBack", fn := fun _ => fun
  | [d1, d2] => { results := [.lit (.bool false)], args := [d1, d2] }
  | _ => none }
def ActBackWrongFalsely : Prop := actBackRow.holds Try.pinned (OpenSpec.ofChange actBackWrong)

/-- 'fairleadlaw07.ActMost': WHATEVER THE INPUT: true; the input reads as it did. -/
def actMostSpec : ChangeSpec := { name := "actMost", fn := fun _ => fun
  | [d] => { results := [.lit (.bool true)], args := [d] }
  | _ => none }
def actMostRow : OpenClaim := { program := "ytleegkeoggbkhaa", sum := "d890d32765c292347e89763b9fdec4e4f6ee3e08cbdb89a332365a7224dc95cd", func := "fairlead/fairleadlaw07.ActMost", spec := "actMost", apart := false }
def ActMostSaid : Prop := actMostRow.holds Try.pinned (OpenSpec.ofChange actMostSpec)

/-- ITS FALSE NEIGHBOUR: 'it returns false'. Refute it at one input. -/
def actMostWrong : ChangeSpec := { name := "actMost", fn := fun _ => fun
  | [d] => { results := [.lit (.bool false)], args := [d] }
  | _ => none }
def ActMostWrongFalsely : Prop := actMostRow.holds Try.pinned (OpenSpec.ofChange actMostWrong)

/-- 'fairleadlaw07.ActLeast': WHATEVER THE INPUT: true; the input reads as it did. -/
def actLeastSpec : ChangeSpec := { name := "actLeast", fn := fun _ => fun
  | [d] => { results := [.lit (.bool true)], args := [d] }
  | _ => none }
def actLeastRow : OpenClaim := { program := "ytleegkeoggbkhaa", sum := "d890d32765c292347e89763b9fdec4e4f6ee3e08cbdb89a332365a7224dc95cd", func := "fairlead/fairleadlaw07.ActLeast", spec := "actLeast", apart := false }
def ActLeastSaid : Prop := actLeastRow.holds Try.pinned (OpenSpec.ofChange actLeastSpec)

/-- ITS FALSE NEIGHBOUR: 'it returns false'. Refute it at one input. -/
def actLeastWrong : ChangeSpec := { name := "actLeast", fn := fun _ => fun
  | [d] => { results := [.lit (.bool false)], args := [d] }
  | _ => none }
def ActLeastWrongFalsely : Prop := actLeastRow.holds Try.pinned (OpenSpec.ofChange actLeastWrong)

/-- 'fairleadlaw07.ActJoined': WHATEVER THE INPUT: true; the input reads as it did. -/
def actJoinedSpec : ChangeSpec := { name := "actJoined", fn := fun _ => fun
  | [d1, d2] => { results := [.lit (.bool true)], args := [d1, d2] }
  | _ => none }
def actJoinedRow : OpenClaim := { program := "ytleegkeoggbkhaa", sum := "d890d32765c292347e89763b9fdec4e4f6ee3e08cbdb89a332365a7224dc95cd", func := "fairlead/fairleadlaw07.ActJoined", spec := "actJoined", apart := false }
def ActJoinedSaid : Prop := actJoinedRow.holds Try.pinned (OpenSpec.ofChange actJoinedSpec)

/-- ITS FALSE NEIGHBOUR: 'it returns false'. Refute it at one input. -/
def actJoinedWrong : ChangeSpec := { name := "actJoined", fn := fun _ => fun
  | [d1, d2] => { results := [.lit (.bool false)], args := [d1, d2] }
  | _ => none }
def ActJoinedWrongFalsely : Prop := actJoinedRow.holds Try.pinned (OpenSpec.ofChange actJoinedWrong)

/- THE SECOND FORM. 'bulk': how many values and letters a reading holds, each counted each time it is reached (what is shared counts as often as it is met; a slice's spare places count too). A statement '..UptoSaid' is the law's where the arguments, and the package variables that the reading takes, are together of bulk at most 1048576: NARROWER than '..Said'. Prove '..Said' where nothing that the law and all that it calls make is longer than what came in: it says more and counts as full. Else prove '..UptoSaid'. A law counts once. -/
mutual
def uptoBulk {H : Type} : DataW H → Nat
  | .lit (.string bytes) => bytes.length + 1
  | .lit _ => 1
  | .nil => 1
  | .ptr d => uptoBulk d + 1
  | .slice elems spare => uptoBulkAll elems + uptoBulkAll spare + 1
  | .agg parts => uptoBulkAll parts + 1
  | .iface _ d => uptoBulk d + 1
  | .map entries => uptoBulkEntries entries + 1
  | .held _ => 1
def uptoBulkAll {H : Type} : List (DataW H) → Nat
  | [] => 0
  | d :: r => uptoBulk d + uptoBulkAll r
def uptoBulkEntries {H : Type} : List (Lit × DataW H) → Nat
  | [] => 0
  | x :: r => uptoBulkEntry x + uptoBulkEntries r
def uptoBulkEntry {H : Type} : Lit × DataW H → Nat
  | (.string bytes, d) => bytes.length + uptoBulk d + 1
  | (_, d) => uptoBulk d + 1
 end
def uptoSmall : (H : Type) → List (DataW H) → Bool := fun _ ds => decide (uptoBulkAll ds ≤ 1048576)
def OpenSpec.upto (s : _root_.Go.ChangeSpec) : _root_.Go.OpenSpec := { _root_.Go.OpenSpec.ofChange s with cond := some uptoSmall }

/-- 'fairleadlaw07.ActValues', WHERE WHAT IT READS IS OF BULK AT MOST 1048576: true; the input reads as it did. -/
def actValuesUptoRow : OpenClaim := { program := "ytleegkeoggbkhaa", sum := "d890d32765c292347e89763b9fdec4e4f6ee3e08cbdb89a332365a7224dc95cd", func := "fairlead/fairleadlaw07.ActValues", spec := "actValues", apart := false, narrowed := true }
def ActValuesUptoSaid : Prop := actValuesUptoRow.holds Try.pinned (OpenSpec.upto actValuesSpec)

/-- 'fairleadlaw07.ActOf', WHERE WHAT IT READS IS OF BULK AT MOST 1048576: true; the input reads as it did. -/
def actOfUptoRow : OpenClaim := { program := "ytleegkeoggbkhaa", sum := "d890d32765c292347e89763b9fdec4e4f6ee3e08cbdb89a332365a7224dc95cd", func := "fairlead/fairleadlaw07.ActOf", spec := "actOf", apart := false, narrowed := true }
def ActOfUptoSaid : Prop := actOfUptoRow.holds Try.pinned (OpenSpec.upto actOfSpec)

/-- 'fairleadlaw07.ActBack', WHERE WHAT IT READS IS OF BULK AT MOST 1048576: true; the input reads as it did. -/
def actBackUptoRow : OpenClaim := { program := "ytleegkeoggbkhaa", sum := "d890d32765c292347e89763b9fdec4e4f6ee3e08cbdb89a332365a7224dc95cd", func := "fairlead/fairleadlaw07.ActBack", spec := "actBack", apart := false, narrowed := true }
def ActBackUptoSaid : Prop := actBackUptoRow.holds Try.pinned (OpenSpec.upto actBackSpec)

/-- 'fairleadlaw07.ActMost', WHERE WHAT IT READS IS OF BULK AT MOST 1048576: true; the input reads as it did. -/
def actMostUptoRow : OpenClaim := { program := "ytleegkeoggbkhaa", sum := "d890d32765c292347e89763b9fdec4e4f6ee3e08cbdb89a332365a7224dc95cd", func := "fairlead/fairleadlaw07.ActMost", spec := "actMost", apart := false, narrowed := true }
def ActMostUptoSaid : Prop := actMostUptoRow.holds Try.pinned (OpenSpec.upto actMostSpec)

/-- 'fairleadlaw07.ActLeast', WHERE WHAT IT READS IS OF BULK AT MOST 1048576: true; the input reads as it did. -/
def actLeastUptoRow : OpenClaim := { program := "ytleegkeoggbkhaa", sum := "d890d32765c292347e89763b9fdec4e4f6ee3e08cbdb89a332365a7224dc95cd", func := "fairlead/fairleadlaw07.ActLeast", spec := "actLeast", apart := false, narrowed := true }
def ActLeastUptoSaid : Prop := actLeastUptoRow.holds Try.pinned (OpenSpec.upto actLeastSpec)

/-- 'fairleadlaw07.ActJoined', WHERE WHAT IT READS IS OF BULK AT MOST 1048576: true; the input reads as it did. -/
def actJoinedUptoRow : OpenClaim := { program := "ytleegkeoggbkhaa", sum := "d890d32765c292347e89763b9fdec4e4f6ee3e08cbdb89a332365a7224dc95cd", func := "fairlead/fairleadlaw07.ActJoined", spec := "actJoined", apart := false, narrowed := true }
def ActJoinedUptoSaid : Prop := actJoinedUptoRow.holds Try.pinned (OpenSpec.upto actJoinedSpec)

end Rows
end Go.Proofs.Ytleegkeoggbkhaa
