/-
  No cell of these rows narrows 'for every input' (looked for: loops, veiled, ifaces, maps, wideKeys, modest, calm, conditions, laid).
  DERIVED. THE GIVEN ROWS OF THIS SEAT. 5 by the template 'for every input the law returns true; each argument reads behind the call as it read before'; 0 by the template 'total and deterministic' (their statements: YteojfjlklikaoaaTotals.lean).
  GIVEN WITH THE SEED: the statements are not yours to turn. If you find one false, say at which input.
  Laid BY PROGRAM, IN A SANDBOX (cutbox-rows.mjs): the forced cells as the released guide's own fill.sh prints them over the translation 05ab0db172b3cbc7… (all of the seat's roots in one cut). By AI agents, Wed Nov 11 2026. No macro, syntax, notation, axiom, sorry.
-/
import Derived.Test.YteojfjlklikaoaaChecked
import GoSem.Claim
import GoSem.ClaimJoined
import GoSem.ClaimMapViews
import Derived.JoinedTies
import Derived.KernelRfl
namespace Go.Proofs.Yteojfjlklikaoaa
/- THE CELL 'sum', in the pinned program and in every row, IS THE sha256 OF THE DUMP (.gsa) THAT YteojfjlklikaoaaProg.lean LOADS. Nothing in Lean hashes anything: it is a label: what it is worth is what the hold of that sum in a sandbox is worth. -/
noncomputable def Try.pinned : Pinned := { name := "yteojfjlklikaoaa", sum := "05ab0db172b3cbc77dd1a2237870c8ff633fd754833b78e1a2732fa41b77e2c6", checked := Try.checked }
namespace Rows
def none {H : Type} : Left H := { results := [], args := [] }

/-- 'fairleadlaw15.StackPlays': WHATEVER THE INPUT: true; the input reads as it did. -/
def stackPlaysSpec : ChangeSpec := { name := "stackPlays", fn := fun _ => fun
  | [d1, d2] => { results := [.lit (.bool true)], args := [d1, d2] }
  | _ => none }
def stackPlaysRow : OpenClaim := { program := "yteojfjlklikaoaa", sum := "05ab0db172b3cbc77dd1a2237870c8ff633fd754833b78e1a2732fa41b77e2c6", func := "fairlead/fairleadlaw15.StackPlays", spec := "stackPlays", unfollowed := true, recurses := true, apart := false }
def StackPlaysSaid : Prop := stackPlaysRow.holds Try.pinned (OpenSpec.ofChange stackPlaysSpec)

/-- ITS FALSE NEIGHBOUR: 'it returns false'. Refute it at one input. -/
def stackPlaysWrong : ChangeSpec := { name := "stackPlays", fn := fun _ => fun
  | [d1, d2] => { results := [.lit (.bool false)], args := [d1, d2] }
  | _ => none }
def StackPlaysWrongFalsely : Prop := stackPlaysRow.holds Try.pinned (OpenSpec.ofChange stackPlaysWrong)

/-- 'fairleadlaw15.StackMost': WHATEVER THE INPUT: true; the input reads as it did. -/
def stackMostSpec : ChangeSpec := { name := "stackMost", fn := fun _ => fun
  | [d1, d2] => { results := [.lit (.bool true)], args := [d1, d2] }
  | _ => none }
def stackMostRow : OpenClaim := { program := "yteojfjlklikaoaa", sum := "05ab0db172b3cbc77dd1a2237870c8ff633fd754833b78e1a2732fa41b77e2c6", func := "fairlead/fairleadlaw15.StackMost", spec := "stackMost", unfollowed := true, recurses := true, apart := false }
def StackMostSaid : Prop := stackMostRow.holds Try.pinned (OpenSpec.ofChange stackMostSpec)

/-- ITS FALSE NEIGHBOUR: 'it returns false'. Refute it at one input. -/
def stackMostWrong : ChangeSpec := { name := "stackMost", fn := fun _ => fun
  | [d1, d2] => { results := [.lit (.bool false)], args := [d1, d2] }
  | _ => none }
def StackMostWrongFalsely : Prop := stackMostRow.holds Try.pinned (OpenSpec.ofChange stackMostWrong)

/-- 'fairleadlaw15.StackMore': WHATEVER THE INPUT: true; the input reads as it did. -/
def stackMoreSpec : ChangeSpec := { name := "stackMore", fn := fun _ => fun
  | [d1, d2, d3] => { results := [.lit (.bool true)], args := [d1, d2, d3] }
  | _ => none }
def stackMoreRow : OpenClaim := { program := "yteojfjlklikaoaa", sum := "05ab0db172b3cbc77dd1a2237870c8ff633fd754833b78e1a2732fa41b77e2c6", func := "fairlead/fairleadlaw15.StackMore", spec := "stackMore", unfollowed := true, recurses := true, apart := false }
def StackMoreSaid : Prop := stackMoreRow.holds Try.pinned (OpenSpec.ofChange stackMoreSpec)

/-- ITS FALSE NEIGHBOUR: 'it returns false'. Refute it at one input. -/
def stackMoreWrong : ChangeSpec := { name := "stackMore", fn := fun _ => fun
  | [d1, d2, d3] => { results := [.lit (.bool false)], args := [d1, d2, d3] }
  | _ => none }
def StackMoreWrongFalsely : Prop := stackMoreRow.holds Try.pinned (OpenSpec.ofChange stackMoreWrong)

/-- 'fairleadlaw15.StackFull': WHATEVER THE INPUT: true; the input reads as it did. -/
def stackFullSpec : ChangeSpec := { name := "stackFull", fn := fun _ => fun
  | [d] => { results := [.lit (.bool true)], args := [d] }
  | _ => none }
def stackFullRow : OpenClaim := { program := "yteojfjlklikaoaa", sum := "05ab0db172b3cbc77dd1a2237870c8ff633fd754833b78e1a2732fa41b77e2c6", func := "fairlead/fairleadlaw15.StackFull", spec := "stackFull", unfollowed := true, recurses := true, apart := false }
def StackFullSaid : Prop := stackFullRow.holds Try.pinned (OpenSpec.ofChange stackFullSpec)

/-- ITS FALSE NEIGHBOUR: 'it returns false'. Refute it at one input. -/
def stackFullWrong : ChangeSpec := { name := "stackFull", fn := fun _ => fun
  | [d] => { results := [.lit (.bool false)], args := [d] }
  | _ => none }
def StackFullWrongFalsely : Prop := stackFullRow.holds Try.pinned (OpenSpec.ofChange stackFullWrong)

/-- 'fairleadlaw15.StackFork': WHATEVER THE INPUT: true; the input reads as it did. -/
def stackForkSpec : ChangeSpec := { name := "stackFork", fn := fun _ => fun
  | [d1, d2, d3] => { results := [.lit (.bool true)], args := [d1, d2, d3] }
  | _ => none }
def stackForkRow : OpenClaim := { program := "yteojfjlklikaoaa", sum := "05ab0db172b3cbc77dd1a2237870c8ff633fd754833b78e1a2732fa41b77e2c6", func := "fairlead/fairleadlaw15.StackFork", spec := "stackFork", unfollowed := true, recurses := true, apart := false }
def StackForkSaid : Prop := stackForkRow.holds Try.pinned (OpenSpec.ofChange stackForkSpec)

/-- ITS FALSE NEIGHBOUR: 'it returns false'. Refute it at one input. -/
def stackForkWrong : ChangeSpec := { name := "stackFork", fn := fun _ => fun
  | [d1, d2, d3] => { results := [.lit (.bool false)], args := [d1, d2, d3] }
  | _ => none }
def StackForkWrongFalsely : Prop := stackForkRow.holds Try.pinned (OpenSpec.ofChange stackForkWrong)

/- THE SECOND FORM. 'bulk': how many values and letters a reading holds, each counted each time it is reached (what is shared counts as often as it is met; a slice's spare places count too). A statement '..UptoSaid' is the law's where the arguments, and the package variables that the reading takes, are together of bulk at most 1048576: NARROWER than '..Said'. Prove '..Said' where nothing that the law and all that it calls make is longer than what came in: it says more and counts as full. Else prove '..UptoSaid'. A law counts once. -/
mutual
def uptoBulk {H : Type} : DataW H → Nat
  | .lit (.string bytes) => bytes.length + 1
  | .lit _ => 1
  | .nil => 1
  | .ptr d => uptoBulk d + 1
  | .slice elems spare => uptoBulkAll elems + uptoBulkAll spare + 1
  | .agg parts => uptoBulkAll parts + 1
  | .iface _ d => uptoBulk d + 1
  | .map entries => uptoBulkEntries entries + 1
  | .held _ => 1
def uptoBulkAll {H : Type} : List (DataW H) → Nat
  | [] => 0
  | d :: r => uptoBulk d + uptoBulkAll r
def uptoBulkEntries {H : Type} : List (Lit × DataW H) → Nat
  | [] => 0
  | x :: r => uptoBulkEntry x + uptoBulkEntries r
def uptoBulkEntry {H : Type} : Lit × DataW H → Nat
  | (.string bytes, d) => bytes.length + uptoBulk d + 1
  | (_, d) => uptoBulk d + 1
 end
def uptoSmall : (H : Type) → List (DataW H) → Bool := fun _ ds => decide (uptoBulkAll ds ≤ 1048576)
def OpenSpec.upto (s : _root_.Go.ChangeSpec) : _root_.Go.OpenSpec := { _root_.Go.OpenSpec.ofChange s with cond := some uptoSmall }

/-- 'fairleadlaw15.StackPlays', WHERE WHAT IT READS IS OF BULK AT MOST 1048576: true; the input reads as it did. -/
def stackPlaysUptoRow : OpenClaim := { program := "yteojfjlklikaoaa", sum := "05ab0db172b3cbc77dd1a2237870c8ff633fd754833b78e1a2732fa41b77e2c6", func := "fairlead/fairleadlaw15.StackPlays", spec := "stackPlays", unfollowed := true, recurses := true, apart := false, narrowed := true }
def StackPlaysUptoSaid : Prop := stackPlaysUptoRow.holds Try.pinned (OpenSpec.upto stackPlaysSpec)

/-- 'fairleadlaw15.StackMost', WHERE WHAT IT READS IS OF BULK AT MOST 1048576: true; the input reads as it did. -/
def stackMostUptoRow : OpenClaim := { program := "yteojfjlklikaoaa", sum := "05ab0db172b3cbc77dd1a2237870c8ff633fd754833b78e1a2732fa41b77e2c6", func := "fairlead/fairleadlaw15.StackMost", spec := "stackMost", unfollowed := true, recurses := true, apart := false, narrowed := true }
def StackMostUptoSaid : Prop := stackMostUptoRow.holds Try.pinned (OpenSpec.upto stackMostSpec)

/-- 'fairleadlaw15.StackMore', WHERE WHAT IT READS IS OF BULK AT MOST 1048576: true; the input reads as it did. -/
def stackMoreUptoRow : OpenClaim := { program := "yteojfjlklikaoaa", sum := "05ab0db172b3cbc77dd1a2237870c8ff633fd754833b78e1a2732fa41b77e2c6", func := "fairlead/fairleadlaw15.StackMore", spec := "stackMore", unfollowed := true, recurses := true, apart := false, narrowed := true }
def StackMoreUptoSaid : Prop := stackMoreUptoRow.holds Try.pinned (OpenSpec.upto stackMoreSpec)

/-- 'fairleadlaw15.StackFull', WHERE WHAT IT READS IS OF BULK AT MOST 1048576: true; the input reads as it did. -/
def stackFullUptoRow : OpenClaim := { program := "yteojfjlklikaoaa", sum := "05ab0db172b3cbc77dd1a2237870c8ff633fd754833b78e1a2732fa41b77e2c6", func := "fairlead/fairleadlaw15.StackFull", spec := "stackFull", unfollowed := true, recurses := true, apart := false, narrowed := true }
def StackFullUptoSaid : Prop := stackFullUptoRow.holds Try.pinned (OpenSpec.upto stackFullSpec)

/-- 'fairleadlaw15.StackFork', WHERE WHAT IT READS IS OF BULK AT MOST 1048576: true; the input reads as it did. -/
def stackForkUptoRow : OpenClaim := { program := "yteojfjlklikaoaa", sum := "05ab0db172b3cbc77dd1a2237870c8ff633fd754833b78e1a2732fa41b77e2c6", func := "fairlead/fairleadlaw15.StackFork", spec := "stackFork", unfollowed := true, recurses := true, apart := false, narrowed := true }
def StackForkUptoSaid : Prop := stackForkUptoRow.holds Try.pinned (OpenSpec.upto stackForkSpec)

end Rows
end Go.Proofs.Yteojfjlklikaoaa
