/-
  No cell of these rows narrows 'for every input' (looked for: loops, veiled, ifaces, maps, wideKeys, modest, calm, conditions, laid).
  DERIVED. THE GIVEN ROWS OF THIS SEAT. 6 by the template 'for every input the law returns true; each argument reads behind the call as it read before'; 0 by the template 'total and deterministic' (their statements: YtcomfhfednieoaaTotals.lean).
  GIVEN WITH THE SEED: the statements are not yours to turn. If you find one false, say at which input.
  Laid BY PROGRAM, IN A SANDBOX (cutbox-rows.mjs): the forced cells as the released guide's own fill.sh prints them over the translation 3d73e641a138fc1c… (all of the seat's roots in one cut). By AI agents, Wed Nov 11 2026. No macro, syntax, notation, axiom, sorry.
-/
import Derived.Test.YtcomfhfednieoaaChecked
import GoSem.Claim
import GoSem.ClaimJoined
import GoSem.ClaimMapViews
import Derived.JoinedTies
import Derived.KernelRfl
namespace Go.Proofs.Ytcomfhfednieoaa
/- THE CELL 'sum', in the pinned program and in every row, IS THE sha256 OF THE DUMP (.gsa) THAT YtcomfhfednieoaaProg.lean LOADS. Nothing in Lean hashes anything: it is a label: what it is worth is what the hold of that sum in a sandbox is worth. -/
noncomputable def Try.pinned : Pinned := { name := "ytcomfhfednieoaa", sum := "3d73e641a138fc1c9726ddfe79d672a42f6755386ed3534b4b82654178bbf648", checked := Try.checked }
namespace Rows
def none {H : Type} : Left H := { results := [], args := [] }

/-- 'fairleadlaw02.PackLays': WHATEVER THE INPUT: true; the input reads as it did. -/
def packLaysSpec : ChangeSpec := { name := "packLays", fn := fun _ => fun
  | [d] => { results := [.lit (.bool true)], args := [d] }
  | _ => none }
def packLaysRow : OpenClaim := { program := "ytcomfhfednieoaa", sum := "3d73e641a138fc1c9726ddfe79d672a42f6755386ed3534b4b82654178bbf648", func := "fairlead/fairleadlaw02.PackLays", spec := "packLays", apart := false }
def PackLaysSaid : Prop := packLaysRow.holds Try.pinned (OpenSpec.ofChange packLaysSpec)

/-- ITS FALSE NEIGHBOUR: 'it returns false'. Refute it at one input. -/
def packLaysWrong : ChangeSpec := { name := "packLays", fn := fun _ => fun
  | [d] => { results := [.lit (.bool false)], args := [d] }
  | _ => none }
def PackLaysWrongFalsely : Prop := packLaysRow.holds Try.pinned (OpenSpec.ofChange packLaysWrong)

/-- 'fairleadlaw02.PackReads': WHATEVER THE INPUT: true; the input reads as it did. -/
def packReadsSpec : ChangeSpec := { name := "packReads", fn := fun _ => fun
  | [d1, d2] => { results := [.lit (.bool true)], args := [d1, d2] }
  | _ => none }
def packReadsRow : OpenClaim := { program := "ytcomfhfednieoaa", sum := "3d73e641a138fc1c9726ddfe79d672a42f6755386ed3534b4b82654178bbf648", func := "fairlead/fairleadlaw02.PackReads", spec := "packReads", unfollowed := true, recurses := true, apart := false }
def PackReadsSaid : Prop := packReadsRow.holds Try.pinned (OpenSpec.ofChange packReadsSpec)

/-- ITS FALSE NEIGHBOUR: 'it returns false'. Refute it at one input. -/
def packReadsWrong : ChangeSpec := { name := "packReads", fn := fun _ => fun
  | [d1, d2] => { results := [.lit (.bool false)], args := [d1, d2] }
  | _ => none }
def PackReadsWrongFalsely : Prop := packReadsRow.holds Try.pinned (OpenSpec.ofChange packReadsWrong)

/-- 'fairleadlaw02.PackBack': WHATEVER THE INPUT: true; the input reads as it did. -/
def packBackSpec : ChangeSpec := { name := "packBack", fn := fun _ => fun
  | [d] => { results := [.lit (.bool true)], args := [d] }
  | _ => none }
def packBackRow : OpenClaim := { program := "ytcomfhfednieoaa", sum := "3d73e641a138fc1c9726ddfe79d672a42f6755386ed3534b4b82654178bbf648", func := "fairlead/fairleadlaw02.PackBack", spec := "packBack", unfollowed := true, recurses := true, apart := false }
def PackBackSaid : Prop := packBackRow.holds Try.pinned (OpenSpec.ofChange packBackSpec)

/-- ITS FALSE NEIGHBOUR: 'it returns false'. Refute it at one input. -/
def packBackWrong : ChangeSpec := { name := "packBack", fn := fun _ => fun
  | [d] => { results := [.lit (.bool false)], args := [d] }
  | _ => none }
def PackBackWrongFalsely : Prop := packBackRow.holds Try.pinned (OpenSpec.ofChange packBackWrong)

/-- 'fairleadlaw02.PackAgain': WHATEVER THE INPUT: true; the input reads as it did. -/
def packAgainSpec : ChangeSpec := { name := "packAgain", fn := fun _ => fun
  | [d1, d2] => { results := [.lit (.bool true)], args := [d1, d2] }
  | _ => none }
def packAgainRow : OpenClaim := { program := "ytcomfhfednieoaa", sum := "3d73e641a138fc1c9726ddfe79d672a42f6755386ed3534b4b82654178bbf648", func := "fairlead/fairleadlaw02.PackAgain", spec := "packAgain", unfollowed := true, recurses := true, apart := false }
def PackAgainSaid : Prop := packAgainRow.holds Try.pinned (OpenSpec.ofChange packAgainSpec)

/-- ITS FALSE NEIGHBOUR: 'it returns false'. Refute it at one input. -/
def packAgainWrong : ChangeSpec := { name := "packAgain", fn := fun _ => fun
  | [d1, d2] => { results := [.lit (.bool false)], args := [d1, d2] }
  | _ => none }
def PackAgainWrongFalsely : Prop := packAgainRow.holds Try.pinned (OpenSpec.ofChange packAgainWrong)

/-- 'fairleadlaw02.PackStays': WHATEVER THE INPUT: true; the input reads as it did. -/
def packStaysSpec : ChangeSpec := { name := "packStays", fn := fun _ => fun
  | [d1, d2, d3] => { results := [.lit (.bool true)], args := [d1, d2, d3] }
  | _ => none }
def packStaysRow : OpenClaim := { program := "ytcomfhfednieoaa", sum := "3d73e641a138fc1c9726ddfe79d672a42f6755386ed3534b4b82654178bbf648", func := "fairlead/fairleadlaw02.PackStays", spec := "packStays", unfollowed := true, recurses := true, apart := false }
def PackStaysSaid : Prop := packStaysRow.holds Try.pinned (OpenSpec.ofChange packStaysSpec)

/-- ITS FALSE NEIGHBOUR: 'it returns false'. Refute it at one input. -/
def packStaysWrong : ChangeSpec := { name := "packStays", fn := fun _ => fun
  | [d1, d2, d3] => { results := [.lit (.bool false)], args := [d1, d2, d3] }
  | _ => none }
def PackStaysWrongFalsely : Prop := packStaysRow.holds Try.pinned (OpenSpec.ofChange packStaysWrong)

/-- 'fairleadlaw02.PackCut': WHATEVER THE INPUT: true; the input reads as it did. -/
def packCutSpec : ChangeSpec := { name := "packCut", fn := fun _ => fun
  | [d1, d2] => { results := [.lit (.bool true)], args := [d1, d2] }
  | _ => none }
def packCutRow : OpenClaim := { program := "ytcomfhfednieoaa", sum := "3d73e641a138fc1c9726ddfe79d672a42f6755386ed3534b4b82654178bbf648", func := "fairlead/fairleadlaw02.PackCut", spec := "packCut", unfollowed := true, recurses := true, apart := false }
def PackCutSaid : Prop := packCutRow.holds Try.pinned (OpenSpec.ofChange packCutSpec)

/-- ITS FALSE NEIGHBOUR: 'it returns false'. Refute it at one input. -/
def packCutWrong : ChangeSpec := { name := "packCut", fn := fun _ => fun
  | [d1, d2] => { results := [.lit (.bool false)], args := [d1, d2] }
  | _ => none }
def PackCutWrongFalsely : Prop := packCutRow.holds Try.pinned (OpenSpec.ofChange packCutWrong)

/- THE SECOND FORM. 'bulk': how many values and letters a reading holds, each counted each time it is reached (what is shared counts as often as it is met; a slice's spare places count too). A statement '..UptoSaid' is the law's where the arguments, and the package variables that the reading takes, are together of bulk at most 1048576: NARROWER than '..Said'. Prove '..Said' where nothing that the law and all that it calls make is longer than what came in: it says more and counts as full. Else prove '..UptoSaid'. A law counts once. -/
mutual
def uptoBulk {H : Type} : DataW H → Nat
  | .lit (.string bytes) => bytes.length + 1
  | .lit _ => 1
  | .nil => 1
  | .ptr d => uptoBulk d + 1
  | .slice elems spare => uptoBulkAll elems + uptoBulkAll spare + 1
  | .agg parts => uptoBulkAll parts + 1
  | .iface _ d => uptoBulk d + 1
  | .map entries => uptoBulkEntries entries + 1
  | .held _ => 1
def uptoBulkAll {H : Type} : List (DataW H) → Nat
  | [] => 0
  | d :: r => uptoBulk d + uptoBulkAll r
def uptoBulkEntries {H : Type} : List (Lit × DataW H) → Nat
  | [] => 0
  | x :: r => uptoBulkEntry x + uptoBulkEntries r
def uptoBulkEntry {H : Type} : Lit × DataW H → Nat
  | (.string bytes, d) => bytes.length + uptoBulk d + 1
  | (_, d) => uptoBulk d + 1
 end
def uptoSmall : (H : Type) → List (DataW H) → Bool := fun _ ds => decide (uptoBulkAll ds ≤ 1048576)
def OpenSpec.upto (s : _root_.Go.ChangeSpec) : _root_.Go.OpenSpec := { _root_.Go.OpenSpec.ofChange s with cond := some uptoSmall }

/-- 'fairleadlaw02.PackLays', WHERE WHAT IT READS IS OF BULK AT MOST 1048576: true; the input reads as it did. -/
def packLaysUptoRow : OpenClaim := { program := "ytcomfhfednieoaa", sum := "3d73e641a138fc1c9726ddfe79d672a42f6755386ed3534b4b82654178bbf648", func := "fairlead/fairleadlaw02.PackLays", spec := "packLays", apart := false, narrowed := true }
def PackLaysUptoSaid : Prop := packLaysUptoRow.holds Try.pinned (OpenSpec.upto packLaysSpec)

/-- 'fairleadlaw02.PackReads', WHERE WHAT IT READS IS OF BULK AT MOST 1048576: true; the input reads as it did. -/
def packReadsUptoRow : OpenClaim := { program := "ytcomfhfednieoaa", sum := "3d73e641a138fc1c9726ddfe79d672a42f6755386ed3534b4b82654178bbf648", func := "fairlead/fairleadlaw02.PackReads", spec := "packReads", unfollowed := true, recurses := true, apart := false, narrowed := true }
def PackReadsUptoSaid : Prop := packReadsUptoRow.holds Try.pinned (OpenSpec.upto packReadsSpec)

/-- 'fairleadlaw02.PackBack', WHERE WHAT IT READS IS OF BULK AT MOST 1048576: true; the input reads as it did. -/
def packBackUptoRow : OpenClaim := { program := "ytcomfhfednieoaa", sum := "3d73e641a138fc1c9726ddfe79d672a42f6755386ed3534b4b82654178bbf648", func := "fairlead/fairleadlaw02.PackBack", spec := "packBack", unfollowed := true, recurses := true, apart := false, narrowed := true }
def PackBackUptoSaid : Prop := packBackUptoRow.holds Try.pinned (OpenSpec.upto packBackSpec)

/-- 'fairleadlaw02.PackAgain', WHERE WHAT IT READS IS OF BULK AT MOST 1048576: true; the input reads as it did. -/
def packAgainUptoRow : OpenClaim := { program := "ytcomfhfednieoaa", sum := "3d73e641a138fc1c9726ddfe79d672a42f6755386ed3534b4b82654178bbf648", func := "fairlead/fairleadlaw02.PackAgain", spec := "packAgain", unfollowed := true, recurses := true, apart := false, narrowed := true }
def PackAgainUptoSaid : Prop := packAgainUptoRow.holds Try.pinned (OpenSpec.upto packAgainSpec)

/-- 'fairleadlaw02.PackStays', WHERE WHAT IT READS IS OF BULK AT MOST 1048576: true; the input reads as it did. -/
def packStaysUptoRow : OpenClaim := { program := "ytcomfhfednieoaa", sum := "3d73e641a138fc1c9726ddfe79d672a42f6755386ed3534b4b82654178bbf648", func := "fairlead/fairleadlaw02.PackStays", spec := "packStays", unfollowed := true, recurses := true, apart := false, narrowed := true }
def PackStaysUptoSaid : Prop := packStaysUptoRow.holds Try.pinned (OpenSpec.upto packStaysSpec)

/-- 'fairleadlaw02.PackCut', WHERE WHAT IT READS IS OF BULK AT MOST 1048576: true; the input reads as it did. -/
def packCutUptoRow : OpenClaim := { program := "ytcomfhfednieoaa", sum := "3d73e641a138fc1c9726ddfe79d672a42f6755386ed3534b4b82654178bbf648", func := "fairlead/fairleadlaw02.PackCut", spec := "packCut", unfollowed := true, recurses := true, apart := false, narrowed := true }
def PackCutUptoSaid : Prop := packCutUptoRow.holds Try.pinned (OpenSpec.upto packCutSpec)

end Rows
end Go.Proofs.Ytcomfhfednieoaa
