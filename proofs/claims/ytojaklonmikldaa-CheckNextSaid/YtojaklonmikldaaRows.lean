/-
  No cell of these rows narrows 'for every input' (looked for: loops, veiled, ifaces, maps, wideKeys, modest, calm, conditions, laid).
  DERIVED. THE GIVEN ROWS OF THIS SEAT. 6 by the template 'for every input the law returns true; each argument reads behind the call as it read before'; 0 by the template 'total and deterministic' (their statements: YtojaklonmikldaaTotals.lean).
  GIVEN WITH THE SEED: the statements are not yours to turn. If you find one false, say at which input.
  Laid BY PROGRAM, IN A SANDBOX (cutbox-rows.mjs): the forced cells as the released guide's own fill.sh prints them over the translation d9ed056428de8b10… (all of the seat's roots in one cut). By AI agents, Wed Nov 11 2026. No macro, syntax, notation, axiom, sorry.
-/
import Derived.Test.YtojaklonmikldaaChecked
import GoSem.Claim
import GoSem.ClaimJoined
import GoSem.ClaimMapViews
import Derived.JoinedTies
import Derived.KernelRfl
namespace Go.Proofs.Ytojaklonmikldaa
/- THE CELL 'sum', in the pinned program and in every row, IS THE sha256 OF THE DUMP (.gsa) THAT YtojaklonmikldaaProg.lean LOADS. Nothing in Lean hashes anything: it is a label: what it is worth is what the hold of that sum in a sandbox is worth. -/
noncomputable def Try.pinned : Pinned := { name := "ytojaklonmikldaa", sum := "d9ed056428de8b1095145203517cc7c3442f09b75951f223d40e42cdbca0f698", checked := Try.checked }
namespace Rows
def none {H : Type} : Left H := { results := [], args := [] }

/-- 'fairleadlaw05.CheckTells': WHATEVER THE INPUT: true; the input reads as it did. -/
def checkTellsSpec : ChangeSpec := { name := "checkTells", fn := fun _ => fun
  | [d] => { results := [.lit (.bool true)], args := [d] }
  | _ => none }
def checkTellsRow : OpenClaim := { program := "ytojaklonmikldaa", sum := "d9ed056428de8b1095145203517cc7c3442f09b75951f223d40e42cdbca0f698", func := "fairlead/fairleadlaw05.CheckTells", spec := "checkTells", apart := false }
def CheckTellsSaid : Prop := checkTellsRow.holds Try.pinned (OpenSpec.ofChange checkTellsSpec)

/-- ITS FALSE NEIGHBOUR: 'it returns false'. Refute it at one input. -/
def checkTellsWrong : ChangeSpec := { name := "checkTells", fn := fun _ => fun
  | [d] => { results := [.lit (.bool false)], args := [d] }
  | _ => none }
def CheckTellsWrongFalsely : Prop := checkTellsRow.holds Try.pinned (OpenSpec.ofChange checkTellsWrong)

/-- 'fairleadlaw05.CheckMore': WHATEVER THE INPUT: true; the input reads as it did. -/
def checkMoreSpec : ChangeSpec := { name := "checkMore", fn := fun _ => fun
  | [d1, d2] => { results := [.lit (.bool true)], args := [d1, d2] }
  | _ => none }
def checkMoreRow : OpenClaim := { program := "ytojaklonmikldaa", sum := "d9ed056428de8b1095145203517cc7c3442f09b75951f223d40e42cdbca0f698", func := "fairlead/fairleadlaw05.CheckMore", spec := "checkMore", apart := false }
def CheckMoreSaid : Prop := checkMoreRow.holds Try.pinned (OpenSpec.ofChange checkMoreSpec)

/-- ITS FALSE NEIGHBOUR: 'it returns false'. Refute it at one input. -/
def checkMoreWrong : ChangeSpec := { name := "checkMore", fn := fun _ => fun
  | [d1, d2] => { results := [.lit (.bool false)], args := [d1, d2] }
  | _ => none }
def CheckMoreWrongFalsely : Prop := checkMoreRow.holds Try.pinned (OpenSpec.ofChange checkMoreWrong)

/-- 'fairleadlaw05.CheckTail': WHATEVER THE INPUT: true; the input reads as it did. -/
def checkTailSpec : ChangeSpec := { name := "checkTail", fn := fun _ => fun
  | [d1, d2] => { results := [.lit (.bool true)], args := [d1, d2] }
  | _ => none }
def checkTailRow : OpenClaim := { program := "ytojaklonmikldaa", sum := "d9ed056428de8b1095145203517cc7c3442f09b75951f223d40e42cdbca0f698", func := "fairlead/fairleadlaw05.CheckTail", spec := "checkTail", apart := false }
def CheckTailSaid : Prop := checkTailRow.holds Try.pinned (OpenSpec.ofChange checkTailSpec)

/-- ITS FALSE NEIGHBOUR: 'it returns false'. Refute it at one input. -/
def checkTailWrong : ChangeSpec := { name := "checkTail", fn := fun _ => fun
  | [d1, d2] => { results := [.lit (.bool false)], args := [d1, d2] }
  | _ => none }
def CheckTailWrongFalsely : Prop := checkTailRow.holds Try.pinned (OpenSpec.ofChange checkTailWrong)

/-- 'fairleadlaw05.CheckSpoilt': WHATEVER THE INPUT: true; the input reads as it did. -/
def checkSpoiltSpec : ChangeSpec := { name := "checkSpoilt", fn := fun _ => fun
  | [d1, d2, d3] => { results := [.lit (.bool true)], args := [d1, d2, d3] }
  | _ => none }
def checkSpoiltRow : OpenClaim := { program := "ytojaklonmikldaa", sum := "d9ed056428de8b1095145203517cc7c3442f09b75951f223d40e42cdbca0f698", func := "fairlead/fairleadlaw05.CheckSpoilt", spec := "checkSpoilt", apart := false }
def CheckSpoiltSaid : Prop := checkSpoiltRow.holds Try.pinned (OpenSpec.ofChange checkSpoiltSpec)

/-- ITS FALSE NEIGHBOUR: 'it returns false'. Refute it at one input. -/
def checkSpoiltWrong : ChangeSpec := { name := "checkSpoilt", fn := fun _ => fun
  | [d1, d2, d3] => { results := [.lit (.bool false)], args := [d1, d2, d3] }
  | _ => none }
def CheckSpoiltWrongFalsely : Prop := checkSpoiltRow.holds Try.pinned (OpenSpec.ofChange checkSpoiltWrong)

/-- 'fairleadlaw05.CheckNext': WHATEVER THE INPUT: true; the input reads as it did. -/
def checkNextSpec : ChangeSpec := { name := "checkNext", fn := fun _ => fun
  | [d1, d2] => { results := [.lit (.bool true)], args := [d1, d2] }
  | _ => none }
def checkNextRow : OpenClaim := { program := "ytojaklonmikldaa", sum := "d9ed056428de8b1095145203517cc7c3442f09b75951f223d40e42cdbca0f698", func := "fairlead/fairleadlaw05.CheckNext", spec := "checkNext", apart := false }
def CheckNextSaid : Prop := checkNextRow.holds Try.pinned (OpenSpec.ofChange checkNextSpec)

/-- ITS FALSE NEIGHBOUR: 'it returns false'. Refute it at one input. -/
def checkNextWrong : ChangeSpec := { name := "checkNext", fn := fun _ => fun
  | [d1, d2] => { results := [.lit (.bool false)], args := [d1, d2] }
  | _ => none }
def CheckNextWrongFalsely : Prop := checkNextRow.holds Try.pinned (OpenSpec.ofChange checkNextWrong)

/-- 'fairleadlaw05.CheckAhead': WHATEVER THE INPUT: true; the input reads as it did. -/
def checkAheadSpec : ChangeSpec := { name := "checkAhead", fn := fun _ => fun
  | [d] => { results := [.lit (.bool true)], args := [d] }
  | _ => none }
def checkAheadRow : OpenClaim := { program := "ytojaklonmikldaa", sum := "d9ed056428de8b1095145203517cc7c3442f09b75951f223d40e42cdbca0f698", func := "fairlead/fairleadlaw05.CheckAhead", spec := "checkAhead", apart := false }
def CheckAheadSaid : Prop := checkAheadRow.holds Try.pinned (OpenSpec.ofChange checkAheadSpec)

/-- ITS FALSE NEIGHBOUR: 'it returns false'. Refute it at one input. -/
def checkAheadWrong : ChangeSpec := { name := "checkAhead", fn := fun _ => fun
  | [d] => { results := [.lit (.bool false)], args := [d] }
  | _ => none }
def CheckAheadWrongFalsely : Prop := checkAheadRow.holds Try.pinned (OpenSpec.ofChange checkAheadWrong)

/- THE SECOND FORM. 'bulk': how many values and letters a reading holds, each counted each time it is reached (what is shared counts as often as it is met; a slice's spare places count too). A statement '..UptoSaid' is the law's where the arguments, and the package variables that the reading takes, are together of bulk at most 1048576: NARROWER than '..Said'. Prove '..Said' where nothing that the law and all that it calls make is longer than what came in: it says more and counts as full. Else prove '..UptoSaid'. A law counts once. -/
mutual
def uptoBulk {H : Type} : DataW H → Nat
  | .lit (.string bytes) => bytes.length + 1
  | .lit _ => 1
  | .nil => 1
  | .ptr d => uptoBulk d + 1
  | .slice elems spare => uptoBulkAll elems + uptoBulkAll spare + 1
  | .agg parts => uptoBulkAll parts + 1
  | .iface _ d => uptoBulk d + 1
  | .map entries => uptoBulkEntries entries + 1
  | .held _ => 1
def uptoBulkAll {H : Type} : List (DataW H) → Nat
  | [] => 0
  | d :: r => uptoBulk d + uptoBulkAll r
def uptoBulkEntries {H : Type} : List (Lit × DataW H) → Nat
  | [] => 0
  | x :: r => uptoBulkEntry x + uptoBulkEntries r
def uptoBulkEntry {H : Type} : Lit × DataW H → Nat
  | (.string bytes, d) => bytes.length + uptoBulk d + 1
  | (_, d) => uptoBulk d + 1
 end
def uptoSmall : (H : Type) → List (DataW H) → Bool := fun _ ds => decide (uptoBulkAll ds ≤ 1048576)
def OpenSpec.upto (s : _root_.Go.ChangeSpec) : _root_.Go.OpenSpec := { _root_.Go.OpenSpec.ofChange s with cond := some uptoSmall }

/-- 'fairleadlaw05.CheckTells', WHERE WHAT IT READS IS OF BULK AT MOST 1048576: true; the input reads as it did. -/
def checkTellsUptoRow : OpenClaim := { program := "ytojaklonmikldaa", sum := "d9ed056428de8b1095145203517cc7c3442f09b75951f223d40e42cdbca0f698", func := "fairlead/fairleadlaw05.CheckTells", spec := "checkTells", apart := false, narrowed := true }
def CheckTellsUptoSaid : Prop := checkTellsUptoRow.holds Try.pinned (OpenSpec.upto checkTellsSpec)

/-- 'fairleadlaw05.CheckMore', WHERE WHAT IT READS IS OF BULK AT MOST 1048576: true; the input reads as it did. -/
def checkMoreUptoRow : OpenClaim := { program := "ytojaklonmikldaa", sum := "d9ed056428de8b1095145203517cc7c3442f09b75951f223d40e42cdbca0f698", func := "fairlead/fairleadlaw05.CheckMore", spec := "checkMore", apart := false, narrowed := true }
def CheckMoreUptoSaid : Prop := checkMoreUptoRow.holds Try.pinned (OpenSpec.upto checkMoreSpec)

/-- 'fairleadlaw05.CheckTail', WHERE WHAT IT READS IS OF BULK AT MOST 1048576: true; the input reads as it did. -/
def checkTailUptoRow : OpenClaim := { program := "ytojaklonmikldaa", sum := "d9ed056428de8b1095145203517cc7c3442f09b75951f223d40e42cdbca0f698", func := "fairlead/fairleadlaw05.CheckTail", spec := "checkTail", apart := false, narrowed := true }
def CheckTailUptoSaid : Prop := checkTailUptoRow.holds Try.pinned (OpenSpec.upto checkTailSpec)

/-- 'fairleadlaw05.CheckSpoilt', WHERE WHAT IT READS IS OF BULK AT MOST 1048576: true; the input reads as it did. -/
def checkSpoiltUptoRow : OpenClaim := { program := "ytojaklonmikldaa", sum := "d9ed056428de8b1095145203517cc7c3442f09b75951f223d40e42cdbca0f698", func := "fairlead/fairleadlaw05.CheckSpoilt", spec := "checkSpoilt", apart := false, narrowed := true }
def CheckSpoiltUptoSaid : Prop := checkSpoiltUptoRow.holds Try.pinned (OpenSpec.upto checkSpoiltSpec)

/-- 'fairleadlaw05.CheckNext', WHERE WHAT IT READS IS OF BULK AT MOST 1048576: true; the input reads as it did. -/
def checkNextUptoRow : OpenClaim := { program := "ytojaklonmikldaa", sum := "d9ed056428de8b1095145203517cc7c3442f09b75951f223d40e42cdbca0f698", func := "fairlead/fairleadlaw05.CheckNext", spec := "checkNext", apart := false, narrowed := true }
def CheckNextUptoSaid : Prop := checkNextUptoRow.holds Try.pinned (OpenSpec.upto checkNextSpec)

/-- 'fairleadlaw05.CheckAhead', WHERE WHAT IT READS IS OF BULK AT MOST 1048576: true; the input reads as it did. -/
def checkAheadUptoRow : OpenClaim := { program := "ytojaklonmikldaa", sum := "d9ed056428de8b1095145203517cc7c3442f09b75951f223d40e42cdbca0f698", func := "fairlead/fairleadlaw05.CheckAhead", spec := "checkAhead", apart := false, narrowed := true }
def CheckAheadUptoSaid : Prop := checkAheadUptoRow.holds Try.pinned (OpenSpec.upto checkAheadSpec)

end Rows
end Go.Proofs.Ytojaklonmikldaa
