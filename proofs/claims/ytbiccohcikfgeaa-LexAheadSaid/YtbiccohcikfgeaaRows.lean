/-
  No cell of these rows narrows 'for every input' (looked for: loops, veiled, ifaces, maps, wideKeys, modest, calm, conditions, laid).
  DERIVED. THE GIVEN ROWS OF THIS SEAT. 6 by the template 'for every input the law returns true; each argument reads behind the call as it read before'; 0 by the template 'total and deterministic' (their statements: YtbiccohcikfgeaaTotals.lean).
  GIVEN WITH THE SEED: the statements are not yours to turn. If you find one false, say at which input.
  Laid BY PROGRAM, IN A SANDBOX (cutbox-rows.mjs): the forced cells as the released guide's own fill.sh prints them over the translation 9db4f4aeeeb480ef… (all of the seat's roots in one cut). By AI agents, Wed Nov 11 2026. No macro, syntax, notation, axiom, sorry.
-/
import Derived.Test.YtbiccohcikfgeaaChecked
import GoSem.Claim
import GoSem.ClaimJoined
import GoSem.ClaimMapViews
import Derived.JoinedTies
import Derived.KernelRfl
namespace Go.Proofs.Ytbiccohcikfgeaa
/- THE CELL 'sum', in the pinned program and in every row, IS THE sha256 OF THE DUMP (.gsa) THAT YtbiccohcikfgeaaProg.lean LOADS. Nothing in Lean hashes anything: it is a label: what it is worth is what the hold of that sum in a sandbox is worth. -/
noncomputable def Try.pinned : Pinned := { name := "ytbiccohcikfgeaa", sum := "9db4f4aeeeb480efd6d5bf8e9dab9d1aa1ccd79e898d80306da150467f68ca62", checked := Try.checked }
namespace Rows
def none {H : Type} : Left H := { results := [], args := [] }

/-- 'fairleadlaw09.LexReads': WHATEVER THE INPUT: true; the input reads as it did. -/
def lexReadsSpec : ChangeSpec := { name := "lexReads", fn := fun _ => fun
  | [d] => { results := [.lit (.bool true)], args := [d] }
  | _ => none }
def lexReadsRow : OpenClaim := { program := "ytbiccohcikfgeaa", sum := "9db4f4aeeeb480efd6d5bf8e9dab9d1aa1ccd79e898d80306da150467f68ca62", func := "fairlead/fairleadlaw09.LexReads", spec := "lexReads", apart := false }
def LexReadsSaid : Prop := lexReadsRow.holds Try.pinned (OpenSpec.ofChange lexReadsSpec)

/-- ITS FALSE NEIGHBOUR: 'it returns false'. Refute it at one input. -/
def lexReadsWrong : ChangeSpec := { name := "lexReads", fn := fun _ => fun
  | [d] => { results := [.lit (.bool false)], args := [d] }
  | _ => none }
def LexReadsWrongFalsely : Prop := lexReadsRow.holds Try.pinned (OpenSpec.ofChange lexReadsWrong)

/-- 'fairleadlaw09.LexWords': WHATEVER THE INPUT: true; the input reads as it did. -/
def lexWordsSpec : ChangeSpec := { name := "lexWords", fn := fun _ => fun
  | [d] => { results := [.lit (.bool true)], args := [d] }
  | _ => none }
def lexWordsRow : OpenClaim := { program := "ytbiccohcikfgeaa", sum := "9db4f4aeeeb480efd6d5bf8e9dab9d1aa1ccd79e898d80306da150467f68ca62", func := "fairlead/fairleadlaw09.LexWords", spec := "lexWords", apart := false }
def LexWordsSaid : Prop := lexWordsRow.holds Try.pinned (OpenSpec.ofChange lexWordsSpec)

/-- ITS FALSE NEIGHBOUR: 'it returns false'. Refute it at one input. -/
def lexWordsWrong : ChangeSpec := { name := "lexWords", fn := fun _ => fun
  | [d] => { results := [.lit (.bool false)], args := [d] }
  | _ => none }
def LexWordsWrongFalsely : Prop := lexWordsRow.holds Try.pinned (OpenSpec.ofChange lexWordsWrong)

/-- 'fairleadlaw09.LexLies': WHATEVER THE INPUT: true; the input reads as it did. -/
def lexLiesSpec : ChangeSpec := { name := "lexLies", fn := fun _ => fun
  | [d] => { results := [.lit (.bool true)], args := [d] }
  | _ => none }
def lexLiesRow : OpenClaim := { program := "ytbiccohcikfgeaa", sum := "9db4f4aeeeb480efd6d5bf8e9dab9d1aa1ccd79e898d80306da150467f68ca62", func := "fairlead/fairleadlaw09.LexLies", spec := "lexLies", apart := false }
def LexLiesSaid : Prop := lexLiesRow.holds Try.pinned (OpenSpec.ofChange lexLiesSpec)

/-- ITS FALSE NEIGHBOUR: 'it returns false'. Refute it at one input. -/
def lexLiesWrong : ChangeSpec := { name := "lexLies", fn := fun _ => fun
  | [d] => { results := [.lit (.bool false)], args := [d] }
  | _ => none }
def LexLiesWrongFalsely : Prop := lexLiesRow.holds Try.pinned (OpenSpec.ofChange lexLiesWrong)

/-- 'fairleadlaw09.LexJoins': WHATEVER THE INPUT: true; the input reads as it did. -/
def lexJoinsSpec : ChangeSpec := { name := "lexJoins", fn := fun _ => fun
  | [d1, d2] => { results := [.lit (.bool true)], args := [d1, d2] }
  | _ => none }
def lexJoinsRow : OpenClaim := { program := "ytbiccohcikfgeaa", sum := "9db4f4aeeeb480efd6d5bf8e9dab9d1aa1ccd79e898d80306da150467f68ca62", func := "fairlead/fairleadlaw09.LexJoins", spec := "lexJoins", apart := false }
def LexJoinsSaid : Prop := lexJoinsRow.holds Try.pinned (OpenSpec.ofChange lexJoinsSpec)

/-- ITS FALSE NEIGHBOUR: 'it returns false'. Refute it at one input. -/
def lexJoinsWrong : ChangeSpec := { name := "lexJoins", fn := fun _ => fun
  | [d1, d2] => { results := [.lit (.bool false)], args := [d1, d2] }
  | _ => none }
def LexJoinsWrongFalsely : Prop := lexJoinsRow.holds Try.pinned (OpenSpec.ofChange lexJoinsWrong)

/-- 'fairleadlaw09.LexAhead': WHATEVER THE INPUT: true; the input reads as it did. -/
def lexAheadSpec : ChangeSpec := { name := "lexAhead", fn := fun _ => fun
  | [d1, d2] => { results := [.lit (.bool true)], args := [d1, d2] }
  | _ => none }
def lexAheadRow : OpenClaim := { program := "ytbiccohcikfgeaa", sum := "9db4f4aeeeb480efd6d5bf8e9dab9d1aa1ccd79e898d80306da150467f68ca62", func := "fairlead/fairleadlaw09.LexAhead", spec := "lexAhead", apart := false }
def LexAheadSaid : Prop := lexAheadRow.holds Try.pinned (OpenSpec.ofChange lexAheadSpec)

/-- ITS FALSE NEIGHBOUR: 'it returns false'. Refute it at one input. -/
def lexAheadWrong : ChangeSpec := { name := "lexAhead", fn := fun _ => fun
  | [d1, d2] => { results := [.lit (.bool false)], args := [d1, d2] }
  | _ => none }
def LexAheadWrongFalsely : Prop := lexAheadRow.holds Try.pinned (OpenSpec.ofChange lexAheadWrong)

/-- 'fairleadlaw09.LexWorth': WHATEVER THE INPUT: true; the input reads as it did. -/
def lexWorthSpec : ChangeSpec := { name := "lexWorth", fn := fun _ => fun
  | [d] => { results := [.lit (.bool true)], args := [d] }
  | _ => none }
def lexWorthRow : OpenClaim := { program := "ytbiccohcikfgeaa", sum := "9db4f4aeeeb480efd6d5bf8e9dab9d1aa1ccd79e898d80306da150467f68ca62", func := "fairlead/fairleadlaw09.LexWorth", spec := "lexWorth", apart := false }
def LexWorthSaid : Prop := lexWorthRow.holds Try.pinned (OpenSpec.ofChange lexWorthSpec)

/-- ITS FALSE NEIGHBOUR: 'it returns false'. Refute it at one input. -/
def lexWorthWrong : ChangeSpec := { name := "lexWorth", fn := fun _ => fun
  | [d] => { results := [.lit (.bool false)], args := [d] }
  | _ => none }
def LexWorthWrongFalsely : Prop := lexWorthRow.holds Try.pinned (OpenSpec.ofChange lexWorthWrong)

/- THE SECOND FORM. 'bulk': how many values and letters a reading holds, each counted each time it is reached (what is shared counts as often as it is met; a slice's spare places count too). A statement '..UptoSaid' is the law's where the arguments, and the package variables that the reading takes, are together of bulk at most 1048576: NARROWER than '..Said'. Prove '..Said' where nothing that the law and all that it calls make is longer than what came in: it says more and counts as full. Else prove '..UptoSaid'. A law counts once. -/
mutual
def uptoBulk {H : Type} : DataW H → Nat
  | .lit (.string bytes) => bytes.length + 1
  | .lit _ => 1
  | .nil => 1
  | .ptr d => uptoBulk d + 1
  | .slice elems spare => uptoBulkAll elems + uptoBulkAll spare + 1
  | .agg parts => uptoBulkAll parts + 1
  | .iface _ d => uptoBulk d + 1
  | .map entries => uptoBulkEntries entries + 1
  | .held _ => 1
def uptoBulkAll {H : Type} : List (DataW H) → Nat
  | [] => 0
  | d :: r => uptoBulk d + uptoBulkAll r
def uptoBulkEntries {H : Type} : List (Lit × DataW H) → Nat
  | [] => 0
  | x :: r => uptoBulkEntry x + uptoBulkEntries r
def uptoBulkEntry {H : Type} : Lit × DataW H → Nat
  | (.string bytes, d) => bytes.length + uptoBulk d + 1
  | (_, d) => uptoBulk d + 1
 end
def uptoSmall : (H : Type) → List (DataW H) → Bool := fun _ ds => decide (uptoBulkAll ds ≤ 1048576)
def OpenSpec.upto (s : _root_.Go.ChangeSpec) : _root_.Go.OpenSpec := { _root_.Go.OpenSpec.ofChange s with cond := some uptoSmall }

/-- 'fairleadlaw09.LexReads', WHERE WHAT IT READS IS OF BULK AT MOST 1048576: true; the input reads as it did. -/
def lexReadsUptoRow : OpenClaim := { program := "ytbiccohcikfgeaa", sum := "9db4f4aeeeb480efd6d5bf8e9dab9d1aa1ccd79e898d80306da150467f68ca62", func := "fairlead/fairleadlaw09.LexReads", spec := "lexReads", apart := false, narrowed := true }
def LexReadsUptoSaid : Prop := lexReadsUptoRow.holds Try.pinned (OpenSpec.upto lexReadsSpec)

/-- 'fairleadlaw09.LexWords', WHERE WHAT IT READS IS OF BULK AT MOST 1048576: true; the input reads as it did. -/
def lexWordsUptoRow : OpenClaim := { program := "ytbiccohcikfgeaa", sum := "9db4f4aeeeb480efd6d5bf8e9dab9d1aa1ccd79e898d80306da150467f68ca62", func := "fairlead/fairleadlaw09.LexWords", spec := "lexWords", apart := false, narrowed := true }
def LexWordsUptoSaid : Prop := lexWordsUptoRow.holds Try.pinned (OpenSpec.upto lexWordsSpec)

/-- 'fairleadlaw09.LexLies', WHERE WHAT IT READS IS OF BULK AT MOST 1048576: true; the input reads as it did. -/
def lexLiesUptoRow : OpenClaim := { program := "ytbiccohcikfgeaa", sum := "9db4f4aeeeb480efd6d5bf8e9dab9d1aa1ccd79e898d80306da150467f68ca62", func := "fairlead/fairleadlaw09.LexLies", spec := "lexLies", apart := false, narrowed := true }
def LexLiesUptoSaid : Prop := lexLiesUptoRow.holds Try.pinned (OpenSpec.upto lexLiesSpec)

/-- 'fairleadlaw09.LexJoins', WHERE WHAT IT READS IS OF BULK AT MOST 1048576: true; the input reads as it did. -/
def lexJoinsUptoRow : OpenClaim := { program := "ytbiccohcikfgeaa", sum := "9db4f4aeeeb480efd6d5bf8e9dab9d1aa1ccd79e898d80306da150467f68ca62", func := "fairlead/fairleadlaw09.LexJoins", spec := "lexJoins", apart := false, narrowed := true }
def LexJoinsUptoSaid : Prop := lexJoinsUptoRow.holds Try.pinned (OpenSpec.upto lexJoinsSpec)

/-- 'fairleadlaw09.LexAhead', WHERE WHAT IT READS IS OF BULK AT MOST 1048576: true; the input reads as it did. -/
def lexAheadUptoRow : OpenClaim := { program := "ytbiccohcikfgeaa", sum := "9db4f4aeeeb480efd6d5bf8e9dab9d1aa1ccd79e898d80306da150467f68ca62", func := "fairlead/fairleadlaw09.LexAhead", spec := "lexAhead", apart := false, narrowed := true }
def LexAheadUptoSaid : Prop := lexAheadUptoRow.holds Try.pinned (OpenSpec.upto lexAheadSpec)

/-- 'fairleadlaw09.LexWorth', WHERE WHAT IT READS IS OF BULK AT MOST 1048576: true; the input reads as it did. -/
def lexWorthUptoRow : OpenClaim := { program := "ytbiccohcikfgeaa", sum := "9db4f4aeeeb480efd6d5bf8e9dab9d1aa1ccd79e898d80306da150467f68ca62", func := "fairlead/fairleadlaw09.LexWorth", spec := "lexWorth", apart := false, narrowed := true }
def LexWorthUptoSaid : Prop := lexWorthUptoRow.holds Try.pinned (OpenSpec.upto lexWorthSpec)

end Rows
end Go.Proofs.Ytbiccohcikfgeaa
