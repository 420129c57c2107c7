/-
  No cell of these rows narrows 'for every input' (looked for: loops, veiled, ifaces, maps, wideKeys, modest, calm, conditions, laid).
  DERIVED. THE GIVEN ROWS OF THIS SEAT. 6 by the template 'for every input the law returns true; each argument reads behind the call as it read before'; 0 by the template 'total and deterministic' (their statements: YtdlmnmhlgacpnaaTotals.lean).
  GIVEN WITH THE SEED: the statements are not yours to turn. If you find one false, say at which input.
  Laid BY PROGRAM, IN A SANDBOX (cutbox-rows.mjs): the forced cells as the released guide's own fill.sh prints them over the translation 6817bf3b84093cf5… (all of the seat's roots in one cut). By AI agents, Wed Nov 11 2026. No macro, syntax, notation, axiom, sorry.
-/
import Derived.Test.YtdlmnmhlgacpnaaChecked
import GoSem.Claim
import GoSem.ClaimJoined
import GoSem.ClaimMapViews
import Derived.JoinedTies
import Derived.KernelRfl
namespace Go.Proofs.Ytdlmnmhlgacpnaa
/- THE CELL 'sum', in the pinned program and in every row, IS THE sha256 OF THE DUMP (.gsa) THAT YtdlmnmhlgacpnaaProg.lean LOADS. Nothing in Lean hashes anything: it is a label: what it is worth is what the hold of that sum in a sandbox is worth. -/
noncomputable def Try.pinned : Pinned := { name := "ytdlmnmhlgacpnaa", sum := "6817bf3b84093cf52f6448885b626edd2f96858d253994553fa7d06ac80ce0dd", checked := Try.checked }
namespace Rows
def none {H : Type} : Left H := { results := [], args := [] }

/-- 'fairleadlaw06.VmRuns': WHATEVER THE INPUT: true; the input reads as it did. -/
def vmRunsSpec : ChangeSpec := { name := "vmRuns", fn := fun _ => fun
  | [d1, d2] => { results := [.lit (.bool true)], args := [d1, d2] }
  | _ => none }
def vmRunsRow : OpenClaim := { program := "ytdlmnmhlgacpnaa", sum := "6817bf3b84093cf52f6448885b626edd2f96858d253994553fa7d06ac80ce0dd", func := "fairlead/fairleadlaw06.VmRuns", spec := "vmRuns", unfollowed := true, recurses := true, apart := false }
def VmRunsSaid : Prop := vmRunsRow.holds Try.pinned (OpenSpec.ofChange vmRunsSpec)

/-- ITS FALSE NEIGHBOUR: 'it returns false'. Refute it at one input. -/
def vmRunsWrong : ChangeSpec := { name := "vmRuns", fn := fun _ => fun
  | [d1, d2] => { results := [.lit (.bool false)], args := [d1, d2] }
  | _ => none }
def VmRunsWrongFalsely : Prop := vmRunsRow.holds Try.pinned (OpenSpec.ofChange vmRunsWrong)

/-- 'fairleadlaw06.VmReckons': WHATEVER THE INPUT: true; the input reads as it did. -/
def vmReckonsSpec : ChangeSpec := { name := "vmReckons", fn := fun _ => fun
  | [d1, d2, d3] => { results := [.lit (.bool true)], args := [d1, d2, d3] }
  | _ => none }
def vmReckonsRow : OpenClaim := { program := "ytdlmnmhlgacpnaa", sum := "6817bf3b84093cf52f6448885b626edd2f96858d253994553fa7d06ac80ce0dd", func := "fairlead/fairleadlaw06.VmReckons", spec := "vmReckons", unfollowed := true, recurses := true, apart := false }
def VmReckonsSaid : Prop := vmReckonsRow.holds Try.pinned (OpenSpec.ofChange vmReckonsSpec)

/-- ITS FALSE NEIGHBOUR: 'it returns false'. Refute it at one input. -/
def vmReckonsWrong : ChangeSpec := { name := "vmReckons", fn := fun _ => fun
  | [d1, d2, d3] => { results := [.lit (.bool false)], args := [d1, d2, d3] }
  | _ => none }
def VmReckonsWrongFalsely : Prop := vmReckonsRow.holds Try.pinned (OpenSpec.ofChange vmReckonsWrong)

/-- 'fairleadlaw06.VmHolds': WHATEVER THE INPUT: true; the input reads as it did. -/
def vmHoldsSpec : ChangeSpec := { name := "vmHolds", fn := fun _ => fun
  | [d1, d2, d3] => { results := [.lit (.bool true)], args := [d1, d2, d3] }
  | _ => none }
def vmHoldsRow : OpenClaim := { program := "ytdlmnmhlgacpnaa", sum := "6817bf3b84093cf52f6448885b626edd2f96858d253994553fa7d06ac80ce0dd", func := "fairlead/fairleadlaw06.VmHolds", spec := "vmHolds", unfollowed := true, recurses := true, apart := false }
def VmHoldsSaid : Prop := vmHoldsRow.holds Try.pinned (OpenSpec.ofChange vmHoldsSpec)

/-- ITS FALSE NEIGHBOUR: 'it returns false'. Refute it at one input. -/
def vmHoldsWrong : ChangeSpec := { name := "vmHolds", fn := fun _ => fun
  | [d1, d2, d3] => { results := [.lit (.bool false)], args := [d1, d2, d3] }
  | _ => none }
def VmHoldsWrongFalsely : Prop := vmHoldsRow.holds Try.pinned (OpenSpec.ofChange vmHoldsWrong)

/-- 'fairleadlaw06.VmTraces': WHATEVER THE INPUT: true; the input reads as it did. -/
def vmTracesSpec : ChangeSpec := { name := "vmTraces", fn := fun _ => fun
  | [d1, d2] => { results := [.lit (.bool true)], args := [d1, d2] }
  | _ => none }
def vmTracesRow : OpenClaim := { program := "ytdlmnmhlgacpnaa", sum := "6817bf3b84093cf52f6448885b626edd2f96858d253994553fa7d06ac80ce0dd", func := "fairlead/fairleadlaw06.VmTraces", spec := "vmTraces", unfollowed := true, recurses := true, apart := false }
def VmTracesSaid : Prop := vmTracesRow.holds Try.pinned (OpenSpec.ofChange vmTracesSpec)

/-- ITS FALSE NEIGHBOUR: 'it returns false'. Refute it at one input. -/
def vmTracesWrong : ChangeSpec := { name := "vmTraces", fn := fun _ => fun
  | [d1, d2] => { results := [.lit (.bool false)], args := [d1, d2] }
  | _ => none }
def VmTracesWrongFalsely : Prop := vmTracesRow.holds Try.pinned (OpenSpec.ofChange vmTracesWrong)

/-- 'fairleadlaw06.VmElse': WHATEVER THE INPUT: true; the input reads as it did. -/
def vmElseSpec : ChangeSpec := { name := "vmElse", fn := fun _ => fun
  | [d1, d2, d3] => { results := [.lit (.bool true)], args := [d1, d2, d3] }
  | _ => none }
def vmElseRow : OpenClaim := { program := "ytdlmnmhlgacpnaa", sum := "6817bf3b84093cf52f6448885b626edd2f96858d253994553fa7d06ac80ce0dd", func := "fairlead/fairleadlaw06.VmElse", spec := "vmElse", unfollowed := true, recurses := true, apart := false }
def VmElseSaid : Prop := vmElseRow.holds Try.pinned (OpenSpec.ofChange vmElseSpec)

/-- ITS FALSE NEIGHBOUR: 'it returns false'. Refute it at one input. -/
def vmElseWrong : ChangeSpec := { name := "vmElse", fn := fun _ => fun
  | [d1, d2, d3] => { results := [.lit (.bool false)], args := [d1, d2, d3] }
  | _ => none }
def VmElseWrongFalsely : Prop := vmElseRow.holds Try.pinned (OpenSpec.ofChange vmElseWrong)

/-- 'fairleadlaw06.VmGoes': WHATEVER THE INPUT: true; the input reads as it did. -/
def vmGoesSpec : ChangeSpec := { name := "vmGoes", fn := fun _ => fun
  | [d1, d2] => { results := [.lit (.bool true)], args := [d1, d2] }
  | _ => none }
def vmGoesRow : OpenClaim := { program := "ytdlmnmhlgacpnaa", sum := "6817bf3b84093cf52f6448885b626edd2f96858d253994553fa7d06ac80ce0dd", func := "fairlead/fairleadlaw06.VmGoes", spec := "vmGoes", unfollowed := true, recurses := true, apart := false }
def VmGoesSaid : Prop := vmGoesRow.holds Try.pinned (OpenSpec.ofChange vmGoesSpec)

/-- ITS FALSE NEIGHBOUR: 'it returns false'. Refute it at one input. -/
def vmGoesWrong : ChangeSpec := { name := "vmGoes", fn := fun _ => fun
  | [d1, d2] => { results := [.lit (.bool false)], args := [d1, d2] }
  | _ => none }
def VmGoesWrongFalsely : Prop := vmGoesRow.holds Try.pinned (OpenSpec.ofChange vmGoesWrong)

/- THE SECOND FORM. 'bulk': how many values and letters a reading holds, each counted each time it is reached (what is shared counts as often as it is met; a slice's spare places count too). A statement '..UptoSaid' is the law's where the arguments, and the package variables that the reading takes, are together of bulk at most 1048576: NARROWER than '..Said'. Prove '..Said' where nothing that the law and all that it calls make is longer than what came in: it says more and counts as full. Else prove '..UptoSaid'. A law counts once. -/
mutual
def uptoBulk {H : Type} : DataW H → Nat
  | .lit (.string bytes) => bytes.length + 1
  | .lit _ => 1
  | .nil => 1
  | .ptr d => uptoBulk d + 1
  | .slice elems spare => uptoBulkAll elems + uptoBulkAll spare + 1
  | .agg parts => uptoBulkAll parts + 1
  | .iface _ d => uptoBulk d + 1
  | .map entries => uptoBulkEntries entries + 1
  | .held _ => 1
def uptoBulkAll {H : Type} : List (DataW H) → Nat
  | [] => 0
  | d :: r => uptoBulk d + uptoBulkAll r
def uptoBulkEntries {H : Type} : List (Lit × DataW H) → Nat
  | [] => 0
  | x :: r => uptoBulkEntry x + uptoBulkEntries r
def uptoBulkEntry {H : Type} : Lit × DataW H → Nat
  | (.string bytes, d) => bytes.length + uptoBulk d + 1
  | (_, d) => uptoBulk d + 1
 end
def uptoSmall : (H : Type) → List (DataW H) → Bool := fun _ ds => decide (uptoBulkAll ds ≤ 1048576)
def OpenSpec.upto (s : _root_.Go.ChangeSpec) : _root_.Go.OpenSpec := { _root_.Go.OpenSpec.ofChange s with cond := some uptoSmall }

/-- 'fairleadlaw06.VmRuns', WHERE WHAT IT READS IS OF BULK AT MOST 1048576: true; the input reads as it did. -/
def vmRunsUptoRow : OpenClaim := { program := "ytdlmnmhlgacpnaa", sum := "6817bf3b84093cf52f6448885b626edd2f96858d253994553fa7d06ac80ce0dd", func := "fairlead/fairleadlaw06.VmRuns", spec := "vmRuns", unfollowed := true, recurses := true, apart := false, narrowed := true }
def VmRunsUptoSaid : Prop := vmRunsUptoRow.holds Try.pinned (OpenSpec.upto vmRunsSpec)

/-- 'fairleadlaw06.VmReckons', WHERE WHAT IT READS IS OF BULK AT MOST 1048576: true; the input reads as it did. -/
def vmReckonsUptoRow : OpenClaim := { program := "ytdlmnmhlgacpnaa", sum := "6817bf3b84093cf52f6448885b626edd2f96858d253994553fa7d06ac80ce0dd", func := "fairlead/fairleadlaw06.VmReckons", spec := "vmReckons", unfollowed := true, recurses := true, apart := false, narrowed := true }
def VmReckonsUptoSaid : Prop := vmReckonsUptoRow.holds Try.pinned (OpenSpec.upto vmReckonsSpec)

/-- 'fairleadlaw06.VmHolds', WHERE WHAT IT READS IS OF BULK AT MOST 1048576: true; the input reads as it did. -/
def vmHoldsUptoRow : OpenClaim := { program := "ytdlmnmhlgacpnaa", sum := "6817bf3b84093cf52f6448885b626edd2f96858d253994553fa7d06ac80ce0dd", func := "fairlead/fairleadlaw06.VmHolds", spec := "vmHolds", unfollowed := true, recurses := true, apart := false, narrowed := true }
def VmHoldsUptoSaid : Prop := vmHoldsUptoRow.holds Try.pinned (OpenSpec.upto vmHoldsSpec)

/-- 'fairleadlaw06.VmTraces', WHERE WHAT IT READS IS OF BULK AT MOST 1048576: true; the input reads as it did. -/
def vmTracesUptoRow : OpenClaim := { program := "ytdlmnmhlgacpnaa", sum := "6817bf3b84093cf52f6448885b626edd2f96858d253994553fa7d06ac80ce0dd", func := "fairlead/fairleadlaw06.VmTraces", spec := "vmTraces", unfollowed := true, recurses := true, apart := false, narrowed := true }
def VmTracesUptoSaid : Prop := vmTracesUptoRow.holds Try.pinned (OpenSpec.upto vmTracesSpec)

/-- 'fairleadlaw06.VmElse', WHERE WHAT IT READS IS OF BULK AT MOST 1048576: true; the input reads as it did. -/
def vmElseUptoRow : OpenClaim := { program := "ytdlmnmhlgacpnaa", sum := "6817bf3b84093cf52f6448885b626edd2f96858d253994553fa7d06ac80ce0dd", func := "fairlead/fairleadlaw06.VmElse", spec := "vmElse", unfollowed := true, recurses := true, apart := false, narrowed := true }
def VmElseUptoSaid : Prop := vmElseUptoRow.holds Try.pinned (OpenSpec.upto vmElseSpec)

/-- 'fairleadlaw06.VmGoes', WHERE WHAT IT READS IS OF BULK AT MOST 1048576: true; the input reads as it did. -/
def vmGoesUptoRow : OpenClaim := { program := "ytdlmnmhlgacpnaa", sum := "6817bf3b84093cf52f6448885b626edd2f96858d253994553fa7d06ac80ce0dd", func := "fairlead/fairleadlaw06.VmGoes", spec := "vmGoes", unfollowed := true, recurses := true, apart := false, narrowed := true }
def VmGoesUptoSaid : Prop := vmGoesUptoRow.holds Try.pinned (OpenSpec.upto vmGoesSpec)

end Rows
end Go.Proofs.Ytdlmnmhlgacpnaa
