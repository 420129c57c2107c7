/-
  No cell of these rows narrows 'for every input' (looked for: loops, veiled, ifaces, maps, wideKeys, modest, calm, conditions, laid).
  DERIVED. THE GIVEN ROWS OF THIS SEAT. 6 by the template 'for every input the law returns true; each argument reads behind the call as it read before'; 0 by the template 'total and deterministic' (their statements: YtkbdbphcdehmhaaTotals.lean).
  GIVEN WITH THE SEED: the statements are not yours to turn. If you find one false, say at which input.
  Laid BY PROGRAM, IN A SANDBOX (cutbox-rows.mjs): the forced cells as the released guide's own fill.sh prints them over the translation 06afdf4782efc1a5… (all of the seat's roots in one cut). By AI agents, Wed Nov 11 2026. No macro, syntax, notation, axiom, sorry.
-/
import Derived.Test.YtkbdbphcdehmhaaChecked
import GoSem.Claim
import GoSem.ClaimJoined
import GoSem.ClaimMapViews
import Derived.JoinedTies
import Derived.KernelRfl
namespace Go.Proofs.Ytkbdbphcdehmhaa
/- THE CELL 'sum', in the pinned program and in every row, IS THE sha256 OF THE DUMP (.gsa) THAT YtkbdbphcdehmhaaProg.lean LOADS. Nothing in Lean hashes anything: it is a label: what it is worth is what the hold of that sum in a sandbox is worth. -/
noncomputable def Try.pinned : Pinned := { name := "ytkbdbphcdehmhaa", sum := "06afdf4782efc1a5bdc99c587b0f547451e21aa4d9a62779b67eb7d7e07d07e9", checked := Try.checked }
namespace Rows
def none {H : Type} : Left H := { results := [], args := [] }

/-- 'fairleadlaw04.DataApart': WHATEVER THE INPUT: true; the input reads as it did. -/
def dataApartSpec : ChangeSpec := { name := "dataApart", fn := fun _ => fun
  | [d1, d2] => { results := [.lit (.bool true)], args := [d1, d2] }
  | _ => none }
def dataApartRow : OpenClaim := { program := "ytkbdbphcdehmhaa", sum := "06afdf4782efc1a5bdc99c587b0f547451e21aa4d9a62779b67eb7d7e07d07e9", func := "fairlead/fairleadlaw04.DataApart", spec := "dataApart", apart := false }
def DataApartSaid : Prop := dataApartRow.holds Try.pinned (OpenSpec.ofChange dataApartSpec)

/-- ITS FALSE NEIGHBOUR: 'it returns false'. Refute it at one input. -/
def dataApartWrong : ChangeSpec := { name := "dataApart", fn := fun _ => fun
  | [d1, d2] => { results := [.lit (.bool false)], args := [d1, d2] }
  | _ => none }
def DataApartWrongFalsely : Prop := dataApartRow.holds Try.pinned (OpenSpec.ofChange dataApartWrong)

/-- 'fairleadlaw04.DataLoads': WHATEVER THE INPUT: true; the input reads as it did. -/
def dataLoadsSpec : ChangeSpec := { name := "dataLoads", fn := fun _ => fun
  | [d1, d2] => { results := [.lit (.bool true)], args := [d1, d2] }
  | _ => none }
def dataLoadsRow : OpenClaim := { program := "ytkbdbphcdehmhaa", sum := "06afdf4782efc1a5bdc99c587b0f547451e21aa4d9a62779b67eb7d7e07d07e9", func := "fairlead/fairleadlaw04.DataLoads", spec := "dataLoads", apart := false }
def DataLoadsSaid : Prop := dataLoadsRow.holds Try.pinned (OpenSpec.ofChange dataLoadsSpec)

/-- ITS FALSE NEIGHBOUR: 'it returns false'. Refute it at one input. -/
def dataLoadsWrong : ChangeSpec := { name := "dataLoads", fn := fun _ => fun
  | [d1, d2] => { results := [.lit (.bool false)], args := [d1, d2] }
  | _ => none }
def DataLoadsWrongFalsely : Prop := dataLoadsRow.holds Try.pinned (OpenSpec.ofChange dataLoadsWrong)

/-- 'fairleadlaw04.DataWords': WHATEVER THE INPUT: true; the input reads as it did. -/
def dataWordsSpec : ChangeSpec := { name := "dataWords", fn := fun _ => fun
  | [d] => { results := [.lit (.bool true)], args := [d] }
  | _ => none }
def dataWordsRow : OpenClaim := { program := "ytkbdbphcdehmhaa", sum := "06afdf4782efc1a5bdc99c587b0f547451e21aa4d9a62779b67eb7d7e07d07e9", func := "fairlead/fairleadlaw04.DataWords", spec := "dataWords", apart := false }
def DataWordsSaid : Prop := dataWordsRow.holds Try.pinned (OpenSpec.ofChange dataWordsSpec)

/-- ITS FALSE NEIGHBOUR: 'it returns false'. Refute it at one input. -/
def dataWordsWrong : ChangeSpec := { name := "dataWords", fn := fun _ => fun
  | [d] => { results := [.lit (.bool false)], args := [d] }
  | _ => none }
def DataWordsWrongFalsely : Prop := dataWordsRow.holds Try.pinned (OpenSpec.ofChange dataWordsWrong)

/-- 'fairleadlaw04.DataHalves': WHATEVER THE INPUT: true; the input reads as it did. -/
def dataHalvesSpec : ChangeSpec := { name := "dataHalves", fn := fun _ => fun
  | [d1, d2] => { results := [.lit (.bool true)], args := [d1, d2] }
  | _ => none }
def dataHalvesRow : OpenClaim := { program := "ytkbdbphcdehmhaa", sum := "06afdf4782efc1a5bdc99c587b0f547451e21aa4d9a62779b67eb7d7e07d07e9", func := "fairlead/fairleadlaw04.DataHalves", spec := "dataHalves", apart := false }
def DataHalvesSaid : Prop := dataHalvesRow.holds Try.pinned (OpenSpec.ofChange dataHalvesSpec)

/-- ITS FALSE NEIGHBOUR: 'it returns false'. Refute it at one input. -/
def dataHalvesWrong : ChangeSpec := { name := "dataHalves", fn := fun _ => fun
  | [d1, d2] => { results := [.lit (.bool false)], args := [d1, d2] }
  | _ => none }
def DataHalvesWrongFalsely : Prop := dataHalvesRow.holds Try.pinned (OpenSpec.ofChange dataHalvesWrong)

/-- 'fairleadlaw04.DataBytes': WHATEVER THE INPUT: true; the input reads as it did. -/
def dataBytesSpec : ChangeSpec := { name := "dataBytes", fn := fun _ => fun
  | [d1, d2] => { results := [.lit (.bool true)], args := [d1, d2] }
  | _ => none }
def dataBytesRow : OpenClaim := { program := "ytkbdbphcdehmhaa", sum := "06afdf4782efc1a5bdc99c587b0f547451e21aa4d9a62779b67eb7d7e07d07e9", func := "fairlead/fairleadlaw04.DataBytes", spec := "dataBytes", apart := false }
def DataBytesSaid : Prop := dataBytesRow.holds Try.pinned (OpenSpec.ofChange dataBytesSpec)

/-- ITS FALSE NEIGHBOUR: 'it returns false'. Refute it at one input. -/
def dataBytesWrong : ChangeSpec := { name := "dataBytes", fn := fun _ => fun
  | [d1, d2] => { results := [.lit (.bool false)], args := [d1, d2] }
  | _ => none }
def DataBytesWrongFalsely : Prop := dataBytesRow.holds Try.pinned (OpenSpec.ofChange dataBytesWrong)

/-- 'fairleadlaw04.DataBack': WHATEVER THE INPUT: true; the input reads as it did. -/
def dataBackSpec : ChangeSpec := { name := "dataBack", fn := fun _ => fun
  | [d1, d2] => { results := [.lit (.bool true)], args := [d1, d2] }
  | _ => none }
def dataBackRow : OpenClaim := { program := "ytkbdbphcdehmhaa", sum := "06afdf4782efc1a5bdc99c587b0f547451e21aa4d9a62779b67eb7d7e07d07e9", func := "fairlead/fairleadlaw04.DataBack", spec := "dataBack", apart := false }
def DataBackSaid : Prop := dataBackRow.holds Try.pinned (OpenSpec.ofChange dataBackSpec)

/-- ITS FALSE NEIGHBOUR: 'it returns false'. Refute it at one input. -/
def dataBackWrong : ChangeSpec := { name := "dataBack", fn := fun _ => fun
  | [d1, d2] => { results := [.lit (.bool false)], args := [d1, d2] }
  | _ => none }
def DataBackWrongFalsely : Prop := dataBackRow.holds Try.pinned (OpenSpec.ofChange dataBackWrong)

/- THE SECOND FORM. 'bulk': how many values and letters a reading holds, each counted each time it is reached (what is shared counts as often as it is met; a slice's spare places count too). A statement '..UptoSaid' is the law's where the arguments, and the package variables that the reading takes, are together of bulk at most 1048576: NARROWER than '..Said'. Prove '..Said' where nothing that the law and all that it calls make is longer than what came in: it says more and counts as full. Else prove '..UptoSaid'. A law counts once. -/
mutual
def uptoBulk {H : Type} : DataW H → Nat
  | .lit (.string bytes) => bytes.length + 1
  | .lit _ => 1
  | .nil => 1
  | .ptr d => uptoBulk d + 1
  | .slice elems spare => uptoBulkAll elems + uptoBulkAll spare + 1
  | .agg parts => uptoBulkAll parts + 1
  | .iface _ d => uptoBulk d + 1
  | .map entries => uptoBulkEntries entries + 1
  | .held _ => 1
def uptoBulkAll {H : Type} : List (DataW H) → Nat
  | [] => 0
  | d :: r => uptoBulk d + uptoBulkAll r
def uptoBulkEntries {H : Type} : List (Lit × DataW H) → Nat
  | [] => 0
  | x :: r => uptoBulkEntry x + uptoBulkEntries r
def uptoBulkEntry {H : Type} : Lit × DataW H → Nat
  | (.string bytes, d) => bytes.length + uptoBulk d + 1
  | (_, d) => uptoBulk d + 1
 end
def uptoSmall : (H : Type) → List (DataW H) → Bool := fun _ ds => decide (uptoBulkAll ds ≤ 1048576)
def OpenSpec.upto (s : _root_.Go.ChangeSpec) : _root_.Go.OpenSpec := { _root_.Go.OpenSpec.ofChange s with cond := some uptoSmall }

/-- 'fairleadlaw04.DataApart', WHERE WHAT IT READS IS OF BULK AT MOST 1048576: true; the input reads as it did. -/
def dataApartUptoRow : OpenClaim := { program := "ytkbdbphcdehmhaa", sum := "06afdf4782efc1a5bdc99c587b0f547451e21aa4d9a62779b67eb7d7e07d07e9", func := "fairlead/fairleadlaw04.DataApart", spec := "dataApart", apart := false, narrowed := true }
def DataApartUptoSaid : Prop := dataApartUptoRow.holds Try.pinned (OpenSpec.upto dataApartSpec)

/-- 'fairleadlaw04.DataLoads', WHERE WHAT IT READS IS OF BULK AT MOST 1048576: true; the input reads as it did. -/
def dataLoadsUptoRow : OpenClaim := { program := "ytkbdbphcdehmhaa", sum := "06afdf4782efc1a5bdc99c587b0f547451e21aa4d9a62779b67eb7d7e07d07e9", func := "fairlead/fairleadlaw04.DataLoads", spec := "dataLoads", apart := false, narrowed := true }
def DataLoadsUptoSaid : Prop := dataLoadsUptoRow.holds Try.pinned (OpenSpec.upto dataLoadsSpec)

/-- 'fairleadlaw04.DataWords', WHERE WHAT IT READS IS OF BULK AT MOST 1048576: true; the input reads as it did. -/
def dataWordsUptoRow : OpenClaim := { program := "ytkbdbphcdehmhaa", sum := "06afdf4782efc1a5bdc99c587b0f547451e21aa4d9a62779b67eb7d7e07d07e9", func := "fairlead/fairleadlaw04.DataWords", spec := "dataWords", apart := false, narrowed := true }
def DataWordsUptoSaid : Prop := dataWordsUptoRow.holds Try.pinned (OpenSpec.upto dataWordsSpec)

/-- 'fairleadlaw04.DataHalves', WHERE WHAT IT READS IS OF BULK AT MOST 1048576: true; the input reads as it did. -/
def dataHalvesUptoRow : OpenClaim := { program := "ytkbdbphcdehmhaa", sum := "06afdf4782efc1a5bdc99c587b0f547451e21aa4d9a62779b67eb7d7e07d07e9", func := "fairlead/fairleadlaw04.DataHalves", spec := "dataHalves", apart := false, narrowed := true }
def DataHalvesUptoSaid : Prop := dataHalvesUptoRow.holds Try.pinned (OpenSpec.upto dataHalvesSpec)

/-- 'fairleadlaw04.DataBytes', WHERE WHAT IT READS IS OF BULK AT MOST 1048576: true; the input reads as it did. -/
def dataBytesUptoRow : OpenClaim := { program := "ytkbdbphcdehmhaa", sum := "06afdf4782efc1a5bdc99c587b0f547451e21aa4d9a62779b67eb7d7e07d07e9", func := "fairlead/fairleadlaw04.DataBytes", spec := "dataBytes", apart := false, narrowed := true }
def DataBytesUptoSaid : Prop := dataBytesUptoRow.holds Try.pinned (OpenSpec.upto dataBytesSpec)

/-- 'fairleadlaw04.DataBack', WHERE WHAT IT READS IS OF BULK AT MOST 1048576: true; the input reads as it did. -/
def dataBackUptoRow : OpenClaim := { program := "ytkbdbphcdehmhaa", sum := "06afdf4782efc1a5bdc99c587b0f547451e21aa4d9a62779b67eb7d7e07d07e9", func := "fairlead/fairleadlaw04.DataBack", spec := "dataBack", apart := false, narrowed := true }
def DataBackUptoSaid : Prop := dataBackUptoRow.holds Try.pinned (OpenSpec.upto dataBackSpec)

end Rows
end Go.Proofs.Ytkbdbphcdehmhaa
