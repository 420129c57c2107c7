/-
  No cell of these rows narrows 'for every input' (looked for: loops, veiled, ifaces, maps, wideKeys, modest, calm, conditions, laid).
  DERIVED. THE GIVEN ROWS OF THIS SEAT. 6 by the template 'for every input the law returns true; each argument reads behind the call as it read before'; 0 by the template 'total and deterministic' (their statements: YtfkhhmnkmddjhaaTotals.lean).
  GIVEN WITH THE SEED: the statements are not yours to turn. If you find one false, say at which input.
  Laid BY PROGRAM, IN A SANDBOX (cutbox-rows.mjs): the forced cells as the released guide's own fill.sh prints them over the translation 3ce04c06b1f131d6… (all of the seat's roots in one cut). By AI agents, Wed Nov 11 2026. No macro, syntax, notation, axiom, sorry.
-/
import Derived.Test.YtfkhhmnkmddjhaaChecked
import GoSem.Claim
import GoSem.ClaimJoined
import GoSem.ClaimMapViews
import Derived.JoinedTies
import Derived.KernelRfl
namespace Go.Proofs.Ytfkhhmnkmddjhaa
/- THE CELL 'sum', in the pinned program and in every row, IS THE sha256 OF THE DUMP (.gsa) THAT YtfkhhmnkmddjhaaProg.lean LOADS. Nothing in Lean hashes anything: it is a label: what it is worth is what the hold of that sum in a sandbox is worth. -/
noncomputable def Try.pinned : Pinned := { name := "ytfkhhmnkmddjhaa", sum := "3ce04c06b1f131d6a808519fdc0e682a75be2b1952d4965b068da2c4bdca8b34", checked := Try.checked }
namespace Rows
def none {H : Type} : Left H := { results := [], args := [] }

/-- 'fairleadlaw03.InsnApart': WHATEVER THE INPUT: true; the input reads as it did. -/
def insnApartSpec : ChangeSpec := { name := "insnApart", fn := fun _ => fun
  | [d1, d2] => { results := [.lit (.bool true)], args := [d1, d2] }
  | _ => none }
def insnApartRow : OpenClaim := { program := "ytfkhhmnkmddjhaa", sum := "3ce04c06b1f131d6a808519fdc0e682a75be2b1952d4965b068da2c4bdca8b34", func := "fairlead/fairleadlaw03.InsnApart", spec := "insnApart", apart := false }
def InsnApartSaid : Prop := insnApartRow.holds Try.pinned (OpenSpec.ofChange insnApartSpec)

/-- ITS FALSE NEIGHBOUR: 'it returns false'. Refute it at one input. -/
def insnApartWrong : ChangeSpec := { name := "insnApart", fn := fun _ => fun
  | [d1, d2] => { results := [.lit (.bool false)], args := [d1, d2] }
  | _ => none }
def InsnApartWrongFalsely : Prop := insnApartRow.holds Try.pinned (OpenSpec.ofChange insnApartWrong)

/-- 'fairleadlaw03.InsnBytes': WHATEVER THE INPUT: true; the input reads as it did. -/
def insnBytesSpec : ChangeSpec := { name := "insnBytes", fn := fun _ => fun
  | [d1, d2] => { results := [.lit (.bool true)], args := [d1, d2] }
  | _ => none }
def insnBytesRow : OpenClaim := { program := "ytfkhhmnkmddjhaa", sum := "3ce04c06b1f131d6a808519fdc0e682a75be2b1952d4965b068da2c4bdca8b34", func := "fairlead/fairleadlaw03.InsnBytes", spec := "insnBytes", apart := false }
def InsnBytesSaid : Prop := insnBytesRow.holds Try.pinned (OpenSpec.ofChange insnBytesSpec)

/-- ITS FALSE NEIGHBOUR: 'it returns false'. Refute it at one input. -/
def insnBytesWrong : ChangeSpec := { name := "insnBytes", fn := fun _ => fun
  | [d1, d2] => { results := [.lit (.bool false)], args := [d1, d2] }
  | _ => none }
def InsnBytesWrongFalsely : Prop := insnBytesRow.holds Try.pinned (OpenSpec.ofChange insnBytesWrong)

/-- 'fairleadlaw03.InsnKinds': WHATEVER THE INPUT: true; the input reads as it did. -/
def insnKindsSpec : ChangeSpec := { name := "insnKinds", fn := fun _ => fun
  | [d] => { results := [.lit (.bool true)], args := [d] }
  | _ => none }
def insnKindsRow : OpenClaim := { program := "ytfkhhmnkmddjhaa", sum := "3ce04c06b1f131d6a808519fdc0e682a75be2b1952d4965b068da2c4bdca8b34", func := "fairlead/fairleadlaw03.InsnKinds", spec := "insnKinds", apart := false }
def InsnKindsSaid : Prop := insnKindsRow.holds Try.pinned (OpenSpec.ofChange insnKindsSpec)

/-- ITS FALSE NEIGHBOUR: 'it returns false'. Refute it at one input. -/
def insnKindsWrong : ChangeSpec := { name := "insnKinds", fn := fun _ => fun
  | [d] => { results := [.lit (.bool false)], args := [d] }
  | _ => none }
def InsnKindsWrongFalsely : Prop := insnKindsRow.holds Try.pinned (OpenSpec.ofChange insnKindsWrong)

/-- 'fairleadlaw03.InsnFew': WHATEVER THE INPUT: true; the input reads as it did. -/
def insnFewSpec : ChangeSpec := { name := "insnFew", fn := fun _ => fun
  | [d] => { results := [.lit (.bool true)], args := [d] }
  | _ => none }
def insnFewRow : OpenClaim := { program := "ytfkhhmnkmddjhaa", sum := "3ce04c06b1f131d6a808519fdc0e682a75be2b1952d4965b068da2c4bdca8b34", func := "fairlead/fairleadlaw03.InsnFew", spec := "insnFew", apart := false }
def InsnFewSaid : Prop := insnFewRow.holds Try.pinned (OpenSpec.ofChange insnFewSpec)

/-- ITS FALSE NEIGHBOUR: 'it returns false'. Refute it at one input. -/
def insnFewWrong : ChangeSpec := { name := "insnFew", fn := fun _ => fun
  | [d] => { results := [.lit (.bool false)], args := [d] }
  | _ => none }
def InsnFewWrongFalsely : Prop := insnFewRow.holds Try.pinned (OpenSpec.ofChange insnFewWrong)

/-- 'fairleadlaw03.InsnPrograms': WHATEVER THE INPUT: true; the input reads as it did. -/
def insnProgramsSpec : ChangeSpec := { name := "insnPrograms", fn := fun _ => fun
  | [d1, d2] => { results := [.lit (.bool true)], args := [d1, d2] }
  | _ => none }
def insnProgramsRow : OpenClaim := { program := "ytfkhhmnkmddjhaa", sum := "3ce04c06b1f131d6a808519fdc0e682a75be2b1952d4965b068da2c4bdca8b34", func := "fairlead/fairleadlaw03.InsnPrograms", spec := "insnPrograms", apart := false }
def InsnProgramsSaid : Prop := insnProgramsRow.holds Try.pinned (OpenSpec.ofChange insnProgramsSpec)

/-- ITS FALSE NEIGHBOUR: 'it returns false'. Refute it at one input. -/
def insnProgramsWrong : ChangeSpec := { name := "insnPrograms", fn := fun _ => fun
  | [d1, d2] => { results := [.lit (.bool false)], args := [d1, d2] }
  | _ => none }
def InsnProgramsWrongFalsely : Prop := insnProgramsRow.holds Try.pinned (OpenSpec.ofChange insnProgramsWrong)

/-- 'fairleadlaw03.InsnBack': WHATEVER THE INPUT: true; the input reads as it did. -/
def insnBackSpec : ChangeSpec := { name := "insnBack", fn := fun _ => fun
  | [d1, d2] => { results := [.lit (.bool true)], args := [d1, d2] }
  | _ => none }
def insnBackRow : OpenClaim := { program := "ytfkhhmnkmddjhaa", sum := "3ce04c06b1f131d6a808519fdc0e682a75be2b1952d4965b068da2c4bdca8b34", func := "fairlead/fairleadlaw03.InsnBack", spec := "insnBack", apart := false }
def InsnBackSaid : Prop := insnBackRow.holds Try.pinned (OpenSpec.ofChange insnBackSpec)

/-- ITS FALSE NEIGHBOUR: 'it returns false'. Refute it at one input. -/
def insnBackWrong : ChangeSpec := { name := "insnBack", fn := fun _ => fun
  | [d1, d2] => { results := [.lit (.bool false)], args := [d1, d2] }
  | _ => none }
def InsnBackWrongFalsely : Prop := insnBackRow.holds Try.pinned (OpenSpec.ofChange insnBackWrong)

/- THE SECOND FORM. 'bulk': how many values and letters a reading holds, each counted each time it is reached (what is shared counts as often as it is met; a slice's spare places count too). A statement '..UptoSaid' is the law's where the arguments, and the package variables that the reading takes, are together of bulk at most 1048576: NARROWER than '..Said'. Prove '..Said' where nothing that the law and all that it calls make is longer than what came in: it says more and counts as full. Else prove '..UptoSaid'. A law counts once. -/
mutual
def uptoBulk {H : Type} : DataW H → Nat
  | .lit (.string bytes) => bytes.length + 1
  | .lit _ => 1
  | .nil => 1
  | .ptr d => uptoBulk d + 1
  | .slice elems spare => uptoBulkAll elems + uptoBulkAll spare + 1
  | .agg parts => uptoBulkAll parts + 1
  | .iface _ d => uptoBulk d + 1
  | .map entries => uptoBulkEntries entries + 1
  | .held _ => 1
def uptoBulkAll {H : Type} : List (DataW H) → Nat
  | [] => 0
  | d :: r => uptoBulk d + uptoBulkAll r
def uptoBulkEntries {H : Type} : List (Lit × DataW H) → Nat
  | [] => 0
  | x :: r => uptoBulkEntry x + uptoBulkEntries r
def uptoBulkEntry {H : Type} : Lit × DataW H → Nat
  | (.string bytes, d) => bytes.length + uptoBulk d + 1
  | (_, d) => uptoBulk d + 1
 end
def uptoSmall : (H : Type) → List (DataW H) → Bool := fun _ ds => decide (uptoBulkAll ds ≤ 1048576)
def OpenSpec.upto (s : _root_.Go.ChangeSpec) : _root_.Go.OpenSpec := { _root_.Go.OpenSpec.ofChange s with cond := some uptoSmall }

/-- 'fairleadlaw03.InsnApart', WHERE WHAT IT READS IS OF BULK AT MOST 1048576: true; the input reads as it did. -/
def insnApartUptoRow : OpenClaim := { program := "ytfkhhmnkmddjhaa", sum := "3ce04c06b1f131d6a808519fdc0e682a75be2b1952d4965b068da2c4bdca8b34", func := "fairlead/fairleadlaw03.InsnApart", spec := "insnApart", apart := false, narrowed := true }
def InsnApartUptoSaid : Prop := insnApartUptoRow.holds Try.pinned (OpenSpec.upto insnApartSpec)

/-- 'fairleadlaw03.InsnBytes', WHERE WHAT IT READS IS OF BULK AT MOST 1048576: true; the input reads as it did. -/
def insnBytesUptoRow : OpenClaim := { program := "ytfkhhmnkmddjhaa", sum := "3ce04c06b1f131d6a808519fdc0e682a75be2b1952d4965b068da2c4bdca8b34", func := "fairlead/fairleadlaw03.InsnBytes", spec := "insnBytes", apart := false, narrowed := true }
def InsnBytesUptoSaid : Prop := insnBytesUptoRow.holds Try.pinned (OpenSpec.upto insnBytesSpec)

/-- 'fairleadlaw03.InsnKinds', WHERE WHAT IT READS IS OF BULK AT MOST 1048576: true; the input reads as it did. -/
def insnKindsUptoRow : OpenClaim := { program := "ytfkhhmnkmddjhaa", sum := "3ce04c06b1f131d6a808519fdc0e682a75be2b1952d4965b068da2c4bdca8b34", func := "fairlead/fairleadlaw03.InsnKinds", spec := "insnKinds", apart := false, narrowed := true }
def InsnKindsUptoSaid : Prop := insnKindsUptoRow.holds Try.pinned (OpenSpec.upto insnKindsSpec)

/-- 'fairleadlaw03.InsnFew', WHERE WHAT IT READS IS OF BULK AT MOST 1048576: true; the input reads as it did. -/
def insnFewUptoRow : OpenClaim := { program := "ytfkhhmnkmddjhaa", sum := "3ce04c06b1f131d6a808519fdc0e682a75be2b1952d4965b068da2c4bdca8b34", func := "fairlead/fairleadlaw03.InsnFew", spec := "insnFew", apart := false, narrowed := true }
def InsnFewUptoSaid : Prop := insnFewUptoRow.holds Try.pinned (OpenSpec.upto insnFewSpec)

/-- 'fairleadlaw03.InsnPrograms', WHERE WHAT IT READS IS OF BULK AT MOST 1048576: true; the input reads as it did. -/
def insnProgramsUptoRow : OpenClaim := { program := "ytfkhhmnkmddjhaa", sum := "3ce04c06b1f131d6a808519fdc0e682a75be2b1952d4965b068da2c4bdca8b34", func := "fairlead/fairleadlaw03.InsnPrograms", spec := "insnPrograms", apart := false, narrowed := true }
def InsnProgramsUptoSaid : Prop := insnProgramsUptoRow.holds Try.pinned (OpenSpec.upto insnProgramsSpec)

/-- 'fairleadlaw03.InsnBack', WHERE WHAT IT READS IS OF BULK AT MOST 1048576: true; the input reads as it did. -/
def insnBackUptoRow : OpenClaim := { program := "ytfkhhmnkmddjhaa", sum := "3ce04c06b1f131d6a808519fdc0e682a75be2b1952d4965b068da2c4bdca8b34", func := "fairlead/fairleadlaw03.InsnBack", spec := "insnBack", apart := false, narrowed := true }
def InsnBackUptoSaid : Prop := insnBackUptoRow.holds Try.pinned (OpenSpec.upto insnBackSpec)

end Rows
end Go.Proofs.Ytfkhhmnkmddjhaa
