-- Words of the print, of which this claim keeps those that it uses (wip/tools/prune.py).
import Derived.Test.YteojfjlklikaoaaP4WLast
import Derived.Test.YteojfjlklikaoaaP4WWords
namespace Go.Proofs.YteojfjlklikaoaaW.PrintLast
open Go.Proofs.YteojfjlklikaoaaW.PrintWords (Aside0)
section
variable {md : Region.Mode} {ops : Array Oper} {T : Bool × List (List Nat × List Nat)} {l l' li lj lk : Array Bool} {ds : List Nat} {i j k : Nat}
theorem gd (l : Array Bool) (j : Nat) (b : Bool) : l.getD j b = l.toList.getD j b := by simp [Array.getD_eq_getD_getElem?, List.getD_eq_getElem?_getD]
end
end Go.Proofs.YteojfjlklikaoaaW.PrintLast
