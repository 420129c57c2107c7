-- Laid by a program (wip/tools/myprint.py) out of the loaded program's own print: for each Go function a Lean function and the proof of its contract.
import Derived.Test.YteojfjlklikaoaaP1Mx0
import Derived.Test.YteojfjlklikaoaaP1Mx3
import Derived.Test.YteojfjlklikaoaaP1Mx12
namespace Go.Proofs.Yteojfjlklikaoaa.M
open Go.RowKit Go.Proofs.YteojfjlklikaoaaW.PrintWords Go.Proofs.YteojfjlklikaoaaW.PrintLast Go.Proofs.YteojfjlklikaoaaW.PrintMore
attribute [local go_sem] max2_int min2_int max_two min_two max_three min_three max_four min_four   -- for this text's walks alone
set_option linter.unusedVariables false
set_option linter.unusedSimpArgs false
-- HAND rounds=True making=True
/-- The blocks of a run. -/
structure RunB (w0 w : World) (gd gs : Nat) (D S : Array Value) : Prop where
  bd : w.heap[gd]? = some (.cells D 27 (0, 0))
  bs : w.heap[gs]? = some (.cells S 73 (0, 0))
  below : Below w0.heap.size w0 w
  gs0 : w0.heap.size ≤ gs
  sd : gs ≠ gd
theorem RunB.call {w0 w w' : World} {gd gs : Nat} {D S : Array Value} (h : RunB w0 w gd gs D S) (hb : Below w.heap.size w w') : RunB w0 w' gd gs D S :=
  ⟨blk_below h.bd hb, blk_below h.bs hb, below_step h.below hb, h.gs0, h.sd⟩
theorem RunB.row {w0 w : World} {gd gs : Nat} {D S : Array Value} (h : RunB w0 w gd gs D S) (S' : Array Value) (hl : S.size = S'.size) : RunB w0 (w.setRow gs S') gd gs D S' :=
  ⟨(setRow_other w gs gd S' (Ne.symm h.sd)).trans h.bd, setRow_heap w gs S S' 73 (0, 0) h.bs, step_setRow h.below h.gs0 S', h.gs0, h.sd⟩
end Go.Proofs.Yteojfjlklikaoaa.M
