-- Laid by a program (wip/tools/myprint.py) out of the loaded program's own print: for each Go function a Lean function and the proof of its contract.
import Derived.Test.YteojfjlklikaoaaP1Mx0
import Derived.Test.YteojfjlklikaoaaP1Mx3
namespace Go.Proofs.Yteojfjlklikaoaa.M
open Go.RowKit Go.Proofs.YteojfjlklikaoaaW.PrintWords Go.Proofs.YteojfjlklikaoaaW.PrintLast Go.Proofs.YteojfjlklikaoaaW.PrintMore
attribute [local go_sem] max2_int min2_int max_two min_two max_three min_three max_four min_four   -- for this text's walks alone
set_option linter.unusedVariables false
set_option linter.unusedSimpArgs false
-- HAND rounds=True making=True
theorem step_setRow {B g : Nat} {w0 w : World} (hb : Below B w0 w) (hBg : B ≤ g) (cs : Array Value) : Below B w0 (w.setRow g cs) := hb.trans ⟨rfl, rfl, rfl, by simp [World.setRow], fun k hk => setRow_other w g k cs (by omega)⟩
/-- The blocks of a step. -/
structure StB (w0 w : World) (gd gs gr gx : Nat) (D S X : Array Value) : Prop where
  bd : w.heap[gd]? = some (.cells D 27 (0, 0))
  bs : w.heap[gs]? = some (.cells S 73 (0, 0))
  br : w.heap[gr]? = some (.cells #[.int .i64 0, .int .i64 0, .int .u32 0, .int .u32 0, .int .u32 0, .int .u32 0, .int .u32 0, .int .u32 0, .int .u32 0, .int .u32 0, .int .u32 0, .int .u32 0, .int .u32 0, .int .u32 0, .int .u32 0, .int .u32 0, .int .u32 0, .int .u32 0, .int .u32 0, .int .u32 0, .bool false, .int .u32 0] 73 (0, 0))
  bx : w.heap[gx]? = some (.cells X 53 (0, 0))
  below : Below w0.heap.size w0 w
  gs0 : w0.heap.size ≤ gs
  gr0 : w0.heap.size ≤ gr
  sd : gs ≠ gd
  sr : gs ≠ gr
  sx : gs ≠ gx
theorem StB.put {w0 w : World} {gd gs gr gx : Nat} {D S X : Array Value} (h : StB w0 w gd gs gr gx D S X) (j : Nat) (v : Value) {S' : Array Value} (e : S.setIfInBounds j v = S') : StB w0 (w.setCell ⟨gs, j, none⟩ v) gd gs gr gx D S' X :=
  ⟨blk_far h.bd h.sd.symm v, blk_put h.bs j v e, blk_far h.br h.sr.symm v, blk_far h.bx h.sx.symm v, below_set h.below h.gs0, h.gs0, h.gr0, h.sd, h.sr, h.sx⟩
theorem StB.call {w0 w w' : World} {gd gs gr gx : Nat} {D S X : Array Value} (h : StB w0 w gd gs gr gx D S X) (hb : Below w.heap.size w w') : StB w0 w' gd gs gr gx D S X :=
  ⟨blk_below h.bd hb, blk_below h.bs hb, blk_below h.br hb, blk_below h.bx hb, below_step h.below hb, h.gs0, h.gr0, h.sd, h.sr, h.sx⟩
end Go.Proofs.Yteojfjlklikaoaa.M
