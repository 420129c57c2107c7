-- Laid by a program (wip/tools/myprint.py) out of the loaded program's own print: for each Go function a Lean function and the proof of its contract.
import Derived.Test.YteojfjlklikaoaaP4Mx0
import Derived.Test.YteojfjlklikaoaaP4Mx10
import Derived.Test.YteojfjlklikaoaaP4Mx11
namespace Go.Proofs.Yteojfjlklikaoaa.M
open Go.RowKit Go.Proofs.YteojfjlklikaoaaW.PrintWords Go.Proofs.YteojfjlklikaoaaW.PrintLast Go.Proofs.YteojfjlklikaoaaW.PrintMore
attribute [local go_sem] max2_int min2_int max_two min_two max_three min_three max_four min_four   -- for this text's walks alone
set_option linter.unusedVariables false
set_option linter.unusedSimpArgs false
-- HAND rounds=True making=True
/-- A state's numbers, but for its place and its steps. -/
structure StS where
  a : Int
  x : Int
  o : Bool
  r : Int
  C : Int → Int
theorem step_setRow {B g : Nat} {w0 w : World} (hb : Below B w0 w) (hBg : B ≤ g) (cs : Array Value) : Below B w0 (w.setRow g cs) := hb.trans ⟨rfl, rfl, rfl, by simp [World.setRow], fun k hk => setRow_other w g k cs (by omega)⟩
/-- The blocks of a step. -/
structure StB (w0 w : World) (gd gs gr gx : Nat) (D S X : Array Value) : Prop where
  bd : w.heap[gd]? = some (.cells D 27 (0, 0))
  bs : w.heap[gs]? = some (.cells S 73 (0, 0))
  br : w.heap[gr]? = some (.cells #[.int .i64 0, .int .i64 0, .int .u32 0, .int .u32 0, .int .u32 0, .int .u32 0, .int .u32 0, .int .u32 0, .int .u32 0, .int .u32 0, .int .u32 0, .int .u32 0, .int .u32 0, .int .u32 0, .int .u32 0, .int .u32 0, .int .u32 0, .int .u32 0, .int .u32 0, .int .u32 0, .bool false, .int .u32 0] 73 (0, 0))
  bx : w.heap[gx]? = some (.cells X 53 (0, 0))
  below : Below w0.heap.size w0 w
  gs0 : w0.heap.size ≤ gs
  gr0 : w0.heap.size ≤ gr
  sd : gs ≠ gd
  sr : gs ≠ gr
  sx : gs ≠ gx
theorem StB.put {w0 w : World} {gd gs gr gx : Nat} {D S X : Array Value} (h : StB w0 w gd gs gr gx D S X) (j : Nat) (v : Value) {S' : Array Value} (e : S.setIfInBounds j v = S') : StB w0 (w.setCell ⟨gs, j, none⟩ v) gd gs gr gx D S' X :=
  ⟨blk_far h.bd h.sd.symm v, blk_put h.bs j v e, blk_far h.br h.sr.symm v, blk_far h.bx h.sx.symm v, below_set h.below h.gs0, h.gs0, h.gr0, h.sd, h.sr, h.sx⟩
theorem StB.call {w0 w w' : World} {gd gs gr gx : Nat} {D S X : Array Value} (h : StB w0 w gd gs gr gx D S X) (hb : Below w.heap.size w w') : StB w0 w' gd gs gr gx D S X :=
  ⟨blk_below h.bd hb, blk_below h.bs hb, blk_below h.br hb, blk_below h.bx hb, below_step h.below hb, h.gs0, h.gr0, h.sd, h.sr, h.sx⟩
def fairleadref06_Step.g (k : Nat) (c jt jf K : Int) (d0 d1 d2 d3 d4 d5 d6 d7 d8 T : Int) (s : StS) : Option (Int × StS) :=
  if c = 32 then (fairleadref04_Load.f k d0 d1 d2 d3 d4 d5 d6 d7 d8 K).bind fun p => some (T, { s with a := p.1 })
  else if c = 0 then some (T, { s with a := K }) else if c = 1 then some (T, { s with x := K })
  else if c = 96 then (if 0 ≤ K ∧ K < 16 then some (T, { s with a := s.C K }) else none) else if c = 97 then (if 0 ≤ K ∧ K < 16 then some (T, { s with x := s.C K }) else none)
  else if c = 2 then (if 0 ≤ K ∧ K < 16 then some (T, { s with C := fun j => if j = K then s.a else s.C j }) else none) else if c = 3 then (if 0 ≤ K ∧ K < 16 then some (T, { s with C := fun j => if j = K then s.x else s.C j }) else none)
  else if c = 7 then some (T, { s with x := s.a }) else if c = 135 then some (T, { s with a := s.x }) else if c = 132 then some (T, { s with a := (-s.a) % 4294967296 })
  else if c = 5 then some (wrap64 (T + wrap64 K), s) else if c = 6 then some (T, { s with o := true, r := K }) else if c = 22 then some (T, { s with o := true, r := s.a })
  else if c = 21 ∨ c = 37 ∨ c = 53 ∨ c = 69 then (fairleadref06_holds.f c s.a K).bind fun b => some (wrap64 (T + (if b = true then wrap64 jt else wrap64 jf)), s)
  else if c = 29 ∨ c = 45 ∨ c = 61 ∨ c = 77 then (fairleadref06_holds.f (c - 8) s.a s.x).bind fun b => some (wrap64 (T + (if b = true then wrap64 jt else wrap64 jf)), s)
  else if c = 52 then (if K = 0 then some (T, { s with o := true }) else (fairleadref06_reckon.f k 52 s.a K).bind fun v => some (T, { s with a := v }))
  else if c = 60 then (if s.x = 0 then some (T, { s with o := true }) else (fairleadref06_reckon.f k 52 s.a s.x).bind fun v => some (T, { s with a := v }))
  else if c = 4 ∨ c = 20 ∨ c = 36 ∨ c = 68 ∨ c = 84 ∨ c = 100 ∨ c = 116 ∨ c = 164 then (fairleadref06_reckon.f k c s.a K).bind fun v => some (T, { s with a := v })
  else if c = 12 ∨ c = 28 ∨ c = 44 ∨ c = 76 ∨ c = 92 ∨ c = 108 ∨ c = 124 ∨ c = 172 then (fairleadref06_reckon.f k (c - 8) s.a s.x).bind fun v => some (T, { s with a := v })
  else none
end Go.Proofs.Yteojfjlklikaoaa.M
