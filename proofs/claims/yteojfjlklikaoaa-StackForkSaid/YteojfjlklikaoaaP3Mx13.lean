-- Laid by a program (wip/tools/myprint.py) out of the loaded program's own print: for each Go function a Lean function and the proof of its contract.
import Derived.Test.YteojfjlklikaoaaP3Mx0
import Derived.Test.YteojfjlklikaoaaP3Mx9
import Derived.Test.YteojfjlklikaoaaP3Mx12
namespace Go.Proofs.Yteojfjlklikaoaa.M
open Go.RowKit Go.Proofs.YteojfjlklikaoaaW.PrintWords Go.Proofs.YteojfjlklikaoaaW.PrintLast Go.Proofs.YteojfjlklikaoaaW.PrintMore
attribute [local go_sem] max2_int min2_int max_two min_two max_three min_three max_four min_four   -- for this text's walks alone
set_option linter.unusedVariables false
set_option linter.unusedSimpArgs false
-- HAND rounds=True making=True
def fairleadref06_Run.l0 : Nat → List S53 → Int → Int → Int → Int → Int → Int → Int → Int → Int → Int → Int → Int → StS → Option (Int × Int × Int)
  | 0, _, _, _, _, _, _, _, _, _, _, _, _, _, _ => none
  | k + 1, l, c, d0, d1, d2, d3, d4, d5, d6, d7, d8, T, n, s => if c ≤ (l.length : Int) then (if s.o = true then some (s.r, n, 0) else if 0 ≤ T ∧ T < (l.length : Int) then (fairleadref06_Step.g k (rd_T53 l T).f0 (rd_T53 l T).f1 (rd_T53 l T).f2 (rd_T53 l T).f3 d0 d1 d2 d3 d4 d5 d6 d7 d8 (wrap64 (T + 1)) s).bind fun p => fairleadref06_Run.l0 k l (wrap64 (c + 1)) d0 d1 d2 d3 d4 d5 d6 d7 d8 p.1 (wrap64 (n + 1)) p.2 else none) else some (s.r, n, 0)
def fairleadref06_Run.f (k : Nat) (l : List S53) (d0 d1 d2 d3 d4 d5 d6 d7 d8 : Int) : Option (Int × Int × Int) := (fairleadref05_Check.f k l).bind fun t => if t.1 = 0 then fairleadref06_Run.l0 k l 0 d0 d1 d2 d3 d4 d5 d6 d7 d8 0 0 ⟨0, 0, false, 0, fun _ => 0⟩ else some (0, 0, t.1)
/-- The blocks of a run. -/
structure RunB (w0 w : World) (gd gs : Nat) (D S : Array Value) : Prop where
  bd : w.heap[gd]? = some (.cells D 27 (0, 0))
  bs : w.heap[gs]? = some (.cells S 73 (0, 0))
  below : Below w0.heap.size w0 w
  gs0 : w0.heap.size ≤ gs
  sd : gs ≠ gd
theorem RunB.call {w0 w w' : World} {gd gs : Nat} {D S : Array Value} (h : RunB w0 w gd gs D S) (hb : Below w.heap.size w w') : RunB w0 w' gd gs D S :=
  ⟨blk_below h.bd hb, blk_below h.bs hb, below_step h.below hb, h.gs0, h.sd⟩
theorem RunB.row {w0 w : World} {gd gs : Nat} {D S : Array Value} (h : RunB w0 w gd gs D S) (S' : Array Value) (hl : S.size = S'.size) : RunB w0 (w.setRow gs S') gd gs D S' :=
  ⟨(setRow_other w gs gd S' (Ne.symm h.sd)).trans h.bd, setRow_heap w gs S S' 73 (0, 0) h.bs, step_setRow h.below h.gs0 S', h.gs0, h.sd⟩
def fairleadref07_numbers.f  : Option (List Int) := some (([2147483648, 0, 196608, 327680, 2143289344, 2146435072, 2147221504, 2147418112] : List Int))
def fairleadref07_has.f (a0 : Int) : Option (Bool) := if a0 = 3 then (some true) else (if a0 = 4 then (some true) else (some (a0 == 6)))
def fairleadref07_Of.l0 : Nat → Int → List Int → Int → Option (Int × Int)
  | 0, _, _, _ => none
  | k + 1, x0, x3, x4 => if x4 < (x3.length : Int) then (if 0 ≤ x4 then (if (rd x3 x4) = ((((Int.tdiv x0 65536) % 4294967296) * 65536) % 4294967296) then ((fairleadref07_has.f (wrap64 (x4 + 1))).bind fun t253 => (if t253 = true then (some (wrap64 (x4 + 1), wrap64 (Int.tmod x0 65536))) else (some (wrap64 (x4 + 1), 0)))) else (fairleadref07_Of.l0 k x0 x3 (wrap64 (x4 + 1)))) else (none)) else (some (1, 0))
def fairleadref07_Of.f (k : Nat) (a0 : Int) : Option (Int × Int) := (fairleadref07_numbers.f).bind fun t249 => (fairleadref07_Of.l0 k a0 t249 0)
mutual
def fairleadref07_Most.l0 : Nat → List Int → Int → Option (Int)
  | 0, _, _ => none
  | k + 1, x0, x3 => if x3 < (x0.length : Int) then (fairleadref07_Most.l1 k x0 x3 true 0) else (some 2147418112)
def fairleadref07_Most.l1 : Nat → List Int → Int → Bool → Int → Option (Int)
  | 0, _, _, _, _ => none
  | k + 1, x0, x3, x4, x5 => if x5 < (x0.length : Int) then (if 0 ≤ x5 then ((fairleadref07_Of.f k (rd x0 x5)).bind fun bt256 => (if 0 ≤ x3 then (if x3 < (x0.length : Int) then ((fairleadref07_Of.f k (rd x0 x3)).bind fun bt259 => (if bt256.1 < bt259.1 then (fairleadref07_Most.l1 k x0 x3 false (wrap64 (x5 + 1))) else (fairleadref07_Most.l1 k x0 x3 x4 (wrap64 (x5 + 1))))) else (none)) else (none))) else (none)) else (if x4 = true then (if 0 ≤ x3 then (if x3 < (x0.length : Int) then (some (rd x0 x3)) else (none)) else (none)) else (fairleadref07_Most.l0 k x0 (wrap64 (x3 + 1))))
end
def fairleadref07_Most.f (k : Nat) (l0 : List Int) : Option (Int) := fairleadref07_Most.l0 k l0 0
end Go.Proofs.Yteojfjlklikaoaa.M
