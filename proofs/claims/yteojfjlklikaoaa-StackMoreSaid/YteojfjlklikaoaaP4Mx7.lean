-- Laid by a program (wip/tools/myprint.py) out of the loaded program's own print: for each Go function a Lean function and the proof of its contract.
import Derived.Test.YteojfjlklikaoaaP4Mx0
namespace Go.Proofs.Yteojfjlklikaoaa.M
open Go.RowKit Go.Proofs.YteojfjlklikaoaaW.PrintWords Go.Proofs.YteojfjlklikaoaaW.PrintLast Go.Proofs.YteojfjlklikaoaaW.PrintMore
attribute [local go_sem] max2_int min2_int max_two min_two max_three min_three max_four min_four   -- for this text's walks alone
set_option linter.unusedVariables false
set_option linter.unusedSimpArgs false
-- HAND rounds=False making=False
/-- What filters cost. -/
def costOf (L : List (List S53)) : Int := (L.map fun l => (l.length : Int) + 4).sum
theorem costOf_app (L : List (List S53)) (l : List S53) : costOf (L ++ [l]) = costOf L + l.length + 4 := by
  simp [costOf]; omega
theorem costOf_in (L : List (List S53)) (h : ∀ l ∈ L, l.length ≤ 4096) : 0 ≤ costOf L ∧ costOf L ≤ 4100 * L.length := by
  induction L with
  | nil => exact ⟨by decide, by decide⟩
  | cons a r ih =>
    have h1 := ih (fun l hl => h l (List.mem_cons_of_mem _ hl))
    have h2 := h a List.mem_cons_self
    have e : costOf (a :: r) = (a.length : Int) + 4 + costOf r := by simp [costOf]
    rw [e, List.length_cons]
    omega
def fairleadref03_Has.l0 : Nat → List Int → Int → Int → Option (Bool)
  | 0, _, _, _ => none
  | k + 1, x0, x1, x5 => if x5 < (x0.length : Int) then (if 0 ≤ x5 then (if (rd x0 x5) = x1 then (some true) else (fairleadref03_Has.l0 k x0 x1 (wrap64 (x5 + 1)))) else (none)) else (some false)
def fairleadref03_Has.f (k : Nat) (l0 : List Int) (a1 : Int) : Option (Bool) := fairleadref03_Has.l0 k l0 a1 0
def fairleadref03_Plain.f  : Option (List Int) := some (([32, 0, 1, 96, 97, 2, 3, 4, 20, 36, 52, 68, 84, 100, 116, 132, 164, 5, 21, 37, 53, 69, 6, 22, 7, 135] : List Int))
def fairleadref03_WithX.f  : Option (List Int) := some (([4, 20, 36, 52, 68, 84, 100, 116, 164, 21, 37, 53, 69] : List Int))
def fairleadref03_Known.f (k : Nat) (a0 : Int) : Option (Bool) := (fairleadref03_Plain.f).bind fun t164 => ((fairleadref03_Has.f k t164 a0).bind fun t167 => (if t167 = true then (some true) else (if a0 ≥ 8 then ((fairleadref03_WithX.f).bind fun t168 => ((fairleadref03_Has.f k t168 (IntKind.u16.wrap (a0 - 8))).bind fun t171 => (some t171))) else (some false))))
def fairleadref03_Jumps.f (a0 : Int) : Option (Bool) := if a0 = 5 then (some true) else (if a0 = 21 then (some true) else (if a0 = 37 then (some true) else (if a0 = 53 then (some true) else (if a0 = 69 then (some true) else (if a0 = 29 then (some true) else (if a0 = 45 then (some true) else (if a0 = 61 then (some true) else (some (a0 == 77)))))))))
def fairleadref03_Ends.f (a0 : Int) : Option (Bool) := if a0 = 6 then (some true) else (some (a0 == 22))
end Go.Proofs.Yteojfjlklikaoaa.M
