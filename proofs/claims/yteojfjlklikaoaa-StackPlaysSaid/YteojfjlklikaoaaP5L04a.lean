/- Layer 4 (data), plain: a call's words. -/
import Derived.Test.YteojfjlklikaoaaP5Mx0
import Derived.Test.YteojfjlklikaoaaP5Mx3
import Derived.Test.YteojfjlklikaoaaP5Aid
import Derived.Test.YteojfjlklikaoaaP5L00
namespace Go.Proofs.Yteojfjlklikaoaa.Pure
open Go Go.RowKit Go.Proofs.Yteojfjlklikaoaa.M Go.Proofs.Yteojfjlklikaoaa.Aid Go.Proofs.YteojfjlklikaoaaW.PrintWords Go.Proofs.YteojfjlklikaoaaW.PrintLast Go.Proofs.YteojfjlklikaoaaW.PrintMore
set_option linter.unusedVariables false
set_option linter.unusedSimpArgs false
-- NEEDS data_laid.f data_Halves.f
-- IMPORT L00
def lo (x : Int) : Int := x % 4294967296
def hi (x : Int) : Int := x / 4294967296 % 4294967296
def b4 (x : Int) : List Int := [x % 256, x / 256 % 256, x / 65536 % 256, x / 16777216 % 256]
/-- What a call's numbers may be. -/
def DOk (a0 a1 a2 a3 a4 a5 a6 a7 a8 : Int) : Prop := (0 ≤ a0 ∧ a0 ≤ 4294967295) ∧ (0 ≤ a1 ∧ a1 ≤ 4294967295) ∧ (0 ≤ a2 ∧ a2 ≤ 18446744073709551615) ∧ ((0 ≤ a3 ∧ a3 ≤ 18446744073709551615) ∧ (0 ≤ a4 ∧ a4 ≤ 18446744073709551615) ∧ (0 ≤ a5 ∧ a5 ≤ 18446744073709551615) ∧ (0 ≤ a6 ∧ a6 ≤ 18446744073709551615) ∧ (0 ≤ a7 ∧ a7 ≤ 18446744073709551615) ∧ (0 ≤ a8 ∧ a8 ≤ 18446744073709551615))
/-- A call's words. -/
def WS (a0 a1 a2 a3 a4 a5 a6 a7 a8 : Int) : List Int := [a0, a1, lo a2, hi a2, lo a3, hi a3, lo a4, hi a4, lo a5, hi a5, lo a6, hi a6, lo a7, hi a7, lo a8, hi a8]
theorem ws_len (a0 a1 a2 a3 a4 a5 a6 a7 a8 : Int) : (WS a0 a1 a2 a3 a4 a5 a6 a7 a8).length = 16 := rfl
theorem lo_in (x : Int) : 0 ≤ lo x ∧ lo x ≤ 4294967295 := by unfold lo; omega
theorem hi_in (x : Int) : 0 ≤ hi x ∧ hi x ≤ 4294967295 := by unfold hi; omega
theorem ws_in {a0 a1 a2 a3 a4 a5 a6 a7 a8 : Int} (h : DOk a0 a1 a2 a3 a4 a5 a6 a7 a8) : ∀ x ∈ WS a0 a1 a2 a3 a4 a5 a6 a7 a8, 0 ≤ x ∧ x ≤ 4294967295 := by
  intro x hx
  simp only [WS, List.mem_cons, List.not_mem_nil, or_false] at hx
  rcases hx with rfl | rfl | rfl | rfl | rfl | rfl | rfl | rfl | rfl | rfl | rfl | rfl | rfl | rfl | rfl | rfl
  · exact h.1
  · exact h.2.1
  all_goals first | exact lo_in _ | exact hi_in _
theorem laid_is (a0 a1 a2 a3 a4 a5 a6 a7 a8 : Int) (k : Nat) (hk : 7 ≤ k) : data_laid.f k a0 a1 a2 a3 a4 a5 a6 a7 a8 = some (a0, a1, lo a2, hi a2, lo a3, hi a3, lo a4, hi a4, lo a5, hi a5, lo a6, hi a6, lo a7, hi a7, lo a8, hi a8) := by
  obtain ⟨k, rfl⟩ : ∃ m, k = m + 7 := ⟨k - 7, by omega⟩
  simp [data_laid.f, data_laid.l0, data_Halves.f, lo, hi]
theorem b4_in (x : Int) : ∀ y ∈ b4 x, 0 ≤ y ∧ y < 256 := by
  intro y hy
  simp only [b4, List.mem_cons, List.not_mem_nil, or_false] at hy
  rcases hy with rfl | rfl | rfl | rfl <;> omega
theorem flat_len (l : List Int) : (l.flatMap b4).length = 4 * l.length := by
  induction l with
  | nil => rfl
  | cons x r ih =>
    have hb : (b4 x).length = 4 := rfl
    simp only [List.flatMap_cons, List.length_append, ih, List.length_cons]
    omega
/-- The four bytes of word j. -/
theorem flat_cut (l : List Int) : ∀ (j : Nat), j < l.length → ((l.flatMap b4).drop (4 * j)).take 4 = b4 (rd l j) := by
  induction l with
  | nil => intro j h; simp at h
  | cons x r ih =>
    intro j hj
    have hb : (b4 x).length = 4 := rfl
    rw [List.flatMap_cons]
    cases j with
    | zero => rw [Nat.mul_zero, List.drop_zero, List.take_left' hb]; rfl
    | succ j =>
      rw [show 4 * (j + 1) = (b4 x).length + 4 * j from by omega, List.drop_append, List.drop_of_length_le (by omega)]
      simp only [List.nil_append, Nat.add_sub_cancel_left]
      rw [ih j (by simpa using hj)]
      rfl
end Go.Proofs.Yteojfjlklikaoaa.Pure
