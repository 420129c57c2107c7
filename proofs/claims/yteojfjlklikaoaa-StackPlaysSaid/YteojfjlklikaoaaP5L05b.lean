/- Layer 5 (check), plain: programs cut, joined and spoilt. -/
import Derived.Test.YteojfjlklikaoaaP5Mx0
import Derived.Test.YteojfjlklikaoaaP5Mx3
import Derived.Test.YteojfjlklikaoaaP5Mx9
import Derived.Test.YteojfjlklikaoaaP5Aid
import Derived.Test.YteojfjlklikaoaaP5L03k
import Derived.Test.YteojfjlklikaoaaP5L05
namespace Go.Proofs.Yteojfjlklikaoaa.Pure
open Go Go.RowKit Go.Proofs.Yteojfjlklikaoaa.M Go.Proofs.Yteojfjlklikaoaa.Aid Go.Proofs.YteojfjlklikaoaaW.PrintWords Go.Proofs.YteojfjlklikaoaaW.PrintLast Go.Proofs.YteojfjlklikaoaaW.PrintMore
set_option linter.unusedVariables false
set_option linter.unusedSimpArgs false
-- NEEDS check_Check.f fairleadref05_Check.f
-- IMPORT L03k
-- IMPORT L05
theorem chk_pos {x : S53} {r : List S53} (h : wrongOf r.length x = 0) (i : Int) : chkFrom (x :: r) i = chkFrom r (i + 1) := by simp only [chkFrom]; rw [if_pos h]
theorem chk_neg {x : S53} {r : List S53} (h : ¬ wrongOf r.length x = 0) (i : Int) : chkFrom (x :: r) i = (wrongOf r.length x, i) := by simp only [chkFrom]; rw [if_neg h]
theorem chk_shift (l : List S53) : ∀ (i j : Int), 0 ≤ i → (chkFrom l (i + j)).1 = (chkFrom l i).1 ∧ (chkFrom l (i + j)).2 = (if (chkFrom l i).1 = 0 then -1 else (chkFrom l i).2 + j) ∧ ((chkFrom l i).1 = 0 → (chkFrom l i).2 = -1) ∧ ((chkFrom l i).1 ≠ 0 → i ≤ (chkFrom l i).2 ∧ (chkFrom l i).2 < i + l.length) := by
  induction l with
  | nil => intro i j _; simp [chkFrom]
  | cons x r ih =>
    intro i j hi
    by_cases h : wrongOf r.length x = 0
    · rw [chk_pos h, chk_pos h]
      have := ih (i + 1) j (by omega)
      rw [show i + j + 1 = i + 1 + j from by omega]
      refine ⟨this.1, this.2.1, this.2.2.1, fun hne => ?_⟩
      have h2 := this.2.2.2 hne
      simp only [List.length_cons]
      omega
    · rw [chk_neg h, chk_neg h]
      simp only [List.length_cons]
      refine ⟨trivial, by rw [if_neg h], fun h0 => absurd h0 h, fun _ => by omega⟩
theorem chk_ok {l : List S53} {i : Int} (hi : 0 ≤ i) (h : (chkFrom l i).1 = 0) : chkFrom l i = (0, -1) := Prod.ext h ((chk_shift l i 0 hi).2.2.1 h)
theorem chk_all (l : List S53) : ∀ (i : Int) (j : Nat), (chkFrom l i).1 = 0 → j < l.length → wrongOf ((l.length - 1 - j : Nat) : Int) (rd_T53 l j) = 0 := by
  induction l with
  | nil => intro i j _ hj; simp at hj
  | cons x r ih =>
    intro i j h hj
    have hx : wrongOf r.length x = 0 := by
      by_cases hx : wrongOf r.length x = 0
      · exact hx
      · rw [chk_neg hx] at h
        exact absurd h hx
    rw [chk_pos hx] at h
    cases j with
    | zero => simpa [rd_T53] using hx
    | succ j =>
      simp only [List.length_cons] at hj
      have := ih (i + 1) j h (by omega)
      have e : rd_T53 (x :: r) ((j + 1 : Nat) : Int) = rd_T53 r j := by
        unfold rd_T53
        simp only [Int.toNat_natCast]
        rfl
      rw [e, List.length_cons, show r.length + 1 - 1 - (j + 1) = r.length - 1 - j from by omega]
      exact this
theorem CH_ok {l : List S53} (h : (CH l).1 = 0) : l.length ≠ 0 ∧ l.length ≤ 4096 ∧ (chkFrom l 0).1 = 0 ∧ CH l = (0, -1) := by
  by_cases h1 : l.length = 0
  · rw [CH, if_pos h1] at h
    exact absurd h (by decide)
  · by_cases h2 : 4096 < l.length
    · rw [CH, if_neg h1, if_pos h2] at h
      exact absurd h (by decide)
    · rw [CH, if_neg h1, if_neg h2] at h
      exact ⟨h1, by omega, h, by rw [CH, if_neg h1, if_neg h2]; exact chk_ok (by decide) h⟩
end Go.Proofs.Yteojfjlklikaoaa.Pure
