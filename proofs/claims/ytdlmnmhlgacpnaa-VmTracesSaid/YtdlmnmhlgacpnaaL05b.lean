/- Layer 5 (check), plain: programs cut, joined and spoilt. -/
import Derived.Test.YtdlmnmhlgacpnaaMx0
import Derived.Test.YtdlmnmhlgacpnaaMx3
import Derived.Test.YtdlmnmhlgacpnaaMx7
import Derived.Test.YtdlmnmhlgacpnaaAid
import Derived.Test.YtdlmnmhlgacpnaaL03k
import Derived.Test.YtdlmnmhlgacpnaaL05
namespace Go.Proofs.Ytdlmnmhlgacpnaa.Pure
open Go Go.RowKit Go.Proofs.Ytdlmnmhlgacpnaa.M Go.Proofs.Ytdlmnmhlgacpnaa.Aid Go.Proofs.YtdlmnmhlgacpnaaW.PrintWords Go.Proofs.YtdlmnmhlgacpnaaW.PrintLast Go.Proofs.YtdlmnmhlgacpnaaW.PrintMore
set_option linter.unusedVariables false
set_option linter.unusedSimpArgs false

-- NEEDS check_Check.f fairleadref05_Check.f
-- IMPORT L03k
-- IMPORT L05

theorem chk_pos {x : S37} {r : List S37} (h : wrongOf r.length x = 0) (i : Int) : chkFrom (x :: r) i = chkFrom r (i + 1) := by simp only [chkFrom]; rw [if_pos h]
theorem chk_neg {x : S37} {r : List S37} (h : ¬ wrongOf r.length x = 0) (i : Int) : chkFrom (x :: r) i = (wrongOf r.length x, i) := by simp only [chkFrom]; rw [if_neg h]
theorem chk_shift (l : List S37) : ∀ (i j : Int), 0 ≤ i → (chkFrom l (i + j)).1 = (chkFrom l i).1 ∧ (chkFrom l (i + j)).2 = (if (chkFrom l i).1 = 0 then -1 else (chkFrom l i).2 + j) ∧ ((chkFrom l i).1 = 0 → (chkFrom l i).2 = -1) ∧ ((chkFrom l i).1 ≠ 0 → i ≤ (chkFrom l i).2 ∧ (chkFrom l i).2 < i + l.length) := by
  induction l with
  | nil => intro i j _; simp [chkFrom]
  | cons x r ih =>
    intro i j hi
    by_cases h : wrongOf r.length x = 0
    · rw [chk_pos h, chk_pos h]
      have := ih (i + 1) j (by omega)
      rw [show i + j + 1 = i + 1 + j from by omega]
      refine ⟨this.1, this.2.1, this.2.2.1, fun hne => ?_⟩
      have h2 := this.2.2.2 hne
      simp only [List.length_cons]
      omega
    · rw [chk_neg h, chk_neg h]
      simp only [List.length_cons]
      refine ⟨trivial, by rw [if_neg h], fun h0 => absurd h0 h, fun _ => by omega⟩
theorem chk_ok {l : List S37} {i : Int} (hi : 0 ≤ i) (h : (chkFrom l i).1 = 0) : chkFrom l i = (0, -1) := Prod.ext h ((chk_shift l i 0 hi).2.2.1 h)
theorem chk_drop (l : List S37) : ∀ (i j : Int) (n : Nat), 0 ≤ j → (chkFrom l i).1 = 0 → chkFrom (l.drop n) j = (0, -1) := by
  induction l with
  | nil => intro i j n _ _; simp [chkFrom]
  | cons x r ih =>
    intro i j n hj h
    have hx : wrongOf r.length x = 0 := by
      by_cases hx : wrongOf r.length x = 0
      · exact hx
      · rw [chk_neg hx] at h
        exact absurd h hx
    rw [chk_pos hx] at h
    cases n with
    | zero =>
      rw [List.drop_zero, chk_pos hx]
      have := ih (i + 1) (j + 1) 0 (by omega) h
      simpa using this
    | succ n => exact ih (i + 1) j n hj h
theorem chk_set (e : Int) (he : e ≠ 0) (bad : S37) (l : List S37) : ∀ (i : Int) (n : Nat), 0 ≤ i → n < l.length → wrongOf ((l.length - 1 - n : Nat) : Int) bad = e →
    chkFrom (l.set n bad) i = if (chkFrom l i).1 ≠ 0 ∧ (chkFrom l i).2 < i + n then chkFrom l i else (e, i + n) := by
  induction l with
  | nil => intro i n _ hn; simp at hn
  | cons x r ih =>
    intro i n hi hn hb
    cases n with
    | zero =>
      have hb' : wrongOf (r.length : Int) bad = e := by simpa using hb
      rw [List.set_cons_zero, chk_neg (by rw [hb']; exact he), hb']
      rw [if_neg]
      · simp
      · intro ⟨h1, h2⟩
        have := ((chk_shift (x :: r) i 0 hi).2.2.2 h1).1
        omega
    | succ n =>
      simp only [List.length_cons] at hn hb
      rw [List.set_cons_succ]
      by_cases hx : wrongOf r.length x = 0
      · have hx' : wrongOf (r.set n bad).length x = 0 := by rw [List.length_set]; exact hx
        rw [chk_pos hx', chk_pos hx, ih (i + 1) n (by omega) (by omega) (by rw [show r.length - 1 - n = r.length + 1 - 1 - (n + 1) from by omega]; exact hb)]
        rw [show i + ((n + 1 : Nat) : Int) = i + 1 + n from by omega]
      · have hx' : ¬ wrongOf (r.set n bad).length x = 0 := by rw [List.length_set]; exact hx
        rw [chk_neg hx', chk_neg hx, List.length_set, if_pos ⟨hx, by show i < _; omega⟩]
theorem chk_all (l : List S37) : ∀ (i : Int) (j : Nat), (chkFrom l i).1 = 0 → j < l.length → wrongOf ((l.length - 1 - j : Nat) : Int) (rd_T37 l j) = 0 := by
  induction l with
  | nil => intro i j _ hj; simp at hj
  | cons x r ih =>
    intro i j h hj
    have hx : wrongOf r.length x = 0 := by
      by_cases hx : wrongOf r.length x = 0
      · exact hx
      · rw [chk_neg hx] at h
        exact absurd h hx
    rw [chk_pos hx] at h
    cases j with
    | zero => simpa [rd_T37] using hx
    | succ j =>
      simp only [List.length_cons] at hj
      have := ih (i + 1) j h (by omega)
      have e : rd_T37 (x :: r) ((j + 1 : Nat) : Int) = rd_T37 r j := by
        unfold rd_T37
        simp only [Int.toNat_natCast]
        rfl
      rw [e, List.length_cons, show r.length + 1 - 1 - (j + 1) = r.length - 1 - j from by omega]
      exact this
theorem CH_ok {l : List S37} (h : (CH l).1 = 0) : l.length ≠ 0 ∧ l.length ≤ 4096 ∧ (chkFrom l 0).1 = 0 ∧ CH l = (0, -1) := by
  by_cases h1 : l.length = 0
  · rw [CH, if_pos h1] at h
    exact absurd h (by decide)
  · by_cases h2 : 4096 < l.length
    · rw [CH, if_neg h1, if_pos h2] at h
      exact absurd h (by decide)
    · rw [CH, if_neg h1, if_neg h2] at h
      exact ⟨h1, by omega, h, by rw [CH, if_neg h1, if_neg h2]; exact chk_ok (by decide) h⟩
end Go.Proofs.Ytdlmnmhlgacpnaa.Pure
