/- Layer 4 (data), plain: the call of 64 bytes. -/
import Derived.Test.YtadglbmghldnfaaDMx0
import Derived.Test.YtadglbmghldnfaaDMx5
import Derived.Test.YtadglbmghldnfaaDMx7
import Derived.Test.YtadglbmghldnfaaDMx8
import Derived.Test.YtadglbmghldnfaaDAid
import Derived.Test.YtadglbmghldnfaaDL04
import Derived.Test.YtadglbmghldnfaaDL04n
namespace Go.Proofs.Ytadglbmghldnfaa.Pure
open Go Go.RowKit Go.Proofs.Ytadglbmghldnfaa.M Go.Proofs.Ytadglbmghldnfaa.Aid Go.Proofs.YtadglbmghldnfaaW.PrintWords Go.Proofs.YtadglbmghldnfaaW.PrintLast Go.Proofs.YtadglbmghldnfaaW.PrintMore
set_option linter.unusedVariables false
set_option linter.unusedSimpArgs false
-- NEEDS data_laid.f data_Halves.f data_Bytes.f data_Of.f data_joined.f
-- IMPORT L04
-- IMPORT L04n
theorem shl_u32_8 {x : Int} (n : Int) (j : Nat) (hn : n = j) (hj : j ≤ 32) : shl .u32 x n = x * 2 ^ j % 4294967296 := by
  subst hn
  unfold shl
  rw [IntKind.wrap_u32]
  simp only [Int.toNat_natCast, IntKind.bits]
  rw [Nat.min_eq_left hj]
theorem or_u32 {x y : Int} {m : Nat} (hm : m = 8 ∨ m = 16 ∨ m = 24) (hx : 0 ≤ x ∧ x < 2 ^ m) (hy : 0 ≤ y ∧ y ≤ 255) : Go.bits .or .u32 x (y % 4294967296 * 2 ^ m % 4294967296) = x + y * 2 ^ m := by
  rcases hm with rfl | rfl | rfl
  · rw [u32_or8 _ _ hx.1 (by omega) (by omega) (by omega) (by omega)]; omega
  · rw [u32_or16 _ _ hx.1 (by omega) (by omega) (by omega) (by omega)]; omega
  · rw [u32_or24 _ _ hx.1 (by omega) (by omega) (by omega) (by omega)]; omega
theorem or_zero {x : Int} (hx : 0 ≤ x ∧ x ≤ 255) : Go.bits .or .u32 0 (x % 4294967296 * 2 ^ 0 % 4294967296) = x := by
  have e : x % 4294967296 * 2 ^ 0 % 4294967296 = x := by omega
  rw [e, Go.u32_or 0 x (by decide) (by decide) hx.1 (by omega)]
  simp
  omega
theorem drop4 (l : List Int) (n : Nat) (h : n + 4 ≤ l.length) : l.drop n = rd l n :: rd l ((n + 1 : Nat) : Int) :: rd l ((n + 2 : Nat) : Int) :: rd l ((n + 3 : Nat) : Int) :: l.drop (n + 4) := by
  rw [drop_rdI l n (by omega), drop_rdI l (n + 1) (by omega), drop_rdI l (n + 2) (by omega), drop_rdI l (n + 3) (by omega)]
/-- The cells while word i is made: words ahead are whole, of word i there are kk bytes. -/
def cw (l : List Int) (i kk : Nat) : Int → Int := fun j => numL ((l.drop (4 * j.toNat)).take (if j < i then 4 else if j = i then kk else 0))
theorem or_step (l : List Int) (hb : ∀ x ∈ l, 0 ≤ x ∧ x ≤ 255) (n kk : Nat) (hn : n + 4 ≤ l.length) (hk : kk < 4) : Go.bits .or .u32 (numL ((l.drop n).take kk)) (shl .u32 ((rd l ((n + kk : Nat) : Int)) % 4294967296) ((8 * kk : Nat) : Int)) = numL ((l.drop n).take (kk + 1)) := by
  have b0 := hb _ (rd_memI l n (by omega))
  have b1 := hb _ (rd_memI l (n + 1) (by omega))
  have b2 := hb _ (rd_memI l (n + 2) (by omega))
  have b3 := hb _ (rd_memI l (n + 3) (by omega))
  rw [shl_u32_8 _ (8 * kk) rfl (by omega), drop4 l n hn]
  rcases (by omega : kk = 0 ∨ kk = 1 ∨ kk = 2 ∨ kk = 3) with rfl | rfl | rfl | rfl
  · simp only [List.take_zero, List.take_succ_cons, numL, Nat.add_zero, Nat.mul_zero]
    rw [or_zero b0]
    omega
  · simp only [List.take_zero, List.take_succ_cons, numL]
    rw [or_u32 (.inl rfl) (by omega) b1]
    omega
  · simp only [List.take_zero, List.take_succ_cons, numL]
    rw [or_u32 (.inr (.inl rfl)) (by omega) b2]
    omega
  · simp only [List.take_zero, List.take_succ_cons, numL]
    rw [or_u32 (.inr (.inr rfl)) (by omega) b3]
    omega
theorem rd16 (c : Int → Int) (i : Nat) (hi : i < 16) : rd ([c 0, c 1, c 2, c 3, c 4, c 5, c 6, c 7, c 8, c 9, c 10, c 11, c 12, c 13, c 14, c 15] : List Int) i = c i := by
  rcases (by omega : i = 0 ∨ i = 1 ∨ i = 2 ∨ i = 3 ∨ i = 4 ∨ i = 5 ∨ i = 6 ∨ i = 7 ∨ i = 8 ∨ i = 9 ∨ i = 10 ∨ i = 11 ∨ i = 12 ∨ i = 13 ∨ i = 14 ∨ i = 15) with rfl | rfl | rfl | rfl | rfl | rfl | rfl | rfl | rfl | rfl | rfl | rfl | rfl | rfl | rfl | rfl <;> rfl
def OF1 (c : Int → Int) (k : Nat) (l : List Int) (i kk : Nat) : Option (Int × Int × Int × Int × Int × Int × Int × Int × Int × Int) := data_Of.l1 k l i i kk (c 0) (c 1) (c 2) (c 3) (c 4) (c 5) (c 6) (c 7) (c 8) (c 9) (c 10) (c 11) (c 12) (c 13) (c 14) (c 15)
def OF0 (c : Int → Int) (k : Nat) (l : List Int) (i : Nat) : Option (Int × Int × Int × Int × Int × Int × Int × Int × Int × Int) := data_Of.l0 k l i (c 0) (c 1) (c 2) (c 3) (c 4) (c 5) (c 6) (c 7) (c 8) (c 9) (c 10) (c 11) (c 12) (c 13) (c 14) (c 15)
theorem of_step (l : List Int) (hb : ∀ x ∈ l, 0 ≤ x ∧ x ≤ 255) (hl : l.length = 64) (k i kk : Nat) (hi : i < 16) (hk : kk < 4) : OF1 (cw l i kk) (k + 1) l i kk = OF1 (cw l i (kk + 1)) k l i (kk + 1) := by
  have e1 : wrap64 (wrap64 (4 * (i : Int)) + kk) = ((4 * i + kk : Nat) : Int) := by rw [w64_id (x := 4 * (i : Int)) (by omega) (by omega), w64_id (by omega) (by omega)]; omega
  have e2 : wrap64 (8 * (kk : Int)) = ((8 * kk : Nat) : Int) := by rw [w64_id (by omega) (by omega)]; omega
  have e3 : wrap64 ((kk : Int) + 1) = ((kk + 1 : Nat) : Int) := by rw [w64_id (by omega) (by omega)]; omega
  have ec : cw l i (kk + 1) = fun j => if (i : Int) = j then Go.bits .or .u32 (cw l i kk i) (shl .u32 ((rd l ((4 * i + kk : Nat) : Int)) % 4294967296) ((8 * kk : Nat) : Int)) else cw l i kk j := by
    funext j
    by_cases hj : (i : Int) = j
    · rw [if_pos hj, ← hj]
      unfold cw
      rw [Int.toNat_natCast, if_neg (by omega), if_pos rfl, if_neg (by omega), if_pos rfl, or_step l hb (4 * i) kk (by omega) hk]
    · rw [if_neg hj]
      unfold cw
      rw [if_neg (show ¬ j = (i : Int) from fun e => hj e.symm), if_neg (show ¬ j = (i : Int) from fun e => hj e.symm)]
  unfold OF1
  rw [ec]
  simp only [data_Of.l1]
  rw [if_pos (by omega), if_pos (by omega), if_pos (by omega), e1, e2, e3, if_pos (by omega), if_pos (by omega), if_pos (by omega), rd16 (cw l i kk) i hi]
theorem of_end1 (l : List Int) (k i : Nat) (hi : i < 16) : OF1 (cw l i 4) (k + 1) l i 4 = OF0 (cw l (i + 1) 0) k l (i + 1) := by
  have e3 : wrap64 ((i : Int) + 1) = ((i + 1 : Nat) : Int) := by rw [w64_id (by omega) (by omega)]; omega
  have ec : cw l (i + 1) 0 = cw l i 4 := by
    funext j
    unfold cw
    by_cases h1 : j < (i : Int)
    · rw [if_pos h1, if_pos (by omega)]
    · rw [if_neg h1]
      by_cases h2 : j = (i : Int)
      · rw [if_pos h2, if_pos (by omega)]
      · rw [if_neg h2, if_neg (by omega)]
        split <;> rfl
  unfold OF1 OF0
  rw [ec]
  simp only [data_Of.l1]
  rw [if_neg (by omega), e3]
theorem of_word (l : List Int) (hb : ∀ x ∈ l, 0 ≤ x ∧ x ≤ 255) (hl : l.length = 64) (k i : Nat) (hi : i < 16) : OF0 (cw l i 0) (k + 6) l i = OF0 (cw l (i + 1) 0) k l (i + 1) := by
  have : OF0 (cw l i 0) (k + 6) l i = OF1 (cw l i 0) (k + 5) l i 0 := by
    unfold OF0 OF1
    simp only [data_Of.l0]
    rw [if_pos (by omega)]
    rfl
  rw [this, of_step l hb hl _ i 0 hi (by decide), of_step l hb hl _ i 1 hi (by decide), of_step l hb hl _ i 2 hi (by decide), of_step l hb hl _ i 3 hi (by decide), of_end1 l _ i hi]
theorem of_words (l : List Int) (hb : ∀ x ∈ l, 0 ≤ x ∧ x ≤ 255) (hl : l.length = 64) (k d : Nat) : ∀ i, i + d = 16 → OF0 (cw l i 0) (k + 6 * d) l i = OF0 (cw l 16 0) k l 16 := by
  induction d with
  | zero =>
    intro i hi
    have : i = 16 := by omega
    subst this
    rfl
  | succ d ih =>
    intro i hi
    rw [show k + 6 * (d + 1) = k + 6 * d + 6 by omega, of_word l hb hl _ i (by omega), ih (i + 1) (by omega)]
/-- A word of the bytes. -/
def wd (l : List Int) (j : Nat) : Int := numL ((l.drop (4 * j)).take 4)
/-- A number of eight bytes. -/
def qd (l : List Int) (j : Nat) : Int := numL ((l.drop (8 * j)).take 8)
theorem wd_in (l : List Int) (hb : ∀ x ∈ l, 0 ≤ x ∧ x ≤ 255) (j : Nat) : 0 ≤ wd l j ∧ wd l j ≤ 4294967295 := by
  have h1 := numL_in ((l.drop (4 * j)).take 4) (fun x hx => hb x (List.mem_of_mem_drop (List.mem_of_mem_take hx)))
  have h2 : ((l.drop (4 * j)).take 4).length ≤ 4 := by rw [List.length_take]; omega
  unfold wd
  generalize ((l.drop (4 * j)).take 4).length = n at h1 h2
  rcases (by omega : n = 0 ∨ n = 1 ∨ n = 2 ∨ n = 3 ∨ n = 4) with rfl | rfl | rfl | rfl | rfl <;> omega
theorem qd_is (l : List Int) (j : Nat) (h : 8 * j + 8 ≤ l.length) : qd l j = wd l (2 * j) + 4294967296 * wd l (2 * j + 1) := by
  unfold qd wd
  rw [show 4 * (2 * j) = 8 * j by omega, show 4 * (2 * j + 1) = 8 * j + 4 by omega, drop4 l (8 * j) (by omega), drop4 l (8 * j + 4) (by omega)]
  simp only [List.take_succ_cons, List.take_zero, numL]
  omega
theorem qd_lo (l : List Int) (hb : ∀ x ∈ l, 0 ≤ x ∧ x ≤ 255) (j : Nat) (h : 8 * j + 8 ≤ l.length) : lo (qd l j) = wd l (2 * j) ∧ hi (qd l j) = wd l (2 * j + 1) ∧ 0 ≤ qd l j ∧ qd l j ≤ 18446744073709551615 := by
  have h1 := wd_in l hb (2 * j)
  have h2 := wd_in l hb (2 * j + 1)
  rw [qd_is l j h]
  unfold lo hi
  omega
theorem or_lohi' {x : Int} (hx : 0 ≤ x ∧ x ≤ 18446744073709551615) : Go.bits .or .u64 (IntKind.u64.wrap ((IntKind.u64.wrap (hi x)) * 4294967296)) (IntKind.u64.wrap (lo x)) = x := by
  have h1 := hi_in x
  have h2 := lo_in x
  rw [u64_id (x := hi x) (by omega) (by omega), u64_id (x := lo x) (by omega) (by omega), u64_id (by omega) (by omega), show Go.bits .or .u64 (hi x * 4294967296) (lo x) = Go.bits .or .u64 (lo x) (hi x * 4294967296) from by simp only [Go.bits, BitVec.or_comm], u64_or32 _ _ (by omega) (by omega) (by omega) (by omega) (by omega)]
  unfold lo hi
  omega
theorem joined_is (l : List Int) (hb : ∀ x ∈ l, 0 ≤ x ∧ x ≤ 255) (j : Nat) (h : 8 * j + 8 ≤ l.length) : data_joined.f (wd l (2 * j)) (wd l (2 * j + 1)) = some (qd l j) := by
  obtain ⟨h1, h2, h3⟩ := qd_lo l hb j h
  unfold data_joined.f
  rw [← h1, ← h2, or_lohi' h3]
theorem cw_end (l : List Int) (j : Nat) (hj : j < 16) : cw l 16 0 j = wd l j := by
  unfold cw wd
  rw [Int.toNat_natCast, if_pos (by omega)]
def DOFR (l : List Int) : Int × Int × Int × Int × Int × Int × Int × Int × Int × Int := (wd l 0, wd l 1, qd l 1, qd l 2, qd l 3, qd l 4, qd l 5, qd l 6, qd l 7, 0)
theorem of_l0 (l : List Int) (k : Nat) : OF0 (cw l 16 0) k l 16 = data_Of.l0 k l 16 (wd l 0) (wd l 1) (wd l 2) (wd l 3) (wd l 4) (wd l 5) (wd l 6) (wd l 7) (wd l 8) (wd l 9) (wd l 10) (wd l 11) (wd l 12) (wd l 13) (wd l 14) (wd l 15) := by
  unfold OF0
  rw [← cw_end l 0 (by decide), ← cw_end l 1 (by decide), ← cw_end l 2 (by decide), ← cw_end l 3 (by decide), ← cw_end l 4 (by decide), ← cw_end l 5 (by decide), ← cw_end l 6 (by decide), ← cw_end l 7 (by decide), ← cw_end l 8 (by decide), ← cw_end l 9 (by decide), ← cw_end l 10 (by decide), ← cw_end l 11 (by decide), ← cw_end l 12 (by decide), ← cw_end l 13 (by decide), ← cw_end l 14 (by decide), ← cw_end l 15 (by decide)]
  rfl
theorem of_last (l : List Int) (hb : ∀ x ∈ l, 0 ≤ x ∧ x ≤ 255) (hl : l.length = 64) (k : Nat) (hk : 7 ≤ k) : OF0 (cw l 16 0) (k + 8) l 16 = some (DOFR l) := by
  have q1 := qd_lo l hb 1 (by omega)
  have q2 := qd_lo l hb 2 (by omega)
  have q3 := qd_lo l hb 3 (by omega)
  have q4 := qd_lo l hb 4 (by omega)
  have q5 := qd_lo l hb 5 (by omega)
  have q6 := qd_lo l hb 6 (by omega)
  have q7 := qd_lo l hb 7 (by omega)
  have j1 := joined_is l hb 1 (by omega)
  have j2 := joined_is l hb 2 (by omega)
  have j3 := joined_is l hb 3 (by omega)
  have j4 := joined_is l hb 4 (by omega)
  have j5 := joined_is l hb 5 (by omega)
  have j6 := joined_is l hb 6 (by omega)
  have j7 := joined_is l hb 7 (by omega)
  simp only [Nat.reduceMul, Nat.reduceAdd] at q1 q2 q3 q4 q5 q6 q7 j1 j2 j3 j4 j5 j6 j7
  rw [of_l0]
  simp only [data_Of.l0]
  rw [if_neg (by decide), j1, Option.bind_some]
  rw [data_Of.l2.eq_2, if_pos (by decide), if_pos rfl, j2, Option.bind_some]
  rw [data_Of.l2.eq_2, if_pos (by decide), if_neg (by decide), if_pos rfl, j3, Option.bind_some]
  rw [data_Of.l2.eq_2, if_pos (by decide), if_neg (by decide), if_neg (by decide), if_pos rfl, j4, Option.bind_some]
  rw [data_Of.l2.eq_2, if_pos (by decide), if_neg (by decide), if_neg (by decide), if_neg (by decide), if_pos rfl, j5, Option.bind_some]
  rw [data_Of.l2.eq_2, if_pos (by decide), if_neg (by decide), if_neg (by decide), if_neg (by decide), if_neg (by decide), if_pos rfl, j6, Option.bind_some]
  rw [data_Of.l2.eq_2, if_pos (by decide), if_neg (by decide), if_neg (by decide), if_neg (by decide), if_neg (by decide), if_neg (by decide), if_pos rfl, j7, Option.bind_some]
  rw [data_Of.l2.eq_2, if_neg (by decide), laid_is _ _ _ _ _ _ _ _ _ k hk, Option.bind_some, q1.1, q1.2.1, q2.1, q2.2.1, q3.1, q3.2.1, q4.1, q4.2.1, q5.1, q5.2.1, q6.1, q6.2.1, q7.1, q7.2.1]
  simp only [beq_self_eq_true, Bool.not_true, Bool.or_false, Bool.false_eq_true, if_false]
  rfl
/-- What bytes are read as. -/
def DOF (l : List Int) : Int × Int × Int × Int × Int × Int × Int × Int × Int × Int := if l.length < 64 then (0, 0, 0, 0, 0, 0, 0, 0, 0, 2) else if 64 < l.length then (0, 0, 0, 0, 0, 0, 0, 0, 0, 3) else DOFR l
theorem of_is (l : List Int) (hb : ∀ x ∈ l, 0 ≤ x ∧ x ≤ 255) (k : Nat) : data_Of.f (k + 7 + 8 + 96) l = some (DOF l) := by
  unfold data_Of.f DOF
  by_cases h1 : l.length < 64
  · rw [if_pos (by omega), if_pos h1]
  · rw [if_neg (by omega), if_neg h1]
    by_cases h2 : 64 < l.length
    · rw [if_pos (by omega), if_pos h2]
    · rw [if_neg (by omega), if_neg h2]
      have hl : l.length = 64 := by omega
      have h3 := of_words l hb hl (k + 7 + 8) 16 0 rfl
      rw [of_last l hb hl (k + 7) (by omega)] at h3
      rw [← h3]
      have hz : ∀ j : Int, 0 ≤ j → cw l 0 0 j = 0 := fun j hj => by
        unfold cw
        rw [if_neg (by omega), show (if j = ((0 : Nat) : Int) then 0 else 0) = 0 by split <;> rfl]
        rfl
      unfold OF0
      rw [hz 0 (by decide), hz 1 (by decide), hz 2 (by decide), hz 3 (by decide), hz 4 (by decide), hz 5 (by decide), hz 6 (by decide), hz 7 (by decide), hz 8 (by decide), hz 9 (by decide), hz 10 (by decide), hz 11 (by decide), hz 12 (by decide), hz 13 (by decide), hz 14 (by decide), hz 15 (by decide)]
      rfl
end Go.Proofs.Ytadglbmghldnfaa.Pure
