/- Layer 3 (insn), plain: which codes are known. -/
import Derived.Test.YteojfjlklikaoaaP5Mx0
import Derived.Test.YteojfjlklikaoaaP5Mx1
import Derived.Test.YteojfjlklikaoaaP5Mx7
import Derived.Test.YteojfjlklikaoaaP5Aid
namespace Go.Proofs.Yteojfjlklikaoaa.Pure
open Go Go.RowKit Go.Proofs.Yteojfjlklikaoaa.M Go.Proofs.Yteojfjlklikaoaa.Aid Go.Proofs.YteojfjlklikaoaaW.PrintWords Go.Proofs.YteojfjlklikaoaaW.PrintLast Go.Proofs.YteojfjlklikaoaaW.PrintMore
set_option linter.unusedVariables false
set_option linter.unusedSimpArgs false
-- NEEDS insn_Known.f fairleadref03_Known.f insn_reckons.f insn_Jumps.f insn_Ends.f
theorem and_not8 (a : Nat) (h : a < 65536) : a &&& 65527 = a - 8 * (a / 8 % 2) := by
  have h1 : (a &&& 65527) % 16 = a % 16 % 8 := by
    have := Nat.and_mod_two_pow (a := a) (b := 65527) (n := 4)
    rw [show (2 : Nat) ^ 4 = 16 from rfl] at this
    rw [this]
    exact Nat.and_two_pow_sub_one_eq_mod (a % 16) 3
  have h2 : (a &&& 65527) / 16 = a / 16 % 4096 := by
    have := Nat.and_div_two_pow (a := a) (b := 65527) (n := 4)
    rw [show (2 : Nat) ^ 4 = 16 from rfl] at this
    rw [this]
    exact Nat.and_two_pow_sub_one_eq_mod (a / 16) 12
  omega
theorem bits_not8 {a : Int} (h0 : 0 ≤ a) (h1 : a ≤ 65535) : Go.bits .andNot .u16 a 8 = a - 8 * (a / 8 % 2) := by
  rw [Go.u16_andNot a 8 h0 (by omega) (by decide) (by decide)]
  have := and_not8 a.toNat (by omega)
  simp only [Int.reduceToNat, Nat.reduceSub]
  omega
/-- The codes that reckon, by K or by X. -/
def Reck (a : Int) : Prop := a = 4 ∨ a = 12 ∨ a = 20 ∨ a = 28 ∨ a = 36 ∨ a = 44 ∨ a = 52 ∨ a = 60 ∨ a = 68 ∨ a = 76 ∨ a = 84 ∨ a = 92 ∨ a = 100 ∨ a = 108 ∨ a = 116 ∨ a = 124 ∨ a = 164 ∨ a = 172
def Jmps (a : Int) : Prop := a = 5 ∨ a = 21 ∨ a = 37 ∨ a = 53 ∨ a = 69 ∨ a = 29 ∨ a = 45 ∨ a = 61 ∨ a = 77
def Endd (a : Int) : Prop := a = 6 ∨ a = 22
def Sing (a : Int) : Prop := a = 32 ∨ a = 0 ∨ a = 1 ∨ a = 96 ∨ a = 97 ∨ a = 2 ∨ a = 3 ∨ a = 132 ∨ a = 7 ∨ a = 135
def Knwn (a : Int) : Prop := Sing a ∨ Reck a ∨ Jmps a ∨ Endd a
instance (a : Int) : Decidable (Reck a) := by unfold Reck; infer_instance
instance (a : Int) : Decidable (Jmps a) := by unfold Jmps; infer_instance
instance (a : Int) : Decidable (Endd a) := by unfold Endd; infer_instance
instance (a : Int) : Decidable (Sing a) := by unfold Sing; infer_instance
instance (a : Int) : Decidable (Knwn a) := by unfold Knwn; infer_instance
theorem sdt {p : Prop} [Decidable p] (h : p) : some true = some (decide p) := by rw [decide_eq_true h]
theorem sdf {p : Prop} [Decidable p] (h : ¬ p) : some false = some (decide p) := by rw [decide_eq_false h]
theorem jumps_is (a : Int) : insn_Jumps.f a = some (decide (Jmps a)) := by
  unfold insn_Jumps.f
  repeat' split
  all_goals first | exact sdt (by unfold Jmps; omega) | exact sdf (by unfold Jmps; omega)
theorem ends_is (a : Int) : insn_Ends.f a = some (decide (Endd a)) := by
  unfold insn_Ends.f
  split
  · exact sdt (by unfold Endd; omega)
  · by_cases h2 : a = 22
    · rw [beq_iff_eq.2 h2]; exact sdt (by unfold Endd; omega)
    · rw [beq_eq_false_iff_ne.2 h2]; exact sdf (by unfold Endd; omega)
theorem reckons_is {a : Int} (h0 : 0 ≤ a) (h1 : a ≤ 65535) : insn_reckons.f a = some (decide (Reck a)) := by
  unfold insn_reckons.f
  rw [bits_not8 h0 h1]
  repeat' split
  all_goals first | exact sdt (by unfold Reck; omega) | exact sdf (by unfold Reck; omega)
theorem rest_is {a : Int} (h0 : 0 ≤ a) (h1 : a ≤ 65535) :
    ((insn_reckons.f a).bind fun t => (if t = true then (some true) else ((insn_Jumps.f a).bind fun t => (if t = true then (some true) else ((insn_Ends.f a).bind fun t => (some t)))))) = some (decide (Reck a ∨ Jmps a ∨ Endd a)) := by
  rw [reckons_is h0 h1, jumps_is, ends_is]
  simp only [Option.bind_some]
  by_cases r : Reck a
  · simp [r]
  · by_cases j : Jmps a
    · simp [r, j]
    · simp [r, j]
theorem known_loop {a : Int} (h0 : 0 ≤ a) (h1 : a ≤ 65535) (d : Nat) : ∀ (k i : Nat), i + d = 10 → d < k →
    insn_Known.l0 k a i = some (decide (a ∈ ([32, 0, 1, 96, 97, 2, 3, 132, 7, 135] : List Int).drop i ∨ Reck a ∨ Jmps a ∨ Endd a)) := by
  induction d with
  | zero =>
    intro k i hi hk
    obtain ⟨k, rfl⟩ : ∃ m, k = m + 1 := ⟨k - 1, by omega⟩
    obtain rfl : i = 10 := by omega
    simp only [insn_Known.l0]
    rw [if_neg (by decide), rest_is h0 h1]
    simp
  | succ d ih =>
    intro k i hi hk
    obtain ⟨k, rfl⟩ : ∃ m, k = m + 1 := ⟨k - 1, by omega⟩
    have h2 := ih k (i + 1) (by omega) (by omega)
    simp only [insn_Known.l0]
    have w : wrap64 ((i : Int) + 1) = ((i + 1 : Nat) : Int) := by unfold wrap64; omega
    rw [if_pos (by omega), if_pos (by omega), w, h2]
    have e : ([32, 0, 1, 96, 97, 2, 3, 132, 7, 135] : List Int).drop i = rd ([32, 0, 1, 96, 97, 2, 3, 132, 7, 135] : List Int) i :: ([32, 0, 1, 96, 97, 2, 3, 132, 7, 135] : List Int).drop (i + 1) := by
      have hl : i < ([32, 0, 1, 96, 97, 2, 3, 132, 7, 135] : List Int).length := by simp; omega
      rw [List.drop_eq_getElem_cons hl]
      congr 1
      unfold rd
      rw [Int.toNat_natCast, List.getD_eq_getElem?_getD, List.getElem?_eq_getElem hl]
      rfl
    rw [e]
    by_cases h3 : rd ([32, 0, 1, 96, 97, 2, 3, 132, 7, 135] : List Int) i = a
    · rw [if_pos h3]
      simp [h3]
    · rw [if_neg h3]
      have h4 : ¬ a = rd ([32, 0, 1, 96, 97, 2, 3, 132, 7, 135] : List Int) i := fun h => h3 h.symm
      simp [List.mem_cons, h4]
theorem known_is {a : Int} (h0 : 0 ≤ a) (h1 : a ≤ 65535) (k : Nat) (hk : 10 < k) : insn_Known.f k a = some (decide (Knwn a)) := by
  have h := known_loop h0 h1 10 k 0 rfl hk
  unfold insn_Known.f
  rw [show ((0 : Int)) = ((0 : Nat) : Int) from rfl, h]
  simp only [Option.some.injEq, decide_eq_decide, List.drop_zero]
  unfold Knwn Sing
  simp only [List.mem_cons, List.not_mem_nil, or_false]
theorem has_loop (l : List Int) (c : Int) (hl : l.length ≤ 1000) (d : Nat) : ∀ (k i : Nat), i + d = l.length → d < k → fairleadref03_Has.l0 k l c i = some (decide (c ∈ l.drop i)) := by
  induction d with
  | zero =>
    intro k i hi hk
    obtain ⟨k, rfl⟩ : ∃ m, k = m + 1 := ⟨k - 1, by omega⟩
    simp only [fairleadref03_Has.l0]
    rw [if_neg (by omega), List.drop_of_length_le (by omega)]
    simp
  | succ d ih =>
    intro k i hi hk
    obtain ⟨k, rfl⟩ : ∃ m, k = m + 1 := ⟨k - 1, by omega⟩
    have h2 := ih k (i + 1) (by omega) (by omega)
    simp only [fairleadref03_Has.l0]
    have w : wrap64 ((i : Int) + 1) = ((i + 1 : Nat) : Int) := by unfold wrap64; omega
    have hlt : i < l.length := by omega
    rw [if_pos (by omega), if_pos (by omega), w, h2]
    have e : l.drop i = rd l i :: l.drop (i + 1) := by
      rw [List.drop_eq_getElem_cons hlt]
      congr 1
      unfold rd
      rw [Int.toNat_natCast, List.getD_eq_getElem?_getD, List.getElem?_eq_getElem hlt]
      rfl
    rw [e]
    by_cases h3 : rd l i = c
    · rw [if_pos h3]
      simp [h3]
    · rw [if_neg h3]
      have h4 : ¬ c = rd l i := fun h => h3 h.symm
      simp [List.mem_cons, h4]
theorem has_is (l : List Int) (c : Int) (hl : l.length ≤ 1000) (k : Nat) (hk : l.length < k) : fairleadref03_Has.f k l c = some (decide (c ∈ l)) := by
  have h := has_loop l c hl l.length k 0 (by omega) hk
  unfold fairleadref03_Has.f
  rw [show ((0 : Int)) = ((0 : Nat) : Int) from rfl, h, List.drop_zero]
theorem ref_known {a : Int} (h0 : 0 ≤ a) (h1 : a ≤ 65535) (k : Nat) (hk : 26 < k) : fairleadref03_Known.f k a = some (decide (Knwn a)) := by
  unfold fairleadref03_Known.f fairleadref03_Plain.f fairleadref03_WithX.f
  simp only [Option.bind_some]
  rw [has_is _ _ (by decide) k (by simpa using hk), has_is _ _ (by decide) k (by simp; omega)]
  simp only [Option.bind_some]
  have e : 8 ≤ a → IntKind.u16.wrap (a - 8) = a - 8 := fun h => by rw [IntKind.wrap_u16]; omega
  by_cases h2 : a ∈ ([32, 0, 1, 96, 97, 2, 3, 4, 20, 36, 52, 68, 84, 100, 116, 132, 164, 5, 21, 37, 53, 69, 6, 22, 7, 135] : List Int)
  · rw [if_pos (by simpa using h2)]
    simp only [List.mem_cons, List.not_mem_nil, or_false] at h2
    exact sdt (by unfold Knwn Sing Reck Jmps Endd; omega)
  · rw [if_neg (by simpa using h2)]
    simp only [List.mem_cons, List.not_mem_nil, or_false] at h2
    by_cases h3 : a ≥ 8
    · rw [if_pos h3, e h3]
      simp only [Option.some.injEq, decide_eq_decide, List.mem_cons, List.not_mem_nil, or_false]
      unfold Knwn Sing Reck Jmps Endd
      omega
    · rw [if_neg h3]
      exact sdf (by unfold Knwn Sing Reck Jmps Endd; omega)
end Go.Proofs.Yteojfjlklikaoaa.Pure
