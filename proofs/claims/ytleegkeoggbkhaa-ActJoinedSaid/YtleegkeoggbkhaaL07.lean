/- Layer 7 (act), plain: kinds of acts, their numbers, and what forbids most. -/
import Derived.Test.YtleegkeoggbkhaaMx2
import Derived.Test.YtleegkeoggbkhaaMx3
import Derived.Test.YtleegkeoggbkhaaMx5
import Derived.Test.YtleegkeoggbkhaaAid
namespace Go.Proofs.Ytleegkeoggbkhaa.Pure
open Go Go.RowKit Go.Proofs.Ytleegkeoggbkhaa.M Go.Proofs.Ytleegkeoggbkhaa.Aid Go.Proofs.YtleegkeoggbkhaaW.PrintWords Go.Proofs.YtleegkeoggbkhaaW.PrintLast Go.Proofs.YtleegkeoggbkhaaW.PrintMore
set_option linter.unusedVariables false
set_option linter.unusedSimpArgs false

-- NEEDS act_Of.f act_Value.f act_Right.f act_number.f act_bears.f fairleadref07_Of.f fairleadref07_Value.f fairleadref07_Right.f fairleadlaw07_awake.f

/-- The number of a kind. -/
def numK (k : Int) : Int := if k = 1 then 2147483648 else if k = 2 then 0 else if k = 3 then 196608 else if k = 4 then 327680 else if k = 5 then 2143289344 else if k = 6 then 2146435072 else if k = 7 then 2147221504 else 2147418112
def Brs (k : Int) : Prop := k = 3 ∨ k = 4 ∨ k = 6
instance (k : Int) : Decidable (Brs k) := by unfold Brs; infer_instance
def RightA (k a : Int) : Prop := 1 ≤ k ∧ k ≤ 8 ∧ 0 ≤ a ∧ a ≤ 65535 ∧ (a = 0 ∨ Brs k)
instance (k a : Int) : Decidable (RightA k a) := by unfold RightA; infer_instance
/-- The kind of what was answered. -/
def kindV (v : Int) : Int := if v / 65536 = 32768 then 1 else if v / 65536 = 0 then 2 else if v / 65536 = 3 then 3 else if v / 65536 = 5 then 4 else if v / 65536 = 32704 then 5 else if v / 65536 = 32752 then 6 else if v / 65536 = 32764 then 7 else if v / 65536 = 32767 then 8 else 1
def argV (v : Int) : Int := if v / 65536 = 32768 then 0 else if Brs (kindV v) then v % 65536 else 0
theorem sdt {p : Prop} [Decidable p] (h : p) : some true = some (decide p) := by rw [decide_eq_true h]
theorem sdf {p : Prop} [Decidable p] (h : ¬ p) : some false = some (decide p) := by rw [decide_eq_false h]
theorem dec_true {p : Prop} [Decidable p] : (decide p = true) = p := by simp
theorem bears_is (k : Int) : act_bears.f k = some (decide (Brs k)) := by
  unfold act_bears.f
  repeat' split
  all_goals first | exact sdt (by unfold Brs; omega) | skip
  by_cases h : k = 6
  · rw [beq_iff_eq.2 h]; exact sdt (by unfold Brs; omega)
  · rw [beq_eq_false_iff_ne.2 h]; exact sdf (by unfold Brs; omega)
theorem has_is (k : Int) : fairleadref07_has.f k = some (decide (Brs k)) := bears_is k
theorem right_is (k a : Int) : act_Right.f k a = some (decide (RightA k a)) := by
  unfold act_Right.f
  simp only [bears_is, Option.bind_some]
  repeat' split
  all_goals first | exact sdf (by unfold RightA; omega) | exact sdt (by unfold RightA; omega) | skip
  by_cases h : Brs k
  · rw [decide_eq_true h]; exact sdt ⟨by omega, by omega, by omega, by omega, .inr h⟩
  · rw [decide_eq_false h]; exact sdf (fun h2 => h2.2.2.2.2.elim (fun h3 => by omega) h)
theorem rright_is (k a : Int) : fairleadref07_Right.f k a = some (decide (RightA k a)) := by
  unfold fairleadref07_Right.f
  simp only [has_is, Option.bind_some, dec_true]
  repeat' split
  all_goals first | exact sdf (by unfold RightA; omega) | exact sdt (by unfold RightA; omega) | skip
  all_goals first | (exact sdf (fun h2 => h2.2.2.2.2.elim (fun h3 => by omega) (fun h3 => absurd h3 (by assumption)))) | skip
  congr 1
  rw [Bool.eq_iff_iff, decide_eq_true_eq, decide_eq_true_eq]
  rename_i hb hp
  constructor
  · intro h
    exact ⟨by omega, by omega, by omega, by omega, .inr hb⟩
  · intro h
    have := h.2.2.2.1
    omega
theorem number_is {k : Int} (h0 : 1 ≤ k) (h1 : k ≤ 8) : act_number.f k = some (numK k) := by
  unfold act_number.f
  rw [if_pos h0, if_pos h1]
  have h : k = 1 ∨ k = 2 ∨ k = 3 ∨ k = 4 ∨ k = 5 ∨ k = 6 ∨ k = 7 ∨ k = 8 := by omega
  rcases h with rfl | rfl | rfl | rfl | rfl | rfl | rfl | rfl <;> rfl
theorem rd_numbers {k : Int} (h0 : 1 ≤ k) (h1 : k ≤ 8) : rd [2147483648, 0, 196608, 327680, 2143289344, 2146435072, 2147221504, 2147418112] (k - 1) = numK k := by
  have h : k = 1 ∨ k = 2 ∨ k = 3 ∨ k = 4 ∨ k = 5 ∨ k = 6 ∨ k = 7 ∨ k = 8 := by omega
  rcases h with rfl | rfl | rfl | rfl | rfl | rfl | rfl | rfl <;> rfl
theorem nat_or_add (a b : Nat) (ha : a % 65536 = 0) (hb : b < 65536) : a ||| b = a + b := Go.nat_join 16 a b ha hb
theorem or_num {k a : Int} (h0 : 1 ≤ k) (h1 : k ≤ 8) (ha0 : 0 ≤ a) (ha1 : a ≤ 65535) : Go.bits .or .u32 (numK k) (a % 4294967296) = numK k + a := by
  have e : a % 4294967296 = a := by omega
  have hn : 0 ≤ numK k ∧ numK k < 4294967296 ∧ (numK k).toNat % 65536 = 0 := by
    have h : k = 1 ∨ k = 2 ∨ k = 3 ∨ k = 4 ∨ k = 5 ∨ k = 6 ∨ k = 7 ∨ k = 8 := by omega
    rcases h with rfl | rfl | rfl | rfl | rfl | rfl | rfl | rfl <;> decide
  rw [e, Go.u32_or _ _ hn.1 hn.2.1 ha0 (by omega), nat_or_add _ _ hn.2.2 (by omega)]
  omega
theorem value_is (k a : Int) : act_Value.f k a = some (if RightA k a then (numK k + a, 0) else (0, 1)) := by
  unfold act_Value.f
  rw [right_is]
  simp only [Option.bind_some, dec_true]
  by_cases h : RightA k a
  · rw [if_pos h, if_pos h, number_is h.1 h.2.1]
    simp only [Option.bind_some]
    rw [or_num h.1 h.2.1 h.2.2.1 h.2.2.2.1]
  · rw [if_neg h, if_neg h]
theorem rvalue_is (k a : Int) : fairleadref07_Value.f k a = some (if RightA k a then (numK k + a, 0) else (0, 1)) := by
  unfold fairleadref07_Value.f
  rw [rright_is]
  simp only [Option.bind_some, dec_true, fairleadref07_numbers.f]
  by_cases h : RightA k a
  · have h0 := h.1; have h1 := h.2.1; have h2 := h.2.2.1; have h3 := h.2.2.2.1
    have w : wrap64 (k - 1) = k - 1 := by unfold wrap64; omega
    have hn : 0 ≤ numK k ∧ numK k < 4294901761 := by
      have h : k = 1 ∨ k = 2 ∨ k = 3 ∨ k = 4 ∨ k = 5 ∨ k = 6 ∨ k = 7 ∨ k = 8 := by omega
      rcases h with rfl | rfl | rfl | rfl | rfl | rfl | rfl | rfl <;> decide
    rw [if_pos h, if_pos h, w, if_pos (by omega), if_pos (by simp; omega), rd_numbers h0 h1]
    simp only [Option.some.injEq, Prod.mk.injEq, and_true]
    omega
  · rw [if_neg h, if_neg h]
theorem and_not16 {v : Int} (h0 : 0 ≤ v) (h1 : v ≤ 4294967295) : Go.bits .andNot .u32 v 65535 = v / 65536 * 65536 := by
  rw [Go.u32_andNot v 65535 h0 (by omega) (by decide) (by decide)]
  have h2 : (v.toNat &&& 4294901760) % 65536 = 0 := by
    have := Nat.and_mod_two_pow (a := v.toNat) (b := 4294901760) (n := 16)
    rw [show (2 : Nat) ^ 16 = 65536 from rfl] at this
    rw [this]
    simp
  have h3 : (v.toNat &&& 4294901760) / 65536 = v.toNat / 65536 % 65536 := by
    have := Nat.and_div_two_pow (a := v.toNat) (b := 4294901760) (n := 16)
    rw [show (2 : Nat) ^ 16 = 65536 from rfl] at this
    rw [this]
    exact Nat.and_two_pow_sub_one_eq_mod (v.toNat / 65536) 16
  have e : (4294967295 - (65535 : Int).toNat) = 4294901760 := by decide
  rw [e]
  omega
theorem and16 {v : Int} (h0 : 0 ≤ v) (h1 : v ≤ 4294967295) : Go.bits .and .u32 v 65535 = v % 65536 := by
  rw [Go.u32_and v 65535 h0 (by omega) (by decide) (by decide)]
  have : v.toNat &&& 65535 = v.toNat % 65536 := Nat.and_two_pow_sub_one_eq_mod v.toNat 16
  rw [show (65535 : Int).toNat = 65535 from rfl, this]
  omega
def OfV (v : Int) : Int × Int := (kindV v, argV v)
theorem kindV_range (v : Int) : 1 ≤ kindV v ∧ kindV v ≤ 8 := by
  unfold kindV
  repeat' split
  all_goals omega
theorem argV_range (v : Int) (h0 : 0 ≤ v) : 0 ≤ argV v ∧ argV v ≤ 65535 := by
  unfold argV
  repeat' split
  all_goals omega
/-- The answer of the search, from kind k on, if no kind before it had the number. -/
theorem of_step {v : Int} (h0 : 0 ≤ v) (h1 : v ≤ 4294967295) (m : Nat) (k : Int) (hk0 : 1 ≤ k) (hk1 : k ≤ 8) :
    act_Of.l0 (m + 1) v k = if numK k = v / 65536 * 65536 then some (k, if Brs k then v % 65536 else 0) else act_Of.l0 m v (k + 1) := by
  simp only [act_Of.l0]
  have w : wrap64 (k + 1) = k + 1 := by unfold wrap64; omega
  have w2 : wrap64 (v % 65536) = v % 65536 := by unfold wrap64; omega
  rw [if_pos hk1, number_is hk0 hk1, and_not16 h0 h1, bears_is, and16 h0 h1, w, w2]
  simp only [Option.bind_some, dec_true]
  by_cases h : Brs k
  · simp [h]
  · simp [h]
theorem of_is {v : Int} (h0 : 0 ≤ v) (h1 : v ≤ 4294967295) (k : Nat) (hk : 10 ≤ k) : act_Of.f k v = some (OfV v) := by
  obtain ⟨m, rfl⟩ : ∃ m, k = m + 9 := ⟨k - 9, by omega⟩
  unfold act_Of.f
  rw [of_step h0 h1 (m + 8) 1 (by decide) (by decide), of_step h0 h1 (m + 7) (1 + 1) (by decide) (by decide), of_step h0 h1 (m + 6) (1 + 1 + 1) (by decide) (by decide), of_step h0 h1 (m + 5) (1 + 1 + 1 + 1) (by decide) (by decide), of_step h0 h1 (m + 4) (1 + 1 + 1 + 1 + 1) (by decide) (by decide), of_step h0 h1 (m + 3) (1 + 1 + 1 + 1 + 1 + 1) (by decide) (by decide), of_step h0 h1 (m + 2) (1 + 1 + 1 + 1 + 1 + 1 + 1) (by decide) (by decide), of_step h0 h1 (m + 1) (1 + 1 + 1 + 1 + 1 + 1 + 1 + 1) (by decide) (by decide)]
  have hl : act_Of.l0 (m + 1) v (1 + 1 + 1 + 1 + 1 + 1 + 1 + 1 + 1) = some (1, 0) := by
    simp only [act_Of.l0]
    rw [if_neg (by decide)]
  rw [hl]
  simp only [Int.reduceAdd, show numK 1 = 2147483648 from rfl, show numK 2 = 0 from rfl, show numK 3 = 196608 from rfl, show numK 4 = 327680 from rfl, show numK 5 = 2143289344 from rfl, show numK 6 = 2146435072 from rfl, show numK 7 = 2147221504 from rfl, show numK 8 = 2147418112 from rfl]
  have b1 : ¬ Brs 1 := by decide
  have b2 : ¬ Brs 2 := by decide
  have b3 : Brs 3 := by decide
  have b4 : Brs 4 := by decide
  have b5 : ¬ Brs 5 := by decide
  have b6 : Brs 6 := by decide
  have b7 : ¬ Brs 7 := by decide
  have b8 : ¬ Brs 8 := by decide
  have hd : v = v / 65536 * 65536 + v % 65536 := by omega
  by_cases c1 : v / 65536 = 32768
  · rw [if_pos (by omega)]; simp [OfV, argV, kindV, c1, b1, b2, b3, b4, b5, b6, b7, b8]
  · have _x := c1
    by_cases c2 : v / 65536 = 0
    · rw [if_neg (by omega)]; rw [if_pos (by omega)]; simp [OfV, argV, kindV, c1, c2, b1, b2, b3, b4, b5, b6, b7, b8]
    · have _x := c2
      by_cases c3 : v / 65536 = 3
      · rw [if_neg (by omega)]; rw [if_neg (by omega)]; rw [if_pos (by omega)]; simp [OfV, argV, kindV, c1, c2, c3, b1, b2, b3, b4, b5, b6, b7, b8]
      · have _x := c3
        by_cases c4 : v / 65536 = 5
        · rw [if_neg (by omega)]; rw [if_neg (by omega)]; rw [if_neg (by omega)]; rw [if_pos (by omega)]; simp [OfV, argV, kindV, c1, c2, c3, c4, b1, b2, b3, b4, b5, b6, b7, b8]
        · have _x := c4
          by_cases c5 : v / 65536 = 32704
          · rw [if_neg (by omega)]; rw [if_neg (by omega)]; rw [if_neg (by omega)]; rw [if_neg (by omega)]; rw [if_pos (by omega)]; simp [OfV, argV, kindV, c1, c2, c3, c4, c5, b1, b2, b3, b4, b5, b6, b7, b8]
          · have _x := c5
            by_cases c6 : v / 65536 = 32752
            · rw [if_neg (by omega)]; rw [if_neg (by omega)]; rw [if_neg (by omega)]; rw [if_neg (by omega)]; rw [if_neg (by omega)]; rw [if_pos (by omega)]; simp [OfV, argV, kindV, c1, c2, c3, c4, c5, c6, b1, b2, b3, b4, b5, b6, b7, b8]
            · have _x := c6
              by_cases c7 : v / 65536 = 32764
              · rw [if_neg (by omega)]; rw [if_neg (by omega)]; rw [if_neg (by omega)]; rw [if_neg (by omega)]; rw [if_neg (by omega)]; rw [if_neg (by omega)]; rw [if_pos (by omega)]; simp [OfV, argV, kindV, c1, c2, c3, c4, c5, c6, c7, b1, b2, b3, b4, b5, b6, b7, b8]
              · have _x := c7
                by_cases c8 : v / 65536 = 32767
                · rw [if_neg (by omega)]; rw [if_neg (by omega)]; rw [if_neg (by omega)]; rw [if_neg (by omega)]; rw [if_neg (by omega)]; rw [if_neg (by omega)]; rw [if_neg (by omega)]; rw [if_pos (by omega)]; simp [OfV, argV, kindV, c1, c2, c3, c4, c5, c6, c7, c8, b1, b2, b3, b4, b5, b6, b7, b8]
                · rw [if_neg (by omega)]; rw [if_neg (by omega)]; rw [if_neg (by omega)]; rw [if_neg (by omega)]; rw [if_neg (by omega)]; rw [if_neg (by omega)]; rw [if_neg (by omega)]; rw [if_neg (by omega)]; simp [OfV, argV, kindV, c1, c2, c3, c4, c5, c6, c7, c8, b1]
theorem awake07 (k : Nat) (hk : 10 ≤ k) : fairleadlaw07_awake.f k = some true := by
  unfold fairleadlaw07_awake.f
  rw [value_is, if_pos (by decide)]
  simp only [Option.bind_some]
  rw [if_pos (by decide), if_pos trivial, of_is (by decide) (by decide) k hk]
  decide
theorem rof_step {v : Int} (h0 : 0 ≤ v) (h1 : v ≤ 4294967295) (m : Nat) (i : Int) (hi0 : 0 ≤ i) (hi1 : i < 8) :
    fairleadref07_Of.l0 (m + 1) v [2147483648, 0, 196608, 327680, 2143289344, 2146435072, 2147221504, 2147418112] i = if numK (i + 1) = v / 65536 * 65536 then some (i + 1, if Brs (i + 1) then v % 65536 else 0) else fairleadref07_Of.l0 m v [2147483648, 0, 196608, 327680, 2143289344, 2146435072, 2147221504, 2147418112] (i + 1) := by
  simp only [fairleadref07_Of.l0]
  have w : wrap64 (i + 1) = i + 1 := by unfold wrap64; omega
  have w2 : wrap64 (Int.tmod v 65536) = v % 65536 := by rw [Int.tmod_eq_emod_of_nonneg h0]; unfold wrap64; omega
  have w3 : Int.tdiv v 65536 % 4294967296 * 65536 % 4294967296 = v / 65536 * 65536 := by rw [Int.tdiv_eq_ediv_of_nonneg h0]; omega
  have e := rd_numbers (k := i + 1) (by omega) (by omega)
  rw [show i + 1 - 1 = i from by omega] at e
  rw [if_pos (by simp; omega), if_pos hi0, e, has_is, w, w2, w3]
  simp only [Option.bind_some, dec_true]
  by_cases h : Brs (i + 1)
  · simp [h]
  · simp [h]
theorem rof_is {v : Int} (h0 : 0 ≤ v) (h1 : v ≤ 4294967295) (k : Nat) (hk : 10 ≤ k) : fairleadref07_Of.f k v = some (OfV v) := by
  have ho := of_is h0 h1 k hk
  obtain ⟨m, rfl⟩ : ∃ m, k = m + 9 := ⟨k - 9, by omega⟩
  rw [← ho]
  unfold fairleadref07_Of.f fairleadref07_numbers.f act_Of.f
  simp only [Option.bind_some]
  rw [rof_step h0 h1 (m + 8) 0 (by decide) (by decide), rof_step h0 h1 (m + 7) (0 + 1) (by decide) (by decide), rof_step h0 h1 (m + 6) (0 + 1 + 1) (by decide) (by decide), rof_step h0 h1 (m + 5) (0 + 1 + 1 + 1) (by decide) (by decide), rof_step h0 h1 (m + 4) (0 + 1 + 1 + 1 + 1) (by decide) (by decide), rof_step h0 h1 (m + 3) (0 + 1 + 1 + 1 + 1 + 1) (by decide) (by decide), rof_step h0 h1 (m + 2) (0 + 1 + 1 + 1 + 1 + 1 + 1) (by decide) (by decide), rof_step h0 h1 (m + 1) (0 + 1 + 1 + 1 + 1 + 1 + 1 + 1) (by decide) (by decide)]
  rw [of_step h0 h1 (m + 8) 1 (by decide) (by decide), of_step h0 h1 (m + 7) (1 + 1) (by decide) (by decide), of_step h0 h1 (m + 6) (1 + 1 + 1) (by decide) (by decide), of_step h0 h1 (m + 5) (1 + 1 + 1 + 1) (by decide) (by decide), of_step h0 h1 (m + 4) (1 + 1 + 1 + 1 + 1) (by decide) (by decide), of_step h0 h1 (m + 3) (1 + 1 + 1 + 1 + 1 + 1) (by decide) (by decide), of_step h0 h1 (m + 2) (1 + 1 + 1 + 1 + 1 + 1 + 1) (by decide) (by decide), of_step h0 h1 (m + 1) (1 + 1 + 1 + 1 + 1 + 1 + 1 + 1) (by decide) (by decide)]
  have hl : act_Of.l0 (m + 1) v (1 + 1 + 1 + 1 + 1 + 1 + 1 + 1 + 1) = some (1, 0) := by
    simp only [act_Of.l0]
    rw [if_neg (by decide)]
  have hl2 : fairleadref07_Of.l0 (m + 1) v [2147483648, 0, 196608, 327680, 2143289344, 2146435072, 2147221504, 2147418112] (0 + 1 + 1 + 1 + 1 + 1 + 1 + 1 + 1) = some (1, 0) := by
    simp only [fairleadref07_Of.l0]
    rw [if_neg (by decide)]
  rw [hl, hl2]
  rfl
end Go.Proofs.Ytleegkeoggbkhaa.Pure
