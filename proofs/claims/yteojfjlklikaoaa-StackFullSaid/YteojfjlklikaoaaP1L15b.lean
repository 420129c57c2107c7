/- Layer 15 (stack), plain: kinds of acts, and what forbids most. -/
import Derived.Test.YteojfjlklikaoaaP1Mx0
import Derived.Test.YteojfjlklikaoaaP1Mx6
import Derived.Test.YteojfjlklikaoaaP1Mx13
import Derived.Test.YteojfjlklikaoaaP1Aid
import Derived.Test.YteojfjlklikaoaaP1L00
namespace Go.Proofs.Yteojfjlklikaoaa.Pure
open Go Go.RowKit Go.Proofs.Yteojfjlklikaoaa.M Go.Proofs.Yteojfjlklikaoaa.Aid Go.Proofs.YteojfjlklikaoaaW.PrintWords Go.Proofs.YteojfjlklikaoaaW.PrintLast Go.Proofs.YteojfjlklikaoaaW.PrintMore
set_option linter.unusedVariables false
set_option linter.unusedSimpArgs false
-- NEEDS act_Of.f act_number.f act_Most.f fairleadref07_Of.f fairleadref07_Most.f
-- IMPORT L00
/-- The number of a kind. -/
def numK (k : Int) : Int := if k = 1 then 2147483648 else if k = 2 then 0 else if k = 3 then 196608 else if k = 4 then 327680 else if k = 5 then 2143289344 else if k = 6 then 2146435072 else if k = 7 then 2147221504 else 2147418112
def Brs (k : Int) : Prop := k = 3 ∨ k = 4 ∨ k = 6
instance (k : Int) : Decidable (Brs k) := by unfold Brs; infer_instance
def RightA (k a : Int) : Prop := 1 ≤ k ∧ k ≤ 8 ∧ 0 ≤ a ∧ a ≤ 65535 ∧ (a = 0 ∨ Brs k)
instance (k a : Int) : Decidable (RightA k a) := by unfold RightA; infer_instance
/-- The kind of what was answered. -/
def kindV (v : Int) : Int := if v / 65536 = 32768 then 1 else if v / 65536 = 0 then 2 else if v / 65536 = 3 then 3 else if v / 65536 = 5 then 4 else if v / 65536 = 32704 then 5 else if v / 65536 = 32752 then 6 else if v / 65536 = 32764 then 7 else if v / 65536 = 32767 then 8 else 1
def argV (v : Int) : Int := if v / 65536 = 32768 then 0 else if Brs (kindV v) then v % 65536 else 0
theorem sdt7 {p : Prop} [Decidable p] (h : p) : some true = some (decide p) := by rw [decide_eq_true h]
theorem sdf7 {p : Prop} [Decidable p] (h : ¬ p) : some false = some (decide p) := by rw [decide_eq_false h]
theorem dec_true7 {p : Prop} [Decidable p] : (decide p = true) = p := by simp
theorem bears_is (k : Int) : act_bears.f k = some (decide (Brs k)) := by
  unfold act_bears.f
  repeat' split
  all_goals first | exact sdt7 (by unfold Brs; omega) | skip
  by_cases h : k = 6
  · rw [beq_iff_eq.2 h]; exact sdt7 (by unfold Brs; omega)
  · rw [beq_eq_false_iff_ne.2 h]; exact sdf7 (by unfold Brs; omega)
theorem number_is {k : Int} (h0 : 1 ≤ k) (h1 : k ≤ 8) : act_number.f k = some (numK k) := by
  unfold act_number.f
  rw [if_pos h0, if_pos h1]
  have h : k = 1 ∨ k = 2 ∨ k = 3 ∨ k = 4 ∨ k = 5 ∨ k = 6 ∨ k = 7 ∨ k = 8 := by omega
  rcases h with rfl | rfl | rfl | rfl | rfl | rfl | rfl | rfl <;> rfl
theorem and_not16 {v : Int} (h0 : 0 ≤ v) (h1 : v ≤ 4294967295) : Go.bits .andNot .u32 v 65535 = v / 65536 * 65536 := by
  rw [Go.u32_andNot v 65535 h0 (by omega) (by decide) (by decide)]
  have h2 : (v.toNat &&& 4294901760) % 65536 = 0 := by
    have := Nat.and_mod_two_pow (a := v.toNat) (b := 4294901760) (n := 16)
    rw [show (2 : Nat) ^ 16 = 65536 from rfl] at this
    rw [this]
    simp
  have h3 : (v.toNat &&& 4294901760) / 65536 = v.toNat / 65536 % 65536 := by
    have := Nat.and_div_two_pow (a := v.toNat) (b := 4294901760) (n := 16)
    rw [show (2 : Nat) ^ 16 = 65536 from rfl] at this
    rw [this]
    exact Nat.and_two_pow_sub_one_eq_mod (v.toNat / 65536) 16
  have e : (4294967295 - (65535 : Int).toNat) = 4294901760 := by decide
  rw [e]
  omega
theorem and16 {v : Int} (h0 : 0 ≤ v) (h1 : v ≤ 4294967295) : Go.bits .and .u32 v 65535 = v % 65536 := by
  rw [Go.u32_and v 65535 h0 (by omega) (by decide) (by decide)]
  have : v.toNat &&& 65535 = v.toNat % 65536 := Nat.and_two_pow_sub_one_eq_mod v.toNat 16
  rw [show (65535 : Int).toNat = 65535 from rfl, this]
  omega
def OfV (v : Int) : Int × Int := (kindV v, argV v)
/-- The answer of the search, from kind k on, if no kind before it had the number. -/
theorem of_step {v : Int} (h0 : 0 ≤ v) (h1 : v ≤ 4294967295) (m : Nat) (k : Int) (hk0 : 1 ≤ k) (hk1 : k ≤ 8) :
    act_Of.l0 (m + 1) v k = if numK k = v / 65536 * 65536 then some (k, if Brs k then v % 65536 else 0) else act_Of.l0 m v (k + 1) := by
  simp only [act_Of.l0]
  have w : wrap64 (k + 1) = k + 1 := by unfold wrap64; omega
  have w2 : wrap64 (v % 65536) = v % 65536 := by unfold wrap64; omega
  rw [if_pos hk1, number_is hk0 hk1, and_not16 h0 h1, bears_is, and16 h0 h1, w, w2]
  simp only [Option.bind_some, dec_true7]
  by_cases h : Brs k
  · simp [h]
  · simp [h]
theorem of_is {v : Int} (h0 : 0 ≤ v) (h1 : v ≤ 4294967295) (k : Nat) (hk : 10 ≤ k) : act_Of.f k v = some (OfV v) := by
  obtain ⟨m, rfl⟩ : ∃ m, k = m + 9 := ⟨k - 9, by omega⟩
  unfold act_Of.f
  rw [of_step h0 h1 (m + 8) 1 (by decide) (by decide), of_step h0 h1 (m + 7) (1 + 1) (by decide) (by decide), of_step h0 h1 (m + 6) (1 + 1 + 1) (by decide) (by decide), of_step h0 h1 (m + 5) (1 + 1 + 1 + 1) (by decide) (by decide), of_step h0 h1 (m + 4) (1 + 1 + 1 + 1 + 1) (by decide) (by decide), of_step h0 h1 (m + 3) (1 + 1 + 1 + 1 + 1 + 1) (by decide) (by decide), of_step h0 h1 (m + 2) (1 + 1 + 1 + 1 + 1 + 1 + 1) (by decide) (by decide), of_step h0 h1 (m + 1) (1 + 1 + 1 + 1 + 1 + 1 + 1 + 1) (by decide) (by decide)]
  have hl : act_Of.l0 (m + 1) v (1 + 1 + 1 + 1 + 1 + 1 + 1 + 1 + 1) = some (1, 0) := by
    simp only [act_Of.l0]
    rw [if_neg (by decide)]
  rw [hl]
  simp only [Int.reduceAdd, show numK 1 = 2147483648 from rfl, show numK 2 = 0 from rfl, show numK 3 = 196608 from rfl, show numK 4 = 327680 from rfl, show numK 5 = 2143289344 from rfl, show numK 6 = 2146435072 from rfl, show numK 7 = 2147221504 from rfl, show numK 8 = 2147418112 from rfl]
  have b1 : ¬ Brs 1 := by decide
  have b2 : ¬ Brs 2 := by decide
  have b3 : Brs 3 := by decide
  have b4 : Brs 4 := by decide
  have b5 : ¬ Brs 5 := by decide
  have b6 : Brs 6 := by decide
  have b7 : ¬ Brs 7 := by decide
  have b8 : ¬ Brs 8 := by decide
  have hd : v = v / 65536 * 65536 + v % 65536 := by omega
  by_cases c1 : v / 65536 = 32768
  · rw [if_pos (by omega)]; simp [OfV, argV, kindV, c1, b1, b2, b3, b4, b5, b6, b7, b8]
  · have _x := c1
    by_cases c2 : v / 65536 = 0
    · rw [if_neg (by omega)]; rw [if_pos (by omega)]; simp [OfV, argV, kindV, c1, c2, b1, b2, b3, b4, b5, b6, b7, b8]
    · have _x := c2
      by_cases c3 : v / 65536 = 3
      · rw [if_neg (by omega)]; rw [if_neg (by omega)]; rw [if_pos (by omega)]; simp [OfV, argV, kindV, c1, c2, c3, b1, b2, b3, b4, b5, b6, b7, b8]
      · have _x := c3
        by_cases c4 : v / 65536 = 5
        · rw [if_neg (by omega)]; rw [if_neg (by omega)]; rw [if_neg (by omega)]; rw [if_pos (by omega)]; simp [OfV, argV, kindV, c1, c2, c3, c4, b1, b2, b3, b4, b5, b6, b7, b8]
        · have _x := c4
          by_cases c5 : v / 65536 = 32704
          · rw [if_neg (by omega)]; rw [if_neg (by omega)]; rw [if_neg (by omega)]; rw [if_neg (by omega)]; rw [if_pos (by omega)]; simp [OfV, argV, kindV, c1, c2, c3, c4, c5, b1, b2, b3, b4, b5, b6, b7, b8]
          · have _x := c5
            by_cases c6 : v / 65536 = 32752
            · rw [if_neg (by omega)]; rw [if_neg (by omega)]; rw [if_neg (by omega)]; rw [if_neg (by omega)]; rw [if_neg (by omega)]; rw [if_pos (by omega)]; simp [OfV, argV, kindV, c1, c2, c3, c4, c5, c6, b1, b2, b3, b4, b5, b6, b7, b8]
            · have _x := c6
              by_cases c7 : v / 65536 = 32764
              · rw [if_neg (by omega)]; rw [if_neg (by omega)]; rw [if_neg (by omega)]; rw [if_neg (by omega)]; rw [if_neg (by omega)]; rw [if_neg (by omega)]; rw [if_pos (by omega)]; simp [OfV, argV, kindV, c1, c2, c3, c4, c5, c6, c7, b1, b2, b3, b4, b5, b6, b7, b8]
              · have _x := c7
                by_cases c8 : v / 65536 = 32767
                · rw [if_neg (by omega)]; rw [if_neg (by omega)]; rw [if_neg (by omega)]; rw [if_neg (by omega)]; rw [if_neg (by omega)]; rw [if_neg (by omega)]; rw [if_neg (by omega)]; rw [if_pos (by omega)]; simp [OfV, argV, kindV, c1, c2, c3, c4, c5, c6, c7, c8, b1, b2, b3, b4, b5, b6, b7, b8]
                · rw [if_neg (by omega)]; rw [if_neg (by omega)]; rw [if_neg (by omega)]; rw [if_neg (by omega)]; rw [if_neg (by omega)]; rw [if_neg (by omega)]; rw [if_neg (by omega)]; rw [if_neg (by omega)]; simp [OfV, argV, kindV, c1, c2, c3, c4, c5, c6, c7, c8, b1]
def stp (x y : Int) : Int := if kindV y < kindV x then y else x
/-- The first one that none forbids more than. -/
def MST : List Int → Int
  | [] => 2147418112
  | v :: r => r.foldl stp v
theorem of_ev {v : Int} (h : 0 ≤ v ∧ v ≤ 4294967295) : Ev (fun k => act_Of.f k v) (OfV v) := ⟨10, fun k hk => of_is h.1 h.2 k hk⟩
theorem rd_mem7 (l : List Int) (i : Nat) (h : i < l.length) : rd l i ∈ l := by
  unfold rd
  rw [Int.toNat_natCast, List.getD_eq_getElem?_getD, List.getElem?_eq_getElem h]
  exact List.getElem_mem h
theorem drop_rd7 (l : List Int) (i : Nat) (h : i < l.length) : l.drop i = rd l i :: l.drop (i + 1) := by
  rw [List.drop_eq_getElem_cons h]
  congr 1
  unfold rd
  rw [Int.toNat_natCast, List.getD_eq_getElem?_getD, List.getElem?_eq_getElem h]
  rfl
theorem most_loop (l : List Int) (ho : ∀ x ∈ l, 0 ≤ x ∧ x ≤ 4294967295) (hl : l.length ≤ 2000) (d : Nat) : ∀ (i : Nat) (b : Int), i + d = l.length → 0 < i → (0 ≤ b ∧ b ≤ 4294967295) →
    Ev (fun k => act_Most.l0 k b l l.length i) ((l.drop i).foldl stp b) := by
  induction d with
  | zero =>
    intro i b hi _ _
    refine Ev.step (f := fun _ => some b) (fun k => ?_) ?_
    · simp only [act_Most.l0]
      rw [if_neg (by omega)]
    · rw [List.drop_of_length_le (by omega)]
      exact Ev.now _
  | succ d ih =>
    intro i b hi h0 hb
    have hr := ho _ (rd_mem7 l i (by omega))
    have w : wrap64 ((i : Int) + 1) = ((i + 1 : Nat) : Int) := by unfold wrap64; omega
    rw [drop_rd7 l i (by omega)]
    refine Ev.step (f := fun k => (act_Of.f k (rd l i)).bind fun bt161 => ((act_Of.f k b).bind fun bt163 => (if bt161.1 < bt163.1 then (act_Most.l0 k (rd l i) l l.length ((i + 1 : Nat) : Int)) else (act_Most.l0 k b l l.length ((i + 1 : Nat) : Int))))) (fun k => ?_) ?_
    · simp only [act_Most.l0]
      rw [if_pos (by omega), if_pos (by omega), if_pos (by omega), if_neg (by omega), w]
    · refine Ev.bind (of_ev hr) (Ev.bind (of_ev hb) ?_)
      rw [List.foldl_cons]
      by_cases h : kindV (rd l i) < kindV b
      · have e : stp b (rd l i) = rd l i := if_pos h
        rw [e]
        exact Ev.congr (fun k => if_pos h) (ih (i + 1) _ (by omega) (by omega) hr)
      · have e : stp b (rd l i) = b := if_neg h
        rw [e]
        exact Ev.congr (fun k => if_neg h) (ih (i + 1) _ (by omega) (by omega) hb)
theorem most_ev (l : List Int) (ho : ∀ x ∈ l, 0 ≤ x ∧ x ≤ 4294967295) (hl : l.length ≤ 2000) : Ev (fun k => act_Most.f k l) (MST l) := by
  have e : ∀ k, act_Most.f k l = act_Most.l0 k 2147418112 l l.length 0 := fun k => by
    unfold act_Most.f
    rw [number_is (by decide) (by decide)]
    rfl
  refine Ev.congr e ?_
  cases l with
  | nil =>
    refine Ev.step (f := fun _ => some 2147418112) (fun k => ?_) (Ev.now _)
    simp only [act_Most.l0]
    rw [if_neg (by simp)]
  | cons v r =>
    have w : wrap64 ((0 : Int) + 1) = ((1 : Nat) : Int) := by unfold wrap64; omega
    have hv : rd (v :: r) 0 = v := rfl
    refine Ev.step (f := fun k => act_Most.l0 k v (v :: r) (v :: r).length ((1 : Nat) : Int)) (fun k => ?_) ?_
    · simp only [act_Most.l0]
      rw [if_pos (by simp only [List.length_cons]; omega), if_pos (by decide), if_pos (by simp only [List.length_cons]; omega), if_pos trivial, w, hv]
    · have := most_loop (v :: r) ho hl r.length 1 v (by simp; omega) (by decide) (ho v (by simp))
      simpa [MST] using this
end Go.Proofs.Yteojfjlklikaoaa.Pure
