/- Layer 15 (stack), plain: kinds of acts, and what forbids most. -/
import Derived.Test.YteojfjlklikaoaaP5Mx0
import Derived.Test.YteojfjlklikaoaaP5Mx6
import Derived.Test.YteojfjlklikaoaaP5Mx13
import Derived.Test.YteojfjlklikaoaaP5Aid
import Derived.Test.YteojfjlklikaoaaP5L00
namespace Go.Proofs.Yteojfjlklikaoaa.Pure
open Go Go.RowKit Go.Proofs.Yteojfjlklikaoaa.M Go.Proofs.Yteojfjlklikaoaa.Aid Go.Proofs.YteojfjlklikaoaaW.PrintWords Go.Proofs.YteojfjlklikaoaaW.PrintLast Go.Proofs.YteojfjlklikaoaaW.PrintMore
set_option linter.unusedVariables false
set_option linter.unusedSimpArgs false
-- NEEDS act_Of.f act_number.f act_Most.f fairleadref07_Of.f fairleadref07_Most.f
-- IMPORT L00
/-- The number of a kind. -/
def numK (k : Int) : Int := if k = 1 then 2147483648 else if k = 2 then 0 else if k = 3 then 196608 else if k = 4 then 327680 else if k = 5 then 2143289344 else if k = 6 then 2146435072 else if k = 7 then 2147221504 else 2147418112
def Brs (k : Int) : Prop := k = 3 ∨ k = 4 ∨ k = 6
instance (k : Int) : Decidable (Brs k) := by unfold Brs; infer_instance
def RightA (k a : Int) : Prop := 1 ≤ k ∧ k ≤ 8 ∧ 0 ≤ a ∧ a ≤ 65535 ∧ (a = 0 ∨ Brs k)
instance (k a : Int) : Decidable (RightA k a) := by unfold RightA; infer_instance
/-- The kind of what was answered. -/
def kindV (v : Int) : Int := if v / 65536 = 32768 then 1 else if v / 65536 = 0 then 2 else if v / 65536 = 3 then 3 else if v / 65536 = 5 then 4 else if v / 65536 = 32704 then 5 else if v / 65536 = 32752 then 6 else if v / 65536 = 32764 then 7 else if v / 65536 = 32767 then 8 else 1
def argV (v : Int) : Int := if v / 65536 = 32768 then 0 else if Brs (kindV v) then v % 65536 else 0
theorem sdt7 {p : Prop} [Decidable p] (h : p) : some true = some (decide p) := by rw [decide_eq_true h]
theorem sdf7 {p : Prop} [Decidable p] (h : ¬ p) : some false = some (decide p) := by rw [decide_eq_false h]
theorem dec_true7 {p : Prop} [Decidable p] : (decide p = true) = p := by simp
theorem bears_is (k : Int) : act_bears.f k = some (decide (Brs k)) := by
  unfold act_bears.f
  repeat' split
  all_goals first | exact sdt7 (by unfold Brs; omega) | skip
  by_cases h : k = 6
  · rw [beq_iff_eq.2 h]; exact sdt7 (by unfold Brs; omega)
  · rw [beq_eq_false_iff_ne.2 h]; exact sdf7 (by unfold Brs; omega)
theorem has7_is (k : Int) : fairleadref07_has.f k = some (decide (Brs k)) := bears_is k
theorem number_is {k : Int} (h0 : 1 ≤ k) (h1 : k ≤ 8) : act_number.f k = some (numK k) := by
  unfold act_number.f
  rw [if_pos h0, if_pos h1]
  have h : k = 1 ∨ k = 2 ∨ k = 3 ∨ k = 4 ∨ k = 5 ∨ k = 6 ∨ k = 7 ∨ k = 8 := by omega
  rcases h with rfl | rfl | rfl | rfl | rfl | rfl | rfl | rfl <;> rfl
theorem rd_numbers {k : Int} (h0 : 1 ≤ k) (h1 : k ≤ 8) : rd [2147483648, 0, 196608, 327680, 2143289344, 2146435072, 2147221504, 2147418112] (k - 1) = numK k := by
  have h : k = 1 ∨ k = 2 ∨ k = 3 ∨ k = 4 ∨ k = 5 ∨ k = 6 ∨ k = 7 ∨ k = 8 := by omega
  rcases h with rfl | rfl | rfl | rfl | rfl | rfl | rfl | rfl <;> rfl
theorem and_not16 {v : Int} (h0 : 0 ≤ v) (h1 : v ≤ 4294967295) : Go.bits .andNot .u32 v 65535 = v / 65536 * 65536 := by
  rw [Go.u32_andNot v 65535 h0 (by omega) (by decide) (by decide)]
  have h2 : (v.toNat &&& 4294901760) % 65536 = 0 := by
    have := Nat.and_mod_two_pow (a := v.toNat) (b := 4294901760) (n := 16)
    rw [show (2 : Nat) ^ 16 = 65536 from rfl] at this
    rw [this]
    simp
  have h3 : (v.toNat &&& 4294901760) / 65536 = v.toNat / 65536 % 65536 := by
    have := Nat.and_div_two_pow (a := v.toNat) (b := 4294901760) (n := 16)
    rw [show (2 : Nat) ^ 16 = 65536 from rfl] at this
    rw [this]
    exact Nat.and_two_pow_sub_one_eq_mod (v.toNat / 65536) 16
  have e : (4294967295 - (65535 : Int).toNat) = 4294901760 := by decide
  rw [e]
  omega
theorem and16 {v : Int} (h0 : 0 ≤ v) (h1 : v ≤ 4294967295) : Go.bits .and .u32 v 65535 = v % 65536 := by
  rw [Go.u32_and v 65535 h0 (by omega) (by decide) (by decide)]
  have : v.toNat &&& 65535 = v.toNat % 65536 := Nat.and_two_pow_sub_one_eq_mod v.toNat 16
  rw [show (65535 : Int).toNat = 65535 from rfl, this]
  omega
def OfV (v : Int) : Int × Int := (kindV v, argV v)
/-- The answer of the search, from kind k on, if no kind before it had the number. -/
theorem of_step {v : Int} (h0 : 0 ≤ v) (h1 : v ≤ 4294967295) (m : Nat) (k : Int) (hk0 : 1 ≤ k) (hk1 : k ≤ 8) :
    act_Of.l0 (m + 1) v k = if numK k = v / 65536 * 65536 then some (k, if Brs k then v % 65536 else 0) else act_Of.l0 m v (k + 1) := by
  simp only [act_Of.l0]
  have w : wrap64 (k + 1) = k + 1 := by unfold wrap64; omega
  have w2 : wrap64 (v % 65536) = v % 65536 := by unfold wrap64; omega
  rw [if_pos hk1, number_is hk0 hk1, and_not16 h0 h1, bears_is, and16 h0 h1, w, w2]
  simp only [Option.bind_some, dec_true7]
  by_cases h : Brs k
  · simp [h]
  · simp [h]
theorem of_is {v : Int} (h0 : 0 ≤ v) (h1 : v ≤ 4294967295) (k : Nat) (hk : 10 ≤ k) : act_Of.f k v = some (OfV v) := by
  obtain ⟨m, rfl⟩ : ∃ m, k = m + 9 := ⟨k - 9, by omega⟩
  unfold act_Of.f
  rw [of_step h0 h1 (m + 8) 1 (by decide) (by decide), of_step h0 h1 (m + 7) (1 + 1) (by decide) (by decide), of_step h0 h1 (m + 6) (1 + 1 + 1) (by decide) (by decide), of_step h0 h1 (m + 5) (1 + 1 + 1 + 1) (by decide) (by decide), of_step h0 h1 (m + 4) (1 + 1 + 1 + 1 + 1) (by decide) (by decide), of_step h0 h1 (m + 3) (1 + 1 + 1 + 1 + 1 + 1) (by decide) (by decide), of_step h0 h1 (m + 2) (1 + 1 + 1 + 1 + 1 + 1 + 1) (by decide) (by decide), of_step h0 h1 (m + 1) (1 + 1 + 1 + 1 + 1 + 1 + 1 + 1) (by decide) (by decide)]
  have hl : act_Of.l0 (m + 1) v (1 + 1 + 1 + 1 + 1 + 1 + 1 + 1 + 1) = some (1, 0) := by
    simp only [act_Of.l0]
    rw [if_neg (by decide)]
  rw [hl]
  simp only [Int.reduceAdd, show numK 1 = 2147483648 from rfl, show numK 2 = 0 from rfl, show numK 3 = 196608 from rfl, show numK 4 = 327680 from rfl, show numK 5 = 2143289344 from rfl, show numK 6 = 2146435072 from rfl, show numK 7 = 2147221504 from rfl, show numK 8 = 2147418112 from rfl]
  have b1 : ¬ Brs 1 := by decide
  have b2 : ¬ Brs 2 := by decide
  have b3 : Brs 3 := by decide
  have b4 : Brs 4 := by decide
  have b5 : ¬ Brs 5 := by decide
  have b6 : Brs 6 := by decide
  have b7 : ¬ Brs 7 := by decide
  have b8 : ¬ Brs 8 := by decide
  have hd : v = v / 65536 * 65536 + v % 65536 := by omega
  by_cases c1 : v / 65536 = 32768
  · rw [if_pos (by omega)]; simp [OfV, argV, kindV, c1, b1, b2, b3, b4, b5, b6, b7, b8]
  · have _x := c1
    by_cases c2 : v / 65536 = 0
    · rw [if_neg (by omega)]; rw [if_pos (by omega)]; simp [OfV, argV, kindV, c1, c2, b1, b2, b3, b4, b5, b6, b7, b8]
    · have _x := c2
      by_cases c3 : v / 65536 = 3
      · rw [if_neg (by omega)]; rw [if_neg (by omega)]; rw [if_pos (by omega)]; simp [OfV, argV, kindV, c1, c2, c3, b1, b2, b3, b4, b5, b6, b7, b8]
      · have _x := c3
        by_cases c4 : v / 65536 = 5
        · rw [if_neg (by omega)]; rw [if_neg (by omega)]; rw [if_neg (by omega)]; rw [if_pos (by omega)]; simp [OfV, argV, kindV, c1, c2, c3, c4, b1, b2, b3, b4, b5, b6, b7, b8]
        · have _x := c4
          by_cases c5 : v / 65536 = 32704
          · rw [if_neg (by omega)]; rw [if_neg (by omega)]; rw [if_neg (by omega)]; rw [if_neg (by omega)]; rw [if_pos (by omega)]; simp [OfV, argV, kindV, c1, c2, c3, c4, c5, b1, b2, b3, b4, b5, b6, b7, b8]
          · have _x := c5
            by_cases c6 : v / 65536 = 32752
            · rw [if_neg (by omega)]; rw [if_neg (by omega)]; rw [if_neg (by omega)]; rw [if_neg (by omega)]; rw [if_neg (by omega)]; rw [if_pos (by omega)]; simp [OfV, argV, kindV, c1, c2, c3, c4, c5, c6, b1, b2, b3, b4, b5, b6, b7, b8]
            · have _x := c6
              by_cases c7 : v / 65536 = 32764
              · rw [if_neg (by omega)]; rw [if_neg (by omega)]; rw [if_neg (by omega)]; rw [if_neg (by omega)]; rw [if_neg (by omega)]; rw [if_neg (by omega)]; rw [if_pos (by omega)]; simp [OfV, argV, kindV, c1, c2, c3, c4, c5, c6, c7, b1, b2, b3, b4, b5, b6, b7, b8]
              · have _x := c7
                by_cases c8 : v / 65536 = 32767
                · rw [if_neg (by omega)]; rw [if_neg (by omega)]; rw [if_neg (by omega)]; rw [if_neg (by omega)]; rw [if_neg (by omega)]; rw [if_neg (by omega)]; rw [if_neg (by omega)]; rw [if_pos (by omega)]; simp [OfV, argV, kindV, c1, c2, c3, c4, c5, c6, c7, c8, b1, b2, b3, b4, b5, b6, b7, b8]
                · rw [if_neg (by omega)]; rw [if_neg (by omega)]; rw [if_neg (by omega)]; rw [if_neg (by omega)]; rw [if_neg (by omega)]; rw [if_neg (by omega)]; rw [if_neg (by omega)]; rw [if_neg (by omega)]; simp [OfV, argV, kindV, c1, c2, c3, c4, c5, c6, c7, c8, b1]
theorem rof_step {v : Int} (h0 : 0 ≤ v) (h1 : v ≤ 4294967295) (m : Nat) (i : Int) (hi0 : 0 ≤ i) (hi1 : i < 8) :
    fairleadref07_Of.l0 (m + 1) v [2147483648, 0, 196608, 327680, 2143289344, 2146435072, 2147221504, 2147418112] i = if numK (i + 1) = v / 65536 * 65536 then some (i + 1, if Brs (i + 1) then v % 65536 else 0) else fairleadref07_Of.l0 m v [2147483648, 0, 196608, 327680, 2143289344, 2146435072, 2147221504, 2147418112] (i + 1) := by
  simp only [fairleadref07_Of.l0]
  have w : wrap64 (i + 1) = i + 1 := by unfold wrap64; omega
  have w2 : wrap64 (Int.tmod v 65536) = v % 65536 := by rw [Int.tmod_eq_emod_of_nonneg h0]; unfold wrap64; omega
  have w3 : Int.tdiv v 65536 % 4294967296 * 65536 % 4294967296 = v / 65536 * 65536 := by rw [Int.tdiv_eq_ediv_of_nonneg h0]; omega
  have e := rd_numbers (k := i + 1) (by omega) (by omega)
  rw [show i + 1 - 1 = i from by omega] at e
  rw [if_pos (by simp; omega), if_pos hi0, e, has7_is, w, w2, w3]
  simp only [Option.bind_some, dec_true7]
  by_cases h : Brs (i + 1)
  · simp [h]
  · simp [h]
theorem rof_is {v : Int} (h0 : 0 ≤ v) (h1 : v ≤ 4294967295) (k : Nat) (hk : 10 ≤ k) : fairleadref07_Of.f k v = some (OfV v) := by
  have ho := of_is h0 h1 k hk
  obtain ⟨m, rfl⟩ : ∃ m, k = m + 9 := ⟨k - 9, by omega⟩
  rw [← ho]
  unfold fairleadref07_Of.f fairleadref07_numbers.f act_Of.f
  simp only [Option.bind_some]
  rw [rof_step h0 h1 (m + 8) 0 (by decide) (by decide), rof_step h0 h1 (m + 7) (0 + 1) (by decide) (by decide), rof_step h0 h1 (m + 6) (0 + 1 + 1) (by decide) (by decide), rof_step h0 h1 (m + 5) (0 + 1 + 1 + 1) (by decide) (by decide), rof_step h0 h1 (m + 4) (0 + 1 + 1 + 1 + 1) (by decide) (by decide), rof_step h0 h1 (m + 3) (0 + 1 + 1 + 1 + 1 + 1) (by decide) (by decide), rof_step h0 h1 (m + 2) (0 + 1 + 1 + 1 + 1 + 1 + 1) (by decide) (by decide), rof_step h0 h1 (m + 1) (0 + 1 + 1 + 1 + 1 + 1 + 1 + 1) (by decide) (by decide)]
  rw [of_step h0 h1 (m + 8) 1 (by decide) (by decide), of_step h0 h1 (m + 7) (1 + 1) (by decide) (by decide), of_step h0 h1 (m + 6) (1 + 1 + 1) (by decide) (by decide), of_step h0 h1 (m + 5) (1 + 1 + 1 + 1) (by decide) (by decide), of_step h0 h1 (m + 4) (1 + 1 + 1 + 1 + 1) (by decide) (by decide), of_step h0 h1 (m + 3) (1 + 1 + 1 + 1 + 1 + 1) (by decide) (by decide), of_step h0 h1 (m + 2) (1 + 1 + 1 + 1 + 1 + 1 + 1) (by decide) (by decide), of_step h0 h1 (m + 1) (1 + 1 + 1 + 1 + 1 + 1 + 1 + 1) (by decide) (by decide)]
  have hl : act_Of.l0 (m + 1) v (1 + 1 + 1 + 1 + 1 + 1 + 1 + 1 + 1) = some (1, 0) := by
    simp only [act_Of.l0]
    rw [if_neg (by decide)]
  have hl2 : fairleadref07_Of.l0 (m + 1) v [2147483648, 0, 196608, 327680, 2143289344, 2146435072, 2147221504, 2147418112] (0 + 1 + 1 + 1 + 1 + 1 + 1 + 1 + 1) = some (1, 0) := by
    simp only [fairleadref07_Of.l0]
    rw [if_neg (by decide)]
  rw [hl, hl2]
  rfl
def stp (x y : Int) : Int := if kindV y < kindV x then y else x
/-- The first one that none forbids more than. -/
def MST : List Int → Int
  | [] => 2147418112
  | v :: r => r.foldl stp v
theorem fold_mem (r : List Int) : ∀ v, r.foldl stp v = v ∨ r.foldl stp v ∈ r := by
  induction r with
  | nil => intro v; exact .inl rfl
  | cons y r ih =>
    intro v
    simp only [List.foldl_cons, List.mem_cons]
    rcases ih (stp v y) with h | h
    · rw [h]
      unfold stp
      split
      · exact .inr (.inl rfl)
      · exact .inl rfl
    · exact .inr (.inr h)
theorem fold_le (r : List Int) : ∀ v, kindV (r.foldl stp v) ≤ kindV v ∧ ∀ x ∈ r, kindV (r.foldl stp v) ≤ kindV x := by
  induction r with
  | nil => intro v; exact ⟨Int.le_refl _, fun x hx => by simp at hx⟩
  | cons y r ih =>
    intro v
    simp only [List.foldl_cons]
    have h := ih (stp v y)
    have h1 : kindV (stp v y) ≤ kindV v ∧ kindV (stp v y) ≤ kindV y := by unfold stp; split <;> omega
    refine ⟨by omega, fun x hx => ?_⟩
    rcases List.mem_cons.1 hx with rfl | hx
    · omega
    · exact h.2 x hx
theorem mst_mem {l : List Int} (h : l ≠ []) : MST l ∈ l := by
  cases l with
  | nil => exact absurd rfl h
  | cons v r =>
    rcases fold_mem r v with h | h
    · show r.foldl stp v ∈ _
      rw [h]; simp
    · exact List.mem_cons_of_mem _ h
theorem mst_le (l : List Int) : ∀ x ∈ l, kindV (MST l) ≤ kindV x := by
  cases l with
  | nil => intro x hx; simp at hx
  | cons v r =>
    intro x hx
    rcases List.mem_cons.1 hx with rfl | hx
    · exact (fold_le r x).1
    · exact (fold_le r v).2 x hx
/-- The first of the least kind. -/
theorem fold_first (x : Int) (q : List Int) (hq : ∀ y ∈ q, kindV x ≤ kindV y) : q.foldl stp x = x := by
  induction q with
  | nil => rfl
  | cons y q ih =>
    simp only [List.foldl_cons]
    rw [show stp x y = x from by unfold stp; rw [if_neg (by have := hq y (by simp); omega)]]
    exact ih (fun z hz => hq z (by simp [hz]))
theorem fold_pre (x : Int) (p : List Int) : ∀ v, kindV x < kindV v → (∀ y ∈ p, kindV x < kindV y) → kindV x < kindV (p.foldl stp v) := by
  induction p with
  | nil => intro v h _; exact h
  | cons y p ih =>
    intro v h hp
    simp only [List.foldl_cons]
    refine ih _ ?_ (fun z hz => hp z (by simp [hz]))
    unfold stp
    split
    · exact hp y (by simp)
    · exact h
theorem mst_first (p : List Int) (x : Int) (q : List Int) (hp : ∀ y ∈ p, kindV x < kindV y) (hq : ∀ y ∈ q, kindV x ≤ kindV y) : MST (p ++ x :: q) = x := by
  cases p with
  | nil => exact fold_first x q hq
  | cons v p =>
    show (p ++ x :: q).foldl stp v = x
    rw [List.foldl_append, List.foldl_cons]
    have h := fold_pre x p v (hp v (by simp)) (fun y hy => hp y (by simp [hy]))
    have e : stp (p.foldl stp v) x = x := if_pos h
    rw [e]
    exact fold_first x q hq
theorem of_ev {v : Int} (h : 0 ≤ v ∧ v ≤ 4294967295) : Ev (fun k => act_Of.f k v) (OfV v) := ⟨10, fun k hk => of_is h.1 h.2 k hk⟩
theorem rof_ev {v : Int} (h : 0 ≤ v ∧ v ≤ 4294967295) : Ev (fun k => fairleadref07_Of.f k v) (OfV v) := ⟨10, fun k hk => rof_is h.1 h.2 k hk⟩
theorem rd_mem7 (l : List Int) (i : Nat) (h : i < l.length) : rd l i ∈ l := by
  unfold rd
  rw [Int.toNat_natCast, List.getD_eq_getElem?_getD, List.getElem?_eq_getElem h]
  exact List.getElem_mem h
theorem drop_rd7 (l : List Int) (i : Nat) (h : i < l.length) : l.drop i = rd l i :: l.drop (i + 1) := by
  rw [List.drop_eq_getElem_cons h]
  congr 1
  unfold rd
  rw [Int.toNat_natCast, List.getD_eq_getElem?_getD, List.getElem?_eq_getElem h]
  rfl
theorem most_loop (l : List Int) (ho : ∀ x ∈ l, 0 ≤ x ∧ x ≤ 4294967295) (hl : l.length ≤ 2000) (d : Nat) : ∀ (i : Nat) (b : Int), i + d = l.length → 0 < i → (0 ≤ b ∧ b ≤ 4294967295) →
    Ev (fun k => act_Most.l0 k b l l.length i) ((l.drop i).foldl stp b) := by
  induction d with
  | zero =>
    intro i b hi _ _
    refine Ev.step (f := fun _ => some b) (fun k => ?_) ?_
    · simp only [act_Most.l0]
      rw [if_neg (by omega)]
    · rw [List.drop_of_length_le (by omega)]
      exact Ev.now _
  | succ d ih =>
    intro i b hi h0 hb
    have hr := ho _ (rd_mem7 l i (by omega))
    have w : wrap64 ((i : Int) + 1) = ((i + 1 : Nat) : Int) := by unfold wrap64; omega
    rw [drop_rd7 l i (by omega)]
    refine Ev.step (f := fun k => (act_Of.f k (rd l i)).bind fun bt161 => ((act_Of.f k b).bind fun bt163 => (if bt161.1 < bt163.1 then (act_Most.l0 k (rd l i) l l.length ((i + 1 : Nat) : Int)) else (act_Most.l0 k b l l.length ((i + 1 : Nat) : Int))))) (fun k => ?_) ?_
    · simp only [act_Most.l0]
      rw [if_pos (by omega), if_pos (by omega), if_pos (by omega), if_neg (by omega), w]
    · refine Ev.bind (of_ev hr) (Ev.bind (of_ev hb) ?_)
      rw [List.foldl_cons]
      by_cases h : kindV (rd l i) < kindV b
      · have e : stp b (rd l i) = rd l i := if_pos h
        rw [e]
        exact Ev.congr (fun k => if_pos h) (ih (i + 1) _ (by omega) (by omega) hr)
      · have e : stp b (rd l i) = b := if_neg h
        rw [e]
        exact Ev.congr (fun k => if_neg h) (ih (i + 1) _ (by omega) (by omega) hb)
theorem most_ev (l : List Int) (ho : ∀ x ∈ l, 0 ≤ x ∧ x ≤ 4294967295) (hl : l.length ≤ 2000) : Ev (fun k => act_Most.f k l) (MST l) := by
  have e : ∀ k, act_Most.f k l = act_Most.l0 k 2147418112 l l.length 0 := fun k => by
    unfold act_Most.f
    rw [number_is (by decide) (by decide)]
    rfl
  refine Ev.congr e ?_
  cases l with
  | nil =>
    refine Ev.step (f := fun _ => some 2147418112) (fun k => ?_) (Ev.now _)
    simp only [act_Most.l0]
    rw [if_neg (by simp)]
  | cons v r =>
    have w : wrap64 ((0 : Int) + 1) = ((1 : Nat) : Int) := by unfold wrap64; omega
    have hv : rd (v :: r) 0 = v := rfl
    refine Ev.step (f := fun k => act_Most.l0 k v (v :: r) (v :: r).length ((1 : Nat) : Int)) (fun k => ?_) ?_
    · simp only [act_Most.l0]
      rw [if_pos (by simp only [List.length_cons]; omega), if_pos (by decide), if_pos (by simp only [List.length_cons]; omega), if_pos trivial, w, hv]
    · have := most_loop (v :: r) ho hl r.length 1 v (by simp; omega) (by decide) (ho v (by simp))
      simpa [MST] using this
/-- None of l forbids more than its i-th. -/
def least (l : List Int) (i : Nat) : Prop := ∀ x ∈ l, kindV (rd l i) ≤ kindV x
theorem rmost_l1 (l : List Int) (ho : ∀ x ∈ l, 0 ≤ x ∧ x ≤ 4294967295) (hl : l.length ≤ 2000) (i : Nat) (hi : i < l.length) (r : Int) (d : Nat) : ∀ (j : Nat) (b : Bool), j + d = l.length →
    ((b = true ∧ ∀ x ∈ l.drop j, kindV (rd l i) ≤ kindV x) → rd l i = r) → (¬ (b = true ∧ ∀ x ∈ l.drop j, kindV (rd l i) ≤ kindV x) → Ev (fun k => fairleadref07_Most.l0 k l ((i + 1 : Nat) : Int)) r) →
    Ev (fun k => fairleadref07_Most.l1 k l i b j) r := by
  have w : ∀ j : Nat, j < l.length → wrap64 ((j : Int) + 1) = ((j + 1 : Nat) : Int) := fun j hj => by unfold wrap64; omega
  induction d with
  | zero =>
    intro j b hj h1 h2
    rw [List.drop_of_length_le (by omega)] at h1 h2
    by_cases hb : b = true
    · refine Ev.step (f := fun _ => some r) (fun k => ?_) (Ev.now _)
      simp only [fairleadref07_Most.l1]
      rw [if_neg (by omega), if_pos hb, if_pos (by omega), if_pos (by omega), h1 ⟨hb, fun x hx => by simp at hx⟩]
    · refine Ev.step (f := fun k => fairleadref07_Most.l0 k l ((i + 1 : Nat) : Int)) (fun k => ?_) (h2 (fun h => hb h.1))
      simp only [fairleadref07_Most.l1]
      rw [if_neg (by omega), if_neg hb, w i hi]
  | succ d ih =>
    intro j b hj h1 h2
    have hr := ho _ (rd_mem7 l j (by omega))
    have hr2 := ho _ (rd_mem7 l i hi)
    rw [drop_rd7 l j (by omega)] at h1 h2
    refine Ev.step (f := fun k => (fairleadref07_Of.f k (rd l j)).bind fun bt167 => ((fairleadref07_Of.f k (rd l i)).bind fun bt170 => (if bt167.1 < bt170.1 then (fairleadref07_Most.l1 k l i false ((j + 1 : Nat) : Int)) else (fairleadref07_Most.l1 k l i b ((j + 1 : Nat) : Int))))) (fun k => ?_) ?_
    · simp only [fairleadref07_Most.l1]
      have c2 : (0 : Int) ≤ (i : Int) := by omega
      have c3 : (i : Int) < (l.length : Int) := by omega
      rw [if_pos (by omega), if_pos (by omega), w j (by omega)]
      simp only [if_pos c2, if_pos c3]
    · refine Ev.bind (rof_ev hr) (Ev.bind (rof_ev hr2) ?_)
      by_cases h : kindV (rd l j) < kindV (rd l i)
      · refine Ev.congr (fun k => if_pos h) ?_
        refine ih (j + 1) false (by omega) (fun h3 => absurd h3.1 (by decide)) (fun _ => h2 (fun h3 => ?_))
        have := h3.2 (rd l j) (by simp)
        omega
      · refine Ev.congr (fun k => if_neg h) ?_
        refine ih (j + 1) b (by omega) (fun h3 => h1 ⟨h3.1, fun x hx => ?_⟩) (fun h3 => h2 (fun h4 => h3 ⟨h4.1, fun x hx => h4.2 x (by simp [hx])⟩))
        rcases List.mem_cons.1 hx with rfl | hx
        · omega
        · exact h3.2 x hx
theorem rmost_l0 (l : List Int) (ho : ∀ x ∈ l, 0 ≤ x ∧ x ≤ 4294967295) (hl : l.length ≤ 2000) (d : Nat) : ∀ (i : Nat), i + d = l.length → (∀ j, j < i → ¬ least l j) →
    Ev (fun k => fairleadref07_Most.l0 k l i) (MST l) := by
  induction d with
  | zero =>
    intro i hi hn
    refine Ev.step (f := fun _ => some 2147418112) (fun k => ?_) ?_
    · simp only [fairleadref07_Most.l0]
      rw [if_neg (by omega)]
    · by_cases he : l = []
      · subst he; exact Ev.now _
      · exfalso
        obtain ⟨j, hj⟩ := List.getElem?_of_mem (mst_mem he)
        have hlt := (List.getElem?_eq_some_iff.1 hj).1
        refine hn j (by omega) (fun x hx => ?_)
        have e : rd l j = MST l := by
          unfold rd
          rw [Int.toNat_natCast, List.getD_eq_getElem?_getD, hj]
          rfl
        rw [e]
        exact mst_le l x hx
  | succ d ih =>
    intro i hi hn
    refine Ev.step (f := fun k => fairleadref07_Most.l1 k l i true ((0 : Nat) : Int)) (fun k => ?_) ?_
    · simp only [fairleadref07_Most.l0]
      rw [if_pos (by omega)]
      rfl
    · refine rmost_l1 l ho hl i (by omega) (MST l) l.length 0 true (by omega) (fun h => ?_) (fun h => ?_)
      · have h2 : ∀ x ∈ l, kindV (rd l i) ≤ kindV x := fun x hx => h.2 x (by simpa using hx)
        have e : l = l.take i ++ rd l i :: l.drop (i + 1) := by rw [← drop_rd7 l i (by omega), List.take_append_drop]
        have e2 : MST l = MST (l.take i ++ rd l i :: l.drop (i + 1)) := by rw [← e]
        rw [e2]
        symm
        refine mst_first _ _ _ (fun y hy => ?_) (fun y hy => h2 y (List.mem_of_mem_drop hy))
        obtain ⟨j, hj⟩ := List.getElem?_of_mem hy
        have hlt := (List.getElem?_eq_some_iff.1 hj).1
        rw [List.length_take] at hlt
        have hy2 : rd l j = y := by
          unfold rd
          rw [Int.toNat_natCast, List.getD_eq_getElem?_getD]
          rw [List.getElem?_take, if_pos (by omega)] at hj
          rw [hj]
          rfl
        have hx := hn j (by omega)
        unfold least at hx
        rw [hy2] at hx
        refine Classical.byContradiction (fun hc => hx (fun x hx2 => ?_))
        have := h2 x hx2
        omega
      · refine ih (i + 1) (by omega) (fun j hj => ?_)
        rcases Nat.lt_or_ge j i with h3 | h3
        · exact hn j h3
        · obtain rfl : j = i := by omega
          intro h4
          exact h ⟨rfl, fun x hx => h4 x (by simpa using hx)⟩
end Go.Proofs.Yteojfjlklikaoaa.Pure
