/- The law LexWorth, as numbers and lists: what the printed functions say of it is true for every input that the row lets in. -/
import Derived.Test.YtbiccohcikfgeaaMx12
import Derived.Test.YtbiccohcikfgeaaAid
import Derived.Test.YtbiccohcikfgeaaL09
import Derived.Test.YtbiccohcikfgeaaL09a
import Derived.Test.YtbiccohcikfgeaaL09b
import Derived.Test.YtbiccohcikfgeaaL09c
import Derived.Test.YtbiccohcikfgeaaL09d
import Derived.Test.YtbiccohcikfgeaaL09e
namespace Go.Proofs.Ytbiccohcikfgeaa.Pure
open Go Go.RowKit Go.Proofs.Ytbiccohcikfgeaa.M Go.Proofs.Ytbiccohcikfgeaa.Aid Go.Proofs.YtbiccohcikfgeaaW.PrintWords Go.Proofs.YtbiccohcikfgeaaW.PrintLast Go.Proofs.YtbiccohcikfgeaaW.PrintMore
set_option linter.unusedVariables false
set_option linter.unusedSimpArgs false

-- IMPORT L09
-- IMPORT L09a
-- IMPORT L09b
-- IMPORT L09c
-- IMPORT L09d
-- IMPORT L09e
theorem ch_app (a b : ByteArray) : ch (a ++ b) = ch a ++ ch b := by
  unfold ch
  rw [ByteArray.data_append, Array.toList_append, List.map_append]
theorem lenL_all (l : List Int) (h : ∀ x ∈ l, goesP x) : lenL l = l.length := by
  induction l with
  | nil => rfl
  | cons c r ih =>
    simp only [lenL, List.length_cons]
    rw [if_pos (h c (List.mem_cons_self ..)), ih (fun x hx => h x (List.mem_cons_of_mem _ hx))]
    omega
theorem numG_step (b : Int) (hb : b = 10 ∨ b = 16) (c : Int) (l : List Int) (m : Int) (hm : 0 ≤ m ∧ m ≤ 18446744073709551615) (hc : digV c = m % b) : numG b (c :: l) (m / b) = numG b l m := by
  have h0 : 0 ≤ m % b ∧ m % b < b := by rcases hb with rfl | rfl <;> omega
  have h1 : ¬ (b ≤ digV c ∨ (18446744073709551615 - digV c) / b < m / b) := by
    rw [hc]
    rcases hb with rfl | rfl <;> omega
  have h2 : m / b * b + m % b = m := by rcases hb with rfl | rfl <;> omega
  simp only [numG]
  rw [if_neg h1, hc, h2]
/-- Digits that read as a number. -/
structure Dig (b : Int) (n : Int) (l : List Int) (m : Int) : Prop where
  num : numG b l m = some n
  all : ∀ x ∈ l, goesP x
  fst : m = 0 → l.length ≤ 1 ∨ rd l 0 ≠ 48
  dig : b = 10 → ∀ x ∈ l, digitP x
theorem dig_step (b : Int) (hb : b = 10 ∨ b = 16) (n : Int) (l : List Int) (m : Int) (hm : 0 ≤ m ∧ m ≤ 18446744073709551615) (h : Dig b n l m) (h0 : m = 0 → l = []) (c : Int) (hc : digV c = m % b) (hg : goesP c) (hd : b = 10 → digitP c) : Dig b n (c :: l) (m / b) := by
  refine ⟨by rw [numG_step b hb c l m hm hc]; exact h.num, fun x hx => ?_, fun e => ?_, fun e x hx => ?_⟩
  · rcases List.mem_cons.1 hx with rfl | hx
    · exact hg
    · exact h.all x hx
  · by_cases hm0 : m = 0
    · rw [h0 hm0]
      exact .inl (Nat.le_refl _)
    · right
      rw [rd_cons]
      intro h48
      have : digV c = 0 := by rw [h48]; rfl
      rcases hb with rfl | rfl <;> omega
  · rcases List.mem_cons.1 hx with rfl | hx
    · exact hd e
    · exact h.dig e x hx
theorem one_ten (l : List Int) (n : Int) (h : Dig 10 n l 0) (hl : l ≠ []) : ONE l = (2, l.length, n, 0) := by
  obtain ⟨a, t, rfl⟩ := List.exists_cons_of_ne_nil hl
  have hd := h.dig rfl a (List.mem_cons_self ..)
  have hall := lenL_all _ h.all
  have hN : NUM (a :: t) = some n := by
    unfold NUM
    rcases h.fst rfl with e | e
    · rw [if_neg (fun q => by omega)]
      exact h.num
    · rw [if_neg (fun q => e q.2)]
      exact h.num
  unfold ONE
  rw [rd_cons, if_neg (by unfold smallP; unfold digitP at hd; omega), if_pos hd, hall, List.take_length, hN]
theorem one_six (l : List Int) (n : Int) (h : Dig 16 n l 0) (hl : l ≠ []) (hz : l.length ≤ 16) : ONE (48 :: 120 :: l) = (2, l.length + 2, n, 0) := by
  have h1 : 1 ≤ l.length := by cases l with
    | nil => exact absurd rfl hl
    | cons => simp
  have hall : lenL (48 :: 120 :: l) = l.length + 2 := by
    rw [lenL_all]
    · rfl
    · intro x hx
      rcases List.mem_cons.1 hx with rfl | hx
      · decide
      · rcases List.mem_cons.1 hx with rfl | hx
        · decide
        · exact h.all x hx
  have hN : NUM (48 :: 120 :: l) = some n := by
    unfold NUM
    rw [rd_cons, rd_cons1, List.length_cons, List.length_cons, if_pos ⟨by omega, rfl⟩, if_pos ⟨rfl, by omega, by omega⟩]
    exact h.num
  unfold ONE
  rw [rd_cons, if_neg (by decide), if_pos (by decide), hall, List.take_of_length_le (by simp), hN]
theorem allP_tok (s : ByteArray) (f p : Nat) (kd w : Int) (n : Nat) (hp : p < s.size) (h : ONE ((ch s).drop p) = (kd, n, w, 0)) (q : Nat) (hq : p + n + blankL ((ch s).drop (p + n)) false = q) (R : List S31) (hr : allP s f q = (R, 0, -1)) :
    allP s (f + 1) p = (⟨kd, (p : Int), s.extract p (p + n), w⟩ :: R, 0, -1) := by
  simp only [allP]
  unfold TOK
  rw [if_pos hp, h]
  simp only [if_true]
  rw [hq, hr]
  simp only [if_true]
theorem worth_all (ten six : ByteArray) (n : Int) (h1 : Dig 10 n (ch ten) 0) (h1z : 1 ≤ ten.size ∧ ten.size ≤ 30) (h2 : Dig 16 n (ch six) 0) (h2z : 1 ≤ six.size ∧ six.size ≤ 16) :
    ∃ a b c : S31, ALL ((ten ++ ⟨#[32, 48, 120]⟩) ++ six) = ([a, b, c], 0, -1) ∧ a.f3 = n ∧ b.f3 = n ∧ a.f0 = 2 := by
  generalize hu : (ten ++ ⟨#[32, 48, 120]⟩) ++ six = u
  have hch : ch u = ch ten ++ (32 :: 48 :: 120 :: ch six) := by
    rw [← hu, ch_app, ch_app, List.append_assoc]
    rfl
  have hz : u.size = ten.size + (six.size + 3) := by
    rw [← ch_len, hch, List.length_append, ch_len]
    simp only [List.length_cons, ch_len]
  have t0 : ch ten ≠ [] := fun e => by have := congrArg List.length e; rw [ch_len, List.length_nil] at this; omega
  have s0 : ch six ≠ [] := fun e => by have := congrArg List.length e; rw [ch_len, List.length_nil] at this; omega
  have o1 := one_ten _ n h1 t0
  rw [ch_len] at o1
  have o2 := one_six _ n h2 s0 (by rw [ch_len]; omega)
  rw [ch_len] at o2
  have c1 := one_cut (ch ten) (by rw [o1]) t0 32 (48 :: 120 :: ch six) (by decide) (by decide)
  rw [o1] at c1
  simp only at c1
  rw [List.take_of_length_le (by rw [ch_len]; omega), ← hch] at c1
  have b1 := one_noblank (ch ten) (by rw [o1]) t0 (32 :: 48 :: 120 :: ch six)
  rw [o1] at b1
  simp only at b1
  rw [List.take_of_length_le (by rw [ch_len]; omega), ← hch] at b1
  have d1 : (ch u).drop ten.size = 32 :: 48 :: 120 :: ch six := by rw [hch, List.drop_left' (ch_len ten)]
  have d2 : (ch u).drop (ten.size + 1) = 48 :: 120 :: ch six := by rw [← List.drop_drop, d1]; rfl
  have d3 : (ch u).drop (ten.size + 1 + (six.size + 2)) = [] := List.drop_of_length_le (by rw [ch_len]; omega)
  have e3 : allP u (u.size - 1) (ten.size + 1 + (six.size + 2)) = ([⟨4, (u.size : Int), ⟨#[]⟩, 0⟩], 0, -1) := by
    obtain ⟨m, hm⟩ : ∃ m, u.size - 1 = m + 1 := ⟨u.size - 2, by omega⟩
    rw [hm]
    simp only [allP]
    rw [if_neg (by omega)]
  have e2 : allP u (u.size - 1 + 1) (ten.size + 1) = _ := allP_tok u (u.size - 1) (ten.size + 1) 2 n (six.size + 2) (by omega) (by rw [d2]; exact o2) (ten.size + 1 + (six.size + 2)) (by rw [d3]; rfl) _ e3
  have e1 : allP u (u.size - 1 + 1 + 1) 0 = _ := allP_tok u (u.size - 1 + 1) 0 2 n ten.size (by omega) (by rw [List.drop_zero]; exact c1) (ten.size + 1) (by
    rw [Nat.zero_add, d1]
    simp only [blankL]
    rw [if_neg (by decide), if_pos (by decide), if_neg (by decide), if_neg (by decide)]) _ e2
  unfold ALL
  rw [if_neg (by omega), b1, show u.size + 1 = u.size - 1 + 1 + 1 by omega, e1]
  unfold fin
  simp only [if_true, List.nil_append]
  exact ⟨_, _, _, rfl, rfl, rfl, rfl⟩
theorem ch_one (c : Int) (h : 0 ≤ c ∧ c < 256) (x : ByteArray) : ch (strOfNums [c] ++ x) = c :: ch x := by
  rw [ch_app]
  have : ch (strOfNums [c]) = [c] := by
    unfold ch strOfNums
    simp
    omega
  rw [this]
  rfl
theorem hexd (m : Int) (h : 0 ≤ m ∧ m < 16) : digV (bt ⟨#[48, 49, 50, 51, 52, 53, 54, 55, 56, 57, 97, 98, 99, 100, 101, 102]⟩ m) = m ∧ goesP (bt ⟨#[48, 49, 50, 51, 52, 53, 54, 55, 56, 57, 97, 98, 99, 100, 101, 102]⟩ m) ∧ 0 ≤ bt ⟨#[48, 49, 50, 51, 52, 53, 54, 55, 56, 57, 97, 98, 99, 100, 101, 102]⟩ m ∧ bt ⟨#[48, 49, 50, 51, 52, 53, 54, 55, 56, 57, 97, 98, 99, 100, 101, 102]⟩ m < 256 := by
  obtain ⟨j, rfl⟩ : ∃ j : Nat, m = j := ⟨m.toNat, by omega⟩
  have : j = 0 ∨ j = 1 ∨ j = 2 ∨ j = 3 ∨ j = 4 ∨ j = 5 ∨ j = 6 ∨ j = 7 ∨ j = 8 ∨ j = 9 ∨ j = 10 ∨ j = 11 ∨ j = 12 ∨ j = 13 ∨ j = 14 ∨ j = 15 := by omega
  rcases this with rfl | rfl | rfl | rfl | rfl | rfl | rfl | rfl | rfl | rfl | rfl | rfl | rfl | rfl | rfl | rfl <;> decide
theorem six_loop (n : Int) (hn : 0 ≤ n ∧ n ≤ 18446744073709551615) (ten : ByteArray) (h1 : Dig 10 n (ch ten) 0) (h1z : 1 ≤ ten.size ∧ ten.size ≤ 30) (d : Nat) : ∀ (k : Nat) (x : ByteArray) (m : Int), 0 ≤ m ∧ m ≤ 18446744073709551615 → m < 16 ^ d → x.size + d = 16 → d + 50000 < k → Dig 16 n (ch x) m →
    fairleadlaw09_LexWorth.l1 k n true ten x m = some true := by
  have stop : ∀ (k : Nat) (x : ByteArray), 50000 < k → 1 ≤ x.size ∧ x.size ≤ 16 → Dig 16 n (ch x) 0 → fairleadlaw09_LexWorth.l1 k n true ten x 0 = some true := by
    intro k x hk hx h
    obtain ⟨k, rfl⟩ : ∃ m, k = m + 1 := ⟨k - 1, by omega⟩
    obtain ⟨a, b, c, e1, e2, e3, e4⟩ := worth_all ten x n h1 h1z h hx
    simp only [fairleadlaw09_LexWorth.l1]
    rw [if_neg (by decide), if_neg (fun e => by have := (nil_size x).1 e; omega), if_pos (show ten.size + 3 ≤ _ by omega), if_pos (by rw [ByteArray.size_append]; show ten.size + 3 + x.size ≤ _; omega), all_is _ k (by omega), Option.bind_some, e1]
    have r0 : rd_T31 [a, b, c] 0 = a := rfl
    have r1 : rd_T31 [a, b, c] 1 = b := rfl
    simp only [if_true, r0, r1, e2, e3, e4]
    rfl
  induction d with
  | zero =>
    intro k x m hm hd hx hk h
    have : m = 0 := by have : (16 : Int) ^ 0 = 1 := rfl; omega
    subst this
    exact stop k x (by omega) (by omega) h
  | succ d ih =>
    intro k x m hm hd hx hk h
    have hp : (16 : Int) ^ (d + 1) = 16 ^ d * 16 := rfl
    have et : Int.tmod m 16 = m % 16 := Int.tmod_eq_emod_of_nonneg hm.1
    have eq : IntKind.u64.wrap (Int.tdiv m 16) = m / 16 := by rw [Int.tdiv_eq_ediv_of_nonneg hm.1]; exact u64_id (by omega) (by omega)
    obtain ⟨v1, v2, v3, v4⟩ := hexd (m % 16) (by omega)
    by_cases h0 : m = 0
    · by_cases hx0 : x.size = 0
      · obtain ⟨k, rfl⟩ : ∃ m, k = m + 1 := ⟨k - 1, by omega⟩
        have hxl : ch x = [] := List.eq_nil_of_length_eq_zero (by rw [ch_len]; exact hx0)
        simp only [fairleadlaw09_LexWorth.l1]
        rw [if_neg (by omega), if_pos ((nil_size x).2 hx0), et, if_pos (by omega), if_pos (by omega), Option.bind_some, eq]
        have hc := ch_one _ ⟨v3, v4⟩ x
        have hs := congrArg List.length hc
        rw [ch_len, List.length_cons, ch_len, ByteArray.size_append] at hs
        rw [if_pos (by omega)]
        have := dig_step 16 (.inr rfl) n (ch x) m hm h (fun _ => hxl) _ v1 v2 (fun e => by omega)
        rw [← hc] at this
        rw [show m / 16 = 0 by omega] at this ⊢
        exact stop k _ (by omega) (by rw [ByteArray.size_append]; omega) this
      · subst h0
        exact stop k x (by omega) (by omega) h
    · obtain ⟨k, rfl⟩ : ∃ m, k = m + 1 := ⟨k - 1, by omega⟩
      simp only [fairleadlaw09_LexWorth.l1]
      rw [if_pos (by omega), et, if_pos (by omega), if_pos (by omega), Option.bind_some, eq]
      have hc := ch_one _ ⟨v3, v4⟩ x
      have hs := congrArg List.length hc
      rw [ch_len, List.length_cons, ch_len, ByteArray.size_append] at hs
      rw [if_pos (by omega)]
      have := dig_step 16 (.inr rfl) n (ch x) m hm h (fun e => absurd e h0) _ v1 v2 (fun e => by omega)
      rw [← hc] at this
      exact ih k _ (m / 16) (by omega) (by omega) (by rw [ByteArray.size_append]; omega) (by omega) this
theorem ten_loop (n : Int) (hn : 0 ≤ n ∧ n ≤ 18446744073709551615) (d : Nat) : ∀ (k : Nat) (x : ByteArray) (m : Int), 0 ≤ m ∧ m ≤ 18446744073709551615 → m < 10 ^ d → x.size + d = 20 → d + 60000 < k → Dig 10 n (ch x) m →
    fairleadlaw09_LexWorth.l0 k n true x m = some true := by
  have stop : ∀ (k : Nat) (x : ByteArray), 60000 < k → 1 ≤ x.size ∧ x.size ≤ 20 → Dig 10 n (ch x) 0 → fairleadlaw09_LexWorth.l0 k n true x 0 = some true := by
    intro k x hk hx h
    obtain ⟨k, rfl⟩ : ∃ m, k = m + 1 := ⟨k - 1, by omega⟩
    simp only [fairleadlaw09_LexWorth.l0]
    rw [if_neg (by decide), if_neg (fun e => by have := (nil_size x).1 e; omega)]
    refine six_loop n hn x h (by omega) 16 k ⟨#[]⟩ n hn (by have : (16 : Int) ^ 16 = 18446744073709551616 := (by decide); omega) rfl (by omega) ⟨rfl, fun x hx => (by cases hx), fun _ => .inl (Nat.zero_le _), fun _ x hx => (by cases hx)⟩
  induction d with
  | zero =>
    intro k x m hm hd hx hk h
    have : m = 0 := by have : (10 : Int) ^ 0 = 1 := rfl; omega
    subst this
    exact stop k x (by omega) (by omega) h
  | succ d ih =>
    intro k x m hm hd hx hk h
    have hp : (10 : Int) ^ (d + 1) = 10 ^ d * 10 := rfl
    have et : Int.tmod m 10 = m % 10 := Int.tmod_eq_emod_of_nonneg hm.1
    have eq : IntKind.u64.wrap (Int.tdiv m 10) = m / 10 := by rw [Int.tdiv_eq_ediv_of_nonneg hm.1]; exact u64_id (by omega) (by omega)
    have ec : IntKind.u64.wrap (48 + m % 10) % 256 = 48 + m % 10 := by rw [u64_id (by omega) (by omega)]; omega
    have hdg : digitP (48 + m % 10) := by unfold digitP; omega
    have v1 : digV (48 + m % 10) = m % 10 := by unfold digV; rw [if_pos hdg]; omega
    by_cases h0 : m = 0
    · by_cases hx0 : x.size = 0
      · obtain ⟨k, rfl⟩ : ∃ m, k = m + 1 := ⟨k - 1, by omega⟩
        have hxl : ch x = [] := List.eq_nil_of_length_eq_zero (by rw [ch_len]; exact hx0)
        simp only [fairleadlaw09_LexWorth.l0]
        rw [if_neg (by omega), if_pos ((nil_size x).2 hx0), et, ec, Option.bind_some, eq]
        have hc := ch_one (48 + m % 10) (by omega) x
        have hs := congrArg List.length hc
        rw [ch_len, List.length_cons, ch_len, ByteArray.size_append] at hs
        rw [if_pos (by omega)]
        have := dig_step 10 (.inl rfl) n (ch x) m hm h (fun _ => hxl) _ v1 (.inr (.inl hdg)) (fun _ => hdg)
        rw [← hc] at this
        rw [show m / 10 = 0 by omega] at this ⊢
        exact stop k _ (by omega) (by rw [ByteArray.size_append]; omega) this
      · subst h0
        exact stop k x (by omega) (by omega) h
    · obtain ⟨k, rfl⟩ : ∃ m, k = m + 1 := ⟨k - 1, by omega⟩
      simp only [fairleadlaw09_LexWorth.l0]
      rw [if_pos (by omega), et, ec, Option.bind_some, eq]
      have hc := ch_one (48 + m % 10) (by omega) x
      have hs := congrArg List.length hc
      rw [ch_len, List.length_cons, ch_len, ByteArray.size_append] at hs
      rw [if_pos (by omega)]
      have := dig_step 10 (.inl rfl) n (ch x) m hm h (fun e => absurd e h0) _ v1 (.inr (.inl hdg)) (fun _ => hdg)
      rw [← hc] at this
      exact ih k _ (m / 10) (by omega) (by omega) (by rw [ByteArray.size_append]; omega) (by omega) this
theorem LexWorth : fairleadlaw09_LexWorth.Pure := by
  intro n hn
  refine ⟨70000 + 0, ?_⟩
  generalize hK : 70000 + 0 = K
  have hk : 70000 ≤ K := by omega
  unfold fairleadlaw09_LexWorth.f
  rw [awake09 _ (by omega), Option.bind_some]
  exact ten_loop n hn 20 K ⟨#[]⟩ n hn (by have : (10 : Int) ^ 20 = 100000000000000000000 := (by decide); omega) rfl (by omega) ⟨rfl, fun x hx => (by cases hx), fun _ => .inl (Nat.zero_le _), fun _ x hx => (by cases hx)⟩

end Go.Proofs.Ytbiccohcikfgeaa.Pure
