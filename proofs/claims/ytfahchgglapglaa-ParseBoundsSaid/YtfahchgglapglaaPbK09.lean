/- Plain lemmas, in one text: M09 M09b M09d M09e M09f. -/
import Derived.Test.YtfahchgglapglaaPbMx0
import Derived.Test.YtfahchgglapglaaPbMx3
import Derived.Test.YtfahchgglapglaaPbMx4
import Derived.Test.YtfahchgglapglaaPbMx5
import Derived.Test.YtfahchgglapglaaPbMx21
import Derived.Test.YtfahchgglapglaaPbAid
namespace Go.Proofs.Ytfahchgglapglaa.Pure
open Go Go.RowKit Go.Proofs.Ytfahchgglapglaa.M Go.Proofs.Ytfahchgglapglaa.Aid Go.Proofs.YtfahchgglapglaaW.PrintWords Go.Proofs.YtfahchgglapglaaW.PrintLast Go.Proofs.YtfahchgglapglaaW.PrintMore
set_option linter.unusedVariables false
set_option linter.unusedSimpArgs false
-- NEEDS lex_All.f lex_Is.f lex_blank.f lex_digit.f lex_goes.f lex_length.f lex_number.f lex_one.f lex_sign.f lex_small.f lex_worth.f
theorem w64_id {x : Int} (h : -9223372036854775808 ≤ x) (h' : x ≤ 9223372036854775807) : wrap64 x = x := by unfold wrap64; omega
theorem u64_id {x : Int} (h : 0 ≤ x) (h' : x ≤ 18446744073709551615) : IntKind.u64.wrap x = x := by rw [IntKind.wrap_u64]; omega
/-- A text's bytes, as numbers. -/
def ch (s : ByteArray) : List Int := s.data.toList.map fun b => (b.toNat : Int)
theorem ch_len (s : ByteArray) : (ch s).length = s.size := by simp [ch]
theorem ch_get (s : ByteArray) (n : Nat) (h : n < s.size) : (ch s)[n]? = some (bt s n) := by
  unfold ch bt
  rw [List.getElem?_map, dif_pos (by simpa using h)]
  have : s.data.toList[n]? = some s[n] := by
    rw [List.getElem?_eq_getElem (by simpa using h)]
    rfl
  rw [this]
  rfl
theorem drop_ch (s : ByteArray) (n : Nat) (h : n < s.size) : (ch s).drop n = bt s n :: (ch s).drop (n + 1) := by
  have h' : n < (ch s).length := by rw [ch_len]; exact h
  rw [List.drop_eq_getElem_cons h']
  congr 1
  have := ch_get s n h
  rw [List.getElem?_eq_getElem h'] at this
  exact Option.some.inj this
theorem ch_inj {a b : ByteArray} (h : ch a = ch b) : a = b := by
  have h2 : a.data.toList = b.data.toList := by
    unfold ch at h
    refine List.map_inj_right (f := fun b : UInt8 => (b.toNat : Int)) ?_ |>.1 h
    intro x y hxy
    exact UInt8.toNat_inj.1 (Int.ofNat_inj.1 hxy)
  cases a; cases b
  congr 1
  exact Array.toList_inj.1 h2
theorem ch_extract (s : ByteArray) (i j : Nat) : ch (s.extract i j) = ((ch s).take j).drop i := by
  unfold ch
  rw [ByteArray.data_extract, Array.toList_extract, List.extract_eq_drop_take', List.map_drop, List.map_take]
theorem dec_lo (s : ByteArray) (n : Nat) (h : n < s.size) (hb : bt s n < 128) : ((Utf8.decode s n).1 : Int) = bt s n ∧ (Utf8.decode s n).2 = 1 := by
  have e : ((s[n]'h).toNat : Int) = bt s n := bt_at s n (by simpa using h)
  rw [decode_ascii s n h (by omega)]
  exact ⟨e, rfl⟩
theorem bt_get (s : ByteArray) (n : Nat) (h : n < s.size) : ((s.get! n).toNat : Int) = bt s n := by
  have e := bt_at s n (by simpa using h)
  rw [← e]
  have := get_at s n h
  rw [Nat.add_zero] at this
  rw [this]
  rfl
theorem dec_hi (s : ByteArray) (n : Nat) (h : n < s.size) (hb : 128 ≤ bt s n) : 128 ≤ (Utf8.decode s n).1 ∧ 1 ≤ (Utf8.decode s n).2 ∧ ∀ j, 1 ≤ j → j < (Utf8.decode s n).2 → n + j < s.size ∧ 128 ≤ bt s ((n + j : Nat) : Int) := by
  have e : ((s[n]'h).toNat : Int) = bt s n := bt_at s n (by simpa using h)
  obtain ⟨h1, h2⟩ := decode_high s n h (by omega)
  refine ⟨h1, h2, ?_⟩
  have cont : ∀ j, (decide (n + j < s.size) && (s.get! (n + j)).toNat / 64 == 2) = true → n + j < s.size ∧ 128 ≤ bt s ((n + j : Nat) : Int) := by
    intro j hj
    rw [Bool.and_eq_true, decide_eq_true_eq, beq_iff_eq] at hj
    have := bt_get s (n + j) hj.1
    exact ⟨hj.1, by omega⟩
  intro j hj1 hj2
  simp only [Utf8.decode] at hj2
  split at hj2
  · simp only at hj2; omega
  · split at hj2
    · rename_i hc
      split at hj2
      · have : j = 1 := by simp only at hj2; omega
        subst this
        exact cont 1 (by have := hc; simp only [Bool.and_eq_true] at this ⊢; exact this.2)
      · simp only at hj2; omega
    · split at hj2
      · rename_i hc
        split at hj2
        · have : j = 1 ∨ j = 2 := by simp only at hj2; omega
          rcases this with rfl | rfl
          · exact cont 1 (by have := hc; simp only [Bool.and_eq_true] at this ⊢; exact this.1.2)
          · exact cont 2 (by have := hc; simp only [Bool.and_eq_true] at this ⊢; exact this.2)
        · simp only at hj2; omega
      · split at hj2
        · rename_i hc
          split at hj2
          · have : j = 1 ∨ j = 2 ∨ j = 3 := by simp only at hj2; omega
            rcases this with rfl | rfl | rfl
            · exact cont 1 (by have := hc; simp only [Bool.and_eq_true] at this ⊢; exact this.1.1.2)
            · exact cont 2 (by have := hc; simp only [Bool.and_eq_true] at this ⊢; exact this.1.2)
            · exact cont 3 (by have := hc; simp only [Bool.and_eq_true] at this ⊢; exact this.2)
          · simp only at hj2; omega
        · simp only at hj2; omega
def smallP (c : Int) : Prop := 97 ≤ c ∧ c ≤ 122
def digitP (c : Int) : Prop := 48 ≤ c ∧ c ≤ 57
def goesP (c : Int) : Prop := smallP c ∨ digitP c ∨ c = 95
instance (c : Int) : Decidable (smallP c) := by unfold smallP; exact inferInstance
instance (c : Int) : Decidable (digitP c) := by unfold digitP; exact inferInstance
instance (c : Int) : Decidable (goesP c) := by unfold goesP; exact inferInstance
theorem sdt {p : Prop} [Decidable p] (h : p) : some true = some (decide p) := by rw [decide_eq_true h]
theorem sdf {p : Prop} [Decidable p] (h : ¬ p) : some false = some (decide p) := by rw [decide_eq_false h]
theorem small_is (c : Int) : lex_small.f c = some (decide (smallP c)) := by
  unfold lex_small.f
  by_cases h : c ≥ 97
  · rw [if_pos h]
    congr 1
    rw [decide_eq_decide]
    unfold smallP; omega
  · rw [if_neg h]
    exact sdf (by unfold smallP; omega)
theorem digit_is (c : Int) : lex_digit.f c = some (decide (digitP c)) := by
  unfold lex_digit.f
  by_cases h : c ≥ 48
  · rw [if_pos h]
    congr 1
    rw [decide_eq_decide]
    unfold digitP; omega
  · rw [if_neg h]
    exact sdf (by unfold digitP; omega)
theorem goes_is (c : Int) : lex_goes.f c = some (decide (goesP c)) := by
  unfold lex_goes.f
  rw [small_is, digit_is]
  simp only [Option.bind_some, decide_eq_true_eq]
  by_cases h : smallP c
  · rw [if_pos h]; exact sdt (.inl h)
  · rw [if_neg h]
    by_cases h2 : digitP c
    · rw [if_pos h2]; exact sdt (.inr (.inl h2))
    · rw [if_neg h2]
      congr 1
      rw [Bool.eq_iff_iff, beq_iff_eq, decide_eq_true_eq]
      unfold goesP
      exact ⟨fun e => .inr (.inr e), fun e => by rcases e with e | e | e; exact absurd e h; exact absurd e h2; exact e⟩
/-- How many bytes of a word stand ahead. -/
def lenL : List Int → Nat
  | [] => 0
  | c :: r => if goesP c then 1 + lenL r else 0
theorem goes_lt {c : Int} (h : goesP c) : 0 ≤ c ∧ c < 128 := by unfold goesP smallP digitP at h; omega
theorem len_loop (s : ByteArray) (d : Nat) : ∀ (k n : Nat), n + d = s.size → d < k → lex_length.l0 k s n = some ((n + lenL ((ch s).drop n) : Nat) : Int) := by
  induction d with
  | zero =>
    intro k n hn hk
    obtain ⟨k, rfl⟩ : ∃ m, k = m + 1 := ⟨k - 1, by omega⟩
    simp only [lex_length.l0]
    rw [if_neg (by omega), List.drop_of_length_le (by rw [ch_len]; omega), show s.size = n from by omega]
    rfl
  | succ d ih =>
    intro k n hn hk
    obtain ⟨k, rfl⟩ : ∃ m, k = m + 1 := ⟨k - 1, by omega⟩
    have hlt : n < s.size := by omega
    simp only [lex_length.l0]
    rw [if_pos hlt, goes_is, drop_ch s n hlt]
    simp only [Option.bind_some, decide_eq_true_eq, lenL]
    by_cases hb : bt s n < 128
    · obtain ⟨e1, e2⟩ := dec_lo s n hlt hb
      rw [e1, e2]
      by_cases hg : goesP (bt s n)
      · rw [if_pos hg, if_pos hg, ih k (n + 1) (by omega) (by omega), Nat.add_assoc]
      · rw [if_neg hg, if_neg hg]
        rfl
    · obtain ⟨e1, _, _⟩ := dec_hi s n hlt (by omega)
      rw [if_neg (fun h => by have := goes_lt h; omega), if_neg (fun h => by have := goes_lt h; omega)]
      rfl
theorem length_is (s : ByteArray) (k : Nat) (hk : s.size < k) : lex_length.f k s = some (lenL (ch s) : Int) := by
  have := len_loop s s.size k 0 (by omega) hk
  simpa [lex_length.f] using this
theorem lenL_le (l : List Int) : lenL l ≤ l.length := by
  induction l with
  | nil => exact Nat.le_refl _
  | cons c r ih => simp only [lenL, List.length_cons]; split <;> omega
def wsP (c : Int) : Prop := c = 32 ∨ c = 9 ∨ c = 10 ∨ c = 13
instance (c : Int) : Decidable (wsP c) := by unfold wsP; exact inferInstance
/-- How many bytes of blanks and notes stand ahead (within a note, or not). -/
def blankL : List Int → Bool → Nat
  | [], _ => 0
  | c :: r, true => 1 + blankL r (c != 10)
  | c :: r, false => if c = 35 then 1 + blankL r true else if wsP c then 1 + blankL r false else 0
/-- Bytes beyond 127 are passed over in a note. -/
theorem blank_wide (s : ByteArray) (n : Nat) (w : Nat) (h : ∀ j, j < w → n + j < s.size ∧ 128 ≤ bt s ((n + j : Nat) : Int)) : blankL ((ch s).drop n) true = w + blankL ((ch s).drop (n + w)) true := by
  induction w with
  | zero => simp
  | succ w ih =>
    rw [ih (fun j hj => h j (by omega))]
    obtain ⟨h1, h2⟩ := h w (by omega)
    rw [drop_ch s (n + w) h1]
    simp only [blankL]
    rw [bne_iff_ne.2 (show bt s ((n + w : Nat) : Int) ≠ 10 by omega), show n + (w + 1) = n + w + 1 from by omega]
    omega
theorem blank_loop (s : ByteArray) : ∀ (d k n : Nat) (nt : Bool), n ≤ s.size → s.size - n = d → d < k → lex_blank.l0 k s n nt = some ((n + blankL ((ch s).drop n) nt : Nat) : Int) := by
  intro d
  induction d using Nat.strongRecOn with
  | _ d ih =>
    intro k n nt hle hd hk
    obtain ⟨k, rfl⟩ : ∃ m, k = m + 1 := ⟨k - 1, by omega⟩
    simp only [lex_blank.l0]
    by_cases hlt : n < s.size
    · rw [if_pos hlt]
      by_cases hb : bt s n < 128
      · obtain ⟨e1, e2⟩ := dec_lo s n hlt hb
        have step : ∀ nt', lex_blank.l0 k s (n + 1) nt' = some ((n + (1 + blankL ((ch s).drop (n + 1)) nt') : Nat) : Int) := fun nt' => by
          rw [ih (s.size - (n + 1)) (by omega) k (n + 1) nt' (by omega) rfl (by omega), Nat.add_assoc]
        rw [e1, e2, drop_ch s n hlt]
        cases nt with
        | true => rw [if_pos rfl, step]; rfl
        | false =>
          rw [if_neg (by decide)]
          simp only [blankL]
          by_cases h35 : bt s n = 35
          · rw [if_pos h35, if_pos h35, step]
          · rw [if_neg h35, if_neg h35]
            by_cases hw : wsP (bt s n)
            · rw [if_pos hw]
              by_cases h1 : bt s n = 32
              · rw [if_pos h1, step]
              · rw [if_neg h1]
                by_cases h2 : bt s n = 9
                · rw [if_pos h2, step]
                · rw [if_neg h2]
                  by_cases h3 : bt s n = 10
                  · rw [if_pos h3, step]
                  · rw [if_neg h3, if_pos (by unfold wsP at hw; omega), step]
            · rw [if_neg hw]
              unfold wsP at hw
              rw [if_neg (by omega), if_neg (by omega), if_neg (by omega), if_neg (by omega)]
              rfl
      · obtain ⟨e1, e2, e3⟩ := dec_hi s n hlt (by omega)
        cases nt with
        | true =>
          have hw := blank_wide s n (Utf8.decode s n).2 (fun j hj => by
            by_cases hj0 : j = 0
            · subst hj0; exact ⟨hlt, by simpa using (show 128 ≤ bt s n by omega)⟩
            · exact e3 j (by omega) hj)
          have hle' : n + (Utf8.decode s n).2 ≤ s.size := by
            by_cases hj0 : (Utf8.decode s n).2 = 1
            · omega
            · have := (e3 ((Utf8.decode s n).2 - 1) (by omega) (by omega)).1; omega
          rw [if_pos rfl, bne_iff_ne.2 (show ((Utf8.decode s n).1 : Int) ≠ 10 by omega), hw, ih (s.size - (n + (Utf8.decode s n).2)) (by omega) k _ true hle' rfl (by omega), Nat.add_assoc]
        | false =>
          rw [if_neg (by decide), if_neg (by omega), if_neg (by omega), if_neg (by omega), if_neg (by omega), if_neg (by omega), drop_ch s n hlt]
          simp only [blankL]
          rw [if_neg (by omega), if_neg (by unfold wsP; omega)]
          rfl
    · rw [if_neg hlt, List.drop_of_length_le (by rw [ch_len]; omega), show s.size = n from by omega]
      cases nt <;> rfl
theorem blank_is (s : ByteArray) (k : Nat) (hk : s.size < k) : lex_blank.f k s = some (blankL (ch s) false : Int) := by
  have := blank_loop s s.size k 0 false (by omega) rfl hk
  simpa [lex_blank.f] using this
theorem blankL_le (l : List Int) : ∀ b, blankL l b ≤ l.length := by
  induction l with
  | nil => intro b; cases b <;> exact Nat.le_refl _
  | cons c r ih =>
    intro b
    cases b with
    | true => simp only [blankL, List.length_cons]; have := ih (c != 10); omega
    | false =>
      simp only [blankL, List.length_cons]
      have := ih true; have := ih false
      split
      · omega
      · split <;> omega
/-- A digit's worth. -/
def digV (c : Int) : Int := if digitP c then c - 48 else if 97 ≤ c ∧ c ≤ 102 then c - 87 else 99
theorem digV_in (c : Int) : 0 ≤ digV c ∧ digV c ≤ 99 := by
  unfold digV
  by_cases h : digitP c
  · rw [if_pos h]; unfold digitP at h; omega
  · rw [if_neg h]
    by_cases h2 : 97 ≤ c ∧ c ≤ 102
    · rw [if_pos h2]; omega
    · rw [if_neg h2]; omega
theorem worth_is (c : Int) (h : 0 ≤ c ∧ c ≤ 2147483647) : lex_worth.f c = some (digV c) := by
  unfold lex_worth.f digV
  rw [digit_is]
  simp only [Option.bind_some, decide_eq_true_eq]
  have w : ∀ x : Int, 0 ≤ x → x ≤ 2147483647 → wrap32 x = x := fun x h1 h2 => by unfold wrap32; omega
  by_cases hd : digitP c
  · have := hd
    unfold digitP at this
    rw [if_pos hd, if_pos hd, w _ (by omega) (by omega), u64_id (by omega) (by omega)]
  · rw [if_neg hd, if_neg hd]
    by_cases h1 : c ≥ 97
    · rw [if_pos h1]
      by_cases h2 : c ≤ 102
      · rw [if_pos h2, if_pos ⟨h1, h2⟩, w _ (by omega) (by omega), u64_id (x := c - 97) (by omega) (by omega), u64_id (by omega) (by omega)]
        congr 1
        omega
      · rw [if_neg h2, if_neg (by omega)]
    · rw [if_neg h1, if_neg (by omega)]
/-- A number's worth, digit by digit, if it may be. -/
def numG (b : Int) : List Int → Int → Option Int
  | [], n => some n
  | c :: r, n => if b ≤ digV c ∨ (18446744073709551615 - digV c) / b < n then none else numG b r (n * b + digV c)
def ansN : Option Int → Int × Bool
  | some v => (v, true)
  | none => (0, false)
theorem mul_room {b n d : Int} (hb : b = 10 ∨ b = 16) (hn : 0 ≤ n) (hd : 0 ≤ d ∧ d ≤ 99) (h : ¬ (18446744073709551615 - d) / b < n) : 0 ≤ n * b ∧ n * b + d ≤ 18446744073709551615 := by
  rcases hb with rfl | rfl <;> omega
theorem tdiv_room {b d : Int} (hb : b = 10 ∨ b = 16) (hd : 0 ≤ d ∧ d ≤ 99) : IntKind.u64.wrap (Int.tdiv (IntKind.u64.wrap (18446744073709551615 - d)) b) = (18446744073709551615 - d) / b := by
  rw [u64_id (x := 18446744073709551615 - d) (by omega) (by omega), Int.tdiv_eq_ediv_of_nonneg (by omega)]
  rcases hb with rfl | rfl <;> exact u64_id (by omega) (by omega)
theorem number_loop (s : ByteArray) (b : Int) (hb : b = 10 ∨ b = 16) (hs : ∀ x ∈ ch s, x < 128) (d : Nat) : ∀ (k p : Nat) (n : Int), p + d = s.size → d < k → 0 ≤ n ∧ n ≤ 18446744073709551615 →
    lex_number.l0 k s b p n = some (ansN (numG b ((ch s).drop p) n)) := by
  induction d with
  | zero =>
    intro k p n hp hk hn
    obtain ⟨k, rfl⟩ : ∃ m, k = m + 1 := ⟨k - 1, by omega⟩
    simp only [lex_number.l0]
    rw [if_neg (by omega), List.drop_of_length_le (by rw [ch_len]; omega)]
    rfl
  | succ d ih =>
    intro k p n hp hk hn
    obtain ⟨k, rfl⟩ : ∃ m, k = m + 1 := ⟨k - 1, by omega⟩
    have hlt : p < s.size := by omega
    have hc : bt s p < 128 := hs _ (List.mem_of_mem_drop (by rw [drop_ch s p hlt]; simp))
    have hc0 := (bt_range s p).1
    obtain ⟨e1, e2⟩ := dec_lo s p hlt hc
    have hv := digV_in (bt s p)
    simp only [lex_number.l0]
    rw [if_pos hlt, e1, e2, worth_is _ (by omega), drop_ch s p hlt]
    simp only [Option.bind_some, numG]
    rw [tdiv_room hb hv]
    by_cases h1 : b ≤ digV (bt s p)
    · rw [if_pos h1, if_pos (.inl h1)]
      rfl
    · rw [if_neg h1]
      by_cases h2 : (18446744073709551615 - digV (bt s p)) / b < n
      · rw [if_pos h2, if_pos (.inr h2)]
        rfl
      · have hr := mul_room hb hn.1 hv h2
        rw [if_neg h2, if_neg (by intro h; rcases h with h | h; exact h1 h; exact h2 h), u64_id (x := n * b) (by omega) (by omega), u64_id (by omega) (by omega)]
        exact ih k (p + 1) _ (by omega) (by omega) (by omega)
theorem rd_ch (s : ByteArray) (n : Nat) (h : n < s.size) : rd (ch s) n = bt s n := by
  unfold rd
  rw [Int.toNat_natCast, List.getD_eq_getElem?_getD, ch_get s n h]
  rfl
def NUM (l : List Int) : Option Int := if 1 < l.length ∧ rd l 0 = 48 then (if rd l 1 = 120 ∧ 3 ≤ l.length ∧ l.length ≤ 18 then numG 16 (l.drop 2) 0 else none) else numG 10 l 0
theorem ch_tail (s : ByteArray) (n : Nat) : ch (s.extract n s.size) = (ch s).drop n := by
  rw [ch_extract, List.take_of_length_le (by rw [ch_len]; omega)]
theorem ch_head (s : ByteArray) (n : Nat) : ch (s.extract 0 n) = (ch s).take n := by
  rw [ch_extract, List.drop_zero]
theorem number_is (s : ByteArray) (hs : ∀ x ∈ ch s, x < 128) (k : Nat) (hk : s.size < k) : lex_number.f k s = some (ansN (NUM (ch s))) := by
  have h10 : lex_number.l0 k s 10 0 0 = some (ansN (numG 10 (ch s) 0)) := by
    have := number_loop s 10 (.inl rfl) hs s.size k 0 0 (by omega) hk (by decide)
    simpa using this
  unfold lex_number.f NUM
  rw [ch_len]
  by_cases h1 : (s.size : Int) > 1
  · have r0 : rd (ch s) 0 = bt s 0 := rd_ch s 0 (by omega)
    have r1 : rd (ch s) 1 = bt s 1 := rd_ch s 1 (by omega)
    rw [if_pos h1, r0, r1]
    by_cases h2 : bt s 0 = 48
    · rw [if_pos h2, if_pos (show 1 < s.size ∧ bt s 0 = 48 from ⟨by omega, h2⟩)]
      by_cases h3 : bt s 1 = 120
      · rw [if_pos h3]
        by_cases h4 : (s.size : Int) < 3
        · rw [if_pos h4, if_neg (by omega)]; rfl
        · rw [if_neg h4]
          by_cases h5 : (s.size : Int) > 18
          · rw [if_pos h5, if_neg (by omega)]; rfl
          · have ht := ch_tail s 2
            have hz : (s.extract 2 s.size).size = s.size - 2 := by rw [← ch_len, ht, List.length_drop, ch_len]
            have := number_loop (s.extract 2 s.size) 16 (.inr rfl) (fun x hx => hs x (by rw [ht] at hx; exact List.mem_of_mem_drop hx)) (s.size - 2) k 0 0 (by omega) (by omega) (by decide)
            rw [if_neg h5, if_pos (show bt s 1 = 120 ∧ 3 ≤ s.size ∧ s.size ≤ 18 from ⟨h3, by omega, by omega⟩), this, List.drop_zero, ht]
      · rw [if_neg h3, if_neg (show ¬ (bt s 1 = 120 ∧ 3 ≤ s.size ∧ s.size ≤ 18) from fun h => h3 h.1)]; rfl
    · rw [if_neg h2, if_neg (show ¬ (1 < s.size ∧ bt s 0 = 48) from fun h => h2 h.2), h10]
  · rw [if_neg h1, if_neg (by omega), h10]
theorem lenL_goes (l : List Int) : ∀ x ∈ l.take (lenL l), goesP x := by
  induction l with
  | nil => intro x hx; simp at hx
  | cons c r ih =>
    intro x hx
    simp only [lenL] at hx
    by_cases h : goesP c
    · rw [if_pos h, Nat.add_comm, List.take_succ_cons] at hx
      rcases List.mem_cons.1 hx with rfl | hx
      · exact h
      · exact ih x hx
    · rw [if_neg h] at hx
      simp at hx
/-- How many bytes the sign has that stands ahead. -/
def signL (l : List Int) : Nat := if rd l 0 = 61 ∨ rd l 0 = 33 ∨ rd l 0 = 60 ∨ rd l 0 = 62 then (if 1 < l.length ∧ rd l 1 = 61 then 2 else if rd l 0 = 61 ∨ rd l 0 = 33 then 0 else 1) else if rd l 0 = 59 ∨ rd l 0 = 44 ∨ rd l 0 = 38 then 1 else 0
theorem sign_j0 (s : ByteArray) (hs : 0 < s.size) (k : Nat) : lex_sign.j0 (k + 2) s (bt s 0) true = some (((if 1 < s.size ∧ bt s 1 = 61 then 2 else if bt s 0 = 61 ∨ bt s 0 = 33 then 0 else 1 : Nat) : Int)) := by
  have j1f : lex_sign.j1 (k + 1) s false = some (((if bt s 0 = 61 ∨ bt s 0 = 33 then 0 else 1 : Nat) : Int)) := by
    simp only [lex_sign.j1]
    rw [if_neg (by decide), if_pos (by omega)]
    by_cases h1 : bt s 0 = 61
    · rw [if_pos h1, if_pos (.inl h1)]; rfl
    · rw [if_neg h1]
      by_cases h2 : bt s 0 = 33
      · rw [if_pos h2, if_pos (.inr h2)]; rfl
      · rw [if_neg h2, if_neg (by omega)]; rfl
  simp only [lex_sign.j0]
  rw [if_pos trivial]
  by_cases h : (s.size : Int) > 1
  · rw [if_pos h, if_pos (by omega)]
    by_cases h61 : bt s 1 = 61
    · rw [beq_iff_eq.2 h61, if_pos (show 1 < s.size ∧ bt s 1 = 61 from ⟨by omega, h61⟩)]
      simp only [lex_sign.j1]
      rfl
    · rw [beq_eq_false_iff_ne.2 h61, if_neg (show ¬ (1 < s.size ∧ bt s 1 = 61) from fun e => h61 e.2), j1f]
  · rw [if_neg h, if_neg (show ¬ (1 < s.size ∧ bt s 1 = 61) by omega), j1f]
theorem sign_is (s : ByteArray) (hs : 0 < s.size) (k : Nat) (hk : 3 ≤ k) : lex_sign.f k s = some (signL (ch s) : Int) := by
  obtain ⟨k, rfl⟩ : ∃ m, k = m + 2 := ⟨k - 2, by omega⟩
  have r0 : rd (ch s) 0 = bt s 0 := rd_ch s 0 hs
  have e : (if 1 < (ch s).length ∧ rd (ch s) 1 = 61 then 2 else if bt s 0 = 61 ∨ bt s 0 = 33 then 0 else 1 : Nat) = (if 1 < s.size ∧ bt s 1 = 61 then 2 else if bt s 0 = 61 ∨ bt s 0 = 33 then 0 else 1 : Nat) := by
    rw [ch_len]
    by_cases h : 1 < s.size
    · rw [show rd (ch s) 1 = bt s 1 from rd_ch s 1 h]
    · rw [if_neg (show ¬ (1 < s.size ∧ rd (ch s) 1 = 61) from fun e => h e.1), if_neg (show ¬ (1 < s.size ∧ bt s 1 = 61) from fun e => h e.1)]
  unfold lex_sign.f signL
  rw [if_pos (by omega), r0, e]
  by_cases h1 : bt s 0 = 61
  · rw [if_pos h1, beq_iff_eq.2 h1, sign_j0 s hs, if_pos (show bt s 0 = 61 ∨ bt s 0 = 33 ∨ bt s 0 = 60 ∨ bt s 0 = 62 by omega)]
  · rw [if_neg h1]
    by_cases h2 : bt s 0 = 33
    · rw [if_pos h2, beq_iff_eq.2 h2, sign_j0 s hs, if_pos (show bt s 0 = 61 ∨ bt s 0 = 33 ∨ bt s 0 = 60 ∨ bt s 0 = 62 by omega)]
    · rw [if_neg h2]
      by_cases h3 : bt s 0 = 60
      · rw [if_pos h3, beq_iff_eq.2 h3, sign_j0 s hs, if_pos (show bt s 0 = 61 ∨ bt s 0 = 33 ∨ bt s 0 = 60 ∨ bt s 0 = 62 by omega)]
      · rw [if_neg h3]
        by_cases h4 : bt s 0 = 62
        · rw [beq_iff_eq.2 h4, sign_j0 s hs, if_pos (show bt s 0 = 61 ∨ bt s 0 = 33 ∨ bt s 0 = 60 ∨ bt s 0 = 62 by omega)]
        · rw [beq_eq_false_iff_ne.2 h4, if_neg (show ¬ (bt s 0 = 61 ∨ bt s 0 = 33 ∨ bt s 0 = 60 ∨ bt s 0 = 62) by omega)]
          simp only [lex_sign.j0]
          rw [if_neg (by decide)]
          by_cases h5 : bt s 0 = 59
          · rw [if_pos h5, if_pos (.inl h5)]; rfl
          · rw [if_neg h5]
            by_cases h6 : bt s 0 = 44
            · rw [if_pos h6, if_pos (.inr (.inl h6))]; rfl
            · rw [if_neg h6]
              by_cases h7 : bt s 0 = 38
              · rw [if_pos h7, if_pos (.inr (.inr h7))]; rfl
              · rw [if_neg h7, if_neg (by omega)]; rfl
/-- The token that stands ahead: its kind, its bytes, its worth, what is wrong. -/
def ONE (l : List Int) : Int × Nat × Int × Int :=
  if smallP (rd l 0) then (1, lenL l, 0, 0)
  else if digitP (rd l 0) then (match NUM (l.take (lenL l)) with | some v => (2, lenL l, v, 0) | none => (0, 0, 0, 6))
  else if 0 < signL l then (3, signL l, 0, 0) else (0, 0, 0, 5)
theorem extract_nil (s : ByteArray) (n : Nat) : s.extract n n = ⟨#[]⟩ := by
  apply ch_inj
  rw [ch_extract, List.drop_of_length_le (by rw [List.length_take]; omega)]
  rfl
theorem signL_le (s : ByteArray) (hs : 0 < s.size) : signL (ch s) ≤ s.size := by
  unfold signL
  rw [ch_len]
  split
  · split
    · omega
    · split <;> omega
  · split <;> omega
theorem one_is (s : ByteArray) (hs : 0 < s.size) (k : Nat) (hk : s.size + 3 < k) : lex_one.f k s = some ((ONE (ch s)).1, 0, s.extract 0 (ONE (ch s)).2.1, (ONE (ch s)).2.2.1, (ONE (ch s)).2.2.2) := by
  have r0 : rd (ch s) 0 = bt s 0 := rd_ch s 0 hs
  have hb := bt_range s 0
  have hl := lenL_le (ch s)
  rw [ch_len] at hl
  unfold lex_one.f ONE
  rw [if_pos (by omega), show wrap32 (bt s 0) = bt s 0 from by unfold wrap32; omega, small_is, digit_is, length_is s k (by omega), sign_is s hs k (by omega), r0]
  simp only [Option.bind_some, decide_eq_true_eq]
  by_cases h1 : smallP (bt s 0)
  · rw [if_pos h1, if_pos (by omega), if_pos (by omega), if_pos h1]
    rfl
  · rw [if_neg h1, if_neg h1]
    by_cases h2 : digitP (bt s 0)
    · have hnum := number_is (s.extract 0 (lenL (ch s))) (by rw [ch_head]; intro x hx; exact (goes_lt (lenL_goes _ x hx)).2) k (by rw [← ch_len, ch_head, List.length_take, ch_len]; omega)
      rw [ch_head] at hnum
      rw [if_pos h2, if_pos (by omega), if_pos (by omega), if_pos h2, Int.toNat_natCast, hnum]
      simp only [Option.bind_some]
      cases NUM ((ch s).take (lenL (ch s))) with
      | none => rw [extract_nil]; rfl
      | some v => rfl
    · have hsl := signL_le s hs
      rw [if_neg h2, if_neg h2]
      by_cases h3 : 0 < signL (ch s)
      · rw [if_pos (by omega), if_pos (by omega), if_pos (by omega), if_pos h3]
        rfl
      · rw [if_neg (by omega), if_neg h3, extract_nil]
theorem wide_ok {x : Int} (h0 : 0 ≤ x) (h1 : x ≤ 4000000) : wrap64 x = x := w64_id (by omega) (by omega)
theorem rd_drop (s : ByteArray) (p : Nat) (h : p < s.size) : rd ((ch s).drop p) 0 = bt s p := by
  rw [drop_ch s p h]
  rfl
/-- The token at a place. -/
def TOK (s : ByteArray) (p : Nat) : S39 := ⟨(ONE ((ch s).drop p)).1, (p : Int), s.extract p (p + (ONE ((ch s).drop p)).2.1), (ONE ((ch s).drop p)).2.2.1⟩
/-- The tokens from a place on, or what is wrong, and where. -/
def allP (s : ByteArray) : Nat → Nat → List S39 × Int × Int
  | 0, _ => ([], 0, 0)
  | f + 1, p => if p < s.size then (if (ONE ((ch s).drop p)).2.2.2 = 0 then (if (allP s f (p + (ONE ((ch s).drop p)).2.1 + blankL ((ch s).drop (p + (ONE ((ch s).drop p)).2.1)) false)).2.1 = 0 then (TOK s p :: (allP s f (p + (ONE ((ch s).drop p)).2.1 + blankL ((ch s).drop (p + (ONE ((ch s).drop p)).2.1)) false)).1, 0, (allP s f (p + (ONE ((ch s).drop p)).2.1 + blankL ((ch s).drop (p + (ONE ((ch s).drop p)).2.1)) false)).2.2) else ([], (allP s f (p + (ONE ((ch s).drop p)).2.1 + blankL ((ch s).drop (p + (ONE ((ch s).drop p)).2.1)) false)).2)) else ([], (ONE ((ch s).drop p)).2.2.2, (p : Int))) else ([⟨4, (s.size : Int), ⟨#[]⟩, 0⟩], 0, -1)
def fin (out : List S39) (r : List S39 × Int × Int) : List S39 × Int × Int := if r.2.1 = 0 then (out ++ r.1, 0, r.2.2) else ([], r.2)
theorem one_len (s : ByteArray) (p : Nat) (hp : p < s.size) (h : (ONE ((ch s).drop p)).2.2.2 = 0) : 1 ≤ (ONE ((ch s).drop p)).2.1 ∧ p + (ONE ((ch s).drop p)).2.1 ≤ s.size := by
  have r0 := rd_drop s p hp
  have hl := lenL_le ((ch s).drop p)
  rw [List.length_drop, ch_len] at hl
  have hpos : goesP (bt s p) → 1 ≤ lenL ((ch s).drop p) := fun hg => by
    rw [drop_ch s p hp]
    simp only [lenL]
    rw [if_pos hg]
    omega
  unfold ONE at h ⊢
  rw [r0] at h ⊢
  by_cases h1 : smallP (bt s p)
  · rw [if_pos h1]
    exact ⟨hpos (.inl h1), by show p + lenL _ ≤ _; omega⟩
  · rw [if_neg h1] at h ⊢
    by_cases h2 : digitP (bt s p)
    · rw [if_pos h2] at h ⊢
      revert h
      cases NUM (((ch s).drop p).take (lenL ((ch s).drop p))) with
      | none => intro h; exact absurd (show (6 : Int) = 0 from h) (by decide)
      | some v => intro _; exact ⟨hpos (.inr (.inl h2)), by show p + lenL _ ≤ _; omega⟩
    · rw [if_neg h2] at h ⊢
      by_cases h3 : 0 < signL ((ch s).drop p)
      · rw [if_pos h3]
        refine ⟨h3, ?_⟩
        show p + signL _ ≤ _
        unfold signL
        rw [List.length_drop, ch_len]
        split
        · split
          · omega
          · split <;> omega
        · split <;> omega
      · rw [if_neg h3] at h
        exact absurd (show (5 : Int) = 0 from h) (by decide)
theorem ext_ext (s : ByteArray) (p n : Nat) : (s.extract p s.size).extract 0 n = s.extract p (p + n) := by
  apply ch_inj
  rw [ch_head, ch_tail, ch_extract, List.drop_take, Nat.add_sub_cancel_left]
theorem ext_size (s : ByteArray) (p n : Nat) (h : p + n ≤ s.size) : (s.extract p (p + n)).size = n := by
  rw [← ch_len, ch_extract, List.length_drop, List.length_take, ch_len]
  omega
theorem all_loop (s : ByteArray) (hz : s.size ≤ 100000) (f : Nat) : ∀ (k p : Nat) (out : List S39), p ≤ s.size → s.size - p < f → f + s.size + 5 < k → out.length + (s.size - p) ≤ 200000 →
    lex_All.l0 k s out p = some (fin out (allP s f p)) := by
  induction f with
  | zero => intro k p out _ h; omega
  | succ f ih =>
    intro k p out hp hf hk ho
    obtain ⟨k, rfl⟩ : ∃ m, k = m + 1 := ⟨k - 1, by omega⟩
    simp only [lex_All.l0, allP]
    by_cases hlt : p < s.size
    · have hes : (s.extract p s.size).size = s.size - p := by rw [← ch_len, ch_tail, List.length_drop, ch_len]
      have h1 := one_is (s.extract p s.size) (by omega) k (by omega)
      rw [ch_tail, ext_ext] at h1
      rw [if_pos (by omega), if_pos (by omega), if_pos (by omega), if_pos hlt, Int.toNat_natCast, h1]
      rw [Option.bind_some]
      by_cases he : (ONE ((ch s).drop p)).2.2.2 = 0
      · have hn := one_len s p hlt he
        have hts := ext_size s p (ONE ((ch s).drop p)).2.1 hn.2
        rw [if_pos he, if_pos he]
        generalize hN : (ONE ((ch s).drop p)).2.1 = N at *
        have hbl := blankL_le ((ch s).drop (p + N)) false
        rw [List.length_drop, ch_len] at hbl
        show (if out.length < 3518437208883 then (if 0 ≤ wrap64 ((p : Int) + ((s.extract p (p + N)).size : Int)) then _ else none) else none) = _
        rw [hts, wide_ok (x := (p : Int) + N) (by omega) (by omega), if_pos (by omega), if_pos (by omega), if_pos (by omega), show ((p : Int) + N).toNat = p + N from by omega,
          blank_is _ k (by rw [← ch_len, ch_tail, List.length_drop, ch_len]; omega), ch_tail, Option.bind_some, wide_ok (by omega) (by omega), show (p : Int) + N + (blankL ((ch s).drop (p + N)) false : Int) = ((p + N + blankL ((ch s).drop (p + N)) false : Nat) : Int) from by omega]
        have := ih k (p + N + blankL ((ch s).drop (p + N)) false) (out ++ [TOK s p]) (by omega) (by omega) (by omega) (by rw [List.length_append, List.length_singleton]; omega)
        have hT : TOK s p = ⟨(ONE ((ch s).drop p)).1, (p : Int), s.extract p (p + N), (ONE ((ch s).drop p)).2.2.1⟩ := by unfold TOK; rw [hN]
        rw [hT] at this
        rw [this, ← hT]
        unfold fin
        generalize allP s f (p + N + blankL ((ch s).drop (p + N)) false) = r
        by_cases hr : r.2.1 = 0
        · rw [if_pos hr, if_pos hr, if_pos rfl, List.append_assoc, List.singleton_append]
        · rw [if_neg hr, if_neg hr, if_neg hr]
      · rw [if_neg he, if_neg he]
        unfold fin
        rw [if_neg he]
    · rw [if_neg (by omega), if_neg hlt, if_pos (by omega)]
      rfl
/-- All tokens of a text, or what is wrong, and where. -/
def ALL (s : ByteArray) : List S39 × Int × Int := if 8192 < s.size then ([], 4, 0) else fin [] (allP s (s.size + 1) (blankL (ch s) false))
theorem all_is (s : ByteArray) (k : Nat) (hk : 40000 ≤ k) : lex_All.f k s = some (ALL s) := by
  unfold lex_All.f ALL
  by_cases h : 8192 < s.size
  · rw [if_pos (by omega), if_pos h]
  · have hb := blankL_le (ch s) false
    rw [ch_len] at hb
    rw [if_neg (by omega), if_neg h, blank_is s k (by omega), Option.bind_some]
    exact all_loop s (by omega) (s.size + 1) k _ [] hb (by omega) (by omega) (by simp; omega)
/-- Is a text a word? -/
def ISW (s : ByteArray) : Bool := decide (0 < s.size ∧ smallP (bt s 0) ∧ lenL (ch s) = s.size)
theorem nil_size (s : ByteArray) : s.toList = ([] : List UInt8) ↔ s.size = 0 := by
  rw [ByteArray.toList_eq, Array.toList_eq_nil_iff]
  constructor
  · intro h
    show s.data.size = 0
    rw [h]
    rfl
  · intro h
    exact Array.eq_empty_of_size_eq_zero h
theorem is_is (s : ByteArray) (k : Nat) (hk : s.size < k) : lex_Is.f k s = some (ISW s) := by
  unfold lex_Is.f ISW
  have hb := bt_range s 0
  by_cases h0 : s.size = 0
  · rw [if_pos ((nil_size s).2 h0), decide_eq_false (by omega)]
  · rw [if_neg (fun e => h0 ((nil_size s).1 e)), if_pos (by omega), show wrap32 (bt s 0) = bt s 0 from by unfold wrap32; omega, small_is, Option.bind_some]
    by_cases h1 : smallP (bt s 0)
    · rw [if_pos (decide_eq_true h1), length_is s k hk, Option.bind_some]
      congr 1
      rw [Bool.eq_iff_iff, beq_iff_eq, decide_eq_true_eq]
      exact ⟨fun e => ⟨by omega, h1, by omega⟩, fun e => by omega⟩
    · rw [if_neg (fun e => h1 (of_decide_eq_true e)), decide_eq_false (fun e => h1 e.2.1)]
theorem allP_len (s : ByteArray) (f : Nat) : ∀ p, (allP s f p).1.length ≤ f := by
  induction f with
  | zero => intro p; exact Nat.le_refl _
  | succ f ih =>
    intro p
    simp only [allP]
    split
    · split
      · split
        · rw [List.length_cons]
          have := ih (p + (ONE ((ch s).drop p)).2.1 + blankL ((ch s).drop (p + (ONE ((ch s).drop p)).2.1)) false)
          omega
        · simp
      · simp
    · simp
theorem ALL_len (s : ByteArray) : (ALL s).1.length ≤ 8193 := by
  unfold ALL
  split
  · simp
  · unfold fin
    have := allP_len s (s.size + 1) (blankL (ch s) false)
    split
    · rw [List.nil_append]; show (allP s _ _).1.length ≤ _; omega
    · simp
theorem allP_ok (s : ByteArray) (f : Nat) : ∀ p, p ≤ s.size → s.size - p < f → (allP s f p).2.1 = 0 → (allP s f p).2.2 = -1 ∧ (allP s f p).1 ≠ [] := by
  induction f with
  | zero => intro p _ h; omega
  | succ f ih =>
    intro p hp h h0
    simp only [allP] at h0 ⊢
    by_cases hlt : p < s.size
    · rw [if_pos hlt] at h0 ⊢
      by_cases he : (ONE ((ch s).drop p)).2.2.2 = 0
      · have hn := one_len s p hlt he
        have hbl := blankL_le ((ch s).drop (p + (ONE ((ch s).drop p)).2.1)) false
        rw [List.length_drop, ch_len] at hbl
        rw [if_pos he] at h0 ⊢
        by_cases hr : (allP s f (p + (ONE ((ch s).drop p)).2.1 + blankL ((ch s).drop (p + (ONE ((ch s).drop p)).2.1)) false)).2.1 = 0
        · rw [if_pos hr]
          exact ⟨(ih _ (by omega) (by omega) hr).1, List.cons_ne_nil _ _⟩
        · rw [if_neg hr] at h0
          exact absurd h0 hr
      · rw [if_neg he] at h0
        exact absurd h0 he
    · rw [if_neg hlt] at h0 ⊢
      exact ⟨rfl, List.cons_ne_nil _ _⟩
theorem one_err (l : List Int) : (ONE l).2.2.2 = 0 ∨ (ONE l).2.2.2 = 5 ∨ (ONE l).2.2.2 = 6 := by
  unfold ONE
  split
  · exact .inl rfl
  · split
    · split
      · exact .inl rfl
      · exact .inr (.inr rfl)
    · split
      · exact .inl rfl
      · exact .inr (.inl rfl)
theorem allP_bad (s : ByteArray) (f : Nat) : ∀ p, p ≤ s.size → s.size - p < f → (allP s f p).2.1 ≠ 0 → (allP s f p).1 = [] ∧ ((allP s f p).2.1 = 5 ∨ (allP s f p).2.1 = 6) ∧ (p : Int) ≤ (allP s f p).2.2 ∧ (allP s f p).2.2 < s.size := by
  induction f with
  | zero => intro p _ h; omega
  | succ f ih =>
    intro p hp h h0
    simp only [allP] at h0 ⊢
    by_cases hlt : p < s.size
    · rw [if_pos hlt] at h0 ⊢
      by_cases he : (ONE ((ch s).drop p)).2.2.2 = 0
      · have hn := one_len s p hlt he
        have hbl := blankL_le ((ch s).drop (p + (ONE ((ch s).drop p)).2.1)) false
        rw [List.length_drop, ch_len] at hbl
        rw [if_pos he] at h0 ⊢
        by_cases hr : (allP s f (p + (ONE ((ch s).drop p)).2.1 + blankL ((ch s).drop (p + (ONE ((ch s).drop p)).2.1)) false)).2.1 = 0
        · rw [if_pos hr] at h0
          exact absurd rfl h0
        · rw [if_neg hr]
          have h4 := ih _ (by omega) (by omega) hr
          exact ⟨rfl, h4.2.1, Int.le_trans (by omega) h4.2.2.1, h4.2.2.2⟩
      · rw [if_neg he]
        exact ⟨rfl, by rcases one_err ((ch s).drop p) with e | e; exact absurd e he; exact e, Int.le_refl _, by show (p : Int) < _; omega⟩
    · rw [if_neg hlt] at h0
      exact absurd rfl h0
/-- Tokens that lie in a text, one behind the other. -/
def lies (s : ByteArray) : Nat → List S39 → Prop
  | _, [] => False
  | last, t :: r => (r = [] ∧ t = ⟨4, (s.size : Int), ⟨#[]⟩, 0⟩ ∧ last ≤ s.size) ∨ (r ≠ [] ∧ ∃ p n : Nat, t.f1 = (p : Int) ∧ t.f2 = s.extract p (p + n) ∧ last ≤ p ∧ 1 ≤ n ∧ p + n ≤ s.size ∧ t.f0 ≠ 4 ∧ (t.f3 = 0 ∨ t.f0 = 2) ∧ lies s (p + n) r)
theorem one_kind (l : List Int) (he : (ONE l).2.2.2 = 0) : (ONE l).1 ≠ 4 ∧ ((ONE l).2.2.1 = 0 ∨ (ONE l).1 = 2) := by
  unfold ONE at he ⊢
  split at he
  · rename_i h
    rw [if_pos h]
    exact ⟨by show (1 : Int) ≠ 4; decide, .inl rfl⟩
  · rename_i h
    rw [if_neg h]
    split at he
    · rename_i h2
      rw [if_pos h2]
      revert he
      cases NUM (l.take (lenL l)) with
      | none => intro h; exact absurd (show (6 : Int) = 0 from h) (by decide)
      | some v => intro _; exact ⟨by show (2 : Int) ≠ 4; decide, .inr rfl⟩
    · rename_i h2
      rw [if_neg h2]
      split at he
      · rename_i h3
        rw [if_pos h3]
        exact ⟨by show (3 : Int) ≠ 4; decide, .inl rfl⟩
      · exact absurd (show (5 : Int) = 0 from he) (by decide)
theorem allP_lies (s : ByteArray) (f : Nat) : ∀ p last, last ≤ p → p ≤ s.size → s.size - p < f → (allP s f p).2.1 = 0 → lies s last (allP s f p).1 := by
  induction f with
  | zero => intro p last _ _ h; omega
  | succ f ih =>
    intro p last hl hp h h0
    simp only [allP] at h0 ⊢
    by_cases hlt : p < s.size
    · rw [if_pos hlt] at h0 ⊢
      by_cases he : (ONE ((ch s).drop p)).2.2.2 = 0
      · have hn := one_len s p hlt he
        have hk := one_kind _ he
        have hbl := blankL_le ((ch s).drop (p + (ONE ((ch s).drop p)).2.1)) false
        rw [List.length_drop, ch_len] at hbl
        rw [if_pos he] at h0 ⊢
        by_cases hr : (allP s f (p + (ONE ((ch s).drop p)).2.1 + blankL ((ch s).drop (p + (ONE ((ch s).drop p)).2.1)) false)).2.1 = 0
        · rw [if_pos hr]
          have h2 := ih (p + (ONE ((ch s).drop p)).2.1 + blankL ((ch s).drop (p + (ONE ((ch s).drop p)).2.1)) false) (p + (ONE ((ch s).drop p)).2.1) (by omega) (by omega) (by omega) hr
          have h3 := (allP_ok s f _ (by omega) (by omega) hr).2
          exact .inr ⟨h3, p, (ONE ((ch s).drop p)).2.1, rfl, rfl, hl, hn.1, hn.2, hk.1, hk.2, h2⟩
        · rw [if_neg hr] at h0
          exact absurd h0 hr
      · rw [if_neg he] at h0
        exact absurd h0 he
    · rw [if_neg hlt]
      exact .inl ⟨rfl, rfl, by omega⟩
theorem rd_at {l : List S39} {i : Nat} {t : S39} {r : List S39} (h : l.drop i = t :: r) : rd_T39 l i = t ∧ l.length = i + 1 + r.length ∧ l.drop (i + 1) = r := by
  have hlen : (l.drop i).length = r.length + 1 := by rw [h]; rfl
  rw [List.length_drop] at hlen
  have hi : i < l.length := by omega
  have h2 := List.drop_eq_getElem_cons hi
  rw [h] at h2
  refine ⟨?_, by omega, ?_⟩
  · unfold rd_T39
    rw [Int.toNat_natCast, List.getD_eq_getElem?_getD, List.getElem?_eq_getElem hi]
    exact (List.cons.inj h2).1.symm
  · exact (List.cons.inj h2).2.symm
end Go.Proofs.Ytfahchgglapglaa.Pure
