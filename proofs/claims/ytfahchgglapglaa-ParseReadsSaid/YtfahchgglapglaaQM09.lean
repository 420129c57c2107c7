/- Layer 9 (lex), plain, for the layers above: the program's part. -/
import Derived.Test.YtfahchgglapglaaQMx0
import Derived.Test.YtfahchgglapglaaQMx3
import Derived.Test.YtfahchgglapglaaQAid
namespace Go.Proofs.Ytfahchgglapglaa.Pure
open Go Go.RowKit Go.Proofs.Ytfahchgglapglaa.M Go.Proofs.Ytfahchgglapglaa.Aid Go.Proofs.YtfahchgglapglaaW.PrintWords Go.Proofs.YtfahchgglapglaaW.PrintLast Go.Proofs.YtfahchgglapglaaW.PrintMore
set_option linter.unusedVariables false
set_option linter.unusedSimpArgs false
-- NEEDS lex_blank.f lex_digit.f lex_goes.f lex_length.f lex_number.f lex_small.f lex_worth.f
theorem w64_id {x : Int} (h : -9223372036854775808 ≤ x) (h' : x ≤ 9223372036854775807) : wrap64 x = x := by unfold wrap64; omega
theorem u64_id {x : Int} (h : 0 ≤ x) (h' : x ≤ 18446744073709551615) : IntKind.u64.wrap x = x := by rw [IntKind.wrap_u64]; omega
/-- A text's bytes, as numbers. -/
def ch (s : ByteArray) : List Int := s.data.toList.map fun b => (b.toNat : Int)
theorem ch_len (s : ByteArray) : (ch s).length = s.size := by simp [ch]
theorem ch_get (s : ByteArray) (n : Nat) (h : n < s.size) : (ch s)[n]? = some (bt s n) := by
  unfold ch bt
  rw [List.getElem?_map, dif_pos (by simpa using h)]
  have : s.data.toList[n]? = some s[n] := by
    rw [List.getElem?_eq_getElem (by simpa using h)]
    rfl
  rw [this]
  rfl
theorem drop_ch (s : ByteArray) (n : Nat) (h : n < s.size) : (ch s).drop n = bt s n :: (ch s).drop (n + 1) := by
  have h' : n < (ch s).length := by rw [ch_len]; exact h
  rw [List.drop_eq_getElem_cons h']
  congr 1
  have := ch_get s n h
  rw [List.getElem?_eq_getElem h'] at this
  exact Option.some.inj this
theorem ch_inj {a b : ByteArray} (h : ch a = ch b) : a = b := by
  have h2 : a.data.toList = b.data.toList := by
    unfold ch at h
    refine List.map_inj_right (f := fun b : UInt8 => (b.toNat : Int)) ?_ |>.1 h
    intro x y hxy
    exact UInt8.toNat_inj.1 (Int.ofNat_inj.1 hxy)
  cases a; cases b
  congr 1
  exact Array.toList_inj.1 h2
theorem ch_extract (s : ByteArray) (i j : Nat) : ch (s.extract i j) = ((ch s).take j).drop i := by
  unfold ch
  rw [ByteArray.data_extract, Array.toList_extract, List.extract_eq_drop_take', List.map_drop, List.map_take]
theorem dec_lo (s : ByteArray) (n : Nat) (h : n < s.size) (hb : bt s n < 128) : ((Utf8.decode s n).1 : Int) = bt s n ∧ (Utf8.decode s n).2 = 1 := by
  have e : ((s[n]'h).toNat : Int) = bt s n := bt_at s n (by simpa using h)
  rw [decode_ascii s n h (by omega)]
  exact ⟨e, rfl⟩
theorem bt_get (s : ByteArray) (n : Nat) (h : n < s.size) : ((s.get! n).toNat : Int) = bt s n := by
  have e := bt_at s n (by simpa using h)
  rw [← e]
  have := get_at s n h
  rw [Nat.add_zero] at this
  rw [this]
  rfl
theorem dec_hi (s : ByteArray) (n : Nat) (h : n < s.size) (hb : 128 ≤ bt s n) : 128 ≤ (Utf8.decode s n).1 ∧ 1 ≤ (Utf8.decode s n).2 ∧ ∀ j, 1 ≤ j → j < (Utf8.decode s n).2 → n + j < s.size ∧ 128 ≤ bt s ((n + j : Nat) : Int) := by
  have e : ((s[n]'h).toNat : Int) = bt s n := bt_at s n (by simpa using h)
  obtain ⟨h1, h2⟩ := decode_high s n h (by omega)
  refine ⟨h1, h2, ?_⟩
  have cont : ∀ j, (decide (n + j < s.size) && (s.get! (n + j)).toNat / 64 == 2) = true → n + j < s.size ∧ 128 ≤ bt s ((n + j : Nat) : Int) := by
    intro j hj
    rw [Bool.and_eq_true, decide_eq_true_eq, beq_iff_eq] at hj
    have := bt_get s (n + j) hj.1
    exact ⟨hj.1, by omega⟩
  intro j hj1 hj2
  simp only [Utf8.decode] at hj2
  split at hj2
  · simp only at hj2; omega
  · split at hj2
    · rename_i hc
      split at hj2
      · have : j = 1 := by simp only at hj2; omega
        subst this
        exact cont 1 (by have := hc; simp only [Bool.and_eq_true] at this ⊢; exact this.2)
      · simp only at hj2; omega
    · split at hj2
      · rename_i hc
        split at hj2
        · have : j = 1 ∨ j = 2 := by simp only at hj2; omega
          rcases this with rfl | rfl
          · exact cont 1 (by have := hc; simp only [Bool.and_eq_true] at this ⊢; exact this.1.2)
          · exact cont 2 (by have := hc; simp only [Bool.and_eq_true] at this ⊢; exact this.2)
        · simp only at hj2; omega
      · split at hj2
        · rename_i hc
          split at hj2
          · have : j = 1 ∨ j = 2 ∨ j = 3 := by simp only at hj2; omega
            rcases this with rfl | rfl | rfl
            · exact cont 1 (by have := hc; simp only [Bool.and_eq_true] at this ⊢; exact this.1.1.2)
            · exact cont 2 (by have := hc; simp only [Bool.and_eq_true] at this ⊢; exact this.1.2)
            · exact cont 3 (by have := hc; simp only [Bool.and_eq_true] at this ⊢; exact this.2)
          · simp only at hj2; omega
        · simp only at hj2; omega
def smallP (c : Int) : Prop := 97 ≤ c ∧ c ≤ 122
def digitP (c : Int) : Prop := 48 ≤ c ∧ c ≤ 57
def goesP (c : Int) : Prop := smallP c ∨ digitP c ∨ c = 95
instance (c : Int) : Decidable (smallP c) := by unfold smallP; exact inferInstance
instance (c : Int) : Decidable (digitP c) := by unfold digitP; exact inferInstance
instance (c : Int) : Decidable (goesP c) := by unfold goesP; exact inferInstance
theorem sdt {p : Prop} [Decidable p] (h : p) : some true = some (decide p) := by rw [decide_eq_true h]
theorem sdf {p : Prop} [Decidable p] (h : ¬ p) : some false = some (decide p) := by rw [decide_eq_false h]
theorem small_is (c : Int) : lex_small.f c = some (decide (smallP c)) := by
  unfold lex_small.f
  by_cases h : c ≥ 97
  · rw [if_pos h]
    congr 1
    rw [decide_eq_decide]
    unfold smallP; omega
  · rw [if_neg h]
    exact sdf (by unfold smallP; omega)
theorem digit_is (c : Int) : lex_digit.f c = some (decide (digitP c)) := by
  unfold lex_digit.f
  by_cases h : c ≥ 48
  · rw [if_pos h]
    congr 1
    rw [decide_eq_decide]
    unfold digitP; omega
  · rw [if_neg h]
    exact sdf (by unfold digitP; omega)
theorem goes_is (c : Int) : lex_goes.f c = some (decide (goesP c)) := by
  unfold lex_goes.f
  rw [small_is, digit_is]
  simp only [Option.bind_some, decide_eq_true_eq]
  by_cases h : smallP c
  · rw [if_pos h]; exact sdt (.inl h)
  · rw [if_neg h]
    by_cases h2 : digitP c
    · rw [if_pos h2]; exact sdt (.inr (.inl h2))
    · rw [if_neg h2]
      congr 1
      rw [Bool.eq_iff_iff, beq_iff_eq, decide_eq_true_eq]
      unfold goesP
      exact ⟨fun e => .inr (.inr e), fun e => by rcases e with e | e | e; exact absurd e h; exact absurd e h2; exact e⟩
/-- How many bytes of a word stand ahead. -/
def lenL : List Int → Nat
  | [] => 0
  | c :: r => if goesP c then 1 + lenL r else 0
theorem goes_lt {c : Int} (h : goesP c) : 0 ≤ c ∧ c < 128 := by unfold goesP smallP digitP at h; omega
theorem len_loop (s : ByteArray) (d : Nat) : ∀ (k n : Nat), n + d = s.size → d < k → lex_length.l0 k s n = some ((n + lenL ((ch s).drop n) : Nat) : Int) := by
  induction d with
  | zero =>
    intro k n hn hk
    obtain ⟨k, rfl⟩ : ∃ m, k = m + 1 := ⟨k - 1, by omega⟩
    simp only [lex_length.l0]
    rw [if_neg (by omega), List.drop_of_length_le (by rw [ch_len]; omega), show s.size = n from by omega]
    rfl
  | succ d ih =>
    intro k n hn hk
    obtain ⟨k, rfl⟩ : ∃ m, k = m + 1 := ⟨k - 1, by omega⟩
    have hlt : n < s.size := by omega
    simp only [lex_length.l0]
    rw [if_pos hlt, goes_is, drop_ch s n hlt]
    simp only [Option.bind_some, decide_eq_true_eq, lenL]
    by_cases hb : bt s n < 128
    · obtain ⟨e1, e2⟩ := dec_lo s n hlt hb
      rw [e1, e2]
      by_cases hg : goesP (bt s n)
      · rw [if_pos hg, if_pos hg, ih k (n + 1) (by omega) (by omega), Nat.add_assoc]
      · rw [if_neg hg, if_neg hg]
        rfl
    · obtain ⟨e1, _, _⟩ := dec_hi s n hlt (by omega)
      rw [if_neg (fun h => by have := goes_lt h; omega), if_neg (fun h => by have := goes_lt h; omega)]
      rfl
theorem length_is (s : ByteArray) (k : Nat) (hk : s.size < k) : lex_length.f k s = some (lenL (ch s) : Int) := by
  have := len_loop s s.size k 0 (by omega) hk
  simpa [lex_length.f] using this
theorem lenL_le (l : List Int) : lenL l ≤ l.length := by
  induction l with
  | nil => exact Nat.le_refl _
  | cons c r ih => simp only [lenL, List.length_cons]; split <;> omega
def wsP (c : Int) : Prop := c = 32 ∨ c = 9 ∨ c = 10 ∨ c = 13
instance (c : Int) : Decidable (wsP c) := by unfold wsP; exact inferInstance
/-- How many bytes of blanks and notes stand ahead (within a note, or not). -/
def blankL : List Int → Bool → Nat
  | [], _ => 0
  | c :: r, true => 1 + blankL r (c != 10)
  | c :: r, false => if c = 35 then 1 + blankL r true else if wsP c then 1 + blankL r false else 0
/-- Bytes beyond 127 are passed over in a note. -/
theorem blank_wide (s : ByteArray) (n : Nat) (w : Nat) (h : ∀ j, j < w → n + j < s.size ∧ 128 ≤ bt s ((n + j : Nat) : Int)) : blankL ((ch s).drop n) true = w + blankL ((ch s).drop (n + w)) true := by
  induction w with
  | zero => simp
  | succ w ih =>
    rw [ih (fun j hj => h j (by omega))]
    obtain ⟨h1, h2⟩ := h w (by omega)
    rw [drop_ch s (n + w) h1]
    simp only [blankL]
    rw [bne_iff_ne.2 (show bt s ((n + w : Nat) : Int) ≠ 10 by omega), show n + (w + 1) = n + w + 1 from by omega]
    omega
theorem blank_loop (s : ByteArray) : ∀ (d k n : Nat) (nt : Bool), n ≤ s.size → s.size - n = d → d < k → lex_blank.l0 k s n nt = some ((n + blankL ((ch s).drop n) nt : Nat) : Int) := by
  intro d
  induction d using Nat.strongRecOn with
  | _ d ih =>
    intro k n nt hle hd hk
    obtain ⟨k, rfl⟩ : ∃ m, k = m + 1 := ⟨k - 1, by omega⟩
    simp only [lex_blank.l0]
    by_cases hlt : n < s.size
    · rw [if_pos hlt]
      by_cases hb : bt s n < 128
      · obtain ⟨e1, e2⟩ := dec_lo s n hlt hb
        have step : ∀ nt', lex_blank.l0 k s (n + 1) nt' = some ((n + (1 + blankL ((ch s).drop (n + 1)) nt') : Nat) : Int) := fun nt' => by
          rw [ih (s.size - (n + 1)) (by omega) k (n + 1) nt' (by omega) rfl (by omega), Nat.add_assoc]
        rw [e1, e2, drop_ch s n hlt]
        cases nt with
        | true => rw [if_pos rfl, step]; rfl
        | false =>
          rw [if_neg (by decide)]
          simp only [blankL]
          by_cases h35 : bt s n = 35
          · rw [if_pos h35, if_pos h35, step]
          · rw [if_neg h35, if_neg h35]
            by_cases hw : wsP (bt s n)
            · rw [if_pos hw]
              by_cases h1 : bt s n = 32
              · rw [if_pos h1, step]
              · rw [if_neg h1]
                by_cases h2 : bt s n = 9
                · rw [if_pos h2, step]
                · rw [if_neg h2]
                  by_cases h3 : bt s n = 10
                  · rw [if_pos h3, step]
                  · rw [if_neg h3, if_pos (by unfold wsP at hw; omega), step]
            · rw [if_neg hw]
              unfold wsP at hw
              rw [if_neg (by omega), if_neg (by omega), if_neg (by omega), if_neg (by omega)]
              rfl
      · obtain ⟨e1, e2, e3⟩ := dec_hi s n hlt (by omega)
        cases nt with
        | true =>
          have hw := blank_wide s n (Utf8.decode s n).2 (fun j hj => by
            by_cases hj0 : j = 0
            · subst hj0; exact ⟨hlt, by simpa using (show 128 ≤ bt s n by omega)⟩
            · exact e3 j (by omega) hj)
          have hle' : n + (Utf8.decode s n).2 ≤ s.size := by
            by_cases hj0 : (Utf8.decode s n).2 = 1
            · omega
            · have := (e3 ((Utf8.decode s n).2 - 1) (by omega) (by omega)).1; omega
          rw [if_pos rfl, bne_iff_ne.2 (show ((Utf8.decode s n).1 : Int) ≠ 10 by omega), hw, ih (s.size - (n + (Utf8.decode s n).2)) (by omega) k _ true hle' rfl (by omega), Nat.add_assoc]
        | false =>
          rw [if_neg (by decide), if_neg (by omega), if_neg (by omega), if_neg (by omega), if_neg (by omega), if_neg (by omega), drop_ch s n hlt]
          simp only [blankL]
          rw [if_neg (by omega), if_neg (by unfold wsP; omega)]
          rfl
    · rw [if_neg hlt, List.drop_of_length_le (by rw [ch_len]; omega), show s.size = n from by omega]
      cases nt <;> rfl
theorem blank_is (s : ByteArray) (k : Nat) (hk : s.size < k) : lex_blank.f k s = some (blankL (ch s) false : Int) := by
  have := blank_loop s s.size k 0 false (by omega) rfl hk
  simpa [lex_blank.f] using this
theorem blankL_le (l : List Int) : ∀ b, blankL l b ≤ l.length := by
  induction l with
  | nil => intro b; cases b <;> exact Nat.le_refl _
  | cons c r ih =>
    intro b
    cases b with
    | true => simp only [blankL, List.length_cons]; have := ih (c != 10); omega
    | false =>
      simp only [blankL, List.length_cons]
      have := ih true; have := ih false
      split
      · omega
      · split <;> omega
/-- A digit's worth. -/
def digV (c : Int) : Int := if digitP c then c - 48 else if 97 ≤ c ∧ c ≤ 102 then c - 87 else 99
theorem digV_in (c : Int) : 0 ≤ digV c ∧ digV c ≤ 99 := by
  unfold digV
  by_cases h : digitP c
  · rw [if_pos h]; unfold digitP at h; omega
  · rw [if_neg h]
    by_cases h2 : 97 ≤ c ∧ c ≤ 102
    · rw [if_pos h2]; omega
    · rw [if_neg h2]; omega
theorem worth_is (c : Int) (h : 0 ≤ c ∧ c ≤ 2147483647) : lex_worth.f c = some (digV c) := by
  unfold lex_worth.f digV
  rw [digit_is]
  simp only [Option.bind_some, decide_eq_true_eq]
  have w : ∀ x : Int, 0 ≤ x → x ≤ 2147483647 → wrap32 x = x := fun x h1 h2 => by unfold wrap32; omega
  by_cases hd : digitP c
  · have := hd
    unfold digitP at this
    rw [if_pos hd, if_pos hd, w _ (by omega) (by omega), u64_id (by omega) (by omega)]
  · rw [if_neg hd, if_neg hd]
    by_cases h1 : c ≥ 97
    · rw [if_pos h1]
      by_cases h2 : c ≤ 102
      · rw [if_pos h2, if_pos ⟨h1, h2⟩, w _ (by omega) (by omega), u64_id (x := c - 97) (by omega) (by omega), u64_id (by omega) (by omega)]
        congr 1
        omega
      · rw [if_neg h2, if_neg (by omega)]
    · rw [if_neg h1, if_neg (by omega)]
/-- A number's worth, digit by digit, if it may be. -/
def numG (b : Int) : List Int → Int → Option Int
  | [], n => some n
  | c :: r, n => if b ≤ digV c ∨ (18446744073709551615 - digV c) / b < n then none else numG b r (n * b + digV c)
def ansN : Option Int → Int × Bool
  | some v => (v, true)
  | none => (0, false)
theorem mul_room {b n d : Int} (hb : b = 10 ∨ b = 16) (hn : 0 ≤ n) (hd : 0 ≤ d ∧ d ≤ 99) (h : ¬ (18446744073709551615 - d) / b < n) : 0 ≤ n * b ∧ n * b + d ≤ 18446744073709551615 := by
  rcases hb with rfl | rfl <;> omega
theorem tdiv_room {b d : Int} (hb : b = 10 ∨ b = 16) (hd : 0 ≤ d ∧ d ≤ 99) : IntKind.u64.wrap (Int.tdiv (IntKind.u64.wrap (18446744073709551615 - d)) b) = (18446744073709551615 - d) / b := by
  rw [u64_id (x := 18446744073709551615 - d) (by omega) (by omega), Int.tdiv_eq_ediv_of_nonneg (by omega)]
  rcases hb with rfl | rfl <;> exact u64_id (by omega) (by omega)
theorem number_loop (s : ByteArray) (b : Int) (hb : b = 10 ∨ b = 16) (hs : ∀ x ∈ ch s, x < 128) (d : Nat) : ∀ (k p : Nat) (n : Int), p + d = s.size → d < k → 0 ≤ n ∧ n ≤ 18446744073709551615 →
    lex_number.l0 k s b p n = some (ansN (numG b ((ch s).drop p) n)) := by
  induction d with
  | zero =>
    intro k p n hp hk hn
    obtain ⟨k, rfl⟩ : ∃ m, k = m + 1 := ⟨k - 1, by omega⟩
    simp only [lex_number.l0]
    rw [if_neg (by omega), List.drop_of_length_le (by rw [ch_len]; omega)]
    rfl
  | succ d ih =>
    intro k p n hp hk hn
    obtain ⟨k, rfl⟩ : ∃ m, k = m + 1 := ⟨k - 1, by omega⟩
    have hlt : p < s.size := by omega
    have hc : bt s p < 128 := hs _ (List.mem_of_mem_drop (by rw [drop_ch s p hlt]; simp))
    have hc0 := (bt_range s p).1
    obtain ⟨e1, e2⟩ := dec_lo s p hlt hc
    have hv := digV_in (bt s p)
    simp only [lex_number.l0]
    rw [if_pos hlt, e1, e2, worth_is _ (by omega), drop_ch s p hlt]
    simp only [Option.bind_some, numG]
    rw [tdiv_room hb hv]
    by_cases h1 : b ≤ digV (bt s p)
    · rw [if_pos h1, if_pos (.inl h1)]
      rfl
    · rw [if_neg h1]
      by_cases h2 : (18446744073709551615 - digV (bt s p)) / b < n
      · rw [if_pos h2, if_pos (.inr h2)]
        rfl
      · have hr := mul_room hb hn.1 hv h2
        rw [if_neg h2, if_neg (by intro h; rcases h with h | h; exact h1 h; exact h2 h), u64_id (x := n * b) (by omega) (by omega), u64_id (by omega) (by omega)]
        exact ih k (p + 1) _ (by omega) (by omega) (by omega)
end Go.Proofs.Ytfahchgglapglaa.Pure
