/- Layer 11 (show), plain: words (out of K09). -/
import Derived.Test.YtmmgcbafdmkhbaaP1Mx0
import Derived.Test.YtmmgcbafdmkhbaaP1Mx3
import Derived.Test.YtmmgcbafdmkhbaaP1Aid
namespace Go.Proofs.Ytmmgcbafdmkhbaa.Pure
open Go Go.RowKit Go.Proofs.Ytmmgcbafdmkhbaa.M Go.Proofs.Ytmmgcbafdmkhbaa.Aid Go.Proofs.YtmmgcbafdmkhbaaW.PrintWords Go.Proofs.YtmmgcbafdmkhbaaW.PrintLast Go.Proofs.YtmmgcbafdmkhbaaW.PrintMore
set_option linter.unusedVariables false
set_option linter.unusedSimpArgs false
-- NEEDS lex_Is.f lex_goes.f lex_length.f lex_small.f lex_digit.f
/-- A text's bytes, as numbers. -/
def ch (s : ByteArray) : List Int := s.data.toList.map fun b => (b.toNat : Int)
theorem ch_len (s : ByteArray) : (ch s).length = s.size := by simp [ch]
theorem ch_get (s : ByteArray) (n : Nat) (h : n < s.size) : (ch s)[n]? = some (bt s n) := by
  unfold ch bt
  rw [List.getElem?_map, dif_pos (by simpa using h)]
  have : s.data.toList[n]? = some s[n] := by
    rw [List.getElem?_eq_getElem (by simpa using h)]
    rfl
  rw [this]
  rfl
theorem drop_ch (s : ByteArray) (n : Nat) (h : n < s.size) : (ch s).drop n = bt s n :: (ch s).drop (n + 1) := by
  have h' : n < (ch s).length := by rw [ch_len]; exact h
  rw [List.drop_eq_getElem_cons h']
  congr 1
  have := ch_get s n h
  rw [List.getElem?_eq_getElem h'] at this
  exact Option.some.inj this
theorem dec_lo (s : ByteArray) (n : Nat) (h : n < s.size) (hb : bt s n < 128) : ((Utf8.decode s n).1 : Int) = bt s n ∧ (Utf8.decode s n).2 = 1 := by
  have e : ((s[n]'h).toNat : Int) = bt s n := bt_at s n (by simpa using h)
  rw [decode_ascii s n h (by omega)]
  exact ⟨e, rfl⟩
theorem bt_get (s : ByteArray) (n : Nat) (h : n < s.size) : ((s.get! n).toNat : Int) = bt s n := by
  have e := bt_at s n (by simpa using h)
  rw [← e]
  have := get_at s n h
  rw [Nat.add_zero] at this
  rw [this]
  rfl
theorem dec_hi (s : ByteArray) (n : Nat) (h : n < s.size) (hb : 128 ≤ bt s n) : 128 ≤ (Utf8.decode s n).1 ∧ 1 ≤ (Utf8.decode s n).2 ∧ ∀ j, 1 ≤ j → j < (Utf8.decode s n).2 → n + j < s.size ∧ 128 ≤ bt s ((n + j : Nat) : Int) := by
  have e : ((s[n]'h).toNat : Int) = bt s n := bt_at s n (by simpa using h)
  obtain ⟨h1, h2⟩ := decode_high s n h (by omega)
  refine ⟨h1, h2, ?_⟩
  have cont : ∀ j, (decide (n + j < s.size) && (s.get! (n + j)).toNat / 64 == 2) = true → n + j < s.size ∧ 128 ≤ bt s ((n + j : Nat) : Int) := by
    intro j hj
    rw [Bool.and_eq_true, decide_eq_true_eq, beq_iff_eq] at hj
    have := bt_get s (n + j) hj.1
    exact ⟨hj.1, by omega⟩
  intro j hj1 hj2
  simp only [Utf8.decode] at hj2
  split at hj2
  · simp only at hj2; omega
  · split at hj2
    · rename_i hc
      split at hj2
      · have : j = 1 := by simp only at hj2; omega
        subst this
        exact cont 1 (by have := hc; simp only [Bool.and_eq_true] at this ⊢; exact this.2)
      · simp only at hj2; omega
    · split at hj2
      · rename_i hc
        split at hj2
        · have : j = 1 ∨ j = 2 := by simp only at hj2; omega
          rcases this with rfl | rfl
          · exact cont 1 (by have := hc; simp only [Bool.and_eq_true] at this ⊢; exact this.1.2)
          · exact cont 2 (by have := hc; simp only [Bool.and_eq_true] at this ⊢; exact this.2)
        · simp only at hj2; omega
      · split at hj2
        · rename_i hc
          split at hj2
          · have : j = 1 ∨ j = 2 ∨ j = 3 := by simp only at hj2; omega
            rcases this with rfl | rfl | rfl
            · exact cont 1 (by have := hc; simp only [Bool.and_eq_true] at this ⊢; exact this.1.1.2)
            · exact cont 2 (by have := hc; simp only [Bool.and_eq_true] at this ⊢; exact this.1.2)
            · exact cont 3 (by have := hc; simp only [Bool.and_eq_true] at this ⊢; exact this.2)
          · simp only at hj2; omega
        · simp only at hj2; omega
def smallP (c : Int) : Prop := 97 ≤ c ∧ c ≤ 122
def digitP (c : Int) : Prop := 48 ≤ c ∧ c ≤ 57
def goesP (c : Int) : Prop := smallP c ∨ digitP c ∨ c = 95
instance (c : Int) : Decidable (smallP c) := by unfold smallP; exact inferInstance
instance (c : Int) : Decidable (digitP c) := by unfold digitP; exact inferInstance
instance (c : Int) : Decidable (goesP c) := by unfold goesP; exact inferInstance
theorem sdt {p : Prop} [Decidable p] (h : p) : some true = some (decide p) := by rw [decide_eq_true h]
theorem sdf {p : Prop} [Decidable p] (h : ¬ p) : some false = some (decide p) := by rw [decide_eq_false h]
theorem small_is (c : Int) : lex_small.f c = some (decide (smallP c)) := by
  unfold lex_small.f
  by_cases h : c ≥ 97
  · rw [if_pos h]
    congr 1
    rw [decide_eq_decide]
    unfold smallP; omega
  · rw [if_neg h]
    exact sdf (by unfold smallP; omega)
theorem digit_is (c : Int) : lex_digit.f c = some (decide (digitP c)) := by
  unfold lex_digit.f
  by_cases h : c ≥ 48
  · rw [if_pos h]
    congr 1
    rw [decide_eq_decide]
    unfold digitP; omega
  · rw [if_neg h]
    exact sdf (by unfold digitP; omega)
theorem goes_is (c : Int) : lex_goes.f c = some (decide (goesP c)) := by
  unfold lex_goes.f
  rw [small_is, digit_is]
  simp only [Option.bind_some, decide_eq_true_eq]
  by_cases h : smallP c
  · rw [if_pos h]; exact sdt (.inl h)
  · rw [if_neg h]
    by_cases h2 : digitP c
    · rw [if_pos h2]; exact sdt (.inr (.inl h2))
    · rw [if_neg h2]
      congr 1
      rw [Bool.eq_iff_iff, beq_iff_eq, decide_eq_true_eq]
      unfold goesP
      exact ⟨fun e => .inr (.inr e), fun e => by rcases e with e | e | e; exact absurd e h; exact absurd e h2; exact e⟩
/-- How many bytes of a word stand ahead. -/
def lenL : List Int → Nat
  | [] => 0
  | c :: r => if goesP c then 1 + lenL r else 0
theorem goes_lt {c : Int} (h : goesP c) : 0 ≤ c ∧ c < 128 := by unfold goesP smallP digitP at h; omega
theorem len_loop (s : ByteArray) (d : Nat) : ∀ (k n : Nat), n + d = s.size → d < k → lex_length.l0 k s n = some ((n + lenL ((ch s).drop n) : Nat) : Int) := by
  induction d with
  | zero =>
    intro k n hn hk
    obtain ⟨k, rfl⟩ : ∃ m, k = m + 1 := ⟨k - 1, by omega⟩
    simp only [lex_length.l0]
    rw [if_neg (by omega), List.drop_of_length_le (by rw [ch_len]; omega), show s.size = n from by omega]
    rfl
  | succ d ih =>
    intro k n hn hk
    obtain ⟨k, rfl⟩ : ∃ m, k = m + 1 := ⟨k - 1, by omega⟩
    have hlt : n < s.size := by omega
    simp only [lex_length.l0]
    rw [if_pos hlt, goes_is, drop_ch s n hlt]
    simp only [Option.bind_some, decide_eq_true_eq, lenL]
    by_cases hb : bt s n < 128
    · obtain ⟨e1, e2⟩ := dec_lo s n hlt hb
      rw [e1, e2]
      by_cases hg : goesP (bt s n)
      · rw [if_pos hg, if_pos hg, ih k (n + 1) (by omega) (by omega), Nat.add_assoc]
      · rw [if_neg hg, if_neg hg]
        rfl
    · obtain ⟨e1, _, _⟩ := dec_hi s n hlt (by omega)
      rw [if_neg (fun h => by have := goes_lt h; omega), if_neg (fun h => by have := goes_lt h; omega)]
      rfl
theorem length_is (s : ByteArray) (k : Nat) (hk : s.size < k) : lex_length.f k s = some (lenL (ch s) : Int) := by
  have := len_loop s s.size k 0 (by omega) hk
  simpa [lex_length.f] using this
theorem lenL_goes (l : List Int) : ∀ x ∈ l.take (lenL l), goesP x := by
  induction l with
  | nil => intro x hx; simp at hx
  | cons c r ih =>
    intro x hx
    simp only [lenL] at hx
    by_cases h : goesP c
    · rw [if_pos h, Nat.add_comm, List.take_succ_cons] at hx
      rcases List.mem_cons.1 hx with rfl | hx
      · exact h
      · exact ih x hx
    · rw [if_neg h] at hx
      simp at hx
/-- Is a text a word? -/
def ISW (s : ByteArray) : Bool := decide (0 < s.size ∧ smallP (bt s 0) ∧ lenL (ch s) = s.size)
theorem nil_size (s : ByteArray) : s.toList = ([] : List UInt8) ↔ s.size = 0 := by
  rw [ByteArray.toList_eq, Array.toList_eq_nil_iff]
  constructor
  · intro h
    show s.data.size = 0
    rw [h]
    rfl
  · intro h
    exact Array.eq_empty_of_size_eq_zero h
theorem is_is (s : ByteArray) (k : Nat) (hk : s.size < k) : lex_Is.f k s = some (ISW s) := by
  unfold lex_Is.f ISW
  have hb := bt_range s 0
  by_cases h0 : s.size = 0
  · rw [if_pos ((nil_size s).2 h0), decide_eq_false (by omega)]
  · rw [if_neg (fun e => h0 ((nil_size s).1 e)), if_pos (by omega), show wrap32 (bt s 0) = bt s 0 from by unfold wrap32; omega, small_is, Option.bind_some]
    by_cases h1 : smallP (bt s 0)
    · rw [if_pos (decide_eq_true h1), length_is s k hk, Option.bind_some]
      congr 1
      rw [Bool.eq_iff_iff, beq_iff_eq, decide_eq_true_eq]
      exact ⟨fun e => ⟨by omega, h1, by omega⟩, fun e => by omega⟩
    · rw [if_neg (fun e => h1 (of_decide_eq_true e)), decide_eq_false (fun e => h1 e.2.1)]
end Go.Proofs.Ytmmgcbafdmkhbaa.Pure
