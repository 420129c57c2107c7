/- Layer 3 (insn), plain: what the printed functions come to. -/
import Derived.Test.YtfkhhmnkmddjhaaMx2
import Derived.Test.YtfkhhmnkmddjhaaMx3
import Derived.Test.YtfkhhmnkmddjhaaMx4
import Derived.Test.YtfkhhmnkmddjhaaAid
namespace Go.Proofs.Ytfkhhmnkmddjhaa.Pure
open Go Go.RowKit Go.Proofs.Ytfkhhmnkmddjhaa.M Go.Proofs.Ytfkhhmnkmddjhaa.Aid Go.Proofs.YtfkhhmnkmddjhaaW.PrintWords Go.Proofs.YtfkhhmnkmddjhaaW.PrintLast Go.Proofs.YtfkhhmnkmddjhaaW.PrintMore
set_option linter.unusedVariables false
set_option linter.unusedSimpArgs false

-- NEEDS insn_Encode.f insn_Decode.f fairleadref03_Decode.f fairleadref03_Encode.f fairleadlaw03_awake.f

theorem awake03 : fairleadlaw03_awake.f = some true := by
  simp only [fairleadlaw03_awake.f, insn_Encode.f, Option.bind_some, str_toList]
  decide
theorem wrap64_id {n : Int} (h0 : -9223372036854775808 ≤ n) (h1 : n ≤ 9223372036854775807) : wrap64 n = n := by
  unfold wrap64
  omega
theorem tmod_id {n m : Int} (h0 : 0 ≤ n) : Int.tmod n m = n % m := Int.tmod_eq_emod_of_nonneg h0
theorem tdiv_id {n m : Int} (h0 : 0 ≤ n) : Int.tdiv n m = n / m := Int.tdiv_eq_ediv_of_nonneg h0
theorem encode_bytes {a b c d : Int} (ha : 0 ≤ a ∧ a ≤ 65535) (hb : 0 ≤ b ∧ b ≤ 255) (hc : 0 ≤ c ∧ c ≤ 255) (hd : 0 ≤ d ∧ d ≤ 4294967295) :
    ∀ x ∈ [a % 256, a / 256 % 256, b, c, d % 256, d / 256 % 256, d / 65536 % 256, d / 16777216 % 256], 0 ≤ x ∧ x < 256 := by
  intro x hx
  simp only [List.mem_cons, List.not_mem_nil, or_false] at hx
  rcases hx with rfl | rfl | rfl | rfl | rfl | rfl | rfl | rfl <;> omega
theorem ref_encode {a b c d : Int} (ha : 0 ≤ a ∧ a ≤ 65535) (hd : 0 ≤ d ∧ d ≤ 4294967295) : fairleadref03_Encode.f a b c d = insn_Encode.f a b c d := by
  unfold fairleadref03_Encode.f insn_Encode.f
  rw [tmod_id ha.1, tmod_id hd.1, tdiv_id ha.1, tdiv_id hd.1, tdiv_id hd.1, tdiv_id hd.1, IntKind.wrap_u16]
  congr 1
  simp only [List.cons.injEq, and_true, true_and]
  omega
theorem shl_u32_8 {x : Int} (n : Int) (j : Nat) (hn : n = j) (hj : j ≤ 32) : shl .u32 x n = x * 2 ^ j % 4294967296 := by
  subst hn
  unfold shl
  rw [IntKind.wrap_u32]
  simp only [Int.toNat_natCast, IntKind.bits]
  rw [Nat.min_eq_left hj]
/-- The instruction of eight bytes. -/
def dec8 (l : List Int) : Int × Int × Int × Int × Int :=
  (rd l 0 + 256 * rd l 1, rd l 2, rd l 3, rd l 4 + 256 * rd l 5 + 65536 * rd l 6 + 16777216 * rd l 7, 0)
theorem rd_in {l : List Int} (h : ∀ x ∈ l, 0 ≤ x ∧ x ≤ 255) (i : Int) : 0 ≤ rd l i ∧ rd l i ≤ 255 := by
  unfold rd
  rw [List.getD_eq_getElem?_getD]
  by_cases hi : i.toNat < l.length
  · rw [List.getElem?_eq_getElem hi]
    exact h _ (List.getElem_mem hi)
  · rw [List.getElem?_eq_none (by omega)]
    decide
theorem ref_decode8 {l : List Int} (h : ∀ x ∈ l, 0 ≤ x ∧ x ≤ 255) (hl : l.length = 8) : fairleadref03_Decode.f l = some (dec8 l) := by
  have b := rd_in h
  have := b 0; have := b 1; have := b 4; have := b 5; have := b 6; have := b 7
  unfold fairleadref03_Decode.f
  rw [if_neg (by omega), if_neg (by omega), if_pos (by omega), if_pos (by omega), if_pos (by omega), if_pos (by omega), if_pos (by omega), if_pos (by omega), if_pos (by omega), if_pos (by omega)]
  simp only [IntKind.wrap_u16, dec8, Option.some.injEq, Prod.mk.injEq, and_true, true_and]
  omega
theorem or_u32 {x y : Int} {m : Nat} (hm : m = 8 ∨ m = 16 ∨ m = 24) (hx : 0 ≤ x ∧ x < 2 ^ m) (hy : 0 ≤ y ∧ y ≤ 255) : Go.bits .or .u32 x (y % 4294967296 * 2 ^ m % 4294967296) = x + y * 2 ^ m := by
  rcases hm with rfl | rfl | rfl
  · rw [u32_or8 _ _ hx.1 (by omega) (by omega) (by omega) (by omega)]; omega
  · rw [u32_or16 _ _ hx.1 (by omega) (by omega) (by omega) (by omega)]; omega
  · rw [u32_or24 _ _ hx.1 (by omega) (by omega) (by omega) (by omega)]; omega
theorem or_zero {x : Int} (hx : 0 ≤ x ∧ x ≤ 255) : Go.bits .or .u32 0 (x % 4294967296 * 2 ^ 0 % 4294967296) = x := by
  have e : x % 4294967296 * 2 ^ 0 % 4294967296 = x := by omega
  rw [e, Go.u32_or 0 x (by decide) (by decide) hx.1 (by omega)]
  simp
  omega
theorem decode8 {l : List Int} (h : ∀ x ∈ l, 0 ≤ x ∧ x ≤ 255) (hl : l.length = 8) (k : Nat) (hk : 5 ≤ k) : insn_Decode.f k l = some (dec8 l) := by
  obtain ⟨k, rfl⟩ : ∃ m, k = m + 5 := ⟨k - 5, by omega⟩
  have b := rd_in h
  unfold insn_Decode.f
  rw [if_neg (by omega), if_neg (by omega), if_pos (by omega), if_pos (by omega), if_pos (by omega), if_pos (by omega)]
  have w : ∀ n : Int, 0 ≤ n → n ≤ 100 → wrap64 n = n := fun n h0 h1 => wrap64_id (by omega) (by omega)
  simp only [insn_Decode.l0]
  simp only [Int.reduceMul, Int.reduceAdd, w 0 (by decide) (by decide), w 1 (by decide) (by decide), w 2 (by decide) (by decide), w 3 (by decide) (by decide), w 4 (by decide) (by decide), w 5 (by decide) (by decide), w 6 (by decide) (by decide), w 7 (by decide) (by decide), w 8 (by decide) (by decide), w 16 (by decide) (by decide), w 24 (by decide) (by decide), hl, Int.reduceLT, Int.reduceLE, if_true, if_false, Int.cast_ofNat_Int]
  rw [shl_u32_8 0 0 rfl (by decide), shl_u32_8 8 8 rfl (by decide), shl_u32_8 16 16 rfl (by decide), shl_u32_8 24 24 rfl (by decide)]
  have h0 := b 0; have h1 := b 1; have h4 := b 4; have h5 := b 5; have h6 := b 6; have h7 := b 7
  rw [or_zero h4, or_u32 (.inl rfl) (by omega) h5, or_u32 (.inr (.inl rfl)) (by omega) h6, or_u32 (.inr (.inr rfl)) (by omega) h7, IntKind.wrap_u16, IntKind.wrap_u16, IntKind.wrap_u16, u16_or8 _ _ (by omega) (by omega) (by omega) (by omega) (by omega)]
  simp only [dec8, Option.some.injEq, Prod.mk.injEq, and_true, true_and]
  omega
theorem decode_short {l : List Int} (hl : l.length < 8) (k : Nat) : insn_Decode.f k l = some (0, 0, 0, 0, 2) ∧ fairleadref03_Decode.f l = some (0, 0, 0, 0, 2) := by
  constructor
  · unfold insn_Decode.f; rw [if_pos (by omega)]
  · unfold fairleadref03_Decode.f; rw [if_pos (by omega)]
theorem decode_long {l : List Int} (hl : 8 < l.length) (k : Nat) : insn_Decode.f k l = some (0, 0, 0, 0, 3) ∧ fairleadref03_Decode.f l = some (0, 0, 0, 0, 3) := by
  constructor
  · unfold insn_Decode.f; rw [if_neg (by omega), if_pos (by omega)]
  · unfold fairleadref03_Decode.f; rw [if_neg (by omega), if_pos (by omega)]
theorem decode_same {l : List Int} (h : ∀ x ∈ l, 0 ≤ x ∧ x ≤ 255) (k : Nat) (hk : 5 ≤ k) : ∃ r, insn_Decode.f k l = some r ∧ fairleadref03_Decode.f l = some r := by
  rcases Nat.lt_trichotomy l.length 8 with hl | hl | hl
  · exact ⟨_, decode_short hl k⟩
  · exact ⟨_, decode8 h hl k hk, ref_decode8 h hl⟩
  · exact ⟨_, decode_long hl k⟩
end Go.Proofs.Ytfkhhmnkmddjhaa.Pure
