/- Layer 2 (pack), plain: what is laid. -/
import Derived.Test.YtadglbmghldnfaaDMx0
import Derived.Test.YtadglbmghldnfaaDMx6
import Derived.Test.YtadglbmghldnfaaDAid
namespace Go.Proofs.Ytadglbmghldnfaa.Pure
open Go Go.RowKit Go.Proofs.Ytadglbmghldnfaa.M Go.Proofs.Ytadglbmghldnfaa.Aid Go.Proofs.YtadglbmghldnfaaW.PrintWords Go.Proofs.YtadglbmghldnfaaW.PrintLast Go.Proofs.YtadglbmghldnfaaW.PrintMore
set_option linter.unusedVariables false
set_option linter.unusedSimpArgs false
-- NEEDS pack_num pack_text pack_bytes
theorem pack_bytes_256 (n : Int) (m : Nat) : pack_bytes n (m + 1) = (n / 256 ^ m) % 256 :: pack_bytes n m := by
  rw [pack_bytes, show (8 * (m : Int)).toNat = 8 * m by omega, Int.pow_mul, show (2 : Int) ^ 8 = 256 by decide]
  simp [IntKind.wrap, IntKind.bits, IntKind.signed]
/-- A number's bytes, or why there are none. -/
def LAYN (n size : Int) : List Int × Int := if size < 1 ∨ 8 < size then ([], 1) else if n / 256 ^ size.toNat = 0 then (pack_bytes n size.toNat, 0) else ([], 1)
theorem pack_num_is (L : List Int) (e n size : Int) (hn : 0 ≤ n ∧ n ≤ 18446744073709551615) : pack_num (L, e) n size = if (LAYN n size).2 = 0 then (L ++ (LAYN n size).1, e) else (L, if e = 0 then (LAYN n size).2 else e) := by
  unfold pack_num LAYN
  by_cases h1 : size < 1 ∨ 8 < size
  · rw [if_pos (by omega), if_pos h1]
    rfl
  · have hp : (2 : Int) ^ (8 * size).toNat = 256 ^ size.toNat := by rw [show (8 * size).toNat = 8 * size.toNat by omega, Int.pow_mul]; rfl
    rw [if_neg h1, hp]
    by_cases h2 : n / 256 ^ size.toNat = 0
    · rw [if_neg (by omega), if_pos h2]
      rfl
    · have h3 : size < 8 := by
        refine Decidable.byContradiction fun h3 => h2 ?_
        rw [show size = 8 by omega]
        exact Int.ediv_eq_zero_of_lt hn.1 (by have : (256 : Int) ^ (8 : Int).toNat = 18446744073709551616 := by decide
                                              omega)
      rw [if_pos (.inr (.inr ⟨h3, h2⟩)), if_neg h2]
      rfl
/-- A text's bytes, or why there are none. -/
def LAYT (t : ByteArray) : List Int × Int := if (t.size : Int) > 65535 then ([], 4) else (pack_bytes t.size 2 ++ bytesOf t, 0)
theorem u64_id2 {x : Int} (h0 : 0 ≤ x) (h1 : x ≤ 18446744073709551615) : IntKind.u64.wrap x = x := by
  simp only [IntKind.wrap, IntKind.bits, IntKind.signed]; simp; omega
theorem lay2 {n : Int} (h0 : 0 ≤ n) (h1 : n ≤ 65535) : LAYN n 2 = (pack_bytes n 2, 0) := by
  unfold LAYN
  rw [if_neg (by omega), if_pos]
  · rfl
  · exact Int.ediv_eq_zero_of_lt h0 (by have : (256 : Int) ^ (2 : Int).toNat = 65536 := by decide
                                        omega)
theorem pack_text_is (L : List Int) (e : Int) (t : ByteArray) : (pack_text (L, e) t).2 = (if (LAYT t).2 = 0 then e else if e = 0 then (LAYT t).2 else e) ∧ (pack_text (L, e) t).1 = L ++ (LAYT t).1 := by
  unfold pack_text LAYT
  by_cases h : (t.size : Int) > 65535
  · rw [if_pos h, if_pos h]
    simp
  · rw [if_neg h, if_neg h, u64_id2 (by omega) (by omega), pack_num_is _ _ _ _ (by omega), lay2 (by omega) (by omega)]
    simp
end Go.Proofs.Ytadglbmghldnfaa.Pure
