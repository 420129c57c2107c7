/- Plain lemmas on bytes, texts and numbers that this seat's proofs share. -/
import Derived.Test.YtfahchgglapglaaWWords
import Derived.PlainAid
import Derived.Lib.EndianBits
import Derived.Laws.BitsAllLaws
set_option linter.unusedVariables false
set_option linter.unusedSimpArgs false
namespace Go.Proofs.Ytfahchgglapglaa.Aid
open Go Go.RowKit Go.Proofs.YtfahchgglapglaaW.PrintWords

theorem str_toList (xs : List Int) : (strOfNums xs).toList = xs.map fun n => UInt8.ofNat n.toNat := by
  rw [ByteArray.toList_eq]
  simp [strOfNums]
theorem byte_inj {a b : Int} (ha : 0 ≤ a ∧ a < 256) (hb : 0 ≤ b ∧ b < 256) (h : UInt8.ofNat a.toNat = UInt8.ofNat b.toNat) : a = b := by
  have h2 := congrArg UInt8.toNat h
  simp only [UInt8.toNat_ofNat'] at h2
  omega
theorem bytes_inj : ∀ {a b : List Int}, (∀ x ∈ a, 0 ≤ x ∧ x < 256) → (∀ x ∈ b, 0 ≤ x ∧ x < 256) → (a.map fun n => UInt8.ofNat n.toNat) = (b.map fun n => UInt8.ofNat n.toNat) → a = b
  | [], [], _, _, _ => rfl
  | [], _ :: _, _, _, h => by simp at h
  | _ :: _, [], _, _, h => by simp at h
  | x :: a, y :: b, ha, hb, h => by
    simp only [List.map_cons, List.cons.injEq] at h
    rw [byte_inj (ha x (by simp)) (hb y (by simp)) h.1, bytes_inj (fun z hz => ha z (by simp [hz])) (fun z hz => hb z (by simp [hz])) h.2]
theorem str_beq {a b : List Int} (ha : ∀ x ∈ a, 0 ≤ x ∧ x < 256) (hb : ∀ x ∈ b, 0 ≤ x ∧ x < 256) : ((strOfNums a).toList == (strOfNums b).toList) = decide (a = b) := by
  rw [str_toList, str_toList]
  by_cases h : a = b
  · subst h; simp
  · rw [decide_eq_false h, beq_eq_false_iff_ne]
    exact fun h2 => h (bytes_inj ha hb h2)
theorem str_beq_self (a : List Int) : ((strOfNums a).toList == (strOfNums a).toList) = true := by simp
end Go.Proofs.Ytfahchgglapglaa.Aid
