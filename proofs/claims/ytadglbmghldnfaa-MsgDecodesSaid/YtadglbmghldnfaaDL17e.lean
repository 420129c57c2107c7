/- Layer 17 (msg), plain: the document's word which messages may be, and their bytes. -/
import Derived.Test.YtadglbmghldnfaaDMx0
import Derived.Test.YtadglbmghldnfaaDMx4
import Derived.Test.YtadglbmghldnfaaDMx5
import Derived.Test.YtadglbmghldnfaaDMx6
import Derived.Test.YtadglbmghldnfaaDMx7
import Derived.Test.YtadglbmghldnfaaDMx8
import Derived.Test.YtadglbmghldnfaaDMx10
import Derived.Test.YtadglbmghldnfaaDMx11
import Derived.Test.YtadglbmghldnfaaDMx12
import Derived.Test.YtadglbmghldnfaaDAid
import Derived.Test.YtadglbmghldnfaaDL00
import Derived.Test.YtadglbmghldnfaaDL04a
import Derived.Test.YtadglbmghldnfaaDL04n
import Derived.Test.YtadglbmghldnfaaDL02n
import Derived.Test.YtadglbmghldnfaaDL02r
import Derived.Test.YtadglbmghldnfaaDL17
namespace Go.Proofs.Ytadglbmghldnfaa.Pure
open Go Go.RowKit Go.Proofs.Ytadglbmghldnfaa.M Go.Proofs.Ytadglbmghldnfaa.Aid Go.Proofs.YtadglbmghldnfaaW.PrintWords Go.Proofs.YtadglbmghldnfaaW.PrintLast Go.Proofs.YtadglbmghldnfaaW.PrintMore
set_option linter.unusedVariables false
set_option linter.unusedSimpArgs false
-- NEEDS fairleadlaw17_awake.f msg_Right.f msg_bears.f msg_Encode.f msg_Decode.f fairleadref17_Right.f fairleadref17_Encode.f data_Bytes.f data_Of.f pack_Reader_Num.f pack_num
-- IMPORT L00
-- IMPORT L04a
-- IMPORT L04n
-- IMPORT L04r
-- IMPORT L02n
-- IMPORT L02f
-- IMPORT L02r
-- IMPORT L17
theorem nil_list17 (s : ByteArray) : (⟨#[]⟩ : ByteArray).toList = s.toList ↔ s.size = 0 := by
  rw [show (⟨#[]⟩ : ByteArray).toList = ([] : List UInt8) from (nil_size17 _).2 rfl]
  exact ⟨fun h => (nil_size17 s).1 h.symm, fun h => ((nil_size17 s).2 h).symm⟩
def SAME (n m : MS) : Prop := n.kd = m.kd ∧ n.ep = m.ep ∧ n.id = m.id ∧ n.ts = m.ts ∧ (n.d0 = m.d0 ∧ n.d1 = m.d1 ∧ n.d2 = m.d2 ∧ n.d3 = m.d3 ∧ n.d4 = m.d4 ∧ n.d5 = m.d5 ∧ n.d6 = m.d6 ∧ n.d7 = m.d7 ∧ n.d8 = m.d8) ∧ n.pa.toList = m.pa.toList
theorem rr3 (n m : MS) (x : Bool) (k : Nat) : ∃ b, fairleadref17_Right.j3 (k + 1) x m.kd m.ep m.id m.ts m.vl m.d0 m.d1 m.d2 m.d3 m.d4 m.d5 m.d6 m.d7 m.d8 m.pa n.kd n.ep n.id n.ts n.vl n.d0 n.d1 n.d2 n.d3 n.d4 n.d5 n.d6 n.d7 n.d8 n.pa = some b ∧
    (b = true ↔ (x = true → 0 ≤ m.vl ∧ m.vl ≤ 65535 ∧ (m.kd = 7 → m.vl ≤ 1)) ∧ (x = false → n.vl = m.vl) ∧ SAME n m) := by
  simp only [fairleadref17_Right.j3]
  have no : ¬ ((x = true → 0 ≤ m.vl ∧ m.vl ≤ 65535 ∧ (m.kd = 7 → m.vl ≤ 1)) ∧ (x = false → n.vl = m.vl) ∧ SAME n m) → ∃ b, some false = some b ∧ (b = true ↔ (x = true → 0 ≤ m.vl ∧ m.vl ≤ 65535 ∧ (m.kd = 7 → m.vl ≤ 1)) ∧ (x = false → n.vl = m.vl) ∧ SAME n m) := fun h => ⟨false, rfl, ⟨fun h2 => (by cases h2), fun h2 => absurd h2 h⟩⟩
  by_cases hx : x = true
  · rw [if_pos hx]
    by_cases h1 : m.vl < 0
    · rw [if_pos h1]; exact no (fun h => by have := (h.1 hx).1; omega)
    · rw [if_neg h1]
      by_cases h2 : m.vl > 65535
      · rw [if_pos h2]; exact no (fun h => by have := (h.1 hx).2.1; omega)
      · rw [if_neg h2]
        have yes : (m.kd = 7 → m.vl ≤ 1) → ∀ b : Bool, (b = true ↔ SAME n m) → ∃ b', some b = some b' ∧ (b' = true ↔ (x = true → 0 ≤ m.vl ∧ m.vl ≤ 65535 ∧ (m.kd = 7 → m.vl ≤ 1)) ∧ (x = false → n.vl = m.vl) ∧ SAME n m) := fun h7 b hb => ⟨b, rfl, ⟨fun h => ⟨fun _ => ⟨by omega, by omega, h7⟩, fun h' => (by rw [hx] at h'; cases h'), hb.1 h⟩, fun h => hb.2 h.2.2⟩⟩
        by_cases h3 : m.kd = 7
        · rw [if_pos h3]
          by_cases h4 : m.vl > 1
          · rw [if_pos h4]; exact no (fun h => by have := (h.1 hx).2.2 h3; omega)
          · rw [if_neg h4]
            exact yes (fun _ => by omega) _ (by simp only [Bool.and_eq_true, beq_iff_eq, SAME])
        · rw [if_neg h3]
          exact yes (fun h => absurd h h3) _ (by simp only [Bool.and_eq_true, beq_iff_eq, SAME])
  · rw [if_neg hx]
    have hx' : x = false := by simpa using hx
    refine ⟨_, rfl, ?_⟩
    simp only [Bool.and_eq_true, beq_iff_eq, SAME, hx', Bool.false_eq_true, false_implies, true_and, forall_const]
    constructor
    · rintro ⟨a, b, c, d, e, f⟩; exact ⟨e, a, b, c, d, f⟩
    · rintro ⟨e, a, b, c, d, f⟩; exact ⟨a, b, c, d, e, f⟩
theorem rr2 (n m : MS) (k : Nat) : ∃ b, fairleadref17_Right.j2 (k + 2) m.kd m.ep m.id m.ts m.vl m.d0 m.d1 m.d2 m.d3 m.d4 m.d5 m.d6 m.d7 m.d8 m.pa n.kd n.ep n.id n.ts n.vl n.d0 n.d1 n.d2 n.d3 n.d4 n.d5 n.d6 n.d7 n.d8 n.pa = some b ∧
    (b = true ↔ ((m.kd = 4 ∨ m.kd = 5 ∨ m.kd = 7) → 0 ≤ m.vl ∧ m.vl ≤ 65535 ∧ (m.kd = 7 → m.vl ≤ 1)) ∧ (¬ (m.kd = 4 ∨ m.kd = 5 ∨ m.kd = 7) → n.vl = m.vl) ∧ SAME n m) := by
  rw [fairleadref17_Right.j2]
  by_cases h4 : m.kd = 4
  · rw [if_pos h4]
    obtain ⟨b, h, hb⟩ := rr3 n m true k
    refine ⟨b, h, hb.trans ?_⟩
    simp [h4]
  · rw [if_neg h4]
    by_cases h5 : m.kd = 5
    · rw [if_pos h5]
      obtain ⟨b, h, hb⟩ := rr3 n m true k
      refine ⟨b, h, hb.trans ?_⟩
      simp [h5]
    · rw [if_neg h5]
      obtain ⟨b, h, hb⟩ := rr3 n m (m.kd == 7) k
      refine ⟨b, h, hb.trans ?_⟩
      by_cases h7 : m.kd = 7
      · simp [h7]
      · simp [h4, h5, h7]
theorem rr1 (n m : MS) (hn : n.vl = 0) (hp : n.ts = 0 ∧ n.pa = ⟨#[]⟩ ∧ D0 n) (k : Nat) : ∃ b, fairleadref17_Right.j1 (k + 3) m.kd m.ep m.id m.ts m.vl m.d0 m.d1 m.d2 m.d3 m.d4 m.d5 m.d6 m.d7 m.d8 m.pa n.kd n.ep n.id n.ts n.vl n.d0 n.d1 n.d2 n.d3 n.d4 n.d5 n.d6 n.d7 n.d8 n.pa = some b ∧
    (b = true ↔ ((m.kd = 4 ∨ m.kd = 5 ∨ m.kd = 7) → 0 ≤ m.vl ∧ m.vl ≤ 65535 ∧ (m.kd = 7 → m.vl ≤ 1)) ∧ (¬ (m.kd = 4 ∨ m.kd = 5 ∨ m.kd = 7) → m.vl = 0) ∧ (m.kd = 2 → 1 ≤ m.ts ∧ m.ts ≤ 4 ∧ (m.pa.size : Int) ≤ 256) ∧ (m.kd ≠ 2 → m.ts = 0 ∧ m.pa.size = 0 ∧ D0 m) ∧ n.kd = m.kd ∧ n.ep = m.ep ∧ n.id = m.id) := by
  rw [fairleadref17_Right.j1]
  have no : ∀ {p : Prop}, ¬ p → ∃ b, some false = some b ∧ (b = true ↔ p) := fun h => ⟨false, rfl, ⟨fun h2 => (by cases h2), fun h2 => absurd h2 h⟩⟩
  by_cases h2 : m.kd = 2
  · rw [if_pos h2]
    by_cases t1 : m.ts < 1
    · rw [if_pos t1]; exact no (fun h => by have := (h.2.2.1 h2).1; omega)
    · rw [if_neg t1]
      by_cases t2 : m.ts > 4
      · rw [if_pos t2]; exact no (fun h => by have := (h.2.2.1 h2).2.1; omega)
      · rw [if_neg t2]
        by_cases t3 : (m.pa.size : Int) > 256
        · rw [if_pos t3]; exact no (fun h => by have := (h.2.2.1 h2).2.2; omega)
        · rw [if_neg t3]
          obtain ⟨b, h, hb⟩ := rr2 ⟨n.kd, n.ep, n.id, m.ts, n.vl, m.d0, m.d1, m.d2, m.d3, m.d4, m.d5, m.d6, m.d7, m.d8, m.pa⟩ m k
          refine ⟨b, h, hb.trans ?_⟩
          simp only [SAME, hn]
          constructor
          · rintro ⟨a, c, d⟩
            exact ⟨a, fun h => (c h).symm, fun _ => ⟨by omega, by omega, by omega⟩, fun h => absurd h2 h, d.1, d.2.1, d.2.2.1⟩
          · rintro ⟨a, c, _, _, d1, d2, d3⟩
            exact ⟨a, fun h => (c h).symm, d1, d2, d3, by simp⟩
  · rw [if_neg h2]
    obtain ⟨b, h, hb⟩ := rr2 n m k
    refine ⟨b, h, hb.trans ?_⟩
    obtain ⟨p1, p2, q0, q1, q2, q3, q4, q5, q6, q7, q8⟩ := hp
    simp only [SAME, hn, p1, p2, q0, q1, q2, q3, q4, q5, q6, q7, q8, nil_list17, D0]
    constructor
    · rintro ⟨a, c, d1, d2, d3, d4, ⟨e0, e1, e2, e3, e4, e5, e6, e7, e8⟩, d6⟩
      exact ⟨a, fun h => (c h).symm, fun h => absurd h h2, fun _ => ⟨d4.symm, d6, e0.symm, e1.symm, e2.symm, e3.symm, e4.symm, e5.symm, e6.symm, e7.symm, e8.symm⟩, d1, d2, d3⟩
    · rintro ⟨a, c, _, d, d1, d2, d3⟩
      obtain ⟨d4, d6, e0, e1, e2, e3, e4, e5, e6, e7, e8⟩ := d h2
      exact ⟨a, fun h => (c h).symm, d1, d2, d3, d4.symm, ⟨e0.symm, e1.symm, e2.symm, e3.symm, e4.symm, e5.symm, e6.symm, e7.symm, e8.symm⟩, d6⟩
theorem rright_is (m : MS) (k : Nat) : ∃ b, fairleadref17_Right.f (k + 4) m.kd m.ep m.id m.ts m.vl m.d0 m.d1 m.d2 m.d3 m.d4 m.d5 m.d6 m.d7 m.d8 m.pa = some b ∧ (b = true ↔ MR m) := by
  unfold fairleadref17_Right.f
  have no : ¬ MR m → ∃ b, some false = some b ∧ (b = true ↔ MR m) := fun h => ⟨false, rfl, ⟨fun h2 => (by cases h2), fun h2 => absurd h2 h⟩⟩
  by_cases h1 : m.kd < 1
  · rw [if_pos h1, fairleadref17_Right.j0, if_pos rfl]
    exact no (fun h => by have := h.k1; omega)
  · rw [if_neg h1]
    by_cases h7 : m.kd > 7
    · rw [decide_eq_true h7, fairleadref17_Right.j0, if_pos rfl]
      exact no (fun h => by have := h.k7; omega)
    · rw [decide_eq_false h7, fairleadref17_Right.j0, if_neg (by decide)]
      have fin : ∀ (b : Bool) (i : Int), (b = true ↔ ((m.kd = 4 ∨ m.kd = 5 ∨ m.kd = 7) → 0 ≤ m.vl ∧ m.vl ≤ 65535 ∧ (m.kd = 7 → m.vl ≤ 1)) ∧ (¬ (m.kd = 4 ∨ m.kd = 5 ∨ m.kd = 7) → m.vl = 0) ∧ (m.kd = 2 → 1 ≤ m.ts ∧ m.ts ≤ 4 ∧ (m.pa.size : Int) ≤ 256) ∧ (m.kd ≠ 2 → m.ts = 0 ∧ m.pa.size = 0 ∧ D0 m) ∧ m.kd = m.kd ∧ m.ep = m.ep ∧ i = m.id) → (i = m.id ↔ (m.kd ≤ 1 → m.id = 0)) → (b = true ↔ MR m) := by
        intro b i hb hi
        rw [hb]
        constructor
        · rintro ⟨a, c, d, e, _, _, f⟩
          refine ⟨by omega, by omega, d, e, hi.1 f, ?_, ?_⟩
          · by_cases hv : m.kd = 4 ∨ m.kd = 5 ∨ m.kd = 7
            · exact (a hv).1
            · have := c hv; omega
          · unfold MOST
            by_cases hv : m.kd = 4 ∨ m.kd = 5 ∨ m.kd = 7
            · have := a hv
              by_cases g : m.kd = 7
              · rw [if_pos g]; exact this.2.2 g
              · rw [if_neg g, if_pos (by omega)]; exact this.2.1
            · rw [if_neg (by omega), if_neg (by omega)]; have := c hv; omega
        · intro h
          refine ⟨fun hv => ⟨h.v0, ?_, fun g => ?_⟩, fun hv => ?_, h.call, h.none, rfl, rfl, hi.2 h.hid⟩
          · have := h.v1; unfold MOST at this; split at this <;> (try split at this) <;> omega
          · have := h.v1; unfold MOST at this; rw [if_pos g] at this; exact this
          · have := h.v1; have := h.v0; unfold MOST at *; rw [if_neg (by omega), if_neg (by omega)] at *; omega
      by_cases g1 : m.kd > 1
      · rw [if_pos g1]
        obtain ⟨b, h, hb⟩ := rr1 ⟨m.kd, m.ep, m.id, 0, 0, 0, 0, 0, 0, 0, 0, 0, 0, 0, ⟨#[]⟩⟩ m rfl ⟨rfl, rfl, by unfold D0; exact ⟨rfl, rfl, rfl, rfl, rfl, rfl, rfl, rfl, rfl⟩⟩ k
        exact ⟨b, h, fin b m.id hb ⟨fun _ h => by omega, fun _ => rfl⟩⟩
      · rw [if_neg g1]
        obtain ⟨b, h, hb⟩ := rr1 ⟨m.kd, m.ep, 0, 0, 0, 0, 0, 0, 0, 0, 0, 0, 0, 0, ⟨#[]⟩⟩ m rfl ⟨rfl, rfl, by unfold D0; exact ⟨rfl, rfl, rfl, rfl, rfl, rfl, rfl, rfl, rfl⟩⟩ k
        exact ⟨b, h, fin b 0 hb ⟨fun h _ => h.symm, fun h => (h (by omega)).symm⟩⟩
end Go.Proofs.Ytadglbmghldnfaa.Pure
