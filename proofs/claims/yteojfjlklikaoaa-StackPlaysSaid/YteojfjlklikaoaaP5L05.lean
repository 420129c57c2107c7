/- Layer 5 (check), plain: what is wrong with an instruction, and with a program. -/
import Derived.Test.YteojfjlklikaoaaP5Mx0
import Derived.Test.YteojfjlklikaoaaP5Mx1
import Derived.Test.YteojfjlklikaoaaP5Mx2
import Derived.Test.YteojfjlklikaoaaP5Mx3
import Derived.Test.YteojfjlklikaoaaP5Mx7
import Derived.Test.YteojfjlklikaoaaP5Mx8
import Derived.Test.YteojfjlklikaoaaP5Mx9
import Derived.Test.YteojfjlklikaoaaP5Aid
import Derived.Test.YteojfjlklikaoaaP5L03k
namespace Go.Proofs.Yteojfjlklikaoaa.Pure
open Go Go.RowKit Go.Proofs.Yteojfjlklikaoaa.M Go.Proofs.Yteojfjlklikaoaa.Aid Go.Proofs.YteojfjlklikaoaaW.PrintWords Go.Proofs.YteojfjlklikaoaaW.PrintLast Go.Proofs.YteojfjlklikaoaaW.PrintMore
set_option linter.unusedVariables false
set_option linter.unusedSimpArgs false
-- NEEDS check_Check.f fairleadref05_Check.f check_wrong.f fairleadref05_wrong.f insn_Known.f fairleadref03_Known.f fairleadref03_Jumps.f fairleadref03_Ends.f
-- IMPORT L03k
theorem ref_jumps (a : Int) : fairleadref03_Jumps.f a = some (decide (Jmps a)) := by
  unfold fairleadref03_Jumps.f
  repeat' split
  all_goals first | exact sdt (by unfold Jmps; omega) | skip
  by_cases h : a = 77
  · rw [beq_iff_eq.2 h]; exact sdt (by unfold Jmps; omega)
  · rw [beq_eq_false_iff_ne.2 h]; exact sdf (by unfold Jmps; omega)
theorem ref_ends (a : Int) : fairleadref03_Ends.f a = some (decide (Endd a)) := ends_is a
/-- An instruction whose numbers are of their kinds. -/
def InsOk (x : S53) : Prop := (0 ≤ x.f0 ∧ x.f0 ≤ 65535) ∧ (0 ≤ x.f1 ∧ x.f1 ≤ 255) ∧ (0 ≤ x.f2 ∧ x.f2 ≤ 255) ∧ (0 ≤ x.f3 ∧ x.f3 ≤ 4294967295)
def w5 (b f0 : Int) : Int := if b = 0 then (if Endd f0 then 0 else 15) else 0
def w4 (b f0 f1 f2 : Int) : Int := if f0 = 5 then w5 b f0 else if Jmps f0 then (if b ≤ f1 ∨ b ≤ f2 then 14 else w5 b f0) else w5 b f0
def w3 (b f0 f1 f2 f3 : Int) : Int := if f0 = 5 ∧ b ≤ f3 then 14 else w4 b f0 f1 f2
def w1 (b f0 f1 f2 f3 : Int) : Int := if f0 = 52 ∧ f3 = 0 ∨ (f0 = 100 ∨ f0 = 116) ∧ 31 < f3 then 13 else w3 b f0 f1 f2 f3
def w0 (b f0 f1 f2 f3 : Int) : Int := if (f0 = 96 ∨ f0 = 97 ∨ f0 = 2 ∨ f0 = 3) ∧ 16 ≤ f3 then 12 else w1 b f0 f1 f2 f3
/-- What is wrong with an instruction, of which b stand behind; 0: nothing. -/
def wrongI (b f0 f1 f2 f3 : Int) : Int := if Knwn f0 then (if f0 = 32 ∧ (f3 % 4 ≠ 0 ∨ 64 ≤ f3) then 12 else w0 b f0 f1 f2 f3) else 11
def wrongOf (b : Int) (x : S53) : Int := wrongI b x.f0 x.f1 x.f2 x.f3
theorem dec_true {p : Prop} [Decidable p] : (decide p = true) = p := by simp
section
variable {b f0 f1 f2 f3 : Int} (hb0 : 0 ≤ b) (hb1 : b ≤ 4096) (h0 : 0 ≤ f0 ∧ f0 ≤ 65535) (h1 : 0 ≤ f1 ∧ f1 ≤ 255) (h2 : 0 ≤ f2 ∧ f2 ≤ 255) (h3 : 0 ≤ f3 ∧ f3 ≤ 4294967295)
theorem cw_j5 (k : Nat) (c : Bool) : check_wrong.j5 (k + 1) b c f0 f1 f2 f3 = some (if c = true then 14 else w5 b f0) := by
  simp only [check_wrong.j5, ends_is, Option.bind_some, dec_true, w5]
  repeat' split
  all_goals first | rfl | contradiction
include h1 h2 in
theorem cw_j4 (k : Nat) (c : Bool) : check_wrong.j4 (k + 2) b c f0 f1 f2 f3 = some (if c = true then 14 else w4 b f0 f1 f2) := by
  have e1 : wrap64 f1 = f1 := by unfold wrap64; omega
  have e2 : wrap64 f2 = f2 := by unfold wrap64; omega
  have e3 : (mx f1 f2 ≥ b) ↔ (b ≤ f1 ∨ b ≤ f2) := by unfold mx; split <;> omega
  simp only [check_wrong.j4, cw_j5, jumps_is, Option.bind_some, dec_true, w4, e1, e2, e3]
  repeat' split
  all_goals first | rfl | contradiction | simp_all
include hb0 hb1 h1 h2 h3 in
theorem cw_j3 (k : Nat) (c : Bool) : check_wrong.j3 (k + 3) b c f0 f1 f2 f3 = some (if c = true then 13 else w3 b f0 f1 f2 f3) := by
  have e1 : IntKind.u64.wrap f3 = f3 := by rw [IntKind.wrap_u64]; omega
  have e2 : IntKind.u64.wrap b = b := by rw [IntKind.wrap_u64]; omega
  simp only [check_wrong.j3, cw_j4 h1 h2, dec_true, w3, e1, e2, ge_iff_le]
  repeat' split
  all_goals first | rfl | contradiction | simp_all
include hb0 hb1 h1 h2 h3 in
theorem cw_j2 (k : Nat) (c : Bool) : check_wrong.j2 (k + 4) b c f0 f1 f2 f3 = some (if c = true ∨ (f0 = 100 ∨ f0 = 116) ∧ 31 < f3 then 13 else w3 b f0 f1 f2 f3) := by
  simp only [check_wrong.j2, cw_j3 hb0 hb1 h1 h2 h3, dec_true, gt_iff_lt]
  by_cases hc : c = true
  · simp [hc]
  · by_cases h5 : f0 = 100
    · simp [hc, h5]
    · by_cases h6 : f0 = 116
      · simp [hc, h6]
      · simp [hc, h5, h6]
include hb0 hb1 h1 h2 h3 in
theorem cw_j1 (k : Nat) (c : Bool) : check_wrong.j1 (k + 5) b c f0 f1 f2 f3 = some (if c = true then 12 else w1 b f0 f1 f2 f3) := by
  simp only [check_wrong.j1, cw_j2 hb0 hb1 h1 h2 h3, w1, beq_iff_eq]
  by_cases hc : c = true
  · simp [hc]
  · by_cases h5 : f0 = 52
    · simp [hc, h5]
    · simp [hc, h5]
include hb0 hb1 h1 h2 h3 in
theorem cw_j0 (k : Nat) (c : Bool) : check_wrong.j0 (k + 6) b c f0 f1 f2 f3 = some (if c = true then 12 else w0 b f0 f1 f2 f3) := by
  simp only [check_wrong.j0, cw_j1 hb0 hb1 h1 h2 h3, w0, dec_true, ge_iff_le]
  by_cases hc : c = true
  · simp [hc]
  · by_cases h5 : f0 = 96
    · simp [hc, h5]
    · by_cases h6 : f0 = 97
      · simp [hc, h6]
      · by_cases h7 : f0 = 2
        · simp [hc, h7]
        · by_cases h8 : f0 = 3
          · simp [hc, h8]
          · simp [hc, h5, h6, h7, h8]
include hb0 hb1 h0 h1 h2 h3 in
theorem cw_f (k : Nat) (hk : 20 ≤ k) : check_wrong.f k f0 f1 f2 f3 b = some (wrongI b f0 f1 f2 f3) := by
  obtain ⟨k, rfl⟩ : ∃ m, k = m + 6 := ⟨k - 6, by omega⟩
  unfold check_wrong.f
  rw [known_is h0.1 h0.2 _ (by omega)]
  simp only [Option.bind_some, dec_true, cw_j0 hb0 hb1 h1 h2 h3, wrongI, Int.tmod_eq_emod_of_nonneg h3.1, ge_iff_le]
  by_cases hk : Knwn f0
  · simp only [hk, if_true]
    by_cases h5 : f0 = 32
    · by_cases h6 : f3 % 4 = 0
      · simp [h5, h6]
      · simp [h5, h6]
    · simp [h5]
  · simp [hk]
end
section
variable {n i f0 f1 f2 f3 : Int} (hi0 : 0 ≤ i) (hi1 : i < n) (hn : n ≤ 4096) (h0 : 0 ≤ f0 ∧ f0 ≤ 65535) (h1 : 0 ≤ f1 ∧ f1 ≤ 255) (h2 : 0 ≤ f2 ∧ f2 ≤ 255) (h3 : 0 ≤ f3 ∧ f3 ≤ 4294967295)
theorem rw_j4 (k : Nat) (c : Bool) : fairleadref05_wrong.j4 (k + 1) n (i + 1) c f0 f1 f2 f3 = some (if c = true then 14 else w5 (n - 1 - i) f0) := by
  have e : (i + 1 = n) ↔ (n - 1 - i = 0) := by omega
  simp only [fairleadref05_wrong.j4, ref_ends, Option.bind_some, dec_true, w5, e]
  repeat' split
  all_goals first | rfl | contradiction
include hi0 hi1 hn h1 h2 in
theorem rw_j3 (k : Nat) (c : Bool) : fairleadref05_wrong.j3 (k + 2) n (i + 1) c f0 f1 f2 f3 = some (if c = true then 14 else w4 (n - 1 - i) f0 f1 f2) := by
  have e1 : (IntKind.u64.wrap (i + 1 + IntKind.u64.wrap f1) ≥ n) ↔ (n - 1 - i ≤ f1) := by rw [IntKind.wrap_u64, IntKind.wrap_u64]; omega
  have e2 : (IntKind.u64.wrap (i + 1 + IntKind.u64.wrap f2) ≥ n) ↔ (n - 1 - i ≤ f2) := by rw [IntKind.wrap_u64, IntKind.wrap_u64]; omega
  simp only [fairleadref05_wrong.j3, rw_j4, ref_jumps, Option.bind_some, dec_true, w4, e1, e2]
  by_cases hc : c = true
  · simp [hc]
  · by_cases h5 : f0 = 5
    · simp [hc, h5]
    · by_cases h6 : Jmps f0
      · by_cases h7 : n - 1 - i ≤ f1
        · simp [hc, h5, h6, h7]
        · simp [hc, h5, h6, h7]
      · simp [hc, h5, h6]
include hi0 hi1 hn h1 h2 h3 in
theorem rw_j2 (k : Nat) (c : Bool) : fairleadref05_wrong.j2 (k + 3) n (i + 1) c f0 f1 f2 f3 = some (if c = true then 13 else w3 (n - 1 - i) f0 f1 f2 f3) := by
  have e1 : (IntKind.u64.wrap (i + 1 + IntKind.u64.wrap f3) ≥ n) ↔ (n - 1 - i ≤ f3) := by rw [IntKind.wrap_u64, IntKind.wrap_u64]; omega
  simp only [fairleadref05_wrong.j2, rw_j3 hi0 hi1 hn h1 h2, dec_true, w3, e1]
  repeat' split
  all_goals first | rfl | contradiction | simp_all
include hi0 hi1 hn h1 h2 h3 in
theorem rw_j1 (k : Nat) (c : Bool) : fairleadref05_wrong.j1 (k + 4) n (i + 1) c f0 f1 f2 f3 = some (if c = true then 12 else w1 (n - 1 - i) f0 f1 f2 f3) := by
  simp only [fairleadref05_wrong.j1, rw_j2 hi0 hi1 hn h1 h2 h3, w1, dec_true, gt_iff_lt]
  by_cases hc : c = true
  · simp [hc]
  · by_cases h5 : f0 = 52
    · by_cases h6 : f3 = 0
      · simp [hc, h5, h6]
      · simp [hc, h5, h6]
    · by_cases h6 : f0 = 100
      · simp [hc, h6]
      · by_cases h7 : f0 = 116
        · simp [hc, h7]
        · simp [hc, h5, h6, h7]
include hi0 hi1 hn h1 h2 h3 in
theorem rw_j0 (k : Nat) (c : Bool) : fairleadref05_wrong.j0 (k + 5) n (i + 1) c f0 f1 f2 f3 = some (if c = true then 12 else w0 (n - 1 - i) f0 f1 f2 f3) := by
  simp only [fairleadref05_wrong.j0, rw_j1 hi0 hi1 hn h1 h2 h3, w0, dec_true, ge_iff_le]
  by_cases hc : c = true
  · simp [hc]
  · by_cases h5 : f0 = 96
    · simp [hc, h5]
    · by_cases h6 : f0 = 97
      · simp [hc, h6]
      · by_cases h7 : f0 = 2
        · simp [hc, h7]
        · by_cases h8 : f0 = 3
          · simp [hc, h8]
          · simp [hc, h5, h6, h7, h8]
end
theorem rw_f (l : List S53) (i : Nat) (hi : i < l.length) (hl : l.length ≤ 4096) (ho : InsOk (rd_T53 l i)) (k : Nat) (hk : 40 ≤ k) :
    fairleadref05_wrong.f k l i = some (wrongOf ((l.length : Int) - 1 - i) (rd_T53 l i)) := by
  obtain ⟨k, rfl⟩ : ∃ m, k = m + 5 := ⟨k - 5, by omega⟩
  obtain ⟨h0, h1, h2, h3⟩ := ho
  have e1 : IntKind.u64.wrap (l.length : Int) = l.length := by rw [IntKind.wrap_u64]; omega
  have e2 : IntKind.u64.wrap (IntKind.u64.wrap (i : Int) + 1) = (i : Int) + 1 := by rw [IntKind.wrap_u64, IntKind.wrap_u64]; omega
  unfold fairleadref05_wrong.f
  rw [if_pos (by omega), if_pos (by omega), ref_known h0.1 h0.2 _ (by omega)]
  simp only [Option.bind_some, dec_true, e1, e2, rw_j0 (n := l.length) (i := i) (by omega) (by omega) (by omega) h1 h2 h3, wrongOf, wrongI, Int.tmod_eq_emod_of_nonneg h3.1, ge_iff_le]
  by_cases hk : Knwn (rd_T53 l i).f0
  · simp only [hk, if_true]
    by_cases h5 : (rd_T53 l i).f0 = 32
    · by_cases h6 : (rd_T53 l i).f3 % 4 = 0
      · simp [h5, h6]
      · simp [h5, h6]
    · simp [h5]
  · simp [hk]
/-- The first thing that is wrong with what is left of a program, from place i on. -/
def chkFrom : List S53 → Int → Int × Int
  | [], _ => (0, -1)
  | x :: r, i => if wrongOf r.length x = 0 then chkFrom r (i + 1) else (wrongOf r.length x, i)
/-- Why a program may not be run, and of which instruction. -/
def CH (l : List S53) : Int × Int := if l.length = 0 then (10, 0) else if 4096 < l.length then (4, 4096) else chkFrom l 0
theorem drop_rd (l : List S53) (i : Nat) (h : i < l.length) : l.drop i = rd_T53 l i :: l.drop (i + 1) := by
  rw [List.drop_eq_getElem_cons h]
  congr 1
  unfold rd_T53
  rw [Int.toNat_natCast, List.getD_eq_getElem?_getD, List.getElem?_eq_getElem h]
  rfl
theorem rd_ok {l : List S53} (ho : ∀ x ∈ l, InsOk x) (i : Nat) (h : i < l.length) : InsOk (rd_T53 l i) := by
  have := drop_rd l i h
  exact ho _ (List.mem_of_mem_drop (by rw [this]; simp))
theorem check_loop (l : List S53) (hl : l.length ≤ 4096) (ho : ∀ x ∈ l, InsOk x) (d : Nat) : ∀ (k i : Nat), i + d = l.length → d + 20 < k →
    check_Check.l0 k l 0 (-1) l l.length i = some (chkFrom (l.drop i) i) := by
  induction d with
  | zero =>
    intro k i hi hk
    obtain ⟨k, rfl⟩ : ∃ m, k = m + 1 := ⟨k - 1, by omega⟩
    simp only [check_Check.l0]
    rw [if_neg (by omega), List.drop_of_length_le (by omega)]
    rfl
  | succ d ih =>
    intro k i hi hk
    obtain ⟨k, rfl⟩ : ∃ m, k = m + 1 := ⟨k - 1, by omega⟩
    have h2 := ih k (i + 1) (by omega) (by omega)
    have w : wrap64 ((i : Int) + 1) = ((i + 1 : Nat) : Int) := by unfold wrap64; omega
    have w2 : wrap64 (wrap64 ((l.length : Int) - 1) - i) = ((l.length - 1 - i : Nat) : Int) := by unfold wrap64; omega
    obtain ⟨h0, h1, h2', h3⟩ := rd_ok ho i (by omega)
    have hw := cw_f (b := ((l.length - 1 - i : Nat) : Int)) (by omega) (by omega) h0 h1 h2' h3 k (by omega)
    simp only [check_Check.l0]
    rw [if_pos (by omega), if_pos (by omega), if_pos (by omega), w, w2, hw, h2, drop_rd l i (by omega)]
    simp only [Option.bind_some, chkFrom, List.length_drop, wrongOf]
    have e : l.length - 1 - i = l.length - (i + 1) := by omega
    rw [e]
    split <;> rfl
theorem check_is (l : List S53) (ho : ∀ x ∈ l, InsOk x) (k : Nat) (hk : 4200 ≤ k) : check_Check.f k l = some (CH l) := by
  unfold check_Check.f CH
  by_cases h1 : l.length = 0
  · rw [if_pos (by omega), if_pos h1]
  · rw [if_neg (by omega), if_neg h1]
    by_cases h2 : 4096 < l.length
    · rw [if_pos (by omega), if_pos h2]
    · rw [if_neg (by omega), if_neg h2]
      exact check_loop l (by omega) ho l.length k 0 (by omega) (by omega)
theorem rcheck_loop (l : List S53) (hl : l.length ≤ 4096) (ho : ∀ x ∈ l, InsOk x) (d : Nat) : ∀ (k i : Nat), i + d = l.length → d + 40 < k →
    fairleadref05_Check.l0 k l i = some (chkFrom (l.drop i) i) := by
  induction d with
  | zero =>
    intro k i hi hk
    obtain ⟨k, rfl⟩ : ∃ m, k = m + 1 := ⟨k - 1, by omega⟩
    simp only [fairleadref05_Check.l0]
    rw [if_neg (by omega), List.drop_of_length_le (by omega)]
    rfl
  | succ d ih =>
    intro k i hi hk
    obtain ⟨k, rfl⟩ : ∃ m, k = m + 1 := ⟨k - 1, by omega⟩
    have h2 := ih k (i + 1) (by omega) (by omega)
    have w : wrap64 ((i : Int) + 1) = ((i + 1 : Nat) : Int) := by unfold wrap64; omega
    have hw := rw_f l i (by omega) hl (rd_ok ho i (by omega)) k (by omega)
    simp only [fairleadref05_Check.l0]
    rw [if_pos (by omega), w, hw, h2, drop_rd l i (by omega)]
    simp only [Option.bind_some, chkFrom, List.length_drop]
    have e : (l.length : Int) - 1 - i = ((l.length - (i + 1) : Nat) : Int) := by omega
    rw [e]
    split <;> rfl
theorem rcheck_is (l : List S53) (ho : ∀ x ∈ l, InsOk x) (k : Nat) (hk : 4200 ≤ k) : fairleadref05_Check.f k l = some (CH l) := by
  unfold fairleadref05_Check.f CH
  by_cases h1 : l.length = 0
  · rw [if_pos (by omega), if_pos h1]
  · rw [if_neg (by omega), if_neg h1]
    by_cases h2 : 4096 < l.length
    · rw [if_pos (by omega), if_pos h2]
    · rw [if_neg (by omega), if_neg h2]
      exact rcheck_loop l (by omega) ho l.length k 0 (by omega) (by omega)
end Go.Proofs.Yteojfjlklikaoaa.Pure
