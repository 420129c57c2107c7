/- Layer 6 (vm), plain: a step and a run, by the document. -/
import Derived.Test.YteojfjlklikaoaaP5Mx0
import Derived.Test.YteojfjlklikaoaaP5Mx3
import Derived.Test.YteojfjlklikaoaaP5Mx4
import Derived.Test.YteojfjlklikaoaaP5Mx5
import Derived.Test.YteojfjlklikaoaaP5Mx9
import Derived.Test.YteojfjlklikaoaaP5Mx10
import Derived.Test.YteojfjlklikaoaaP5Mx11
import Derived.Test.YteojfjlklikaoaaP5Mx12
import Derived.Test.YteojfjlklikaoaaP5Aid
import Derived.OpenShut
import Derived.Test.YteojfjlklikaoaaP5L00
import Derived.Test.YteojfjlklikaoaaP5L03k
import Derived.Test.YteojfjlklikaoaaP5L05
import Derived.Test.YteojfjlklikaoaaP5L05b
import Derived.Test.YteojfjlklikaoaaP5L04a
import Derived.Test.YteojfjlklikaoaaP5L04p
import Derived.Test.YteojfjlklikaoaaP5L06w
import Derived.Test.YteojfjlklikaoaaP5L06
import Derived.Test.YteojfjlklikaoaaP5L15a
namespace Go.Proofs.Yteojfjlklikaoaa.Pure
open Go Go.RowKit Go.Proofs.Yteojfjlklikaoaa.M Go.Proofs.Yteojfjlklikaoaa.Aid Go.Proofs.YteojfjlklikaoaaW.PrintWords Go.Proofs.YteojfjlklikaoaaW.PrintLast Go.Proofs.YteojfjlklikaoaaW.PrintMore
set_option linter.unusedVariables false
set_option linter.unusedSimpArgs false
-- NEEDS vm_play.f vm_step.f vm_moves.f vm_Run.f vm_MV vm_ST vm_RK vm_HL VmS check_Check.f data_Load.f data_laid.f data_Halves.f fairleadref06_Step.f fairleadref06_holds.f fairleadref06_shift.f fairleadref06_reckon.f fairleadref04_Load.f fairleadref04_number.f fairleadref04_low.f fairleadref04_Bytes.f fairleadlaw06_awake.f
-- LIB Derived.OpenShut
-- IMPORT L00
-- IMPORT L03k
-- IMPORT L05
-- IMPORT L05b
-- IMPORT L04a
-- IMPORT L04p
-- IMPORT L06w
-- IMPORT L06
-- IMPORT L06a
theorem emul (x y : Int) : x % 4294967296 * y % 4294967296 = x * y % 4294967296 := by
  rw [Int.mul_emod, Int.emod_emod, ← Int.mul_emod]
theorem shl_loop (n : Int) (hn : 0 ≤ n) : ∀ (d k i : Nat) (x : Int), (0 ≤ x ∧ x ≤ 4294967295) → ((i + d : Nat) : Int) = n % 32 → d < k → fairleadref06_shift.l0 k x n true i = some (x * 2 ^ d % 4294967296) := by
  intro d
  induction d with
  | zero =>
    intro k i x hx hi hk
    obtain ⟨k, rfl⟩ : ∃ m, k = m + 1 := ⟨k - 1, by omega⟩
    simp only [fairleadref06_shift.l0]
    rw [Int.tmod_eq_emod_of_nonneg hn, if_neg (by omega)]
    simp; omega
  | succ d ih =>
    intro k i x hx hi hk
    obtain ⟨k, rfl⟩ : ∃ m, k = m + 1 := ⟨k - 1, by omega⟩
    simp only [fairleadref06_shift.l0]
    rw [Int.tmod_eq_emod_of_nonneg hn, if_pos (by omega), if_pos trivial, show ((i : Int) + 1) % 4294967296 = ((i + 1 : Nat) : Int) from by omega, ih k (i + 1) _ (by omega) (by omega) (by omega), emul, Int.pow_succ, Int.mul_assoc, Int.mul_comm 2]
theorem shr_loop (n : Int) (hn : 0 ≤ n) : ∀ (d k i : Nat) (x : Int), (0 ≤ x ∧ x ≤ 4294967295) → ((i + d : Nat) : Int) = n % 32 → d < k → fairleadref06_shift.l0 k x n false i = some (x / 2 ^ d) := by
  intro d
  induction d with
  | zero =>
    intro k i x hx hi hk
    obtain ⟨k, rfl⟩ : ∃ m, k = m + 1 := ⟨k - 1, by omega⟩
    simp only [fairleadref06_shift.l0]
    rw [Int.tmod_eq_emod_of_nonneg hn, if_neg (by omega)]
    simp
  | succ d ih =>
    intro k i x hx hi hk
    obtain ⟨k, rfl⟩ : ∃ m, k = m + 1 := ⟨k - 1, by omega⟩
    simp only [fairleadref06_shift.l0]
    rw [Int.tmod_eq_emod_of_nonneg hn, if_pos (by omega), if_neg (by decide), Int.tdiv_eq_ediv_of_nonneg hx.1, show x / 2 % 4294967296 = x / 2 from by omega, show ((i : Int) + 1) % 4294967296 = ((i + 1 : Nat) : Int) from by omega, ih k (i + 1) _ (by omega) (by omega) (by omega), Int.pow_succ, Int.mul_comm, Int.ediv_ediv_of_nonneg (by decide : (0 : Int) ≤ 2)]
theorem shl_is (a n : Int) (ha : 0 ≤ a ∧ a ≤ 4294967295) (hn : 0 ≤ n) (k : Nat) (hk : 40 ≤ k) : fairleadref06_shift.f k a n true = some (a * 2 ^ (n % 32).toNat % 4294967296) := shl_loop n hn (n % 32).toNat k 0 a ha (by omega) (by omega)
theorem shr_is (a n : Int) (ha : 0 ≤ a ∧ a ≤ 4294967295) (hn : 0 ≤ n) (k : Nat) (hk : 40 ≤ k) : fairleadref06_shift.f k a n false = some (a / 2 ^ (n % 32).toNat) := shr_loop n hn (n % 32).toNat k 0 a ha (by omega) (by omega)
theorem holds_ref (q a n : Int) : fairleadref06_holds.f q a n = some (vm_HL q a n) := by
  unfold fairleadref06_holds.f vm_HL
  by_cases h1 : q = 21
  · subst h1; rfl
  have b1 : (q == 21) = false := beq_eq_false_iff_ne.2 h1
  by_cases h2 : q = 37
  · subst h2; rfl
  have b2 : (q == 37) = false := beq_eq_false_iff_ne.2 h2
  by_cases h3 : q = 53
  · subst h3; rfl
  have b3 : (q == 53) = false := beq_eq_false_iff_ne.2 h3
  simp only [h1, h2, h3, b1, b2, b3, if_false, Bool.false_eq_true]
theorem reck_ref (q a n r : Int) (o : Bool) (hq : q = 4 ∨ q = 20 ∨ q = 36 ∨ q = 52 ∨ q = 68 ∨ q = 84 ∨ q = 100 ∨ q = 116 ∨ q = 164) (h0 : q = 52 → n ≠ 0) (ha : 0 ≤ a ∧ a ≤ 4294967295) (hn : 0 ≤ n) (k : Nat) (hk : 40 ≤ k) : fairleadref06_reckon.f k q a n = some (vm_RK q a n o r).1 ∧ (vm_RK q a n o r).2 = (o, r) := by
  rcases hq with rfl | rfl | rfl | rfl | rfl | rfl | rfl | rfl | rfl
  · exact ⟨rfl, rfl⟩
  · exact ⟨rfl, rfl⟩
  · exact ⟨rfl, rfl⟩
  · have e : vm_RK 52 a n o r = (if (n == 0) = true then (a, true, 0) else (Int.tdiv a n % 4294967296, o, r)) := rfl
    have e2 : fairleadref06_reckon.f k 52 a n = (if n = 0 then none else some (Int.tdiv a n % 4294967296)) := rfl
    rw [e, e2, if_neg (h0 rfl), if_neg (by simpa using h0 rfl)]
    exact ⟨rfl, rfl⟩
  · exact ⟨rfl, rfl⟩
  · exact ⟨rfl, rfl⟩
  · have e2 : fairleadref06_reckon.f k 100 a n = (fairleadref06_shift.f k a n true).bind fun t => some t := rfl
    rw [e2, shl_is a n ha hn k hk]
    exact ⟨rfl, rfl⟩
  · have e2 : fairleadref06_reckon.f k 116 a n = (fairleadref06_shift.f k a n false).bind fun t => some t := rfl
    rw [e2, shr_is a n ha hn k hk]
    exact ⟨rfl, rfl⟩
  · exact ⟨rfl, rfl⟩
/-- A step of the document's answers one of the machine's. -/
def StepRes (x : Option (Int × StS)) (T q : Int) (s' : VmS) : Prop := ∃ T' u, x = some (T', u) ∧ u.a = s'.a ∧ u.x = s'.x ∧ u.o = s'.o ∧ u.r = s'.r ∧ (∀ j, 0 ≤ j → j < 16 → u.C j = s'.C j) ∧ (s'.o = false → T' = wrap64 (T + q) ∧ s'.r = 0)
theorem step_mv (c K jt jf d0 d1 d2 d3 d4 d5 d6 d7 d8 : Int) (s s' t : VmS) (q : Int) (hc : (c == 32) = false) (h : vm_MV c K s = some (true, t)) (hst : vm_step.f 7 c jt jf K d0 d1 d2 d3 d4 d5 d6 d7 d8 s = some (q, s')) : q = 0 ∧ s' = t := by
  rw [st_moves 7 c jt jf K d0 d1 d2 d3 d4 d5 d6 d7 d8 s t hc h] at hst
  injection hst with hst
  injection hst with h1 h2
  exact ⟨h1.symm, h2.symm⟩
theorem step_ot (c K jt jf d0 d1 d2 d3 d4 d5 d6 d7 d8 : Int) (s s' : VmS) (q : Int) (hc : (c == 32) = false) (h : vm_MV c K s = some (false, s)) (hs : SOk s) (hK : 0 ≤ K ∧ K ≤ 4294967295) (hst : vm_step.f 7 c jt jf K d0 d1 d2 d3 d4 d5 d6 d7 d8 s = some (q, s')) : vm_ST c jt jf K s = (q, s') := by
  rw [st_other 7 c jt jf K d0 d1 d2 d3 d4 d5 d6 d7 d8 s hc h hs.x.1 hK] at hst
  exact Option.some.inj hst
theorem step_ref (k : Nat) (hk : 100 ≤ k) {d0 d1 d2 d3 d4 d5 d6 d7 d8 : Int} (hd : DOk d0 d1 d2 d3 d4 d5 d6 d7 d8) (b f0 f1 f2 f3 : Int) (h : wrongI b f0 f1 f2 f3 = 0) (ho : (0 ≤ f0 ∧ f0 ≤ 65535) ∧ (0 ≤ f1 ∧ f1 ≤ 255) ∧ (0 ≤ f2 ∧ f2 ≤ 255) ∧ (0 ≤ f3 ∧ f3 ≤ 4294967295)) (s : VmS) (hs : SOk s) (hso : s.o = false) (hr : s.r = 0) (C : Int → Int) (hC : ∀ j, 0 ≤ j → j < 16 → C j = s.C j) (q : Int) (s' : VmS) (hst : vm_step.f 7 f0 f1 f2 f3 d0 d1 d2 d3 d4 d5 d6 d7 d8 s = some (q, s')) (T : Int) (hT : 0 ≤ T ∧ T ≤ 5000) :
    StepRes (fairleadref06_Step.g k f0 f1 f2 f3 d0 d1 d2 d3 d4 d5 d6 d7 d8 T ⟨s.a, s.x, s.o, s.r, C⟩) T q s' := by
  have wT : wrap64 (T + 0) = T := by rw [Int.add_zero]; exact w64_id (by omega) (by omega)
  obtain ⟨_, e32, e96, _, _, ek⟩ := wrong_facts h
  have hK := ho.2.2.2
  have hsa : 0 ≤ s.a ∧ s.a ≤ 4294967295 := hs.a
  have hsx : 0 ≤ s.x ∧ s.x ≤ 4294967295 := hs.x
  have n52 : f0 = 52 → f3 ≠ 0 := fun e e0 => by
    subst e; subst e0
    unfold wrongI at h
    rw [if_pos ek, if_neg (by decide)] at h
    unfold w0 w1 at h
    rw [if_neg (by decide), if_pos (by decide)] at h
    exact absurd h (by decide)
  have keep : ∀ t : VmS, s' = t → t.o = false → t.r = 0 → q = 0 → (s'.o = false → T = wrap64 (T + q) ∧ s'.r = 0) := fun t e _ e2 e3 _ => ⟨by rw [e3, wT], by rw [e]; exact e2⟩
  have J : ∀ (c m n : Int), (m = 21 ∨ m = 37 ∨ m = 53 ∨ m = 69) → f0 = c → vm_ST c f1 f2 f3 s = ((if vm_HL m s.a n = true then wrap64 f1 else wrap64 f2), s) → vm_MV c f3 s = some (false, s) → (c == 32) = false → fairleadref06_Step.g k c f1 f2 f3 d0 d1 d2 d3 d4 d5 d6 d7 d8 T ⟨s.a, s.x, s.o, s.r, C⟩ = ((fairleadref06_holds.f m s.a n).bind fun b => some (wrap64 (T + (if b = true then wrap64 f1 else wrap64 f2)), (⟨s.a, s.x, s.o, s.r, C⟩ : StS))) → StepRes (fairleadref06_Step.g k c f1 f2 f3 d0 d1 d2 d3 d4 d5 d6 d7 d8 T ⟨s.a, s.x, s.o, s.r, C⟩) T q s' := fun c m n hm e hS hM hc hg => by
    subst e
    have := step_ot f0 f3 f1 f2 d0 d1 d2 d3 d4 d5 d6 d7 d8 s s' q hc hM hs hK hst
    rw [hS] at this
    injection this with h1 h2
    subst h2
    rw [hg, holds_ref]
    refine ⟨_, _, rfl, rfl, rfl, rfl, rfl, hC, fun _ => ⟨?_, hr⟩⟩
    rw [← h1]
  have R : ∀ (c m n : Int), (m = 4 ∨ m = 20 ∨ m = 36 ∨ m = 52 ∨ m = 68 ∨ m = 84 ∨ m = 100 ∨ m = 116 ∨ m = 164) → (m = 52 → n ≠ 0) → 0 ≤ n → f0 = c → vm_ST c f1 f2 f3 s = (0, { s with a := (vm_RK m s.a n s.o s.r).1, o := (vm_RK m s.a n s.o s.r).2.1, r := (vm_RK m s.a n s.o s.r).2.2 }) → vm_MV c f3 s = some (false, s) → (c == 32) = false → fairleadref06_Step.g k c f1 f2 f3 d0 d1 d2 d3 d4 d5 d6 d7 d8 T ⟨s.a, s.x, s.o, s.r, C⟩ = ((fairleadref06_reckon.f k m s.a n).bind fun v => some (T, (⟨v, s.x, s.o, s.r, C⟩ : StS))) → StepRes (fairleadref06_Step.g k c f1 f2 f3 d0 d1 d2 d3 d4 d5 d6 d7 d8 T ⟨s.a, s.x, s.o, s.r, C⟩) T q s' := fun c m n hm h0 hn e hS hM hc hg => by
    subst e
    have := step_ot f0 f3 f1 f2 d0 d1 d2 d3 d4 d5 d6 d7 d8 s s' q hc hM hs hK hst
    rw [hS] at this
    injection this with h1 h2
    obtain ⟨hr1, hr2⟩ := reck_ref m s.a n s.r s.o hm h0 hsa hn k (by omega)
    subst h2
    rw [hg, hr1]
    refine ⟨_, _, rfl, rfl, rfl, (by rw [hr2]), (by rw [hr2]), hC, fun _ => ⟨by rw [← h1, wT], ?_⟩⟩
    show (vm_RK m s.a n s.o s.r).2.2 = 0
    rw [hr2]
    exact hr
  unfold Knwn Sing Reck Jmps Endd at ek
  rcases ek with (rfl | rfl | rfl | rfl | rfl | rfl | rfl | rfl | rfl | rfl) | (rfl | rfl | rfl | rfl | rfl | rfl | rfl | rfl | rfl | rfl | rfl | rfl | rfl | rfl | rfl | rfl | rfl | rfl) | (rfl | rfl | rfl | rfl | rfl | rfl | rfl | rfl | rfl) | (rfl | rfl)
  · obtain ⟨h1, h2⟩ := e32 rfl
    rw [st_load 7 (Nat.le_refl _) f1 f2 f3 d0 d1 d2 d3 d4 d5 d6 d7 d8 s ⟨hK, h1, h2⟩] at hst
    injection hst with hst
    injection hst with h3 h4
    subst h4
    have e : fairleadref06_Step.g k 32 f1 f2 f3 d0 d1 d2 d3 d4 d5 d6 d7 d8 T ⟨s.a, s.x, s.o, s.r, C⟩ = (fairleadref04_Load.f k d0 d1 d2 d3 d4 d5 d6 d7 d8 f3).bind fun p => some (T, (⟨p.1, s.x, s.o, s.r, C⟩ : StS)) := rfl
    rw [e, rload_is hd f3 hK k (by omega), if_pos ⟨h1, h2⟩]
    exact ⟨_, _, rfl, rfl, rfl, rfl, rfl, hC, fun _ => ⟨by rw [← h3, wT], hr⟩⟩
  · obtain ⟨h1, h2⟩ := step_mv 0 f3 f1 f2 d0 d1 d2 d3 d4 d5 d6 d7 d8 s s' _ q rfl rfl hst
    subst h2
    exact ⟨_, _, rfl, rfl, rfl, rfl, rfl, hC, fun _ => ⟨by rw [h1, wT], hr⟩⟩
  · obtain ⟨h1, h2⟩ := step_mv 1 f3 f1 f2 d0 d1 d2 d3 d4 d5 d6 d7 d8 s s' _ q rfl rfl hst
    subst h2
    exact ⟨_, _, rfl, rfl, rfl, rfl, rfl, hC, fun _ => ⟨by rw [h1, wT], hr⟩⟩
  · have hf := e96 (.inl rfl)
    have e0 : vm_MV 96 f3 s = if 0 ≤ f3 ∧ f3 ≤ 4294967295 then some (true, { s with a := s.C f3 }) else none := rfl
    rw [if_pos hK] at e0
    obtain ⟨h1, h2⟩ := step_mv 96 f3 f1 f2 d0 d1 d2 d3 d4 d5 d6 d7 d8 s s' _ q rfl e0 hst
    subst h2
    have e : fairleadref06_Step.g k 96 f1 f2 f3 d0 d1 d2 d3 d4 d5 d6 d7 d8 T ⟨s.a, s.x, s.o, s.r, C⟩ = if 0 ≤ f3 ∧ f3 < 16 then some (T, (⟨C f3, s.x, s.o, s.r, C⟩ : StS)) else none := rfl
    rw [e, if_pos ⟨hK.1, hf⟩]
    exact ⟨_, _, rfl, hC _ hK.1 hf, rfl, rfl, rfl, hC, fun _ => ⟨by rw [h1, wT], hr⟩⟩
  · have hf := e96 (.inr (.inl rfl))
    have e0 : vm_MV 97 f3 s = if 0 ≤ f3 ∧ f3 ≤ 4294967295 then some (true, { s with x := s.C f3 }) else none := rfl
    rw [if_pos hK] at e0
    obtain ⟨h1, h2⟩ := step_mv 97 f3 f1 f2 d0 d1 d2 d3 d4 d5 d6 d7 d8 s s' _ q rfl e0 hst
    subst h2
    have e : fairleadref06_Step.g k 97 f1 f2 f3 d0 d1 d2 d3 d4 d5 d6 d7 d8 T ⟨s.a, s.x, s.o, s.r, C⟩ = if 0 ≤ f3 ∧ f3 < 16 then some (T, (⟨s.a, C f3, s.o, s.r, C⟩ : StS)) else none := rfl
    rw [e, if_pos ⟨hK.1, hf⟩]
    exact ⟨_, _, rfl, rfl, hC _ hK.1 hf, rfl, rfl, hC, fun _ => ⟨by rw [h1, wT], hr⟩⟩
  · have hf := e96 (.inr (.inr (.inl rfl)))
    have e0 : vm_MV 2 f3 s = if (0 ≤ f3 ∧ f3 ≤ 4294967295) ∧ 0 ≤ s.a ∧ s.a ≤ 4294967295 then some (true, { s with C := fun j => if j = f3 then s.a else s.C j }) else none := rfl
    rw [if_pos ⟨hK, hsa⟩] at e0
    obtain ⟨h1, h2⟩ := step_mv 2 f3 f1 f2 d0 d1 d2 d3 d4 d5 d6 d7 d8 s s' _ q rfl e0 hst
    subst h2
    have e : fairleadref06_Step.g k 2 f1 f2 f3 d0 d1 d2 d3 d4 d5 d6 d7 d8 T ⟨s.a, s.x, s.o, s.r, C⟩ = if 0 ≤ f3 ∧ f3 < 16 then some (T, (⟨s.a, s.x, s.o, s.r, fun j => if j = f3 then s.a else C j⟩ : StS)) else none := rfl
    rw [e, if_pos ⟨hK.1, hf⟩]
    exact ⟨_, _, rfl, rfl, rfl, rfl, rfl, fun j j0 j1 => by show (if j = f3 then s.a else C j) = if j = f3 then s.a else s.C j; rw [hC j j0 j1], fun _ => ⟨by rw [h1, wT], hr⟩⟩
  · have hf := e96 (.inr (.inr (.inr rfl)))
    have e0 : vm_MV 3 f3 s = if (0 ≤ f3 ∧ f3 ≤ 4294967295) ∧ 0 ≤ s.x ∧ s.x ≤ 4294967295 then some (true, { s with C := fun j => if j = f3 then s.x else s.C j }) else none := rfl
    rw [if_pos ⟨hK, hsx⟩] at e0
    obtain ⟨h1, h2⟩ := step_mv 3 f3 f1 f2 d0 d1 d2 d3 d4 d5 d6 d7 d8 s s' _ q rfl e0 hst
    subst h2
    have e : fairleadref06_Step.g k 3 f1 f2 f3 d0 d1 d2 d3 d4 d5 d6 d7 d8 T ⟨s.a, s.x, s.o, s.r, C⟩ = if 0 ≤ f3 ∧ f3 < 16 then some (T, (⟨s.a, s.x, s.o, s.r, fun j => if j = f3 then s.x else C j⟩ : StS)) else none := rfl
    rw [e, if_pos ⟨hK.1, hf⟩]
    exact ⟨_, _, rfl, rfl, rfl, rfl, rfl, fun j j0 j1 => by show (if j = f3 then s.x else C j) = if j = f3 then s.x else s.C j; rw [hC j j0 j1], fun _ => ⟨by rw [h1, wT], hr⟩⟩
  · obtain ⟨h1, h2⟩ := step_mv 132 f3 f1 f2 d0 d1 d2 d3 d4 d5 d6 d7 d8 s s' _ q rfl rfl hst
    subst h2
    exact ⟨_, _, rfl, rfl, rfl, rfl, rfl, hC, fun _ => ⟨by rw [h1, wT], hr⟩⟩
  · obtain ⟨h1, h2⟩ := step_mv 7 f3 f1 f2 d0 d1 d2 d3 d4 d5 d6 d7 d8 s s' _ q rfl rfl hst
    subst h2
    exact ⟨_, _, rfl, rfl, rfl, rfl, rfl, hC, fun _ => ⟨by rw [h1, wT], hr⟩⟩
  · obtain ⟨h1, h2⟩ := step_mv 135 f3 f1 f2 d0 d1 d2 d3 d4 d5 d6 d7 d8 s s' _ q rfl rfl hst
    subst h2
    exact ⟨_, _, rfl, rfl, rfl, rfl, rfl, hC, fun _ => ⟨by rw [h1, wT], hr⟩⟩
  · exact R 4 4 f3 (by decide) (fun e => absurd e (by decide)) hK.1 rfl rfl rfl rfl rfl
  · exact R 12 4 s.x (by decide) (fun e => absurd e (by decide)) hsx.1 rfl rfl rfl rfl rfl
  · exact R 20 20 f3 (by decide) (fun e => absurd e (by decide)) hK.1 rfl rfl rfl rfl rfl
  · exact R 28 20 s.x (by decide) (fun e => absurd e (by decide)) hsx.1 rfl rfl rfl rfl rfl
  · exact R 36 36 f3 (by decide) (fun e => absurd e (by decide)) hK.1 rfl rfl rfl rfl rfl
  · exact R 44 36 s.x (by decide) (fun e => absurd e (by decide)) hsx.1 rfl rfl rfl rfl rfl
  · refine R 52 52 f3 (by decide) (fun _ => n52 rfl) hK.1 rfl rfl rfl rfl ?_
    have e : fairleadref06_Step.g k 52 f1 f2 f3 d0 d1 d2 d3 d4 d5 d6 d7 d8 T ⟨s.a, s.x, s.o, s.r, C⟩ = if f3 = 0 then some (T, (⟨s.a, s.x, true, s.r, C⟩ : StS)) else (fairleadref06_reckon.f k 52 s.a f3).bind fun v => some (T, (⟨v, s.x, s.o, s.r, C⟩ : StS)) := rfl
    rw [e, if_neg (n52 rfl)]
  · have e : fairleadref06_Step.g k 60 f1 f2 f3 d0 d1 d2 d3 d4 d5 d6 d7 d8 T ⟨s.a, s.x, s.o, s.r, C⟩ = if s.x = 0 then some (T, (⟨s.a, s.x, true, s.r, C⟩ : StS)) else (fairleadref06_reckon.f k 52 s.a s.x).bind fun v => some (T, (⟨v, s.x, s.o, s.r, C⟩ : StS)) := rfl
    by_cases hx : s.x = 0
    · have := step_ot 60 f3 f1 f2 d0 d1 d2 d3 d4 d5 d6 d7 d8 s s' q rfl rfl hs hK hst
      have e1 : vm_ST 60 f1 f2 f3 s = (0, { s with a := (vm_RK 52 s.a s.x s.o s.r).1, o := (vm_RK 52 s.a s.x s.o s.r).2.1, r := (vm_RK 52 s.a s.x s.o s.r).2.2 }) := rfl
      have e2 : vm_RK 52 s.a s.x s.o s.r = (if (s.x == 0) = true then (s.a, true, 0) else (Int.tdiv s.a s.x % 4294967296, s.o, s.r)) := rfl
      rw [if_pos (by simpa using hx)] at e2
      rw [e1, e2] at this
      injection this with h1 h2
      subst h2
      rw [e, if_pos hx]
      exact ⟨_, _, rfl, rfl, rfl, rfl, hr, hC, fun e => by cases e⟩
    · refine R 60 52 s.x (by decide) (fun _ => hx) hsx.1 rfl rfl rfl rfl ?_
      rw [e, if_neg hx]
  · exact R 68 68 f3 (by decide) (fun e => absurd e (by decide)) hK.1 rfl rfl rfl rfl rfl
  · exact R 76 68 s.x (by decide) (fun e => absurd e (by decide)) hsx.1 rfl rfl rfl rfl rfl
  · exact R 84 84 f3 (by decide) (fun e => absurd e (by decide)) hK.1 rfl rfl rfl rfl rfl
  · exact R 92 84 s.x (by decide) (fun e => absurd e (by decide)) hsx.1 rfl rfl rfl rfl rfl
  · exact R 100 100 f3 (by decide) (fun e => absurd e (by decide)) hK.1 rfl rfl rfl rfl rfl
  · exact R 108 100 s.x (by decide) (fun e => absurd e (by decide)) hsx.1 rfl rfl rfl rfl rfl
  · exact R 116 116 f3 (by decide) (fun e => absurd e (by decide)) hK.1 rfl rfl rfl rfl rfl
  · exact R 124 116 s.x (by decide) (fun e => absurd e (by decide)) hsx.1 rfl rfl rfl rfl rfl
  · exact R 164 164 f3 (by decide) (fun e => absurd e (by decide)) hK.1 rfl rfl rfl rfl rfl
  · exact R 172 164 s.x (by decide) (fun e => absurd e (by decide)) hsx.1 rfl rfl rfl rfl rfl
  · have := step_ot 5 f3 f1 f2 d0 d1 d2 d3 d4 d5 d6 d7 d8 s s' q rfl rfl hs hK hst
    have e1 : vm_ST 5 f1 f2 f3 s = (wrap64 f3, s) := rfl
    rw [e1] at this
    injection this with h1 h2
    subst h2
    exact ⟨_, _, rfl, rfl, rfl, rfl, rfl, hC, fun _ => ⟨by rw [← h1], hr⟩⟩
  · exact J 21 21 f3 (by decide) rfl rfl rfl rfl rfl
  · exact J 37 37 f3 (by decide) rfl rfl rfl rfl rfl
  · exact J 53 53 f3 (by decide) rfl rfl rfl rfl rfl
  · exact J 69 69 f3 (by decide) rfl rfl rfl rfl rfl
  · exact J 29 21 s.x (by decide) rfl rfl rfl rfl rfl
  · exact J 45 37 s.x (by decide) rfl rfl rfl rfl rfl
  · exact J 61 53 s.x (by decide) rfl rfl rfl rfl rfl
  · exact J 77 69 s.x (by decide) rfl rfl rfl rfl rfl
  · obtain ⟨h1, h2⟩ := step_mv 6 f3 f1 f2 d0 d1 d2 d3 d4 d5 d6 d7 d8 s s' _ q rfl rfl hst
    subst h2
    exact ⟨_, _, rfl, rfl, rfl, rfl, rfl, hC, fun e => by cases e⟩
  · obtain ⟨h1, h2⟩ := step_mv 22 f3 f1 f2 d0 d1 d2 d3 d4 d5 d6 d7 d8 s s' _ q rfl rfl hst
    subst h2
    exact ⟨_, _, rfl, rfl, rfl, rfl, rfl, hC, fun e => by cases e⟩
/-- The document's step of a state that is a machine's. -/
theorem step_is (k : Nat) (hk : 100 ≤ k) {d0 d1 d2 d3 d4 d5 d6 d7 d8 : Int} (hd : DOk d0 d1 d2 d3 d4 d5 d6 d7 d8) {l : List S53} (ho : ∀ x ∈ l, InsOk x) (hl : l.length ≤ 4096) (i : Nat) (hi : i < l.length) (hw : wrongOf ((l.length - 1 - i : Nat) : Int) (rd_T53 l i) = 0) (s : VmS) (hs : SOk s) (hso : s.o = false) (hr : s.r = 0) (C : Int → Int) (hC : ∀ j, 0 ≤ j → j < 16 → C j = s.C j) (q : Int) (s' : VmS) (hst : vm_step.f 7 (rd_T53 l i).f0 (rd_T53 l i).f1 (rd_T53 l i).f2 (rd_T53 l i).f3 d0 d1 d2 d3 d4 d5 d6 d7 d8 s = some (q, s')) :
    ∃ T' C', fairleadref06_Step.g k (rd_T53 l i).f0 (rd_T53 l i).f1 (rd_T53 l i).f2 (rd_T53 l i).f3 d0 d1 d2 d3 d4 d5 d6 d7 d8 (wrap64 (i + 1)) ⟨s.a, s.x, s.o, s.r, C⟩ = some (T', ⟨s'.a, s'.x, s'.o, s'.r, C'⟩) ∧ (∀ j, 0 ≤ j → j < 16 → C' j = s'.C j) ∧ (s'.o = false → T' = wrap64 (wrap64 (i + 1) + q) ∧ s'.r = 0) := by
  have hi1 : wrap64 ((i : Int) + 1) = (i : Int) + 1 := w64_id (by omega) (by omega)
  obtain ⟨T', u, h1, h2, h3, h4, h5, h6, h7⟩ := step_ref k hk hd _ _ _ _ _ hw (rd_ok ho i hi) s hs hso hr C hC q s' hst (wrap64 (i + 1)) (by omega)
  obtain ⟨ua, ux, uo, ur, uC⟩ := u
  simp only at h2 h3 h4 h5 h6
  subst h2 h3 h4 h5
  exact ⟨T', uC, h1, h6, h7⟩
theorem step_okS (l : List S53) (ho : ∀ x ∈ l, InsOk x) (i : Nat) (hi : i < l.length) (hw : wrongOf ((l.length - 1 - i : Nat) : Int) (rd_T53 l i) = 0) {d0 d1 d2 d3 d4 d5 d6 d7 d8 : Int} (hd : DOk d0 d1 d2 d3 d4 d5 d6 d7 d8) (s : VmS) (hs : SOk s) (hso : s.o = false) (q : Int) (s' : VmS) (hst : vm_step.f 7 (rd_T53 l i).f0 (rd_T53 l i).f1 (rd_T53 l i).f2 (rd_T53 l i).f3 d0 d1 d2 d3 d4 d5 d6 d7 d8 s = some (q, s')) : SOk s' := by
  obtain ⟨q1, s1, h1, h2, _⟩ := step_ok 7 (Nat.le_refl _) hd ((l.length - 1 - i : Nat) : Int) _ _ _ _ (by omega) hw (rd_ok ho i hi) s hs hso
  rw [hst] at h1
  injection h1 with h1
  injection h1 with h3 h4
  rw [h4]
  exact h2
end Go.Proofs.Yteojfjlklikaoaa.Pure
