/- Layer 6 (vm), plain: a run, by the document. -/
import Derived.Test.YteojfjlklikaoaaP5Mx0
import Derived.Test.YteojfjlklikaoaaP5Mx12
import Derived.Test.YteojfjlklikaoaaP5Mx13
import Derived.Test.YteojfjlklikaoaaP5Aid
import Derived.OpenShut
import Derived.Test.YteojfjlklikaoaaP5L00
import Derived.Test.YteojfjlklikaoaaP5L03k
import Derived.Test.YteojfjlklikaoaaP5L05
import Derived.Test.YteojfjlklikaoaaP5L05b
import Derived.Test.YteojfjlklikaoaaP5L06
import Derived.Test.YteojfjlklikaoaaP5L06r
namespace Go.Proofs.Yteojfjlklikaoaa.Pure
open Go Go.RowKit Go.Proofs.Yteojfjlklikaoaa.M Go.Proofs.Yteojfjlklikaoaa.Aid Go.Proofs.YteojfjlklikaoaaW.PrintWords Go.Proofs.YteojfjlklikaoaaW.PrintLast Go.Proofs.YteojfjlklikaoaaW.PrintMore
set_option linter.unusedVariables false
set_option linter.unusedSimpArgs false
-- NEEDS fairleadref06_Run.f fairleadref06_Step.f fairleadlaw06_awake.f
-- LIB Derived.OpenShut
-- IMPORT L00
-- IMPORT L03k
-- IMPORT L05
-- IMPORT L05b
-- IMPORT L06
-- IMPORT L06r
theorem Run_stop (k : Nat) (l : List S53) (c d0 d1 d2 d3 d4 d5 d6 d7 d8 T n : Int) (s : StS) (ho : s.o = true) : fairleadref06_Run.l0 (k + 1) l c d0 d1 d2 d3 d4 d5 d6 d7 d8 T n s = some (s.r, n, 0) := by
  simp only [fairleadref06_Run.l0]
  by_cases h : c ≤ (l.length : Int)
  · rw [if_pos h, if_pos ho]
  · rw [if_neg h]
theorem runs_ref {l : List S53} (hl : l.length ≤ 4096) (hok : ∀ x ∈ l, InsOk x) (hw : ∀ j, j < l.length → wrongOf ((l.length - 1 - j : Nat) : Int) (rd_T53 l j) = 0) {d0 d1 d2 d3 d4 d5 d6 d7 d8 : Int} (hd : DOk d0 d1 d2 d3 d4 d5 d6 d7 d8) {i : Nat} {s : VmS} {P : List Int} {ans : Int} (h : Runs l d0 d1 d2 d3 d4 d5 d6 d7 d8 i s P ans) : ∀ (k n : Nat) (C : Int → Int), P.length + 200 < k → n ≤ i → SOk s → s.o = false → s.r = 0 → (∀ j, 0 ≤ j → j < 16 → C j = s.C j) → fairleadref06_Run.l0 k l n d0 d1 d2 d3 d4 d5 d6 d7 d8 i n ⟨s.a, s.x, s.o, s.r, C⟩ = some (ans, ((n + P.length : Nat) : Int), 0) := by
  induction h with
  | @stop i s s' q hi hst ho =>
    intro k n C hk hn hs hso hr hC
    obtain ⟨k, rfl⟩ : ∃ m, k = m + 2 := ⟨k - 2, by simp at hk; omega⟩
    obtain ⟨T', C', h1, _⟩ := step_is (k + 1) (by simp at hk; omega) hd hok hl i hi (hw i hi) s hs hso hr C hC q s' hst
    have hn1 : (n : Int) ≤ l.length := by omega
    have hsn : ¬ (s.o = true) := by rw [hso]; decide
    have wn : wrap64 ((n : Int) + 1) = ((n + 1 : Nat) : Int) := by rw [w64_id (by omega) (by omega)]; omega
    have e := Run_stop k l (wrap64 ((n : Int) + 1)) d0 d1 d2 d3 d4 d5 d6 d7 d8 T' (wrap64 ((n : Int) + 1)) ⟨s'.a, s'.x, s'.o, s'.r, C'⟩ ho
    rw [show k + 2 = (k + 1) + 1 from rfl, fairleadref06_Run.l0.eq_2, if_pos hn1, if_neg hsn, if_pos ⟨by omega, by omega⟩, h1, Option.bind_some]
    rw [e, wn]
    rfl
  | @go i s s' q P ans hi hst ho hq0 hq hr' ih =>
    intro k n C hk hn hs hso hr hC
    simp only [List.length_cons] at hk
    obtain ⟨k, rfl⟩ : ∃ m, k = m + 1 := ⟨k - 1, by omega⟩
    obtain ⟨T', C', h1, h3, h2⟩ := step_is k (by omega) hd hok hl i hi (hw i hi) s hs hso hr C hC q s' hst
    have hn1 : (n : Int) ≤ l.length := by omega
    have hsn : ¬ (s.o = true) := by rw [hso]; decide
    have e := ih k (n + 1) C' (by omega) (by omega) (step_okS l hok i hi (hw i hi) hd s hs hso q s' hst) ho (h2 ho).2 h3
    have hT : 0 ≤ (i : Int) ∧ (i : Int) < (l.length : Int) := ⟨by omega, by omega⟩
    have wn : wrap64 ((n : Int) + 1) = ((n + 1 : Nat) : Int) := by rw [w64_id (by omega) (by omega)]; omega
    have wi : wrap64 (wrap64 ((i : Int) + 1) + q) = ((i + q.toNat + 1 : Nat) : Int) := by rw [w64_id (x := (i : Int) + 1) (by omega) (by omega), w64_id (by omega) (by omega)]; omega
    rw [fairleadref06_Run.l0.eq_2, if_pos hn1, if_neg hsn, if_pos hT, h1, Option.bind_some]
    rw [(h2 ho).1, wi, wn, e]
    rw [List.length_cons, show ((n + 1 + P.length : Nat) : Int) = ((n + (P.length + 1) : Nat) : Int) from by omega]
/-- The document's run is the machine's. -/
theorem run_ref (l : List S53) (hok : ∀ x ∈ l, InsOk x) {d0 d1 d2 d3 d4 d5 d6 d7 d8 : Int} (hd : DOk d0 d1 d2 d3 d4 d5 d6 d7 d8) (k : Nat) (hk : 6000 ≤ k) : fairleadref06_Run.f k l d0 d1 d2 d3 d4 d5 d6 d7 d8 = vm_Run.f k l d0 d1 d2 d3 d4 d5 d6 d7 d8 := by
  unfold fairleadref06_Run.f
  rw [rcheck_is l hok k (by omega)]
  simp only [Option.bind_some]
  rcases play_ok l hok hd with ⟨h1, h2, h3, P, ans, hr, hp⟩ | ⟨h1, hp⟩
  · rw [if_pos h1, run_of (hp k (by omega))]
    have hc := CH_ok h1
    have hP := (runs_len hr)
    have := runs_ref h2 hok (fun j hj => chk_all l 0 j hc.2.2.1 hj) hd hr k 0 (fun _ => 0) (by omega) (Nat.le_refl _) s0_ok rfl rfl (fun _ _ _ => rfl)
    rw [show ((0 + P.length : Nat) : Int) = (P.length : Int) from by omega] at this
    exact this
  · rw [if_neg h1, run_of (hp k (by omega))]
    rfl
end Go.Proofs.Yteojfjlklikaoaa.Pure
