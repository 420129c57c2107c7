/- Layer 15 (stack), plain: what the filters answer, and which answer is the stack's. -/
import Derived.Test.YteojfjlklikaoaaP5Mx0
import Derived.Test.YteojfjlklikaoaaP5Mx3
import Derived.Test.YteojfjlklikaoaaP5Mx5
import Derived.Test.YteojfjlklikaoaaP5Mx6
import Derived.Test.YteojfjlklikaoaaP5Mx9
import Derived.Test.YteojfjlklikaoaaP5Mx13
import Derived.Test.YteojfjlklikaoaaP5Mx16
import Derived.Test.YteojfjlklikaoaaP5Aid
import Derived.OpenShut
import Derived.Test.YteojfjlklikaoaaP5L00
import Derived.Test.YteojfjlklikaoaaP5L03k
import Derived.Test.YteojfjlklikaoaaP5L05
import Derived.Test.YteojfjlklikaoaaP5L05b
import Derived.Test.YteojfjlklikaoaaP5L04a
import Derived.Test.YteojfjlklikaoaaP5L04p
import Derived.Test.YteojfjlklikaoaaP5L06
import Derived.Test.YteojfjlklikaoaaP5L06r
import Derived.Test.YteojfjlklikaoaaP5L06s
import Derived.Test.YteojfjlklikaoaaP5L15a
import Derived.Test.YteojfjlklikaoaaP5L15b
namespace Go.Proofs.Yteojfjlklikaoaa.Pure
open Go Go.RowKit Go.Proofs.Yteojfjlklikaoaa.M Go.Proofs.Yteojfjlklikaoaa.Aid Go.Proofs.YteojfjlklikaoaaW.PrintWords Go.Proofs.YteojfjlklikaoaaW.PrintLast Go.Proofs.YteojfjlklikaoaaW.PrintMore
set_option linter.unusedVariables false
set_option linter.unusedSimpArgs false
-- NEEDS check_Check.f fairleadref05_Check.f vm_Run.f fairleadref06_Run.f act_Most.f act_Of.f fairleadref07_Of.f fairleadref07_Most.f fairleadlaw15_few.f fairleadlaw15_awake.P BUILT ATT stVals stFind vm_play.f vm_step.f vm_MV vm_ST VmS fit_built
-- LIB Derived.OpenShut
-- IMPORT L00
-- IMPORT L03k
-- IMPORT L05
-- IMPORT L05b
-- IMPORT L04a
-- IMPORT L04p
-- IMPORT L06
-- IMPORT L06r
-- IMPORT L06s
-- IMPORT L15a
-- IMPORT L15b
theorem few_loop (L : List (List S53)) (d : Nat) : ∀ (k i : Nat) (x3 : Int), i + d = 40 → d < k → ∃ b, fairleadlaw15_few.l0 k L x3 i = some b ∧ (b = true → L.length ≤ 40) := by
  have fin : ∀ x3 : Int, ∃ b, (if (L.length : Int) ≤ 40 then some (decide (x3 ≤ 60000)) else some false) = some b ∧ (b = true → L.length ≤ 40) := fun x3 => by
    by_cases h : (L.length : Int) ≤ 40
    · rw [if_pos h]; exact ⟨_, rfl, fun _ => by omega⟩
    · rw [if_neg h]; exact ⟨_, rfl, fun h => by cases h⟩
  induction d with
  | zero =>
    intro k i x3 h1 h2
    obtain ⟨k, rfl⟩ : ∃ m, k = m + 1 := ⟨k - 1, by omega⟩
    simp only [fairleadlaw15_few.l0]
    rw [if_neg (show ¬ (i : Int) < 40 by omega), ite_self]
    exact fin x3
  | succ d ih =>
    intro k i x3 h1 h2
    obtain ⟨k, rfl⟩ : ∃ m, k = m + 1 := ⟨k - 1, by omega⟩
    simp only [fairleadlaw15_few.l0]
    rw [if_pos (show (i : Int) < 40 by omega), if_pos (show (0 : Int) ≤ i by omega), show wrap64 ((i : Int) + 1) = ((i + 1 : Nat) : Int) by rw [w64_id (by omega) (by omega)]; omega]
    by_cases h : (i : Int) < (L.length : Int)
    · rw [if_pos h]; exact ih k (i + 1) _ (by omega) (by omega)
    · rw [if_neg h]; exact fin x3
theorem few_is (L : List (List S53)) (k : Nat) (hk : 50 ≤ k) : ∃ b, fairleadlaw15_few.f k L = some b ∧ (b = true → L.length ≤ 40) := few_loop L 40 k 0 0 (by omega) (by omega)
theorem if_r {p : Prop} [Decidable p] {x y : Option (Bool × VmS)} (hx : ∀ b s', x = some (b, s') → U32 s'.r) (hy : ∀ b s', y = some (b, s') → U32 s'.r) : ∀ b s', (if p then x else y) = some (b, s') → U32 s'.r := fun b s' h => by
  by_cases hp : p
  · rw [if_pos hp] at h; exact hx b s' h
  · rw [if_neg hp] at h; exact hy b s' h
theorem some_r {b : Bool} {t : VmS} (h : U32 t.r) : ∀ b' s', some (b, t) = some (b', s') → U32 s'.r := fun b' s' e => by
  have := Option.some.inj e
  have e2 : t = s' := congrArg Prod.snd this
  rw [← e2]; exact h
theorem none_r : ∀ b' s', (none : Option (Bool × VmS)) = some (b', s') → U32 s'.r := fun b' s' e => by cases e
theorem mv_r (c K : Int) (s : VmS) (hs : SOk s) (hK : U32 K) (hr : U32 s.r) : ∀ (b : Bool) (s' : VmS), vm_MV c K s = some (b, s') → U32 s'.r := by
  unfold vm_MV
  refine if_r (some_r hr) (if_r (some_r hr) (if_r (if_r (some_r hr) none_r) (if_r (if_r (some_r hr) none_r) (if_r (if_r (some_r hr) none_r) (if_r (if_r (some_r hr) none_r) (if_r (some_r hr) (if_r (some_r hr) (if_r (some_r hr) (if_r (some_r hK) (if_r (some_r hs.a) (some_r hr)))))))))))
theorem st_r (c jt jf K : Int) (s : VmS) (hr : U32 s.r) : U32 (vm_ST c jt jf K s).2.r := by
  have hrk : ∀ q n : Int, U32 (vm_RK q s.a n s.o s.r).2.2 := fun q n => by
    unfold vm_RK
    repeat' split
    all_goals first
      | exact hr | exact ⟨Int.le_refl _, by show (0 : Int) ≤ 4294967295; decide⟩
  have key : ∀ q n : Int, U32 (if (q == 5) = true then (wrap64 K, s) else if ((q == 21) || (q == 37) || (q == 53) || (q == 69)) = true then ((if vm_HL q s.a n = true then wrap64 jt else wrap64 jf), s) else (0, { s with a := (vm_RK q s.a n s.o s.r).1, o := (vm_RK q s.a n s.o s.r).2.1, r := (vm_RK q s.a n s.o s.r).2.2 })).2.r := fun q n => by
    by_cases h1 : (q == 5) = true
    · rw [if_pos h1]; exact hr
    · rw [if_neg h1]
      by_cases h2 : ((q == 21) || (q == 37) || (q == 53) || (q == 69)) = true
      · rw [if_pos h2]; exact hr
      · rw [if_neg h2]; exact hrk q n
  exact key _ _
theorem step_r {k : Nat} {c jt jf K d0 d1 d2 d3 d4 d5 d6 d7 d8 : Int} {s s' : VmS} {q : Int} (hs : SOk s) (hK : U32 K) (hr : U32 s.r) (h : vm_step.f k c jt jf K d0 d1 d2 d3 d4 d5 d6 d7 d8 s = some (q, s')) : U32 s'.r := by
  unfold vm_step.f vm_moves.f at h
  by_cases hc : (c == 32) = true
  · rw [if_pos hc] at h
    cases hl : data_Load.f k d0 d1 d2 d3 d4 d5 d6 d7 d8 K with
    | none => rw [hl] at h; cases h
    | some t => rw [hl] at h; cases h; exact hr
  · rw [if_neg hc] at h
    cases hm : vm_MV c K s with
    | none => rw [hm] at h; cases h
    | some p =>
      obtain ⟨b, t⟩ := p
      rw [hm] at h
      have ht := mv_r c K s hs hK hr b t hm
      cases b with
      | true => cases h; exact ht
      | false =>
        have h' : (if 0 ≤ s.x ∧ 0 ≤ K ∧ K ≤ 4294967295 then some (vm_ST c jt jf K t) else none) = some (q, s') := h
        split at h'
        · have e : (vm_ST c jt jf K t).2 = s' := by rw [Option.some.inj h']
          rw [← e]; exact st_r c jt jf K t ht
        · cases h'
theorem runs_r {l : List S53} (ho : ∀ x ∈ l, InsOk x) (hw : ∀ j, j < l.length → wrongOf ((l.length - 1 - j : Nat) : Int) (rd_T53 l j) = 0) {d0 d1 d2 d3 d4 d5 d6 d7 d8 : Int} (hd : DOk d0 d1 d2 d3 d4 d5 d6 d7 d8) {i : Nat} {s : VmS} {P : List Int} {ans : Int} (h : Runs l d0 d1 d2 d3 d4 d5 d6 d7 d8 i s P ans) : SOk s → s.o = false → U32 s.r → U32 ans := by
  induction h with
  | @stop i s s' q hi hst ho' => exact fun hs hso hr => step_r hs (rd_ok ho i hi).2.2.2 hr hst
  | @go i s s' q P ans hi hst ho' hq0 hq _ ih => exact fun hs hso hr => ih (step_okS l ho i hi (hw i hi) hd s hs hso q s' hst) ho' (step_r hs (rd_ok ho i hi).2.2.2 hr hst)
/-- The answers of the filters to a call. -/
theorem val_ex {d0 d1 d2 d3 d4 d5 d6 d7 d8 : Int} (hd : DOk d0 d1 d2 d3 d4 d5 d6 d7 d8) : ∃ val : List S53 → Int, ∀ l, U32 (val l) ∧ ((∀ x ∈ l, InsOk x) → ∃ n, ∀ k, 6000 ≤ k → vm_Run.f k l d0 d1 d2 d3 d4 d5 d6 d7 d8 = some (val l, n, (CH l).1) ∧ fairleadref06_Run.f k l d0 d1 d2 d3 d4 d5 d6 d7 d8 = some (val l, n, (CH l).1)) := by
  have key : ∀ l : List S53, ∃ v : Int, U32 v ∧ ((∀ x ∈ l, InsOk x) → ∃ n, ∀ k, 6000 ≤ k → vm_Run.f k l d0 d1 d2 d3 d4 d5 d6 d7 d8 = some (v, n, (CH l).1) ∧ fairleadref06_Run.f k l d0 d1 d2 d3 d4 d5 d6 d7 d8 = some (v, n, (CH l).1)) := fun l => by
    by_cases ho : ∀ x ∈ l, InsOk x
    · rcases play_ok l ho hd with ⟨h1, h2, h3, P, ans, hr, hp⟩ | ⟨h1, hp⟩
      · obtain ⟨_, _, h4, _⟩ := CH_ok h1
        refine ⟨ans, runs_r ho (fun j hj => chk_all l 0 j h4 hj) hd hr s0_ok rfl ⟨Int.le_refl _, by decide⟩, fun _ => ⟨P.length, fun k hk => ?_⟩⟩
        rw [run_ref l ho hd k hk, h1]
        exact ⟨run_of (hp k (by omega)), run_of (hp k (by omega))⟩
      · refine ⟨0, ⟨Int.le_refl _, by decide⟩, fun _ => ⟨0, fun k hk => ?_⟩⟩
        rw [run_ref l ho hd k hk]
        exact ⟨run_of (hp k (by omega)), run_of (hp k (by omega))⟩
    · exact ⟨0, ⟨Int.le_refl _, by decide⟩, fun h => absurd h ho⟩
  exact Classical.axiomOfChoice key
theorem vals_ok {val : List S53 → Int} (h : ∀ l, U32 (val l)) (B : List (List S53)) : ∀ x ∈ stVals val B, 0 ≤ x ∧ x ≤ 4294967295 := fun x hx => by
  obtain ⟨l, _, rfl⟩ := List.mem_map.1 (List.mem_reverse.1 hx)
  exact h l
theorem vals_most {val : List S53 → Int} (h : ∀ l, U32 (val l)) (B : List (List S53)) (hl : B.length ≤ 40) : ∃ K, ∀ k, K ≤ k → act_Most.f k (stVals val B) = some (MST (stVals val B)) ∧ fairleadref07_Most.f k (stVals val B) = some (MST (stVals val B)) := by
  have e : (stVals val B).length ≤ 2000 := by simp [stVals]; omega
  obtain ⟨K1, h1⟩ := most_ev (stVals val B) (vals_ok h B) e
  obtain ⟨K2, h2⟩ := rmost_l0 (stVals val B) (vals_ok h B) e (stVals val B).length 0 (by omega) (fun j hj => by omega)
  refine ⟨K1 + K2, fun k hk => ⟨h1 k (by omega), ?_⟩⟩
  have h2' := h2 k (by omega)
  simp only [Int.natCast_zero] at h2'
  exact h2'
/-- What awake asks. -/
theorem awake15 : ∃ K, ∀ k, K ≤ k → fairleadlaw15_awake.P k := by
  obtain ⟨K, hK⟩ := most_ev [327681, 2147418112] (by intro x hx; simp only [List.mem_cons, List.not_mem_nil, or_false] at hx; rcases hx with rfl | rfl <;> decide) (by decide)
  have hm : MST [327681, 2147418112] = 327681 := by decide
  rw [hm] at hK
  have oa : ∀ x ∈ [w15a], InsOk x := by intro x hx; rw [List.mem_singleton.1 hx]; unfold InsOk; simp
  have ob : ∀ x ∈ [w15b], InsOk x := by intro x hx; rw [List.mem_singleton.1 hx]; unfold InsOk; simp
  have ca : CH [w15a] = (0, -1) := by decide
  have cb : CH [w15b] = (0, -1) := by decide
  refine ⟨K + 6000, fun k hk => ⟨(check_is _ oa k (by omega)).trans (by rw [ca]), (check_is _ ob k (by omega)).trans (by rw [cb]), ?_, ?_, hK k (by omega)⟩⟩
  · obtain ⟨k, rfl⟩ : ∃ m, k = m + 2 := ⟨k - 2, by omega⟩
    refine ⟨_, _, run_small (k + 2) (by omega) _ oa (by rw [ca]) 0 0 0 0 0 0 0 0 0 2147418112 [0] ?_⟩
    refine (l0_go (k + 1) _ 0 0 0 0 0 0 0 0 0 0 S0 [] 0 { S0 with o := true, r := 2147418112 } w15a rfl rfl ⟨by decide, by decide, by decide⟩ (st_moves (k + 1) 6 0 0 2147418112 0 0 0 0 0 0 0 0 0 _ _ rfl rfl) 1 (wr 0 (by decide) 0 (by decide))).trans ?_
    exact l0_end _ _ _ _ _ _ _ _ _ _ _ _ _ _ rfl
  · obtain ⟨k, rfl⟩ : ∃ m, k = m + 2 := ⟨k - 2, by omega⟩
    refine ⟨_, _, run_small (k + 2) (by omega) _ ob (by rw [cb]) 0 0 0 0 0 0 0 0 0 327681 [0] ?_⟩
    refine (l0_go (k + 1) _ 0 0 0 0 0 0 0 0 0 0 S0 [] 0 { S0 with o := true, r := 327681 } w15b rfl rfl ⟨by decide, by decide, by decide⟩ (st_moves (k + 1) 6 0 0 327681 0 0 0 0 0 0 0 0 0 _ _ rfl rfl) 1 (wr 0 (by decide) 0 (by decide))).trans ?_
    exact l0_end _ _ _ _ _ _ _ _ _ _ _ _ _ _ rfl
theorem ch_len {l : List S53} (h : (CH l).1 = 0) : 1 ≤ l.length ∧ l.length ≤ 4096 := by
  obtain ⟨h1, h2, _⟩ := CH_ok h
  omega
/-- Every program's check, by both. -/
theorem cks (L : List (List S53)) (ho : ∀ l ∈ L, ∀ x ∈ l, InsOk x) (k : Nat) (hk : 4200 ≤ k) : ∀ l ∈ L, ∃ p, check_Check.f k l = some ((CH l).1, p) := fun l hl => ⟨_, check_is l (ho l hl) k hk⟩
theorem built_in (ck : List S53 → Int) (L : List (List S53)) : ∀ l ∈ BUILT ck L, l ∈ L ∧ ck l = 0 := (fit_built ck L L (fun _ h => h)).mem
end Go.Proofs.Yteojfjlklikaoaa.Pure
