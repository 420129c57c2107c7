/- The law CheckAhead, as numbers and lists: what the printed functions say of it is true for every input that the row lets in. -/
import Derived.Test.YtojaklonmikldaaMx9
import Derived.Test.YtojaklonmikldaaAid
import Derived.Test.YtojaklonmikldaaL03k
import Derived.Test.YtojaklonmikldaaL05
import Derived.Test.YtojaklonmikldaaL05b
import Derived.Test.YtojaklonmikldaaL05n
namespace Go.Proofs.Ytojaklonmikldaa.Pure
open Go Go.RowKit Go.Proofs.Ytojaklonmikldaa.M Go.Proofs.Ytojaklonmikldaa.Aid Go.Proofs.YtojaklonmikldaaW.PrintWords Go.Proofs.YtojaklonmikldaaW.PrintLast Go.Proofs.YtojaklonmikldaaW.PrintMore
set_option linter.unusedVariables false
set_option linter.unusedSimpArgs false

-- IMPORT L03k
-- IMPORT L05
-- IMPORT L05b
-- IMPORT L05n
theorem w3_0 {b f0 f1 f2 f3 : Int} (h : wrongI b f0 f1 f2 f3 = 0) : w3 b f0 f1 f2 f3 = 0 := by
  unfold wrongI at h
  split at h
  · split at h
    · omega
    · unfold w0 at h
      split at h
      · omega
      · unfold w1 at h
        split at h
        · omega
        · exact h
  · omega
theorem w4_0 {b f0 f1 f2 f3 : Int} (h : w3 b f0 f1 f2 f3 = 0) : (f0 = 5 → f3 < b) ∧ w4 b f0 f1 f2 = 0 := by
  unfold w3 at h
  split at h
  · omega
  · exact ⟨fun e => by omega, h⟩
theorem w5_0 {b f0 f1 f2 : Int} (h : w4 b f0 f1 f2 = 0) : (f0 ≠ 5 → Jmps f0 → f1 < b ∧ f2 < b) ∧ w5 b f0 = 0 := by
  unfold w4 at h
  split at h
  · exact ⟨fun e => absurd ‹_› e, h⟩
  · split at h
    · split at h
      · omega
      · exact ⟨fun _ _ => by omega, h⟩
    · exact ⟨fun _ e => absurd e ‹_›, h⟩
theorem far_lt {b : Int} {x : S32} (hb : 0 ≤ b) (h : wrongOf b x = 0) : ∀ n ∈ farI x, n < b := by
  unfold wrongOf at h
  obtain ⟨h5, h⟩ := w4_0 (w3_0 h)
  obtain ⟨hj, h⟩ := w5_0 h
  intro n hn
  unfold farI at hn
  split at hn
  · rename_i c
    rw [List.mem_singleton.1 hn]
    exact h5 c
  · rename_i c
    split at hn
    · rename_i cj
      have hjj := hj c cj
      split at hn
      · rw [List.mem_singleton.1 hn]; unfold mn; split <;> omega
      · simp only [List.mem_cons, List.not_mem_nil, or_false] at hn
        rcases hn with rfl | rfl
        · unfold mn; split <;> omega
        · unfold mx; split <;> omega
    · split at hn
      · simp at hn
      · rw [List.mem_singleton.1 hn]
        unfold w5 at h
        split at h
        · simp_all
        · omega
theorem next_all {b i : Int} {x : S32} (hb : 0 ≤ b) (h : wrongOf b x = 0) : nextI b i x = (farI x).map fun n => i + 1 + n := by
  unfold nextI
  rw [List.filter_eq_self.2]
  intro n hn
  exact decide_eq_true (far_lt hb h n hn)
theorem far_len {x : S32} : ((farI x).length = 0 ↔ Endd x.f0) := by
  unfold farI
  split
  · rename_i c; rw [c]; simp [Endd]
  · split
    · rename_i cj
      have : ¬ Endd x.f0 := by unfold Jmps at cj; unfold Endd; omega
      split <;> simp [this]
    · split <;> simp_all
/-- The list of one instruction passes the law's look at it. -/
theorem ahead_l1 (l : List S32) (t : Bool) (i : Nat) (a : List Int) (ha : ∀ n ∈ a, (i : Int) < n ∧ n < l.length)
    (hr : ∀ j, j + 1 < a.length → rd a j < rd a ((j + 1 : Nat) : Int)) (hl : a.length ≤ 10) (r : Bool)
    (h : Ev (fun k => fairleadlaw05_CheckAhead.l0 k l t (wrap64 ((i : Int) + 1))) r) (d : Nat) : ∀ j : Nat, j + d = a.length →
    Ev (fun k => fairleadlaw05_CheckAhead.l1 k l t i a j) r := by
  induction d with
  | zero =>
    intro j hj
    refine Ev.step (f := fun k => fairleadlaw05_CheckAhead.l0 k l t (wrap64 ((i : Int) + 1))) (fun k => ?_) h
    simp only [fairleadlaw05_CheckAhead.l1]
    rw [if_neg (by omega)]
  | succ d ih =>
    intro j hj
    have hm := ha _ (rd_memI a j (by omega))
    have w : wrap64 ((j : Int) + 1) = ((j + 1 : Nat) : Int) := by unfold wrap64; omega
    refine Ev.step (f := fun k => fairleadlaw05_CheckAhead.l1 k l t i a ((j + 1 : Nat) : Int)) (fun k => ?_) (ih (j + 1) (by omega))
    simp only [fairleadlaw05_CheckAhead.l1, w]
    clear w h
    rw [if_pos (by omega), if_pos (by omega), if_neg (by omega), if_neg (by omega)]
    by_cases hj0 : j = 0
    · rw [if_neg (by omega)]
    · obtain ⟨j, rfl⟩ : ∃ m, j = m + 1 := ⟨j - 1, by omega⟩
      have hlt := hr j (by omega)
      have w : wrap64 (((j + 1 : Nat) : Int) - 1) = (j : Int) := by unfold wrap64; omega
      simp only [w]
      clear w
      rw [if_pos (by omega), if_pos (by omega), if_pos (by omega), if_neg (by omega)]
theorem ahead_l0 (l : List S32) (ho : ∀ x ∈ l, InsOk x) (hl : l.length ≤ 4096) (hw : ∀ j : Nat, j < l.length → wrongOf ((l.length - 1 - j : Nat) : Int) (rd_T32 l j) = 0) (t : Bool) (d : Nat) : ∀ i : Nat, i + d = l.length →
    Ev (fun k => fairleadlaw05_CheckAhead.l0 k l t i) t := by
  induction d with
  | zero =>
    intro i hi
    refine Ev.step (f := fun _ => some t) (fun k => ?_) (Ev.now _)
    simp only [fairleadlaw05_CheckAhead.l0]
    rw [if_neg (by omega)]
  | succ d ih =>
    intro i hi
    have hx := rd_ok ho i (by omega)
    have hwi := hw i (by omega)
    have hb : (0 : Int) ≤ ((l.length - 1 - i : Nat) : Int) := by omega
    have eN : nextI ((l.length : Int) - 1 - i) i (rd_T32 l i) = (farI (rd_T32 l i)).map fun n => (i : Int) + 1 + n := by
      rw [show (l.length : Int) - 1 - i = ((l.length - 1 - i : Nat) : Int) from by omega]
      exact next_all hb hwi
    have hE : Ev (fun k => check_Next.f k l i) ((farI (rd_T32 l i)).map fun n => (i : Int) + 1 + n) := ⟨20, fun k hk => by
      show check_Next.f k l i = _; rw [next_is l ho hl i k hk, if_pos ⟨by omega, by omega⟩, eN]⟩
    have hfar := far_lt hb hwi
    have hfo := farI_ok hx
    generalize ha : (farI (rd_T32 l i)).map (fun n => (i : Int) + 1 + n) = a at hE
    have hal : a.length = (farI (rd_T32 l i)).length := by rw [← ha, List.length_map]
    have hnx : Ev (fun k => fairleadlaw05_CheckAhead.l0 k l t (wrap64 ((i : Int) + 1))) t := by
      have w : wrap64 ((i : Int) + 1) = ((i + 1 : Nat) : Int) := by unfold wrap64; omega
      rw [w]
      exact ih (i + 1) (by omega)
    have h1 : Ev (fun k => fairleadlaw05_CheckAhead.l1 k l t i a 0) t := by
      refine ahead_l1 l t i a (fun n hn => ?_) (fun j hj => ?_) (by omega) t hnx a.length 0 (by omega)
      · rw [← ha] at hn
        obtain ⟨m, hm, rfl⟩ := List.mem_map.1 hn
        have := hfar m hm
        have := hfo.1 m hm
        omega
      · have hj0 : j = 0 := by omega
        subst hj0
        rw [← ha] at hj ⊢
        rw [List.length_map] at hj
        unfold farI at hj ⊢
        split at hj
        · simp at hj
        · split at hj
          · split at hj
            · simp at hj
            · rename_i c5 cj ce
              rw [if_neg c5, if_pos cj, if_neg ce]
              show (i : Int) + 1 + _ < (i : Int) + 1 + _
              have : mn (rd_T32 l i).f1 (rd_T32 l i).f2 < mx (rd_T32 l i).f1 (rd_T32 l i).f2 := by
                unfold mn mx
                split <;> split <;> omega
              omega
          · split at hj <;> simp at hj
    have h3 : Ev (fun k => fairleadlaw05_CheckAhead.j3 k l t i a (decide ((a.length : Int) > 2))) t := by
      refine Ev.step (fun k => ?_) h1
      simp only [fairleadlaw05_CheckAhead.j3]
      rw [if_neg]
      intro e
      have := of_decide_eq_true e
      omega
    have h2 : Ev (fun k => fairleadlaw05_CheckAhead.j2 k l t i a (decide (Endd (rd_T32 l i).f0))) t := by
      refine Ev.step (fun k => ?_) h3
      simp only [fairleadlaw05_CheckAhead.j2]
      rw [if_neg]
      by_cases he : Endd (rd_T32 l i).f0
      · have := far_len.2 he
        rw [show (a.length : Int) = 0 from by omega, decide_eq_true he]
        decide
      · have : ¬ (farI (rd_T32 l i)).length = 0 := fun e => he (far_len.1 e)
        rw [decide_eq_false he, beq_eq_false_iff_ne.2 (show (a.length : Int) ≠ 0 by omega)]
        decide
    refine Ev.step (f := fun k => (check_Next.f k l i).bind fun t230 => fairleadlaw05_CheckAhead.j2 k l t i t230 (decide (Endd (rd_T32 l i).f0))) (fun k => ?_) (Ev.bind hE h2)
    simp only [fairleadlaw05_CheckAhead.l0]
    rw [if_pos (by omega)]
    congr 1
    funext t230
    rw [if_pos (by omega)]
    by_cases c6 : (rd_T32 l i).f0 = 6
    · rw [if_pos c6, decide_eq_true (show Endd (rd_T32 l i).f0 from by unfold Endd; omega)]
    · rw [if_neg c6]
      congr 1
      by_cases c22 : (rd_T32 l i).f0 = 22
      · rw [c22, decide_eq_true (show Endd 22 by unfold Endd; omega)]; rfl
      · rw [beq_eq_false_iff_ne.2 c22, decide_eq_false (show ¬ Endd (rd_T32 l i).f0 by unfold Endd; omega)]
theorem CheckAhead : fairleadlaw05_CheckAhead.Pure := by
  intro l ⟨_, ho⟩
  suffices h : Ev (fun k => fairleadlaw05_CheckAhead.f k l) true by
    obtain ⟨K, hK⟩ := h
    exact ⟨K, hK K (Nat.le_refl _)⟩
  have ea : Ev (fun k => fairleadlaw05_awake.f k) true := ⟨4200 + 0, fun k hk => awake05 k hk⟩
  have ec : Ev (fun k => check_Check.f k l) (CH l) := ⟨4200 + 0, fun k hk => check_is l ho k hk⟩
  unfold fairleadlaw05_CheckAhead.f
  refine Ev.bind ea (Ev.bind ec ?_)
  by_cases h : (CH l).1 = 0
  · obtain ⟨h1, h2, h3, h4⟩ := CH_ok h
    rw [h4]
    refine Ev.congr (fun k => ?_) (Ev.step (g := fun k => fairleadlaw05_CheckAhead.j0 k l true false) (f := fun k => fairleadlaw05_CheckAhead.l0 k l true ((0 : Nat) : Int)) (fun k => ?_) (ahead_l0 l ho h2 (fun j hj => chk_all l 0 j h3 hj) true l.length 0 (by omega)))
    · rw [if_pos rfl, if_pos rfl, if_neg (by omega), decide_eq_false (by omega)]
    · simp only [fairleadlaw05_CheckAhead.j0]
      rfl
  · refine Ev.congr (fun k => ?_) (Ev.now _)
    rw [if_neg h, if_pos rfl]
    refine congrArg some (decide_eq_true ?_)
    unfold CH at h ⊢
    split
    · decide
    · split
      · decide
      · rename_i h1 h2
        rw [if_neg h1, if_neg h2] at h
        have := ((chk_shift l 0 0 (by decide)).2.2.2 h).1
        omega

end Go.Proofs.Ytojaklonmikldaa.Pure
