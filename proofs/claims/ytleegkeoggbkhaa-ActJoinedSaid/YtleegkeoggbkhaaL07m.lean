/- Layer 7 (act), plain: what forbids most. -/
import Derived.Test.YtleegkeoggbkhaaMx2
import Derived.Test.YtleegkeoggbkhaaMx3
import Derived.Test.YtleegkeoggbkhaaMx5
import Derived.Test.YtleegkeoggbkhaaMx7
import Derived.Test.YtleegkeoggbkhaaAid
import Derived.Test.YtleegkeoggbkhaaL07
namespace Go.Proofs.Ytleegkeoggbkhaa.Pure
open Go Go.RowKit Go.Proofs.Ytleegkeoggbkhaa.M Go.Proofs.Ytleegkeoggbkhaa.Aid Go.Proofs.YtleegkeoggbkhaaW.PrintWords Go.Proofs.YtleegkeoggbkhaaW.PrintLast Go.Proofs.YtleegkeoggbkhaaW.PrintMore
set_option linter.unusedVariables false
set_option linter.unusedSimpArgs false

-- NEEDS act_Of.f act_number.f act_Most.f fairleadlaw07_awake.f act_Value.f act_Right.f act_bears.f fairleadref07_Of.f fairleadref07_Value.f fairleadref07_Right.f
-- IMPORT L07

def stp (x y : Int) : Int := if kindV y < kindV x then y else x
theorem stp_assoc (x y z : Int) : stp (stp x y) z = stp x (stp y z) := by
  unfold stp
  by_cases h1 : kindV y < kindV x
  · by_cases h2 : kindV z < kindV y
    · rw [if_pos h1, if_pos h2, if_pos (by omega)]
    · rw [if_pos h1, if_neg h2, if_pos h1]
  · by_cases h2 : kindV z < kindV y
    · rw [if_neg h1, if_pos h2]
    · rw [if_neg h1, if_neg h2, if_neg h1, if_neg (by omega)]
/-- The first one that none forbids more than. -/
def MST : List Int → Int
  | [] => 2147418112
  | v :: r => r.foldl stp v
theorem fold_stp (r : List Int) : ∀ (x v : Int), r.foldl stp (stp x v) = stp x (r.foldl stp v) := by
  induction r with
  | nil => intro x v; rfl
  | cons y r ih => intro x v; simp only [List.foldl_cons]; rw [stp_assoc, ih]
theorem fold_mem (r : List Int) : ∀ v, r.foldl stp v = v ∨ r.foldl stp v ∈ r := by
  induction r with
  | nil => intro v; exact .inl rfl
  | cons y r ih =>
    intro v
    simp only [List.foldl_cons, List.mem_cons]
    rcases ih (stp v y) with h | h
    · rw [h]
      unfold stp
      split
      · exact .inr (.inl rfl)
      · exact .inl rfl
    · exact .inr (.inr h)
theorem fold_le (r : List Int) : ∀ v, kindV (r.foldl stp v) ≤ kindV v ∧ ∀ x ∈ r, kindV (r.foldl stp v) ≤ kindV x := by
  induction r with
  | nil => intro v; exact ⟨Int.le_refl _, fun x hx => by simp at hx⟩
  | cons y r ih =>
    intro v
    simp only [List.foldl_cons]
    have h := ih (stp v y)
    have h1 : kindV (stp v y) ≤ kindV v ∧ kindV (stp v y) ≤ kindV y := by unfold stp; split <;> omega
    refine ⟨by omega, fun x hx => ?_⟩
    rcases List.mem_cons.1 hx with rfl | hx
    · omega
    · exact h.2 x hx
theorem mst_mem {l : List Int} (h : l ≠ []) : MST l ∈ l := by
  cases l with
  | nil => exact absurd rfl h
  | cons v r =>
    rcases fold_mem r v with h | h
    · show r.foldl stp v ∈ _
      rw [h]; simp
    · exact List.mem_cons_of_mem _ h
theorem mst_le (l : List Int) : ∀ x ∈ l, kindV (MST l) ≤ kindV x := by
  cases l with
  | nil => intro x hx; simp at hx
  | cons v r =>
    intro x hx
    rcases List.mem_cons.1 hx with rfl | hx
    · exact (fold_le r x).1
    · exact (fold_le r v).2 x hx
/-- The first of the least kind. -/
theorem fold_first (x : Int) (q : List Int) (hq : ∀ y ∈ q, kindV x ≤ kindV y) : q.foldl stp x = x := by
  induction q with
  | nil => rfl
  | cons y q ih =>
    simp only [List.foldl_cons]
    rw [show stp x y = x from by unfold stp; rw [if_neg (by have := hq y (by simp); omega)]]
    exact ih (fun z hz => hq z (by simp [hz]))
theorem fold_pre (x : Int) (p : List Int) : ∀ v, kindV x < kindV v → (∀ y ∈ p, kindV x < kindV y) → kindV x < kindV (p.foldl stp v) := by
  induction p with
  | nil => intro v h _; exact h
  | cons y p ih =>
    intro v h hp
    simp only [List.foldl_cons]
    refine ih _ ?_ (fun z hz => hp z (by simp [hz]))
    unfold stp
    split
    · exact hp y (by simp)
    · exact h
theorem mst_first (p : List Int) (x : Int) (q : List Int) (hp : ∀ y ∈ p, kindV x < kindV y) (hq : ∀ y ∈ q, kindV x ≤ kindV y) : MST (p ++ x :: q) = x := by
  cases p with
  | nil => exact fold_first x q hq
  | cons v p =>
    show (p ++ x :: q).foldl stp v = x
    rw [List.foldl_append, List.foldl_cons]
    have h := fold_pre x p v (hp v (by simp)) (fun y hy => hp y (by simp [hy]))
    have e : stp (p.foldl stp v) x = x := if_pos h
    rw [e]
    exact fold_first x q hq
theorem of_ev {v : Int} (h : 0 ≤ v ∧ v ≤ 4294967295) : Ev (fun k => act_Of.f k v) (OfV v) := ⟨10, fun k hk => of_is h.1 h.2 k hk⟩
theorem rof_ev {v : Int} (h : 0 ≤ v ∧ v ≤ 4294967295) : Ev (fun k => fairleadref07_Of.f k v) (OfV v) := ⟨10, fun k hk => rof_is h.1 h.2 k hk⟩
theorem rd_mem (l : List Int) (i : Nat) (h : i < l.length) : rd l i ∈ l := by
  unfold rd
  rw [Int.toNat_natCast, List.getD_eq_getElem?_getD, List.getElem?_eq_getElem h]
  exact List.getElem_mem h
theorem drop_rd (l : List Int) (i : Nat) (h : i < l.length) : l.drop i = rd l i :: l.drop (i + 1) := by
  rw [List.drop_eq_getElem_cons h]
  congr 1
  unfold rd
  rw [Int.toNat_natCast, List.getD_eq_getElem?_getD, List.getElem?_eq_getElem h]
  rfl
theorem most_loop (l : List Int) (ho : ∀ x ∈ l, 0 ≤ x ∧ x ≤ 4294967295) (hl : l.length ≤ 2000) (d : Nat) : ∀ (i : Nat) (b : Int), i + d = l.length → 0 < i → (0 ≤ b ∧ b ≤ 4294967295) →
    Ev (fun k => act_Most.l0 k b l l.length i) ((l.drop i).foldl stp b) := by
  induction d with
  | zero =>
    intro i b hi _ _
    refine Ev.step (f := fun _ => some b) (fun k => ?_) ?_
    · simp only [act_Most.l0]
      rw [if_neg (by omega)]
    · rw [List.drop_of_length_le (by omega)]
      exact Ev.now _
  | succ d ih =>
    intro i b hi h0 hb
    have hr := ho _ (rd_mem l i (by omega))
    have w : wrap64 ((i : Int) + 1) = ((i + 1 : Nat) : Int) := by unfold wrap64; omega
    rw [drop_rd l i (by omega)]
    refine Ev.step (f := fun k => (act_Of.f k (rd l i)).bind fun bt161 => ((act_Of.f k b).bind fun bt163 => (if bt161.1 < bt163.1 then (act_Most.l0 k (rd l i) l l.length ((i + 1 : Nat) : Int)) else (act_Most.l0 k b l l.length ((i + 1 : Nat) : Int))))) (fun k => ?_) ?_
    · simp only [act_Most.l0]
      rw [if_pos (by omega), if_pos (by omega), if_pos (by omega), if_neg (by omega), w]
    · refine Ev.bind (of_ev hr) (Ev.bind (of_ev hb) ?_)
      rw [List.foldl_cons]
      by_cases h : kindV (rd l i) < kindV b
      · have e : stp b (rd l i) = rd l i := if_pos h
        rw [e]
        exact Ev.congr (fun k => if_pos h) (ih (i + 1) _ (by omega) (by omega) hr)
      · have e : stp b (rd l i) = b := if_neg h
        rw [e]
        exact Ev.congr (fun k => if_neg h) (ih (i + 1) _ (by omega) (by omega) hb)
theorem most_ev (l : List Int) (ho : ∀ x ∈ l, 0 ≤ x ∧ x ≤ 4294967295) (hl : l.length ≤ 2000) : Ev (fun k => act_Most.f k l) (MST l) := by
  have e : ∀ k, act_Most.f k l = act_Most.l0 k 2147418112 l l.length 0 := fun k => by
    unfold act_Most.f
    rw [number_is (by decide) (by decide)]
    rfl
  refine Ev.congr e ?_
  cases l with
  | nil =>
    refine Ev.step (f := fun _ => some 2147418112) (fun k => ?_) (Ev.now _)
    simp only [act_Most.l0]
    rw [if_neg (by simp)]
  | cons v r =>
    have w : wrap64 ((0 : Int) + 1) = ((1 : Nat) : Int) := by unfold wrap64; omega
    have hv : rd (v :: r) 0 = v := rfl
    refine Ev.step (f := fun k => act_Most.l0 k v (v :: r) (v :: r).length ((1 : Nat) : Int)) (fun k => ?_) ?_
    · simp only [act_Most.l0]
      rw [if_pos (by simp only [List.length_cons]; omega), if_pos (by decide), if_pos (by simp only [List.length_cons]; omega), if_pos trivial, w, hv]
    · have := most_loop (v :: r) ho hl r.length 1 v (by simp; omega) (by decide) (ho v (by simp))
      simpa [MST] using this
end Go.Proofs.Ytleegkeoggbkhaa.Pure
