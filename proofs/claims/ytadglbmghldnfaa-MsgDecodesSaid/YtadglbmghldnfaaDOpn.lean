/- What an argument of a law holds, out of the row's own reading: for each type a lemma 'Opens': data of that type are cells of its kind, with the bounds of their numbers. -/
import Derived.Test.YtadglbmghldnfaaDWWords
import Derived.OpenShut
import Derived.ChangeArms
import Derived.Deep.Slices
set_option linter.unusedVariables false
set_option linter.unusedSimpArgs false
namespace Go.Proofs.Ytadglbmghldnfaa.Opn
open Go Go.ChangeShapes Go.WideShapes Go.Proofs.YtadglbmghldnfaaW.PrintWords
def Opens {α : Type} (P : Program) (t : TypeId) (d : Kd α) (V : α → Prop) : Prop :=
  ∀ (H : Type) (enc : TypeId × Value → H) (w : World) (base : Nat) (spare : Nat → Bool) (held : Bool) (fuel : Nat) (cs : List Value) (x : DataW H × List MemPlace),
    DataW.trod enc P w base spare held fuel t cs = some x → ∃ a, d.K w a cs ∧ V a
theorem opens_int {P : Program} {t : TypeId} (k : IntKind) (ht : P.underlying t = some (.int k)) : Opens P t (Kd.int k) (fun n => (Lit.int k n).wf = true) := by
  intro H enc w base spare held fuel cs x h
  obtain ⟨n, rfl, _, hw⟩ := DataW.trod_int ht h
  exact ⟨n, rfl, hw⟩
theorem wfb_u8 {n : Int} (h : (Lit.int .u8 n).wf = true) : 0 ≤ n ∧ n ≤ 255 := by
  simp [Lit.wf, IntKind.min, IntKind.max, IntKind.signed, IntKind.bits] at h
  omega
theorem opens_u8 {P : Program} {t : TypeId} (ht : P.underlying t = some (.int .u8)) : Opens P t (Kd.int .u8) (fun n => 0 ≤ n ∧ n ≤ 255) := by
  intro H enc w base spare held fuel cs x h
  obtain ⟨n, e, hw⟩ := opens_int .u8 ht H enc w base spare held fuel cs x h
  exact ⟨n, e, wfb_u8 hw⟩
theorem exists_list {α : Type} (n : Nat) (Q : Nat → α → Prop) (h : ∀ i, i < n → ∃ p, Q i p) : ∃ l : List α, l.length = n ∧ ∀ i p, l[i]? = some p → Q i p := by
  induction n with
  | zero => exact ⟨[], rfl, fun i p hp => by simp at hp⟩
  | succ n ih =>
    obtain ⟨l, hl, hq⟩ := ih (fun i hi => h i (by omega))
    obtain ⟨p, hp⟩ := h n (by omega)
    refine ⟨l ++ [p], by simp [hl], fun i q hi => ?_⟩
    rcases Nat.lt_or_ge i l.length with hlt | hge
    · rw [List.getElem?_append_left hlt] at hi
      exact hq i q hi
    · have hi2 := (List.getElem?_eq_some_iff.1 hi).1
      rw [List.length_append, List.length_singleton] at hi2
      obtain rfl : i = l.length := by omega
      have : p = q := by simpa using hi
      subst this
      rw [hl]
      exact hp
theorem opens_slice {α : Type} {P : Program} {t e : TypeId} (e' : Nat) {d : Kd α} {V : α → Prop} (ht : P.underlying t = some (.slice e)) (hc : P.cellsOf e = d.sz) (h : Opens P e d V) : Opens P t (Kd.slice e' d) (fun l => l.length ≤ 9223372036854775807 ∧ ∀ x ∈ l, V x) := by
  intro H enc w base spare held fuel cs x hx
  rcases Go.Deep.open_slice ht hx with ⟨rfl, _⟩ | ⟨a, len, cap, m, n, D, Pl, rfl, _, hlc, hcm, hm, _, hel⟩
  · exact ⟨[], ⟨none, 0, rfl, Nat.le_refl _, rfl, by simp, fun hp => absurd hp (by simp)⟩, by simp, by simp⟩
  · have hlm : len ≤ m := by rw [hm]; split <;> omega
    have hx : ∀ i, i < len → ∃ p : α, V p ∧ ∃ c, c.length = d.sz ∧ d.K w p c ∧ ∀ j u, c[j]? = some u → w.cell? (a.add (i * d.sz + j)) = some u := by
      intro i hi
      obtain ⟨cs', hcs, htr⟩ := hel i (by omega)
      obtain ⟨p, hp, vp⟩ := h _ _ _ _ _ _ _ _ _ htr
      refine ⟨p, vp, cs', d.K_len hp, hp, fun j u hj => ?_⟩
      obtain ⟨_, hl', hs⟩ := World.cells?_some hcs
      have hjl := (List.getElem?_eq_some_iff.1 hj).1
      have h3 := hs j (by omega)
      rw [hj, hc] at h3
      rw [← h3]
      congr 1
      simp only [Addr.add]
      repeat' split
      all_goals simp_all [Nat.add_assoc]
    obtain ⟨l, hl, hq⟩ := exists_list len _ hx
    subst hl
    refine ⟨l, ⟨some a, cap, rfl, hlc, rfl, by unfold maxLen at hcm; omega, fun _ => ⟨a, rfl, fun j p hj => (hq j p hj).2⟩⟩, by unfold maxLen at hcm; omega, fun x hx => ?_⟩
    obtain ⟨i, hi⟩ := List.getElem?_of_mem hx
    exact (hq i x hi).1
end Go.Proofs.Ytadglbmghldnfaa.Opn
