/- What an argument of a law holds, out of the row's own reading: for each type a lemma 'Opens': data of that type are cells of its kind, with the bounds of their numbers. -/
import Derived.Test.YtmmgcbafdmkhbaaP1WWords
import Derived.OpenShut
import Derived.ChangeArms
import Derived.Deep.Slices
set_option linter.unusedVariables false
set_option linter.unusedSimpArgs false
namespace Go.Proofs.Ytmmgcbafdmkhbaa.Opn
open Go Go.ChangeShapes Go.WideShapes Go.Proofs.YtmmgcbafdmkhbaaW.PrintWords
def Opens {α : Type} (P : Program) (t : TypeId) (d : Kd α) (V : α → Prop) : Prop :=
  ∀ (H : Type) (enc : TypeId × Value → H) (w : World) (base : Nat) (spare : Nat → Bool) (held : Bool) (fuel : Nat) (cs : List Value) (x : DataW H × List MemPlace),
    DataW.trod enc P w base spare held fuel t cs = some x → ∃ a, d.K w a cs ∧ V a
theorem opens_int {P : Program} {t : TypeId} (k : IntKind) (ht : P.underlying t = some (.int k)) : Opens P t (Kd.int k) (fun n => (Lit.int k n).wf = true) := by
  intro H enc w base spare held fuel cs x h
  obtain ⟨n, rfl, _, hw⟩ := DataW.trod_int ht h
  exact ⟨n, rfl, hw⟩
theorem wfb_u64 {n : Int} (h : (Lit.int .u64 n).wf = true) : 0 ≤ n ∧ n ≤ 18446744073709551615 := by
  simp [Lit.wf, IntKind.min, IntKind.max, IntKind.signed, IntKind.bits] at h
  omega
theorem opens_u64 {P : Program} {t : TypeId} (ht : P.underlying t = some (.int .u64)) : Opens P t (Kd.int .u64) (fun n => 0 ≤ n ∧ n ≤ 18446744073709551615) := by
  intro H enc w base spare held fuel cs x h
  obtain ⟨n, e, hw⟩ := opens_int .u64 ht H enc w base spare held fuel cs x h
  exact ⟨n, e, wfb_u64 hw⟩
theorem wfb_i64 {n : Int} (h : (Lit.int .i64 n).wf = true) : (-9223372036854775808) ≤ n ∧ n ≤ 9223372036854775807 := by
  simp [Lit.wf, IntKind.min, IntKind.max, IntKind.signed, IntKind.bits] at h
  omega
theorem opens_i64 {P : Program} {t : TypeId} (ht : P.underlying t = some (.int .i64)) : Opens P t (Kd.int .i64) (fun n => (-9223372036854775808) ≤ n ∧ n ≤ 9223372036854775807) := by
  intro H enc w base spare held fuel cs x h
  obtain ⟨n, e, hw⟩ := opens_int .i64 ht H enc w base spare held fuel cs x h
  exact ⟨n, e, wfb_i64 hw⟩
theorem opens_string {P : Program} {t : TypeId} (ht : P.underlying t = some .string) : Opens P t Kd.string (fun s => s.size ≤ 9223372036854775807) := by
  intro H enc w base spare held fuel cs x h
  obtain ⟨n, rfl, _, hs⟩ := DataW.trod_string ht h
  exact ⟨n, rfl, by unfold maxLen at hs; omega⟩
/-- Several parts of one row of cells: their types and places. -/
def OpensL {α : Type} (P : Program) (ts : List (TypeId × Nat)) (off : Nat) (d : Kd α) (V : α → Prop) : Prop :=
  ∀ (H : Type) (enc : TypeId × Value → H) (w : World) (base : Nat) (spare : Nat → Bool) (held : Bool) (fuel : Nat) (cs : List Value),
    (∀ p, p ∈ ts → ∃ y : DataW H × List MemPlace, DataW.trod enc P w base spare held fuel p.1 ((cs.drop p.2).take (P.cellsOf p.1)) = some y) → cs.length = off + d.sz → ∃ a, d.K w a (cs.drop off) ∧ V a
theorem opensL_last {α : Type} {P : Program} {t : TypeId} {off : Nat} {d : Kd α} {V : α → Prop} (hc : P.cellsOf t = d.sz) (h : Opens P t d V) : OpensL P [(t, off)] off d V := by
  intro H enc w base spare held fuel cs hp hl
  obtain ⟨y, hy⟩ := hp _ (List.mem_cons_self)
  have e : (cs.drop off).take (P.cellsOf t) = cs.drop off := by
    apply List.take_of_length_le
    rw [List.length_drop, hc]
    omega
  rw [e] at hy
  exact h _ _ _ _ _ _ _ _ _ hy
theorem opensL_cons {α β : Type} {P : Program} {t : TypeId} {ts : List (TypeId × Nat)} {off : Nat} {d : Kd α} {d2 : Kd β} {V : α → Prop} {V2 : β → Prop} (hc : P.cellsOf t = d.sz) (h : Opens P t d V) (h2 : OpensL P ts (off + d.sz) d2 V2) :
    OpensL P ((t, off) :: ts) off (Kd.pair d d2) (fun x => V x.1 ∧ V2 x.2) := by
  intro H enc w base spare held fuel cs hp hl
  obtain ⟨y, hy⟩ := hp _ (List.mem_cons_self)
  obtain ⟨a, ha, va⟩ := h _ _ _ _ _ _ _ _ _ hy
  obtain ⟨b, hb, vb⟩ := h2 H enc w base spare held fuel cs (fun p hm => hp p (List.mem_cons_of_mem _ hm)) (by rw [hl]; show off + (d.sz + d2.sz) = _; omega)
  refine ⟨(a, b), ⟨_, _, ?_, ha, hb⟩, va, vb⟩
  show cs.drop off = (cs.drop off).take (P.cellsOf t) ++ cs.drop (off + d.sz)
  rw [hc, ← List.drop_drop, List.take_append_drop]
theorem opens_struct {α : Type} {P : Program} {t : TypeId} {fs : Array Field} {d : Kd α} {V : α → Prop} (ht : P.underlying t = some (.struct fs)) (hc : P.cellsOf t = d.sz) (h : OpensL P (fs.toList.map fun f => (f.type, f.offset)) 0 d V) : Opens P t d V := by
  intro H enc w base spare held fuel cs x hx
  obtain ⟨xs, n, _, _, hl, hn, hg⟩ := DataW.trod_struct ht hx
  have := h H enc w base spare held n cs ?_ (by rw [hl, hc]; omega)
  · simpa using this
  · intro p hp
    obtain ⟨f, hf, rfl⟩ := List.mem_map.1 hp
    obtain ⟨i, hi⟩ := List.getElem?_of_mem hf
    have hi' : fs[i]? = some f := by simpa using hi
    have h2 := hg i f hi'
    have hlt : i < xs.length := by
      rw [hn]
      exact (Array.getElem?_eq_some_iff.1 hi').1
    rw [List.getElem?_eq_getElem hlt] at h2
    exact ⟨_, h2⟩
theorem opens_iso {α β : Type} {P : Program} {t : TypeId} {d : Kd α} {V : α → Prop} (f : β → α) (g : α → β) (hfg : ∀ a, f (g a) = a) (h : Opens P t d V) : Opens P t (Kd.iso d f) (fun b => V (f b)) := by
  intro H enc w base spare held fuel cs x hx
  obtain ⟨a, ha, va⟩ := h _ _ _ _ _ _ _ _ _ hx
  exact ⟨g a, by show d.K w (f (g a)) cs; rw [hfg]; exact ha, by show V (f (g a)); rw [hfg]; exact va⟩
theorem exists_list {α : Type} (n : Nat) (Q : Nat → α → Prop) (h : ∀ i, i < n → ∃ p, Q i p) : ∃ l : List α, l.length = n ∧ ∀ i p, l[i]? = some p → Q i p := by
  induction n with
  | zero => exact ⟨[], rfl, fun i p hp => by simp at hp⟩
  | succ n ih =>
    obtain ⟨l, hl, hq⟩ := ih (fun i hi => h i (by omega))
    obtain ⟨p, hp⟩ := h n (by omega)
    refine ⟨l ++ [p], by simp [hl], fun i q hi => ?_⟩
    rcases Nat.lt_or_ge i l.length with hlt | hge
    · rw [List.getElem?_append_left hlt] at hi
      exact hq i q hi
    · have hi2 := (List.getElem?_eq_some_iff.1 hi).1
      rw [List.length_append, List.length_singleton] at hi2
      obtain rfl : i = l.length := by omega
      have : p = q := by simpa using hi
      subst this
      rw [hl]
      exact hp
theorem opens_slice {α : Type} {P : Program} {t e : TypeId} (e' : Nat) {d : Kd α} {V : α → Prop} (ht : P.underlying t = some (.slice e)) (hc : P.cellsOf e = d.sz) (h : Opens P e d V) : Opens P t (Kd.slice e' d) (fun l => l.length ≤ 9223372036854775807 ∧ ∀ x ∈ l, V x) := by
  intro H enc w base spare held fuel cs x hx
  rcases Go.Deep.open_slice ht hx with ⟨rfl, _⟩ | ⟨a, len, cap, m, n, D, Pl, rfl, _, hlc, hcm, hm, _, hel⟩
  · exact ⟨[], ⟨none, 0, rfl, Nat.le_refl _, rfl, by simp, fun hp => absurd hp (by simp)⟩, by simp, by simp⟩
  · have hlm : len ≤ m := by rw [hm]; split <;> omega
    have hx : ∀ i, i < len → ∃ p : α, V p ∧ ∃ c, c.length = d.sz ∧ d.K w p c ∧ ∀ j u, c[j]? = some u → w.cell? (a.add (i * d.sz + j)) = some u := by
      intro i hi
      obtain ⟨cs', hcs, htr⟩ := hel i (by omega)
      obtain ⟨p, hp, vp⟩ := h _ _ _ _ _ _ _ _ _ htr
      refine ⟨p, vp, cs', d.K_len hp, hp, fun j u hj => ?_⟩
      obtain ⟨_, hl', hs⟩ := World.cells?_some hcs
      have hjl := (List.getElem?_eq_some_iff.1 hj).1
      have h3 := hs j (by omega)
      rw [hj, hc] at h3
      rw [← h3]
      congr 1
      simp only [Addr.add]
      repeat' split
      all_goals simp_all [Nat.add_assoc]
    obtain ⟨l, hl, hq⟩ := exists_list len _ hx
    subst hl
    refine ⟨l, ⟨some a, cap, rfl, hlc, rfl, by unfold maxLen at hcm; omega, fun _ => ⟨a, rfl, fun j p hj => (hq j p hj).2⟩⟩, by unfold maxLen at hcm; omega, fun x hx => ?_⟩
    obtain ⟨i, hi⟩ := List.getElem?_of_mem hx
    exact (hq i x hi).1
end Go.Proofs.Ytmmgcbafdmkhbaa.Opn
