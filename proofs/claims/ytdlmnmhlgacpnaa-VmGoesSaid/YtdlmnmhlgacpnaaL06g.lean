/- Layer 6 (vm), plain: where a run goes on, and where it ends. -/
import Derived.Test.YtdlmnmhlgacpnaaMx0
import Derived.Test.YtdlmnmhlgacpnaaMx3
import Derived.Test.YtdlmnmhlgacpnaaMx4
import Derived.Test.YtdlmnmhlgacpnaaMx5
import Derived.Test.YtdlmnmhlgacpnaaMx20
import Derived.Test.YtdlmnmhlgacpnaaAid
import Derived.Test.YtdlmnmhlgacpnaaL00
import Derived.Test.YtdlmnmhlgacpnaaL03k
import Derived.Test.YtdlmnmhlgacpnaaL05
import Derived.Test.YtdlmnmhlgacpnaaL05b
import Derived.Test.YtdlmnmhlgacpnaaL05n
import Derived.Test.YtdlmnmhlgacpnaaL04a
import Derived.Test.YtdlmnmhlgacpnaaL04p
import Derived.Test.YtdlmnmhlgacpnaaL06
namespace Go.Proofs.Ytdlmnmhlgacpnaa.Pure
open Go Go.RowKit Go.Proofs.Ytdlmnmhlgacpnaa.M Go.Proofs.Ytdlmnmhlgacpnaa.Aid Go.Proofs.YtdlmnmhlgacpnaaW.PrintWords Go.Proofs.YtdlmnmhlgacpnaaW.PrintLast Go.Proofs.YtdlmnmhlgacpnaaW.PrintMore
set_option linter.unusedVariables false
set_option linter.unusedSimpArgs false

-- NEEDS vm_play.f vm_step.f vm_moves.f vm_Run.f vm_MV vm_ST vm_RK vm_HL VmS check_Check.f data_Load.f data_laid.f data_Halves.f fairleadlaw06_awake.f check_Next.f
-- IMPORT L00
-- IMPORT L03k
-- IMPORT L05
-- IMPORT L05b
-- IMPORT L05n
-- IMPORT L04a
-- IMPORT L04p
-- IMPORT L06

theorem mv_q (c K : Int) (s s' : VmS) (h : vm_MV c K s = some (true, s')) (hso : s.o = false) : (s'.o = true → (c = 6 ∧ s'.r = K) ∨ c = 22) ∧ (c ≠ 5 ∧ ¬ Jmps c) ∧ (s'.o = false → ¬ Endd c) := by
  have e1 : ∀ q : VmS, some (true, q) = some (true, s') → q = s' := fun q e => by injection e with e; injection e
  unfold vm_MV at h
  unfold Jmps Endd
  split at h
  · rename_i hc; have hc := beq_iff_eq.1 hc; have := e1 _ h; subst this; exact ⟨fun e => absurd (show s.o = true from e) (by rw [hso]; decide), by omega, fun _ => by omega⟩
  split at h
  · rename_i hc; have hc := beq_iff_eq.1 hc; have := e1 _ h; subst this; exact ⟨fun e => absurd (show s.o = true from e) (by rw [hso]; decide), by omega, fun _ => by omega⟩
  split at h
  · rename_i hc; have hc := beq_iff_eq.1 hc
    split at h
    · have := e1 _ h; subst this; exact ⟨fun e => absurd (show s.o = true from e) (by rw [hso]; decide), by omega, fun _ => by omega⟩
    · cases h
  split at h
  · rename_i hc; have hc := beq_iff_eq.1 hc
    split at h
    · have := e1 _ h; subst this; exact ⟨fun e => absurd (show s.o = true from e) (by rw [hso]; decide), by omega, fun _ => by omega⟩
    · cases h
  split at h
  · rename_i hc; have hc := beq_iff_eq.1 hc
    split at h
    · have := e1 _ h; subst this; exact ⟨fun e => absurd (show s.o = true from e) (by rw [hso]; decide), by omega, fun _ => by omega⟩
    · cases h
  split at h
  · rename_i hc; have hc := beq_iff_eq.1 hc
    split at h
    · have := e1 _ h; subst this; exact ⟨fun e => absurd (show s.o = true from e) (by rw [hso]; decide), by omega, fun _ => by omega⟩
    · cases h
  split at h
  · rename_i hc; have hc := beq_iff_eq.1 hc; have := e1 _ h; subst this; exact ⟨fun e => absurd (show s.o = true from e) (by rw [hso]; decide), by omega, fun _ => by omega⟩
  split at h
  · rename_i hc; have hc := beq_iff_eq.1 hc; have := e1 _ h; subst this; exact ⟨fun e => absurd (show s.o = true from e) (by rw [hso]; decide), by omega, fun _ => by omega⟩
  split at h
  · rename_i hc; have hc := beq_iff_eq.1 hc; have := e1 _ h; subst this; exact ⟨fun e => absurd (show s.o = true from e) (by rw [hso]; decide), by omega, fun _ => by omega⟩
  split at h
  · rename_i hc; have hc := beq_iff_eq.1 hc; have := e1 _ h; subst this; exact ⟨fun _ => .inl ⟨hc, rfl⟩, by omega, fun e => by cases e⟩
  split at h
  · rename_i hc; have hc := beq_iff_eq.1 hc; have := e1 _ h; subst this; exact ⟨fun _ => .inr hc, by omega, fun e => by cases e⟩
  · injection h with h; injection h with h1 h2; cases h1
/-- What a step that is no move does: how far, or the end. -/
theorem st_q (c jt jf K : Int) (s : VmS) (hK : 0 ≤ K ∧ K ≤ 4294967295) (hjt : 0 ≤ jt ∧ jt ≤ 255) (hjf : 0 ≤ jf ∧ jf ≤ 255) (hc : Reck c ∨ Jmps c) (hso : s.o = false) (h52 : c = 52 → K ≠ 0) :
    ((vm_ST c jt jf K s).2.o = true → c = 60 ∧ (vm_ST c jt jf K s).2.r = 0) ∧ (vm_ST c jt jf K s).1 ∈ farI ⟨c, jt, jf, K⟩ := by
  have wK : wrap64 K = K := w64_id (by omega) (by omega)
  have wt : wrap64 jt = jt := w64_id (by omega) (by omega)
  have wf : wrap64 jf = jf := w64_id (by omega) (by omega)
  have far2 : ∀ (q n : Int), Jmps c → c ≠ 5 → (if vm_HL q s.a n = true then wrap64 jt else wrap64 jf) ∈ farI ⟨c, jt, jf, K⟩ := fun q n h1 h2 => by
    unfold farI
    simp only
    rw [if_neg h2, if_pos h1, wt, wf]
    by_cases h3 : jt = jf
    · rw [if_pos h3]
      have e : mn jt jf = jt := by unfold mn; split <;> omega
      rw [e]
      split
      · simp
      · rw [h3]; simp
    · rw [if_neg h3]
      have e : (mn jt jf = jt ∧ mx jt jf = jf) ∨ (mn jt jf = jf ∧ mx jt jf = jt) := by unfold mn mx; split <;> split <;> omega
      rcases e with ⟨e1, e2⟩ | ⟨e1, e2⟩
      · rw [e1, e2]
        split <;> simp
      · rw [e1, e2]
        split <;> simp
  rcases hc with hc | hc
  · have hr := hc
    unfold Reck at hc
    have far0 : ¬ Jmps c → c ≠ 5 → ¬ Endd c → (0 : Int) ∈ farI ⟨c, jt, jf, K⟩ := fun h1 h2 h3 => by
      unfold farI
      simp only
      rw [if_neg h2, if_neg h1, if_neg h3]
      simp
    have noo : ∀ (o : Bool), o = s.o → o = true → c = 60 ∧ (vm_ST c jt jf K s).2.r = 0 := fun o e1 e2 => by rw [e1, hso] at e2; cases e2
    rcases hc with rfl | rfl | rfl | rfl | rfl | rfl | rfl | rfl | rfl | rfl | rfl | rfl | rfl | rfl | rfl | rfl | rfl | rfl
    all_goals refine ⟨?_, far0 (by decide) (by decide) (by decide)⟩
    all_goals first
      | exact fun e => noo _ rfl e
      | skip
    · intro e
      have hk0 : (K == 0) = false := beq_eq_false_iff_ne.2 (h52 rfl)
      have e' : (vm_RK 52 s.a K s.o s.r).2.1 = true := e
      have : vm_RK 52 s.a K s.o s.r = (if (K == 0) = true then (s.a, true, 0) else (Int.tdiv s.a K % 4294967296, s.o, s.r)) := rfl
      rw [this, hk0, if_neg (by decide), hso] at e'
      cases e'
    · intro e
      refine ⟨rfl, ?_⟩
      have e' : (vm_RK 52 s.a s.x s.o s.r).2.1 = true := e
      show (vm_RK 52 s.a s.x s.o s.r).2.2 = 0
      have : vm_RK 52 s.a s.x s.o s.r = (if (s.x == 0) = true then (s.a, true, 0) else (Int.tdiv s.a s.x % 4294967296, s.o, s.r)) := rfl
      rw [this] at e' ⊢
      by_cases hx : (s.x == 0) = true
      · rw [if_pos hx]
      · rw [if_neg hx, hso] at e'
        cases e'
  · have hjm := hc
    unfold Jmps at hc
    have noo : s.o = true → c = 60 ∧ (vm_ST c jt jf K s).2.r = 0 := fun e => by rw [hso] at e; cases e
    rcases hc with rfl | rfl | rfl | rfl | rfl | rfl | rfl | rfl | rfl
    · have e : vm_ST 5 jt jf K s = (wrap64 K, s) := rfl
      rw [e, wK]
      exact ⟨fun e => (by rw [hso] at e; cases e), (by unfold farI; simp)⟩
    all_goals exact ⟨fun e => noo e, far2 _ _ hjm (by decide)⟩
theorem step_q {f0 f1 f2 f3 d0 d1 d2 d3 d4 d5 d6 d7 d8 : Int} {s s' : VmS} {q b : Int} (hst : vm_step.f 7 f0 f1 f2 f3 d0 d1 d2 d3 d4 d5 d6 d7 d8 s = some (q, s')) (hso : s.o = false) (h : wrongI b f0 f1 f2 f3 = 0) (ho : (0 ≤ f0 ∧ f0 ≤ 65535) ∧ (0 ≤ f1 ∧ f1 ≤ 255) ∧ (0 ≤ f2 ∧ f2 ≤ 255) ∧ (0 ≤ f3 ∧ f3 ≤ 4294967295)) :
    (s'.o = true → (f0 = 6 ∧ s'.r = f3) ∨ f0 = 22 ∨ (f0 = 60 ∧ s'.r = 0)) ∧ (s'.o = false → q ∈ farI ⟨f0, f1, f2, f3⟩) := by
  obtain ⟨e0, e32, _, e5, ej, ek⟩ := wrong_facts h
  have h52 : f0 = 52 → f3 ≠ 0 := fun e1 e2 => by
    subst e1 e2
    unfold wrongI at h
    rw [if_pos ek, if_neg (by decide)] at h
    unfold w0 at h
    rw [if_neg (by decide)] at h
    unfold w1 at h
    rw [if_pos (.inl ⟨rfl, rfl⟩)] at h
    exact absurd h (by decide)
  have far0 : ¬ Jmps f0 → f0 ≠ 5 → ¬ Endd f0 → (0 : Int) ∈ farI ⟨f0, f1, f2, f3⟩ := fun h1 h2 h3 => by
    unfold farI
    simp only
    rw [if_neg h2, if_neg h1, if_neg h3]
    simp
  unfold vm_step.f at hst
  obtain ⟨⟨m, s1⟩, hm, hst⟩ := Option.bind_eq_some_iff.mp hst
  unfold vm_moves.f at hm
  by_cases h32 : (f0 == 32) = true
  · rw [if_pos h32] at hm
    have h32' := beq_iff_eq.1 h32
    obtain ⟨t, _, hm⟩ := Option.bind_eq_some_iff.mp hm
    simp only [Option.some.injEq, Prod.mk.injEq] at hm
    obtain ⟨rfl, rfl⟩ := hm
    rw [if_pos rfl] at hst
    simp only [Option.some.injEq, Prod.mk.injEq] at hst
    obtain ⟨rfl, rfl⟩ := hst
    exact ⟨fun e => absurd (show s.o = true from e) (by rw [hso]; decide), fun _ => far0 (by unfold Jmps; omega) (by omega) (by unfold Endd; omega)⟩
  · rw [if_neg h32] at hm
    cases m with
    | true =>
      rw [if_pos rfl] at hst
      simp only [Option.some.injEq, Prod.mk.injEq] at hst
      obtain ⟨rfl, rfl⟩ := hst
      obtain ⟨h1, h2, h3⟩ := mv_q f0 f3 s s1 hm hso
      exact ⟨fun e => by rcases h1 e with q | q; exact .inl q; exact .inr (.inl q), fun e => far0 h2.2 h2.1 (h3 e)⟩
    | false =>
      obtain rfl := vm_MV_false hm
      rw [if_neg (by simp)] at hst
      have hn : f0 ≠ 32 := fun e => h32 (beq_iff_eq.2 e)
      have hcd : Reck f0 ∨ Jmps f0 := by
        have hh := ek
        unfold Knwn Sing Endd at hh
        have no : ∀ K, vm_MV f0 K s1 = some (false, s1) → f0 ≠ 0 ∧ f0 ≠ 1 ∧ f0 ≠ 96 ∧ f0 ≠ 97 ∧ f0 ≠ 2 ∧ f0 ≠ 3 ∧ f0 ≠ 132 ∧ f0 ≠ 7 ∧ f0 ≠ 135 ∧ f0 ≠ 6 ∧ f0 ≠ 22 := fun K hmv => by
          refine ⟨?_, ?_, ?_, ?_, ?_, ?_, ?_, ?_, ?_, ?_, ?_⟩
          all_goals
            intro e
            rw [e] at hmv
            simp [vm_MV] at hmv
        have := no f3 hm
        rcases hh with q | q | q | q
        · omega
        · exact .inl q
        · exact .inr q
        · omega
      split at hst
      · have := Option.some.inj hst
        have hq := st_q f0 f1 f2 f3 s1 ho.2.2.2 ho.2.1 ho.2.2.1 hcd hso h52
        rw [this] at hq
        exact ⟨fun e => .inr (.inr (hq.1 e)), fun _ => hq.2⟩
      · cases hst
end Go.Proofs.Ytdlmnmhlgacpnaa.Pure
