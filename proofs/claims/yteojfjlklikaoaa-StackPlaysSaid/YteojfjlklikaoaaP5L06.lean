/- Layer 6 (vm), plain: a checked program runs to its end. -/
import Derived.Test.YteojfjlklikaoaaP5Mx0
import Derived.Test.YteojfjlklikaoaaP5Mx3
import Derived.Test.YteojfjlklikaoaaP5Mx4
import Derived.Test.YteojfjlklikaoaaP5Mx5
import Derived.Test.YteojfjlklikaoaaP5Aid
import Derived.OpenShut
import Derived.Test.YteojfjlklikaoaaP5L00
import Derived.Test.YteojfjlklikaoaaP5L03k
import Derived.Test.YteojfjlklikaoaaP5L05
import Derived.Test.YteojfjlklikaoaaP5L05b
import Derived.Test.YteojfjlklikaoaaP5L04a
import Derived.Test.YteojfjlklikaoaaP5L04p
namespace Go.Proofs.Yteojfjlklikaoaa.Pure
open Go Go.RowKit Go.Proofs.Yteojfjlklikaoaa.M Go.Proofs.Yteojfjlklikaoaa.Aid Go.Proofs.YteojfjlklikaoaaW.PrintWords Go.Proofs.YteojfjlklikaoaaW.PrintLast Go.Proofs.YteojfjlklikaoaaW.PrintMore
set_option linter.unusedVariables false
set_option linter.unusedSimpArgs false
-- NEEDS vm_play.f vm_step.f vm_moves.f vm_Run.f vm_MV vm_ST vm_RK vm_HL VmS check_Check.f data_Load.f data_laid.f data_Halves.f fairleadlaw06_awake.f
-- LIB Derived.OpenShut
-- IMPORT L00
-- IMPORT L03k
-- IMPORT L05
-- IMPORT L05b
-- IMPORT L04a
-- IMPORT L04p
def U32 (x : Int) : Prop := 0 ≤ x ∧ x ≤ 4294967295
/-- A machine whose numbers may be. -/
structure SOk (s : VmS) : Prop where
  a : U32 s.a
  x : U32 s.x
  C : ∀ j, U32 (s.C j)
theorem bits_u32 (op : BinOp) (a b : Int) (h : op = .or ∨ op = .and ∨ op = .xor) : U32 (Go.bits op .u32 a b) := Go.bounds_u32 (Go.wf_bits op .u32 a b)
theorem mv_ok (c K : Int) (s : VmS) (hs : SOk s) (hK : U32 K) : ∃ b s', vm_MV c K s = some (b, s') ∧ SOk s' ∧ (b = false → s' = s) ∧ ((c = 6 ∨ c = 22) → b = true ∧ s'.o = true) ∧ (b = true → s'.o = true → s.o = true ∨ c = 6 ∨ c = 22) ∧ (b = false → c ≠ 0 ∧ c ≠ 1 ∧ c ≠ 96 ∧ c ≠ 97 ∧ c ≠ 2 ∧ c ≠ 3 ∧ c ≠ 7 ∧ c ≠ 135 ∧ c ≠ 132 ∧ c ≠ 6 ∧ c ≠ 22) := by
  have hK' := hK
  have hsa := hs.a
  have hsx := hs.x
  unfold U32 at hK' hsa hsx
  have ite : ∀ (j v : Int) (f : Int → Int), U32 v → (∀ q, U32 (f q)) → ∀ q, U32 (if q = j then v else f q) := fun j v f hv hf q => by split; exact hv; exact hf q
  unfold vm_MV
  by_cases h0 : c = 0
  · subst h0; exact ⟨true, _, rfl, ⟨hK, hs.x, hs.C⟩, fun e => (by cases e), (fun e => absurd e (by decide)), fun _ e => .inl e, fun e => by cases e⟩
  rw [if_neg (by simpa using h0)]
  by_cases h1 : c = 1
  · subst h1; exact ⟨true, _, rfl, ⟨hs.a, hK, hs.C⟩, fun e => (by cases e), (fun e => absurd e (by decide)), fun _ e => .inl e, fun e => by cases e⟩
  rw [if_neg (by simpa using h1)]
  by_cases h2 : c = 96
  · subst h2; rw [if_pos (by decide), if_pos hK']; exact ⟨true, _, rfl, ⟨hs.C _, hs.x, hs.C⟩, fun e => (by cases e), (fun e => absurd e (by decide)), fun _ e => .inl e, fun e => by cases e⟩
  rw [if_neg (by simpa using h2)]
  by_cases h3 : c = 97
  · subst h3; rw [if_pos (by decide), if_pos hK']; exact ⟨true, _, rfl, ⟨hs.a, hs.C _, hs.C⟩, fun e => (by cases e), (fun e => absurd e (by decide)), fun _ e => .inl e, fun e => by cases e⟩
  rw [if_neg (by simpa using h3)]
  by_cases h4 : c = 2
  · subst h4; rw [if_pos (by decide), if_pos ⟨hK', hsa⟩]; exact ⟨true, _, rfl, ⟨hs.a, hs.x, ite _ _ _ hs.a hs.C⟩, fun e => (by cases e), (fun e => absurd e (by decide)), fun _ e => .inl e, fun e => by cases e⟩
  rw [if_neg (by simpa using h4)]
  by_cases h5 : c = 3
  · subst h5; rw [if_pos (by decide), if_pos ⟨hK', hsx⟩]; exact ⟨true, _, rfl, ⟨hs.a, hs.x, ite _ _ _ hs.x hs.C⟩, fun e => (by cases e), (fun e => absurd e (by decide)), fun _ e => .inl e, fun e => by cases e⟩
  rw [if_neg (by simpa using h5)]
  by_cases h6 : c = 7
  · subst h6; exact ⟨true, _, rfl, ⟨hs.a, hs.a, hs.C⟩, fun e => (by cases e), (fun e => absurd e (by decide)), fun _ e => .inl e, fun e => by cases e⟩
  rw [if_neg (by simpa using h6)]
  by_cases h7 : c = 135
  · subst h7; exact ⟨true, _, rfl, ⟨hs.x, hs.x, hs.C⟩, fun e => (by cases e), (fun e => absurd e (by decide)), fun _ e => .inl e, fun e => by cases e⟩
  rw [if_neg (by simpa using h7)]
  by_cases h8 : c = 132
  · subst h8; exact ⟨true, _, rfl, ⟨by show U32 (-s.a % 4294967296); unfold U32; omega, hs.x, hs.C⟩, fun e => (by cases e), (fun e => absurd e (by decide)), fun _ e => .inl e, fun e => by cases e⟩
  rw [if_neg (by simpa using h8)]
  by_cases h9 : c = 6
  · subst h9; exact ⟨true, _, rfl, ⟨hs.a, hs.x, hs.C⟩, fun e => (by cases e), fun _ => ⟨rfl, rfl⟩, fun _ _ => .inr (.inl rfl), fun e => by cases e⟩
  rw [if_neg (by simpa using h9)]
  by_cases h10 : c = 22
  · subst h10; exact ⟨true, _, rfl, ⟨hs.a, hs.x, hs.C⟩, fun e => (by cases e), fun _ => ⟨rfl, rfl⟩, fun _ _ => .inr (.inr rfl), fun e => by cases e⟩
  rw [if_neg (by simpa using h10)]
  exact ⟨false, s, rfl, hs, fun _ => rfl, fun e => by omega, fun e => (by cases e), fun _ => ⟨h0, h1, h2, h3, h4, h5, h6, h7, h8, h9, h10⟩⟩
theorem rk_ok (c a v r : Int) (o : Bool) (ha : U32 a) (hv : U32 v) : U32 (vm_RK c a v o r).1 := by
  have ha' := ha
  have hv' := hv
  unfold U32 at ha' hv'
  unfold vm_RK
  repeat' split
  all_goals first
    | exact bits_u32 _ _ _ (.inl rfl) | exact bits_u32 _ _ _ (.inr (.inl rfl)) | exact bits_u32 _ _ _ (.inr (.inr rfl)) | exact ha
    | (unfold U32; constructor <;> exact (by simp only; omega))
    | skip
  · unfold U32
    have hp : (0 : Int) < 2 ^ (v % 32).toNat := Int.pow_pos (by decide)
    refine ⟨Int.ediv_nonneg ha'.1 (by omega), Int.le_trans (Int.ediv_le_self _ ha'.1) ha'.2⟩
theorem wrong_facts {b f0 f1 f2 f3 : Int} (h : wrongI b f0 f1 f2 f3 = 0) : (b = 0 → Endd f0) ∧ (f0 = 32 → f3 % 4 = 0 ∧ f3 < 64) ∧ ((f0 = 96 ∨ f0 = 97 ∨ f0 = 2 ∨ f0 = 3) → f3 < 16) ∧ (f0 = 5 → f3 < b) ∧ (f0 ≠ 5 → Jmps f0 → f1 < b ∧ f2 < b) ∧ Knwn f0 := by
  unfold wrongI at h
  by_cases hk : Knwn f0
  · rw [if_pos hk] at h
    by_cases h1 : f0 = 32 ∧ (f3 % 4 ≠ 0 ∨ 64 ≤ f3)
    · rw [if_pos h1] at h
      exact absurd h (by decide)
    · rw [if_neg h1] at h
      unfold w0 at h
      by_cases h2 : (f0 = 96 ∨ f0 = 97 ∨ f0 = 2 ∨ f0 = 3) ∧ 16 ≤ f3
      · rw [if_pos h2] at h
        exact absurd h (by decide)
      · rw [if_neg h2] at h
        unfold w1 at h
        split at h
        · exact absurd h (by decide)
        · unfold w3 at h
          by_cases h3 : f0 = 5 ∧ b ≤ f3
          · rw [if_pos h3] at h
            exact absurd h (by decide)
          · rw [if_neg h3] at h
            have w5f : ∀ h : w5 b f0 = 0, b = 0 → Endd f0 := fun h e => by
              unfold w5 at h
              rw [if_pos e] at h
              by_cases he : Endd f0
              · exact he
              · rw [if_neg he] at h
                exact absurd h (by decide)
            unfold w4 at h
            by_cases h5 : f0 = 5
            · rw [if_pos h5] at h
              exact ⟨w5f h, fun e => by omega, fun e => by omega, fun _ => by omega, fun e => absurd h5 e, hk⟩
            · rw [if_neg h5] at h
              by_cases hj : Jmps f0
              · rw [if_pos hj] at h
                by_cases h6 : b ≤ f1 ∨ b ≤ f2
                · rw [if_pos h6] at h
                  exact absurd h (by decide)
                · rw [if_neg h6] at h
                  exact ⟨w5f h, fun e => by omega, fun e => by omega, fun e => absurd e h5, fun _ _ => by omega, hk⟩
              · rw [if_neg hj] at h
                exact ⟨w5f h, fun e => by omega, fun e => by omega, fun e => absurd e h5, fun _ e => absurd e hj, hk⟩
  · rw [if_neg hk] at h
    exact absurd h (by decide)
/-- Where a checked instruction, that moves nothing, goes on. -/
theorem st_ok (c jt jf K b : Int) (s : VmS) (hs : SOk s) (hK : U32 K) (hjt : 0 ≤ jt ∧ jt ≤ 255) (hjf : 0 ≤ jf ∧ jf ≤ 255) (hb : 1 ≤ b) (h5 : c = 5 → K < b) (hj : c ≠ 5 → Jmps c → jt < b ∧ jf < b) (hc : Reck c ∨ Jmps c) :
    SOk (vm_ST c jt jf K s).2 ∧ 0 ≤ (vm_ST c jt jf K s).1 ∧ (vm_ST c jt jf K s).1 < b := by
  have hK' := hK
  unfold U32 at hK'
  have wK : wrap64 K = K := w64_id (by omega) (by omega)
  have wt : wrap64 jt = jt := w64_id (by omega) (by omega)
  have wf : wrap64 jf = jf := w64_id (by omega) (by omega)
  have jump : ∀ q n : Int, Jmps c → c ≠ 5 → 0 ≤ (if vm_HL q s.a n = true then wrap64 jt else wrap64 jf) ∧ (if vm_HL q s.a n = true then wrap64 jt else wrap64 jf) < b := fun q n h1 h2 => by
    have := hj h2 h1
    rw [wt, wf]
    split <;> omega
  rcases hc with hc | hc
  · unfold Reck at hc
    rcases hc with rfl | rfl | rfl | rfl | rfl | rfl | rfl | rfl | rfl | rfl | rfl | rfl | rfl | rfl | rfl | rfl | rfl | rfl
    all_goals first
      | exact ⟨⟨rk_ok _ _ _ _ _ hs.a hK, hs.x, hs.C⟩, Int.le_refl _, hb⟩
      | exact ⟨⟨rk_ok _ _ _ _ _ hs.a hs.x, hs.x, hs.C⟩, Int.le_refl _, hb⟩
  · have hjm := hc
    unfold Jmps at hc
    rcases hc with rfl | rfl | rfl | rfl | rfl | rfl | rfl | rfl | rfl
    · have e : vm_ST 5 jt jf K s = (wrap64 K, s) := rfl
      rw [e, wK]
      exact ⟨hs, hK'.1, h5 rfl⟩
    all_goals exact ⟨hs, jump _ _ hjm (by decide)⟩
theorem step_ok (k : Nat) (hk : 7 ≤ k) {d0 d1 d2 d3 d4 d5 d6 d7 d8 : Int} (hd : DOk d0 d1 d2 d3 d4 d5 d6 d7 d8) (b f0 f1 f2 f3 : Int) (hb : 0 ≤ b) (h : wrongI b f0 f1 f2 f3 = 0) (ho : (0 ≤ f0 ∧ f0 ≤ 65535) ∧ (0 ≤ f1 ∧ f1 ≤ 255) ∧ (0 ≤ f2 ∧ f2 ≤ 255) ∧ (0 ≤ f3 ∧ f3 ≤ 4294967295)) (s : VmS) (hs : SOk s) (hso : s.o = false) :
    ∃ q s', vm_step.f k f0 f1 f2 f3 d0 d1 d2 d3 d4 d5 d6 d7 d8 s = some (q, s') ∧ SOk s' ∧ (s'.o = true ∨ (0 ≤ q ∧ q < b)) := by
  obtain ⟨e0, e32, _, e5, ej, ek⟩ := wrong_facts h
  have hK : U32 f3 := ho.2.2.2
  by_cases h32 : f0 = 32
  · subst h32
    obtain ⟨h1, h2⟩ := e32 rfl
    have hb1 : b ≠ 0 := fun e => by have := e0 e; unfold Endd at this; omega
    have hl := load_is d0 d1 d2 d3 d4 d5 d6 d7 d8 f3 ho.2.2.2 k hk
    rw [if_pos ⟨h1, h2⟩] at hl
    have hr : U32 (rd (WS d0 d1 d2 d3 d4 d5 d6 d7 d8) (f3 / 4)) := by
      obtain ⟨j, hj⟩ := Int.eq_ofNat_of_zero_le (show 0 ≤ f3 / 4 by omega)
      rw [hj]
      exact ws_in hd _ (rd_memI _ j (by rw [ws_len]; omega))
    refine ⟨0, { s with a := rd (WS d0 d1 d2 d3 d4 d5 d6 d7 d8) (f3 / 4) }, ?_, ⟨hr, hs.x, hs.C⟩, .inr ⟨Int.le_refl _, by omega⟩⟩
    unfold vm_step.f vm_moves.f
    rw [if_pos (by decide), hl]
    rfl
  · obtain ⟨m, s', hm, hs', hm1, hm2, hm3, hm4⟩ := mv_ok f0 f3 s hs hK
    have hmv : vm_moves.f k f0 f3 d0 d1 d2 d3 d4 d5 d6 d7 d8 s = some (m, s') := by
      unfold vm_moves.f
      rw [if_neg (by simpa using h32), hm]
    cases m with
    | true =>
      refine ⟨0, s', ?_, hs', ?_⟩
      · unfold vm_step.f
        rw [hmv]
        rfl
      · by_cases h6 : f0 = 6 ∨ f0 = 22
        · exact .inl (hm2 h6).2
        · exact .inr ⟨Int.le_refl _, by
            have : b ≠ 0 := fun e => by have := e0 e; unfold Endd at this; omega
            omega⟩
    | false =>
      obtain rfl := hm1 rfl
      obtain ⟨n0, n1, n2, n3, n4, n5, n6, n7, n8, n9, n10⟩ := hm4 rfl
      have hb1 : b ≠ 0 := fun e => by have := e0 e; unfold Endd at this; omega
      have hc : Reck f0 ∨ Jmps f0 := by
        unfold Knwn Sing Endd at ek
        rcases ek with q | q | q | q
        · omega
        · exact .inl q
        · exact .inr q
        · omega
      have hst := st_ok f0 f1 f2 f3 b s' hs hK ho.2.1 ho.2.2.1 (by omega) e5 ej hc
      refine ⟨(vm_ST f0 f1 f2 f3 s').1, (vm_ST f0 f1 f2 f3 s').2, ?_, hst.1, .inr hst.2⟩
      unfold vm_step.f
      rw [hmv, Option.bind_some, if_neg (by simp), if_pos ⟨hs.x.1, hK.1, hK.2⟩]
theorem step_at (k : Nat) (hk : 7 ≤ k) {f0 f1 f2 f3 d0 d1 d2 d3 d4 d5 d6 d7 d8 : Int} {s : VmS} {r : Int × VmS} (h : vm_step.f 7 f0 f1 f2 f3 d0 d1 d2 d3 d4 d5 d6 d7 d8 s = some r) : vm_step.f k f0 f1 f2 f3 d0 d1 d2 d3 d4 d5 d6 d7 d8 s = some r :=
  at_rounds (fun k => vm_step.mono f0 f1 f2 f3 d0 d1 d2 d3 d4 d5 d6 d7 d8 s k) hk h
/-- A run from a place on: the places, the answer. -/
inductive Runs (l : List S53) (d0 d1 d2 d3 d4 d5 d6 d7 d8 : Int) : Nat → VmS → List Int → Int → Prop
  | stop {i : Nat} {s s' : VmS} {q : Int} (hi : i < l.length) (hst : vm_step.f 7 (rd_T53 l i).f0 (rd_T53 l i).f1 (rd_T53 l i).f2 (rd_T53 l i).f3 d0 d1 d2 d3 d4 d5 d6 d7 d8 s = some (q, s')) (ho : s'.o = true) : Runs l d0 d1 d2 d3 d4 d5 d6 d7 d8 i s [(i : Int)] s'.r
  | go {i : Nat} {s s' : VmS} {q : Int} {P : List Int} {ans : Int} (hi : i < l.length) (hst : vm_step.f 7 (rd_T53 l i).f0 (rd_T53 l i).f1 (rd_T53 l i).f2 (rd_T53 l i).f3 d0 d1 d2 d3 d4 d5 d6 d7 d8 s = some (q, s')) (ho : s'.o = false) (hq0 : 0 ≤ q) (hq : i + q.toNat + 1 < l.length) (hr : Runs l d0 d1 d2 d3 d4 d5 d6 d7 d8 (i + q.toNat + 1) s' P ans) : Runs l d0 d1 d2 d3 d4 d5 d6 d7 d8 i s ((i : Int) :: P) ans
theorem runs_ex (l : List S53) (ho : ∀ x ∈ l, InsOk x) (hw : ∀ j, j < l.length → wrongOf ((l.length - 1 - j : Nat) : Int) (rd_T53 l j) = 0) {d0 d1 d2 d3 d4 d5 d6 d7 d8 : Int} (hd : DOk d0 d1 d2 d3 d4 d5 d6 d7 d8) (n : Nat) : ∀ (i : Nat) (s : VmS), l.length - i ≤ n → i < l.length → SOk s → s.o = false → ∃ P ans, Runs l d0 d1 d2 d3 d4 d5 d6 d7 d8 i s P ans := by
  induction n with
  | zero => intro i s h1 h2; omega
  | succ n ih =>
    intro i s h1 h2 hs hso
    obtain ⟨q, s', hst, hs', hor⟩ := step_ok 7 (Nat.le_refl _) hd ((l.length - 1 - i : Nat) : Int) _ _ _ _ (by omega) (hw i h2) (rd_ok ho i h2) s hs hso
    by_cases ho' : s'.o = true
    · exact ⟨_, _, .stop h2 hst ho'⟩
    · have ho2 : s'.o = false := by simpa using ho'
      rcases hor with e | ⟨q0, q1⟩
      · exact absurd e ho'
      · obtain ⟨P, ans, hr⟩ := ih (i + q.toNat + 1) s' (by omega) (by omega) hs' ho2
        exact ⟨_, _, .go h2 hst ho2 q0 (by omega) hr⟩
theorem runs_len {l : List S53} {d0 d1 d2 d3 d4 d5 d6 d7 d8 : Int} {i : Nat} {s : VmS} {P : List Int} {ans : Int} (h : Runs l d0 d1 d2 d3 d4 d5 d6 d7 d8 i s P ans) : 1 ≤ P.length ∧ P.length + i ≤ l.length := by
  induction h with
  | stop hi _ _ => simp; omega
  | go hi _ _ _ hq _ ih => simp only [List.length_cons]; omega
theorem runs_play {l : List S53} (hl : l.length ≤ 4096) {d0 d1 d2 d3 d4 d5 d6 d7 d8 : Int} {i : Nat} {s : VmS} {P : List Int} {ans : Int} (h : Runs l d0 d1 d2 d3 d4 d5 d6 d7 d8 i s P ans) : ∀ (k : Nat) (L : List Int), P.length + 10 < k → L.length + P.length ≤ 100000 → s.o = false → vm_play.l0 k l d0 d1 d2 d3 d4 d5 d6 d7 d8 i s L = some (ans, L ++ P) := by
  induction h with
  | @stop i s s' q hi hst ho =>
    intro k L hk hL hso
    simp only [List.length_cons, List.length_nil] at hk hL
    obtain ⟨k, rfl⟩ : ∃ m, k = m + 2 := ⟨k - 2, by omega⟩
    rw [vm_play.l0.eq_2, if_neg (by rw [hso]; decide), if_pos ⟨by omega, by omega, by omega⟩, step_at _ (by omega) hst, Option.bind_some]
    rw [vm_play.l0.eq_2, if_pos ho]
  | @go i s s' q P ans hi hst ho hq0 hq hr ih =>
    intro k L hk hL hso
    simp only [List.length_cons] at hk hL
    obtain ⟨k, rfl⟩ : ∃ m, k = m + 1 := ⟨k - 1, by omega⟩
    have e : wrap64 (wrap64 ((i : Int) + q) + 1) = ((i + q.toNat + 1 : Nat) : Int) := by rw [w64_id (x := (i : Int) + q) (by omega) (by omega), w64_id (by omega) (by omega)]; omega
    rw [vm_play.l0.eq_2, if_neg (by rw [hso]; decide), if_pos ⟨by omega, by omega, by omega⟩, step_at _ (by omega) hst, Option.bind_some]
    show vm_play.l0 k l _ _ _ _ _ _ _ _ _ (wrap64 (wrap64 ((i : Int) + q) + 1)) s' (L ++ [(i : Int)]) = _
    rw [e, ih k (L ++ [(i : Int)]) (by omega) (by rw [List.length_append]; simp; omega) ho, List.append_assoc, List.singleton_append]
def S0 : VmS := ⟨0, 0, false, 0, fun _ => 0⟩
theorem s0_ok : SOk S0 := ⟨by unfold U32; decide, by unfold U32; decide, fun _ => by show U32 0; unfold U32; decide⟩
/-- A program that may not be run, or one that is run. -/
theorem play_ok (l : List S53) (ho : ∀ x ∈ l, InsOk x) {d0 d1 d2 d3 d4 d5 d6 d7 d8 : Int} (hd : DOk d0 d1 d2 d3 d4 d5 d6 d7 d8) : ((CH l).1 = 0 ∧ l.length ≤ 4096 ∧ 1 ≤ l.length ∧ ∃ P ans, Runs l d0 d1 d2 d3 d4 d5 d6 d7 d8 0 S0 P ans ∧ ∀ k, 5000 ≤ k → vm_play.f k l d0 d1 d2 d3 d4 d5 d6 d7 d8 = some (ans, P, 0)) ∨ ((CH l).1 ≠ 0 ∧ ∀ k, 5000 ≤ k → vm_play.f k l d0 d1 d2 d3 d4 d5 d6 d7 d8 = some (0, [], (CH l).1)) := by
  by_cases hc : (CH l).1 = 0
  · obtain ⟨h1, h2, h3, h4⟩ := CH_ok hc
    obtain ⟨P, ans, hr⟩ := runs_ex l ho (fun j hj => chk_all l 0 j h3 hj) hd l.length 0 S0 (by omega) (by omega) s0_ok rfl
    have hlen := runs_len hr
    refine .inl ⟨hc, h2, by omega, P, ans, hr, fun k hk => ?_⟩
    have := runs_play h2 hr k [] (by omega) (by simp; omega) rfl
    unfold vm_play.f
    rw [check_is l ho k (by omega), Option.bind_some, if_pos hc]
    rw [Int.natCast_zero] at this
    show (vm_play.l0 k l d0 d1 d2 d3 d4 d5 d6 d7 d8 0 S0 []).bind _ = _
    rw [this]
    rfl
  · refine .inr ⟨hc, fun k hk => ?_⟩
    unfold vm_play.f
    rw [check_is l ho k (by omega), Option.bind_some, if_neg hc]
theorem run_of {k : Nat} {l : List S53} {d0 d1 d2 d3 d4 d5 d6 d7 d8 ans e : Int} {P : List Int} (h : vm_play.f k l d0 d1 d2 d3 d4 d5 d6 d7 d8 = some (ans, P, e)) : vm_Run.f k l d0 d1 d2 d3 d4 d5 d6 d7 d8 = some (ans, (P.length : Int), e) := by
  unfold vm_Run.f
  rw [h]
  rfl
end Go.Proofs.Yteojfjlklikaoaa.Pure
