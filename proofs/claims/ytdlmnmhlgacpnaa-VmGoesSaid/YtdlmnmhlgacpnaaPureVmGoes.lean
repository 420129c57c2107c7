/- The law VmGoes, as numbers and lists: what the printed functions say of it is true for every input that the row lets in. -/
import Derived.Test.YtdlmnmhlgacpnaaMx21
import Derived.Test.YtdlmnmhlgacpnaaAid
import Derived.Test.YtdlmnmhlgacpnaaL06
import Derived.Test.YtdlmnmhlgacpnaaL06a
import Derived.Test.YtdlmnmhlgacpnaaL06g
namespace Go.Proofs.Ytdlmnmhlgacpnaa.Pure
open Go Go.RowKit Go.Proofs.Ytdlmnmhlgacpnaa.M Go.Proofs.Ytdlmnmhlgacpnaa.Aid Go.Proofs.YtdlmnmhlgacpnaaW.PrintWords Go.Proofs.YtdlmnmhlgacpnaaW.PrintLast Go.Proofs.YtdlmnmhlgacpnaaW.PrintMore
set_option linter.unusedVariables false
set_option linter.unusedSimpArgs false

-- IMPORT L06
-- IMPORT L06a
-- IMPORT L06g
/-- Places that rise, each one led on by the one ahead; how the last one ends. -/
def Goes (l : List S37) (ans : Int) : List Int → Prop
  | [] => False
  | p :: r => (∃ i : Nat, p = i ∧ i < l.length) ∧ (r = [] → ((rd_T37 l p).f0 = 6 ∧ ans = (rd_T37 l p).f3) ∨ (rd_T37 l p).f0 = 22 ∨ ((rd_T37 l p).f0 = 60 ∧ ans = 0)) ∧ (∀ p2 r2, r = p2 :: r2 → p < p2 ∧ p2 ∈ nextI (l.length - 1 - p) p (rd_T37 l p)) ∧ (r ≠ [] → Goes l ans r)
theorem runs_goes {l : List S37} (ho : ∀ x ∈ l, InsOk x) (hw : ∀ j, j < l.length → wrongOf ((l.length - 1 - j : Nat) : Int) (rd_T37 l j) = 0) {d0 d1 d2 d3 d4 d5 d6 d7 d8 : Int} {i : Nat} {s : VmS} {P : List Int} {ans : Int} (h : Runs l d0 d1 d2 d3 d4 d5 d6 d7 d8 i s P ans) : s.o = false → Goes l ans P ∧ ∃ r, P = (i : Int) :: r := by
  induction h with
  | @stop i s s' q hi hst hoo =>
    intro hso
    have hq := (step_q hst hso (hw i hi) (rd_ok ho i hi)).1 hoo
    exact ⟨⟨⟨i, rfl, hi⟩, fun _ => hq, fun p2 r2 e => (by cases e), fun e => absurd rfl e⟩, [], rfl⟩
  | @go i s s' q P ans hi hst hoo hq0 hq hr ih =>
    intro hso
    have hf := (step_q hst hso (hw i hi) (rd_ok ho i hi)).2 hoo
    obtain ⟨hg, r, rfl⟩ := ih hoo
    refine ⟨⟨⟨i, rfl, hi⟩, fun e => (by cases e), fun p2 r2 e => ?_, fun _ => hg⟩, _, rfl⟩
    injection e with e1 e2
    subst e1
    refine ⟨by omega, ?_⟩
    unfold nextI
    refine List.mem_map.2 ⟨q, List.mem_filter.2 ⟨hf, decide_eq_true (by omega)⟩, by omega⟩
theorem rd_dropI {P : List Int} {i : Nat} {p : Int} {r : List Int} (h : P.drop i = p :: r) : rd P i = p ∧ P.length = i + 1 + r.length ∧ P.drop (i + 1) = r := by
  have hlen : (P.drop i).length = r.length + 1 := by rw [h]; rfl
  rw [List.length_drop] at hlen
  have h2 := drop_rdI P i (by omega)
  rw [h] at h2
  injection h2 with h3 h4
  exact ⟨h3.symm, by omega, h4.symm⟩
theorem goes_l1 (l : List S37) (ans : Int) (P : List Int) (n : Int) (i : Nat) (hi1 : 1 ≤ i) (hi : i < P.length) (hP : P.length ≤ 5000) (hlt : rd P ((i - 1 : Nat) : Int) < rd P i) (tz : List Int) (ht : tz.length ≤ 1000) (k d : Nat) : ∀ (j : Nat) (acc : Bool), j + d = tz.length → (acc = true ∨ rd P i ∈ tz.drop j) →
    fairleadlaw06_VmGoes.l1 (k + (d + 1)) l true ans n P i tz acc j = fairleadlaw06_VmGoes.l0 k l true ans n P ((i + 1 : Nat) : Int) := by
  have e1 : wrap64 ((i : Int) - 1) = ((i - 1 : Nat) : Int) := by rw [w64_id (by omega) (by omega)]; omega
  have e2 : wrap64 ((i : Int) + 1) = ((i + 1 : Nat) : Int) := by rw [w64_id (by omega) (by omega)]; omega
  induction d with
  | zero =>
    intro j acc hj hor
    have hacc : acc = true := by
      rcases hor with h | h
      · exact h
      · rw [List.drop_of_length_le (by omega)] at h
        cases h
    rw [show k + (0 + 1) = k + 1 from rfl]
    simp only [fairleadlaw06_VmGoes.l1]
    rw [if_neg (by omega), if_pos hacc, if_pos (by omega), if_pos (by omega), e1, if_pos (by omega), if_pos (by omega), if_neg (by omega), e2]
  | succ d ih =>
    intro j acc hj hor
    have e3 : wrap64 ((j : Int) + 1) = ((j + 1 : Nat) : Int) := by rw [w64_id (by omega) (by omega)]; omega
    obtain ⟨M, hM⟩ : ∃ M, M = k + (d + 1) := ⟨_, rfl⟩
    rw [show k + (d + 1 + 1) = M + 1 by omega]
    simp only [fairleadlaw06_VmGoes.l1]
    rw [if_pos (by omega)]
    by_cases hacc : acc = true
    · rw [if_pos hacc, e3, hM, ih (j + 1) true (by omega) (.inl rfl)]
    · have hj2 : j + 1 + d = tz.length := by omega
      have ho2 : (rd tz j == rd P i) = true ∨ rd P i ∈ tz.drop (j + 1) := by
        rcases hor with h | h
        · exact absurd h hacc
        · rw [drop_rdI tz j (by omega)] at h
          rcases List.mem_cons.1 h with h | h
          · exact .inl (by rw [beq_iff_eq]; exact h.symm)
          · exact .inr h
      have hh := ih (j + 1) _ hj2 ho2
      have a1 : (0 : Int) ≤ (j : Int) := Int.natCast_nonneg j
      have a2 : (0 : Int) ≤ (i : Int) := Int.natCast_nonneg i
      have a3 : (i : Int) < (P.length : Int) := Int.ofNat_lt.2 hi
      rw [if_neg hacc]
      rw [if_pos a1]
      rw [if_pos a2]
      rw [if_pos a3]
      rw [e3, hM]
      exact hh
theorem goes_loop (l : List S37) (ho : ∀ x ∈ l, InsOk x) (hl : l.length ≤ 4096) (ans : Int) (P : List Int) (hP : P.length ≤ 5000) (d : Nat) : ∀ (k i : Nat), 1 ≤ i → i + d = P.length → 1100 * d + 100 < k → Goes l ans (P.drop (i - 1)) → fairleadlaw06_VmGoes.l0 k l true ans P.length P i = some true := by
  induction d with
  | zero =>
    intro k i hi1 hi hk hg
    obtain ⟨k, rfl⟩ : ∃ m, k = m + 1 := ⟨k - 1, by omega⟩
    have e1 : wrap64 ((P.length : Int) - 1) = ((i - 1 : Nat) : Int) := by rw [w64_id (by omega) (by omega)]; omega
    obtain ⟨p, r, hpr⟩ := List.exists_cons_of_ne_nil (show P.drop (i - 1) ≠ [] from fun e => by rw [e] at hg; exact hg)
    obtain ⟨h1, h2, h3⟩ := rd_dropI hpr
    have hr : r = [] := List.eq_nil_of_length_eq_zero (by omega)
    subst hr
    rw [hpr] at hg
    obtain ⟨⟨j, hj, hjl⟩, hend, _, _⟩ := hg
    have hend := hend rfl
    simp only [fairleadlaw06_VmGoes.l0]
    rw [if_neg (by omega), e1, if_pos (by omega), if_pos (by omega), h1, if_neg (by omega), if_neg (by omega), if_pos (by omega), if_pos (by omega), if_pos trivial]
    by_cases h6 : (rd_T37 l p).f0 = 6
    · rw [if_pos h6]
      rcases hend with ⟨_, e⟩ | e | ⟨e, _⟩
      · rw [if_pos e]
      · omega
      · omega
    · rw [if_neg h6]
      rcases hend with ⟨e, _⟩ | e | ⟨e, e0⟩
      · exact absurd e h6
      · rw [if_pos e]
      · rw [if_neg (by omega), if_pos e, e0]
        rfl
  | succ d ih =>
    intro k i hi1 hi hk hg
    obtain ⟨p, r, hpr⟩ := List.exists_cons_of_ne_nil (show P.drop (i - 1) ≠ [] from fun e => by rw [e] at hg; exact hg)
    obtain ⟨h1, h2, h3⟩ := rd_dropI hpr
    rw [show i - 1 + 1 = i by omega] at h3
    obtain ⟨p2, r2, hr2⟩ := List.exists_cons_of_ne_nil (show r ≠ [] from fun e => by rw [e] at h2; simp at h2; omega)
    obtain ⟨h4, h5, h6⟩ := rd_dropI (h3.trans hr2)
    rw [hpr] at hg
    obtain ⟨⟨j, hj, hjl⟩, _, hnx, hgr⟩ := hg
    obtain ⟨hlt, hmem⟩ := hnx p2 r2 hr2
    have hg2 := hgr (by rw [hr2]; exact List.cons_ne_nil _ _)
    have e1 : wrap64 ((i : Int) - 1) = ((i - 1 : Nat) : Int) := by rw [w64_id (by omega) (by omega)]; omega
    have hnl : (nextI (l.length - 1 - p) p (rd_T37 l p)).length ≤ 2 := by
      unfold nextI
      rw [List.length_map]
      have hf := (farI_ok (rd_ok ho j hjl)).2
      rw [hj]
      exact Nat.le_trans (List.length_filter_le _ _) hf
    generalize hto : nextI (l.length - 1 - p) p (rd_T37 l p) = tz at hmem hnl
    obtain ⟨k, rfl⟩ : ∃ m, k = m + (tz.length + 1) + 2 := ⟨k - (tz.length + 1) - 2, by omega⟩
    have hn := next_is l ho hl p (k + (tz.length + 1)) (by omega)
    rw [if_pos ⟨by omega, by omega⟩, hto] at hn
    obtain ⟨M, hM⟩ : ∃ M, M = k + (tz.length + 1) := ⟨_, rfl⟩
    rw [← hM] at hn
    rw [show k + (tz.length + 1) + 2 = (M + 1) + 1 by omega]
    simp only [fairleadlaw06_VmGoes.l0]
    rw [if_pos (by omega), e1, if_pos (by omega), if_pos (by omega), h1, if_neg (by omega)]
    simp only [fairleadlaw06_VmGoes.j2]
    rw [if_neg (by simp; omega), e1, if_pos (by omega), if_pos (by omega), h1, hn, Option.bind_some]
    have hL := goes_l1 l ans P P.length i hi1 (by omega) hP (by rw [h1, h4]; exact hlt) tz (by omega) k tz.length 0 false (by omega) (.inr (by rw [List.drop_zero, h4]; exact hmem))
    rw [Int.natCast_zero] at hL
    rw [hM, hL]
    exact ih k (i + 1) (by omega) (by omega) (by omega) (by rw [Nat.add_sub_cancel, h3]; exact hg2)
theorem VmGoes : fairleadlaw06_VmGoes.Pure := by
  intro l d0 d1 d2 d3 d4 d5 d6 d7 d8 hl hd
  refine ⟨(6000000 + 0) + 1, ?_⟩
  generalize hK : 6000000 + 0 = K
  have hk : 6000000 ≤ K := by omega
  clear hK
  have ho : ∀ x ∈ l, InsOk x := hl.2
  have hd' : DOk d0 d1 d2 d3 d4 d5 d6 d7 d8 := hd
  unfold fairleadlaw06_VmGoes.f
  rw [awake06 _ (by omega), Option.bind_some]
  rcases play_ok l ho hd' with ⟨hc, h1, h2, P, ans, hr, hp⟩ | ⟨hc, hp⟩
  · have hlen := runs_len hr
    have hT : vm_Trace.f (K + 1) l d0 d1 d2 d3 d4 d5 d6 d7 d8 = some (P, 0) := by
      unfold vm_Trace.f
      rw [hp (K + 1) (by omega)]
      rfl
    obtain ⟨c1, c2, c3, c4⟩ := CH_ok hc
    obtain ⟨hg, r, hP⟩ := runs_goes ho (fun j hj => chk_all l 0 j c3 hj) hr rfl
    rw [run_of (hp (K + 1) (by omega)), Option.bind_some, hT, Option.bind_some, if_pos rfl, if_pos rfl, if_pos rfl, if_neg (by show ¬ ((P.length : Int) < 1); omega), if_neg (by show ¬ ((P.length : Int) > l.length); omega), if_pos (by show (0 : Int) < (P.length : Int); omega)]
    have h0 : ((rd P 0) != 0) = false := by rw [hP]; rfl
    rw [h0]
    simp only [fairleadlaw06_VmGoes.j0]
    rw [if_neg (by decide)]
    obtain ⟨n, hn⟩ : ∃ n, P.length = 1 + n := ⟨P.length - 1, by omega⟩
    exact goes_loop l ho h1 ans P (by omega) n K 1 (Nat.le_refl _) hn.symm (by omega) hg
  · have hT : vm_Trace.f (K + 1) l d0 d1 d2 d3 d4 d5 d6 d7 d8 = some ([], (CH l).1) := by
      unfold vm_Trace.f
      rw [hp (K + 1) (by omega)]
      rfl
    rw [run_of (hp (K + 1) (by omega)), Option.bind_some, hT, Option.bind_some, if_pos rfl, if_neg hc, check_is l ho (K + 1) (by omega), Option.bind_some]
    simp

end Go.Proofs.Ytdlmnmhlgacpnaa.Pure
