/- The law VmElse, as numbers and lists: what the printed functions say of it is true for every input that the row lets in. -/
import Derived.Test.YtdlmnmhlgacpnaaMx19
import Derived.Test.YtdlmnmhlgacpnaaAid
import Derived.Test.YtdlmnmhlgacpnaaL06
import Derived.Test.YtdlmnmhlgacpnaaL06a
namespace Go.Proofs.Ytdlmnmhlgacpnaa.Pure
open Go Go.RowKit Go.Proofs.Ytdlmnmhlgacpnaa.M Go.Proofs.Ytdlmnmhlgacpnaa.Aid Go.Proofs.YtdlmnmhlgacpnaaW.PrintWords Go.Proofs.YtdlmnmhlgacpnaaW.PrintLast Go.Proofs.YtdlmnmhlgacpnaaW.PrintMore
set_option linter.unusedVariables false
set_option linter.unusedSimpArgs false

-- IMPORT L06
-- IMPORT L06a
theorem runs_set {l m : List S37} (hlen : m.length = l.length) {d0 d1 d2 d3 d4 d5 d6 d7 d8 : Int} {i : Nat} {s : VmS} {P : List Int} {ans : Int} (h : Runs l d0 d1 d2 d3 d4 d5 d6 d7 d8 i s P ans) : (∀ j : Nat, (j : Int) ∈ P → rd_T37 m j = rd_T37 l j) → Runs m d0 d1 d2 d3 d4 d5 d6 d7 d8 i s P ans := by
  induction h with
  | @stop i s s' q hi hst ho =>
    intro hm
    have e := hm i (by simp)
    exact .stop (by omega) (by rw [e]; exact hst) ho
  | @go i s s' q P ans hi hst ho hq0 hq hr ih =>
    intro hm
    have e := hm i (by simp)
    exact .go (by omega) (by rw [e]; exact hst) ho hq0 (by omega) (ih (fun j hj => hm j (List.mem_cons_of_mem _ hj)))
theorem rd_set (l : List S37) (a j : Nat) (x : S37) (h : j ≠ a) : rd_T37 (l.set a x) j = rd_T37 l j := by
  unfold rd_T37
  rw [Int.toNat_natCast, List.getD_eq_getElem?_getD, List.getD_eq_getElem?_getD, List.getElem?_set_ne (Ne.symm h)]
theorem else_loop (l : List S37) (ho : ∀ x ∈ l, InsOk x) (d0 d1 d2 d3 d4 d5 d6 d7 d8 ans : Int) (P : List Int) (hl : l.length ≤ 4096) (hr : Runs l d0 d1 d2 d3 d4 d5 d6 d7 d8 0 S0 P ans) (a : Nat) (ha : a < l.length) (x0 x1 x2 x3 x4 : Int) (hx : InsOk ⟨x1, x2, x3, x4⟩) (hd : DOk d0 d1 d2 d3 d4 d5 d6 d7 d8) (d : Nat) :
    ∀ (k i : Nat), i + d = P.length → d + 6000 < k → (∀ j, j < i → rd P j ≠ a) → fairleadlaw06_VmElse.l0 k l true ans P.length P a i d0 d1 d2 d3 d4 d5 d6 d7 d8 x0 x1 x2 x3 x4 = some true := by
  have hPl := runs_len hr
  induction d with
  | zero =>
    intro k i hi hk hn
    obtain ⟨k, rfl⟩ : ∃ m, k = m + 1 := ⟨k - 1, by omega⟩
    simp only [fairleadlaw06_VmElse.l0]
    have hm : ∀ x ∈ l.set a ⟨x1, x2, x3, x4⟩, InsOk x := fun x hx' => by
      rcases List.mem_or_eq_of_mem_set hx' with h | h
      · exact ho x h
      · rw [h]; exact hx
    have hml : (l.set a (⟨x1, x2, x3, x4⟩ : S37)).length = l.length := List.length_set
    rw [if_neg (by omega), Option.bind_some, if_pos (by simp; omega), Option.bind_some, if_pos (by omega), if_pos (by simp; omega), Option.bind_some, Int.toNat_natCast, List.nil_append, check_is _ hm k (by omega), Option.bind_some]
    by_cases hc : (CH (l.set a ⟨x1, x2, x3, x4⟩)).1 = 0
    · have hr2 := runs_set hml hr (fun j hj => rd_set l a j _ (fun e => by
        subst e
        obtain ⟨i', hi', he⟩ := List.getElem_of_mem hj
        refine hn i' (by omega) ?_
        unfold rd
        rw [Int.toNat_natCast, List.getD_eq_getElem?_getD, List.getElem?_eq_getElem hi']
        exact he))
      have h2 := run_of (play_runs hm hc hr2 k (by omega))
      rw [if_pos hc, h2]
      simp
    · rw [if_neg hc]
  | succ d ih =>
    intro k i hi hk hn
    obtain ⟨k, rfl⟩ : ∃ m, k = m + 1 := ⟨k - 1, by omega⟩
    simp only [fairleadlaw06_VmElse.l0]
    rw [if_pos (by omega), if_pos (by omega)]
    by_cases h : rd P i = a
    · rw [if_pos h]
    · rw [if_neg h, w64_id (by omega) (by omega)]
      have := ih k (i + 1) (by omega) (by omega) (fun j hj => by
        by_cases e : j = i
        · subst e; exact h
        · exact hn j (by omega))
      rwa [show ((i + 1 : Nat) : Int) = (i : Int) + 1 from by omega] at this
theorem VmElse : fairleadlaw06_VmElse.Pure := by
  intro l d0 d1 d2 d3 d4 d5 d6 d7 d8 x0 x1 x2 x3 x4 hl hd hx
  refine ⟨(20000 + 0) + 1, ?_⟩
  generalize hK : 20000 + 0 = K
  have hk : 20000 ≤ K := by omega
  have ho : ∀ x ∈ l, InsOk x := hl.2
  have hd' : DOk d0 d1 d2 d3 d4 d5 d6 d7 d8 := hd
  unfold fairleadlaw06_VmElse.f
  rw [awake06 _ (by omega), Option.bind_some]
  rcases play_ok l ho hd' with ⟨hc, h1, h2, P, ans, hr, hp⟩ | ⟨hc, hp⟩
  · have hlen := runs_len hr
    have hT : vm_Trace.f (K + 1) l d0 d1 d2 d3 d4 d5 d6 d7 d8 = some (P, 0) := by
      unfold vm_Trace.f
      rw [hp (K + 1) (by omega)]
      rfl
    rw [run_of (hp (K + 1) (by omega)), Option.bind_some, hT, Option.bind_some, if_pos rfl]
    simp only [fairleadlaw06_VmElse.j0]
    by_cases hx0 : x0 < 0
    · rw [if_pos (decide_eq_true hx0)]
    · have he : Int.tmod x0 (l.length : Int) = ((x0.toNat % l.length : Nat) : Int) := by
        obtain ⟨y, rfl⟩ := Int.eq_ofNat_of_zero_le (show 0 ≤ x0 by omega)
        rw [Int.tmod_eq_emod_of_nonneg (by omega), Int.toNat_natCast]
        rfl
      rw [if_neg (by simpa using hx0), if_neg (by omega), he]
      have := else_loop l ho d0 d1 d2 d3 d4 d5 d6 d7 d8 ans P h1 hr (x0.toNat % l.length) (Nat.mod_lt _ (by omega)) x0 x1 x2 x3 x4 hx.2 hd' P.length K 0 (by omega) (by omega) (fun j hj => by omega)
      rwa [Int.natCast_zero] at this
  · have hT : vm_Trace.f (K + 1) l d0 d1 d2 d3 d4 d5 d6 d7 d8 = some ([], (CH l).1) := by
      unfold vm_Trace.f
      rw [hp (K + 1) (by omega)]
      rfl
    rw [run_of (hp (K + 1) (by omega)), Option.bind_some, hT, Option.bind_some, if_neg hc]
    simp only [fairleadlaw06_VmElse.j0]
    rw [if_pos trivial]

end Go.Proofs.Ytdlmnmhlgacpnaa.Pure
