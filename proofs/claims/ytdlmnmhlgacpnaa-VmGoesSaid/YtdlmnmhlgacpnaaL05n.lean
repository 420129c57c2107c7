/- Layer 5 (check), plain: where an instruction goes on. -/
import Derived.Test.YtdlmnmhlgacpnaaMx0
import Derived.Test.YtdlmnmhlgacpnaaMx3
import Derived.Test.YtdlmnmhlgacpnaaMx7
import Derived.Test.YtdlmnmhlgacpnaaMx20
import Derived.Test.YtdlmnmhlgacpnaaAid
import Derived.Test.YtdlmnmhlgacpnaaL00
import Derived.Test.YtdlmnmhlgacpnaaL03k
import Derived.Test.YtdlmnmhlgacpnaaL05
import Derived.Test.YtdlmnmhlgacpnaaL05b
namespace Go.Proofs.Ytdlmnmhlgacpnaa.Pure
open Go Go.RowKit Go.Proofs.Ytdlmnmhlgacpnaa.M Go.Proofs.Ytdlmnmhlgacpnaa.Aid Go.Proofs.YtdlmnmhlgacpnaaW.PrintWords Go.Proofs.YtdlmnmhlgacpnaaW.PrintLast Go.Proofs.YtdlmnmhlgacpnaaW.PrintMore
set_option linter.unusedVariables false
set_option linter.unusedSimpArgs false

-- NEEDS check_Next.f check_Check.f fairleadref05_Check.f
-- IMPORT L00
-- IMPORT L03k
-- IMPORT L05
-- IMPORT L05b

/-- How far one may go on, by the instruction alone. -/
def farI (x : S37) : List Int := if x.f0 = 5 then [x.f3] else if Jmps x.f0 then (if x.f1 = x.f2 then [mn x.f1 x.f2] else [mn x.f1 x.f2, mx x.f1 x.f2]) else if Endd x.f0 then [] else [0]
def nextI (b : Int) (i : Int) (x : S37) : List Int := ((farI x).filter fun n => decide (n < b)).map fun n => i + 1 + n
theorem next_eb (l : List S37) (i : Nat) (hi : i < l.length) (hl : l.length ≤ 4096) : IntKind.u64.wrap (wrap64 (wrap64 ((l.length : Int) - 1) - i)) = ((l.length - 1 - i : Nat) : Int) := by rw [IntKind.wrap_u64, w64_id (x := (l.length : Int) - 1) (by omega) (by omega), w64_id (by omega) (by omega)]; omega
theorem next_loop (l : List S37) (i : Nat) (hi : i < l.length) (hl : l.length ≤ 4096) (far : List Int) (hf : ∀ x ∈ far, 0 ≤ x ∧ x ≤ 4294967295) (hfl : far.length ≤ 10) (d : Nat) : ∀ (k j : Nat) (out : List Int), j + d = far.length → d < k → out.length + d ≤ 100 →
    check_Next.l0 k l i out far far.length j = some (out ++ ((far.drop j).filter fun n => decide (n < ((l.length - 1 - i : Nat) : Int))).map fun n => (i : Int) + 1 + n) := by
  induction d with
  | zero =>
    intro k j out hj hk _
    obtain ⟨k, rfl⟩ : ∃ m, k = m + 1 := ⟨k - 1, by omega⟩
    simp only [check_Next.l0]
    rw [if_neg (by omega), List.drop_of_length_le (by omega)]
    simp
  | succ d ih =>
    intro k j out hj hk ho
    obtain ⟨k, rfl⟩ : ∃ m, k = m + 1 := ⟨k - 1, by omega⟩
    have hr := hf _ (rd_memI far j (by omega))
    simp only [check_Next.l0]
    rw [if_pos (by omega), if_pos (by omega), if_pos (by omega), drop_rdI far j (by omega)]
    have w2 : wrap64 (wrap64 ((i : Int) + 1) + wrap64 (rd far j)) = (i : Int) + 1 + rd far j := by rw [w64_id (x := rd far j) (by omega) (by omega), w64_id (x := (i : Int) + 1) (by omega) (by omega), w64_id (by omega) (by omega)]
    simp only [next_eb l i hi hl, w2]
    clear w2
    have w : wrap64 ((j : Int) + 1) = ((j + 1 : Nat) : Int) := by unfold wrap64; omega
    simp only [w]
    clear w
    by_cases h : rd far j < ((l.length - 1 - i : Nat) : Int)
    · rw [if_pos h, if_pos (by omega), ih k (j + 1) _ (by omega) (by omega) (by rw [List.length_append, List.length_singleton]; omega), List.filter_cons_of_pos (p := fun n => decide (n < ((l.length - 1 - i : Nat) : Int))) (decide_eq_true h)]
      simp only [List.map_cons, List.append_assoc, List.singleton_append]
    · rw [if_neg h, ih k (j + 1) _ (by omega) (by omega) (by omega), List.filter_cons_of_neg (p := fun n => decide (n < ((l.length - 1 - i : Nat) : Int))) (fun e => h (of_decide_eq_true e))]
theorem farI_ok {x : S37} (h : InsOk x) : (∀ n ∈ farI x, 0 ≤ n ∧ n ≤ 4294967295) ∧ (farI x).length ≤ 2 := by
  obtain ⟨h0, h1, h2, h3⟩ := h
  have hmn : 0 ≤ mn x.f1 x.f2 ∧ mn x.f1 x.f2 ≤ 255 := by unfold mn; split <;> omega
  have hmx : 0 ≤ mx x.f1 x.f2 ∧ mx x.f1 x.f2 ≤ 255 := by unfold mx; split <;> omega
  unfold farI
  repeat' split
  all_goals refine ⟨fun n hn => ?_, by simp⟩
  all_goals simp only [List.mem_cons, List.not_mem_nil, or_false] at hn
  all_goals first | (exact hn.elim) | skip
  all_goals first | (subst hn; omega) | (rcases hn with rfl | rfl <;> omega)
theorem next_is (l : List S37) (ho : ∀ x ∈ l, InsOk x) (hl : l.length ≤ 4096) (i : Int) (k : Nat) (hk : 20 ≤ k) :
    check_Next.f k l i = some (if 0 ≤ i ∧ i < l.length then nextI (l.length - 1 - i) i (rd_T37 l i) else []) := by
  obtain ⟨k, rfl⟩ : ∃ m, k = m + 2 := ⟨k - 2, by omega⟩
  have skip : check_Next.j0 (k + 2) l i true = some [] := by simp only [check_Next.j0]; rw [if_pos trivial]
  unfold check_Next.f
  by_cases h1 : i < 0
  · rw [if_pos h1, skip, if_neg (by omega)]
  · rw [if_neg h1]
    by_cases h2 : i ≥ l.length
    · rw [decide_eq_true h2, skip, if_neg (by omega)]
    · rw [decide_eq_false h2]
      obtain ⟨n, rfl⟩ := Int.eq_ofNat_of_zero_le (show 0 ≤ i by omega)
      have hn : n < l.length := by omega
      have hx := rd_ok ho n hn
      have hj : ∀ far : List Int, (∀ x ∈ far, 0 ≤ x ∧ x ≤ 4294967295) → far.length ≤ 2 → check_Next.j1 (k + 1) l n far = some ((far.filter fun m => decide (m < ((l.length : Int) - 1 - n))).map fun m => (n : Int) + 1 + m) := fun far h h' => by
        simp only [check_Next.j1]
        have := next_loop l n hn hl far h (by omega) far.length k 0 [] (by omega) (by omega) (by simp; omega)
        rw [show ((l.length - 1 - n : Nat) : Int) = (l.length : Int) - 1 - n from by omega] at this
        simpa using this
      obtain ⟨hf1, hf2⟩ := farI_ok hx
      obtain ⟨h0, h1', h2', h3⟩ := hx
      rw [if_pos (by omega)]
      simp only [check_Next.j0]
      rw [if_neg (by decide), if_pos (by omega), if_pos (by omega), jumps_is, ends_is]
      simp only [Option.bind_some, dec_true, List.nil_append, List.length_nil, List.length_singleton, List.singleton_append]
      have e3 : IntKind.u64.wrap (rd_T37 l n).f3 = (rd_T37 l n).f3 := by rw [IntKind.wrap_u64]; omega
      have hmn : 0 ≤ mn (rd_T37 l n).f1 (rd_T37 l n).f2 ∧ mn (rd_T37 l n).f1 (rd_T37 l n).f2 ≤ 255 := by unfold mn; split <;> omega
      have hmx : 0 ≤ mx (rd_T37 l n).f1 (rd_T37 l n).f2 ∧ mx (rd_T37 l n).f1 (rd_T37 l n).f2 ≤ 255 := by unfold mx; split <;> omega
      have e1 : IntKind.u64.wrap (mn (rd_T37 l n).f1 (rd_T37 l n).f2) = mn (rd_T37 l n).f1 (rd_T37 l n).f2 := by rw [IntKind.wrap_u64]; omega
      have e2 : IntKind.u64.wrap (mx (rd_T37 l n).f1 (rd_T37 l n).f2) = mx (rd_T37 l n).f1 (rd_T37 l n).f2 := by rw [IntKind.wrap_u64]; omega
      rw [e1, e2, e3]
      unfold nextI
      by_cases c5 : (rd_T37 l n).f0 = 5
      · have ef : farI (rd_T37 l n) = [(rd_T37 l n).f3] := by unfold farI; rw [if_pos c5]
        rw [ef] at hf1 hf2 ⊢
        rw [if_pos c5, if_pos (by decide), hj _ hf1 hf2]
      · by_cases cj : Jmps (rd_T37 l n).f0
        · by_cases ce : (rd_T37 l n).f1 = (rd_T37 l n).f2
          · have ef : farI (rd_T37 l n) = [mn (rd_T37 l n).f1 (rd_T37 l n).f2] := by unfold farI; rw [if_neg c5, if_pos cj, if_pos ce]
            rw [ef] at hf1 hf2 ⊢
            rw [if_neg c5, if_pos cj, if_pos (by decide), if_pos ce, hj _ hf1 hf2]
          · have ef : farI (rd_T37 l n) = [mn (rd_T37 l n).f1 (rd_T37 l n).f2, mx (rd_T37 l n).f1 (rd_T37 l n).f2] := by unfold farI; rw [if_neg c5, if_pos cj, if_neg ce]
            rw [ef] at hf1 hf2 ⊢
            rw [if_neg c5, if_pos cj, if_pos (by decide), if_neg ce, if_pos (by decide), hj _ hf1 hf2]
        · by_cases cd : Endd (rd_T37 l n).f0
          · have ef : farI (rd_T37 l n) = [] := by unfold farI; rw [if_neg c5, if_neg cj, if_pos cd]
            rw [ef] at hf1 hf2 ⊢
            rw [if_neg c5, if_neg cj, if_pos cd, hj _ hf1 hf2]
          · have ef : farI (rd_T37 l n) = [0] := by unfold farI; rw [if_neg c5, if_neg cj, if_neg cd]
            rw [ef] at hf1 hf2 ⊢
            rw [if_neg c5, if_neg cj, if_neg cd, if_pos (by decide), hj _ hf1 hf2]
end Go.Proofs.Ytdlmnmhlgacpnaa.Pure
