/- The law CheckNext, as numbers and lists: what the printed functions say of it is true for every input that the row lets in. -/
import Derived.Test.YtojaklonmikldaaMx8
import Derived.Test.YtojaklonmikldaaAid
import Derived.Test.YtojaklonmikldaaL03k
import Derived.Test.YtojaklonmikldaaL05
import Derived.Test.YtojaklonmikldaaL05b
import Derived.Test.YtojaklonmikldaaL05n
namespace Go.Proofs.Ytojaklonmikldaa.Pure
open Go Go.RowKit Go.Proofs.Ytojaklonmikldaa.M Go.Proofs.Ytojaklonmikldaa.Aid Go.Proofs.YtojaklonmikldaaW.PrintWords Go.Proofs.YtojaklonmikldaaW.PrintLast Go.Proofs.YtojaklonmikldaaW.PrintMore
set_option linter.unusedVariables false
set_option linter.unusedSimpArgs false

-- IMPORT L03k
-- IMPORT L05
-- IMPORT L05b
-- IMPORT L05n
/-- The distances from t on, d of them, that meet p. -/
def refG (p : Int → Bool) : Nat → Int → List Int
  | 0, _ => []
  | d + 1, t => (if p t = true then [t] else []) ++ refG p d (t + 1)
theorem refG_none (p : Int → Bool) (hp : ∀ t, p t = false) (d : Nat) : ∀ t, refG p d t = [] := by
  induction d with
  | zero => intro t; rfl
  | succ d ih => intro t; simp only [refG]; rw [hp, ih]; rfl
theorem refG_one (a : Int) (d : Nat) : ∀ t, refG (fun x => decide (x = a)) d t = if t ≤ a ∧ a < t + d then [a] else [] := by
  induction d with
  | zero => intro t; simp only [refG]; rw [if_neg (by omega)]
  | succ d ih =>
    intro t
    simp only [refG, ih, decide_eq_true_eq]
    by_cases h : t = a
    · rw [if_pos h, if_neg (by omega), if_pos (by omega), h]
      rfl
    · rw [if_neg h]
      by_cases h2 : t + 1 ≤ a ∧ a < t + 1 + d
      · rw [if_pos h2, if_pos (by omega)]; rfl
      · rw [if_neg h2, if_neg (by omega)]; rfl
theorem refG_two (a c : Int) (hac : a < c) (d : Nat) : ∀ t, refG (fun x => decide (x = a ∨ x = c)) d t = (if t ≤ a ∧ a < t + d then [a] else []) ++ (if t ≤ c ∧ c < t + d then [c] else []) := by
  induction d with
  | zero => intro t; simp only [refG]; rw [if_neg (by omega), if_neg (by omega)]; rfl
  | succ d ih =>
    intro t
    simp only [refG, ih, decide_eq_true_eq]
    by_cases h : t = a
    · subst h
      rw [if_pos (.inl rfl), if_neg (show ¬ (t + 1 ≤ t ∧ t < t + 1 + (d : Int)) by omega), if_pos (show t ≤ t ∧ t < t + ((d + 1 : Nat) : Int) by omega)]
      by_cases h2 : t + 1 ≤ c ∧ c < t + 1 + d
      · rw [if_pos h2, if_pos (by omega)]; rfl
      · rw [if_neg h2, if_neg (by omega)]; rfl
    · by_cases h1 : t = c
      · subst h1
        rw [if_pos (.inr rfl), if_neg (by omega), if_neg (by omega), if_neg (by omega), if_pos (by omega)]
        rfl
      · rw [if_neg (by omega)]
        by_cases h2 : t + 1 ≤ a ∧ a < t + 1 + d
        · rw [if_pos h2, if_pos (show t ≤ a ∧ a < t + ((d + 1 : Nat) : Int) by omega)]
          by_cases h3 : t + 1 ≤ c ∧ c < t + 1 + d
          · rw [if_pos h3, if_pos (by omega)]; rfl
          · rw [if_neg h3, if_neg (by omega)]; rfl
        · rw [if_neg h2, if_neg (show ¬ (t ≤ a ∧ a < t + ((d + 1 : Nat) : Int)) by omega)]
          by_cases h3 : t + 1 ≤ c ∧ c < t + 1 + d
          · rw [if_pos h3, if_pos (by omega)]; rfl
          · rw [if_neg h3, if_neg (by omega)]; rfl
/-- Does one go on so far? -/
def goesTo (x : S32) (t : Int) : Bool := if x.f0 = 5 then decide (t = x.f3) else if Jmps x.f0 then decide (t = x.f1 ∨ t = x.f2) else if Endd x.f0 then false else decide (t = 0)
theorem u64_id {x : Int} (h : 0 ≤ x) (h' : x ≤ 18446744073709551615) : IntKind.u64.wrap x = x := by rw [IntKind.wrap_u64]; omega
theorem rn_w (i t : Nat) (h : i + t ≤ 5000) : wrap64 (((i + 1 + t : Nat) : Int) + 1) = ((i + 1 + (t + 1) : Nat) : Int) := by rw [w64_id (by omega) (by omega)]; omega
theorem rn_w2 (i t : Nat) (h : i + t ≤ 5000) : IntKind.u64.wrap (wrap64 (wrap64 (((i + 1 + t : Nat) : Int) - i) - 1)) = (t : Int) := by
  rw [w64_id (x := ((i + 1 + t : Nat) : Int) - i) (by omega) (by omega), w64_id (by omega) (by omega), u64_id (by omega) (by omega)]
  omega
theorem rnext_loop (l : List S32) (i : Nat) (hl : l.length ≤ 4096) (x : S32) (hx : InsOk x) (d : Nat) : ∀ (k t : Nat) (out : List Int), i + 1 + t + d = l.length → d < k → out.length + d ≤ 5000 →
    fairleadref05_Next.l0 k l i out ((i + 1 + t : Nat) : Int) x.f0 x.f1 x.f2 x.f3 = some (out ++ (refG (goesTo x) d t).map fun n => (i : Int) + 1 + n) := by
  obtain ⟨h0, h1, h2, h3⟩ := hx
  induction d with
  | zero =>
    intro k t out hj hk _
    obtain ⟨k, rfl⟩ : ∃ m, k = m + 1 := ⟨k - 1, by omega⟩
    simp only [fairleadref05_Next.l0]
    rw [if_neg (by omega)]
    simp [refG]
  | succ d ih =>
    intro k t out hj hk ho
    obtain ⟨k, rfl⟩ : ∃ m, k = m + 1 := ⟨k - 1, by omega⟩
    have hy := ih k (t + 1) (out ++ [((i + 1 + t : Nat) : Int)]) (by omega) (by omega) (by rw [List.length_append, List.length_singleton]; omega)
    have hn := ih k (t + 1) out (by omega) (by omega) (by omega)
    have ey : goesTo x t = true → some (out ++ (refG (goesTo x) (d + 1) t).map fun n => (i : Int) + 1 + n) = fairleadref05_Next.l0 k l i (out ++ [((i + 1 + t : Nat) : Int)]) ((i + 1 + (t + 1) : Nat) : Int) x.f0 x.f1 x.f2 x.f3 := fun h => by
      rw [hy]
      simp only [refG, if_pos h, List.map_append, List.map_cons, List.map_nil, List.append_assoc]
      rw [show (i : Int) + 1 + t = ((i + 1 + t : Nat) : Int) from by omega, show ((t + 1 : Nat) : Int) = (t : Int) + 1 from by omega]
    have en : goesTo x t = false → some (out ++ (refG (goesTo x) (d + 1) t).map fun n => (i : Int) + 1 + n) = fairleadref05_Next.l0 k l i out ((i + 1 + (t + 1) : Nat) : Int) x.f0 x.f1 x.f2 x.f3 := fun h => by
      rw [hn]
      have : ¬ goesTo x t = true := by rw [h]; decide
      simp only [refG, if_neg this, List.nil_append]
      rw [show ((t + 1 : Nat) : Int) = (t : Int) + 1 from by omega]
    simp only [fairleadref05_Next.l0]
    rw [if_pos (by omega), ref_jumps, ref_ends]
    simp only [Option.bind_some, dec_true]
    simp only [rn_w i t (by omega), rn_w2 i t (by omega), u64_id (x := x.f1) (by omega) (by omega), u64_id (x := x.f2) (by omega) (by omega), u64_id (x := x.f3) (by omega) (by omega)]
    by_cases c5 : x.f0 = 5
    · rw [if_pos c5]
      by_cases c : (t : Int) = x.f3
      · rw [if_pos c, if_pos (by omega), ey (by unfold goesTo; rw [if_pos c5]; simpa using c)]
      · rw [if_neg c, en (by unfold goesTo; rw [if_pos c5]; simpa using c)]
    · rw [if_neg c5]
      by_cases cj : Jmps x.f0
      · rw [if_pos cj]
        by_cases c : (t : Int) = x.f1
        · rw [if_pos c, if_pos (by omega), ey (by unfold goesTo; rw [if_neg c5, if_pos cj]; simpa using .inl c)]
        · rw [if_neg c]
          by_cases c' : (t : Int) = x.f2
          · rw [if_pos c', if_pos (by omega), ey (by unfold goesTo; rw [if_neg c5, if_pos cj]; simpa using .inr c')]
          · rw [if_neg c', en (by unfold goesTo; rw [if_neg c5, if_pos cj]; simp [c, c'])]
      · rw [if_neg cj]
        by_cases cd : Endd x.f0
        · rw [if_pos cd, en (by unfold goesTo; rw [if_neg c5, if_neg cj, if_pos cd])]
        · rw [if_neg cd]
          by_cases c : (t : Int) = 0
          · rw [if_pos c, if_pos (by omega), ey (by unfold goesTo; rw [if_neg c5, if_neg cj, if_neg cd]; simpa using c)]
          · rw [if_neg c, en (by unfold goesTo; rw [if_neg c5, if_neg cj, if_neg cd]; simpa using c)]
theorem far_same (x : S32) (hx : InsOk x) (b : Nat) : refG (goesTo x) b 0 = (farI x).filter fun n => decide (n < (b : Int)) := by
  obtain ⟨h0, h1, h2, h3⟩ := hx
  have one : ∀ a : Int, 0 ≤ a → (if 0 ≤ a ∧ a < 0 + (b : Int) then [a] else []) = [a].filter fun n => decide (n < (b : Int)) := fun a ha => by
    by_cases h : a < b
    · rw [if_pos (by omega), List.filter_cons_of_pos (by simpa using h)]; rfl
    · rw [if_neg (by omega), List.filter_cons_of_neg (by simpa using h)]; rfl
  by_cases c5 : x.f0 = 5
  · have e : goesTo x = fun t => decide (t = x.f3) := by funext t; unfold goesTo; rw [if_pos c5]
    have ef : farI x = [x.f3] := by unfold farI; rw [if_pos c5]
    rw [e, ef, refG_one, one _ h3.1]
  · by_cases cj : Jmps x.f0
    · have e : goesTo x = fun t => decide (t = x.f1 ∨ t = x.f2) := by funext t; unfold goesTo; rw [if_neg c5, if_pos cj]
      by_cases ce : x.f1 = x.f2
      · have ef : farI x = [x.f1] := by unfold farI; rw [if_neg c5, if_pos cj, if_pos ce]; unfold mn; split <;> simp_all
        have e' : goesTo x = fun t => decide (t = x.f1) := by rw [e]; funext t; rw [← ce]; simp
        rw [e', ef, refG_one, one _ h1.1]
      · rcases Int.lt_or_gt_of_ne ce with hlt | hgt
        · have ef : farI x = [x.f1] ++ [x.f2] := by
            unfold farI
            rw [if_neg c5, if_pos cj, if_neg ce]
            have : mn x.f1 x.f2 = x.f1 := by unfold mn; split <;> omega
            have h' : mx x.f1 x.f2 = x.f2 := by unfold mx; split <;> omega
            rw [this, h']; rfl
          rw [e, ef, refG_two _ _ hlt, one _ h1.1, one _ h2.1, List.filter_append]
        · have ef : farI x = [x.f2] ++ [x.f1] := by
            unfold farI
            rw [if_neg c5, if_pos cj, if_neg ce]
            have : mn x.f1 x.f2 = x.f2 := by unfold mn; split <;> omega
            have h' : mx x.f1 x.f2 = x.f1 := by unfold mx; split <;> omega
            rw [this, h']; rfl
          have e' : goesTo x = fun t => decide (t = x.f2 ∨ t = x.f1) := by rw [e]; funext t; rw [decide_eq_decide]; exact Or.comm
          rw [e', ef, refG_two _ _ hgt, one _ h1.1, one _ h2.1, List.filter_append]
    · by_cases cd : Endd x.f0
      · have ef : farI x = [] := by unfold farI; rw [if_neg c5, if_neg cj, if_pos cd]
        rw [refG_none _ (fun t => by unfold goesTo; rw [if_neg c5, if_neg cj, if_pos cd]), ef]
        rfl
      · have e : goesTo x = fun t => decide (t = 0) := by funext t; unfold goesTo; rw [if_neg c5, if_neg cj, if_neg cd]
        have ef : farI x = [0] := by unfold farI; rw [if_neg c5, if_neg cj, if_neg cd]
        rw [e, ef, refG_one, one _ (Int.le_refl 0)]
theorem rnext_is (l : List S32) (ho : ∀ x ∈ l, InsOk x) (hl : l.length ≤ 4096) (i : Int) (k : Nat) (hk : 4200 ≤ k) :
    fairleadref05_Next.f k l i = some (if 0 ≤ i ∧ i < l.length then nextI (l.length - 1 - i) i (rd_T32 l i) else []) := by
  obtain ⟨k, rfl⟩ : ∃ m, k = m + 1 := ⟨k - 1, by omega⟩
  have skip : fairleadref05_Next.j0 (k + 1) l i [] true = some [] := by simp only [fairleadref05_Next.j0]; rw [if_pos trivial]
  unfold fairleadref05_Next.f
  by_cases h1 : i < 0
  · rw [if_pos h1, skip, if_neg (by omega)]
  · rw [if_neg h1]
    by_cases h2 : i ≥ l.length
    · rw [decide_eq_true h2, skip, if_neg (by omega)]
    · rw [decide_eq_false h2]
      obtain ⟨n, rfl⟩ := Int.eq_ofNat_of_zero_le (show 0 ≤ i by omega)
      have hx := rd_ok ho n (by omega)
      have w : wrap64 ((n : Int) + 1) = ((n + 1 + 0 : Nat) : Int) := by unfold wrap64; omega
      simp only [fairleadref05_Next.j0]
      rw [if_neg (by decide), if_pos (by omega), if_pos (by omega), w, rnext_loop l n hl _ hx (l.length - 1 - n) k 0 [] (by omega) (by omega) (by simp; omega), if_pos (by omega)]
      have := far_same _ hx (l.length - 1 - n)
      rw [Int.natCast_zero, this]
      unfold nextI
      rw [show ((l.length - 1 - n : Nat) : Int) = (l.length : Int) - 1 - n from by omega]
      rfl
theorem same_loop (a : List Int) (hl : a.length ≤ 5000) (d : Nat) : ∀ (k i : Nat), i + d = a.length → d < k → fairleadref05_SameInts.l0 k a a i = some true := by
  induction d with
  | zero =>
    intro k i hi hk
    obtain ⟨k, rfl⟩ : ∃ m, k = m + 1 := ⟨k - 1, by omega⟩
    simp only [fairleadref05_SameInts.l0]
    rw [if_neg (by omega)]
  | succ d ih =>
    intro k i hi hk
    obtain ⟨k, rfl⟩ : ∃ m, k = m + 1 := ⟨k - 1, by omega⟩
    have w : wrap64 ((i : Int) + 1) = ((i + 1 : Nat) : Int) := by unfold wrap64; omega
    simp only [fairleadref05_SameInts.l0]
    rw [if_pos (by omega), if_pos (by omega), if_pos (by omega), if_pos trivial, w]
    exact ih k (i + 1) (by omega) (by omega)
theorem CheckNext : fairleadlaw05_CheckNext.Pure := by
  intro l i ⟨_, ho⟩ hi
  refine ⟨4200 + 0, ?_⟩
  generalize hK : 4200 + 0 = K
  have hk : 4200 ≤ K := by omega
  unfold fairleadlaw05_CheckNext.f
  rw [awake05 K hk]
  simp only [Option.bind_some]
  by_cases h : (l.length : Int) > 4096
  · rw [if_pos h]
  · rw [if_neg h, next_is l ho (by omega) i K (by omega), rnext_is l ho (by omega) i K hk]
    simp only [Option.bind_some, if_true]
    have hb : ∀ a : List Int, a.length ≤ 5000 → a.length < K → fairleadref05_SameInts.f K a a = some true := fun a h1 h2 => by
      unfold fairleadref05_SameInts.f
      rw [if_pos rfl]
      have := same_loop a h1 a.length K 0 (by omega) h2
      rwa [Int.natCast_zero] at this
    have hlen : (if 0 ≤ i ∧ i < (l.length : Int) then nextI (l.length - 1 - i) i (rd_T32 l i) else []).length ≤ 2 := by
      split
      · rename_i hh
        obtain ⟨n, rfl⟩ := Int.eq_ofNat_of_zero_le hh.1
        have := (farI_ok (rd_ok ho n (by omega))).2
        unfold nextI
        rw [List.length_map]
        exact Nat.le_trans (List.length_filter_le _ _) this
      · simp
    rw [hb _ (by omega) (by omega)]
    rfl

end Go.Proofs.Ytojaklonmikldaa.Pure
