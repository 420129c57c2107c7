/- Layer 2 (pack), plain: what is laid. -/
import Derived.Test.YtcomfhfednieoaaMx0
import Derived.Test.YtcomfhfednieoaaMx2
import Derived.Test.YtcomfhfednieoaaMx3
import Derived.Test.YtcomfhfednieoaaAid
namespace Go.Proofs.Ytcomfhfednieoaa.Pure
open Go Go.RowKit Go.Proofs.Ytcomfhfednieoaa.M Go.Proofs.Ytcomfhfednieoaa.Aid Go.Proofs.YtcomfhfednieoaaW.PrintWords Go.Proofs.YtcomfhfednieoaaW.PrintLast Go.Proofs.YtcomfhfednieoaaW.PrintMore
set_option linter.unusedVariables false
set_option linter.unusedSimpArgs false

-- NEEDS fairleadlaw02_laid.f fairleadref02_Lay.f fairleadref02_Text.f fairleadlaw02_few.f fairleadlaw02_awake.f

theorem pack_bytes_256 (n : Int) (m : Nat) : pack_bytes n (m + 1) = (n / 256 ^ m) % 256 :: pack_bytes n m := by
  rw [pack_bytes, show (8 * (m : Int)).toNat = 8 * m by omega, Int.pow_mul, show (2 : Int) ^ 8 = 256 by decide]
  simp [IntKind.wrap, IntKind.bits, IntKind.signed]
theorem set_rep (d : Nat) (v : Int) (R : List Int) : (List.replicate (d + 1) 0 ++ R).set d v = List.replicate d 0 ++ v :: R := by
  rw [List.set_append_left _ _ (by simp), List.replicate_succ', List.set_append_right _ _ (by simp)]
  simp
theorem lay_loop (n : Int) (hn : 0 ≤ n ∧ n ≤ 18446744073709551615) (N : Nat) (hN : N ≤ 8) (d : Nat) : ∀ (k i : Nat), i + d = N → d < k →
    fairleadref02_Lay.l0 k (n / 256 ^ i) N (List.replicate d 0 ++ pack_bytes n i) i = some (if n / 256 ^ N = 0 then (pack_bytes n N, 0) else ([], 1)) := by
  induction d with
  | zero =>
    intro k i hi hk
    obtain ⟨k, rfl⟩ : ∃ m, k = m + 1 := ⟨k - 1, by omega⟩
    obtain rfl : i = N := by omega
    simp only [fairleadref02_Lay.l0]
    rw [if_neg (by omega)]
    simp only [List.replicate_zero, List.nil_append]
    split <;> rfl
  | succ d ih =>
    intro k i hi hk
    obtain ⟨k, rfl⟩ : ∃ m, k = m + 1 := ⟨k - 1, by omega⟩
    have w : wrap64 ((i : Int) + 1) = ((i + 1 : Nat) : Int) := by unfold wrap64; omega
    have w2 : wrap64 (wrap64 ((N : Int) - 1) - (i : Int)) = (d : Int) := by unfold wrap64; omega
    have hx0 : 0 ≤ n / 256 ^ i := Int.ediv_nonneg hn.1 (Int.le_of_lt (Int.pow_pos (by decide)))
    have hx1 : n / 256 ^ i ≤ n := Int.ediv_le_self _ hn.1
    have hq : n / 256 ^ (i + 1) = n / 256 ^ i / 256 := by rw [Int.pow_succ, Int.ediv_ediv_of_nonneg (Int.le_of_lt (Int.pow_pos (by decide)))]
    simp only [fairleadref02_Lay.l0, w, w2]
    clear w w2
    have hl : (List.replicate (d + 1) (0 : Int) ++ pack_bytes n i).length = d + 1 + i := by simp [pack_bytes_length]
    rw [if_pos (by omega), if_pos (by omega), if_pos (by rw [hl]; omega), Int.tdiv_eq_ediv_of_nonneg hx0, Int.tmod_eq_emod_of_nonneg hx0, show (n / 256 ^ i) % 256 % 256 = (n / 256 ^ i) % 256 from by omega, Int.toNat_natCast, set_rep, ← pack_bytes_256]
    have e := ih k (i + 1) (by omega) (by omega)
    rw [hq] at e
    rw [show IntKind.u64.wrap (n / 256 ^ i / 256) = n / 256 ^ i / 256 by simp only [IntKind.wrap, IntKind.bits, IntKind.signed]; simp; omega]
    exact e
/-- A number's bytes, or why there are none. -/
def LAYN (n size : Int) : List Int × Int := if size < 1 ∨ 8 < size then ([], 1) else if n / 256 ^ size.toNat = 0 then (pack_bytes n size.toNat, 0) else ([], 1)
theorem rlay_is (n size : Int) (hn : 0 ≤ n ∧ n ≤ 18446744073709551615) (k : Nat) (hk : 12 ≤ k) : fairleadref02_Lay.f k n size = some (LAYN n size) := by
  obtain ⟨k, rfl⟩ : ∃ m, k = m + 1 := ⟨k - 1, by omega⟩
  unfold fairleadref02_Lay.f LAYN
  by_cases h1 : size < 1
  · rw [if_pos h1, if_pos (.inl h1)]
    simp only [fairleadref02_Lay.j0, if_true]
  · rw [if_neg h1]
    by_cases h2 : 8 < size
    · rw [if_pos (.inr h2), decide_eq_true (show size > 8 from h2)]
      simp only [fairleadref02_Lay.j0, if_true]
    · rw [if_neg (by omega), decide_eq_false (show ¬ size > 8 from h2)]
      simp only [fairleadref02_Lay.j0]
      rw [if_neg (by decide), if_pos (by omega), if_pos (by omega)]
      obtain ⟨N, rfl⟩ := Int.eq_ofNat_of_zero_le (show 0 ≤ size by omega)
      have e := lay_loop n hn N (by omega) N k 0 (by omega) (by omega)
      simp only [Int.pow_zero, Int.ediv_one, pack_bytes, List.append_nil, Int.ofNat_zero] at e
      simp only [Int.toNat_natCast]
      exact e
theorem pack_num_is (L : List Int) (e n size : Int) (hn : 0 ≤ n ∧ n ≤ 18446744073709551615) : pack_num (L, e) n size = if (LAYN n size).2 = 0 then (L ++ (LAYN n size).1, e) else (L, if e = 0 then (LAYN n size).2 else e) := by
  unfold pack_num LAYN
  by_cases h1 : size < 1 ∨ 8 < size
  · rw [if_pos (by omega), if_pos h1]
    rfl
  · have hp : (2 : Int) ^ (8 * size).toNat = 256 ^ size.toNat := by rw [show (8 * size).toNat = 8 * size.toNat by omega, Int.pow_mul]; rfl
    rw [if_neg h1, hp]
    by_cases h2 : n / 256 ^ size.toNat = 0
    · rw [if_neg (by omega), if_pos h2]
      rfl
    · have h3 : size < 8 := by
        refine Decidable.byContradiction fun h3 => h2 ?_
        rw [show size = 8 by omega]
        exact Int.ediv_eq_zero_of_lt hn.1 (by have : (256 : Int) ^ (8 : Int).toNat = 18446744073709551616 := by decide
                                              omega)
      rw [if_pos (.inr (.inr ⟨h3, h2⟩)), if_neg h2]
      rfl
theorem layn_len (n size : Int) : (LAYN n size).1.length ≤ 8 := by
  unfold LAYN
  split
  · simp
  · split
    · rw [pack_bytes_length]; omega
    · simp
theorem layn_e (n size : Int) (h : (LAYN n size).2 ≠ 0) : (LAYN n size).1 = [] := by
  unfold LAYN at h ⊢
  split at h <;> rename_i h1
  · rw [if_pos h1]
  · rw [if_neg h1]
    split at h
    · exact absurd rfl h
    · rename_i h2; rw [if_neg h2]
/-- A text's bytes, or why there are none. -/
def LAYT (t : ByteArray) : List Int × Int := if (t.size : Int) > 65535 then ([], 4) else (pack_bytes t.size 2 ++ bytesOf t, 0)
theorem u64_id2 {x : Int} (h0 : 0 ≤ x) (h1 : x ≤ 18446744073709551615) : IntKind.u64.wrap x = x := by
  simp only [IntKind.wrap, IntKind.bits, IntKind.signed]; simp; omega
theorem lay2 {n : Int} (h0 : 0 ≤ n) (h1 : n ≤ 65535) : LAYN n 2 = (pack_bytes n 2, 0) := by
  unfold LAYN
  rw [if_neg (by omega), if_pos]
  · rfl
  · exact Int.ediv_eq_zero_of_lt h0 (by have : (256 : Int) ^ (2 : Int).toNat = 65536 := by decide
                                        omega)
theorem rtext_is (t : ByteArray) (k : Nat) (hk : 12 ≤ k) : fairleadref02_Text.f k t = some (LAYT t) := by
  unfold fairleadref02_Text.f LAYT
  by_cases h : (t.size : Int) > 65535
  · rw [if_pos h, if_pos h]
  · rw [if_neg h, if_neg h, u64_id2 (by omega) (by omega), rlay_is _ _ (by omega) k hk, lay2 (by omega) (by omega), Option.bind_some, if_pos (by rw [pack_bytes_length]; omega)]
theorem pack_text_is (L : List Int) (e : Int) (t : ByteArray) : (pack_text (L, e) t).2 = (if (LAYT t).2 = 0 then e else if e = 0 then (LAYT t).2 else e) ∧ (pack_text (L, e) t).1 = L ++ (LAYT t).1 := by
  unfold pack_text LAYT
  by_cases h : (t.size : Int) > 65535
  · rw [if_pos h, if_pos h]
    simp
  · rw [if_neg h, if_neg h, u64_id2 (by omega) (by omega), pack_num_is _ _ _ _ (by omega), lay2 (by omega) (by omega)]
    simp
theorem layt_len (t : ByteArray) : (LAYT t).1.length ≤ 65537 := by
  unfold LAYT
  split
  · simp
  · simp only [List.length_append, pack_bytes_length, bytesOf_length]; omega
theorem layt_e (t : ByteArray) (h : (LAYT t).2 ≠ 0) : (LAYT t).1 = [] := by
  unfold LAYT at h ⊢
  split at h <;> rename_i h1
  · rw [if_pos h1]
  · exact absurd rfl h
/-- An item's bytes, or why there are none. -/
def LAYI (x : S32) : List Int × Int := if x.f2 = true then LAYT x.f3 else LAYN x.f0 x.f1
def IOk (x : S32) : Prop := 0 ≤ x.f0 ∧ x.f0 ≤ 18446744073709551615
theorem layi_len (x : S32) : (LAYI x).1.length ≤ 65537 := by
  unfold LAYI
  split
  · exact layt_len _
  · exact Nat.le_trans (layn_len _ _) (by omega)
theorem layi_e (x : S32) (h : (LAYI x).2 ≠ 0) : (LAYI x).1 = [] := by
  unfold LAYI at h ⊢
  split at h <;> rename_i h1
  · rw [if_pos h1]; exact layt_e _ h
  · rw [if_neg h1]; exact layn_e _ _ h
theorem step_is (L : List Int) (e : Int) (x : S32) (hx : IOk x) : laid_step (L, e) x = (L ++ (LAYI x).1, if e = 0 then (LAYI x).2 else e) := by
  unfold laid_step
  by_cases ht : x.f2 = true
  · have h := pack_text_is L e x.f3
    rw [if_pos ht]
    refine Prod.ext ?_ ?_
    · rw [h.2]; simp [LAYI, ht]
    · rw [h.1]; simp only [LAYI, ht, if_true]; split <;> rename_i h1
      · split <;> rename_i h2
        · rw [h2, h1]
        · rfl
      · rfl
  · rw [if_neg ht, pack_num_is _ _ _ _ hx]
    have e1 : LAYI x = LAYN x.f0 x.f1 := by unfold LAYI; rw [if_neg ht]
    rw [e1]
    split <;> rename_i h1
    · refine Prod.ext rfl ?_
      simp only; split <;> rename_i h2
      · rw [h2, h1]
      · rfl
    · rw [layn_e _ _ h1, List.append_nil]
/-- What is laid of items, or why it can't be. -/
def ALLI : List S32 → List Int × Int
  | [] => ([], 0)
  | x :: r => if (LAYI x).2 = 0 then ((if (ALLI r).2 = 0 then (LAYI x).1 ++ (ALLI r).1 else []), (ALLI r).2) else ([], (LAYI x).2)
theorem go_wrong (l : List S32) (e : Int) (he : e ≠ 0) : ∀ (L : List Int), (∀ x ∈ l, IOk x) → L.length + 65537 * l.length ≤ 140737480000000 → laid_go l (L, e) = some ([], e) := by
  induction l with
  | nil => intro L _ h; unfold laid_go; simp only [List.length_nil] at h; rw [if_pos (by simpa using h)]; simp only; rw [if_neg he]
  | cons x r ih =>
    intro L ho h
    have hl := layi_len x
    simp only [List.length_cons] at h
    unfold laid_go
    rw [if_pos (by simp only; omega), step_is _ _ _ (ho x List.mem_cons_self), if_neg he]
    exact ih _ (fun y hy => ho y (List.mem_cons_of_mem _ hy)) (by rw [List.length_append]; omega)
theorem go_is (l : List S32) : ∀ (L : List Int), (∀ x ∈ l, IOk x) → L.length + 65537 * l.length ≤ 140737480000000 → laid_go l (L, 0) = some (if (ALLI l).2 = 0 then L ++ (ALLI l).1 else [], (ALLI l).2) := by
  induction l with
  | nil => intro L _ h; unfold laid_go; simp only [List.length_nil] at h; rw [if_pos (by simpa using h)]; simp [ALLI]
  | cons x r ih =>
    intro L ho h
    have hl := layi_len x
    simp only [List.length_cons] at h
    unfold laid_go
    rw [if_pos (by simp only; omega), step_is _ _ _ (ho x List.mem_cons_self), if_pos rfl]
    by_cases hx : (LAYI x).2 = 0
    · rw [hx, ih _ (fun y hy => ho y (List.mem_cons_of_mem _ hy)) (by rw [List.length_append]; omega)]
      simp only [ALLI, hx, if_true]
      split
      · rw [List.append_assoc]
      · rfl
    · rw [go_wrong r _ hx _ (fun y hy => ho y (List.mem_cons_of_mem _ hy)) (by rw [List.length_append]; omega)]
      simp only [ALLI, if_neg hx]
theorem alli_e : ∀ l : List S32, (ALLI l).2 ≠ 0 → (ALLI l).1 = []
  | [], h => absurd rfl h
  | x :: r, h => by
    simp only [ALLI] at h ⊢
    split at h <;> rename_i h1
    · simp only at h; rw [if_pos h1, if_neg h]
    · rw [if_neg h1]
theorem laid_is (l : List S32) (ho : ∀ x ∈ l, IOk x) (hl : l.length ≤ 1000) : fairleadlaw02_laid.f l = some (ALLI l) := by
  unfold fairleadlaw02_laid.f
  rw [go_is l [] ho (by simp; omega)]
  simp only [List.nil_append]
  split
  · rfl
  · rename_i h; rw [← alli_e l h]
theorem awake02 : fairleadlaw02_awake.f = some true := by
  unfold fairleadlaw02_awake.f
  rw [laid_is _ (by intro x hx; simp only [List.mem_cons, List.not_mem_nil, or_false] at hx; rcases hx with rfl | rfl <;> exact ⟨by decide, by decide⟩) (by decide)]
  simp only [Option.bind_some, str_toList]
  decide +kernel
theorem few_loop (l : List S32) (d : Nat) : ∀ (k i : Nat), i + d = 100 → 2 * d + 1 < k → ∃ b, fairleadlaw02_few.l0 k l i = some b ∧ (b = true → l.length ≤ 100) := by
  induction d with
  | zero =>
    intro k i hi hk
    obtain ⟨k, rfl⟩ : ∃ m, k = m + 2 := ⟨k - 2, by omega⟩
    simp only [fairleadlaw02_few.l0, fairleadlaw02_few.j1]
    rw [decide_eq_false (by omega)]
    refine ⟨decide ((l.length : Int) ≤ 100), by split <;> rfl, fun h => by have := of_decide_eq_true h; omega⟩
  | succ d ih =>
    intro k i hi hk
    obtain ⟨k, rfl⟩ : ∃ m, k = m + 2 := ⟨k - 2, by omega⟩
    have w : wrap64 ((i : Int) + 1) = ((i + 1 : Nat) : Int) := by unfold wrap64; omega
    simp only [fairleadlaw02_few.l0, fairleadlaw02_few.j1, w]
    clear w
    by_cases h1 : (i : Int) < l.length
    · rw [if_pos h1, decide_eq_true (by omega), if_pos rfl, if_pos (by omega), if_pos h1]
      have e := ih k (i + 1) (by omega) (by omega)
      split
      · split
        · exact ⟨false, rfl, fun h => by cases h⟩
        · exact e
      · exact e
    · rw [if_neg h1, if_neg (by decide)]
      exact ⟨decide ((l.length : Int) ≤ 100), rfl, fun h => by have := of_decide_eq_true h; omega⟩
theorem few_is (l : List S32) (k : Nat) (hk : 210 ≤ k) : ∃ b, fairleadlaw02_few.f k l = some b ∧ (b = true → l.length ≤ 100) := few_loop l 100 k 0 (by omega) (by omega)
theorem rd_drop (l : List S32) (i : Nat) (hi : i < l.length) : l.drop i = rd_T32 l i :: l.drop (i + 1) := by
  rw [List.drop_eq_getElem_cons hi]
  simp [rd_T32, List.getElem?_eq_getElem hi, List.getD_eq_getElem?_getD]
theorem rd_mem (l : List S32) (i : Nat) (hi : i < l.length) : rd_T32 l i ∈ l := by
  have : rd_T32 l i ∈ l.drop i := by rw [rd_drop l i hi]; exact List.mem_cons_self
  exact List.mem_of_mem_drop this
end Go.Proofs.Ytcomfhfednieoaa.Pure
