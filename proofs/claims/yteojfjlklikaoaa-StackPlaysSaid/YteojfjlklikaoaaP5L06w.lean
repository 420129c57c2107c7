/- Layer 4 (data), plain: a call's word, by the document (four texts in one, for layer 6). -/
import Derived.Test.YteojfjlklikaoaaP5Mx0
import Derived.Test.YteojfjlklikaoaaP5Mx3
import Derived.Test.YteojfjlklikaoaaP5Mx9
import Derived.Test.YteojfjlklikaoaaP5Mx10
import Derived.Test.YteojfjlklikaoaaP5Aid
import Derived.Test.YteojfjlklikaoaaP5L04a
import Derived.Test.YteojfjlklikaoaaP5L04p
namespace Go.Proofs.Yteojfjlklikaoaa.Pure
open Go Go.RowKit Go.Proofs.Yteojfjlklikaoaa.M Go.Proofs.Yteojfjlklikaoaa.Aid Go.Proofs.YteojfjlklikaoaaW.PrintWords Go.Proofs.YteojfjlklikaoaaW.PrintLast Go.Proofs.YteojfjlklikaoaaW.PrintMore
set_option linter.unusedVariables false
set_option linter.unusedSimpArgs false
-- NEEDS data_laid.f data_Halves.f fairleadref04_low.f fairleadref04_Bytes.f fairleadref04_number.f fairleadref04_Load.f
-- IMPORT L04a
-- IMPORT L04p
def lowL : Nat → Int → List Int
  | 0, _ => []
  | n + 1, x => x % 256 :: lowL n (x / 256)
theorem lowL_len (n : Nat) : ∀ x, (lowL n x).length = n := by
  induction n with
  | zero => intro x; rfl
  | succ n ih => intro x; simp only [lowL, List.length_cons, ih]
theorem low4 {x : Int} (hx : 0 ≤ x ∧ x ≤ 4294967295) : lowL 4 x = b4 x := by
  simp only [lowL, b4, List.cons.injEq, and_true, true_and]
  omega
theorem low8 {x : Int} (hx : 0 ≤ x ∧ x ≤ 18446744073709551615) : lowL 8 x = b4 (lo x) ++ b4 (hi x) := by
  simp only [lowL, b4, lo, hi, List.cons_append, List.nil_append, List.cons.injEq, and_true]
  omega
def numL : List Int → Int
  | [] => 0
  | x :: r => x + 256 * numL r
theorem numL_in (l : List Int) (h : ∀ x ∈ l, 0 ≤ x ∧ x ≤ 255) : 0 ≤ numL l ∧ numL l < 256 ^ l.length := by
  induction l with
  | nil => simp [numL]
  | cons x r ih =>
    have h1 := h x (by simp)
    have h2 := ih (fun y hy => h y (by simp [hy]))
    simp only [numL, List.length_cons, Int.pow_succ]
    generalize (256 : Int) ^ r.length = p at h2 ⊢
    omega
theorem numL_7 (l : List Int) (h : ∀ x ∈ l, 0 ≤ x ∧ x ≤ 255) (hl : l.length ≤ 7) : 0 ≤ numL l ∧ numL l < 72057594037927936 := by
  have h1 := numL_in l h
  generalize l.length = n at h1 hl
  have : n = 0 ∨ n = 1 ∨ n = 2 ∨ n = 3 ∨ n = 4 ∨ n = 5 ∨ n = 6 ∨ n = 7 := by omega
  rcases this with rfl | rfl | rfl | rfl | rfl | rfl | rfl | rfl <;> omega
theorem num_b4 {x : Int} (hx : 0 ≤ x ∧ x ≤ 4294967295) : numL (b4 x) = x := by
  simp only [numL, b4]
  omega
theorem low_loop (N : Nat) (hN : N ≤ 8) (d : Nat) : ∀ (k i : Nat) (x : Int) (out : List Int), 0 ≤ x ∧ x ≤ 18446744073709551615 → i + d = N → d < k → out.length + d ≤ 1000 →
    fairleadref04_low.l0 k x N out i = some (out ++ lowL d x) := by
  induction d with
  | zero =>
    intro k i x out hx hi hk _
    obtain ⟨k, rfl⟩ : ∃ m, k = m + 1 := ⟨k - 1, by omega⟩
    simp only [fairleadref04_low.l0]
    rw [if_neg (by omega)]
    simp [lowL]
  | succ d ih =>
    intro k i x out hx hi hk ho
    obtain ⟨k, rfl⟩ : ∃ m, k = m + 1 := ⟨k - 1, by omega⟩
    have w : wrap64 ((i : Int) + 1) = ((i + 1 : Nat) : Int) := by unfold wrap64; omega
    simp only [fairleadref04_low.l0, w]
    clear w
    rw [if_pos (by omega), if_pos (by omega), Int.tdiv_eq_ediv_of_nonneg hx.1, Int.tmod_eq_emod_of_nonneg hx.1, u64_id (by omega) (by omega), show x % 256 % 256 = x % 256 from by omega,
      ih k (i + 1) (x / 256) _ (by omega) (by omega) (by omega) (by rw [List.length_append, List.length_singleton]; omega)]
    simp [lowL]
theorem low_is (N : Nat) (hN : N ≤ 8) {x : Int} (hx : 0 ≤ x ∧ x ≤ 18446744073709551615) (k : Nat) (hk : 9 ≤ k) : fairleadref04_low.f k x N = some (lowL N x) := by
  have := low_loop N hN N k 0 x [] hx (by omega) (by omega) (by simp; omega)
  simpa [fairleadref04_low.f] using this
theorem rb_step (a0 a1 a2 a3 a4 a5 a6 a7 a8 : Int) (k : Nat) (hk : 9 ≤ k) (i : Int) (out : List Int) (x : Int) (hx : 0 ≤ x ∧ x ≤ 18446744073709551615) (ho : out.length ≤ 1000)
    (hi : i = 0 ∧ x = a3 ∨ i = 1 ∧ x = a4 ∨ i = 2 ∧ x = a5 ∨ i = 3 ∧ x = a6 ∨ i = 4 ∧ x = a7 ∨ i = 5 ∧ x = a8) :
    fairleadref04_Bytes.l0 (k + 1) out i a0 a1 a2 a3 a4 a5 a6 a7 a8 = fairleadref04_Bytes.l0 k (out ++ lowL 8 x) (i + 1) a0 a1 a2 a3 a4 a5 a6 a7 a8 := by
  have e8 : fairleadref04_low.f k x 8 = some (lowL 8 x) := low_is 8 (by decide) hx k hk
  have hl := lowL_len 8 x
  rcases hi with ⟨rfl, rfl⟩ | ⟨rfl, rfl⟩ | ⟨rfl, rfl⟩ | ⟨rfl, rfl⟩ | ⟨rfl, rfl⟩ | ⟨rfl, rfl⟩
  all_goals
    rw [fairleadref04_Bytes.l0]
    simp only [Int.reduceLT, Int.reduceEq, if_true, if_false, e8, Option.bind_some]
    rw [if_pos (by omega)]
    rfl
theorem rb_end (a0 a1 a2 a3 a4 a5 a6 a7 a8 : Int) (k : Nat) (out : List Int) : fairleadref04_Bytes.l0 (k + 1) out 6 a0 a1 a2 a3 a4 a5 a6 a7 a8 = some out := by
  rw [fairleadref04_Bytes.l0]
  rw [if_neg (by decide)]
theorem rbytes_is {a0 a1 a2 a3 a4 a5 a6 a7 a8 : Int} (h : DOk a0 a1 a2 a3 a4 a5 a6 a7 a8) (k : Nat) (hk : 20 ≤ k) : fairleadref04_Bytes.f k a0 a1 a2 a3 a4 a5 a6 a7 a8 = some ((WS a0 a1 a2 a3 a4 a5 a6 a7 a8).flatMap b4) := by
  obtain ⟨h0, h1, h2, h3, h4, h5, h6, h7, h8⟩ := h
  obtain ⟨k, rfl⟩ : ∃ m, k = m + 9 + 7 := ⟨k - 16, by omega⟩
  generalize hq : k + 9 = q
  have hq9 : 9 ≤ q := by omega
  have e0 : fairleadref04_low.f (q + 7) a0 4 = some (lowL 4 a0) := low_is 4 (by decide) (by omega) _ (by omega)
  have e1 : fairleadref04_low.f (q + 7) a1 4 = some (lowL 4 a1) := low_is 4 (by decide) (by omega) _ (by omega)
  have e8 : ∀ (m : Nat) (x : Int), 9 ≤ m → 0 ≤ x ∧ x ≤ 18446744073709551615 → fairleadref04_low.f m x 8 = some (lowL 8 x) := fun m x hm hx => low_is 8 (by decide) hx m hm
  unfold fairleadref04_Bytes.f
  rw [u64_id (by omega) (by omega), u64_id (by omega) (by omega), e0, e1, e8 _ _ (by omega) h2]
  simp only [Option.bind_some]
  rw [if_pos (by rw [lowL_len, lowL_len]; decide), if_pos (by rw [List.length_append, lowL_len, lowL_len, lowL_len]; decide)]
  have hs : ∀ (m : Nat) (i : Int) (out : List Int) (x : Int), 9 ≤ m → 0 ≤ x ∧ x ≤ 18446744073709551615 → out.length ≤ 1000 → _ → _ := fun m i out x hm hx ho hi => rb_step a0 a1 a2 a3 a4 a5 a6 a7 a8 m hm i out x hx ho hi
  rw [hs (q + 6) 0 _ a3 (by omega) h3 (by simp only [lowL_len, List.length_append]; decide) (by simp)]
  rw [hs (q + 5) _ _ a4 (by omega) h4 (by simp only [lowL_len, List.length_append]; decide) (by simp)]
  rw [hs (q + 4) _ _ a5 (by omega) h5 (by simp only [lowL_len, List.length_append]; decide) (by simp)]
  rw [hs (q + 3) _ _ a6 (by omega) h6 (by simp only [lowL_len, List.length_append]; decide) (by simp)]
  rw [hs (q + 2) _ _ a7 (by omega) h7 (by simp only [lowL_len, List.length_append]; decide) (by simp)]
  rw [hs (q + 1) _ _ a8 (by omega) h8 (by simp only [lowL_len, List.length_append]; decide) (by simp)]
  rw [show (0 + 1 + 1 + 1 + 1 + 1 + 1 : Int) = 6 from rfl, rb_end, low4 (by omega), low4 (by omega), low8 h2, low8 h3, low8 h4, low8 h5, low8 h6, low8 h7, low8 h8]
  simp only [WS, List.flatMap_cons, List.flatMap_nil, List.append_assoc, List.append_nil]
theorem num_loop (l : List Int) (h : ∀ x ∈ l, 0 ≤ x ∧ x ≤ 255) (hl : l.length ≤ 8) : ∀ (i k : Nat), i ≤ l.length → i < k → fairleadref04_number.l0 k l (numL (l.drop i)) ((i : Int) - 1) = some (numL l) := by
  intro i
  induction i with
  | zero =>
    intro k hi hk
    obtain ⟨k, rfl⟩ : ∃ m, k = m + 1 := ⟨k - 1, by omega⟩
    simp only [fairleadref04_number.l0]
    rw [if_neg (by omega)]
    rfl
  | succ i ih =>
    intro k hi hk
    obtain ⟨k, rfl⟩ : ∃ m, k = m + 1 := ⟨k - 1, by omega⟩
    have hr := h _ (rd_memI l i (by omega))
    have hn := numL_7 (l.drop (i + 1)) (fun x hx => h x (List.mem_of_mem_drop hx)) (by rw [List.length_drop]; omega)
    have hd : numL (l.drop i) = rd l i + 256 * numL (l.drop (i + 1)) := by rw [drop_rdI l i (by omega)]; rfl
    have e : ((i + 1 : Nat) : Int) - 1 = (i : Int) := by omega
    have := ih k (by omega) (by omega)
    rw [hd] at this
    simp only [fairleadref04_number.l0, e]
    rw [if_pos (by omega), if_pos (by omega), if_pos (by omega), w64_id (x := (i : Int) - 1) (by omega) (by omega), u64_id (x := rd l i) (by omega) (by omega), u64_id (x := numL (l.drop (i + 1)) * 256) (by omega) (by omega), u64_id (by omega) (by omega)]
    rw [← this]
    congr 1
    omega
theorem num_is (l : List Int) (h : ∀ x ∈ l, 0 ≤ x ∧ x ≤ 255) (hl : l.length ≤ 8) (k : Nat) (hk : 9 ≤ k) : fairleadref04_number.f k l = some (numL l) := by
  unfold fairleadref04_number.f
  have := num_loop l h hl l.length k (Nat.le_refl _) (by omega)
  rw [List.drop_of_length_le (Nat.le_refl _)] at this
  rw [w64_id (by omega) (by omega)]
  exact this
theorem rload_is {a0 a1 a2 a3 a4 a5 a6 a7 a8 : Int} (h : DOk a0 a1 a2 a3 a4 a5 a6 a7 a8) (p : Int) (hp : 0 ≤ p ∧ p ≤ 4294967295) (k : Nat) (hk : 30 ≤ k) :
    fairleadref04_Load.f k a0 a1 a2 a3 a4 a5 a6 a7 a8 p = some (if p % 4 = 0 ∧ p < 64 then (rd (WS a0 a1 a2 a3 a4 a5 a6 a7 a8) (p / 4), 0) else (0, 12)) := by
  obtain ⟨k, rfl⟩ : ∃ m, k = m + 1 := ⟨k - 1, by omega⟩
  unfold fairleadref04_Load.f
  rw [Int.tmod_eq_emod_of_nonneg hp.1]
  by_cases h1 : p % 4 = 0
  · rw [if_pos h1]
    by_cases h2 : p ≥ 64
    · simp only [fairleadref04_Load.j0]
      rw [if_pos (decide_eq_true h2), if_neg (by omega)]
    · obtain ⟨j, hj⟩ : ∃ j : Nat, p = 4 * (j : Int) := ⟨(p / 4).toNat, by omega⟩
      have hl := ws_len a0 a1 a2 a3 a4 a5 a6 a7 a8
      have hw := ws_in h _ (rd_memI (WS a0 a1 a2 a3 a4 a5 a6 a7 a8) j (by omega))
      simp only [fairleadref04_Load.j0]
      rw [decide_eq_false h2, if_neg (by decide), rbytes_is h k (by omega), if_pos ⟨h1, by omega⟩]
      simp only [Option.bind_some]
      have e : (p + 4) % 4294967296 = p + 4 := by omega
      have hc : (((WS a0 a1 a2 a3 a4 a5 a6 a7 a8).flatMap b4).take (p + 4).toNat).drop p.toNat = b4 (rd (WS a0 a1 a2 a3 a4 a5 a6 a7 a8) j) := by
        rw [List.drop_take, show p.toNat = 4 * j from by omega, show (p + 4).toNat - 4 * j = 4 from by omega, flat_cut _ j (by omega)]
      rw [e, if_pos hp.1, if_pos (by omega), if_pos (by rw [flat_len]; omega), hc, num_is _ (fun x hx => by have := b4_in _ x hx; omega) (by show 4 ≤ 8; decide) k (by omega), num_b4 hw]
      simp only [Option.bind_some]
      rw [show p / 4 = (j : Int) from by omega, show rd (WS a0 a1 a2 a3 a4 a5 a6 a7 a8) j % 4294967296 = rd (WS a0 a1 a2 a3 a4 a5 a6 a7 a8) j from by omega]
  · rw [if_neg h1, if_neg (by omega)]
    simp only [fairleadref04_Load.j0]
    rfl
end Go.Proofs.Yteojfjlklikaoaa.Pure
