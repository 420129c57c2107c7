/- Layer 3 (insn), plain: programs as bytes. -/
import Derived.Test.YtfkhhmnkmddjhaaMx2
import Derived.Test.YtfkhhmnkmddjhaaMx3
import Derived.Test.YtfkhhmnkmddjhaaMx4
import Derived.Test.YtfkhhmnkmddjhaaMx8
import Derived.Test.YtfkhhmnkmddjhaaAid
import Derived.Test.YtfkhhmnkmddjhaaL03
namespace Go.Proofs.Ytfkhhmnkmddjhaa.Pure
open Go Go.RowKit Go.Proofs.Ytfkhhmnkmddjhaa.M Go.Proofs.Ytfkhhmnkmddjhaa.Aid Go.Proofs.YtfkhhmnkmddjhaaW.PrintWords Go.Proofs.YtfkhhmnkmddjhaaW.PrintLast Go.Proofs.YtfkhhmnkmddjhaaW.PrintMore
set_option linter.unusedVariables false
set_option linter.unusedSimpArgs false

-- NEEDS insn_Encode.f insn_Decode.f fairleadref03_Decode.f fairleadref03_Encode.f fairleadlaw03_awake.f insn_All.f fairleadref03_All.f insn_Bytes.f fairleadref03_Bytes.f fairleadref03_Same.f
-- IMPORT L03

def InsOk (x : S25) : Prop := (0 ≤ x.f0 ∧ x.f0 ≤ 65535) ∧ (0 ≤ x.f1 ∧ x.f1 ≤ 255) ∧ (0 ≤ x.f2 ∧ x.f2 ≤ 255) ∧ (0 ≤ x.f3 ∧ x.f3 ≤ 4294967295)
theorem w64_id {x : Int} (h : -9223372036854775808 ≤ x) (h' : x ≤ 9223372036854775807) : wrap64 x = x := by unfold wrap64; omega
def encI (x : S25) : List Int := [x.f0 % 256, x.f0 / 256 % 256, x.f1, x.f2, x.f3 % 256, x.f3 / 256 % 256, x.f3 / 65536 % 256, x.f3 / 16777216 % 256]
theorem enc_is (x : S25) : insn_Encode.f x.f0 x.f1 x.f2 x.f3 = some (encI x) := rfl
def decI (l : List Int) : S25 := ⟨rd l 0 + 256 * rd l 1, rd l 2, rd l 3, rd l 4 + 256 * rd l 5 + 65536 * rd l 6 + 16777216 * rd l 7⟩
def allG : Nat → List Int → List S25
  | 0, _ => []
  | n + 1, l => decI (l.take 8) :: allG n (l.drop 8)
theorem dec_enc {x : S25} (h : InsOk x) : decI (encI x) = x := by
  obtain ⟨h0, h1, h2, h3⟩ := h
  obtain ⟨a, b, c, d⟩ := x
  simp only at h0 h1 h2 h3
  simp only [decI, encI, rd, Int.toNat_zero, Int.reduceToNat, List.getD_cons_zero, List.getD_cons_succ, S25.mk.injEq, true_and]
  omega
theorem eight (l : List Int) (h : l.length = 8) : l = [rd l 0, rd l 1, rd l 2, rd l 3, rd l 4, rd l 5, rd l 6, rd l 7] := by
  match l, h with
  | [a, b, c, d, e, f, g, h], _ => rfl
theorem dec_in {l : List Int} (h : ∀ x ∈ l, 0 ≤ x ∧ x ≤ 255) : InsOk (decI l) := by
  have b := rd_in h
  have := b 0; have := b 1; have := b 2; have := b 3; have := b 4; have := b 5; have := b 6; have := b 7
  unfold InsOk decI
  simp only
  omega
theorem enc_dec {l : List Int} (h : ∀ x ∈ l, 0 ≤ x ∧ x ≤ 255) (hl : l.length = 8) : encI (decI l) = l := by
  have b := rd_in h
  have h0 := b 0; have h1 := b 1; have h2 := b 2; have h3 := b 3; have h4 := b 4; have h5 := b 5; have h6 := b 6; have h7 := b 7
  rw [eight l hl]
  generalize rd l 0 = a0 at *
  generalize rd l 1 = a1 at *
  generalize rd l 2 = a2 at *
  generalize rd l 3 = a3 at *
  generalize rd l 4 = a4 at *
  generalize rd l 5 = a5 at *
  generalize rd l 6 = a6 at *
  generalize rd l 7 = a7 at *
  simp only [decI, encI, rd, Int.toNat_zero, Int.reduceToNat, List.getD_cons_zero, List.getD_cons_succ, List.cons.injEq, and_true, true_and]
  omega
theorem in_sub {l : List Int} (h : ∀ x ∈ l, 0 ≤ x ∧ x ≤ 255) (n m : Nat) : ∀ x ∈ (l.drop n).take m, 0 ≤ x ∧ x ≤ 255 := fun x hx => h x (List.mem_of_mem_drop (List.mem_of_mem_take hx))
theorem all_in (n : Nat) : ∀ (l : List Int), (∀ x ∈ l, 0 ≤ x ∧ x ≤ 255) → ∀ x ∈ allG n l, InsOk x := by
  induction n with
  | zero => intro l h x hx; simp [allG] at hx
  | succ n ih =>
    intro l h x hx
    simp only [allG, List.mem_cons] at hx
    rcases hx with rfl | hx
    · exact dec_in (in_sub h 0 8)
    · exact ih _ (fun y hy => h y (List.mem_of_mem_drop hy)) x hx
theorem all_len (n : Nat) : ∀ l, (allG n l).length = n := by
  induction n with
  | zero => intro l; rfl
  | succ n ih => intro l; simp only [allG, List.length_cons, ih]
theorem enc_len (x : S25) : (encI x).length = 8 := rfl
theorem flat_len (l : List S25) : (l.flatMap encI).length = 8 * l.length := by
  induction l with
  | nil => rfl
  | cons x r ih => simp only [List.flatMap_cons, List.length_append, ih, enc_len, List.length_cons]; omega
theorem all_flat (l : List S25) (h : ∀ x ∈ l, InsOk x) : allG l.length (l.flatMap encI) = l := by
  induction l with
  | nil => rfl
  | cons x r ih =>
    simp only [List.flatMap_cons, List.length_cons, allG]
    rw [List.take_left' (enc_len x), List.drop_left' (enc_len x), dec_enc (h x (by simp)), ih (fun y hy => h y (by simp [hy]))]
theorem flat_all (n : Nat) : ∀ (l : List Int), (∀ x ∈ l, 0 ≤ x ∧ x ≤ 255) → l.length = 8 * n → (allG n l).flatMap encI = l := by
  induction n with
  | zero => intro l _ hl; rw [List.eq_nil_of_length_eq_zero (show l.length = 0 by omega)]; rfl
  | succ n ih =>
    intro l h hl
    simp only [allG, List.flatMap_cons]
    rw [enc_dec (fun x hx => h x (List.mem_of_mem_take hx)) (by rw [List.length_take]; omega), ih _ (fun y hy => h y (List.mem_of_mem_drop hy)) (by rw [List.length_drop]; omega), List.take_append_drop]
theorem flat_in (l : List S25) (h : ∀ x ∈ l, InsOk x) : ∀ y ∈ l.flatMap encI, 0 ≤ y ∧ y ≤ 255 := by
  intro y hy
  obtain ⟨x, hx, hy⟩ := List.mem_flatMap.1 hy
  obtain ⟨h0, h1, h2, h3⟩ := h x hx
  have := encode_bytes h0 h1 h2 h3 y hy
  omega
theorem cut8 (l : List Int) (i n : Nat) (h : i + 8 * (n + 1) = l.length) : (l.take (i + 8)).drop i = (l.drop i).take 8 := by
  rw [List.drop_take, show i + 8 - i = 8 from by omega]
theorem all_loop (l : List Int) (h : ∀ x ∈ l, 0 ≤ x ∧ x ≤ 255) (hl : l.length ≤ 100000) (n : Nat) : ∀ (k i : Nat) (out : List S25), i + 8 * n = l.length → n + 10 < k → out.length + n ≤ 100000 →
    insn_All.l0 k l out i = some (out ++ allG n (l.drop i), 0) ∧ fairleadref03_All.l0 k l out i = some (out ++ allG n (l.drop i), 0) := by
  induction n with
  | zero =>
    intro k i out hi hk _
    obtain ⟨k, rfl⟩ : ∃ m, k = m + 1 := ⟨k - 1, by omega⟩
    simp only [insn_All.l0, fairleadref03_All.l0]
    rw [if_neg (by omega), if_neg (by omega)]
    simp [allG]
  | succ n ih =>
    intro k i out hi hk ho
    obtain ⟨k, rfl⟩ : ∃ m, k = m + 1 := ⟨k - 1, by omega⟩
    have w : wrap64 ((i : Int) + 8) = ((i + 8 : Nat) : Int) := by unfold wrap64; omega
    have hin := in_sub h i 8
    have hln : ((l.drop i).take 8).length = 8 := by rw [List.length_take, List.length_drop]; omega
    simp only [insn_All.l0, fairleadref03_All.l0, w, Int.toNat_natCast]
    clear w
    rw [if_pos (by omega), if_pos (by omega), if_pos (by omega), if_pos (by omega), cut8 l i n hi, decode8 hin hln k (by omega), ref_decode8 hin hln]
    simp only [Option.bind_some]
    rw [if_pos (by omega)]
    have := ih k (i + 8) (out ++ [decI ((l.drop i).take 8)]) (by omega) (by omega) (by rw [List.length_append, List.length_singleton]; omega)
    rw [List.append_assoc, List.singleton_append, show l.drop (i + 8) = (l.drop i).drop 8 from by rw [List.drop_drop]] at this
    simp only [allG]
    refine ⟨?_, ?_⟩
    · exact this.1
    · rw [if_pos (by omega), if_pos (by omega), if_pos (by omega), if_pos (by omega), if_pos (by omega)]
      exact this.2
def ALL (l : List Int) : List S25 × Int := if l.length % 8 = 0 then (allG (l.length / 8) l, 0) else ([], 3)
theorem all_is {l : List Int} (h : ∀ x ∈ l, 0 ≤ x ∧ x ≤ 255) (hl : l.length ≤ 100000) (k : Nat) (hk : 20000 ≤ k) : insn_All.f k l = some (ALL l) ∧ fairleadref03_All.f k l = some (ALL l) := by
  unfold insn_All.f fairleadref03_All.f ALL
  by_cases hm : l.length % 8 = 0
  · rw [if_pos hm, if_pos (by omega), if_pos (by omega)]
    have := all_loop l h hl (l.length / 8) k 0 [] (by omega) (by omega) (by simp; omega)
    simpa using this
  · rw [if_neg hm, if_neg (by omega), if_neg (by omega)]
    exact ⟨rfl, rfl⟩
theorem drop_rd3 (l : List S25) (i : Nat) (h : i < l.length) : l.drop i = rd_T25 l i :: l.drop (i + 1) := by
  rw [List.drop_eq_getElem_cons h]
  congr 1
  unfold rd_T25
  rw [Int.toNat_natCast, List.getD_eq_getElem?_getD, List.getElem?_eq_getElem h]
  rfl
theorem rd_ok3 {l : List S25} (ho : ∀ x ∈ l, InsOk x) (i : Nat) (h : i < l.length) : InsOk (rd_T25 l i) := by
  have := drop_rd3 l i h
  exact ho _ (List.mem_of_mem_drop (by rw [this]; simp))
theorem bytes_loop (l : List S25) (ho : ∀ x ∈ l, InsOk x) (hl : l.length ≤ 20000) (d : Nat) : ∀ (k i : Nat) (out : List Int), i + d = l.length → d < k → out.length + 8 * d ≤ 200000 →
    insn_Bytes.l0 k out l l.length i = some (out ++ (l.drop i).flatMap encI) ∧ fairleadref03_Bytes.l0 k l out i = some (out ++ (l.drop i).flatMap encI) := by
  induction d with
  | zero =>
    intro k i out hi hk _
    obtain ⟨k, rfl⟩ : ∃ m, k = m + 1 := ⟨k - 1, by omega⟩
    simp only [insn_Bytes.l0, fairleadref03_Bytes.l0]
    rw [if_neg (by omega), if_neg (by omega), List.drop_of_length_le (by omega)]
    simp
  | succ d ih =>
    intro k i out hi hk hout
    obtain ⟨k, rfl⟩ : ∃ m, k = m + 1 := ⟨k - 1, by omega⟩
    have hx := rd_ok3 ho i (by omega)
    have w : wrap64 ((i : Int) + 1) = ((i + 1 : Nat) : Int) := by unfold wrap64; omega
    simp only [insn_Bytes.l0, fairleadref03_Bytes.l0, w]
    clear w
    rw [if_pos (by omega), if_pos (by omega), if_pos (by omega), ref_encode hx.1 hx.2.2.2, enc_is]
    simp only [Option.bind_some]
    have hel := enc_len (rd_T25 l i)
    have := ih k (i + 1) (out ++ encI (rd_T25 l i)) (by omega) (by omega) (by rw [List.length_append, enc_len]; omega)
    rw [List.append_assoc, ← List.flatMap_cons, ← drop_rd3 l i (by omega)] at this
    refine ⟨?_, ?_⟩
    · rw [if_pos (by omega)]
      exact this.1
    · rw [if_pos (by omega), if_pos (by omega), if_pos (by omega)]
      exact this.2
theorem bytes_is {l : List S25} (ho : ∀ x ∈ l, InsOk x) (hl : l.length ≤ 20000) (k : Nat) (hk : 20001 ≤ k) : insn_Bytes.f k l = some (l.flatMap encI) ∧ fairleadref03_Bytes.f k l = some (l.flatMap encI) := by
  have w : wrap64 (8 * (l.length : Int)) = ((8 * l.length : Nat) : Int) := by unfold wrap64; omega
  unfold insn_Bytes.f fairleadref03_Bytes.f
  rw [w, if_pos (by omega), if_pos (by omega)]
  have := bytes_loop l ho hl l.length k 0 [] (by omega) (by omega) (by simp; omega)
  simpa using this
theorem same3_loop (a : List S25) (hl : a.length ≤ 100000) (d : Nat) : ∀ (k i : Nat), i + d = a.length → d < k → fairleadref03_Same.l0 k a a i = some true := by
  induction d with
  | zero =>
    intro k i hi hk
    obtain ⟨k, rfl⟩ : ∃ m, k = m + 1 := ⟨k - 1, by omega⟩
    simp only [fairleadref03_Same.l0]
    rw [if_neg (by omega)]
  | succ d ih =>
    intro k i hi hk
    obtain ⟨k, rfl⟩ : ∃ m, k = m + 1 := ⟨k - 1, by omega⟩
    have w : wrap64 ((i : Int) + 1) = ((i + 1 : Nat) : Int) := by unfold wrap64; omega
    simp only [fairleadref03_Same.l0, w]
    rw [if_pos (by omega), if_pos (by omega), if_pos (by omega), if_neg (by simp)]
    exact ih k (i + 1) (by omega) (by omega)
theorem same3 (a : List S25) (hl : a.length ≤ 100000) (k : Nat) (hk : a.length < k) : fairleadref03_Same.f k a a = some true := by
  unfold fairleadref03_Same.f
  rw [if_pos rfl]
  have := same3_loop a hl a.length k 0 (by omega) hk
  rwa [Int.natCast_zero] at this
end Go.Proofs.Ytfkhhmnkmddjhaa.Pure
