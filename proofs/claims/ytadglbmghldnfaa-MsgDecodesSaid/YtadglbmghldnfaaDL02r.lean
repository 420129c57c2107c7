/- Layer 2 (pack), plain: what is read. -/
import Derived.Test.YtadglbmghldnfaaDMx0
import Derived.Test.YtadglbmghldnfaaDMx6
import Derived.Test.YtadglbmghldnfaaDMx7
import Derived.Test.YtadglbmghldnfaaDMx9
import Derived.Test.YtadglbmghldnfaaDAid
import Derived.Test.YtadglbmghldnfaaDL02n
namespace Go.Proofs.Ytadglbmghldnfaa.Pure
open Go Go.RowKit Go.Proofs.Ytadglbmghldnfaa.M Go.Proofs.Ytadglbmghldnfaa.Aid Go.Proofs.YtadglbmghldnfaaW.PrintWords Go.Proofs.YtadglbmghldnfaaW.PrintLast Go.Proofs.YtadglbmghldnfaaW.PrintMore
set_option linter.unusedVariables false
set_option linter.unusedSimpArgs false
-- NEEDS pack_Reader_Num.f pack_Reader_Text.f pack_Reader_End.f pack_Read.f pack_num pack_text
-- IMPORT L02n
/-- A number's value out of its bytes, the great ones ahead. -/
def VAL (L : List Int) : Int := L.foldl (fun m x => m * 256 + x) 0
def Byt (L : List Int) : Prop := ∀ x ∈ L, 0 ≤ x ∧ x ≤ 255
theorem Byt.drop {L : List Int} (h : Byt L) (n : Nat) : Byt (L.drop n) := fun x hx => h x (List.mem_of_mem_drop hx)
theorem Byt.take {L : List Int} (h : Byt L) (n : Nat) : Byt (L.take n) := fun x hx => h x (List.mem_of_mem_take hx)
theorem Byt.app {A B : List Int} (h : Byt A) (k : Byt B) : Byt (A ++ B) := fun x hx => by
  rcases List.mem_append.1 hx with h1 | h1
  · exact h x h1
  · exact k x h1
theorem fold_from (L : List Int) : ∀ m : Int, L.foldl (fun m x => m * 256 + x) m = m * 256 ^ L.length + VAL L := by
  induction L with
  | nil => intro m; simp [VAL]
  | cons x r ih =>
    intro m
    unfold VAL
    rw [List.foldl_cons, List.foldl_cons, ih, ih, List.length_cons, Int.pow_succ]
    have e1 : (m * 256 + x) * 256 ^ r.length = m * (256 ^ r.length * 256) + x * 256 ^ r.length := by rw [Int.add_mul, Int.mul_assoc, Int.mul_comm 256]
    rw [e1]
    simp only [Int.zero_mul, Int.zero_add]
    omega
theorem val_cons (x : Int) (r : List Int) : VAL (x :: r) = x * 256 ^ r.length + VAL r := by
  have e := fold_from r (0 * 256 + x)
  unfold VAL at e ⊢
  rw [List.foldl_cons, e]
  simp
theorem pow_pos256 (n : Nat) : (0 : Int) < 256 ^ n := Int.pow_pos (by decide)
theorem val_in {L : List Int} (h : Byt L) : 0 ≤ VAL L ∧ VAL L < 256 ^ L.length := by
  induction L with
  | nil => simp [VAL]
  | cons x r ih =>
    have h1 := ih (fun y hy => h y (List.mem_cons_of_mem _ hy))
    have h2 := h x List.mem_cons_self
    have hp := pow_pos256 r.length
    rw [val_cons, List.length_cons, Int.pow_succ]
    have e1 : x * 256 ^ r.length ≤ 255 * 256 ^ r.length := Int.mul_le_mul_of_nonneg_right h2.2 (Int.le_of_lt hp)
    have e2 : 0 ≤ x * 256 ^ r.length := Int.mul_nonneg h2.1 (Int.le_of_lt hp)
    generalize (256 : Int) ^ r.length = q at *
    omega
theorem val_u64 {L : List Int} (h : Byt L) (hl : L.length ≤ 8) : 0 ≤ VAL L ∧ VAL L ≤ 18446744073709551615 := by
  have h1 := val_in h
  have h2 : (256 : Int) ^ L.length ≤ 256 ^ 8 := by
    obtain ⟨d, hd⟩ := Nat.exists_eq_add_of_le hl
    rw [hd, Int.pow_add]
    have h3 := pow_pos256 d
    have h4 := pow_pos256 L.length
    have h5 : (256 : Int) ^ L.length * 1 ≤ 256 ^ L.length * 256 ^ d := Int.mul_le_mul_of_nonneg_left (by omega) (by omega)
    omega
  have h3 : (256 : Int) ^ 8 = 18446744073709551616 := by decide
  omega
theorem val_2 {L : List Int} (h : Byt L) (hl : L.length ≤ 2) : 0 ≤ VAL L ∧ VAL L ≤ 65535 := by
  rcases L with _ | ⟨x, _ | ⟨y, _ | ⟨z, r⟩⟩⟩
  · decide
  · have := h x (by simp); simp [VAL]; omega
  · have := h x (by simp); have := h y (by simp); simp [VAL]; omega
  · simp at hl
theorem or8 {m x : Int} (hm : 0 ≤ m) (hx : 0 ≤ x ∧ x ≤ 255) (h : m * 256 + x ≤ 18446744073709551615) : Go.bits .or .u64 (IntKind.u64.wrap (m * 256)) (IntKind.u64.wrap x) = m * 256 + x := by
  rw [u64_id2 (by omega) (by omega), u64_id2 (by omega) (by omega), show Go.bits .or .u64 (m * 256) x = Go.bits .or .u64 x (m * 256) from by simp only [Go.bits, BitVec.or_comm], u64_or8 _ _ (by omega) (by omega) (by omega) (by omega) (by omega)]
  omega
theorem fold_is (L : List Int) (h : Byt L) : ∀ m : Int, 0 ≤ m → m * 256 ^ L.length + VAL L ≤ 18446744073709551615 → pack_fold m L = m * 256 ^ L.length + VAL L := by
  induction L with
  | nil => intro m _ _; simp [pack_fold, VAL]
  | cons x r ih =>
    intro m hm hl
    have hr : Byt r := fun y hy => h y (List.mem_cons_of_mem _ hy)
    have hx := h x List.mem_cons_self
    have hv := val_in hr
    have hp := pow_pos256 r.length
    have e1 : (m * 256 + x) * 256 ^ r.length = m * (256 ^ r.length * 256) + x * 256 ^ r.length := by rw [Int.add_mul, Int.mul_assoc, Int.mul_comm 256]
    rw [val_cons, List.length_cons, Int.pow_succ] at hl ⊢
    have h1 : m * 256 + x ≤ (m * 256 + x) * 256 ^ r.length := by
      have h5 : (m * 256 + x) * 1 ≤ (m * 256 + x) * 256 ^ r.length := Int.mul_le_mul_of_nonneg_left (by omega) (by omega)
      omega
    rw [pack_fold, or8 hm hx (by omega), ih hr _ (by omega) (by omega)]
    omega
theorem fold0 {L : List Int} (h : Byt L) (hl : L.length ≤ 8) : pack_fold 0 L = VAL L := by
  have h1 := val_u64 h hl
  rw [fold_is L h 0 (by omega) (by omega)]
  omega
/-- A number, taken. -/
def RNUM (L : List Int) (size : Int) : Int × List Int × Int := if size < 1 ∨ 8 < size then (0, L, 1) else if size ≤ (L.length : Int) then (VAL (L.take size.toNat), L.drop size.toNat, 0) else (0, L, 2)
theorem rnum_0 {L : List Int} (h : Byt L) (size : Int) : pack_rnum (L, 0) size = RNUM L size := by
  unfold pack_rnum RNUM
  by_cases h1 : size < 1 ∨ 8 < size
  · rw [if_pos h1, if_pos h1]; rfl
  · rw [if_neg h1, if_neg h1]
    unfold pack_taken pack_left
    by_cases h2 : size ≤ (L.length : Int)
    · rw [if_pos ⟨rfl, h2⟩, if_pos rfl, if_pos h2, if_pos h2, fold0 (h.take _) (by rw [List.length_take]; omega)]
    · rw [if_neg (fun h => h2 h.2), if_pos rfl, if_neg h2, if_neg h2]; rfl
theorem rnum_e (L : List Int) (e size : Int) (he : e ≠ 0) : pack_rnum (L, e) size = (0, L, e) := by
  unfold pack_rnum
  by_cases h1 : size < 1 ∨ 8 < size
  · rw [if_pos h1, if_neg he]
  · rw [if_neg h1]
    unfold pack_taken pack_left
    rw [if_neg (fun h => he h.1), if_neg he]; rfl
/-- A text, taken. -/
def RTEXT (L : List Int) : ByteArray × List Int × Int := if L.length < 2 then (⟨#[]⟩, L, 2) else if VAL (L.take 2) ≤ (L.length : Int) - 2 then (strOfNums ((L.drop 2).take (VAL (L.take 2)).toNat), (L.drop 2).drop (VAL (L.take 2)).toNat, 0) else (⟨#[]⟩, L, 2)
theorem w64_id2 {x : Int} (h : -9223372036854775808 ≤ x) (h' : x ≤ 9223372036854775807) : wrap64 x = x := by unfold wrap64; omega
theorem rtext_0 {L : List Int} (h : Byt L) : pack_Reader_Text.f L 0 = some (RTEXT L) := by
  have hv := val_2 (h.take 2) (by rw [List.length_take]; omega)
  unfold pack_Reader_Text.f pack_rtext RTEXT
  rw [rnum_0 h]
  by_cases h1 : L.length < 2
  · have e : RNUM L 2 = (0, L, 2) := by unfold RNUM; rw [if_neg (by omega), if_neg (by omega)]
    rw [e, if_pos h1, if_pos (by simp [wrap64])]
    rfl
  · have e : RNUM L 2 = (VAL (L.take 2), L.drop 2, 0) := by unfold RNUM; rw [if_neg (by omega), if_pos (by omega)]; rfl
    rw [e, if_neg h1]
    simp only
    rw [w64_id2 (by omega) (by omega), if_pos hv.1]
    unfold pack_taken pack_left
    simp only
    by_cases h2 : VAL (L.take 2) ≤ (L.length : Int) - 2
    · have h3 : VAL (L.take 2) ≤ ((L.drop 2).length : Int) := by rw [List.length_drop]; omega
      simp only [h2, h3, and_true, if_true]
    · have h3 : ¬ VAL (L.take 2) ≤ ((L.drop 2).length : Int) := by rw [List.length_drop]; omega
      simp only [h2, h3, and_false, if_true, if_false]
      rfl
theorem rtext_e (L : List Int) (e : Int) (he : e ≠ 0) : pack_Reader_Text.f L e = some (⟨#[]⟩, L, e) := by
  unfold pack_Reader_Text.f pack_rtext
  rw [rnum_e L e 2 he, if_pos (by simp [wrap64])]
  unfold pack_taken pack_left
  simp only [he, false_and, if_false]
  rfl
theorem rend_is (L : List Int) (e : Int) : pack_Reader_End.f L e = some (if e = 0 then (if L.length = 0 then 0 else 3) else e, L, e) := rfl
theorem read_is (L : List Int) (h : L.length ≤ 100000000000) : pack_Read.f L = some (L, 0) := by unfold pack_Read.f; rw [if_pos (by omega)]
theorem byt_pack (n : Int) : ∀ m : Nat, Byt (pack_bytes n m)
  | 0 => fun x hx => by simp [pack_bytes] at hx
  | m + 1 => fun x hx => by
    rw [pack_bytes_256] at hx
    rcases List.mem_cons.1 hx with rfl | hx
    · omega
    · exact byt_pack n m x hx
theorem byt_str (t : ByteArray) : Byt (bytesOf t) := fun x hx => by
  unfold bytesOf at hx
  obtain ⟨b, _, rfl⟩ := List.mem_map.1 hx
  have := b.toNat_lt
  omega
theorem val_pack (n : Int) (h0 : 0 ≤ n) : ∀ m : Nat, VAL (pack_bytes n m) = n % 256 ^ m
  | 0 => by simp [pack_bytes, VAL, Int.emod_one]
  | m + 1 => by
    have hp := pow_pos256 m
    rw [pack_bytes_256, val_cons, pack_bytes_length, val_pack n h0 m, Int.pow_succ, Int.mul_comm ((256 : Int) ^ m) 256]
    have e1 : 256 ^ m * (n / 256 ^ m) + n % 256 ^ m = n := by rw [Int.emod_def]; omega
    have e2 : 256 * (n / 256 ^ m / 256) + n / 256 ^ m % 256 = n / 256 ^ m := by omega
    have e3 : 256 * 256 ^ m * (n / (256 * 256 ^ m)) + n % (256 * 256 ^ m) = n := by rw [Int.emod_def]; omega
    have e4 : n / 256 ^ m / 256 = n / (256 * 256 ^ m) := by rw [Int.mul_comm 256, Int.ediv_ediv_of_nonneg (Int.le_of_lt hp)]
    rw [e4] at e2
    have e5 : 256 ^ m * (n / 256 ^ m) = 256 * 256 ^ m * (n / (256 * 256 ^ m)) + n / 256 ^ m % 256 * 256 ^ m := by
      conv => lhs; rw [← e2]
      rw [Int.mul_add, ← Int.mul_assoc, Int.mul_comm (256 ^ m) 256, Int.mul_comm (256 ^ m) (n / 256 ^ m % 256)]
    omega
theorem pack_val (L : List Int) (h : Byt L) : pack_bytes (VAL L) L.length = L := by
  have key : ∀ (L : List Int), Byt L → ∀ q : Int, 0 ≤ q → pack_bytes (q * 256 ^ L.length + VAL L) L.length = L := by
    intro L
    induction L with
    | nil => intro _ q _; rfl
    | cons x r ih =>
      intro h q hq
      have hr : Byt r := fun y hy => h y (List.mem_cons_of_mem _ hy)
      have hx := h x List.mem_cons_self
      have hv := val_in hr
      have hp := pow_pos256 r.length
      have e1 : q * 256 ^ (r.length + 1) + VAL (x :: r) = (q * 256 + x) * 256 ^ r.length + VAL r := by
        rw [val_cons, Int.pow_succ, Int.add_mul, Int.mul_assoc, Int.mul_comm 256]; omega
      rw [List.length_cons, e1, pack_bytes_256, ih hr (q * 256 + x) (by omega)]
      congr 1
      rw [Int.add_comm, Int.add_mul_ediv_right _ _ (by omega), Int.ediv_eq_zero_of_lt hv.1 hv.2]
      omega
  have := key L h 0 (by omega)
  simpa using this
theorem str_bytes (t : ByteArray) : strOfNums (bytesOf t) = t := by
  unfold strOfNums bytesOf
  have : (t.data.toList.map fun b => (b.toNat : Int)).map (fun n => UInt8.ofNat n.toNat) = t.data.toList := by
    rw [List.map_map]
    have : ((fun n : Int => UInt8.ofNat n.toNat) ∘ fun b : UInt8 => (b.toNat : Int)) = id := by funext b; simp
    rw [this, List.map_id]
  rw [this]
theorem byt_nums {L : List Int} (h : Byt L) : bytesOf (strOfNums L) = L := by
  unfold strOfNums bytesOf
  simp only [List.map_map]
  conv => rhs; rw [← List.map_id L]
  refine List.map_congr_left fun x hx => ?_
  have := h x hx
  simp
  omega
theorem nums_size (L : List Int) : (strOfNums L).size = L.length := by simp [strOfNums, ByteArray.size]
end Go.Proofs.Ytadglbmghldnfaa.Pure
