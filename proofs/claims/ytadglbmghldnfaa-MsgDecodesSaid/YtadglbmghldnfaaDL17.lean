/- Layer 17 (msg), plain: messages and their bytes. -/
import Derived.Test.YtadglbmghldnfaaDMx0
import Derived.Test.YtadglbmghldnfaaDMx4
import Derived.Test.YtadglbmghldnfaaDMx5
import Derived.Test.YtadglbmghldnfaaDMx6
import Derived.Test.YtadglbmghldnfaaDMx7
import Derived.Test.YtadglbmghldnfaaDMx8
import Derived.Test.YtadglbmghldnfaaDMx10
import Derived.Test.YtadglbmghldnfaaDMx11
import Derived.Test.YtadglbmghldnfaaDAid
import Derived.Test.YtadglbmghldnfaaDL00
import Derived.Test.YtadglbmghldnfaaDL02n
import Derived.Test.YtadglbmghldnfaaDL02r
import Derived.Test.YtadglbmghldnfaaDL02t
import Derived.Test.YtadglbmghldnfaaDL04
import Derived.Test.YtadglbmghldnfaaDL04n
import Derived.Test.YtadglbmghldnfaaDL04o
namespace Go.Proofs.Ytadglbmghldnfaa.Pure
open Go Go.RowKit Go.Proofs.Ytadglbmghldnfaa.M Go.Proofs.Ytadglbmghldnfaa.Aid Go.Proofs.YtadglbmghldnfaaW.PrintWords Go.Proofs.YtadglbmghldnfaaW.PrintLast Go.Proofs.YtadglbmghldnfaaW.PrintMore
set_option linter.unusedVariables false
set_option linter.unusedSimpArgs false
-- NEEDS fairleadlaw17_awake.f msg_Right.f msg_bears.f msg_Encode.f msg_Decode.f data_Bytes.f data_Of.f pack_Reader_Num.f pack_num
-- IMPORT L00
-- IMPORT L02n
-- IMPORT L02r
-- IMPORT L02t
-- IMPORT L04
-- IMPORT L04n
-- IMPORT L04o
/-- A message. -/
structure MS where
  kd : Int
  ep : Int
  id : Int
  ts : Int
  vl : Int
  d0 : Int
  d1 : Int
  d2 : Int
  d3 : Int
  d4 : Int
  d5 : Int
  d6 : Int
  d7 : Int
  d8 : Int
  pa : ByteArray
def U64 (x : Int) : Prop := 0 ≤ x ∧ x ≤ 18446744073709551615
def I64 (x : Int) : Prop := -9223372036854775808 ≤ x ∧ x ≤ 9223372036854775807
/-- Its numbers fit. -/
structure MOk (m : MS) : Prop where
  hkd : I64 m.kd
  hep : U64 m.ep
  hid : U64 m.id
  hts : I64 m.ts
  hvl : I64 m.vl
  hd : DOk m.d0 m.d1 m.d2 m.d3 m.d4 m.d5 m.d6 m.d7 m.d8
def D0 (m : MS) : Prop := m.d0 = 0 ∧ m.d1 = 0 ∧ m.d2 = 0 ∧ m.d3 = 0 ∧ m.d4 = 0 ∧ m.d5 = 0 ∧ m.d6 = 0 ∧ m.d7 = 0 ∧ m.d8 = 0
/-- What a message's worth may be at most. -/
def MOST (kd : Int) : Int := if kd = 7 then 1 else if kd = 4 ∨ kd = 5 then 65535 else 0
/-- It may be. -/
structure MR (m : MS) : Prop where
  k1 : 1 ≤ m.kd
  k7 : m.kd ≤ 7
  call : m.kd = 2 → 1 ≤ m.ts ∧ m.ts ≤ 4 ∧ (m.pa.size : Int) ≤ 256
  none : m.kd ≠ 2 → m.ts = 0 ∧ m.pa.size = 0 ∧ D0 m
  hid : m.kd ≤ 1 → m.id = 0
  v0 : 0 ≤ m.vl
  v1 : m.vl ≤ MOST m.kd
theorem nil_size17 (s : ByteArray) : s.toList = ([] : List UInt8) ↔ s.size = 0 := by
  rw [ByteArray.toList_eq, Array.toList_eq_nil_iff]
  exact ⟨fun h => by simp [ByteArray.size, h], fun h => Array.eq_empty_of_size_eq_zero h⟩
theorem d0_is (m : MS) : ((!(m.d0 == 0) || (!(m.d1 == 0) || (!(m.d2 == 0) || ((!(m.d3 == 0) || (!(m.d4 == 0) || (!(m.d5 == 0) || (!(m.d6 == 0) || (!(m.d7 == 0) || (!(m.d8 == 0))))))))))) = true) ↔ ¬ D0 m := by
  unfold D0
  simp only [Bool.or_eq_true, Bool.not_eq_true', beq_eq_false_iff_ne]
  omega
theorem bears_is (kd : Int) : msg_bears.f kd = some (decide (kd > 1), kd == 2, decide (kd = 4 ∨ kd = 5 ∨ kd = 7)) := by
  unfold msg_bears.f
  by_cases h4 : kd = 4
  · subst h4; rfl
  · rw [if_neg h4]
    by_cases h5 : kd = 5
    · subst h5; rfl
    · rw [if_neg h5]
      by_cases h7 : kd = 7
      · subst h7; rfl
      · rw [beq_eq_false_iff_ne.2 h7, decide_eq_false (show ¬ (kd = 4 ∨ kd = 5 ∨ kd = 7) by omega)]
theorem right_is (m : MS) (k : Nat) : ∃ b, msg_Right.f (k + 2) m.kd m.ep m.id m.ts m.vl m.d0 m.d1 m.d2 m.d3 m.d4 m.d5 m.d6 m.d7 m.d8 m.pa = some b ∧ (b = true ↔ MR m) := by
  unfold msg_Right.f
  by_cases h1 : m.kd < 1
  · rw [if_pos h1]
    exact ⟨false, by simp only [msg_Right.j0, if_true], by simp only [Bool.false_eq_true, false_iff]; exact fun h => by have := h.k1; omega⟩
  · rw [if_neg h1]
    by_cases h7 : m.kd > 7
    · rw [decide_eq_true h7]
      exact ⟨false, by simp only [msg_Right.j0, if_true], by simp only [Bool.false_eq_true, false_iff]; exact fun h => by have := h.k7; omega⟩
    · rw [decide_eq_false h7]
      simp only [msg_Right.j0, Bool.false_eq_true, if_false, bears_is, Option.bind_some]
      have key : ∀ most, most = MOST m.kd ∨ most = 65535 ∧ ¬ (m.kd = 4 ∨ m.kd = 5 ∨ m.kd = 7) → ∃ b, msg_Right.j1 (k + 1) (decide (m.kd > 1)) (m.kd == 2) (decide (m.kd = 4 ∨ m.kd = 5 ∨ m.kd = 7)) most m.kd m.ep m.id m.ts m.vl m.d0 m.d1 m.d2 m.d3 m.d4 m.d5 m.d6 m.d7 m.d8 m.pa = some b ∧ (b = true ↔ MR m) := by
        intro most hmost
        have hm : (if (m.kd = 4 ∨ m.kd = 5 ∨ m.kd = 7) then most else 0) = MOST m.kd := by
          rcases hmost with rfl | ⟨rfl, h⟩
          · unfold MOST; split <;> split <;> (try split) <;> omega
          · rw [if_neg h]; unfold MOST; rw [if_neg (by omega), if_neg (by omega)]
        have last : ∀ mo, mo = MOST m.kd → (m.kd = 2 → 1 ≤ m.ts ∧ m.ts ≤ 4 ∧ (m.pa.size : Int) ≤ 256) → (m.kd ≠ 2 → m.ts = 0 ∧ m.pa.size = 0 ∧ D0 m) → ∃ b, (if decide (m.kd > 1) = true then (if m.vl ≥ 0 then (some (decide (m.vl ≤ mo))) else (some false)) else (if m.id = 0 then (if m.vl ≥ 0 then (some (decide (m.vl ≤ mo))) else (some false)) else (some false))) = some b ∧ (b = true ↔ MR m) := by
          intro mo hmo hc hn
          by_cases g1 : m.kd > 1
          · rw [if_pos (decide_eq_true g1)]
            by_cases g2 : m.vl ≥ 0
            · rw [if_pos g2]
              refine ⟨_, rfl, ⟨fun h => ⟨by omega, by omega, hc, hn, by omega, g2, by have := of_decide_eq_true h; omega⟩, fun h => decide_eq_true (by have := h.v1; omega)⟩⟩
            · rw [if_neg g2]
              exact ⟨false, rfl, ⟨fun h => (by cases h), fun h => absurd h.v0 g2⟩⟩
          · rw [if_neg (by simpa using g1)]
            by_cases g3 : m.id = 0
            · rw [if_pos g3]
              by_cases g2 : m.vl ≥ 0
              · rw [if_pos g2]
                refine ⟨_, rfl, ⟨fun h => ⟨by omega, by omega, hc, hn, fun _ => g3, g2, by have := of_decide_eq_true h; omega⟩, fun h => decide_eq_true (by have := h.v1; omega)⟩⟩
              · rw [if_neg g2]
                exact ⟨false, rfl, ⟨fun h => (by cases h), fun h => absurd h.v0 g2⟩⟩
            · rw [if_neg g3]
              exact ⟨false, rfl, ⟨fun h => (by cases h), fun h => absurd (h.hid (by omega)) g3⟩⟩
        have no : ¬ MR m → ∃ b, some false = some b ∧ (b = true ↔ MR m) := fun h => ⟨false, rfl, ⟨fun h2 => (by cases h2), fun h2 => absurd h2 h⟩⟩
        have callp : ∀ mo, mo = MOST m.kd → m.kd = 2 → ∃ b, (if m.ts < 1 then (some false) else (if m.ts > 4 then (some false) else (if (m.pa.size : Int) > 256 then (some false) else (if decide (m.kd > 1) = true then (if m.vl ≥ 0 then (some (decide (m.vl ≤ mo))) else (some false)) else (if m.id = 0 then (if m.vl ≥ 0 then (some (decide (m.vl ≤ mo))) else (some false)) else (some false)))))) = some b ∧ (b = true ↔ MR m) := by
          intro mo hmo h2
          by_cases t1 : m.ts < 1
          · rw [if_pos t1]; exact no (fun h => by have := (h.call h2).1; omega)
          · rw [if_neg t1]
            by_cases t2 : m.ts > 4
            · rw [if_pos t2]; exact no (fun h => by have := (h.call h2).2.1; omega)
            · rw [if_neg t2]
              by_cases t3 : (m.pa.size : Int) > 256
              · rw [if_pos t3]; exact no (fun h => by have := (h.call h2).2.2; omega)
              · rw [if_neg t3]; exact last mo hmo (fun _ => ⟨by omega, by omega, by omega⟩) (fun h => absurd h2 h)
        have nonep : ∀ mo, mo = MOST m.kd → m.kd ≠ 2 → ∃ b, (if m.ts = 0 then (if m.pa.toList = ([] : List UInt8) then (if (!(m.d0 == 0) || (!(m.d1 == 0) || (!(m.d2 == 0) || ((!(m.d3 == 0) || (!(m.d4 == 0) || (!(m.d5 == 0) || (!(m.d6 == 0) || (!(m.d7 == 0) || (!(m.d8 == 0))))))))))) = true then (some false) else (if decide (m.kd > 1) = true then (if m.vl ≥ 0 then (some (decide (m.vl ≤ mo))) else (some false)) else (if m.id = 0 then (if m.vl ≥ 0 then (some (decide (m.vl ≤ mo))) else (some false)) else (some false)))) else (some false)) else (some false)) = some b ∧ (b = true ↔ MR m) := by
          intro mo hmo h2
          by_cases t1 : m.ts = 0
          · rw [if_pos t1]
            by_cases t2 : m.pa.toList = ([] : List UInt8)
            · rw [if_pos t2]
              by_cases t3 : D0 m
              · rw [if_neg (fun h => (d0_is m).1 h t3)]; exact last mo hmo (fun h => absurd h h2) (fun _ => ⟨t1, (nil_size17 _).1 t2, t3⟩)
              · rw [if_pos ((d0_is m).2 t3)]; exact no (fun h => t3 (h.none h2).2.2)
            · rw [if_neg t2]; exact no (fun h => t2 ((nil_size17 _).2 (h.none h2).2.1))
          · rw [if_neg t1]; exact no (fun h => t1 (h.none h2).1)
        simp only [msg_Right.j1]
        by_cases hv : m.kd = 4 ∨ m.kd = 5 ∨ m.kd = 7
        · rw [if_pos hv] at hm
          rw [if_pos (decide_eq_true hv)]
          by_cases h2 : m.kd = 2
          · omega
          · rw [if_neg (by simpa using h2)]; exact nonep most hm h2
        · rw [if_neg hv] at hm
          rw [if_neg (by simpa using hv)]
          by_cases h2 : m.kd = 2
          · rw [if_pos (by simpa using h2)]; exact callp 0 hm h2
          · rw [if_neg (by simpa using h2)]; exact nonep 0 hm h2
      by_cases h77 : m.kd = 7
      · rw [if_pos h77]; exact key 1 (.inl (by unfold MOST; rw [if_pos h77]))
      · rw [if_neg h77]; refine key 65535 ?_
        by_cases hv : m.kd = 4 ∨ m.kd = 5
        · exact .inl (by unfold MOST; rw [if_neg h77, if_pos hv])
        · exact .inr ⟨rfl, by omega⟩
/-- A call's bytes. -/
def DB (m : MS) : List Int := (WS m.d0 m.d1 m.d2 m.d3 m.d4 m.d5 m.d6 m.d7 m.d8).flatMap b4
/-- A message's bytes. -/
def EB (m : MS) : List Int := pack_bytes m.kd 1 ++ (pack_bytes m.ep 8 ++ ((if 1 < m.kd then pack_bytes m.id 8 else []) ++ ((if m.kd = 2 then pack_bytes m.ts 1 ++ (DB m ++ (pack_bytes m.pa.size 2 ++ bytesOf m.pa)) else []) ++ (if m.kd = 4 ∨ m.kd = 5 ∨ m.kd = 7 then pack_bytes m.vl 2 else []))))
theorem b4_byt (x : Int) : Byt (b4 x) := fun y hy => by
  unfold b4 at hy
  simp only [List.mem_cons, List.not_mem_nil, or_false] at hy
  omega
theorem byt_db (m : MS) : Byt (DB m) := fun y hy => by
  obtain ⟨x, _, hx⟩ := List.mem_flatMap.1 hy
  exact b4_byt x y hx
theorem db_len (m : MS) : (DB m).length = 64 := by unfold DB WS; rfl
theorem byt_eb (m : MS) : Byt (EB m) := by
  have h0 : Byt [] := fun x hx => by simp at hx
  unfold EB
  refine (byt_pack _ _).app ((byt_pack _ _).app (Byt.app ?_ (Byt.app ?_ ?_)))
  · split
    · exact byt_pack _ _
    · exact h0
  · split
    · exact (byt_pack _ _).app ((byt_db m).app ((byt_pack _ _).app (byt_str _)))
    · exact h0
  · split
    · exact byt_pack _ _
    · exact h0
theorem num_ok {L : List Int} {n size : Int} (h0 : 0 ≤ n) (h1 : n ≤ 18446744073709551615) (s1 : 1 ≤ size) (s8 : size ≤ 8) (hq : n < 256 ^ size.toNat) : pack_num (L, 0) n size = (L ++ pack_bytes n size.toNat, 0) := by
  rw [pack_num_is L 0 n size ⟨h0, h1⟩]
  have e : LAYN n size = (pack_bytes n size.toNat, 0) := by unfold LAYN; rw [if_neg (by omega), if_pos (Int.ediv_eq_zero_of_lt h0 hq)]
  rw [e]; rfl
theorem num_1 {L : List Int} {n : Int} (h0 : 0 ≤ n) (h1 : n ≤ 255) : pack_num (L, 0) (IntKind.u64.wrap n) 1 = (L ++ pack_bytes n 1, 0) := by
  rw [u64_id2 h0 (by omega)]
  exact num_ok h0 (by omega) (by decide) (by decide) (by have : (256 : Int) ^ (1 : Int).toNat = 256 := by decide
                                                         omega)
theorem num_2 {L : List Int} {n : Int} (h0 : 0 ≤ n) (h1 : n ≤ 65535) : pack_num (L, 0) (IntKind.u64.wrap n) 2 = (L ++ pack_bytes n 2, 0) := by
  rw [u64_id2 h0 (by omega)]
  exact num_ok h0 (by omega) (by decide) (by decide) (by have : (256 : Int) ^ (2 : Int).toNat = 65536 := by decide
                                                         omega)
theorem num_8 {L : List Int} {n : Int} (h : U64 n) : pack_num (L, 0) n 8 = (L ++ pack_bytes n 8, 0) :=
  num_ok h.1 h.2 (by decide) (by decide) (by have : (256 : Int) ^ (8 : Int).toNat = 18446744073709551616 := by decide
                                             have := h.2; omega)
theorem one_byte {b : Int} (h : 0 ≤ b ∧ b ≤ 255) : pack_bytes b 1 = [b] := by
  rw [pack_bytes_256]; simp [pack_bytes]; omega
theorem lay_fold : ∀ (BL L : List Int), Byt BL → BL.foldl msg_lay1 (L, 0) = (L ++ BL, 0)
  | [], L, _ => by simp
  | b :: r, L, h => by
    have hb := h b List.mem_cons_self
    rw [List.foldl_cons]
    unfold msg_lay1
    rw [num_1 hb.1 hb.2, one_byte hb]
    have := lay_fold r (L ++ [b]) (fun x hx => h x (List.mem_cons_of_mem _ hx))
    unfold msg_lay1 at this
    rw [this, List.append_assoc]; rfl
theorem text_ok {L : List Int} {t : ByteArray} (h : (t.size : Int) ≤ 65535) : pack_text (L, 0) t = (L ++ (pack_bytes t.size 2 ++ bytesOf t), 0) := by
  have h1 := pack_text_is L 0 t
  have e : LAYT t = (pack_bytes t.size 2 ++ bytesOf t, 0) := by unfold LAYT; rw [if_neg (by omega)]
  rw [e] at h1
  exact Prod.ext h1.2 h1.1
theorem enc_is {m : MS} (hk : MOk m) (h : MR m) (k : Nat) (hkk : 30 ≤ k) : msg_Encode.f k m.kd m.ep m.id m.ts m.vl m.d0 m.d1 m.d2 m.d3 m.d4 m.d5 m.d6 m.d7 m.d8 m.pa = some (EB m, 0) := by
  obtain ⟨k, rfl⟩ : ∃ q, k = q + 2 := ⟨k - 2, by omega⟩
  obtain ⟨b, hb, hbi⟩ := right_is m k
  have := h.k1
  have := h.k7
  unfold msg_Encode.f
  rw [hb, Option.bind_some, if_pos (hbi.2 h), num_1 (by omega) (by omega), num_8 hk.hep]
  unfold EB
  by_cases h2 : m.kd = 2
  · have hc := h.call h2
    rw [if_pos h2, bytes_is _ _ _ _ _ _ _ _ _ (k + 2) (by omega), Option.bind_some, if_pos (by have := db_len m; unfold DB at this; omega), num_8 hk.hid, num_1 (by omega) (by omega)]
    have e := lay_fold (DB m) (([] ++ pack_bytes m.kd 1 ++ pack_bytes m.ep 8 ++ pack_bytes m.id 8) ++ pack_bytes m.ts 1) (byt_db m)
    unfold DB at e
    rw [e, text_ok (by omega)]
    unfold msg_out
    rw [if_pos rfl, if_pos (by omega), if_pos h2, if_neg (by omega)]
    simp only [List.nil_append, List.append_nil, List.append_assoc, DB]
  · rw [if_neg h2]
    by_cases h3 : m.kd = 4 ∨ m.kd = 5 ∨ m.kd = 7
    · have hv : m.vl ≤ 65535 := by have := h.v1; unfold MOST at this; split at this <;> (try split at this) <;> omega
      rw [if_pos h3, num_8 hk.hid, num_2 h.v0 hv]
      unfold msg_out
      rw [if_pos rfl, if_pos (by omega), if_neg h2, if_pos h3]
      simp only [List.nil_append, List.append_nil, List.append_assoc]
    · rw [if_neg h3]
      by_cases h1 : 1 < m.kd
      · rw [if_pos h1, num_8 hk.hid]
        unfold msg_out
        rw [if_pos rfl, if_pos h1, if_neg h2, if_neg h3]
        simp only [List.nil_append, List.append_nil, List.append_assoc]
      · rw [if_neg h1]
        unfold msg_out
        rw [if_pos rfl, if_neg h1, if_neg h2, if_neg h3]
        simp only [List.nil_append, List.append_nil, List.append_assoc]
theorem eb_len {m : MS} (h : MR m) : 9 ≤ (EB m).length ∧ (EB m).length ≤ 400 := by
  have hc := h.call
  have h1 := bytesOf_length m.pa
  have h2 := db_len m
  unfold EB
  simp only [List.length_append, pack_bytes_length]
  by_cases c2 : m.kd = 2
  · have := hc c2
    rw [if_pos c2, if_pos (by omega), if_neg (by omega)]
    simp only [List.length_append, pack_bytes_length, List.length_nil]
    omega
  · rw [if_neg c2]
    split <;> split <;> simp only [List.length_append, pack_bytes_length, List.length_nil] <;> omega
theorem num_few {L : List Int} (h : Byt L) (s : Int) (h1 : 1 ≤ s) (h8 : s ≤ 8) (hl : (L.length : Int) < s) : pack_Reader_Num.f L 0 s = some (0, L, 2) := by
  unfold pack_Reader_Num.f
  rw [rnum_0 h]
  unfold RNUM
  rw [if_neg (by omega), if_neg (by omega)]
theorem num_err (L : List Int) (e s : Int) (he : e ≠ 0) : pack_Reader_Num.f L e s = some (0, L, e) := by
  unfold pack_Reader_Num.f
  rw [rnum_e L e s he]
theorem num_cases {L : List Int} (h : Byt L) (s : Int) (h1 : 1 ≤ s) (h8 : s ≤ 8) : (∃ v R, 0 ≤ v ∧ v < 256 ^ s.toNat ∧ L = pack_bytes v s.toNat ++ R ∧ Byt R ∧ pack_Reader_Num.f L 0 s = some (v, R, 0)) ∨ pack_Reader_Num.f L 0 s = some (0, L, 2) := by
  by_cases hl : (L.length : Int) < s
  · exact .inr (num_few h s h1 h8 hl)
  · left
    have hn : (L.take s.toNat).length = s.toNat := by rw [List.length_take]; omega
    have hv := val_in (h.take s.toNat)
    have hp := pack_val (L.take s.toNat) (h.take _)
    rw [hn] at hv hp
    refine ⟨VAL (L.take s.toNat), L.drop s.toNat, hv.1, hv.2, ?_, h.drop _, ?_⟩
    · rw [hp, List.take_append_drop]
    · unfold pack_Reader_Num.f
      rw [rnum_0 h]
      unfold RNUM
      rw [if_neg (by omega), if_pos (by omega)]
theorem num_pack {v s : Int} {R : List Int} (hR : Byt R) (h0 : 0 ≤ v) (h1 : 1 ≤ s) (h8 : s ≤ 8) (hv : v < 256 ^ s.toNat) : pack_Reader_Num.f (pack_bytes v s.toNat ++ R) 0 s = some (v, R, 0) := by
  have e : LAYN v s = (pack_bytes v s.toNat, 0) := by unfold LAYN; rw [if_neg (by omega), if_pos (Int.ediv_eq_zero_of_lt h0 hv)]
  have h2 := num_read (n := v) (size := s) h0 (by rw [e]) R
  rw [e] at h2
  unfold pack_Reader_Num.f
  rw [rnum_0 ((byt_pack _ _).app hR)]
  exact congrArg some h2
theorem p1 : (256 : Int) ^ (1 : Int).toNat = 256 := by decide
theorem p2 : (256 : Int) ^ (2 : Int).toNat = 65536 := by decide
theorem p8 : (256 : Int) ^ (8 : Int).toNat = 18446744073709551616 := by decide
theorem np1 {v : Int} {R : List Int} (hR : Byt R) (h0 : 0 ≤ v) (hv : v ≤ 255) : pack_Reader_Num.f (pack_bytes v 1 ++ R) 0 1 = some (v, R, 0) := num_pack hR h0 (by decide) (by decide) (by rw [p1]; omega)
theorem np2 {v : Int} {R : List Int} (hR : Byt R) (h0 : 0 ≤ v) (hv : v ≤ 65535) : pack_Reader_Num.f (pack_bytes v 2 ++ R) 0 2 = some (v, R, 0) := num_pack hR h0 (by decide) (by decide) (by rw [p2]; omega)
theorem np8 {v : Int} {R : List Int} (hR : Byt R) (h : U64 v) : pack_Reader_Num.f (pack_bytes v 8 ++ R) 0 8 = some (v, R, 0) := num_pack hR h.1 (by decide) (by decide) (by rw [p8]; have := h.2; omega)
section
variable {L R : List Int} {e : Int} {kd ep id ts vl d0 d1 d2 d3 d4 d5 d6 d7 d8 : Int} {pa : ByteArray} {x8 : Bool}
theorem j4_err (he : e ≠ 0) (k : Nat) : msg_Decode.j4 (k + 1) L e kd ep id ts vl d0 d1 d2 d3 d4 d5 d6 d7 d8 pa = some (0, 0, 0, 0, 0, 0, 0, 0, 0, 0, 0, 0, 0, 0, (⟨#[]⟩ : ByteArray), e) := by
  rw [msg_Decode.j4, rend_is, Option.bind_some]
  simp only [he, if_false]
theorem j4_fin (k : Nat) (m : MS) : msg_Decode.j4 (k + 3) L 0 m.kd m.ep m.id m.ts m.vl m.d0 m.d1 m.d2 m.d3 m.d4 m.d5 m.d6 m.d7 m.d8 m.pa = some (if L = [] then (open Classical in if MR m then (m.kd, m.ep, m.id, m.ts, m.vl, m.d0, m.d1, m.d2, m.d3, m.d4, m.d5, m.d6, m.d7, m.d8, m.pa, 0) else (0, 0, 0, 0, 0, 0, 0, 0, 0, 0, 0, 0, 0, 0, (⟨#[]⟩ : ByteArray), 1)) else (0, 0, 0, 0, 0, 0, 0, 0, 0, 0, 0, 0, 0, 0, (⟨#[]⟩ : ByteArray), 3)) := by
  obtain ⟨b, hb, hbi⟩ := right_is m k
  rw [msg_Decode.j4, rend_is, Option.bind_some]
  simp only [if_true]
  by_cases hL : L = []
  · subst hL
    rw [if_pos (show (if ([] : List Int).length = 0 then (0 : Int) else 3) = 0 from rfl), hb, Option.bind_some, if_pos rfl]
    by_cases hm : MR m
    · rw [if_pos (hbi.2 hm), if_pos hm]
    · rw [if_neg (fun h => hm (hbi.1 h)), if_neg hm]
  · have h0 : ¬ L.length = 0 := fun h => hL (List.length_eq_zero_iff.1 h)
    rw [if_neg h0, if_neg (by decide), if_neg hL]
theorem j3_none (k : Nat) : msg_Decode.j3 (k + 1) false L e kd ep id ts vl d0 d1 d2 d3 d4 d5 d6 d7 d8 pa = msg_Decode.j4 k L e kd ep id ts vl d0 d1 d2 d3 d4 d5 d6 d7 d8 pa := by rw [msg_Decode.j3, if_neg (by decide)]
theorem j3_val (hR : Byt R) (h0 : 0 ≤ vl) (hv : vl ≤ 65535) (q : Int) (k : Nat) : msg_Decode.j3 (k + 1) true (pack_bytes vl 2 ++ R) 0 kd ep id ts q d0 d1 d2 d3 d4 d5 d6 d7 d8 pa = msg_Decode.j4 k R 0 kd ep id ts vl d0 d1 d2 d3 d4 d5 d6 d7 d8 pa := by
  rw [msg_Decode.j3, if_pos rfl, np2 hR h0 hv, Option.bind_some, w64_id2 (by omega) (by omega)]
theorem j3_err (he : e ≠ 0) (k : Nat) : msg_Decode.j3 (k + 2) x8 L e kd ep id ts vl d0 d1 d2 d3 d4 d5 d6 d7 d8 pa = some (0, 0, 0, 0, 0, 0, 0, 0, 0, 0, 0, 0, 0, 0, (⟨#[]⟩ : ByteArray), e) := by
  cases x8
  · rw [j3_none, j4_err he]
  · rw [msg_Decode.j3, if_pos rfl, num_err _ _ _ he, Option.bind_some, j4_err he]
theorem j3_short (hL : Byt L) (hl : L.length < 2) (k : Nat) : msg_Decode.j3 (k + 2) true L 0 kd ep id ts vl d0 d1 d2 d3 d4 d5 d6 d7 d8 pa = some (0, 0, 0, 0, 0, 0, 0, 0, 0, 0, 0, 0, 0, 0, (⟨#[]⟩ : ByteArray), 2) := by
  rw [msg_Decode.j3, if_pos rfl, num_few hL 2 (by decide) (by decide) (by omega), Option.bind_some]
  exact j4_err (e := 2) (by decide) k
theorem loop_ok : ∀ (A acc R : List Int) (i k : Nat), i + A.length ≤ 64 → acc.length + A.length ≤ 1000 → Byt (A ++ R) →
    msg_Decode.l0 (k + A.length) x8 acc i (A ++ R) 0 kd ep id ts vl d0 d1 d2 d3 d4 d5 d6 d7 d8 pa = msg_Decode.l0 k x8 (acc ++ A) ((i + A.length : Nat) : Int) R 0 kd ep id ts vl d0 d1 d2 d3 d4 d5 d6 d7 d8 pa
  | [], acc, R, i, k, _, _, _ => by simp
  | a :: r, acc, R, i, k, h1, h2, hb => by
    simp only [List.length_cons] at h1 h2
    have ha := hb a (by simp)
    have hr : Byt (r ++ R) := fun x hx => hb x (List.mem_cons_of_mem _ hx)
    have e1 : pack_Reader_Num.f (a :: r ++ R) 0 1 = some (a, r ++ R, 0) := by
      have := np1 (v := a) hr ha.1 ha.2
      rw [one_byte ha] at this
      exact this
    have w : wrap64 ((i : Int) + 1) = ((i + 1 : Nat) : Int) := by unfold wrap64; omega
    rw [List.length_cons, ← Nat.add_assoc, msg_Decode.l0, if_pos (by omega), e1, Option.bind_some, if_pos (by omega), w]
    have ih := loop_ok r (acc ++ [a]) R (i + 1) k (by omega) (by rw [List.length_append, List.length_singleton]; omega) hr
    simp only
    rw [show a % 256 = a by omega, ih, List.append_assoc, show i + 1 + r.length = i + (r.length + 1) by omega]
    rfl
theorem loop_err (he : e ≠ 0) : ∀ (d : Nat) (acc : List Int) (i k : Nat), i + d = 64 → acc.length + d ≤ 1000 → msg_Decode.l0 (k + d) x8 acc i L e kd ep id ts vl d0 d1 d2 d3 d4 d5 d6 d7 d8 pa = msg_Decode.l0 k x8 (acc ++ List.replicate d 0) 64 L e kd ep id ts vl d0 d1 d2 d3 d4 d5 d6 d7 d8 pa
  | 0, acc, i, k, h1, _ => by
    obtain rfl : i = 64 := by omega
    simp
  | d + 1, acc, i, k, h1, h2 => by
    have w : wrap64 ((i : Int) + 1) = ((i + 1 : Nat) : Int) := by unfold wrap64; omega
    rw [← Nat.add_assoc, msg_Decode.l0, if_pos (by omega), num_err _ _ _ he, Option.bind_some, if_pos (by omega), w]
    have ih := loop_err he d (acc ++ [0]) (i + 1) k (by omega) (by rw [List.length_append, List.length_singleton]; omega)
    simp only
    rw [show (0 : Int) % 256 = 0 by decide, ih, List.append_assoc, List.replicate_succ]
    rfl
theorem loop_end (k : Nat) (acc : List Int) (hb : Byt acc) : msg_Decode.l0 (k + 112) x8 acc 64 L e kd ep id ts vl d0 d1 d2 d3 d4 d5 d6 d7 d8 pa = (pack_Reader_Text.f L e).bind fun t => msg_Decode.j3 (k + 111) x8 t.2.1 t.2.2 kd ep id ts vl (DOF acc).1 (DOF acc).2.1 (DOF acc).2.2.1 (DOF acc).2.2.2.1 (DOF acc).2.2.2.2.1 (DOF acc).2.2.2.2.2.1 (DOF acc).2.2.2.2.2.2.1 (DOF acc).2.2.2.2.2.2.2.1 (DOF acc).2.2.2.2.2.2.2.2.1 t.1 := by
  rw [msg_Decode.l0, if_neg (by decide), show k + 111 = k + 7 + 8 + 96 by omega, of_is acc hb k, Option.bind_some]
theorem end_err (he : e ≠ 0) (k : Nat) (acc : List Int) (hb : Byt acc) : msg_Decode.l0 (k + 112) x8 acc 64 L e kd ep id ts vl d0 d1 d2 d3 d4 d5 d6 d7 d8 pa = some (0, 0, 0, 0, 0, 0, 0, 0, 0, 0, 0, 0, 0, 0, (⟨#[]⟩ : ByteArray), e) := by
  rw [loop_end k acc hb, rtext_e L e he, Option.bind_some]
  exact j3_err he (k + 109)
theorem byt_zero (acc : List Int) (hb : Byt acc) (d : Nat) : Byt (acc ++ List.replicate d 0) := hb.app (fun x hx => by have := List.eq_of_mem_replicate hx; omega)
theorem call_err (he : e ≠ 0) (k : Nat) (acc : List Int) (hb : Byt acc) (i : Nat) (hi : i ≤ 64) (hl : acc.length ≤ 500) : msg_Decode.l0 (k + 112 + (64 - i)) x8 acc i L e kd ep id ts vl d0 d1 d2 d3 d4 d5 d6 d7 d8 pa = some (0, 0, 0, 0, 0, 0, 0, 0, 0, 0, 0, 0, 0, 0, (⟨#[]⟩ : ByteArray), e) := by
  rw [loop_err he (64 - i) acc i (k + 112) (by omega) (by omega)]
  exact end_err he k _ (byt_zero acc hb _)
/-- Of the call's bytes, not all are there. -/
theorem call_short (hL : Byt L) (hl : L.length < 64) (k : Nat) : msg_Decode.l0 (k + 112 + 64) x8 [] 0 L 0 kd ep id ts vl d0 d1 d2 d3 d4 d5 d6 d7 d8 pa = some (0, 0, 0, 0, 0, 0, 0, 0, 0, 0, 0, 0, 0, 0, (⟨#[]⟩ : ByteArray), 2) := by
  have e1 := loop_ok (x8 := x8) (kd := kd) (ep := ep) (id := id) (ts := ts) (vl := vl) (pa := pa) (d0 := d0) (d1 := d1) (d2 := d2) (d3 := d3) (d4 := d4) (d5 := d5) (d6 := d6) (d7 := d7) (d8 := d8) L [] [] 0 (k + 112 + (64 - (L.length + 1)) + 1) (by omega) (by simp; omega) (by simpa using hL)
  simp only [List.append_nil, Nat.zero_add, List.nil_append] at e1
  have w : wrap64 ((L.length : Int) + 1) = ((L.length + 1 : Nat) : Int) := by unfold wrap64; omega
  rw [show k + 112 + 64 = k + 112 + (64 - (L.length + 1)) + 1 + L.length by omega]
  refine Eq.trans e1 ?_
  rw [msg_Decode.l0, if_pos (by omega), num_few (L := []) (fun x hx => by simp at hx) 1 (by decide) (by decide) (by decide), Option.bind_some, if_pos (by omega), w]
  exact call_err (by decide) k _ (hL.app (fun x hx => by simp at hx; omega)) (L.length + 1) (by omega) (by rw [List.length_append, List.length_singleton]; omega)
theorem j1_none (k : Nat) : msg_Decode.j1 (k + 1) false x8 L e kd ep id ts vl d0 d1 d2 d3 d4 d5 d6 d7 d8 pa = msg_Decode.j3 k x8 L e kd ep id ts vl d0 d1 d2 d3 d4 d5 d6 d7 d8 pa := by rw [msg_Decode.j1, if_neg (by decide)]
theorem j1_err (he : e ≠ 0) (x7 : Bool) (k : Nat) : msg_Decode.j1 (k + 112 + 64 + 1) x7 x8 L e kd ep id ts vl d0 d1 d2 d3 d4 d5 d6 d7 d8 pa = some (0, 0, 0, 0, 0, 0, 0, 0, 0, 0, 0, 0, 0, 0, (⟨#[]⟩ : ByteArray), e) := by
  cases x7
  · rw [j1_none]; exact j3_err he (k + 112 + 62)
  · rw [msg_Decode.j1, if_pos rfl, num_err _ _ _ he, Option.bind_some]
    exact call_err he k [] (fun x hx => by simp at hx) 0 (by omega) (by simp)
theorem j0_err (he : e ≠ 0) (k : Nat) : msg_Decode.j0 (k + 112 + 64 + 2) false L e kd ep id ts vl d0 d1 d2 d3 d4 d5 d6 d7 d8 pa = some (0, 0, 0, 0, 0, 0, 0, 0, 0, 0, 0, 0, 0, 0, (⟨#[]⟩ : ByteArray), e) := by
  rw [msg_Decode.j0, if_neg (by decide), bears_is, Option.bind_some, num_err _ _ _ he, Option.bind_some]
  simp only
  split
  · rw [num_err _ _ _ he, Option.bind_some]; exact j1_err he _ k
  · exact j1_err he _ k
end
theorem size_nil {t : ByteArray} (h : t.size = 0) : t = (⟨#[]⟩ : ByteArray) := by
  have := Array.eq_empty_of_size_eq_zero (xs := t.data) h
  cases t; simp_all
/-- A call's bytes are read as it was. -/
theorem dof_db {m : MS} (h : DOk m.d0 m.d1 m.d2 m.d3 m.d4 m.d5 m.d6 m.d7 m.d8) : DOF (DB m) = (m.d0, m.d1, m.d2, m.d3, m.d4, m.d5, m.d6, m.d7, m.d8, 0) := by
  have hB8 := byt_db m
  have hlen := db_len m
  generalize hB : DB m = B at *
  have q1 := qd_lo B hB8 1 (by omega)
  have hw : ∀ j, j < 16 → wd B j = rd (WS m.d0 m.d1 m.d2 m.d3 m.d4 m.d5 m.d6 m.d7 m.d8) j := fun j hj => by
    have hr := ws_in h _ (rd_memI (WS m.d0 m.d1 m.d2 m.d3 m.d4 m.d5 m.d6 m.d7 m.d8) j (by rw [ws_len]; exact hj))
    unfold wd
    rw [← hB]
    unfold DB
    rw [flat_cut _ j (by rw [ws_len]; exact hj), num_b4 hr]
  have hq : ∀ x : Int, 0 ≤ x ∧ x ≤ 18446744073709551615 → lo x + 4294967296 * hi x = x := fun x hx => by unfold lo hi; omega
  unfold DOF DOFR
  rw [if_neg (by omega), if_neg (by omega), qd_is B 1 (by omega), qd_is B 2 (by omega), qd_is B 3 (by omega), qd_is B 4 (by omega), qd_is B 5 (by omega), qd_is B 6 (by omega), qd_is B 7 (by omega)]
  simp only [Nat.reduceMul, Nat.reduceAdd]
  rw [hw 0 (by decide), hw 1 (by decide), hw 2 (by decide), hw 3 (by decide), hw 4 (by decide), hw 5 (by decide), hw 6 (by decide), hw 7 (by decide), hw 8 (by decide), hw 9 (by decide), hw 10 (by decide), hw 11 (by decide), hw 12 (by decide), hw 13 (by decide), hw 14 (by decide), hw 15 (by decide)]
  obtain ⟨h0, h1, h2, ⟨h3, h4, h5, h6, h7, h8⟩⟩ := h
  show (m.d0, m.d1, lo m.d2 + 4294967296 * hi m.d2, lo m.d3 + 4294967296 * hi m.d3, lo m.d4 + 4294967296 * hi m.d4, lo m.d5 + 4294967296 * hi m.d5, lo m.d6 + 4294967296 * hi m.d6, lo m.d7 + 4294967296 * hi m.d7, lo m.d8 + 4294967296 * hi m.d8, (0 : Int)) = _
  rw [hq _ h2, hq _ h3, hq _ h4, hq _ h5, hq _ h6, hq _ h7, hq _ h8]
theorem dec_head {l : List Int} (kd : Int) (hb : Byt l) (h0 : 1 ≤ kd) (h1 : kd ≤ 7) (hl : l.length ≤ 20000) (k : Nat) : msg_Decode.f k (pack_bytes kd 1 ++ l) = msg_Decode.j0 k false l 0 kd 0 0 0 0 0 0 0 0 0 0 0 0 0 (⟨#[]⟩ : ByteArray) := by
  unfold msg_Decode.f
  have e := pack_bytes_length kd 1
  rw [read_is _ (by rw [List.length_append]; omega), Option.bind_some]
  simp only
  rw [np1 hb (by omega) (by omega), Option.bind_some, w64_id2 (by omega) (by omega), if_pos (by rw [List.length_append]; omega), if_neg (by omega), decide_eq_false (by omega)]
section
variable {l : List Int} {kd ep id ts vl d0 d1 d2 d3 d4 d5 d6 d7 d8 : Int} {pa : ByteArray} {x8 : Bool}
theorem j0_one (hb : Byt l) (he : U64 ep) (q : Int) (k : Nat) : msg_Decode.j0 (k + 1) false (pack_bytes ep 8 ++ l) 0 1 q id ts vl d0 d1 d2 d3 d4 d5 d6 d7 d8 pa = msg_Decode.j1 k false false l 0 1 ep id ts vl d0 d1 d2 d3 d4 d5 d6 d7 d8 pa := by
  rw [msg_Decode.j0, if_neg (by decide), bears_is, Option.bind_some, np8 hb he, Option.bind_some, if_neg (by decide)]
  rfl
theorem j0_more (hb : Byt l) (he : U64 ep) (hi : U64 id) (hk : 1 < kd) (q q2 : Int) (k : Nat) : msg_Decode.j0 (k + 1) false (pack_bytes ep 8 ++ (pack_bytes id 8 ++ l)) 0 kd q q2 ts vl d0 d1 d2 d3 d4 d5 d6 d7 d8 pa = msg_Decode.j1 k (kd == 2) (decide (kd = 4 ∨ kd = 5 ∨ kd = 7)) l 0 kd ep id ts vl d0 d1 d2 d3 d4 d5 d6 d7 d8 pa := by
  rw [msg_Decode.j0, if_neg (by decide), bears_is, Option.bind_some, np8 ((byt_pack _ _).app hb) he, Option.bind_some, if_pos (decide_eq_true hk), np8 hb hi, Option.bind_some]
theorem j0_short (hb : Byt l) (hl : l.length < 8) (k : Nat) : msg_Decode.j0 (k + 112 + 64 + 2) false l 0 kd ep id ts vl d0 d1 d2 d3 d4 d5 d6 d7 d8 pa = some (0, 0, 0, 0, 0, 0, 0, 0, 0, 0, 0, 0, 0, 0, (⟨#[]⟩ : ByteArray), 2) := by
  rw [msg_Decode.j0, if_neg (by decide), bears_is, Option.bind_some, num_few hb 8 (by decide) (by decide) (by omega), Option.bind_some]
  simp only
  split
  · rw [num_err _ 2 _ (by decide), Option.bind_some]; exact j1_err (e := 2) (by decide) _ k
  · exact j1_err (e := 2) (by decide) _ k
theorem j0_short2 (hb : Byt l) (he : U64 ep) (hl : l.length < 8) (hk : 1 < kd) (q : Int) (k : Nat) : msg_Decode.j0 (k + 112 + 64 + 2) false (pack_bytes ep 8 ++ l) 0 kd q id ts vl d0 d1 d2 d3 d4 d5 d6 d7 d8 pa = some (0, 0, 0, 0, 0, 0, 0, 0, 0, 0, 0, 0, 0, 0, (⟨#[]⟩ : ByteArray), 2) := by
  rw [msg_Decode.j0, if_neg (by decide), bears_is, Option.bind_some, np8 hb he, Option.bind_some, if_pos (decide_eq_true hk), num_few hb 8 (by decide) (by decide) (by omega), Option.bind_some]
  exact j1_err (e := 2) (by decide) _ k
theorem j1_call (hb : Byt l) (h0 : 0 ≤ ts) (h1 : ts ≤ 255) (q : Int) (k : Nat) : msg_Decode.j1 (k + 1) true x8 (pack_bytes ts 1 ++ l) 0 kd ep id q vl d0 d1 d2 d3 d4 d5 d6 d7 d8 pa = msg_Decode.l0 k x8 [] 0 l 0 kd ep id ts vl d0 d1 d2 d3 d4 d5 d6 d7 d8 pa := by
  rw [msg_Decode.j1, if_pos rfl, np1 hb h0 h1, Option.bind_some, w64_id2 (by omega) (by omega)]
theorem j1_short (hl : l.length < 1) (hb : Byt l) (k : Nat) : msg_Decode.j1 (k + 112 + 64 + 1) true x8 l 0 kd ep id ts vl d0 d1 d2 d3 d4 d5 d6 d7 d8 pa = some (0, 0, 0, 0, 0, 0, 0, 0, 0, 0, 0, 0, 0, 0, (⟨#[]⟩ : ByteArray), 2) := by
  rw [msg_Decode.j1, if_pos rfl, num_few hb 1 (by decide) (by decide) (by omega), Option.bind_some]
  exact call_err (e := 2) (by decide) k [] (fun x hx => by simp at hx) 0 (by omega) (by simp)
end
/-- What was encoded is decoded as it was; with more behind it, it is none. -/
theorem dec_ok {m : MS} (hk : MOk m) (h : MR m) (R : List Int) (hR : Byt R) (hl : R.length ≤ 10000) (k : Nat) : msg_Decode.f (k + 200) (EB m ++ R) = some (if R = [] then (m.kd, m.ep, m.id, m.ts, m.vl, m.d0, m.d1, m.d2, m.d3, m.d4, m.d5, m.d6, m.d7, m.d8, m.pa, 0) else (0, 0, 0, 0, 0, 0, 0, 0, 0, 0, 0, 0, 0, 0, (⟨#[]⟩ : ByteArray), 3)) := by
  have k1 := h.k1
  have k7 := h.k7
  have key : ∀ k, msg_Decode.j4 (k + 3) R 0 m.kd m.ep m.id m.ts m.vl m.d0 m.d1 m.d2 m.d3 m.d4 m.d5 m.d6 m.d7 m.d8 m.pa = some (if R = [] then (m.kd, m.ep, m.id, m.ts, m.vl, m.d0, m.d1, m.d2, m.d3, m.d4, m.d5, m.d6, m.d7, m.d8, m.pa, 0) else (0, 0, 0, 0, 0, 0, 0, 0, 0, 0, 0, 0, 0, 0, (⟨#[]⟩ : ByteArray), 3)) := fun k => by
    have := j4_fin (L := R) k m
    rw [if_pos h] at this
    exact this
  have hlen := eb_len h
  have hbe := byt_eb m
  unfold EB at hlen hbe ⊢
  rw [List.append_assoc, dec_head m.kd (fun x hx => by rcases List.mem_append.1 hx with h1 | h1; exact hbe x (List.mem_append_right _ h1); exact hR x h1) k1 k7 (by rw [List.length_append] at hlen ⊢; omega)]
  by_cases c1 : 1 < m.kd
  · by_cases c2 : m.kd = 2
    · have hc := h.call c2
      have hv : m.vl = 0 := by have := h.v0; have := h.v1; unfold MOST at this; rw [if_neg (by omega), if_neg (by omega)] at this; omega
      rw [if_pos c1, if_pos c2, if_neg (by omega)]
      simp only [List.append_assoc, List.append_nil, List.nil_append]
      have bT : Byt (pack_bytes m.pa.size 2 ++ (bytesOf m.pa ++ R)) := (byt_pack _ _).app ((byt_str _).app hR)
      have bD := (byt_db m).app bT
      rw [show k + 200 = (k + 21 + 112 + 2 + 64) + 1 by omega, j0_more ((byt_pack _ _).app bD) hk.hep hk.hid c1, show k + 21 + 112 + 2 + 64 = (k + 21 + 112 + 1 + 64) + 1 by omega, beq_iff_eq.2 c2, j1_call bD (by omega) (by omega), decide_eq_false (by omega)]
      have e := loop_ok (x8 := false) (kd := m.kd) (ep := m.ep) (id := m.id) (ts := m.ts) (vl := 0) (pa := ⟨#[]⟩) (d0 := 0) (d1 := 0) (d2 := 0) (d3 := 0) (d4 := 0) (d5 := 0) (d6 := 0) (d7 := 0) (d8 := 0) (DB m) [] (pack_bytes m.pa.size 2 ++ (bytesOf m.pa ++ R)) 0 (k + 22 + 112) (by rw [db_len]; decide) (by rw [db_len]; decide) bD
      rw [db_len] at e
      have hT : pack_Reader_Text.f (pack_bytes m.pa.size 2 ++ (bytesOf m.pa ++ R)) 0 = some (m.pa, R, 0) := by
        have el : LAYT m.pa = (pack_bytes m.pa.size 2 ++ bytesOf m.pa, 0) := by unfold LAYT; rw [if_neg (by omega)]
        have := text_read (t := m.pa) (by rw [el]) R
        rw [el] at this
        rw [rtext_0 bT, ← List.append_assoc]
        exact congrArg some this
      rw [show k + 21 + 112 + 1 + 64 = k + 22 + 112 + 64 by omega]
      refine Eq.trans e ?_
      rw [List.nil_append, show ((0 + 64 : Nat) : Int) = 64 from rfl, loop_end (k + 22) _ (byt_db m), hT, Option.bind_some, dof_db hk.hd]
      simp only
      rw [show k + 22 + 111 = (k + 132) + 1 by omega, j3_none, show k + 132 = (k + 129) + 3 by omega]
      have := key (k + 129)
      rw [hv] at this ⊢
      exact this
    · obtain ⟨t0, p0, hd⟩ := h.none c2
      have p0 := size_nil p0
      obtain ⟨z0, z1, z2, z3, z4, z5, z6, z7, z8⟩ := hd
      rw [if_pos c1, if_neg c2]
      simp only [List.append_assoc, List.append_nil, List.nil_append]
      by_cases c3 : m.kd = 4 ∨ m.kd = 5 ∨ m.kd = 7
      · have hv : m.vl ≤ 65535 := by have := h.v1; unfold MOST at this; split at this <;> (try split at this) <;> omega
        rw [if_pos c3, show k + 200 = (k + 197 + 2) + 1 by omega, j0_more ((byt_pack _ _).app hR) hk.hep hk.hid c1, show k + 197 + 2 = (k + 197 + 1) + 1 by omega, beq_eq_false_iff_ne.2 c2, j1_none, decide_eq_true c3, j3_val hR h.v0 hv, show k + 197 = (k + 194) + 3 by omega]
        have := key (k + 194)
        rw [t0, p0, z0, z1, z2, z3, z4, z5, z6, z7, z8] at this ⊢
        exact this
      · have hv : m.vl = 0 := by have := h.v0; have := h.v1; unfold MOST at this; rw [if_neg (by omega), if_neg (by omega)] at this; omega
        rw [if_neg c3, show k + 200 = (k + 197 + 2) + 1 by omega, List.nil_append, j0_more hR hk.hep hk.hid c1, show k + 197 + 2 = (k + 197 + 1) + 1 by omega, beq_eq_false_iff_ne.2 c2, j1_none, decide_eq_false c3, j3_none, show k + 197 = (k + 194) + 3 by omega]
        have := key (k + 194)
        rw [t0, p0, hv, z0, z1, z2, z3, z4, z5, z6, z7, z8] at this ⊢
        exact this
  · have c1' : m.kd = 1 := by omega
    obtain ⟨t0, p0, hd⟩ := h.none (by omega)
    have p0 := size_nil p0
    obtain ⟨z0, z1, z2, z3, z4, z5, z6, z7, z8⟩ := hd
    have hi := h.hid (by omega)
    have hv : m.vl = 0 := by have := h.v0; have := h.v1; unfold MOST at this; rw [if_neg (by omega), if_neg (by omega)] at this; omega
    rw [if_neg c1, if_neg (by omega), if_neg (by omega)]
    simp only [List.append_assoc, List.append_nil, List.nil_append]
    rw [c1', show k + 200 = (k + 197 + 2) + 1 by omega, j0_one hR hk.hep, show k + 197 + 2 = (k + 197 + 1) + 1 by omega, j1_none, j3_none, show k + 197 = (k + 194) + 3 by omega]
    have := key (k + 194)
    rw [c1', t0, p0, hv, hi, z0, z1, z2, z3, z4, z5, z6, z7, z8] at this
    rw [t0, p0, hv, hi, z0, z1, z2, z3, z4, z5, z6, z7, z8]
    exact this
theorem awake17 (k : Nat) : fairleadlaw17_awake.f (k + 300) = some true := by
  have hk : MOk ⟨3, 1, 258, 0, 0, 0, 0, 0, 0, 0, 0, 0, 0, 0, ⟨#[]⟩⟩ := ⟨⟨by decide, by decide⟩, ⟨by decide, by decide⟩, ⟨by decide, by decide⟩, ⟨by decide, by decide⟩, ⟨by decide, by decide⟩, by unfold DOk; simp only; omega⟩
  have h : MR ⟨3, 1, 258, 0, 0, 0, 0, 0, 0, 0, 0, 0, 0, 0, ⟨#[]⟩⟩ := ⟨by decide, by decide, fun h => absurd h (by decide), fun _ => ⟨rfl, rfl, rfl, rfl, rfl, rfl, rfl, rfl, rfl, rfl, rfl⟩, fun h => absurd h (by decide), by decide, by decide⟩
  have e1 := enc_is hk h (k + 300) (by omega)
  have e2 := dec_ok hk h [] (fun x hx => by simp at hx) (by simp) (k + 100)
  have e3 : EB ⟨3, 1, 258, 0, 0, 0, 0, 0, 0, 0, 0, 0, 0, 0, ⟨#[]⟩⟩ = [3, 0, 0, 0, 0, 0, 0, 0, 1, 0, 0, 0, 0, 0, 0, 1, 2] := by decide +kernel
  rw [e3] at e1 e2
  simp only [List.append_nil] at e1 e2
  unfold fairleadlaw17_awake.f
  rw [e1, Option.bind_some]
  simp only
  rw [show k + 300 = k + 100 + 200 by omega, e2, Option.bind_some]
  rfl
end Go.Proofs.Ytadglbmghldnfaa.Pure
