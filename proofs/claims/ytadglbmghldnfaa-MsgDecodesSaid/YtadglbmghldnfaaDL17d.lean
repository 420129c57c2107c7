/- Layer 17 (msg), plain: what the document's Decode gives. -/
import Derived.Test.YtadglbmghldnfaaDMx0
import Derived.Test.YtadglbmghldnfaaDMx4
import Derived.Test.YtadglbmghldnfaaDMx5
import Derived.Test.YtadglbmghldnfaaDMx6
import Derived.Test.YtadglbmghldnfaaDMx7
import Derived.Test.YtadglbmghldnfaaDMx8
import Derived.Test.YtadglbmghldnfaaDMx10
import Derived.Test.YtadglbmghldnfaaDMx11
import Derived.Test.YtadglbmghldnfaaDMx12
import Derived.Test.YtadglbmghldnfaaDMx17
import Derived.Test.YtadglbmghldnfaaDMx18
import Derived.Test.YtadglbmghldnfaaDMx19
import Derived.Test.YtadglbmghldnfaaDMx20
import Derived.Test.YtadglbmghldnfaaDAid
import Derived.Test.YtadglbmghldnfaaDL00
import Derived.Test.YtadglbmghldnfaaDL02n
import Derived.Test.YtadglbmghldnfaaDL02r
import Derived.Test.YtadglbmghldnfaaDL02k
import Derived.Test.YtadglbmghldnfaaDL04n
import Derived.Test.YtadglbmghldnfaaDL04a
import Derived.Test.YtadglbmghldnfaaDL04x
import Derived.Test.YtadglbmghldnfaaDL17
import Derived.Test.YtadglbmghldnfaaDL17e
namespace Go.Proofs.Ytadglbmghldnfaa.Pure
open Go Go.RowKit Go.Proofs.Ytadglbmghldnfaa.M Go.Proofs.Ytadglbmghldnfaa.Aid Go.Proofs.YtadglbmghldnfaaW.PrintWords Go.Proofs.YtadglbmghldnfaaW.PrintLast Go.Proofs.YtadglbmghldnfaaW.PrintMore
set_option linter.unusedVariables false
set_option linter.unusedSimpArgs false
-- NEEDS fairleadlaw17_awake.f msg_Right.f msg_bears.f msg_Encode.f msg_Decode.f fairleadref17_Right.f fairleadref17_Decode.f fairleadref02_Take.f fairleadref02_TakeText.f fairleadref04_Of.f data_Bytes.f data_Of.f pack_Reader_Num.f pack_num
-- IMPORT L00
-- IMPORT L02n
-- IMPORT L02r
-- IMPORT L02k
-- IMPORT L04n
-- IMPORT L04r
-- IMPORT L04x
-- IMPORT L17
-- IMPORT L17e
abbrev R17 := Int × Int × Int × Int × Int × Int × Int × Int × Int × Int × Int × Int × Int × Int × ByteArray × Int
def Z17 (e : Int) : R17 := (0, 0, 0, 0, 0, 0, 0, 0, 0, 0, 0, 0, 0, 0, (⟨#[]⟩ : ByteArray), e)
open Classical in
noncomputable def FX (l : List Int) (need : Int) (m : MS) : R17 := if need < (l.length : Int) then Z17 3 else if MR m then (m.kd, m.ep, m.id, m.ts, m.vl, m.d0, m.d1, m.d2, m.d3, m.d4, m.d5, m.d6, m.d7, m.d8, m.pa, 0) else Z17 1
theorem fx_is (l : List Int) (need : Int) (m : MS) (k : Nat) : fairleadref17_Decode.fin (k + 4) l need m.kd m.ep m.id m.ts m.vl m.d0 m.d1 m.d2 m.d3 m.d4 m.d5 m.d6 m.d7 m.d8 m.pa = some (FX l need m) := by
  unfold fairleadref17_Decode.fin FX
  by_cases h : need < (l.length : Int)
  · rw [if_pos h, if_pos h]; rfl
  · rw [if_neg h, if_neg h]
    obtain ⟨b, e, i⟩ := rright_is m k
    rw [e, Option.bind_some]
    by_cases hr : MR m
    · rw [i.2 hr, if_pos rfl, if_pos hr]
    · rw [if_neg hr, if_neg (fun x => hr (i.1 x))]; rfl
noncomputable def RX (l : List Int) : R17 := if l.length = 0 then Z17 2 else if rd l 0 < 1 ∨ 7 < rd l 0 then Z17 3
  else if (l.length : Int) < (if rd l 0 = 1 then 9 else if rd l 0 = 2 then 84 else if rd l 0 = 4 ∨ rd l 0 = 5 ∨ rd l 0 = 7 then 19 else 17) then Z17 2
  else if rd l 0 = 1 then FX l 9 ⟨rd l 0, (TK (l.drop 1) 8).1, 0, 0, 0, 0, 0, 0, 0, 0, 0, 0, 0, 0, ⟨#[]⟩⟩
  else if rd l 0 = 2 then (if (TT (l.drop 82)).2.2 = 0 then FX l (wrap64 (82 + (TT (l.drop 82)).2.1)) ⟨rd l 0, (TK (l.drop 1) 8).1, (TK (l.drop 9) 8).1, wrap64 (rd l 17), 0, (DOF ((l.take 82).drop 18)).1, (DOF ((l.take 82).drop 18)).2.1, (DOF ((l.take 82).drop 18)).2.2.1, (DOF ((l.take 82).drop 18)).2.2.2.1, (DOF ((l.take 82).drop 18)).2.2.2.2.1, (DOF ((l.take 82).drop 18)).2.2.2.2.2.1, (DOF ((l.take 82).drop 18)).2.2.2.2.2.2.1, (DOF ((l.take 82).drop 18)).2.2.2.2.2.2.2.1, (DOF ((l.take 82).drop 18)).2.2.2.2.2.2.2.2.1, (TT (l.drop 82)).1⟩ else Z17 2)
  else if rd l 0 = 4 ∨ rd l 0 = 5 ∨ rd l 0 = 7 then FX l 19 ⟨rd l 0, (TK (l.drop 1) 8).1, (TK (l.drop 9) 8).1, 0, wrap64 (wrap64 (wrap64 (rd l 17) * 256) + wrap64 (rd l 18)), 0, 0, 0, 0, 0, 0, 0, 0, 0, ⟨#[]⟩⟩
  else FX l 17 ⟨rd l 0, (TK (l.drop 1) 8).1, (TK (l.drop 9) 8).1, 0, 0, 0, 0, 0, 0, 0, 0, 0, 0, 0, ⟨#[]⟩⟩
theorem rdec_is (l : List Int) (hb : Byt l) (hl : l.length ≤ 2000) (k : Nat) : fairleadref17_Decode.f (k + 20) l = some (RX l) := by
  have hd : ∀ n, Byt (l.drop n) := fun n x hx => hb x (List.mem_of_mem_drop hx)
  unfold fairleadref17_Decode.f RX
  by_cases h0 : l.length = 0
  · rw [if_pos h0, if_pos h0]; rfl
  rw [if_neg h0, if_neg h0]
  have hx : 0 ≤ rd l 0 ∧ rd l 0 ≤ 255 := hb _ (rd_mem2 l 0 (by omega))
  rw [w64_id2 (x := rd l 0) (by omega) (by omega)]
  by_cases h1 : rd l 0 < 1 ∨ 7 < rd l 0
  · rw [if_pos h1, if_pos h1]; rfl
  rw [if_neg h1, if_neg h1]
  by_cases h2 : (l.length : Int) < (if rd l 0 = 1 then 9 else if rd l 0 = 2 then 84 else if rd l 0 = 4 ∨ rd l 0 = 5 ∨ rd l 0 = 7 then 19 else 17)
  · rw [if_pos h2, if_pos h2]; rfl
  rw [if_neg h2, if_neg h2]
  rw [rtake_is _ (hd 1) 8 _ (by omega), Option.bind_some]
  by_cases q1 : rd l 0 = 1
  · rw [if_pos q1, if_pos q1]
    exact fx_is l 9 ⟨rd l 0, (TK (l.drop 1) 8).1, 0, 0, 0, 0, 0, 0, 0, 0, 0, 0, 0, 0, ⟨#[]⟩⟩ (k + 16)
  rw [if_neg q1, if_neg q1]
  rw [rtake_is _ (hd 9) 8 _ (by omega), Option.bind_some]
  by_cases q2 : rd l 0 = 2
  · rw [if_pos q2, if_pos q2]
    rw [show k + 20 = (k + 13) + 7 from rfl, rof_is _ (fun x hx => hb x (List.mem_of_mem_take (List.mem_of_mem_drop hx))) (k + 13) (by omega), Option.bind_some, rtaketext_is _ (hd 82) (by rw [List.length_drop]; omega) _ (by omega), Option.bind_some]
    by_cases ht : (TT (l.drop 82)).2.2 = 0
    · rw [if_pos ht, if_pos ht]
      exact fx_is l _ ⟨rd l 0, (TK (l.drop 1) 8).1, (TK (l.drop 9) 8).1, wrap64 (rd l 17), 0, (DOF ((l.take 82).drop 18)).1, (DOF ((l.take 82).drop 18)).2.1, (DOF ((l.take 82).drop 18)).2.2.1, (DOF ((l.take 82).drop 18)).2.2.2.1, (DOF ((l.take 82).drop 18)).2.2.2.2.1, (DOF ((l.take 82).drop 18)).2.2.2.2.2.1, (DOF ((l.take 82).drop 18)).2.2.2.2.2.2.1, (DOF ((l.take 82).drop 18)).2.2.2.2.2.2.2.1, (DOF ((l.take 82).drop 18)).2.2.2.2.2.2.2.2.1, (TT (l.drop 82)).1⟩ (k + 16)
    · rw [if_neg ht, if_neg ht]; rfl
  rw [if_neg q2, if_neg q2]
  by_cases q4 : rd l 0 = 4 ∨ rd l 0 = 5 ∨ rd l 0 = 7
  · rw [if_pos q4, if_pos q4]
    exact fx_is l 19 ⟨rd l 0, (TK (l.drop 1) 8).1, (TK (l.drop 9) 8).1, 0, wrap64 (wrap64 (wrap64 (rd l 17) * 256) + wrap64 (rd l 18)), 0, 0, 0, 0, 0, 0, 0, 0, 0, ⟨#[]⟩⟩ (k + 16)
  rw [if_neg q4, if_neg q4]
  exact fx_is l 17 ⟨rd l 0, (TK (l.drop 1) 8).1, (TK (l.drop 9) 8).1, 0, 0, 0, 0, 0, 0, 0, 0, 0, 0, 0, ⟨#[]⟩⟩ (k + 16)
theorem rd_app1 {kd : Int} (R : List Int) (h0 : 0 ≤ kd) (h1 : kd ≤ 255) : rd (pack_bytes kd 1 ++ R) 0 = kd ∧ (pack_bytes kd 1 ++ R).drop 1 = R ∧ (pack_bytes kd 1 ++ R).length = R.length + 1 := by
  rw [one_byte ⟨h0, h1⟩]
  refine ⟨rfl, rfl, ?_⟩
  simp
theorem tk_pack {v : Int} (R : List Int) (h : U64 v) : (TK (pack_bytes v 8 ++ R) 8).1 = v := by
  have hl := pack_bytes_length v 8
  have e : (pack_bytes v 8 ++ R).take (8 : Int).toNat = pack_bytes v 8 := by
    rw [show (8 : Int).toNat = 8 from rfl, List.take_append_of_le_length (by omega), List.take_of_length_le (by omega)]
  unfold TK
  rw [if_neg (by omega), if_neg (by rw [List.length_append]; omega), e]
  simp only
  rw [val_pack v h.1]
  exact Int.emod_eq_of_lt h.1 (by have := h.2; omega)
theorem drop_pack (v : Int) (n : Nat) (R : List Int) : (pack_bytes v n ++ R).drop n = R := by
  have hl := pack_bytes_length v n
  rw [List.drop_append_of_le_length (by omega), List.drop_of_length_le (by omega), List.nil_append]
theorem rx_short {l : List Int} (h0 : l.length ≠ 0) (h1 : 1 ≤ rd l 0 ∧ rd l 0 ≤ 7) (h2 : (l.length : Int) < (if rd l 0 = 1 then 9 else if rd l 0 = 2 then 84 else if rd l 0 = 4 ∨ rd l 0 = 5 ∨ rd l 0 = 7 then 19 else 17)) : RX l = Z17 2 := by
  unfold RX
  rw [if_neg h0, if_neg (by omega), if_pos h2]
theorem rx_kind {l : List Int} (h0 : l.length ≠ 0) (h1 : rd l 0 < 1 ∨ 7 < rd l 0) : RX l = Z17 3 := by
  unfold RX
  rw [if_neg h0, if_pos h1]
theorem same_fin {l L : List Int} {need : Int} (m : MS) (k : Nat) (hR : RX l = FX l need m) (hL : L = [] ↔ ¬ need < (l.length : Int)) : msg_Decode.j4 (k + 3) L 0 m.kd m.ep m.id m.ts m.vl m.d0 m.d1 m.d2 m.d3 m.d4 m.d5 m.d6 m.d7 m.d8 m.pa = some (RX l) := by
  rw [j4_fin, hR]
  unfold FX
  by_cases h : L = []
  · rw [if_pos h, if_neg (hL.1 h)]
    by_cases hr : MR m
    · rw [if_pos hr, if_pos hr]
    · rw [if_neg hr, if_neg hr]; rfl
  · rw [if_neg h, if_pos (Decidable.not_not.1 (fun x => h (hL.2 x)))]; rfl
theorem rd_drop (l : List Int) (n : Nat) (m : Int) (hm : 0 ≤ m) : rd (l.drop n) m = rd l (n + m) := by
  unfold rd
  rw [List.getD_eq_getElem?_getD, List.getD_eq_getElem?_getD, List.getElem?_drop, show ((n : Int) + m).toNat = n + m.toNat by omega]
theorem tt_rt (L : List Int) : (TT L).2.2 = (RTEXT L).2.2 ∧ (TT L).1 = (RTEXT L).1 ∧ ((RTEXT L).2.2 = 0 ∨ (RTEXT L).2.2 = 2) ∧ ((RTEXT L).2.2 = 0 → 2 ≤ L.length ∧ (TT L).2.1 = 2 + VAL (L.take 2) ∧ VAL (L.take 2) ≤ (L.length : Int) - 2 ∧ (RTEXT L).2.1 = (L.drop 2).drop (VAL (L.take 2)).toNat) := by
  unfold TT RTEXT
  by_cases h1 : L.length < 2
  · rw [if_pos h1, if_pos h1]; exact ⟨rfl, rfl, .inr rfl, fun h => by simp at h⟩
  · rw [if_neg h1, if_neg h1]
    by_cases h2 : VAL (L.take 2) ≤ (L.length : Int) - 2
    · rw [if_pos h2, if_pos h2]; exact ⟨rfl, rfl, .inl rfl, fun _ => ⟨by omega, rfl, h2, rfl⟩⟩
    · rw [if_neg h2, if_neg h2]; exact ⟨rfl, rfl, .inr rfl, fun h => by simp at h⟩
theorem cut_head {kd ep id : Int} (hk : 0 ≤ kd ∧ kd ≤ 255) (R : List Int) : ∀ l, l = pack_bytes kd 1 ++ (pack_bytes ep 8 ++ (pack_bytes id 8 ++ R)) → rd l 0 = kd ∧ l.drop 1 = pack_bytes ep 8 ++ (pack_bytes id 8 ++ R) ∧ l.drop 9 = pack_bytes id 8 ++ R ∧ l.drop 17 = R ∧ l.length = 17 + R.length := by
  intro l e
  have e0 : rd l 0 = kd := by rw [e, one_byte hk]; rfl
  have e1 : l.drop 1 = pack_bytes ep 8 ++ (pack_bytes id 8 ++ R) := by rw [e, one_byte hk]; rfl
  have e2 : l.drop 9 = pack_bytes id 8 ++ R := by rw [show 9 = 1 + 8 from rfl, ← List.drop_drop, e1, drop_pack]
  have e3 : l.drop 17 = R := by rw [show 17 = 9 + 8 from rfl, ← List.drop_drop, e2, drop_pack]
  refine ⟨e0, e1, e2, e3, ?_⟩
  rw [e]
  simp only [List.length_append, pack_bytes_length]
  omega
theorem cut_two {ep id ts : Int} (A R5 : List Int) (ht : 0 ≤ ts ∧ ts ≤ 255) (hA : A.length = 64) (l : List Int) (e : l = pack_bytes 2 1 ++ (pack_bytes ep 8 ++ (pack_bytes id 8 ++ (pack_bytes ts 1 ++ (A ++ R5))))) : rd l 17 = ts ∧ (l.take 82).drop 18 = A ∧ l.drop 82 = R5 ∧ l.length = 82 + R5.length := by
  obtain ⟨-, -, -, e3, e4⟩ := cut_head (by decide) _ l e
  have e5 : rd l 17 = ts := by
    have := rd_drop l 17 0 (by decide)
    rw [e3, one_byte ht] at this
    exact this.symm
  have e6 : l.drop 18 = A ++ R5 := by rw [show 18 = 17 + 1 from rfl, ← List.drop_drop, e3, one_byte ht]; rfl
  refine ⟨e5, ?_, ?_, ?_⟩
  · rw [List.drop_take, e6, List.take_append_of_le_length (by omega), List.take_of_length_le (by omega)]
  · rw [show 82 = 18 + 64 from rfl, ← List.drop_drop, e6, List.drop_append_of_le_length (by omega), List.drop_of_length_le (by omega), List.nil_append]
  · rw [e4]
    simp only [List.length_append, pack_bytes_length]
    omega
theorem rx_two {ep id ts : Int} (A R5 : List Int) (bR : Byt R5) (hep : U64 ep) (hid : U64 id) (ht : 0 ≤ ts ∧ ts ≤ 255) (hA : A.length = 64) (l : List Int) (e : l = pack_bytes 2 1 ++ (pack_bytes ep 8 ++ (pack_bytes id 8 ++ (pack_bytes ts 1 ++ (A ++ R5))))) (hl : l.length ≤ 2000) : RX l = if (RTEXT R5).2.2 = 0 then FX l (84 + VAL (R5.take 2)) ⟨2, ep, id, ts, 0, (DOF A).1, (DOF A).2.1, (DOF A).2.2.1, (DOF A).2.2.2.1, (DOF A).2.2.2.2.1, (DOF A).2.2.2.2.2.1, (DOF A).2.2.2.2.2.2.1, (DOF A).2.2.2.2.2.2.2.1, (DOF A).2.2.2.2.2.2.2.2.1, (RTEXT R5).1⟩ else Z17 2 := by
  obtain ⟨a0, a1, a2, a3, a4⟩ := cut_head (by decide) _ l e
  obtain ⟨b1, b2, b3, b4⟩ := cut_two A R5 ht hA l e
  obtain ⟨t1, t2, t3, t4⟩ := tt_rt R5
  by_cases h0 : (RTEXT R5).2.2 = 0
  · obtain ⟨s1, s2, s3, s4⟩ := t4 h0
    have hv := val_2 (bR.take 2) (by rw [List.length_take]; omega)
    rw [if_pos h0]
    unfold RX
    rw [a0, if_neg (by omega), if_neg (by omega), if_neg (by rw [if_neg (by decide), if_pos rfl]; omega), if_neg (by decide), if_pos rfl, b3, t1, if_pos h0, a1, tk_pack _ hep, a2, tk_pack _ hid, b1, b2, t2, s2, w64_id2 (x := ts) (by omega) (by omega), w64_id2 (x := 82 + (2 + VAL (R5.take 2))) (by omega) (by omega), show 82 + (2 + VAL (R5.take 2)) = 84 + VAL (R5.take 2) by omega]
  · rw [if_neg h0]
    unfold RX
    rw [a0, if_neg (by omega), if_neg (by omega)]
    by_cases h2 : R5.length < 2
    · rw [if_pos (by rw [if_neg (by decide), if_pos rfl]; omega)]
    · rw [if_neg (by rw [if_neg (by decide), if_pos rfl]; omega), if_neg (by decide), if_pos rfl, b3, t1, if_neg h0]
theorem two_bytes {v : Int} (h0 : 0 ≤ v) (h1 : v ≤ 65535) : pack_bytes v 2 = [v / 256, v % 256] := by
  rw [show 2 = 1 + 1 from rfl, pack_bytes_256, show 1 = 0 + 1 from rfl, pack_bytes_256]
  simp only [Int.pow_zero, Int.ediv_one, pack_bytes, Nat.zero_add, Int.pow_one]
  rw [show v / 256 % 256 = v / 256 by omega]
theorem rx_val {kd ep id v : Int} (R : List Int) (hk : 1 ≤ kd ∧ kd ≤ 7) (hep : U64 ep) (hid : U64 id) (h0 : 0 ≤ v) (h1 : v ≤ 65535) (c3 : kd = 4 ∨ kd = 5 ∨ kd = 7) (l : List Int) (e : l = pack_bytes kd 1 ++ (pack_bytes ep 8 ++ (pack_bytes id 8 ++ (pack_bytes v 2 ++ R)))) : RX l = FX l 19 ⟨kd, ep, id, 0, v, 0, 0, 0, 0, 0, 0, 0, 0, 0, ⟨#[]⟩⟩ := by
  obtain ⟨a0, a1, a2, a3, a4⟩ := cut_head (by omega) _ l e
  have e1 : rd l 17 = v / 256 := by
    have := rd_drop l 17 0 (by decide)
    rw [a3, two_bytes h0 h1] at this
    exact this.symm
  have e2 : rd l 18 = v % 256 := by
    have := rd_drop l 17 1 (by decide)
    rw [a3, two_bytes h0 h1] at this
    exact this.symm
  rw [List.length_append, pack_bytes_length] at a4
  have hw : wrap64 (wrap64 (wrap64 (v / 256) * 256) + wrap64 (v % 256)) = v := by
    rw [w64_id2 (x := v / 256) (by omega) (by omega), w64_id2 (x := v % 256) (by omega) (by omega), w64_id2 (x := v / 256 * 256) (by omega) (by omega), w64_id2 (by omega) (by omega)]; omega
  unfold RX
  rw [a0, if_neg (by omega), if_neg (by omega), if_neg (by rw [if_neg (by omega), if_neg (by omega), if_pos c3]; omega), if_neg (by omega), if_neg (by omega), if_pos c3, a1, tk_pack _ hep, a2, tk_pack _ hid, e1, e2, hw]
end Go.Proofs.Ytadglbmghldnfaa.Pure
