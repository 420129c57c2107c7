/- Layer 17 (msg), plain: a beginning of a message's bytes is none. -/
import Derived.Test.YtadglbmghldnfaaMx0
import Derived.Test.YtadglbmghldnfaaMx14
import Derived.Test.YtadglbmghldnfaaMx15
import Derived.Test.YtadglbmghldnfaaAid
import Derived.Test.YtadglbmghldnfaaL02n
import Derived.Test.YtadglbmghldnfaaL02r
import Derived.Test.YtadglbmghldnfaaL02t
import Derived.Test.YtadglbmghldnfaaL04
import Derived.Test.YtadglbmghldnfaaL04n
import Derived.Test.YtadglbmghldnfaaL04o
import Derived.Test.YtadglbmghldnfaaL17
namespace Go.Proofs.Ytadglbmghldnfaa.Pure
open Go Go.RowKit Go.Proofs.Ytadglbmghldnfaa.M Go.Proofs.Ytadglbmghldnfaa.Aid Go.Proofs.YtadglbmghldnfaaW.PrintWords Go.Proofs.YtadglbmghldnfaaW.PrintLast Go.Proofs.YtadglbmghldnfaaW.PrintMore
set_option linter.unusedVariables false
set_option linter.unusedSimpArgs false

-- NEEDS fairleadlaw17_awake.f msg_Decode.f
-- IMPORT L02n
-- IMPORT L02r
-- IMPORT L02t
-- IMPORT L04
-- IMPORT L04n
-- IMPORT L04o
-- IMPORT L17

theorem take_app {P Q : List Int} {c n : Nat} (hn : P.length = n) (h : n ≤ c) : (P ++ Q).take c = P ++ Q.take (c - n) := by
  rw [List.take_append, List.take_of_length_le (by omega), hn]
theorem take_len (Q : List Int) (c : Nat) : (Q.take c).length ≤ c := by rw [List.length_take]; omega
theorem dec_cut {m : MS} (hk : MOk m) (h : MR m) (c : Nat) (hc : c < (EB m).length) (k : Nat) : msg_Decode.f (k + 200) ((EB m).take c) = some (0, 0, 0, 0, 0, 0, 0, 0, 0, 0, 0, 0, 0, 0, (⟨#[]⟩ : ByteArray), 2) := by
  have k1 := h.k1
  have k7 := h.k7
  have hbe := byt_eb m
  have hlen := eb_len h
  have ln : ∀ (n : Int) (s : Nat), (pack_bytes n s).length = s := pack_bytes_length
  by_cases c0 : c = 0
  · subst c0
    rw [List.take_zero]
    have hb : Byt [] := fun x hx => by simp at hx
    unfold msg_Decode.f
    rw [read_is _ (by simp), Option.bind_some]
    simp only
    rw [num_few hb 1 (by decide) (by decide) (by decide), Option.bind_some, if_neg (by decide), show k + 200 = (k + 22) + 112 + 64 + 2 by omega]
    exact j0_err (e := 2) (by decide) (k + 22)
  unfold EB at hbe hc hlen ⊢
  generalize hT : (pack_bytes m.ep 8 ++ ((if 1 < m.kd then pack_bytes m.id 8 else []) ++ ((if m.kd = 2 then pack_bytes m.ts 1 ++ (DB m ++ (pack_bytes m.pa.size 2 ++ bytesOf m.pa)) else []) ++ (if m.kd = 4 ∨ m.kd = 5 ∨ m.kd = 7 then pack_bytes m.vl 2 else [])))) = T at *
  have bT : Byt T := fun x hx => hbe x (List.mem_append_right _ hx)
  rw [List.length_append, ln] at hc hlen
  rw [take_app (ln _ _) (by omega), dec_head m.kd (bT.take _) k1 k7 (by have := take_len T (c - 1); omega)]
  by_cases c8 : c - 1 < 8
  · rw [show k + 200 = (k + 22) + 112 + 64 + 2 by omega]
    exact j0_short (bT.take _) (by have := take_len T (c - 1); omega) (k + 22)
  subst hT
  generalize hT : ((if 1 < m.kd then pack_bytes m.id 8 else []) ++ ((if m.kd = 2 then pack_bytes m.ts 1 ++ (DB m ++ (pack_bytes m.pa.size 2 ++ bytesOf m.pa)) else []) ++ (if m.kd = 4 ∨ m.kd = 5 ∨ m.kd = 7 then pack_bytes m.vl 2 else []))) = T at *
  have bT2 : Byt T := fun x hx => bT x (List.mem_append_right _ hx)
  rw [List.length_append, ln] at hc hlen
  rw [take_app (ln _ _) (by omega)]
  by_cases g1 : 1 < m.kd
  · rw [if_pos g1] at hT
    by_cases c16 : c - 1 - 8 < 8
    · rw [show k + 200 = (k + 22) + 112 + 64 + 2 by omega]
      exact j0_short2 (bT2.take _) hk.hep (by have := take_len T (c - 1 - 8); omega) g1 0 (k + 22)
    subst hT
    generalize hT : ((if m.kd = 2 then pack_bytes m.ts 1 ++ (DB m ++ (pack_bytes m.pa.size 2 ++ bytesOf m.pa)) else []) ++ (if m.kd = 4 ∨ m.kd = 5 ∨ m.kd = 7 then pack_bytes m.vl 2 else [])) = T at *
    have bT3 : Byt T := fun x hx => bT2 x (List.mem_append_right _ hx)
    rw [List.length_append, ln] at hc hlen
    rw [take_app (ln _ _) (by omega), show k + 200 = (k + 21 + 112 + 2 + 64) + 1 by omega, j0_more (bT3.take _) hk.hep hk.hid g1, show k + 21 + 112 + 2 + 64 = (k + 22 + 112 + 64) + 1 by omega]
    by_cases g2 : m.kd = 2
    · have hcl := h.call g2
      rw [if_pos g2, if_neg (by omega), List.append_nil] at hT
      rw [beq_iff_eq.2 g2, decide_eq_false (by omega)]
      by_cases c17 : c - 1 - 8 - 8 < 1
      · exact j1_short (by have := take_len T (c - 1 - 8 - 8); omega) (bT3.take _) (k + 22)
      subst hT
      have bT4 : Byt (DB m ++ (pack_bytes m.pa.size 2 ++ bytesOf m.pa)) := fun x hx => bT3 x (List.mem_append_right _ hx)
      rw [List.length_append, ln] at hc hlen
      rw [take_app (ln _ _) (by omega), j1_call (bT4.take _) (by omega) (by omega)]
      by_cases c64 : c - 1 - 8 - 8 - 1 < 64
      · exact call_short (bT4.take _) (by have := take_len (DB m ++ (pack_bytes m.pa.size 2 ++ bytesOf m.pa)) (c - 1 - 8 - 8 - 1); omega) (k + 22)
      rw [List.length_append, db_len] at hc hlen
      have bT5 : Byt (pack_bytes m.pa.size 2 ++ bytesOf m.pa) := fun x hx => bT4 x (List.mem_append_right _ hx)
      rw [take_app (db_len m) (by omega)]
      have el : LAYT m.pa = (pack_bytes m.pa.size 2 ++ bytesOf m.pa, 0) := by unfold LAYT; rw [if_neg (by omega)]
      have ht := text_cut (t := m.pa) (by rw [el]) (c - 1 - 8 - 8 - 1 - 64) (by rw [el]; simp only; omega)
      rw [el] at ht
      simp only at ht
      have e := loop_ok (x8 := false) (kd := m.kd) (ep := m.ep) (id := m.id) (ts := m.ts) (vl := 0) (pa := ⟨#[]⟩) (d0 := 0) (d1 := 0) (d2 := 0) (d3 := 0) (d4 := 0) (d5 := 0) (d6 := 0) (d7 := 0) (d8 := 0) (DB m) [] ((pack_bytes m.pa.size 2 ++ bytesOf m.pa).take (c - 1 - 8 - 8 - 1 - 64)) 0 (k + 22 + 112) (by rw [db_len]; decide) (by rw [db_len]; decide) ((byt_db m).app (bT5.take _))
      rw [db_len, List.nil_append, show ((0 + 64 : Nat) : Int) = 64 from rfl, loop_end (k + 22) _ (byt_db m), rtext_0 (bT5.take _), Option.bind_some] at e
      refine e.trans ?_
      rw [ht]
      exact j3_err (e := 2) (by decide) (k + 131)
    · rw [if_neg g2, List.nil_append] at hT
      rw [beq_eq_false_iff_ne.2 g2, j1_none]
      by_cases g3 : m.kd = 4 ∨ m.kd = 5 ∨ m.kd = 7
      · rw [if_pos g3] at hT
        subst hT
        rw [ln] at hc
        rw [decide_eq_true g3]
        exact j3_short (bT3.take _) (by have := take_len (pack_bytes m.vl 2) (c - 1 - 8 - 8); omega) (k + 22 + 112 + 62)
      · rw [if_neg g3] at hT
        subst hT
        simp only [List.length_nil] at hc
        omega
  · rw [if_neg g1, if_neg (by omega), if_neg (by omega)] at hT
    subst hT
    simp only [List.append_nil, List.length_nil] at hc
    omega
end Go.Proofs.Ytadglbmghldnfaa.Pure
