/- Layer 17 (msg), plain: Decode gives what the document's Decode gives. -/
import Derived.Test.YtadglbmghldnfaaDMx0
import Derived.Test.YtadglbmghldnfaaDMx4
import Derived.Test.YtadglbmghldnfaaDMx5
import Derived.Test.YtadglbmghldnfaaDMx6
import Derived.Test.YtadglbmghldnfaaDMx7
import Derived.Test.YtadglbmghldnfaaDMx8
import Derived.Test.YtadglbmghldnfaaDMx10
import Derived.Test.YtadglbmghldnfaaDMx11
import Derived.Test.YtadglbmghldnfaaDMx12
import Derived.Test.YtadglbmghldnfaaDMx17
import Derived.Test.YtadglbmghldnfaaDMx18
import Derived.Test.YtadglbmghldnfaaDMx19
import Derived.Test.YtadglbmghldnfaaDMx20
import Derived.Test.YtadglbmghldnfaaDAid
import Derived.Test.YtadglbmghldnfaaDL17
import Derived.Test.YtadglbmghldnfaaDL17d
namespace Go.Proofs.Ytadglbmghldnfaa.Pure
open Go Go.RowKit Go.Proofs.Ytadglbmghldnfaa.M Go.Proofs.Ytadglbmghldnfaa.Aid Go.Proofs.YtadglbmghldnfaaW.PrintWords Go.Proofs.YtadglbmghldnfaaW.PrintLast Go.Proofs.YtadglbmghldnfaaW.PrintMore
set_option linter.unusedVariables false
set_option linter.unusedSimpArgs false
-- NEEDS fairleadlaw17_awake.f msg_Right.f msg_bears.f msg_Encode.f msg_Decode.f fairleadref17_Right.f fairleadref17_Decode.f fairleadref02_Take.f fairleadref02_TakeText.f fairleadref04_Of.f data_Bytes.f data_Of.f pack_Reader_Num.f pack_num
-- IMPORT L17
-- IMPORT L17d
theorem dec_same (l : List Int) (hb : Byt l) (hl : l.length ≤ 2000) (k : Nat) : msg_Decode.f (k + 200) l = some (RX l) := by
  have hz : ∀ (e : Int), RX l = Z17 e → ∀ x, x = some (0, 0, 0, 0, 0, 0, 0, 0, 0, 0, 0, 0, 0, 0, (⟨#[]⟩ : ByteArray), e) → x = some (RX l) := fun e h x hx => by rw [hx, h]; rfl
  have fin : ∀ (m : MS) (L : List Int) (k : Nat) (x : Option _), x = msg_Decode.j4 (k + 3) L 0 m.kd m.ep m.id m.ts m.vl m.d0 m.d1 m.d2 m.d3 m.d4 m.d5 m.d6 m.d7 m.d8 m.pa → ∀ need : Int, RX l = FX l need m → (L = [] ↔ ¬ need < (l.length : Int)) → x = some (RX l) := fun m L k x hx need h1 h2 => by rw [hx]; exact same_fin m k h1 h2
  have d0k : DOk 0 0 0 0 0 0 0 0 0 := by unfold DOk; omega
  rcases num_cases hb 1 (by decide) (by decide) with ⟨kd, R, v0, v1, rfl, hR, hn⟩ | hn
  · rw [p1] at v1
    rw [show ((1 : Int)).toNat = 1 from rfl] at hn hl fin hz ⊢
    have hlR : R.length ≤ 2000 := by rw [List.length_append] at hl; omega
    by_cases g1 : 1 ≤ kd ∧ kd ≤ 7
    · rw [dec_head kd hR g1.1 g1.2 (by omega)]
      rcases num_cases hR 8 (by decide) (by decide) with ⟨ep, R2, e0, e1, rfl, hR2, hn2⟩ | hn2
      · rw [p8] at e1
        have hep : U64 ep := ⟨e0, by omega⟩
        rw [show ((8 : Int)).toNat = 8 from rfl] at *
        by_cases c1 : 1 < kd
        · rcases num_cases hR2 8 (by decide) (by decide) with ⟨id, R3, i0, i1, rfl, hR3, hn3⟩ | hn3
          · rw [p8] at i1
            have hid : U64 id := ⟨i0, by omega⟩
            rw [show ((8 : Int)).toNat = 8 from rfl] at *
            rw [show k + 200 = (k + 21 + 112 + 2 + 64) + 1 by omega, j0_more hR3 hep hid c1, show k + 21 + 112 + 2 + 64 = (k + 21 + 112 + 1 + 64) + 1 by omega]
            by_cases c2 : kd = 2
            · rw [beq_iff_eq.2 c2, decide_eq_false (by omega)]
              rcases num_cases hR3 1 (by decide) (by decide) with ⟨ts, R4, t0, t1, rfl, hR4, hn4⟩ | hn4
              · rw [p1] at t1
                rw [show ((1 : Int)).toNat = 1 from rfl] at *
                rw [j1_call hR4 t0 (by omega)]
                by_cases h64 : R4.length < 64
                · refine hz 2 ?_ _ ?_
                  · (rw [one_byte (b := kd) ⟨v0, by omega⟩]; refine rx_short (by simp) g1 ?_; rw [show ∀ X, rd ([kd] ++ X) 0 = kd from fun _ => rfl]; simp only [List.length_append, pack_bytes_length, List.length_cons, List.length_nil]; (repeat' split) <;> omega)
                  rw [show k + 21 + 112 + 1 + 64 = (k + 22) + 112 + 64 by omega]
                  exact call_short hR4 h64 (k + 22)
                · obtain ⟨A, R5, hA, hAl⟩ : ∃ A R5, R4 = A ++ R5 ∧ A.length = 64 := ⟨R4.take 64, R4.drop 64, (List.take_append_drop 64 R4).symm, by rw [List.length_take]; omega⟩
                  subst hA
                  have bA : Byt A := fun x hx => hR4 x (List.mem_append_left _ hx)
                  have bR5 : Byt R5 := fun x hx => hR4 x (List.mem_append_right _ hx)
                  have e := loop_ok (x8 := false) (kd := kd) (ep := ep) (id := id) (ts := ts) (vl := 0) (pa := ⟨#[]⟩) (d0 := 0) (d1 := 0) (d2 := 0) (d3 := 0) (d4 := 0) (d5 := 0) (d6 := 0) (d7 := 0) (d8 := 0) A [] R5 0 (k + 22 + 112) (by omega) (by rw [hAl]; decide) hR4
                  rw [hAl, List.nil_append, show ((0 + 64 : Nat) : Int) = 64 from rfl, loop_end (k + 22) _ bA, rtext_0 bR5, Option.bind_some] at e
                  rw [show k + 21 + 112 + 1 + 64 = k + 22 + 112 + 64 by omega]
                  have hD : DOF A = DOFR A := by unfold DOF; rw [if_neg (by omega), if_neg (by omega)]
                  rw [hD] at e
                  rcases text_back bR5 with ht | ⟨a1, a2, a3, a4⟩
                  · refine hz (RTEXT R5).2.2 ?_ _ (e.trans ?_)
                    · subst c2
                      rw [rx_two A R5 bR5 hep hid ⟨t0, by omega⟩ hAl _ rfl hl, if_neg ht]
                      rcases (tt_rt R5).2.2.1 with h_ | h_
                      · exact absurd h_ ht
                      · rw [h_]
                    exact j3_err ht (k + 131)
                  · rw [a3, show k + 22 + 111 = (k + 129 + 3) + 1 by omega, j3_none] at e
                    have w0 := wd_in A bA 0
                    have w1 := wd_in A bA 1
                    have q1 := qd_lo A bA 1 (by omega)
                    have q2 := qd_lo A bA 2 (by omega)
                    have q3 := qd_lo A bA 3 (by omega)
                    have q4 := qd_lo A bA 4 (by omega)
                    have q5 := qd_lo A bA 5 (by omega)
                    have q6 := qd_lo A bA 6 (by omega)
                    have q7 := qd_lo A bA 7 (by omega)
                    refine fin ⟨kd, ep, id, ts, 0, (DOFR A).1, (DOFR A).2.1, (DOFR A).2.2.1, (DOFR A).2.2.2.1, (DOFR A).2.2.2.2.1, (DOFR A).2.2.2.2.2.1, (DOFR A).2.2.2.2.2.2.1, (DOFR A).2.2.2.2.2.2.2.1, (DOFR A).2.2.2.2.2.2.2.2.1, (RTEXT R5).1⟩ (RTEXT R5).2.1 (k + 129) _ e (84 + VAL (R5.take 2)) ?_ ?_
                    · subst c2
                      rw [rx_two A R5 bR5 hep hid ⟨t0, by omega⟩ hAl _ rfl hl, if_pos a3, hD]
                    · subst c2
                      obtain ⟨s1, s2, s3, s4⟩ := (tt_rt R5).2.2.2 a3
                      have b4 := (cut_two A R5 ⟨t0, by omega⟩ hAl _ rfl : _ ∧ _ ∧ _ ∧ (pack_bytes 2 1 ++ (pack_bytes ep 8 ++ (pack_bytes id 8 ++ (pack_bytes ts 1 ++ (A ++ R5))))).length = 82 + R5.length).2.2.2
                      have hv := val_2 (bR5.take 2) (by rw [List.length_take]; omega)
                      rw [s4, List.drop_eq_nil_iff, List.length_drop, b4]
                      omega
              · have hs : R3.length < 1 := by
                  refine Nat.lt_of_not_le fun h1 => ?_
                  unfold pack_Reader_Num.f at hn4
                  rw [rnum_0 hR3] at hn4
                  unfold RNUM at hn4
                  rw [if_neg (by omega), if_pos (by omega)] at hn4
                  simp at hn4
                refine hz 2 ?_ _ ?_
                · (rw [one_byte (b := kd) ⟨v0, by omega⟩]; refine rx_short (by simp) g1 ?_; rw [show ∀ X, rd ([kd] ++ X) 0 = kd from fun _ => rfl]; simp only [List.length_append, pack_bytes_length, List.length_cons, List.length_nil]; (repeat' split) <;> omega)
                rw [show k + 21 + 112 + 1 + 64 + 1 = (k + 22) + 112 + 64 + 1 by omega]
                exact j1_short hs hR3 (k + 22)
            · rw [beq_eq_false_iff_ne.2 c2, j1_none]
              by_cases c3 : kd = 4 ∨ kd = 5 ∨ kd = 7
              · rw [decide_eq_true c3]
                rcases num_cases hR3 2 (by decide) (by decide) with ⟨vl, R4, t0, t1, rfl, hR4, hn4⟩ | hn4
                · rw [p2] at t1
                  rw [show ((2 : Int)).toNat = 2 from rfl] at *
                  rw [show k + 21 + 112 + 1 + 64 = (k + 194 + 3) + 1 by omega, j3_val hR4 t0 (by omega)]
                  refine fin ⟨kd, ep, id, 0, vl, 0, 0, 0, 0, 0, 0, 0, 0, 0, ⟨#[]⟩⟩ R4 (k + 194) _ rfl 19 ?_ ?_
                  · exact rx_val R4 g1 hep hid t0 (by omega) c3 _ rfl
                  · (rw [← List.length_eq_zero_iff]; simp only [List.length_append, pack_bytes_length]; omega)
                · have hs : R3.length < 2 := by
                    refine Nat.lt_of_not_le fun h1 => ?_
                    unfold pack_Reader_Num.f at hn4
                    rw [rnum_0 hR3] at hn4
                    unfold RNUM at hn4
                    rw [if_neg (by omega), if_pos (by omega)] at hn4
                    simp at hn4
                  refine hz 2 ?_ _ ?_
                  · (rw [one_byte (b := kd) ⟨v0, by omega⟩]; refine rx_short (by simp) g1 ?_; rw [show ∀ X, rd ([kd] ++ X) 0 = kd from fun _ => rfl]; simp only [List.length_append, pack_bytes_length, List.length_cons, List.length_nil]; (repeat' split) <;> omega)
                  exact j3_short hR3 hs (k + 21 + 112 + 1 + 62)
              · rw [decide_eq_false c3, show k + 21 + 112 + 1 + 64 = (k + 194 + 3) + 1 by omega, j3_none]
                refine fin ⟨kd, ep, id, 0, 0, 0, 0, 0, 0, 0, 0, 0, 0, 0, ⟨#[]⟩⟩ R3 (k + 194) _ rfl 17 ?_ ?_
                · (rw [one_byte (b := kd) ⟨v0, by omega⟩]; unfold RX; rw [show ∀ X, rd ([kd] ++ X) 0 = kd from fun _ => rfl, if_neg (by simp), if_neg (by omega), if_neg (by rw [if_neg (by omega), if_neg c2, if_neg c3]; simp only [List.length_append, pack_bytes_length, List.length_cons, List.length_nil]; omega), if_neg (by omega), if_neg c2, if_neg c3, show ∀ X, ([kd] ++ X : List Int).drop 1 = X from fun _ => rfl, show ∀ X, ([kd] ++ X : List Int).drop 9 = X.drop 8 from fun _ => rfl, tk_pack _ hep, drop_pack, tk_pack _ hid])
                · (rw [← List.length_eq_zero_iff]; simp only [List.length_append, pack_bytes_length]; omega)
          · have hs : R2.length < 8 := by
              refine Nat.lt_of_not_le fun h1 => ?_
              unfold pack_Reader_Num.f at hn3
              rw [rnum_0 hR2] at hn3
              unfold RNUM at hn3
              rw [if_neg (by omega), if_pos (by omega)] at hn3
              simp at hn3
            refine hz 2 ?_ _ ?_
            · (rw [one_byte (b := kd) ⟨v0, by omega⟩]; refine rx_short (by simp) g1 ?_; rw [show ∀ X, rd ([kd] ++ X) 0 = kd from fun _ => rfl]; simp only [List.length_append, pack_bytes_length, List.length_cons, List.length_nil]; (repeat' split) <;> omega)
            rw [show k + 200 = (k + 22) + 112 + 64 + 2 by omega]
            exact j0_short2 hR2 hep hs c1 0 (k + 22)
        · obtain rfl : kd = 1 := by omega
          rw [show k + 200 = (k + 197 + 2) + 1 by omega, j0_one hR2 hep, show k + 197 + 2 = (k + 197 + 1) + 1 by omega, j1_none, j3_none, show k + 197 = (k + 194) + 3 by omega]
          refine fin ⟨1, ep, 0, 0, 0, 0, 0, 0, 0, 0, 0, 0, 0, 0, ⟨#[]⟩⟩ R2 (k + 194) _ rfl 9 ?_ ?_
          · (rw [one_byte (b := 1) (by decide)]; unfold RX; rw [show ∀ X, rd ([1] ++ X) 0 = 1 from fun _ => rfl, if_neg (by simp), if_neg (by decide), if_neg (by rw [if_pos rfl]; simp only [List.length_append, pack_bytes_length, List.length_cons, List.length_nil]; omega), if_pos rfl, show ∀ X, ([1] ++ X : List Int).drop 1 = X from fun _ => rfl, tk_pack R2 hep])
          · (rw [← List.length_eq_zero_iff]; simp only [List.length_append, pack_bytes_length]; omega)
      · have hs : R.length < 8 := by
          refine Nat.lt_of_not_le fun h1 => ?_
          unfold pack_Reader_Num.f at hn2
          rw [rnum_0 hR] at hn2
          unfold RNUM at hn2
          rw [if_neg (by omega), if_pos (by omega)] at hn2
          simp at hn2
        refine hz 2 ?_ _ ?_
        · (rw [one_byte (b := kd) ⟨v0, by omega⟩]; refine rx_short (by simp) g1 ?_; rw [show ∀ X, rd ([kd] ++ X) 0 = kd from fun _ => rfl]; simp only [List.length_append, pack_bytes_length, List.length_cons, List.length_nil]; (repeat' split) <;> omega)
        rw [show k + 200 = (k + 22) + 112 + 64 + 2 by omega]
        exact j0_short hR hs (k + 22)
    · refine hz 3 ?_ _ ?_
      · have x_ := rd_app1 R v0 (by omega); exact rx_kind (by omega) (by omega)
      unfold msg_Decode.f
      have e := pack_bytes_length kd 1
      rw [read_is _ (by omega), Option.bind_some]
      simp only
      rw [hn, Option.bind_some, w64_id2 (by omega) (by omega), if_pos (by rw [List.length_append]; omega)]
      by_cases g2 : kd < 1
      · rw [if_pos g2, msg_Decode.j0, if_pos rfl]
      · rw [if_neg g2, decide_eq_true (by omega), msg_Decode.j0, if_pos rfl]
  · have hs : l.length < 1 := by
      refine Nat.lt_of_not_le fun h1 => ?_
      unfold pack_Reader_Num.f at hn
      rw [rnum_0 hb] at hn
      unfold RNUM at hn
      rw [if_neg (by omega), if_pos (by omega)] at hn
      simp at hn
    refine hz 2 ?_ _ ?_
    · unfold RX; rw [if_pos (by omega)]
    unfold msg_Decode.f
    rw [read_is _ (by omega), Option.bind_some]
    simp only
    rw [hn, Option.bind_some, if_neg (by omega), show k + 200 = (k + 22) + 112 + 64 + 2 by omega]
    exact j0_err (e := 2) (by decide) (k + 22)
end Go.Proofs.Ytadglbmghldnfaa.Pure
