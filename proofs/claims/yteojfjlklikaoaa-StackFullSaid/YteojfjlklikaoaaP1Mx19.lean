-- Laid by a program (wip/tools/myprint.py) out of the loaded program's own print: for each Go function a Lean function and the proof of its contract.
import Derived.Test.YteojfjlklikaoaaP1Mx0
import Derived.Test.YteojfjlklikaoaaP1Mx3
import Derived.Test.YteojfjlklikaoaaP1Mx6
namespace Go.Proofs.Yteojfjlklikaoaa.M
open Go.RowKit Go.Proofs.YteojfjlklikaoaaW.PrintWords Go.Proofs.YteojfjlklikaoaaW.PrintLast Go.Proofs.YteojfjlklikaoaaW.PrintMore
attribute [local go_sem] max2_int min2_int max_two min_two max_three min_three max_four min_four   -- for this text's walks alone
set_option linter.unusedVariables false
set_option linter.unusedSimpArgs false
-- HAND rounds=True making=True
/-- What StackFull asks of the functions below. -/
def fairleadlaw15_StackFull.P (k : Nat) (a0 : Int) : Prop := fairleadlaw15_awake.P k ∧ (1 ≤ a0 → a0 ≤ 4096 → ∃ p, check_Check.f k (List.replicate a0.toNat w15a) = some (0, p))
structure FullK (w w' : World) (g : Nat) (v : Value) (l : List S53) (n : Nat) (co : Int) : Prop where
  below : Below w.heap.size w w'
  gr : g < w'.heap.size
  ge : w.heap.size ≤ g
  row : Kd.R k53 53 w' 0 (fun k => k ≠ g) v l
  sk : SkS (fun k => w.heap.size ≤ k ∧ k ≠ g) w' g (List.replicate n l) co
set_option maxHeartbeats 8000000 in
set_option maxRecDepth 100000 in
theorem fairleadlaw15_StackFull.calls (k : Nat) (a0 : Int) (r : Bool) (w : World) (h : fairleadlaw15_StackFull.P k a0 ∧ r = true) :
    Calls Try.prog 6 #[.int .i64 a0] w fun e w' => e = .returned (.bool r) ∧ Below w.heap.size w w' := by
  obtain ⟨⟨ha, hp⟩, rfl⟩ := h
  have HA := Aside0.mk ha
  clear ha
  by_cases hs : a0 < 1 ∨ 4096 < a0
  · clear hp
    rcases hs with hs | hs
    · have b1 : decide (a0 < 1) = true := decide_eq_true hs
      clear hs
      go_enter Try.func6, Try.ntmps6
      go_wp2_with (first | (go_at_call 8; (refine (fairleadlaw15_awake.sk k _ HA.out).mono ?_); rintro e w2 ⟨rfl, hb⟩; have W2 := Aside0.mk hb; clear hb))
      go_ret
      exact ⟨rfl, W2.out⟩
    · have b1 : decide (a0 < 1) = false := decide_eq_false (by omega)
      have b2 : decide (4096 < a0) = true := decide_eq_true hs
      clear hs
      go_enter Try.func6, Try.ntmps6
      go_wp2_with (first | (go_at_call 8; (refine (fairleadlaw15_awake.sk k _ HA.out).mono ?_); rintro e w2 ⟨rfl, hb⟩; have W2 := Aside0.mk hb; clear hb))
      go_ret
      exact ⟨rfl, W2.out⟩
  · have s0 : 1 ≤ a0 := by omega
    have s1 : a0 ≤ 4096 := by omega
    obtain ⟨p, hp⟩ := hp s0 s1
    have HP := Aside0.mk hp
    have b1 : decide (a0 < 1) = false := decide_eq_false (by omega)
    have b2 : decide (4096 < a0) = false := decide_eq_false (by omega)
    clear hp hs
    go_enter Try.func6, Try.ntmps6
    go_wp2_with (first | (go_at_call 8; (refine (fairleadlaw15_awake.sk k _ HA.out).mono ?_); rintro e w2 ⟨rfl, hb⟩; have W2 := Aside0.mk hb; clear hb))
    go_loopg [4, 5] 4200 (fun kq v4 v5 w' => ∃ (i : Int) (j : Nat), v5 = .int .i64 i ∧ Aside0 (i = (j : Int)) ∧ Aside0 (i ≤ a0) ∧ Aside0 (a0 - i < kq) ∧ Aside0 (Below w.heap.size w w') ∧ Aside0 (Kd.R k53 53 w' 0 (fun k => w.heap.size ≤ k) v4 (List.replicate j w15a)))
    case atStart => exact ⟨0, 0, rfl, ⟨rfl⟩, ⟨by omega⟩, ⟨by omega⟩, W2, ⟨Kd.R_nil _ _ _ _ _⟩⟩
    case round =>
      clear W2
      obtain ⟨i, j, rfl, hi, hj, hk2, hB, hR⟩ := hrel
      obtain ⟨k2, rfl⟩ : ∃ k2, gk = k2 + 1 := ⟨gk - 1, by have := hk2.out; have := hj.out; omega⟩
      by_cases hlt : i < a0
      · have c1 : decide (i < a0) = true := decide_eq_true hlt
        have p1 : 0 ≤ i := by have := hi.out; omega
        go_wp2_with (first | ((with_reducible refine gate_builtin (b := .append) (xs := #[.tmp 24, .tmp 26]) rfl ?_); at_builtin; refine Kd.R_append k53 (w0 := wr) 0 rfl (.tmp 24) (.tmp 26) 38 53 (.agg #[.int .u16 0, .int .u8 0, .int .u8 0, .int .u32 0]) 8 rfl Try.underlying38 sk_info53 rfl (by decide) (by decide) u4 (List.replicate j w15a) w15a [.int .u16 6, .int .u8 0, .int .u8 0, .int .u32 2147418112] (fun k => w.heap.size ≤ k) (fun _ => False) rfl rfl (k53_mkM _ _ _ _) (fun _ h => h.elim) (fun k h => Nat.le_trans hB.out.size h) hR.out (Below.refl _ _) (Nat.zero_le _) (by rw [List.length_replicate]; have := hi.out; omega) ?_; intro v9 w9 hR9 _ hg9 _; have HR9 := Aside0.mk hR9; have HG9 := Aside0.mk hg9; clear hR9 hg9))
        go_roundg k2
        case measure => omega
        case rel => exact ⟨i + 1, j + 1, by first | rfl | (rw [show wrap64 (i + 1) = i + 1 by (unfold wrap64; omega)]), ⟨by have := hi.out; omega⟩, ⟨by omega⟩, ⟨by have := hk2.out; omega⟩, ⟨hB.out.trans ((Mine.But.of_grown (S := fun k => some k = u4.ownBlock) HG9.out (fun k e _ => e.symm)).below (B := w.heap.size) (fun k hk e => by have := hR.out.1 k e.symm; omega) hB.out.size)⟩, ⟨by rw [List.replicate_succ']; exact HR9.out⟩⟩
      · have c1 : decide (i < a0) = false := decide_eq_false hlt
        obtain ⟨l, hl⟩ : ∃ l, l = List.replicate j w15a := ⟨_, rfl⟩
        have hja : (j : Int) = a0 := by have := hi.out; have := hj.out; omega
        have hll : (l.length : Int) = a0 := by rw [hl, List.length_replicate]; exact hja
        have HP' := Aside0.mk (show check_Check.f k l = some (0, p) by rw [hl, show j = a0.toNat by omega]; exact HP.out)
        have hRl := hR.out
        rw [← hl] at hRl
        obtain ⟨A4, c4, e4⟩ := Kd.R_slice hRl
        subst e4
        have HRl := Aside0.mk hRl
        have HLl := Aside0.mk hll
        clear hl hRl hja hll HP hR
        go_wp2_with (first | ((with_reducible refine gate_dst (N := 29) rfl ?_); refine box_event ?hg (N := 29) ?hd (cs := #[.slice none 0 0, .int .i64 0]) (t := 32) ?hr ?_; (case hd => rfl); (case hg => rfl); (case hr => first | (go_simp; done) | (go_simp; rfl)); intro g hg w4 hbox hb; have HK := Aside0.mk (show FullK w w4 g (.slice A4 l.length c4) l 0 0 from ⟨below_step hB.out hb, blk_lt hbox, by rw [hg]; exact hB.out.size, Kd.R_below (Mine.R_more HRl.out (fun k hk _ => by rw [hg]; omega)) hb, ⟨⟨_, hbox, Kd.R_nil _ _ _ _ _⟩, fun h => h.2 rfl⟩⟩); clear hg hbox hb))
        go_loopg [7, 8] 41 (fun kq v7 v8 w' => ∃ (n m co : Int) (N : Nat), v7 = .int .i64 n ∧ v8 = .int .i64 m ∧ Aside0 (n = (N : Int)) ∧ Aside0 (0 ≤ m ∧ m ≤ 40) ∧ Aside0 (40 - m < kq) ∧ Aside0 (co = n * (a0 + 4)) ∧ Aside0 (0 ≤ co ∧ co ≤ 32768) ∧ Aside0 (N ≤ 32) ∧ Aside0 (FullK w w' g (.slice A4 l.length c4) l N co))
        case atStart => exact ⟨0, 0, 0, 0, rfl, rfl, ⟨rfl⟩, ⟨by omega⟩, ⟨by omega⟩, ⟨by simp⟩, ⟨by omega⟩, ⟨by omega⟩, HK⟩
        case round =>
          clear HK hB
          obtain ⟨n, m, co, N, rfl, rfl, hn, hm, hk3, hco, hco2, hN, hK⟩ := hrel
          obtain ⟨k3, rfl⟩ : ∃ k3, gk = k3 + 1 := ⟨gk - 1, by have := hk3.out; have := hm.out; omega⟩
          have n0 : 0 ≤ n := by have := hn.out; omega
          have n1 : n ≤ 32 := by have := hn.out; have := hN.out; omega
          have k0 : 0 ≤ co := hco2.out.1
          have k1 : co ≤ 32768 := hco2.out.2
          have hq : (n + 1) * (a0 + 4) = co + a0 + 4 := by rw [hco.out, Int.add_mul]; omega
          have z1 : IntKind.i64.wrap ((n + 1) * (a0 + 4)) = co + a0 + 4 := by rw [hq, i64_w]; unfold wrap64; omega
          have z2 : wrap64 ((n + 1) * (a0 + 4)) = co + a0 + 4 := by rw [hq]; unfold wrap64; omega
          have z3 : IntKind.i64.wrap (n * (a0 + 4)) = co := by rw [← hco.out, i64_w]; unfold wrap64; omega
          have z4 : wrap64 (n * (a0 + 4)) = co := by rw [← hco.out]; unfold wrap64; omega
          have HQ := Aside0.mk hq
          clear hq
          by_cases hlt2 : m < 40
          · have d1 : decide (m < 40) = true := decide_eq_true hlt2
            have m0 : 0 ≤ m := hm.out.1
            obtain ⟨A', c', eA, hlc, hC⟩ := Kd.R_reads hK.out.row
            have hA' : A' = A4 ∧ c' = c4 := by injection eA with e1 e2 e3; exact ⟨e1.symm, e3.symm⟩
            obtain ⟨rfl, rfl⟩ := hA'
            have HCl := Aside0.mk hC
            have HLc := Aside0.mk hlc
            have hl4 : l.length ≤ 4096 := by have := HLl.out; omega
            clear eA hlc hC
            by_cases hroom : n < 32 ∧ co + a0 + 4 ≤ 32768
            · have d2 : decide (n < 32) = true := decide_eq_true hroom.1
              have d3 : decide (co + a0 + 4 ≤ 32768) = true := decide_eq_true hroom.2
              have HRm := Aside0.mk hroom
              clear hroom
              go_wp2_with (first | (go_at_call 10; (refine (stack_Attach_ok k A' c' l g (List.replicate N l) co p _ _ HCl.out HLc.out hK.out.sk HP'.out hl4 (by rw [List.length_replicate]; have := hn.out; have := HRm.out; omega) k0 k1 (by have := HLl.out; have := HRm.out; omega)).mono ?_); rintro e w7 ⟨rfl, hb7, hs7⟩; have HB7 := Aside0.mk hb7; have HS7 := Aside0.mk hs7; clear hb7 hs7))
              go_roundg k3
              case measure => have := hk3.out; omega
              case rel =>
                refine ⟨n + 1, m + 1, co + a0 + 4, N + 1, by first | rfl | (rw [show wrap64 (n + 1) = n + 1 by (unfold wrap64; omega)]), by first | rfl | (rw [show wrap64 (m + 1) = m + 1 by (unfold wrap64; omega)]), ⟨by have := hn.out; omega⟩, ⟨by omega⟩, ⟨by have := hk3.out; omega⟩, ⟨HQ.out.symm⟩, ⟨by have := HRm.out; omega⟩, ⟨by have := HRm.out; have := hn.out; omega⟩, ⟨?_⟩⟩
                have hs := HS7.out
                rw [HLl.out] at hs
                refine ⟨hK.out.below.trans (HB7.out.below (B := w.heap.size) (fun k hk e => by have := hK.out.ge; omega) hK.out.below.size), Nat.lt_of_lt_of_le hK.out.gr HB7.out.size, hK.out.ge, Mine.R_but hK.out.row HB7.out (fun k _ h e => h e), ?_⟩
                rw [List.replicate_succ']
                exact hs.more (fun k hk h => h.elim (fun h => h) (fun h => ⟨Nat.le_trans hK.out.below.size h, by have := hK.out.gr; omega⟩)) (fun h => h.2 rfl)
            · have hfull : 32 ≤ (List.replicate N l).length ∨ 32768 < co + (l.length : Int) + 4 := by rw [List.length_replicate]; have := hn.out; have := HLl.out; omega
              have HFl := Aside0.mk hfull
              by_cases h32 : n < 32
              · have d2 : decide (n < 32) = true := decide_eq_true h32
                have d3 : decide (co + a0 + 4 ≤ 32768) = false := decide_eq_false (by omega)
                clear hfull hroom h32
                go_wp2_with (first | (go_at_call 10; (refine (stack_Attach_full k A' c' l g (List.replicate N l) co p _ _ HCl.out HLc.out hK.out.sk HP'.out hl4 (by rw [List.length_replicate]; exact hN.out) k0 k1 HFl.out).mono ?_); rintro e w7 ⟨rfl, hb7⟩; have HB7 := Aside0.mk hb7; clear hb7))
                go_roundg k3
                case measure => have := hk3.out; omega
                case rel => exact ⟨n, m + 1, co, N, rfl, by first | rfl | (rw [show wrap64 (m + 1) = m + 1 by (unfold wrap64; omega)]), hn, ⟨by omega⟩, ⟨by have := hk3.out; omega⟩, hco, hco2, hN, ⟨⟨below_step hK.out.below HB7.out, Nat.lt_of_lt_of_le hK.out.gr HB7.out.size, hK.out.ge, Kd.R_below hK.out.row HB7.out, hK.out.sk.below HB7.out⟩⟩⟩
              · have d2 : decide (n < 32) = false := decide_eq_false h32
                clear hfull hroom h32
                go_wp2_with (first | (go_at_call 10; (refine (stack_Attach_full k A' c' l g (List.replicate N l) co p _ _ HCl.out HLc.out hK.out.sk HP'.out hl4 (by rw [List.length_replicate]; exact hN.out) k0 k1 HFl.out).mono ?_); rintro e w7 ⟨rfl, hb7⟩; have HB7 := Aside0.mk hb7; clear hb7))
                go_roundg k3
                case measure => have := hk3.out; omega
                case rel => exact ⟨n, m + 1, co, N, rfl, by first | rfl | (rw [show wrap64 (m + 1) = m + 1 by (unfold wrap64; omega)]), hn, ⟨by omega⟩, ⟨by have := hk3.out; omega⟩, hco, hco2, hN, ⟨⟨below_step hK.out.below HB7.out, Nat.lt_of_lt_of_le hK.out.gr HB7.out.size, hK.out.ge, Kd.R_below hK.out.row HB7.out, hK.out.sk.below HB7.out⟩⟩⟩
          · have d1 : decide (m < 40) = false := decide_eq_false hlt2
            have hlen : ((List.replicate N l).length : Int) = n := by rw [List.length_replicate]; exact hn.out.symm
            have HLen := Aside0.mk hlen
            have q1 : (n == n) = true := by simp
            have q2 : (co == co) = true := by simp
            clear hlen
            go_wp2_with (first | (go_at_call 12; (refine (stack_Stack_Len.sk g _ _ _ _ hK.out.sk).mono ?_); rintro e w11 ⟨he, rfl⟩; rw [HLen.out] at he; subst he) | (go_at_call 13; (refine (stack_Stack_Cost.sk g _ _ _ _ hK.out.sk).mono ?_); rintro e w11 ⟨rfl, rfl⟩))
            go_ret
            exact ⟨rfl, hK.out.below⟩
/-- What is to be shown of fairleadlaw15_StackFull, without Go and memory. -/
def fairleadlaw15_StackFull.Pure : Prop := ∀ (a0 : Int), ((-9223372036854775808) ≤ a0 ∧ a0 ≤ 9223372036854775807) → ∃ k, fairleadlaw15_StackFull.P k a0 ∧ true = true
end Go.Proofs.Yteojfjlklikaoaa.M
