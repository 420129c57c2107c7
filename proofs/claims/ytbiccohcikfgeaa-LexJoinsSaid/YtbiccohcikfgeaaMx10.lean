-- Laid by a program (wip/tools/myprint.py) out of the loaded program's own print: for each Go function a Lean function and the proof of its contract.
import Derived.Test.YtbiccohcikfgeaaMx0
import Derived.Test.YtbiccohcikfgeaaMx4
namespace Go.Proofs.Ytbiccohcikfgeaa.M
open Go.RowKit Go.Proofs.YtbiccohcikfgeaaW.PrintWords Go.Proofs.YtbiccohcikfgeaaW.PrintLast Go.Proofs.YtbiccohcikfgeaaW.PrintMore
attribute [local go_sem] max2_int min2_int max_two min_two max_three min_three max_four min_four   -- for this text's walks alone
set_option linter.unusedVariables false
set_option linter.unusedSimpArgs false

/-! ### fairleadlaw09_LexJoins: function 6 -/
mutual
def fairleadlaw09_LexJoins.l0 : Nat → Bool → Bool → List (S31) → ByteArray → Int → Option (Bool)
  | 0, _, _, _, _, _ => none
  | k + 1, x1, x5, x6, x9, x10 => if x10 < (x6.length : Int) then (if 0 ≤ x10 then (if x9.size + ((rd_T31 x6 x10).f2).size ≤ 9223372036854775807 then (if x1 = true then (if (x9 ++ ((rd_T31 x6 x10).f2)).size + 3 ≤ 9223372036854775807 then (fairleadlaw09_LexJoins.l0 k x1 x5 x6 ((x9 ++ ((rd_T31 x6 x10).f2)) ++ (⟨#[35, 59, 10]⟩ : ByteArray)) (wrap64 (x10 + 1))) else (none)) else (if (x9 ++ ((rd_T31 x6 x10).f2)).size + 1 ≤ 9223372036854775807 then (fairleadlaw09_LexJoins.l0 k x1 x5 x6 ((x9 ++ ((rd_T31 x6 x10).f2)) ++ (⟨#[9]⟩ : ByteArray)) (wrap64 (x10 + 1))) else (none))) else (none)) else (none)) else ((lex_All.f k x9).bind fun bt202 => (if bt202.2.1 = 0 then (fairleadlaw09_LexJoins.j1 k x5 x6 bt202.1 ((bt202.1.length : Int) != (x6.length : Int))) else (fairleadlaw09_LexJoins.j1 k x5 x6 bt202.1 true)))
def fairleadlaw09_LexJoins.j1 : Nat → Bool → List (S31) → List (S31) → Bool → Option (Bool)
  | 0, _, _, _, _ => none
  | k + 1, x5, x6, x11, x61 => if x61 = true then (some false) else (fairleadlaw09_LexJoins.l1 k x5 x6 x11 0)
def fairleadlaw09_LexJoins.l1 : Nat → Bool → List (S31) → List (S31) → Int → Option (Bool)
  | 0, _, _, _, _ => none
  | k + 1, x5, x6, x11, x14 => if x14 < (x6.length : Int) then (if 0 ≤ x14 then (if x14 < (x11.length : Int) then (if ((rd_T31 x11 x14).f0) = ((rd_T31 x6 x14).f0) then (if ((rd_T31 x11 x14).f2).toList = ((rd_T31 x6 x14).f2).toList then (if ((rd_T31 x11 x14).f3) = ((rd_T31 x6 x14).f3) then (fairleadlaw09_LexJoins.l1 k x5 x6 x11 (wrap64 (x14 + 1))) else (some false)) else (some false)) else (some false)) else (none)) else (none)) else (some x5)
end
def fairleadlaw09_LexJoins.f (k : Nat) (a0 : ByteArray) (a1 : Bool) : Option (Bool) := (fairleadlaw09_awake.f k).bind fun t195 => (if (a0.size : Int) > 2000 then (some t195) else ((lex_All.f k a0).bind fun bt196 => (if bt196.2.1 = 0 then (fairleadlaw09_LexJoins.l0 k a1 t195 bt196.1 (⟨#[32]⟩ : ByteArray) 0) else (some t195))))
theorem fairleadlaw09_LexJoins.mono_l : ∀ k, (∀ y0 y1 y2 y3 y4, LeO (fairleadlaw09_LexJoins.l0 k y0 y1 y2 y3 y4) (fairleadlaw09_LexJoins.l0 (k + 1) y0 y1 y2 y3 y4)) ∧ (∀ y0 y1 y2 y3, LeO (fairleadlaw09_LexJoins.j1 k y0 y1 y2 y3) (fairleadlaw09_LexJoins.j1 (k + 1) y0 y1 y2 y3)) ∧ (∀ y0 y1 y2 y3, LeO (fairleadlaw09_LexJoins.l1 k y0 y1 y2 y3) (fairleadlaw09_LexJoins.l1 (k + 1) y0 y1 y2 y3))
  | 0 => ⟨fun _ _ _ _ _ r h => by simp [fairleadlaw09_LexJoins.l0] at h, fun _ _ _ _ r h => by simp [fairleadlaw09_LexJoins.j1] at h, fun _ _ _ _ r h => by simp [fairleadlaw09_LexJoins.l1] at h⟩
  | k + 1 => by
    obtain ⟨ih0, ih1, ih2⟩ := fairleadlaw09_LexJoins.mono_l k
    refine ⟨?_, ?_, ?_⟩
    · intro y0 y1 y2 y3 y4
      unfold fairleadlaw09_LexJoins.l0
      repeat' first
      | (with_reducible exact ih0 _ _ _ _ _)
      | (with_reducible exact ih1 _ _ _ _)
      | (with_reducible exact ih2 _ _ _ _)
      | (with_reducible exact fairleadlaw09_awake.mono _)
      | (with_reducible exact lex_All.mono _ _)
      | (with_reducible exact LeO.refl _)
      | (with_reducible exact LeO.none _)
      | (with_reducible refine LeO.ite ?_ ?_)
      | (with_reducible refine LeO.bind ?_ (fun _ => ?_))
      | exact ih0 _ _ _ _ _
      | exact ih1 _ _ _ _
      | exact ih2 _ _ _ _
      | exact fairleadlaw09_awake.mono _
      | exact lex_All.mono _ _
      | exact LeO.none _
      | refine LeO.ite ?_ ?_
      | refine LeO.bind ?_ (fun _ => ?_)
    · intro y0 y1 y2 y3
      unfold fairleadlaw09_LexJoins.j1
      repeat' first
      | (with_reducible exact ih0 _ _ _ _ _)
      | (with_reducible exact ih1 _ _ _ _)
      | (with_reducible exact ih2 _ _ _ _)
      | (with_reducible exact fairleadlaw09_awake.mono _)
      | (with_reducible exact lex_All.mono _ _)
      | (with_reducible exact LeO.refl _)
      | (with_reducible exact LeO.none _)
      | (with_reducible refine LeO.ite ?_ ?_)
      | (with_reducible refine LeO.bind ?_ (fun _ => ?_))
      | exact ih0 _ _ _ _ _
      | exact ih1 _ _ _ _
      | exact ih2 _ _ _ _
      | exact fairleadlaw09_awake.mono _
      | exact lex_All.mono _ _
      | exact LeO.none _
      | refine LeO.ite ?_ ?_
      | refine LeO.bind ?_ (fun _ => ?_)
    · intro y0 y1 y2 y3
      unfold fairleadlaw09_LexJoins.l1
      repeat' first
      | (with_reducible exact ih0 _ _ _ _ _)
      | (with_reducible exact ih1 _ _ _ _)
      | (with_reducible exact ih2 _ _ _ _)
      | (with_reducible exact fairleadlaw09_awake.mono _)
      | (with_reducible exact lex_All.mono _ _)
      | (with_reducible exact LeO.refl _)
      | (with_reducible exact LeO.none _)
      | (with_reducible refine LeO.ite ?_ ?_)
      | (with_reducible refine LeO.bind ?_ (fun _ => ?_))
      | exact ih0 _ _ _ _ _
      | exact ih1 _ _ _ _
      | exact ih2 _ _ _ _
      | exact fairleadlaw09_awake.mono _
      | exact lex_All.mono _ _
      | exact LeO.none _
      | refine LeO.ite ?_ ?_
      | refine LeO.bind ?_ (fun _ => ?_)
theorem fairleadlaw09_LexJoins.mono : ∀ a0 a1 k, LeO (fairleadlaw09_LexJoins.f k a0 a1) (fairleadlaw09_LexJoins.f (k + 1) a0 a1) := by
  intro a0 a1 k
  obtain ⟨ih0, ih1, ih2⟩ := fairleadlaw09_LexJoins.mono_l k
  unfold fairleadlaw09_LexJoins.f
  repeat' first
      | (with_reducible exact ih0 _ _ _ _ _)
      | (with_reducible exact ih1 _ _ _ _)
      | (with_reducible exact ih2 _ _ _ _)
      | (with_reducible exact fairleadlaw09_awake.mono _)
      | (with_reducible exact lex_All.mono _ _)
      | (with_reducible exact LeO.refl _)
      | (with_reducible exact LeO.none _)
      | (with_reducible refine LeO.ite ?_ ?_)
      | (with_reducible refine LeO.bind ?_ (fun _ => ?_))
      | exact ih0 _ _ _ _ _
      | exact ih1 _ _ _ _
      | exact ih2 _ _ _ _
      | exact fairleadlaw09_awake.mono _
      | exact lex_All.mono _ _
      | exact LeO.none _
      | refine LeO.ite ?_ ?_
      | refine LeO.bind ?_ (fun _ => ?_)
set_option maxHeartbeats 8000000 in
set_option maxRecDepth 100000 in
theorem fairleadlaw09_LexJoins.calls (k : Nat) (a0 : ByteArray) (a1 : Bool) (r : Bool) (w : World) (h : fairleadlaw09_LexJoins.f k a0 a1 = some r) :
    Calls Try.prog 6 #[.string a0, .bool a1] w fun e w' => e = .returned (.bool r) ∧ Below w.heap.size w w' := by
  have HB := Aside0.mk (Below.refl w.heap.size w)
  have H : ((fairleadlaw09_awake.f k).bind fun t195 => (if (a0.size : Int) > 2000 then (some t195) else ((lex_All.f k a0).bind fun bt196 => (if bt196.2.1 = 0 then (fairleadlaw09_LexJoins.l0 k a1 t195 bt196.1 (⟨#[32]⟩ : ByteArray) 0) else (some t195))))) = some r := h
  clear h
  replace H := Option.bind_eq_some_iff.mp H
  obtain ⟨t195, A30, H⟩ := H
  replace H : (if (a0.size : Int) > 2000 then (some t195) else ((lex_All.f k a0).bind fun bt196 => (if bt196.2.1 = 0 then (fairleadlaw09_LexJoins.l0 k a1 t195 bt196.1 (⟨#[32]⟩ : ByteArray) 0) else (some t195)))) = some r := H
  have A3 := Aside0.mk A30
  clear A30
  by_cases c4 : (a0.size : Int) > 2000
  · rw [if_pos c4] at H
    have c4b0 : decide (2000 < (a0.size : Int)) = true := decide_eq_true c4
    have c4b1 : decide (2000 < a0.size) = true := decide_eq_true (by omega)
    clear c4
    obtain rfl := Option.some.inj H
    go_enter Try.func6, Try.ntmps6
    go_wp2_with (first | (go_at_call 9; (with_reducible refine (fairleadlaw09_awake.calls k  t195 _ A3.out).mono ?_); rintro e w5 ⟨rfl, hb⟩; have n0_ := Aside0.mk (below_step (by repeat (first | (with_reducible first | exact HB.out | apply below_alloc | apply pw_below_drewN | apply below_drew1) | exact HB.out)) hb); clear HB; have HB := n0_; clear n0_; (try clear hb); (try clear hb2); (try clear hk); (try clear hi)))
    repeat (go_quiet (first | (go_at_call 9; (with_reducible refine (fairleadlaw09_awake.calls k  t195 _ A3.out).mono ?_); rintro e w5 ⟨rfl, hb⟩; have n0_ := Aside0.mk (below_step (by repeat (first | (with_reducible first | exact HB.out | apply below_alloc | apply pw_below_drewN | apply below_drew1) | exact HB.out)) hb); clear HB; have HB := n0_; clear n0_; (try clear hb); (try clear hb2); (try clear hk); (try clear hi))); try go_wp2_with (first | (go_at_call 9; (with_reducible refine (fairleadlaw09_awake.calls k  t195 _ A3.out).mono ?_); rintro e w5 ⟨rfl, hb⟩; have n0_ := Aside0.mk (below_step (by repeat (first | (with_reducible first | exact HB.out | apply below_alloc | apply pw_below_drewN | apply below_drew1) | exact HB.out)) hb); clear HB; have HB := n0_; clear n0_; (try clear hb); (try clear hb2); (try clear hk); (try clear hi))))
    go_ret
    exact ⟨by first | rfl | (simp [errW_none, errW_some] <;> rfl) | (simp [*, errW_none, errW_some] <;> rfl), by repeat (first | (with_reducible first | exact HB.out | apply below_alloc | apply pw_below_drewN | apply below_drew1) | exact HB.out)⟩
  · rw [if_neg c4] at H
    have c4b0 : decide (2000 < (a0.size : Int)) = false := decide_eq_false c4
    have c4b1 : decide (2000 < a0.size) = false := decide_eq_false (by omega)
    clear c4
    replace H := Option.bind_eq_some_iff.mp H
    obtain ⟨⟨t196, t197, t198⟩, A60, H⟩ := H
    replace H : (if t197 = 0 then (fairleadlaw09_LexJoins.l0 k a1 t195 t196 (⟨#[32]⟩ : ByteArray) 0) else (some t195)) = some r := H
    have A6 := Aside0.mk A60
    clear A60
    by_cases c7 : t197 = 0
    · rw [if_pos c7] at H
      have c7b0 : (t197 == 0) = true := beq_iff_eq.mpr c7
      have c7b1 : (t197 != 0) = false := bne_eq_false_iff_eq.mpr c7
      clear c7
      have H' := Aside0.mk H
      clear H
      go_enter Try.func6, Try.ntmps6
      go_wp2_with (first | (go_at_call 9; (with_reducible refine (fairleadlaw09_awake.calls k  t195 _ A3.out).mono ?_); rintro e w8 ⟨rfl, hb⟩; have n0_ := Aside0.mk (below_step (by repeat (first | (with_reducible first | exact HB.out | apply below_alloc | apply pw_below_drewN | apply below_drew1) | exact HB.out)) hb); clear HB; have HB := n0_; clear n0_; (try clear hb); (try clear hb2); (try clear hk); (try clear hi)) | (go_at_call 10; (with_reducible refine (lex_All.calls k a0 t196 t197 t198 _ A6.out).mono ?_); rintro e w9 ⟨v199, rfl, ho0, hb⟩; have n0_ := Aside0.mk (Kd.R_lower ho0 (below_size (by repeat (first | (with_reducible first | exact HB.out | apply below_alloc | apply pw_below_drewN | apply below_drew1) | exact HB.out)))); have n1_ := Aside0.mk (below_step (by repeat (first | (with_reducible first | exact HB.out | apply below_alloc | apply pw_below_drewN | apply below_drew1) | exact HB.out)) hb); clear HB; have HO200 := n0_; have HB := n1_; clear n0_ n1_; (try clear hb); (try clear hb2); (try clear hk); (try clear hi); (try clear ho0)))
      repeat (go_quiet (first | (go_at_call 9; (with_reducible refine (fairleadlaw09_awake.calls k  t195 _ A3.out).mono ?_); rintro e w8 ⟨rfl, hb⟩; have n0_ := Aside0.mk (below_step (by repeat (first | (with_reducible first | exact HB.out | apply below_alloc | apply pw_below_drewN | apply below_drew1) | exact HB.out)) hb); clear HB; have HB := n0_; clear n0_; (try clear hb); (try clear hb2); (try clear hk); (try clear hi)) | (go_at_call 10; (with_reducible refine (lex_All.calls k a0 t196 t197 t198 _ A6.out).mono ?_); rintro e w9 ⟨v199, rfl, ho0, hb⟩; have n0_ := Aside0.mk (Kd.R_lower ho0 (below_size (by repeat (first | (with_reducible first | exact HB.out | apply below_alloc | apply pw_below_drewN | apply below_drew1) | exact HB.out)))); have n1_ := Aside0.mk (below_step (by repeat (first | (with_reducible first | exact HB.out | apply below_alloc | apply pw_below_drewN | apply below_drew1) | exact HB.out)) hb); clear HB; have HO200 := n0_; have HB := n1_; clear n0_ n1_; (try clear hb); (try clear hb2); (try clear hk); (try clear hi); (try clear ho0))); try go_wp2_with (first | (go_at_call 9; (with_reducible refine (fairleadlaw09_awake.calls k  t195 _ A3.out).mono ?_); rintro e w8 ⟨rfl, hb⟩; have n0_ := Aside0.mk (below_step (by repeat (first | (with_reducible first | exact HB.out | apply below_alloc | apply pw_below_drewN | apply below_drew1) | exact HB.out)) hb); clear HB; have HB := n0_; clear n0_; (try clear hb); (try clear hb2); (try clear hk); (try clear hi)) | (go_at_call 10; (with_reducible refine (lex_All.calls k a0 t196 t197 t198 _ A6.out).mono ?_); rintro e w9 ⟨v199, rfl, ho0, hb⟩; have n0_ := Aside0.mk (Kd.R_lower ho0 (below_size (by repeat (first | (with_reducible first | exact HB.out | apply below_alloc | apply pw_below_drewN | apply below_drew1) | exact HB.out)))); have n1_ := Aside0.mk (below_step (by repeat (first | (with_reducible first | exact HB.out | apply below_alloc | apply pw_below_drewN | apply below_drew1) | exact HB.out)) hb); clear HB; have HO200 := n0_; have HB := n1_; clear n0_ n1_; (try clear hb); (try clear hb2); (try clear hk); (try clear hi); (try clear ho0))))
      go_loopg [9, 10] k (fun kq v9 v10 w' => ∃ (x9_1 : ByteArray) (x10_1 : Int), v9 = .string x9_1 ∧ v10 = .int .i64 x10_1 ∧ Aside0 (fairleadlaw09_LexJoins.l0 kq a1 t195 t196 x9_1 x10_1 = some r) ∧ Aside0 (kq ≤ k) ∧ Aside0 (Kd.R k31 31 w' w.heap.size (fun _ => True) v199 t196) ∧ Aside0 (Below w.heap.size w w'))
      case atStart => exact ⟨((⟨#[32]⟩ : ByteArray)), (0), (by first | rfl | (simp; done) | (simp [*]; done)), (by first | rfl | (simp; done) | (simp [*]; done)), H', ⟨Nat.le_refl _⟩, ⟨by (with_reducible repeat (first | apply Kd.R_alloc | apply Kd.R_drewN | apply Kd.R_drew)); exact HO200.out⟩, ⟨by repeat (first | (with_reducible first | exact HB.out | apply below_alloc | apply pw_below_drewN | apply below_drew1) | exact HB.out)⟩⟩
      case round =>
        clear H'
        try clear p2
        try clear c4
        try clear c4b0
        try clear c4b1
        try clear c6
        try clear c7
        try clear c7b0
        try clear c7b1
        obtain ⟨x9_1, x10_1, rfl, rfl, HA, HK1, HO_6, HB⟩ := hrel
        cases gk with
        | zero => exact absurd HA.out (by simp [fairleadlaw09_LexJoins.l0])
        | succ k1 =>
          have H := HA.out
          clear HA
          simp only [fairleadlaw09_LexJoins.l0] at H
          by_cases c10 : x10_1 < (t196.length : Int)
          · rw [if_pos c10] at H
            have c10b0 : decide (x10_1 < (t196.length : Int)) = true := decide_eq_true c10
            clear c10
            by_cases c11 : 0 ≤ x10_1
            · rw [if_pos c11] at H
              have c11b0 : decide (0 ≤ x10_1) = true := decide_eq_true c11
              clear c11
              by_cases c12 : x9_1.size + ((rd_T31 t196 x10_1).f2).size ≤ 9223372036854775807
              · rw [if_pos c12] at H
                have c12b0 := eq_true c12
                have c12b1 : decide (x9_1.size + ((rd_T31 t196 x10_1).f2).size ≤ 9223372036854775807) = true := decide_eq_true c12
                try have c12b2 : (9223372036854775807 < x9_1.size + ((rd_T31 t196 x10_1).f2).size) = False := eq_false (Nat.not_lt.2 c12)
                by_cases c13 : a1 = true
                · subst c13
                  have H1 : (if (x9_1 ++ ((rd_T31 t196 x10_1).f2)).size + 3 ≤ 9223372036854775807 then (fairleadlaw09_LexJoins.l0 k1 true t195 t196 ((x9_1 ++ ((rd_T31 t196 x10_1).f2)) ++ (⟨#[35, 59, 10]⟩ : ByteArray)) (wrap64 (x10_1 + 1))) else (none)) = some r := by rw [if_pos rfl] at H; exact H
                  clear H
                  have H := H1
                  clear H1
                  by_cases c14 : (x9_1 ++ ((rd_T31 t196 x10_1).f2)).size + 3 ≤ 9223372036854775807
                  · rw [if_pos c14] at H
                    have c14b0 := eq_true c14
                    have c14b1 : decide ((x9_1 ++ ((rd_T31 t196 x10_1).f2)).size + 3 ≤ 9223372036854775807) = true := decide_eq_true c14
                    (try (have c14b1s := c14b1; simp only [ByteArray.size_append, Int.natCast_add, Int.cast_ofNat_Int] at c14b1s))
                    (try (have c14h := c14; simp only [ByteArray.size_append] at c14h; have c14b5 := eq_true c14h; have c14b6 := eq_false (Nat.not_lt.2 c14h); clear c14h))
                    try have c14b2 : (9223372036854775807 < (x9_1 ++ ((rd_T31 t196 x10_1).f2)).size + 3) = False := eq_false (Nat.not_lt.2 c14)
                    have H' := Aside0.mk H
                    clear H
                    obtain ⟨Ao15, co15, eo15⟩ := Kd.R_slice HO_6.out
                    subst eo15
                    have p201 : 0 ≤ (x10_1 : Int) := of_decide_eq_true (by first | (with_reducible assumption) | assumption)
                    have q201 : x10_1 < (t196.length : Int) := of_decide_eq_true (by first | (with_reducible assumption) | assumption)
                    obtain ⟨ad201, e201, hx201_0, hx201_1, hx201_2, hx201_3⟩ := at_T31 (Kd.R_reads' HO_6.out).2.2 x10_1 p201 q201
                    cases e201
                    replace p201 := eq_true p201
                    replace q201 := eq_true q201
                    go_wp2
                    repeat (go_quiet (fail); try go_wp2)
                    go_roundg k1
                    case measure => have := HK1.out; omega
                    case rel => exact ⟨((x9_1 ++ ((rd_T31 t196 x10_1).f2)) ++ (⟨#[35, 59, 10]⟩ : ByteArray)), (wrap64 (x10_1 + 1)), (by first | rfl | (simp; done) | (simp [*]; done)), (by first | rfl | (simp; done) | (simp [*]; done)), H', ⟨by have := HK1.out; omega⟩, ⟨by (with_reducible repeat (first | apply Kd.R_alloc | apply Kd.R_drewN | apply Kd.R_drew)); exact HO_6.out⟩, ⟨by repeat (first | (with_reducible first | exact HB.out | apply below_alloc | apply pw_below_drewN | apply below_drew1) | exact HB.out)⟩⟩
                  · rw [if_neg c14] at H
                    exact absurd H (by simp)
                · replace c13 := Bool.eq_false_iff.mpr c13
                  subst c13
                  have H1 : (if (x9_1 ++ ((rd_T31 t196 x10_1).f2)).size + 1 ≤ 9223372036854775807 then (fairleadlaw09_LexJoins.l0 k1 false t195 t196 ((x9_1 ++ ((rd_T31 t196 x10_1).f2)) ++ (⟨#[9]⟩ : ByteArray)) (wrap64 (x10_1 + 1))) else (none)) = some r := by rw [if_neg (show ¬ (false = true) by decide)] at H; exact H
                  clear H
                  have H := H1
                  clear H1
                  by_cases c16 : (x9_1 ++ ((rd_T31 t196 x10_1).f2)).size + 1 ≤ 9223372036854775807
                  · rw [if_pos c16] at H
                    have c16b0 := eq_true c16
                    have c16b1 : decide ((x9_1 ++ ((rd_T31 t196 x10_1).f2)).size + 1 ≤ 9223372036854775807) = true := decide_eq_true c16
                    (try (have c16b1s := c16b1; simp only [ByteArray.size_append, Int.natCast_add, Int.cast_ofNat_Int] at c16b1s))
                    (try (have c16h := c16; simp only [ByteArray.size_append] at c16h; have c16b5 := eq_true c16h; have c16b6 := eq_false (Nat.not_lt.2 c16h); clear c16h))
                    try have c16b2 : (9223372036854775807 < (x9_1 ++ ((rd_T31 t196 x10_1).f2)).size + 1) = False := eq_false (Nat.not_lt.2 c16)
                    have H' := Aside0.mk H
                    clear H
                    obtain ⟨Ao17, co17, eo17⟩ := Kd.R_slice HO_6.out
                    subst eo17
                    have p201 : 0 ≤ (x10_1 : Int) := of_decide_eq_true (by first | (with_reducible assumption) | assumption)
                    have q201 : x10_1 < (t196.length : Int) := of_decide_eq_true (by first | (with_reducible assumption) | assumption)
                    obtain ⟨ad201, e201, hx201_0, hx201_1, hx201_2, hx201_3⟩ := at_T31 (Kd.R_reads' HO_6.out).2.2 x10_1 p201 q201
                    cases e201
                    replace p201 := eq_true p201
                    replace q201 := eq_true q201
                    go_wp2
                    repeat (go_quiet (fail); try go_wp2)
                    go_roundg k1
                    case measure => have := HK1.out; omega
                    case rel => exact ⟨((x9_1 ++ ((rd_T31 t196 x10_1).f2)) ++ (⟨#[9]⟩ : ByteArray)), (wrap64 (x10_1 + 1)), (by first | rfl | (simp; done) | (simp [*]; done)), (by first | rfl | (simp; done) | (simp [*]; done)), H', ⟨by have := HK1.out; omega⟩, ⟨by (with_reducible repeat (first | apply Kd.R_alloc | apply Kd.R_drewN | apply Kd.R_drew)); exact HO_6.out⟩, ⟨by repeat (first | (with_reducible first | exact HB.out | apply below_alloc | apply pw_below_drewN | apply below_drew1) | exact HB.out)⟩⟩
                  · rw [if_neg c16] at H
                    exact absurd H (by simp)
              · rw [if_neg c12] at H
                exact absurd H (by simp)
            · rw [if_neg c11] at H
              exact absurd H (by simp)
          · rw [if_neg c10] at H
            have c10b0 : decide (x10_1 < (t196.length : Int)) = false := decide_eq_false c10
            clear c10
            replace H := Option.bind_eq_some_iff.mp H
            obtain ⟨⟨t202, t203, t204⟩, A180, H⟩ := H
            replace H : (if t203 = 0 then (fairleadlaw09_LexJoins.j1 k1 t195 t196 t202 ((t202.length : Int) != (t196.length : Int))) else (fairleadlaw09_LexJoins.j1 k1 t195 t196 t202 true)) = some r := H
            have A18 := Aside0.mk A180
            clear A180
            have HC19 := Aside0.mk H
            clear H
            obtain ⟨Ao20, co20, eo20⟩ := Kd.R_slice HO_6.out
            subst eo20
            go_upto_region 16 with (first | (go_at_call 10; (with_reducible refine (lex_All.calls k1 x9_1 t202 t203 t204 _ A18.out).mono ?_); rintro e w21 ⟨v205, rfl, ho0, hb⟩; have n0_ := Aside0.mk (Kd.R_elder' (by (with_reducible repeat (first | apply Kd.R_alloc | apply Kd.R_drewN | apply Kd.R_drew)); exact HO_6.out) (Kd.R_base ho0) hb); have n1_ := Aside0.mk (Kd.R_lower (Kd.R_new' ho0 (Kd.R_lt (by (with_reducible repeat (first | apply Kd.R_alloc | apply Kd.R_drewN | apply Kd.R_drew)); exact HO_6.out))) (below_size (by repeat (first | (with_reducible first | exact HB.out | apply below_alloc | apply pw_below_drewN | apply below_drew1) | exact HB.out)))); have n2_ := Aside0.mk (below_step (by repeat (first | (with_reducible first | exact HB.out | apply below_alloc | apply pw_below_drewN | apply below_drew1) | exact HB.out)) hb); clear HO_6; clear HB; have HO_6 := n0_; have HO206 := n1_; have HB := n2_; clear n0_ n1_ n2_; (try clear hb); (try clear hb2); (try clear hk); (try clear hi); (try clear ho0)))
            repeat (go_quiet (first | (go_at_call 10; (with_reducible refine (lex_All.calls k1 x9_1 t202 t203 t204 _ A18.out).mono ?_); rintro e w21 ⟨v205, rfl, ho0, hb⟩; have n0_ := Aside0.mk (Kd.R_elder' (by (with_reducible repeat (first | apply Kd.R_alloc | apply Kd.R_drewN | apply Kd.R_drew)); exact HO_6.out) (Kd.R_base ho0) hb); have n1_ := Aside0.mk (Kd.R_lower (Kd.R_new' ho0 (Kd.R_lt (by (with_reducible repeat (first | apply Kd.R_alloc | apply Kd.R_drewN | apply Kd.R_drew)); exact HO_6.out))) (below_size (by repeat (first | (with_reducible first | exact HB.out | apply below_alloc | apply pw_below_drewN | apply below_drew1) | exact HB.out)))); have n2_ := Aside0.mk (below_step (by repeat (first | (with_reducible first | exact HB.out | apply below_alloc | apply pw_below_drewN | apply below_drew1) | exact HB.out)) hb); clear HO_6; clear HB; have HO_6 := n0_; have HO206 := n1_; have HB := n2_; clear n0_ n1_ n2_; (try clear hb); (try clear hb2); (try clear hk); (try clear hi); (try clear ho0))); go_upto_region 16 with (first | (go_at_call 10; (with_reducible refine (lex_All.calls k1 x9_1 t202 t203 t204 _ A18.out).mono ?_); rintro e w21 ⟨v205, rfl, ho0, hb⟩; have n0_ := Aside0.mk (Kd.R_elder' (by (with_reducible repeat (first | apply Kd.R_alloc | apply Kd.R_drewN | apply Kd.R_drew)); exact HO_6.out) (Kd.R_base ho0) hb); have n1_ := Aside0.mk (Kd.R_lower (Kd.R_new' ho0 (Kd.R_lt (by (with_reducible repeat (first | apply Kd.R_alloc | apply Kd.R_drewN | apply Kd.R_drew)); exact HO_6.out))) (below_size (by repeat (first | (with_reducible first | exact HB.out | apply below_alloc | apply pw_below_drewN | apply below_drew1) | exact HB.out)))); have n2_ := Aside0.mk (below_step (by repeat (first | (with_reducible first | exact HB.out | apply below_alloc | apply pw_below_drewN | apply below_drew1) | exact HB.out)) hb); clear HO_6; clear HB; have HO_6 := n0_; have HO206 := n1_; have HB := n2_; clear n0_ n1_ n2_; (try clear hb); (try clear hb2); (try clear hk); (try clear hi); (try clear ho0))))
            (try simp only [Act.put, List.setIfInBounds_toArray, List.set_cons_zero, List.set_cons_succ])
            go_cut [61] (fun v61 wc => ∃ (kq : Nat) (x61_18 : Bool), v61 = .bool x61_18 ∧ Aside0 (fairleadlaw09_LexJoins.j1 kq t195 t196 t202 x61_18 = some r) ∧ Aside0 (kq ≤ k1) ∧ Aside0 (Kd.R k31 31 wc w.heap.size (fun k_ => some k_ ≠ (v205 : Value).ownBlock) (.slice Ao20 t196.length co20) t196) ∧ Aside0 (Kd.R k31 31 wc w.heap.size (fun k_ => some k_ ≠ ((.slice Ao20 t196.length co20) : Value).ownBlock) v205 t202) ∧ Aside0 (Below w.heap.size w wc))
            case first =>
              have H := HC19.out
              clear HC19
              by_cases c22 : t203 = 0
              · rw [if_pos c22] at H
                have c22b0 : (t203 == 0) = true := beq_iff_eq.mpr c22
                have c22b1 : (t203 != 0) = false := bne_eq_false_iff_eq.mpr c22
                clear c22
                (first | rw [c22b0] | (simp only [i64_w, i32_w]; rw [c22b0]) | skip)
                have H' := Aside0.mk H
                clear H
                obtain ⟨Ao23, co23, eo23⟩ := Kd.R_slice HO206.out
                subst eo23
                go_wp2
                repeat (go_quiet (fail); try go_wp2)
                go_meet
                case rel => exact ⟨_, (((t202.length : Int) != (t196.length : Int))), (by first | rfl | (simp; done) | (simp [*]; done)), H', ⟨by have := HK1.out; first | omega | exact Nat.le_refl _⟩, ⟨by (with_reducible repeat (first | apply Kd.R_alloc | apply Kd.R_drewN | apply Kd.R_drew)); exact Kd.R_mono HO_6.out (fun _ hk => by first | exact hk.2 | exact hk | exact trivial)⟩, ⟨by (with_reducible repeat (first | apply Kd.R_alloc | apply Kd.R_drewN | apply Kd.R_drew)); exact Kd.R_mono HO206.out (fun _ hk => by first | exact hk.2 | exact hk | exact trivial)⟩, ⟨by repeat (first | (with_reducible first | exact HB.out | apply below_alloc | apply pw_below_drewN | apply below_drew1) | exact HB.out)⟩⟩
              · rw [if_neg c22] at H
                have c22b0 : (t203 == 0) = false := beq_eq_false_iff_ne.mpr c22
                have c22b1 : (t203 != 0) = true := bne_iff_ne.mpr c22
                (first | rw [c22b0] | (simp only [i64_w, i32_w]; rw [c22b0]) | skip)
                have H' := Aside0.mk H
                clear H
                go_wp2
                repeat (go_quiet (fail); try go_wp2)
                go_meet
                case rel => exact ⟨_, (true), (by first | rfl | (simp; done) | (simp [*]; done)), H', ⟨by have := HK1.out; first | omega | exact Nat.le_refl _⟩, ⟨by (with_reducible repeat (first | apply Kd.R_alloc | apply Kd.R_drewN | apply Kd.R_drew)); exact Kd.R_mono HO_6.out (fun _ hk => by first | exact hk.2 | exact hk | exact trivial)⟩, ⟨by (with_reducible repeat (first | apply Kd.R_alloc | apply Kd.R_drewN | apply Kd.R_drew)); exact Kd.R_mono HO206.out (fun _ hk => by first | exact hk.2 | exact hk | exact trivial)⟩, ⟨by repeat (first | (with_reducible first | exact HB.out | apply below_alloc | apply pw_below_drewN | apply below_drew1) | exact HB.out)⟩⟩
            case rest =>
              clear HC19
              try clear c1
              try clear c2
              try clear p2
              try clear q2
              try clear hx2
              try clear c4
              try clear c4b0
              try clear c4b1
              try clear c6
              try clear p6
              try clear c7
              try clear c7b0
              try clear c7b1
              try clear c10
              try clear c10b0
              try clear c11
              try clear c11b0
              try clear c12
              try clear c12b0
              try clear c12b1
              try clear c12b2
              try clear c13
              try clear c14
              try clear c14b0
              try clear c14b1
              try clear c14b2
              try clear c16
              try clear c16b0
              try clear c16b1
              try clear c16b2
              try clear p20
              try clear q20
              try clear hx20
              try clear c22
              try clear c22b0
              try clear c22b1
              try clear hx201_0
              try clear hx201_1
              try clear hx201_2
              try clear hx201_3
              try clear p2
              try clear p201
              try clear q201
              obtain ⟨kq, x61_18, rfl, HA, HJ18, HO_6, HO_11, HB⟩ := hcut
              cases kq with
              | zero => exact absurd HA.out (by simp [fairleadlaw09_LexJoins.j1])
              | succ kj18 =>
                have H := HA.out
                clear HA
                simp only [fairleadlaw09_LexJoins.j1] at H
                by_cases c24 : x61_18 = true
                · subst c24
                  have H1 : (some false) = some r := by rw [if_pos rfl] at H; exact H
                  clear H
                  have H := H1
                  clear H1
                  obtain rfl := Option.some.inj H
                  go_wp2
                  repeat (go_quiet (fail); try go_wp2)
                  go_ret
                  exact ⟨by first | rfl | (simp [errW_none, errW_some] <;> rfl) | (simp [*, errW_none, errW_some] <;> rfl), by repeat (first | (with_reducible first | exact HB.out | apply below_alloc | apply pw_below_drewN | apply below_drew1) | exact HB.out)⟩
                · replace c24 := Bool.eq_false_iff.mpr c24
                  subst c24
                  have H1 : (fairleadlaw09_LexJoins.l1 kj18 t195 t196 t202 0) = some r := by rw [if_neg (show ¬ (false = true) by decide)] at H; exact H
                  clear H
                  have H := H1
                  clear H1
                  have H' := Aside0.mk H
                  clear H
                  go_wp2
                  repeat (go_quiet (fail); try go_wp2)
                  go_loopg [14] kj18 (fun kq v14 w' => ∃ (x14_3 : Int), v14 = .int .i64 x14_3 ∧ Aside0 (fairleadlaw09_LexJoins.l1 kq t195 t196 t202 x14_3 = some r) ∧ Aside0 (kq ≤ kj18) ∧ Aside0 (Kd.R k31 31 w' w.heap.size (fun k_ => some k_ ≠ (v205 : Value).ownBlock) (.slice Ao20 t196.length co20) t196) ∧ Aside0 (Kd.R k31 31 w' w.heap.size (fun k_ => some k_ ≠ ((.slice Ao20 t196.length co20) : Value).ownBlock) v205 t202) ∧ Aside0 (Below w.heap.size w w'))
                  case atStart => exact ⟨(0), (by first | rfl | (simp; done) | (simp [*]; done)), H', ⟨Nat.le_refl _⟩, ⟨by (with_reducible repeat (first | apply Kd.R_alloc | apply Kd.R_drewN | apply Kd.R_drew)); exact HO_6.out⟩, ⟨by (with_reducible repeat (first | apply Kd.R_alloc | apply Kd.R_drewN | apply Kd.R_drew)); exact HO_11.out⟩, ⟨by repeat (first | (with_reducible first | exact HB.out | apply below_alloc | apply pw_below_drewN | apply below_drew1) | exact HB.out)⟩⟩
                  case round =>
                    clear H'
                    try clear c1
                    try clear c2
                    try clear p2
                    try clear q2
                    try clear hx2
                    try clear c4
                    try clear c4b0
                    try clear c4b1
                    try clear c6
                    try clear p6
                    try clear c7
                    try clear c7b0
                    try clear c7b1
                    try clear c10
                    try clear c10b0
                    try clear c11
                    try clear c11b0
                    try clear c12
                    try clear c12b0
                    try clear c12b1
                    try clear c12b2
                    try clear c13
                    try clear c14
                    try clear c14b0
                    try clear c14b1
                    try clear c14b2
                    try clear c16
                    try clear c16b0
                    try clear c16b1
                    try clear c16b2
                    try clear p20
                    try clear q20
                    try clear hx20
                    try clear c22
                    try clear c22b0
                    try clear c22b1
                    try clear c24
                    try clear hx201_0
                    try clear hx201_1
                    try clear hx201_2
                    try clear hx201_3
                    try clear p2
                    try clear p20
                    try clear p201
                    try clear p6
                    try clear q2
                    try clear q20
                    try clear q201
                    obtain ⟨x14_3, rfl, HA, HK3, HO_6, HO_11, HB⟩ := hrel
                    cases gk with
                    | zero => exact absurd HA.out (by simp [fairleadlaw09_LexJoins.l1])
                    | succ k3 =>
                      have H := HA.out
                      clear HA
                      simp only [fairleadlaw09_LexJoins.l1] at H
                      by_cases c25 : x14_3 < (t196.length : Int)
                      · rw [if_pos c25] at H
                        have c25b0 : decide (x14_3 < (t196.length : Int)) = true := decide_eq_true c25
                        clear c25
                        by_cases c26 : 0 ≤ x14_3
                        · rw [if_pos c26] at H
                          have c26b0 : decide (0 ≤ x14_3) = true := decide_eq_true c26
                          clear c26
                          by_cases c27 : x14_3 < (t202.length : Int)
                          · rw [if_pos c27] at H
                            have c27b0 : decide (x14_3 < (t202.length : Int)) = true := decide_eq_true c27
                            clear c27
                            by_cases c28 : ((rd_T31 t202 x14_3).f0) = ((rd_T31 t196 x14_3).f0)
                            · rw [if_pos c28] at H
                              have c28b0 : (((rd_T31 t202 x14_3).f0) == ((rd_T31 t196 x14_3).f0)) = true := beq_iff_eq.mpr c28
                              have c28b1 : (((rd_T31 t202 x14_3).f0) != ((rd_T31 t196 x14_3).f0)) = false := bne_eq_false_iff_eq.mpr c28
                              clear c28
                              by_cases c29 : ((rd_T31 t202 x14_3).f2).toList = ((rd_T31 t196 x14_3).f2).toList
                              · rw [if_pos c29] at H
                                have c29b0 : (((rd_T31 t202 x14_3).f2).toList == ((rd_T31 t196 x14_3).f2).toList) = true := beq_iff_eq.mpr c29
                                have c29b1 : (((rd_T31 t202 x14_3).f2).toList != ((rd_T31 t196 x14_3).f2).toList) = false := bne_eq_false_iff_eq.mpr c29
                                clear c29
                                by_cases c30 : ((rd_T31 t202 x14_3).f3) = ((rd_T31 t196 x14_3).f3)
                                · rw [if_pos c30] at H
                                  have c30b0 : (((rd_T31 t202 x14_3).f3) == ((rd_T31 t196 x14_3).f3)) = true := beq_iff_eq.mpr c30
                                  have c30b1 : (((rd_T31 t202 x14_3).f3) != ((rd_T31 t196 x14_3).f3)) = false := bne_eq_false_iff_eq.mpr c30
                                  clear c30
                                  have H' := Aside0.mk H
                                  clear H
                                  obtain ⟨Ao31, co31, eo31⟩ := Kd.R_slice HO_11.out
                                  subst eo31
                                  have p207 : 0 ≤ (x14_3 : Int) := of_decide_eq_true (by first | (with_reducible assumption) | assumption)
                                  have q207 : x14_3 < (t202.length : Int) := of_decide_eq_true (by first | (with_reducible assumption) | assumption)
                                  obtain ⟨ad207, e207, hx207_0, hx207_1, hx207_2, hx207_3⟩ := at_T31 (Kd.R_reads' HO_11.out).2.2 x14_3 p207 q207
                                  cases e207
                                  replace p207 := eq_true p207
                                  replace q207 := eq_true q207
                                  have p208 : 0 ≤ (x14_3 : Int) := of_decide_eq_true (by first | (with_reducible assumption) | assumption)
                                  have q208 : x14_3 < (t196.length : Int) := of_decide_eq_true (by first | (with_reducible assumption) | assumption)
                                  obtain ⟨ad208, e208, hx208_0, hx208_1, hx208_2, hx208_3⟩ := at_T31 (Kd.R_reads' HO_6.out).2.2 x14_3 p208 q208
                                  cases e208
                                  replace p208 := eq_true p208
                                  replace q208 := eq_true q208
                                  have p209 : 0 ≤ (x14_3 : Int) := of_decide_eq_true (by first | (with_reducible assumption) | assumption)
                                  have q209 : x14_3 < (t202.length : Int) := of_decide_eq_true (by first | (with_reducible assumption) | assumption)
                                  obtain ⟨ad209, e209, hx209_0, hx209_1, hx209_2, hx209_3⟩ := at_T31 (Kd.R_reads' HO_11.out).2.2 x14_3 p209 q209
                                  obtain rfl : ad207 = ad209 := (by injection e209)
                                  replace p209 := eq_true p209
                                  replace q209 := eq_true q209
                                  have p210 : 0 ≤ (x14_3 : Int) := of_decide_eq_true (by first | (with_reducible assumption) | assumption)
                                  have q210 : x14_3 < (t196.length : Int) := of_decide_eq_true (by first | (with_reducible assumption) | assumption)
                                  obtain ⟨ad210, e210, hx210_0, hx210_1, hx210_2, hx210_3⟩ := at_T31 (Kd.R_reads' HO_6.out).2.2 x14_3 p210 q210
                                  obtain rfl : ad208 = ad210 := (by injection e210)
                                  replace p210 := eq_true p210
                                  replace q210 := eq_true q210
                                  have p211 : 0 ≤ (x14_3 : Int) := of_decide_eq_true (by first | (with_reducible assumption) | assumption)
                                  have q211 : x14_3 < (t202.length : Int) := of_decide_eq_true (by first | (with_reducible assumption) | assumption)
                                  obtain ⟨ad211, e211, hx211_0, hx211_1, hx211_2, hx211_3⟩ := at_T31 (Kd.R_reads' HO_11.out).2.2 x14_3 p211 q211
                                  obtain rfl : ad207 = ad211 := (by injection e211)
                                  replace p211 := eq_true p211
                                  replace q211 := eq_true q211
                                  have p212 : 0 ≤ (x14_3 : Int) := of_decide_eq_true (by first | (with_reducible assumption) | assumption)
                                  have q212 : x14_3 < (t196.length : Int) := of_decide_eq_true (by first | (with_reducible assumption) | assumption)
                                  obtain ⟨ad212, e212, hx212_0, hx212_1, hx212_2, hx212_3⟩ := at_T31 (Kd.R_reads' HO_6.out).2.2 x14_3 p212 q212
                                  obtain rfl : ad208 = ad212 := (by injection e212)
                                  replace p212 := eq_true p212
                                  replace q212 := eq_true q212
                                  go_wp2
                                  repeat (go_quiet (fail); try go_wp2)
                                  go_roundg k3
                                  case measure => have := HK1.out; have := HJ18.out; have := HK3.out; omega
                                  case rel => exact ⟨(wrap64 (x14_3 + 1)), (by first | rfl | (simp; done) | (simp [*]; done)), H', ⟨by have := HK1.out; have := HJ18.out; have := HK3.out; omega⟩, ⟨by (with_reducible repeat (first | apply Kd.R_alloc | apply Kd.R_drewN | apply Kd.R_drew)); exact HO_6.out⟩, ⟨by (with_reducible repeat (first | apply Kd.R_alloc | apply Kd.R_drewN | apply Kd.R_drew)); exact HO_11.out⟩, ⟨by repeat (first | (with_reducible first | exact HB.out | apply below_alloc | apply pw_below_drewN | apply below_drew1) | exact HB.out)⟩⟩
                                · rw [if_neg c30] at H
                                  have c30b0 : (((rd_T31 t202 x14_3).f3) == ((rd_T31 t196 x14_3).f3)) = false := beq_eq_false_iff_ne.mpr c30
                                  have c30b1 : (((rd_T31 t202 x14_3).f3) != ((rd_T31 t196 x14_3).f3)) = true := bne_iff_ne.mpr c30
                                  obtain rfl := Option.some.inj H
                                  obtain ⟨Ao32, co32, eo32⟩ := Kd.R_slice HO_11.out
                                  subst eo32
                                  have p207 : 0 ≤ (x14_3 : Int) := of_decide_eq_true (by first | (with_reducible assumption) | assumption)
                                  have q207 : x14_3 < (t202.length : Int) := of_decide_eq_true (by first | (with_reducible assumption) | assumption)
                                  obtain ⟨ad207, e207, hx207_0, hx207_1, hx207_2, hx207_3⟩ := at_T31 (Kd.R_reads' HO_11.out).2.2 x14_3 p207 q207
                                  cases e207
                                  replace p207 := eq_true p207
                                  replace q207 := eq_true q207
                                  have p208 : 0 ≤ (x14_3 : Int) := of_decide_eq_true (by first | (with_reducible assumption) | assumption)
                                  have q208 : x14_3 < (t196.length : Int) := of_decide_eq_true (by first | (with_reducible assumption) | assumption)
                                  obtain ⟨ad208, e208, hx208_0, hx208_1, hx208_2, hx208_3⟩ := at_T31 (Kd.R_reads' HO_6.out).2.2 x14_3 p208 q208
                                  cases e208
                                  replace p208 := eq_true p208
                                  replace q208 := eq_true q208
                                  have p209 : 0 ≤ (x14_3 : Int) := of_decide_eq_true (by first | (with_reducible assumption) | assumption)
                                  have q209 : x14_3 < (t202.length : Int) := of_decide_eq_true (by first | (with_reducible assumption) | assumption)
                                  obtain ⟨ad209, e209, hx209_0, hx209_1, hx209_2, hx209_3⟩ := at_T31 (Kd.R_reads' HO_11.out).2.2 x14_3 p209 q209
                                  obtain rfl : ad207 = ad209 := (by injection e209)
                                  replace p209 := eq_true p209
                                  replace q209 := eq_true q209
                                  have p210 : 0 ≤ (x14_3 : Int) := of_decide_eq_true (by first | (with_reducible assumption) | assumption)
                                  have q210 : x14_3 < (t196.length : Int) := of_decide_eq_true (by first | (with_reducible assumption) | assumption)
                                  obtain ⟨ad210, e210, hx210_0, hx210_1, hx210_2, hx210_3⟩ := at_T31 (Kd.R_reads' HO_6.out).2.2 x14_3 p210 q210
                                  obtain rfl : ad208 = ad210 := (by injection e210)
                                  replace p210 := eq_true p210
                                  replace q210 := eq_true q210
                                  have p211 : 0 ≤ (x14_3 : Int) := of_decide_eq_true (by first | (with_reducible assumption) | assumption)
                                  have q211 : x14_3 < (t202.length : Int) := of_decide_eq_true (by first | (with_reducible assumption) | assumption)
                                  obtain ⟨ad211, e211, hx211_0, hx211_1, hx211_2, hx211_3⟩ := at_T31 (Kd.R_reads' HO_11.out).2.2 x14_3 p211 q211
                                  obtain rfl : ad207 = ad211 := (by injection e211)
                                  replace p211 := eq_true p211
                                  replace q211 := eq_true q211
                                  have p212 : 0 ≤ (x14_3 : Int) := of_decide_eq_true (by first | (with_reducible assumption) | assumption)
                                  have q212 : x14_3 < (t196.length : Int) := of_decide_eq_true (by first | (with_reducible assumption) | assumption)
                                  obtain ⟨ad212, e212, hx212_0, hx212_1, hx212_2, hx212_3⟩ := at_T31 (Kd.R_reads' HO_6.out).2.2 x14_3 p212 q212
                                  obtain rfl : ad208 = ad212 := (by injection e212)
                                  replace p212 := eq_true p212
                                  replace q212 := eq_true q212
                                  go_wp2
                                  repeat (go_quiet (fail); try go_wp2)
                                  go_ret
                                  exact ⟨by first | rfl | (simp [errW_none, errW_some] <;> rfl) | (simp [*, errW_none, errW_some] <;> rfl), by repeat (first | (with_reducible first | exact HB.out | apply below_alloc | apply pw_below_drewN | apply below_drew1) | exact HB.out)⟩
                              · rw [if_neg c29] at H
                                have c29b0 : (((rd_T31 t202 x14_3).f2).toList == ((rd_T31 t196 x14_3).f2).toList) = false := beq_eq_false_iff_ne.mpr c29
                                have c29b1 : (((rd_T31 t202 x14_3).f2).toList != ((rd_T31 t196 x14_3).f2).toList) = true := bne_iff_ne.mpr c29
                                obtain rfl := Option.some.inj H
                                obtain ⟨Ao33, co33, eo33⟩ := Kd.R_slice HO_11.out
                                subst eo33
                                have p207 : 0 ≤ (x14_3 : Int) := of_decide_eq_true (by first | (with_reducible assumption) | assumption)
                                have q207 : x14_3 < (t202.length : Int) := of_decide_eq_true (by first | (with_reducible assumption) | assumption)
                                obtain ⟨ad207, e207, hx207_0, hx207_1, hx207_2, hx207_3⟩ := at_T31 (Kd.R_reads' HO_11.out).2.2 x14_3 p207 q207
                                cases e207
                                replace p207 := eq_true p207
                                replace q207 := eq_true q207
                                have p208 : 0 ≤ (x14_3 : Int) := of_decide_eq_true (by first | (with_reducible assumption) | assumption)
                                have q208 : x14_3 < (t196.length : Int) := of_decide_eq_true (by first | (with_reducible assumption) | assumption)
                                obtain ⟨ad208, e208, hx208_0, hx208_1, hx208_2, hx208_3⟩ := at_T31 (Kd.R_reads' HO_6.out).2.2 x14_3 p208 q208
                                cases e208
                                replace p208 := eq_true p208
                                replace q208 := eq_true q208
                                have p209 : 0 ≤ (x14_3 : Int) := of_decide_eq_true (by first | (with_reducible assumption) | assumption)
                                have q209 : x14_3 < (t202.length : Int) := of_decide_eq_true (by first | (with_reducible assumption) | assumption)
                                obtain ⟨ad209, e209, hx209_0, hx209_1, hx209_2, hx209_3⟩ := at_T31 (Kd.R_reads' HO_11.out).2.2 x14_3 p209 q209
                                obtain rfl : ad207 = ad209 := (by injection e209)
                                replace p209 := eq_true p209
                                replace q209 := eq_true q209
                                have p210 : 0 ≤ (x14_3 : Int) := of_decide_eq_true (by first | (with_reducible assumption) | assumption)
                                have q210 : x14_3 < (t196.length : Int) := of_decide_eq_true (by first | (with_reducible assumption) | assumption)
                                obtain ⟨ad210, e210, hx210_0, hx210_1, hx210_2, hx210_3⟩ := at_T31 (Kd.R_reads' HO_6.out).2.2 x14_3 p210 q210
                                obtain rfl : ad208 = ad210 := (by injection e210)
                                replace p210 := eq_true p210
                                replace q210 := eq_true q210
                                go_wp2
                                repeat (go_quiet (fail); try go_wp2)
                                go_ret
                                exact ⟨by first | rfl | (simp [errW_none, errW_some] <;> rfl) | (simp [*, errW_none, errW_some] <;> rfl), by repeat (first | (with_reducible first | exact HB.out | apply below_alloc | apply pw_below_drewN | apply below_drew1) | exact HB.out)⟩
                            · rw [if_neg c28] at H
                              have c28b0 : (((rd_T31 t202 x14_3).f0) == ((rd_T31 t196 x14_3).f0)) = false := beq_eq_false_iff_ne.mpr c28
                              have c28b1 : (((rd_T31 t202 x14_3).f0) != ((rd_T31 t196 x14_3).f0)) = true := bne_iff_ne.mpr c28
                              obtain rfl := Option.some.inj H
                              obtain ⟨Ao34, co34, eo34⟩ := Kd.R_slice HO_11.out
                              subst eo34
                              have p207 : 0 ≤ (x14_3 : Int) := of_decide_eq_true (by first | (with_reducible assumption) | assumption)
                              have q207 : x14_3 < (t202.length : Int) := of_decide_eq_true (by first | (with_reducible assumption) | assumption)
                              obtain ⟨ad207, e207, hx207_0, hx207_1, hx207_2, hx207_3⟩ := at_T31 (Kd.R_reads' HO_11.out).2.2 x14_3 p207 q207
                              cases e207
                              replace p207 := eq_true p207
                              replace q207 := eq_true q207
                              have p208 : 0 ≤ (x14_3 : Int) := of_decide_eq_true (by first | (with_reducible assumption) | assumption)
                              have q208 : x14_3 < (t196.length : Int) := of_decide_eq_true (by first | (with_reducible assumption) | assumption)
                              obtain ⟨ad208, e208, hx208_0, hx208_1, hx208_2, hx208_3⟩ := at_T31 (Kd.R_reads' HO_6.out).2.2 x14_3 p208 q208
                              cases e208
                              replace p208 := eq_true p208
                              replace q208 := eq_true q208
                              go_wp2
                              repeat (go_quiet (fail); try go_wp2)
                              go_ret
                              exact ⟨by first | rfl | (simp [errW_none, errW_some] <;> rfl) | (simp [*, errW_none, errW_some] <;> rfl), by repeat (first | (with_reducible first | exact HB.out | apply below_alloc | apply pw_below_drewN | apply below_drew1) | exact HB.out)⟩
                          · rw [if_neg c27] at H
                            exact absurd H (by simp)
                        · rw [if_neg c26] at H
                          exact absurd H (by simp)
                      · rw [if_neg c25] at H
                        have c25b0 : decide (x14_3 < (t196.length : Int)) = false := decide_eq_false c25
                        clear c25
                        obtain rfl := Option.some.inj H
                        go_wp2
                        repeat (go_quiet (fail); try go_wp2)
                        go_ret
                        exact ⟨by first | rfl | (simp [errW_none, errW_some] <;> rfl) | (simp [*, errW_none, errW_some] <;> rfl), by repeat (first | (with_reducible first | exact HB.out | apply below_alloc | apply pw_below_drewN | apply below_drew1) | exact HB.out)⟩
    · rw [if_neg c7] at H
      have c7b0 : (t197 == 0) = false := beq_eq_false_iff_ne.mpr c7
      have c7b1 : (t197 != 0) = true := bne_iff_ne.mpr c7
      obtain rfl := Option.some.inj H
      go_enter Try.func6, Try.ntmps6
      go_wp2_with (first | (go_at_call 9; (with_reducible refine (fairleadlaw09_awake.calls k  t195 _ A3.out).mono ?_); rintro e w35 ⟨rfl, hb⟩; have n0_ := Aside0.mk (below_step (by repeat (first | (with_reducible first | exact HB.out | apply below_alloc | apply pw_below_drewN | apply below_drew1) | exact HB.out)) hb); clear HB; have HB := n0_; clear n0_; (try clear hb); (try clear hb2); (try clear hk); (try clear hi)) | (go_at_call 10; (with_reducible refine (lex_All.calls k a0 t196 t197 t198 _ A6.out).mono ?_); rintro e w36 ⟨v199, rfl, ho0, hb⟩; have n0_ := Aside0.mk (Kd.R_lower ho0 (below_size (by repeat (first | (with_reducible first | exact HB.out | apply below_alloc | apply pw_below_drewN | apply below_drew1) | exact HB.out)))); have n1_ := Aside0.mk (below_step (by repeat (first | (with_reducible first | exact HB.out | apply below_alloc | apply pw_below_drewN | apply below_drew1) | exact HB.out)) hb); clear HB; have HO200 := n0_; have HB := n1_; clear n0_ n1_; (try clear hb); (try clear hb2); (try clear hk); (try clear hi); (try clear ho0)))
      repeat (go_quiet (first | (go_at_call 9; (with_reducible refine (fairleadlaw09_awake.calls k  t195 _ A3.out).mono ?_); rintro e w35 ⟨rfl, hb⟩; have n0_ := Aside0.mk (below_step (by repeat (first | (with_reducible first | exact HB.out | apply below_alloc | apply pw_below_drewN | apply below_drew1) | exact HB.out)) hb); clear HB; have HB := n0_; clear n0_; (try clear hb); (try clear hb2); (try clear hk); (try clear hi)) | (go_at_call 10; (with_reducible refine (lex_All.calls k a0 t196 t197 t198 _ A6.out).mono ?_); rintro e w36 ⟨v199, rfl, ho0, hb⟩; have n0_ := Aside0.mk (Kd.R_lower ho0 (below_size (by repeat (first | (with_reducible first | exact HB.out | apply below_alloc | apply pw_below_drewN | apply below_drew1) | exact HB.out)))); have n1_ := Aside0.mk (below_step (by repeat (first | (with_reducible first | exact HB.out | apply below_alloc | apply pw_below_drewN | apply below_drew1) | exact HB.out)) hb); clear HB; have HO200 := n0_; have HB := n1_; clear n0_ n1_; (try clear hb); (try clear hb2); (try clear hk); (try clear hi); (try clear ho0))); try go_wp2_with (first | (go_at_call 9; (with_reducible refine (fairleadlaw09_awake.calls k  t195 _ A3.out).mono ?_); rintro e w35 ⟨rfl, hb⟩; have n0_ := Aside0.mk (below_step (by repeat (first | (with_reducible first | exact HB.out | apply below_alloc | apply pw_below_drewN | apply below_drew1) | exact HB.out)) hb); clear HB; have HB := n0_; clear n0_; (try clear hb); (try clear hb2); (try clear hk); (try clear hi)) | (go_at_call 10; (with_reducible refine (lex_All.calls k a0 t196 t197 t198 _ A6.out).mono ?_); rintro e w36 ⟨v199, rfl, ho0, hb⟩; have n0_ := Aside0.mk (Kd.R_lower ho0 (below_size (by repeat (first | (with_reducible first | exact HB.out | apply below_alloc | apply pw_below_drewN | apply below_drew1) | exact HB.out)))); have n1_ := Aside0.mk (below_step (by repeat (first | (with_reducible first | exact HB.out | apply below_alloc | apply pw_below_drewN | apply below_drew1) | exact HB.out)) hb); clear HB; have HO200 := n0_; have HB := n1_; clear n0_ n1_; (try clear hb); (try clear hb2); (try clear hk); (try clear hi); (try clear ho0))))
      go_ret
      exact ⟨by first | rfl | (simp [errW_none, errW_some] <;> rfl) | (simp [*, errW_none, errW_some] <;> rfl), by repeat (first | (with_reducible first | exact HB.out | apply below_alloc | apply pw_below_drewN | apply below_drew1) | exact HB.out)⟩

/-- What is to be shown of fairleadlaw09_LexJoins, without Go and memory. -/
def fairleadlaw09_LexJoins.Pure : Prop := ∀ (a0 : ByteArray) (a1 : Bool), (a0.size ≤ 9223372036854775807) → ∃ k, fairleadlaw09_LexJoins.f k a0 a1 = some true

end Go.Proofs.Ytbiccohcikfgeaa.M
