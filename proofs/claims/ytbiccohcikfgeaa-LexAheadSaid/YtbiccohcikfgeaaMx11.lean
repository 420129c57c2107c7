-- Laid by a program (wip/tools/myprint.py) out of the loaded program's own print: for each Go function a Lean function and the proof of its contract.
import Derived.Test.YtbiccohcikfgeaaMx0
import Derived.Test.YtbiccohcikfgeaaMx4
import Derived.Test.YtbiccohcikfgeaaMx8
namespace Go.Proofs.Ytbiccohcikfgeaa.M
open Go.RowKit Go.Proofs.YtbiccohcikfgeaaW.PrintWords Go.Proofs.YtbiccohcikfgeaaW.PrintLast Go.Proofs.YtbiccohcikfgeaaW.PrintMore
attribute [local go_sem] max2_int min2_int max_two min_two max_three min_three max_four min_four   -- for this text's walks alone
set_option linter.unusedVariables false
set_option linter.unusedSimpArgs false

/-! ### fairleadlaw09_LexAhead: function 7 -/
mutual
def fairleadlaw09_LexAhead.j0 : Nat → ByteArray → Int → Bool → Bool → Option (Bool)
  | 0, _, _, _, _ => none
  | k + 1, x0, x1, x5, x23 => if x23 = true then (some x5) else (fairleadlaw09_LexAhead.l0 k x0 x1 x5 (⟨#[]⟩ : ByteArray) 0)
def fairleadlaw09_LexAhead.l0 : Nat → ByteArray → Int → Bool → ByteArray → Int → Option (Bool)
  | 0, _, _, _, _, _ => none
  | k + 1, x0, x1, x5, x6, x7 => if x7 < (Int.tmod x1 30) then (if x6.size + 1 ≤ 9223372036854775807 then (fairleadlaw09_LexAhead.l0 k x0 x1 x5 (x6 ++ (⟨#[10]⟩ : ByteArray)) (wrap64 (x7 + 1))) else (none)) else (if x6.size + 4 ≤ 9223372036854775807 then ((lex_All.f k x0).bind fun bt214 => (if (x6 ++ (⟨#[35, 32, 97, 10]⟩ : ByteArray)).size + x0.size ≤ 9223372036854775807 then ((lex_All.f k ((x6 ++ (⟨#[35, 32, 97, 10]⟩ : ByteArray)) ++ x0)).bind fun bt219 => (if bt214.2.1 = bt219.2.1 then (if (bt214.1.length : Int) = (bt219.1.length : Int) then (if bt214.2.1 = 0 then (fairleadlaw09_LexAhead.j2 k x5 (x6 ++ (⟨#[35, 32, 97, 10]⟩ : ByteArray)) bt214.1 bt219.1 (bt219.2.2 != (-1))) else (if bt219.2.2 = (wrap64 (bt214.2.2 + ((x6 ++ (⟨#[35, 32, 97, 10]⟩ : ByteArray)).size : Int))) then (fairleadlaw09_LexAhead.j2 k x5 (x6 ++ (⟨#[35, 32, 97, 10]⟩ : ByteArray)) bt214.1 bt219.1 false) else (fairleadlaw09_LexAhead.j2 k x5 (x6 ++ (⟨#[35, 32, 97, 10]⟩ : ByteArray)) bt214.1 bt219.1 true))) else (fairleadlaw09_LexAhead.j2 k x5 (x6 ++ (⟨#[35, 32, 97, 10]⟩ : ByteArray)) bt214.1 bt219.1 true)) else (fairleadlaw09_LexAhead.j2 k x5 (x6 ++ (⟨#[35, 32, 97, 10]⟩ : ByteArray)) bt214.1 bt219.1 true))) else (none))) else (none))
def fairleadlaw09_LexAhead.j2 : Nat → Bool → ByteArray → List (S31) → List (S31) → Bool → Option (Bool)
  | 0, _, _, _, _, _ => none
  | k + 1, x5, x6, x8, x11, x78 => if x78 = true then (some false) else (fairleadlaw09_LexAhead.l1 k x5 x6 x8 x11 0)
def fairleadlaw09_LexAhead.l1 : Nat → Bool → ByteArray → List (S31) → List (S31) → Int → Option (Bool)
  | 0, _, _, _, _, _ => none
  | k + 1, x5, x6, x8, x11, x14 => if x14 < (x8.length : Int) then (if 0 ≤ x14 then (fairleadlaw09_LexAhead.l1 k x5 x6 (x8.set (x14 : Int).toNat (⟨(rd_T31 x8 x14).f0, wrap64 (((rd_T31 x8 x14).f1) + (x6.size : Int)), (rd_T31 x8 x14).f2, (rd_T31 x8 x14).f3⟩ : S31)) x11 (wrap64 (x14 + 1))) else (none)) else ((fairleadref09_Same.f k x8 x11).bind fun t226 => (if x5 = true then (some t226) else (some false)))
end
def fairleadlaw09_LexAhead.f (k : Nat) (a0 : ByteArray) (a1 : Int) : Option (Bool) := (fairleadlaw09_awake.f k).bind fun t213 => (if (a0.size : Int) > 4000 then (fairleadlaw09_LexAhead.j0 k a0 a1 t213 true) else (fairleadlaw09_LexAhead.j0 k a0 a1 t213 (decide (a1 < 0))))
theorem fairleadlaw09_LexAhead.mono_l : ∀ k, (∀ y0 y1 y2 y3, LeO (fairleadlaw09_LexAhead.j0 k y0 y1 y2 y3) (fairleadlaw09_LexAhead.j0 (k + 1) y0 y1 y2 y3)) ∧ (∀ y0 y1 y2 y3 y4, LeO (fairleadlaw09_LexAhead.l0 k y0 y1 y2 y3 y4) (fairleadlaw09_LexAhead.l0 (k + 1) y0 y1 y2 y3 y4)) ∧ (∀ y0 y1 y2 y3 y4, LeO (fairleadlaw09_LexAhead.j2 k y0 y1 y2 y3 y4) (fairleadlaw09_LexAhead.j2 (k + 1) y0 y1 y2 y3 y4)) ∧ (∀ y0 y1 y2 y3 y4, LeO (fairleadlaw09_LexAhead.l1 k y0 y1 y2 y3 y4) (fairleadlaw09_LexAhead.l1 (k + 1) y0 y1 y2 y3 y4))
  | 0 => ⟨fun _ _ _ _ r h => by simp [fairleadlaw09_LexAhead.j0] at h, fun _ _ _ _ _ r h => by simp [fairleadlaw09_LexAhead.l0] at h, fun _ _ _ _ _ r h => by simp [fairleadlaw09_LexAhead.j2] at h, fun _ _ _ _ _ r h => by simp [fairleadlaw09_LexAhead.l1] at h⟩
  | k + 1 => by
    obtain ⟨ih0, ih1, ih2, ih3⟩ := fairleadlaw09_LexAhead.mono_l k
    refine ⟨?_, ?_, ?_, ?_⟩
    · intro y0 y1 y2 y3
      unfold fairleadlaw09_LexAhead.j0
      repeat' first
      | (with_reducible exact ih0 _ _ _ _)
      | (with_reducible exact ih1 _ _ _ _ _)
      | (with_reducible exact ih2 _ _ _ _ _)
      | (with_reducible exact ih3 _ _ _ _ _)
      | (with_reducible exact fairleadlaw09_awake.mono _)
      | (with_reducible exact fairleadref09_Same.mono _ _ _)
      | (with_reducible exact lex_All.mono _ _)
      | (with_reducible exact LeO.refl _)
      | (with_reducible exact LeO.none _)
      | (with_reducible refine LeO.ite ?_ ?_)
      | (with_reducible refine LeO.bind ?_ (fun _ => ?_))
      | exact ih0 _ _ _ _
      | exact ih1 _ _ _ _ _
      | exact ih2 _ _ _ _ _
      | exact ih3 _ _ _ _ _
      | exact fairleadlaw09_awake.mono _
      | exact fairleadref09_Same.mono _ _ _
      | exact lex_All.mono _ _
      | exact LeO.none _
      | refine LeO.ite ?_ ?_
      | refine LeO.bind ?_ (fun _ => ?_)
    · intro y0 y1 y2 y3 y4
      unfold fairleadlaw09_LexAhead.l0
      repeat' first
      | (with_reducible exact ih0 _ _ _ _)
      | (with_reducible exact ih1 _ _ _ _ _)
      | (with_reducible exact ih2 _ _ _ _ _)
      | (with_reducible exact ih3 _ _ _ _ _)
      | (with_reducible exact fairleadlaw09_awake.mono _)
      | (with_reducible exact fairleadref09_Same.mono _ _ _)
      | (with_reducible exact lex_All.mono _ _)
      | (with_reducible exact LeO.refl _)
      | (with_reducible exact LeO.none _)
      | (with_reducible refine LeO.ite ?_ ?_)
      | (with_reducible refine LeO.bind ?_ (fun _ => ?_))
      | exact ih0 _ _ _ _
      | exact ih1 _ _ _ _ _
      | exact ih2 _ _ _ _ _
      | exact ih3 _ _ _ _ _
      | exact fairleadlaw09_awake.mono _
      | exact fairleadref09_Same.mono _ _ _
      | exact lex_All.mono _ _
      | exact LeO.none _
      | refine LeO.ite ?_ ?_
      | refine LeO.bind ?_ (fun _ => ?_)
    · intro y0 y1 y2 y3 y4
      unfold fairleadlaw09_LexAhead.j2
      repeat' first
      | (with_reducible exact ih0 _ _ _ _)
      | (with_reducible exact ih1 _ _ _ _ _)
      | (with_reducible exact ih2 _ _ _ _ _)
      | (with_reducible exact ih3 _ _ _ _ _)
      | (with_reducible exact fairleadlaw09_awake.mono _)
      | (with_reducible exact fairleadref09_Same.mono _ _ _)
      | (with_reducible exact lex_All.mono _ _)
      | (with_reducible exact LeO.refl _)
      | (with_reducible exact LeO.none _)
      | (with_reducible refine LeO.ite ?_ ?_)
      | (with_reducible refine LeO.bind ?_ (fun _ => ?_))
      | exact ih0 _ _ _ _
      | exact ih1 _ _ _ _ _
      | exact ih2 _ _ _ _ _
      | exact ih3 _ _ _ _ _
      | exact fairleadlaw09_awake.mono _
      | exact fairleadref09_Same.mono _ _ _
      | exact lex_All.mono _ _
      | exact LeO.none _
      | refine LeO.ite ?_ ?_
      | refine LeO.bind ?_ (fun _ => ?_)
    · intro y0 y1 y2 y3 y4
      unfold fairleadlaw09_LexAhead.l1
      repeat' first
      | (with_reducible exact ih0 _ _ _ _)
      | (with_reducible exact ih1 _ _ _ _ _)
      | (with_reducible exact ih2 _ _ _ _ _)
      | (with_reducible exact ih3 _ _ _ _ _)
      | (with_reducible exact fairleadlaw09_awake.mono _)
      | (with_reducible exact fairleadref09_Same.mono _ _ _)
      | (with_reducible exact lex_All.mono _ _)
      | (with_reducible exact LeO.refl _)
      | (with_reducible exact LeO.none _)
      | (with_reducible refine LeO.ite ?_ ?_)
      | (with_reducible refine LeO.bind ?_ (fun _ => ?_))
      | exact ih0 _ _ _ _
      | exact ih1 _ _ _ _ _
      | exact ih2 _ _ _ _ _
      | exact ih3 _ _ _ _ _
      | exact fairleadlaw09_awake.mono _
      | exact fairleadref09_Same.mono _ _ _
      | exact lex_All.mono _ _
      | exact LeO.none _
      | refine LeO.ite ?_ ?_
      | refine LeO.bind ?_ (fun _ => ?_)
theorem fairleadlaw09_LexAhead.mono : ∀ a0 a1 k, LeO (fairleadlaw09_LexAhead.f k a0 a1) (fairleadlaw09_LexAhead.f (k + 1) a0 a1) := by
  intro a0 a1 k
  obtain ⟨ih0, ih1, ih2, ih3⟩ := fairleadlaw09_LexAhead.mono_l k
  unfold fairleadlaw09_LexAhead.f
  repeat' first
      | (with_reducible exact ih0 _ _ _ _)
      | (with_reducible exact ih1 _ _ _ _ _)
      | (with_reducible exact ih2 _ _ _ _ _)
      | (with_reducible exact ih3 _ _ _ _ _)
      | (with_reducible exact fairleadlaw09_awake.mono _)
      | (with_reducible exact fairleadref09_Same.mono _ _ _)
      | (with_reducible exact lex_All.mono _ _)
      | (with_reducible exact LeO.refl _)
      | (with_reducible exact LeO.none _)
      | (with_reducible refine LeO.ite ?_ ?_)
      | (with_reducible refine LeO.bind ?_ (fun _ => ?_))
      | exact ih0 _ _ _ _
      | exact ih1 _ _ _ _ _
      | exact ih2 _ _ _ _ _
      | exact ih3 _ _ _ _ _
      | exact fairleadlaw09_awake.mono _
      | exact fairleadref09_Same.mono _ _ _
      | exact lex_All.mono _ _
      | exact LeO.none _
      | refine LeO.ite ?_ ?_
      | refine LeO.bind ?_ (fun _ => ?_)
set_option maxHeartbeats 8000000 in
set_option maxRecDepth 100000 in
theorem fairleadlaw09_LexAhead.calls (k : Nat) (a0 : ByteArray) (a1 : Int) (r : Bool) (w : World) (h : fairleadlaw09_LexAhead.f k a0 a1 = some r) :
    Calls Try.prog 7 #[.string a0, .int .i64 a1] w fun e w' => e = .returned (.bool r) ∧ Below w.heap.size w w' := by
  have HB := Aside0.mk (Below.refl w.heap.size w)
  have H : ((fairleadlaw09_awake.f k).bind fun t213 => (if (a0.size : Int) > 4000 then (fairleadlaw09_LexAhead.j0 k a0 a1 t213 true) else (fairleadlaw09_LexAhead.j0 k a0 a1 t213 (decide (a1 < 0))))) = some r := h
  clear h
  replace H := Option.bind_eq_some_iff.mp H
  obtain ⟨t213, A30, H⟩ := H
  replace H : (if (a0.size : Int) > 4000 then (fairleadlaw09_LexAhead.j0 k a0 a1 t213 true) else (fairleadlaw09_LexAhead.j0 k a0 a1 t213 (decide (a1 < 0)))) = some r := H
  have A3 := Aside0.mk A30
  clear A30
  have HC4 := Aside0.mk H
  clear H
  go_enter Try.func7, Try.ntmps7
  go_upto_region 2 with (first | ((with_reducible refine gate_callee (f := 9) rfl ?_); refine goesL_ (some 16) rfl rfl Try.func9 (by kernel_rfl) rfl #[] rfl (by (try simp only [List.map_toArray, List.map_cons, List.map_nil]); first | done | rfl | (simp only [List.length_drop, List.length_take]; rfl)) ?_; (with_reducible refine (fairleadlaw09_awake.calls k  t213 _ A3.out).mono ?_); rintro e w5 ⟨rfl, hb⟩; refine ⟨_, rfl, ?_⟩; have n0_ := Aside0.mk (below_step (by repeat (first | (with_reducible first | exact HB.out | apply below_alloc | apply pw_below_drewN | apply below_drew1) | exact HB.out)) hb); clear HB; have HB := n0_; clear n0_; (try clear hb); (try clear hb2); (try clear hk); (try clear hi)))
  (try simp only [Act.put, List.setIfInBounds_toArray, List.set_cons_zero, List.set_cons_succ])
  go_cut [23] (fun v23 wc => ∃ (kq : Nat) (x23_3 : Bool), v23 = .bool x23_3 ∧ Aside0 (fairleadlaw09_LexAhead.j0 kq a0 a1 t213 x23_3 = some r) ∧ Aside0 (kq ≤ k) ∧ Aside0 (Below w.heap.size w wc))
  case first =>
    have H := HC4.out
    clear HC4
    by_cases c6 : (a0.size : Int) > 4000
    · rw [if_pos c6] at H
      have c6b0 : decide (4000 < (a0.size : Int)) = true := decide_eq_true c6
      have c6b1 : decide (4000 < a0.size) = true := decide_eq_true (by omega)
      clear c6
      (first | rw [c6b0] | (simp only [i64_w, i32_w]; rw [c6b0]) | skip)
      have H' := Aside0.mk H
      clear H
      go_wp2
      go_meet
      case rel => exact ⟨_, (true), (by first | rfl | (simp; done) | (simp [*]; done)), H', ⟨by first | omega | exact Nat.le_refl _⟩, ⟨by repeat (first | (with_reducible first | exact HB.out | apply below_alloc | apply pw_below_drewN | apply below_drew1) | exact HB.out)⟩⟩
    · rw [if_neg c6] at H
      have c6b0 : decide (4000 < (a0.size : Int)) = false := decide_eq_false c6
      have c6b1 : decide (4000 < a0.size) = false := decide_eq_false (by omega)
      clear c6
      (first | rw [c6b0] | (simp only [i64_w, i32_w]; rw [c6b0]) | skip)
      have H' := Aside0.mk H
      clear H
      go_wp2
      go_meet
      case rel => exact ⟨_, (decide (a1 < 0)), (by first | rfl | (simp; done) | (simp [*]; done)), H', ⟨by first | omega | exact Nat.le_refl _⟩, ⟨by repeat (first | (with_reducible first | exact HB.out | apply below_alloc | apply pw_below_drewN | apply below_drew1) | exact HB.out)⟩⟩
  case rest =>
    clear HC4
    try clear p2
    try clear c6
    try clear c6b0
    try clear c6b1
    obtain ⟨kq, x23_3, rfl, HA, HJ3, HB⟩ := hcut
    cases kq with
    | zero => exact absurd HA.out (by simp [fairleadlaw09_LexAhead.j0])
    | succ kj3 =>
      have H := HA.out
      clear HA
      simp only [fairleadlaw09_LexAhead.j0] at H
      by_cases c7 : x23_3 = true
      · subst c7
        have H1 : (some t213) = some r := by rw [if_pos rfl] at H; exact H
        clear H
        have H := H1
        clear H1
        obtain rfl := Option.some.inj H
        go_wp2
        go_ret
        exact ⟨by first | rfl | (simp [errW_none, errW_some] <;> rfl) | (simp [*, errW_none, errW_some] <;> rfl), by repeat (first | (with_reducible first | exact HB.out | apply below_alloc | apply pw_below_drewN | apply below_drew1) | exact HB.out)⟩
      · replace c7 := Bool.eq_false_iff.mpr c7
        subst c7
        have H1 : (fairleadlaw09_LexAhead.l0 kj3 a0 a1 t213 (⟨#[]⟩ : ByteArray) 0) = some r := by rw [if_neg (show ¬ (false = true) by decide)] at H; exact H
        clear H
        have H := H1
        clear H1
        have H' := Aside0.mk H
        clear H
        go_wp2
        go_loopg [6, 7] kj3 (fun kq v6 v7 w' => ∃ (x6_2 : ByteArray) (x7_2 : Int), v6 = .string x6_2 ∧ v7 = .int .i64 x7_2 ∧ Aside0 (fairleadlaw09_LexAhead.l0 kq a0 a1 t213 x6_2 x7_2 = some r) ∧ Aside0 (kq ≤ kj3) ∧ Aside0 (Below w.heap.size w w'))
        case atStart => exact ⟨((⟨#[]⟩ : ByteArray)), (0), (by first | rfl | (simp; done) | (simp [*]; done)), (by first | rfl | (simp; done) | (simp [*]; done)), H', ⟨Nat.le_refl _⟩, ⟨by repeat (first | (with_reducible first | exact HB.out | apply below_alloc | apply pw_below_drewN | apply below_drew1) | exact HB.out)⟩⟩
        case round =>
          clear H'
          try clear p2
          try clear c6
          try clear c6b0
          try clear c6b1
          try clear c7
          try clear p2
          obtain ⟨x6_2, x7_2, rfl, rfl, HA, HK2, HB⟩ := hrel
          cases gk with
          | zero => exact absurd HA.out (by simp [fairleadlaw09_LexAhead.l0])
          | succ k2 =>
            have H := HA.out
            clear HA
            simp only [fairleadlaw09_LexAhead.l0] at H
            by_cases c8 : x7_2 < (Int.tmod a1 30)
            · rw [if_pos c8] at H
              have c8b0 : decide (x7_2 < (Int.tmod a1 30)) = true := decide_eq_true c8
              clear c8
              by_cases c9 : x6_2.size + 1 ≤ 9223372036854775807
              · rw [if_pos c9] at H
                have c9b0 := eq_true c9
                have c9b1 : decide (x6_2.size + 1 ≤ 9223372036854775807) = true := decide_eq_true c9
                try have c9b2 : (9223372036854775807 < x6_2.size + 1) = False := eq_false (Nat.not_lt.2 c9)
                have H' := Aside0.mk H
                clear H
                go_wp2
                go_roundg k2
                case measure => have := HJ3.out; have := HK2.out; omega
                case rel => exact ⟨(x6_2 ++ (⟨#[10]⟩ : ByteArray)), (wrap64 (x7_2 + 1)), (by first | rfl | (simp; done) | (simp [*]; done)), (by first | rfl | (simp; done) | (simp [*]; done)), H', ⟨by have := HJ3.out; have := HK2.out; omega⟩, ⟨by repeat (first | (with_reducible first | exact HB.out | apply below_alloc | apply pw_below_drewN | apply below_drew1) | exact HB.out)⟩⟩
              · rw [if_neg c9] at H
                exact absurd H (by simp)
            · rw [if_neg c8] at H
              have c8b0 : decide (x7_2 < (Int.tmod a1 30)) = false := decide_eq_false c8
              clear c8
              by_cases c10 : x6_2.size + 4 ≤ 9223372036854775807
              · rw [if_pos c10] at H
                have c10b0 := eq_true c10
                have c10b1 : decide (x6_2.size + 4 ≤ 9223372036854775807) = true := decide_eq_true c10
                try have c10b2 : (9223372036854775807 < x6_2.size + 4) = False := eq_false (Nat.not_lt.2 c10)
                replace H := Option.bind_eq_some_iff.mp H
                obtain ⟨⟨t214, t215, t216⟩, A110, H⟩ := H
                replace H : (if (x6_2 ++ (⟨#[35, 32, 97, 10]⟩ : ByteArray)).size + a0.size ≤ 9223372036854775807 then ((lex_All.f k2 ((x6_2 ++ (⟨#[35, 32, 97, 10]⟩ : ByteArray)) ++ a0)).bind fun bt219 => (if t215 = bt219.2.1 then (if (t214.length : Int) = (bt219.1.length : Int) then (if t215 = 0 then (fairleadlaw09_LexAhead.j2 k2 t213 (x6_2 ++ (⟨#[35, 32, 97, 10]⟩ : ByteArray)) t214 bt219.1 (bt219.2.2 != (-1))) else (if bt219.2.2 = (wrap64 (t216 + ((x6_2 ++ (⟨#[35, 32, 97, 10]⟩ : ByteArray)).size : Int))) then (fairleadlaw09_LexAhead.j2 k2 t213 (x6_2 ++ (⟨#[35, 32, 97, 10]⟩ : ByteArray)) t214 bt219.1 false) else (fairleadlaw09_LexAhead.j2 k2 t213 (x6_2 ++ (⟨#[35, 32, 97, 10]⟩ : ByteArray)) t214 bt219.1 true))) else (fairleadlaw09_LexAhead.j2 k2 t213 (x6_2 ++ (⟨#[35, 32, 97, 10]⟩ : ByteArray)) t214 bt219.1 true)) else (fairleadlaw09_LexAhead.j2 k2 t213 (x6_2 ++ (⟨#[35, 32, 97, 10]⟩ : ByteArray)) t214 bt219.1 true))) else (none)) = some r := H
                have A11 := Aside0.mk A110
                clear A110
                by_cases c12 : (x6_2 ++ (⟨#[35, 32, 97, 10]⟩ : ByteArray)).size + a0.size ≤ 9223372036854775807
                · rw [if_pos c12] at H
                  have c12b0 := eq_true c12
                  have c12b1 : decide ((x6_2 ++ (⟨#[35, 32, 97, 10]⟩ : ByteArray)).size + a0.size ≤ 9223372036854775807) = true := decide_eq_true c12
                  (try (have c12b1s := c12b1; simp only [ByteArray.size_append, Int.natCast_add, Int.cast_ofNat_Int, show (⟨#[35, 32, 97, 10]⟩ : ByteArray).size = 4 from rfl] at c12b1s))
                  (try (have c12h := c12; simp only [ByteArray.size_append] at c12h; have c12b5 := eq_true c12h; have c12b6 := eq_false (Nat.not_lt.2 c12h); clear c12h))
                  try have c12b2 : (9223372036854775807 < (x6_2 ++ (⟨#[35, 32, 97, 10]⟩ : ByteArray)).size + a0.size) = False := eq_false (Nat.not_lt.2 c12)
                  replace H := Option.bind_eq_some_iff.mp H
                  obtain ⟨⟨t219, t220, t221⟩, A130, H⟩ := H
                  replace H : (if t215 = t220 then (if (t214.length : Int) = (t219.length : Int) then (if t215 = 0 then (fairleadlaw09_LexAhead.j2 k2 t213 (x6_2 ++ (⟨#[35, 32, 97, 10]⟩ : ByteArray)) t214 t219 (t221 != (-1))) else (if t221 = (wrap64 (t216 + ((x6_2 ++ (⟨#[35, 32, 97, 10]⟩ : ByteArray)).size : Int))) then (fairleadlaw09_LexAhead.j2 k2 t213 (x6_2 ++ (⟨#[35, 32, 97, 10]⟩ : ByteArray)) t214 t219 false) else (fairleadlaw09_LexAhead.j2 k2 t213 (x6_2 ++ (⟨#[35, 32, 97, 10]⟩ : ByteArray)) t214 t219 true))) else (fairleadlaw09_LexAhead.j2 k2 t213 (x6_2 ++ (⟨#[35, 32, 97, 10]⟩ : ByteArray)) t214 t219 true)) else (fairleadlaw09_LexAhead.j2 k2 t213 (x6_2 ++ (⟨#[35, 32, 97, 10]⟩ : ByteArray)) t214 t219 true)) = some r := H
                  have A13 := Aside0.mk A130
                  clear A130
                  have HC14 := Aside0.mk H
                  clear H
                  go_upto_region 12 with (first | ((with_reducible refine gate_callee (f := 10) rfl ?_); refine goesL_ (some 37) rfl rfl Try.func10 (by kernel_rfl) rfl #[.string a0] rfl (by (try simp only [List.map_toArray, List.map_cons, List.map_nil]); first | done | rfl | (simp only [List.length_drop, List.length_take]; rfl)) ?_; (with_reducible refine (lex_All.calls k2 a0 t214 t215 t216 _ A11.out).mono ?_); rintro e w15 ⟨v217, rfl, ho0, hb⟩; refine ⟨_, rfl, ?_⟩; have n0_ := Aside0.mk (Kd.R_lower ho0 (below_size (by repeat (first | (with_reducible first | exact HB.out | apply below_alloc | apply pw_below_drewN | apply below_drew1) | exact HB.out)))); have n1_ := Aside0.mk (below_step (by repeat (first | (with_reducible first | exact HB.out | apply below_alloc | apply pw_below_drewN | apply below_drew1) | exact HB.out)) hb); clear HB; have HO218 := n0_; have HB := n1_; clear n0_ n1_; (try clear hb); (try clear hb2); (try clear hk); (try clear hi); (try clear ho0)) | ((with_reducible refine gate_callee (f := 10) rfl ?_); refine goesL_ (some 45) rfl rfl Try.func10 (by kernel_rfl) rfl #[.string ((x6_2 ++ (⟨#[35, 32, 97, 10]⟩ : ByteArray)) ++ a0)] rfl (by (try simp only [List.map_toArray, List.map_cons, List.map_nil]); first | done | rfl | (simp only [List.length_drop, List.length_take]; rfl)) ?_; (with_reducible refine (lex_All.calls k2 ((x6_2 ++ (⟨#[35, 32, 97, 10]⟩ : ByteArray)) ++ a0) t219 t220 t221 _ A13.out).mono ?_); rintro e w16 ⟨v222, rfl, ho0, hb⟩; refine ⟨_, rfl, ?_⟩; have n0_ := Aside0.mk (Kd.R_elder' (by (with_reducible repeat (first | apply Kd.R_alloc | apply Kd.R_drewN | apply Kd.R_drew)); exact HO218.out) (Kd.R_base ho0) hb); have n1_ := Aside0.mk (Kd.R_lower (Kd.R_new' ho0 (Kd.R_lt (by (with_reducible repeat (first | apply Kd.R_alloc | apply Kd.R_drewN | apply Kd.R_drew)); exact HO218.out))) (below_size (by repeat (first | (with_reducible first | exact HB.out | apply below_alloc | apply pw_below_drewN | apply below_drew1) | exact HB.out)))); have n2_ := Aside0.mk (below_step (by repeat (first | (with_reducible first | exact HB.out | apply below_alloc | apply pw_below_drewN | apply below_drew1) | exact HB.out)) hb); clear HO218; clear HB; have HO218 := n0_; have HO223 := n1_; have HB := n2_; clear n0_ n1_ n2_; (try clear hb); (try clear hb2); (try clear hk); (try clear hi); (try clear ho0)))
                  (try simp only [Act.put, List.setIfInBounds_toArray, List.set_cons_zero, List.set_cons_succ])
                  go_cut [78] (fun v78 wc => ∃ (kq : Nat) (x78_13 : Bool), v78 = .bool x78_13 ∧ Aside0 (fairleadlaw09_LexAhead.j2 kq t213 (x6_2 ++ (⟨#[35, 32, 97, 10]⟩ : ByteArray)) t214 t219 x78_13 = some r) ∧ Aside0 (kq ≤ k2) ∧ Aside0 (Kd.R k31 31 wc w.heap.size (fun k_ => some k_ ≠ (v222 : Value).ownBlock) v217 t214) ∧ Aside0 (Kd.R k31 31 wc w.heap.size (fun k_ => some k_ ≠ (v217 : Value).ownBlock) v222 t219) ∧ Aside0 (Below w.heap.size w wc))
                  case first =>
                    have H := HC14.out
                    clear HC14
                    by_cases c17 : t215 = t220
                    · rw [if_pos c17] at H
                      have c17b0 : (t215 == t220) = true := beq_iff_eq.mpr c17
                      have c17b1 : (t215 != t220) = false := bne_eq_false_iff_eq.mpr c17
                      clear c17
                      (first | rw [c17b0] | (simp only [i64_w, i32_w]; rw [c17b0]) | skip)
                      by_cases c18 : (t214.length : Int) = (t219.length : Int)
                      · rw [if_pos c18] at H
                        have c18b0 : ((t214.length : Int) == (t219.length : Int)) = true := beq_iff_eq.mpr c18
                        have c18b1 : ((t214.length : Int) != (t219.length : Int)) = false := bne_eq_false_iff_eq.mpr c18
                        have c18b2 : (t214.length == t219.length) = true := by first | simpa using c18 | (simp at c18 ⊢; omega)
                        clear c18
                        by_cases c19 : t215 = 0
                        · rw [if_pos c19] at H
                          have c19b0 : (t215 == 0) = true := beq_iff_eq.mpr c19
                          have c19b1 : (t215 != 0) = false := bne_eq_false_iff_eq.mpr c19
                          clear c19
                          have H' := Aside0.mk H
                          clear H
                          obtain ⟨Ao20, co20, eo20⟩ := Kd.R_slice HO218.out
                          subst eo20
                          obtain ⟨Ao21, co21, eo21⟩ := Kd.R_slice HO223.out
                          subst eo21
                          go_wp2
                          go_meet
                          case rel => exact ⟨_, ((t221 != (-1))), (by first | rfl | (simp; done) | (simp [*]; done)), H', ⟨by have := HJ3.out; have := HK2.out; first | omega | exact Nat.le_refl _⟩, ⟨by (with_reducible repeat (first | apply Kd.R_alloc | apply Kd.R_drewN | apply Kd.R_drew)); exact Kd.R_mono HO218.out (fun _ hk => by first | exact hk.2 | exact hk | exact trivial)⟩, ⟨by (with_reducible repeat (first | apply Kd.R_alloc | apply Kd.R_drewN | apply Kd.R_drew)); exact Kd.R_mono HO223.out (fun _ hk => by first | exact hk.2 | exact hk | exact trivial)⟩, ⟨by repeat (first | (with_reducible first | exact HB.out | apply below_alloc | apply pw_below_drewN | apply below_drew1) | exact HB.out)⟩⟩
                        · rw [if_neg c19] at H
                          have c19b0 : (t215 == 0) = false := beq_eq_false_iff_ne.mpr c19
                          have c19b1 : (t215 != 0) = true := bne_iff_ne.mpr c19
                          by_cases c22 : t221 = (wrap64 (t216 + ((x6_2 ++ (⟨#[35, 32, 97, 10]⟩ : ByteArray)).size : Int)))
                          · rw [if_pos c22] at H
                            have c22b0 : (t221 == (wrap64 (t216 + ((x6_2 ++ (⟨#[35, 32, 97, 10]⟩ : ByteArray)).size : Int)))) = true := beq_iff_eq.mpr c22
                            (try (have c22b0s := c22b0; simp only [ByteArray.size_append, Int.natCast_add, Int.cast_ofNat_Int, show (⟨#[35, 32, 97, 10]⟩ : ByteArray).size = 4 from rfl] at c22b0s))
                            have c22b1 : (t221 != (wrap64 (t216 + ((x6_2 ++ (⟨#[35, 32, 97, 10]⟩ : ByteArray)).size : Int)))) = false := bne_eq_false_iff_eq.mpr c22
                            (try (have c22b1s := c22b1; simp only [ByteArray.size_append, Int.natCast_add, Int.cast_ofNat_Int, show (⟨#[35, 32, 97, 10]⟩ : ByteArray).size = 4 from rfl] at c22b1s))
                            clear c22
                            have H' := Aside0.mk H
                            clear H
                            obtain ⟨Ao23, co23, eo23⟩ := Kd.R_slice HO218.out
                            subst eo23
                            obtain ⟨Ao24, co24, eo24⟩ := Kd.R_slice HO223.out
                            subst eo24
                            go_wp2
                            go_meet
                            case rel => exact ⟨_, (false), (by first | rfl | (simp; done) | (simp [*]; done)), H', ⟨by have := HJ3.out; have := HK2.out; first | omega | exact Nat.le_refl _⟩, ⟨by (with_reducible repeat (first | apply Kd.R_alloc | apply Kd.R_drewN | apply Kd.R_drew)); exact Kd.R_mono HO218.out (fun _ hk => by first | exact hk.2 | exact hk | exact trivial)⟩, ⟨by (with_reducible repeat (first | apply Kd.R_alloc | apply Kd.R_drewN | apply Kd.R_drew)); exact Kd.R_mono HO223.out (fun _ hk => by first | exact hk.2 | exact hk | exact trivial)⟩, ⟨by repeat (first | (with_reducible first | exact HB.out | apply below_alloc | apply pw_below_drewN | apply below_drew1) | exact HB.out)⟩⟩
                          · rw [if_neg c22] at H
                            have c22b0 : (t221 == (wrap64 (t216 + ((x6_2 ++ (⟨#[35, 32, 97, 10]⟩ : ByteArray)).size : Int)))) = false := beq_eq_false_iff_ne.mpr c22
                            (try (have c22b0s := c22b0; simp only [ByteArray.size_append, Int.natCast_add, Int.cast_ofNat_Int, show (⟨#[35, 32, 97, 10]⟩ : ByteArray).size = 4 from rfl] at c22b0s))
                            have c22b1 : (t221 != (wrap64 (t216 + ((x6_2 ++ (⟨#[35, 32, 97, 10]⟩ : ByteArray)).size : Int)))) = true := bne_iff_ne.mpr c22
                            (try (have c22b1s := c22b1; simp only [ByteArray.size_append, Int.natCast_add, Int.cast_ofNat_Int, show (⟨#[35, 32, 97, 10]⟩ : ByteArray).size = 4 from rfl] at c22b1s))
                            have H' := Aside0.mk H
                            clear H
                            obtain ⟨Ao25, co25, eo25⟩ := Kd.R_slice HO218.out
                            subst eo25
                            obtain ⟨Ao26, co26, eo26⟩ := Kd.R_slice HO223.out
                            subst eo26
                            go_wp2
                            go_meet
                            case rel => exact ⟨_, (true), (by first | rfl | (simp; done) | (simp [*]; done)), H', ⟨by have := HJ3.out; have := HK2.out; first | omega | exact Nat.le_refl _⟩, ⟨by (with_reducible repeat (first | apply Kd.R_alloc | apply Kd.R_drewN | apply Kd.R_drew)); exact Kd.R_mono HO218.out (fun _ hk => by first | exact hk.2 | exact hk | exact trivial)⟩, ⟨by (with_reducible repeat (first | apply Kd.R_alloc | apply Kd.R_drewN | apply Kd.R_drew)); exact Kd.R_mono HO223.out (fun _ hk => by first | exact hk.2 | exact hk | exact trivial)⟩, ⟨by repeat (first | (with_reducible first | exact HB.out | apply below_alloc | apply pw_below_drewN | apply below_drew1) | exact HB.out)⟩⟩
                      · rw [if_neg c18] at H
                        have c18b0 : ((t214.length : Int) == (t219.length : Int)) = false := beq_eq_false_iff_ne.mpr c18
                        have c18b1 : ((t214.length : Int) != (t219.length : Int)) = true := bne_iff_ne.mpr c18
                        have c18b2 : (t214.length == t219.length) = false := by first | simpa using c18 | (simp at c18 ⊢; omega)
                        have H' := Aside0.mk H
                        clear H
                        obtain ⟨Ao27, co27, eo27⟩ := Kd.R_slice HO218.out
                        subst eo27
                        obtain ⟨Ao28, co28, eo28⟩ := Kd.R_slice HO223.out
                        subst eo28
                        go_wp2
                        go_meet
                        case rel => exact ⟨_, (true), (by first | rfl | (simp; done) | (simp [*]; done)), H', ⟨by have := HJ3.out; have := HK2.out; first | omega | exact Nat.le_refl _⟩, ⟨by (with_reducible repeat (first | apply Kd.R_alloc | apply Kd.R_drewN | apply Kd.R_drew)); exact Kd.R_mono HO218.out (fun _ hk => by first | exact hk.2 | exact hk | exact trivial)⟩, ⟨by (with_reducible repeat (first | apply Kd.R_alloc | apply Kd.R_drewN | apply Kd.R_drew)); exact Kd.R_mono HO223.out (fun _ hk => by first | exact hk.2 | exact hk | exact trivial)⟩, ⟨by repeat (first | (with_reducible first | exact HB.out | apply below_alloc | apply pw_below_drewN | apply below_drew1) | exact HB.out)⟩⟩
                    · rw [if_neg c17] at H
                      have c17b0 : (t215 == t220) = false := beq_eq_false_iff_ne.mpr c17
                      have c17b1 : (t215 != t220) = true := bne_iff_ne.mpr c17
                      (first | rw [c17b0] | (simp only [i64_w, i32_w]; rw [c17b0]) | skip)
                      have H' := Aside0.mk H
                      clear H
                      go_wp2
                      go_meet
                      case rel => exact ⟨_, (true), (by first | rfl | (simp; done) | (simp [*]; done)), H', ⟨by have := HJ3.out; have := HK2.out; first | omega | exact Nat.le_refl _⟩, ⟨by (with_reducible repeat (first | apply Kd.R_alloc | apply Kd.R_drewN | apply Kd.R_drew)); exact Kd.R_mono HO218.out (fun _ hk => by first | exact hk.2 | exact hk | exact trivial)⟩, ⟨by (with_reducible repeat (first | apply Kd.R_alloc | apply Kd.R_drewN | apply Kd.R_drew)); exact Kd.R_mono HO223.out (fun _ hk => by first | exact hk.2 | exact hk | exact trivial)⟩, ⟨by repeat (first | (with_reducible first | exact HB.out | apply below_alloc | apply pw_below_drewN | apply below_drew1) | exact HB.out)⟩⟩
                  case rest =>
                    clear HC14
                    try clear c1
                    try clear c2
                    try clear p2
                    try clear c6
                    try clear c6b0
                    try clear c6b1
                    try clear p6
                    try clear c7
                    try clear c8
                    try clear c8b0
                    try clear c9
                    try clear c9b0
                    try clear c9b1
                    try clear c9b2
                    try clear c10
                    try clear c10b0
                    try clear c10b1
                    try clear c10b2
                    try clear c12
                    try clear c12b0
                    try clear c12b1
                    try clear c12b2
                    try clear c17
                    try clear c17b0
                    try clear c17b1
                    try clear c18
                    try clear c18b0
                    try clear c18b1
                    try clear c18b2
                    try clear c19
                    try clear c19b0
                    try clear c19b1
                    try clear c22
                    try clear c22b0
                    try clear c22b1
                    try clear p2
                    obtain ⟨kq, x78_13, rfl, HA, HJ13, HO_8, HO_11, HB⟩ := hcut
                    cases kq with
                    | zero => exact absurd HA.out (by simp [fairleadlaw09_LexAhead.j2])
                    | succ kj13 =>
                      have H := HA.out
                      clear HA
                      simp only [fairleadlaw09_LexAhead.j2] at H
                      by_cases c29 : x78_13 = true
                      · subst c29
                        have H1 : (some false) = some r := by rw [if_pos rfl] at H; exact H
                        clear H
                        have H := H1
                        clear H1
                        obtain rfl := Option.some.inj H
                        go_wp2
                        go_ret
                        exact ⟨by first | rfl | (simp [errW_none, errW_some] <;> rfl) | (simp [*, errW_none, errW_some] <;> rfl), by repeat (first | (with_reducible first | exact HB.out | apply below_alloc | apply pw_below_drewN | apply below_drew1) | exact HB.out)⟩
                      · replace c29 := Bool.eq_false_iff.mpr c29
                        subst c29
                        have H1 : (fairleadlaw09_LexAhead.l1 kj13 t213 (x6_2 ++ (⟨#[35, 32, 97, 10]⟩ : ByteArray)) t214 t219 0) = some r := by rw [if_neg (show ¬ (false = true) by decide)] at H; exact H
                        clear H
                        have H := H1
                        clear H1
                        have H' := Aside0.mk H
                        clear H
                        go_wp2
                        go_loopg [14] kj13 (fun kq v14 w' => ∃ (x8_4 : List (S31)) (x14_4 : Int), v14 = .int .i64 x14_4 ∧ Aside0 (fairleadlaw09_LexAhead.l1 kq t213 (x6_2 ++ (⟨#[35, 32, 97, 10]⟩ : ByteArray)) x8_4 t219 x14_4 = some r) ∧ Aside0 (kq ≤ kj13) ∧ Aside0 (Kd.R k31 31 w' w.heap.size (fun k_ => some k_ ≠ (v222 : Value).ownBlock) v217 x8_4) ∧ Aside0 (Kd.R k31 31 w' w.heap.size (fun k_ => some k_ ≠ (v217 : Value).ownBlock) v222 t219) ∧ Aside0 (Below w.heap.size w w'))
                        case atStart => exact ⟨(t214), (0), (by first | rfl | (simp; done) | (simp [*]; done)), H', ⟨Nat.le_refl _⟩, ⟨by (with_reducible repeat (first | apply Kd.R_alloc | apply Kd.R_drewN | apply Kd.R_drew)); exact HO_8.out⟩, ⟨by (with_reducible repeat (first | apply Kd.R_alloc | apply Kd.R_drewN | apply Kd.R_drew)); exact HO_11.out⟩, ⟨by repeat (first | (with_reducible first | exact HB.out | apply below_alloc | apply pw_below_drewN | apply below_drew1) | exact HB.out)⟩⟩
                        case round =>
                          clear H'
                          try clear c1
                          try clear c2
                          try clear p2
                          try clear c6
                          try clear c6b0
                          try clear c6b1
                          try clear p6
                          try clear c7
                          try clear c8
                          try clear c8b0
                          try clear c9
                          try clear c9b0
                          try clear c9b1
                          try clear c9b2
                          try clear c10
                          try clear c10b0
                          try clear c10b1
                          try clear c10b2
                          try clear c12
                          try clear c12b0
                          try clear c12b1
                          try clear c12b2
                          try clear c17
                          try clear c17b0
                          try clear c17b1
                          try clear c18
                          try clear c18b0
                          try clear c18b1
                          try clear c18b2
                          try clear c19
                          try clear c19b0
                          try clear c19b1
                          try clear c22
                          try clear c22b0
                          try clear c22b1
                          try clear c29
                          try clear p2
                          try clear p6
                          obtain ⟨x8_4, x14_4, rfl, HA, HK4, HO_8, HO_11, HB⟩ := hrel
                          cases gk with
                          | zero => exact absurd HA.out (by simp [fairleadlaw09_LexAhead.l1])
                          | succ k4 =>
                            have H := HA.out
                            clear HA
                            simp only [fairleadlaw09_LexAhead.l1] at H
                            by_cases c30 : x14_4 < (x8_4.length : Int)
                            · rw [if_pos c30] at H
                              have c30b0 : decide (x14_4 < (x8_4.length : Int)) = true := decide_eq_true c30
                              clear c30
                              by_cases c31 : 0 ≤ x14_4
                              · rw [if_pos c31] at H
                                have c31b0 : decide (0 ≤ x14_4) = true := decide_eq_true c31
                                clear c31
                                obtain ⟨y225, hy225⟩ : ∃ y_ : List (S31), y_ = (x8_4.set (x14_4 : Int).toNat (⟨(rd_T31 x8_4 x14_4).f0, wrap64 (((rd_T31 x8_4 x14_4).f1) + ((x6_2 ++ (⟨#[35, 32, 97, 10]⟩ : ByteArray)).size : Int)), (rd_T31 x8_4 x14_4).f2, (rd_T31 x8_4 x14_4).f3⟩ : S31)) := ⟨_, rfl⟩
                                replace H : (fairleadlaw09_LexAhead.l1 k4 t213 (x6_2 ++ (⟨#[35, 32, 97, 10]⟩ : ByteArray)) y225 t219 (wrap64 (x14_4 + 1))) = some r := by first | (rw [hy225]; with_reducible exact H) | (have H2_ := (Option.bind_some _ _).symm.trans H; rw [hy225]; with_reducible exact H2_) | (have H2_ := (Option.bind_some _ _).symm.trans H; with_reducible exact H2_) | with_reducible exact H | (rw [hy225]; exact H) | exact H
                                have Ny225 := Aside0.mk hy225
                                clear hy225
                                have H' := Aside0.mk H
                                clear H
                                obtain ⟨Ao33, co33, eo33⟩ := Kd.R_slice HO_8.out
                                subst eo33
                                have p224 : 0 ≤ (x14_4 : Int) := of_decide_eq_true (by first | (with_reducible assumption) | assumption)
                                have q224 : x14_4 < (x8_4.length : Int) := of_decide_eq_true (by first | (with_reducible assumption) | assumption)
                                obtain ⟨ad224, e224, hx224_0, hx224_1, hx224_2, hx224_3⟩ := at_T31 (Kd.R_reads' HO_8.out).2.2 x14_4 p224 q224
                                cases e224
                                replace p224 := eq_true p224
                                replace q224 := eq_true q224
                                have p32 : 0 ≤ (x14_4 : Int) := of_decide_eq_true (by first | (with_reducible assumption) | assumption)
                                have q32 : (x14_4 : Int) < ((x8_4.length : Int) : Int) := of_decide_eq_true (by first | (with_reducible assumption) | assumption)
                                obtain ⟨go32, co32, eo32, gb32, gl32, cl32, HG32⟩ := Kd.R_form HO_8.out (by omega)
                                (first | cases eo32 | (injection eo32 with ea_ en_ ec_; (first | subst ea_ | (injection ea_ with ea_; subst ea_)); subst ec_; clear en_))
                                have GB32 := Aside0.mk gb32
                                have GG32 := Aside0.mk HG32
                                clear gb32 gl32 HG32
                                (first | simp only [add_plain] at hx224_0 | skip)
                                (first | simp only [add_plain] at hx224_1 | skip)
                                (first | simp only [add_plain] at hx224_2 | skip)
                                (first | simp only [add_plain] at hx224_3 | skip)
                                obtain ⟨ce32, hcl32, hM32, hcc32, hfr32⟩ := Kd.R_elem HO_8.out z31 (x14_4 : Int) p32 q32
                                obtain rfl := k31_openM hM32
                                have hx32_0 : wr.cell? ⟨go32, (x14_4 : Int).toNat * 4, none⟩ = some (.int .i64 ((rd_T31 x8_4 x14_4).f0)) := hcc32 0 _ rfl
                                have hx32_1 : wr.cell? ⟨go32, (x14_4 : Int).toNat * 4 + 1, none⟩ = some (.int .i64 ((rd_T31 x8_4 x14_4).f1)) := hcc32 1 _ rfl
                                have hx32_2 : wr.cell? ⟨go32, (x14_4 : Int).toNat * 4 + 2, none⟩ = some (.string ((rd_T31 x8_4 x14_4).f2)) := hcc32 2 _ rfl
                                have hx32_3 : wr.cell? ⟨go32, (x14_4 : Int).toNat * 4 + 3, none⟩ = some (.int .u64 ((rd_T31 x8_4 x14_4).f3)) := hcc32 3 _ rfl
                                have hf32_0 : wr.frozen? ⟨go32, (x14_4 : Int).toNat * 4, none⟩ = false := hfr32 0
                                have hf32_1 : wr.frozen? ⟨go32, (x14_4 : Int).toNat * 4 + 1, none⟩ = false := hfr32 1
                                have hf32_2 : wr.frozen? ⟨go32, (x14_4 : Int).toNat * 4 + 2, none⟩ = false := hfr32 2
                                have hf32_3 : wr.frozen? ⟨go32, (x14_4 : Int).toNat * 4 + 3, none⟩ = false := hfr32 3
                                clear hcl32 hcc32 hfr32 hM32
                                replace p32 := eq_true p32
                                replace q32 := eq_true q32
                                have HX34 := Aside0.mk (show Kd.R k31 31 wr w.heap.size (fun k_ => some k_ ≠ (v222 : Value).ownBlock) (.slice (some ⟨go32, 0, none⟩) x8_4.length co33) x8_4 from (by (with_reducible repeat (first | apply Kd.R_alloc | apply Kd.R_drewN | apply Kd.R_drew)); exact HO_8.out))
                                obtain ⟨ce34, hcl34, hM34, hcc34, hfr34⟩ := Kd.R_elem HX34.out z31 (x14_4 : Int) (of_decide_eq_true (by first | (with_reducible assumption) | assumption)) (by have h_ : (x14_4 : Int) < ((x8_4.length : Int) : Int) := of_decide_eq_true (by first | (with_reducible assumption) | assumption); first | exact h_ | (have e_ := (Kd.R_reads' HO_8.out).1; omega) | simpa using h_)
                                obtain rfl := k31_openM hM34
                                have HP34 := Kd.R_seg HX34.out (x14_4 : Int) (of_decide_eq_true (by first | (with_reducible assumption) | assumption)) (by have h_ : (x14_4 : Int) < ((x8_4.length : Int) : Int) := of_decide_eq_true (by first | (with_reducible assumption) | assumption); first | exact h_ | (have e_ := (Kd.R_reads' HO_8.out).1; omega) | simpa using h_) (seg := [.int .i64 (wrap64 (((rd_T31 x8_4 x14_4).f1) + ((x6_2 ++ (⟨#[35, 32, 97, 10]⟩ : ByteArray)).size : Int)))]) (j := 1) hcl34 hcc34 (show 2 ≤ 4 from by decide) (x' := (⟨(rd_T31 x8_4 x14_4).f0, wrap64 (((rd_T31 x8_4 x14_4).f1) + ((x6_2 ++ (⟨#[35, 32, 97, 10]⟩ : ByteArray)).size : Int)), (rd_T31 x8_4 x14_4).f2, (rd_T31 x8_4 x14_4).f3⟩ : S31)) (k31_mkM _ _ _ (⟨(rd_T31 x8_4 x14_4).f0, wrap64 (((rd_T31 x8_4 x14_4).f1) + ((x6_2 ++ (⟨#[35, 32, 97, 10]⟩ : ByteArray)).size : Int)), (rd_T31 x8_4 x14_4).f2, (rd_T31 x8_4 x14_4).f3⟩ : S31) ) (fun _ hk => hk)
                                have hx34_1 := hcc34 1 _ rfl
                                (try simp only [show (k31).sz = 4 from rfl, Nat.mul_one, Nat.add_zero] at hx34_1)
                                have hf34_1 := hfr34 1
                                (try simp only [show (k31).sz = 4 from rfl, Nat.mul_one, Nat.add_zero] at hf34_1)
                                clear hcl34 hcc34 hfr34 hM34
                                go_wp2_with (first | ((with_reducible refine gate_store (t := 3) (p := 96) rfl ?_); refine store_event (t := 3) (p := 96) (v := ?vo_w35) (w1 := (wr.setCell ⟨go32, (x14_4 : Int).toNat * 4 + 1, none⟩ (.int .i64 (wrap64 (((rd_T31 x8_4 x14_4).f1) + ((x6_2 ++ (⟨#[35, 32, 97, 10]⟩ : ByteArray)).size : Int)))))) ?hg ?ho ?hn ?hr ?_; (case ho => rfl); (case hg => rfl); (case hn => rfl); (case hr => first | (go_simp; done) | (go_simp; rfl)); intro w35 hw; have hg : wr.grownBy w35 (some go32) := (by rw [hw]; exact HP34.2); have hp_ : Kd.R k31 31 w35 w.heap.size (fun k_ => some k_ ≠ (v222 : Value).ownBlock) (.slice (some ⟨go32, 0, none⟩) x8_4.length co33) y225 := (by rw [hw, Ny225.out]; exact HP34.1); clear HP34; have n0_ := Aside0.mk (hp_); have n1_ := Aside0.mk (Kd.R_after (v := (.slice (some ⟨go32, 0, none⟩) x8_4.length co33)) (v1 := (.slice (some ⟨go32, 0, none⟩) x8_4.length co33)) (ok := (fun _ => True)) (by (with_reducible repeat (first | apply Kd.R_alloc | apply Kd.R_drewN | apply Kd.R_drew)); exact Kd.R_mono HO_11.out (fun _ hk => ⟨trivial, hk⟩)) hg (.inl rfl)); have n2_ := Aside0.mk ((by rw [hw]; exact below_set (HB.out) GB32.out : Below w.heap.size w w35)); clear HO_8; clear HO_11; clear HB; have HO_8 := n0_; have HO_11 := n1_; have HB := n2_; clear n0_ n1_ n2_; clear hg hw hp_))
                                go_roundg k4
                                case measure => have := HJ3.out; have := HK2.out; have := HJ13.out; have := HK4.out; omega
                                case rel => exact ⟨(y225), (wrap64 (x14_4 + 1)), (by first | rfl | (simp; done) | (simp [*]; done)), H', ⟨by have := HJ3.out; have := HK2.out; have := HJ13.out; have := HK4.out; omega⟩, ⟨by (with_reducible repeat (first | apply Kd.R_alloc | apply Kd.R_drewN | apply Kd.R_drew)); exact HO_8.out⟩, ⟨by (with_reducible repeat (first | apply Kd.R_alloc | apply Kd.R_drewN | apply Kd.R_drew)); exact Kd.R_mono HO_11.out (fun _ hk => by first | exact hk.2 | exact hk | exact trivial)⟩, ⟨by repeat (first | (with_reducible first | exact HB.out | apply below_alloc | apply pw_below_drewN | apply below_drew1) | exact HB.out)⟩⟩
                              · rw [if_neg c31] at H
                                exact absurd H (by simp)
                            · rw [if_neg c30] at H
                              have c30b0 : decide (x14_4 < (x8_4.length : Int)) = false := decide_eq_false c30
                              clear c30
                              replace H := Option.bind_eq_some_iff.mp H
                              obtain ⟨t226, A360, H⟩ := H
                              replace H : (if t213 = true then (some t226) else (some false)) = some r := H
                              have A36 := Aside0.mk A360
                              clear A360
                              by_cases c37 : t213 = true
                              · subst c37
                                have H1 : (some t226) = some r := by rw [if_pos rfl] at H; exact H
                                clear H
                                have H := H1
                                clear H1
                                obtain rfl := Option.some.inj H
                                obtain ⟨Ao38, co38, eo38⟩ := Kd.R_slice HO_8.out
                                subst eo38
                                obtain ⟨Ao39, co39, eo39⟩ := Kd.R_slice HO_11.out
                                subst eo39
                                go_wp2_with (first | ((with_reducible refine gate_callee (f := 12) rfl ?_); refine goesL_ (some 99) rfl rfl Try.func12 (by kernel_rfl) rfl #[.slice Ao38 x8_4.length co38, .slice Ao39 t219.length co39] rfl (by (try simp only [List.map_toArray, List.map_cons, List.map_nil]); first | done | rfl | (simp only [List.length_drop, List.length_take]; rfl)) ?_; (with_reducible refine (fairleadref09_Same.calls k4 _ _ x8_4 _ _ t219 t226 _ ?side1 ?side2 ?side3 ?side4 A36.out).mono ?_); (case side1 => repeat (first | exact (Kd.R_reads' HO_8.out).2.2 | (with_reducible refine Kd.C_alloc ?_ _) | (with_reducible refine Kd.C_drewN ?_ _) | (with_reducible refine Kd.C_drew ?_))); (case side2 => exact (Kd.R_reads' HO_8.out).2.1); (case side3 => repeat (first | exact (Kd.R_reads' HO_11.out).2.2 | (with_reducible refine Kd.C_alloc ?_ _) | (with_reducible refine Kd.C_drewN ?_ _) | (with_reducible refine Kd.C_drew ?_))); (case side4 => exact (Kd.R_reads' HO_11.out).2.1); rintro e w' ⟨rfl, ⟨nd, rfl⟩⟩; refine ⟨_, rfl, ?_⟩))
                                go_ret
                                exact ⟨by first | rfl | (simp [errW_none, errW_some] <;> rfl) | (simp [*, errW_none, errW_some] <;> rfl), by repeat (first | (with_reducible first | exact HB.out | apply below_alloc | apply pw_below_drewN | apply below_drew1) | exact HB.out)⟩
                              · replace c37 := Bool.eq_false_iff.mpr c37
                                subst c37
                                have H1 : (some false) = some r := by rw [if_neg (show ¬ (false = true) by decide)] at H; exact H
                                clear H
                                have H := H1
                                clear H1
                                obtain rfl := Option.some.inj H
                                obtain ⟨Ao40, co40, eo40⟩ := Kd.R_slice HO_8.out
                                subst eo40
                                obtain ⟨Ao41, co41, eo41⟩ := Kd.R_slice HO_11.out
                                subst eo41
                                go_wp2_with (first | ((with_reducible refine gate_callee (f := 12) rfl ?_); refine goesL_ (some 99) rfl rfl Try.func12 (by kernel_rfl) rfl #[.slice Ao40 x8_4.length co40, .slice Ao41 t219.length co41] rfl (by (try simp only [List.map_toArray, List.map_cons, List.map_nil]); first | done | rfl | (simp only [List.length_drop, List.length_take]; rfl)) ?_; (with_reducible refine (fairleadref09_Same.calls k4 _ _ x8_4 _ _ t219 t226 _ ?side1 ?side2 ?side3 ?side4 A36.out).mono ?_); (case side1 => repeat (first | exact (Kd.R_reads' HO_8.out).2.2 | (with_reducible refine Kd.C_alloc ?_ _) | (with_reducible refine Kd.C_drewN ?_ _) | (with_reducible refine Kd.C_drew ?_))); (case side2 => exact (Kd.R_reads' HO_8.out).2.1); (case side3 => repeat (first | exact (Kd.R_reads' HO_11.out).2.2 | (with_reducible refine Kd.C_alloc ?_ _) | (with_reducible refine Kd.C_drewN ?_ _) | (with_reducible refine Kd.C_drew ?_))); (case side4 => exact (Kd.R_reads' HO_11.out).2.1); rintro e w' ⟨rfl, ⟨nd, rfl⟩⟩; refine ⟨_, rfl, ?_⟩))
                                go_ret
                                exact ⟨by first | rfl | (simp [errW_none, errW_some] <;> rfl) | (simp [*, errW_none, errW_some] <;> rfl), by repeat (first | (with_reducible first | exact HB.out | apply below_alloc | apply pw_below_drewN | apply below_drew1) | exact HB.out)⟩
                · rw [if_neg c12] at H
                  exact absurd H (by simp)
              · rw [if_neg c10] at H
                exact absurd H (by simp)

/-- What is to be shown of fairleadlaw09_LexAhead, without Go and memory. -/
def fairleadlaw09_LexAhead.Pure : Prop := ∀ (a0 : ByteArray) (a1 : Int), (a0.size ≤ 9223372036854775807) → ((-9223372036854775808) ≤ a1 ∧ a1 ≤ 9223372036854775807) → ∃ k, fairleadlaw09_LexAhead.f k a0 a1 = some true

end Go.Proofs.Ytbiccohcikfgeaa.M
