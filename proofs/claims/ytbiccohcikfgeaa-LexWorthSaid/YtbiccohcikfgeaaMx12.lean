-- Laid by a program (wip/tools/myprint.py) out of the loaded program's own print: for each Go function a Lean function and the proof of its contract.
import Derived.Test.YtbiccohcikfgeaaMx0
import Derived.Test.YtbiccohcikfgeaaMx4
namespace Go.Proofs.Ytbiccohcikfgeaa.M
open Go.RowKit Go.Proofs.YtbiccohcikfgeaaW.PrintWords Go.Proofs.YtbiccohcikfgeaaW.PrintLast Go.Proofs.YtbiccohcikfgeaaW.PrintMore
attribute [local go_sem] max2_int min2_int max_two min_two max_three min_three max_four min_four   -- for this text's walks alone
set_option linter.unusedVariables false
set_option linter.unusedSimpArgs false

/-! ### fairleadlaw09_LexWorth: function 8 -/
mutual
def fairleadlaw09_LexWorth.l0 : Nat → Int → Bool → ByteArray → Int → Option (Bool)
  | 0, _, _, _, _ => none
  | k + 1, x0, x3, x4, x5 => if x5 > 0 then ((some (([(IntKind.u64.wrap (48 + (Int.tmod x5 10))) % 256] : List Int) : List Int)).bind fun y228 => (if (strOfNums y228).size + x4.size ≤ 9223372036854775807 then (fairleadlaw09_LexWorth.l0 k x0 x3 ((strOfNums y228) ++ x4) (IntKind.u64.wrap (Int.tdiv x5 10))) else (none))) else (if x4.toList = ([] : List UInt8) then ((some (([(IntKind.u64.wrap (48 + (Int.tmod x5 10))) % 256] : List Int) : List Int)).bind fun y231 => (if (strOfNums y231).size + x4.size ≤ 9223372036854775807 then (fairleadlaw09_LexWorth.l0 k x0 x3 ((strOfNums y231) ++ x4) (IntKind.u64.wrap (Int.tdiv x5 10))) else (none))) else (fairleadlaw09_LexWorth.l1 k x0 x3 x4 (⟨#[]⟩ : ByteArray) x0))
def fairleadlaw09_LexWorth.l1 : Nat → Int → Bool → ByteArray → ByteArray → Int → Option (Bool)
  | 0, _, _, _, _, _ => none
  | k + 1, x0, x3, x4, x6, x7 => if x7 > 0 then (if 0 ≤ (Int.tmod x7 16) then (if (Int.tmod x7 16) < 16 then ((some (([bt (⟨#[48, 49, 50, 51, 52, 53, 54, 55, 56, 57, 97, 98, 99, 100, 101, 102]⟩ : ByteArray) (Int.tmod x7 16)] : List Int) : List Int)).bind fun y234 => (if (strOfNums y234).size + x6.size ≤ 9223372036854775807 then (fairleadlaw09_LexWorth.l1 k x0 x3 x4 ((strOfNums y234) ++ x6) (IntKind.u64.wrap (Int.tdiv x7 16))) else (none))) else (none)) else (none)) else (if x6.toList = ([] : List UInt8) then (if 0 ≤ (Int.tmod x7 16) then (if (Int.tmod x7 16) < 16 then ((some (([bt (⟨#[48, 49, 50, 51, 52, 53, 54, 55, 56, 57, 97, 98, 99, 100, 101, 102]⟩ : ByteArray) (Int.tmod x7 16)] : List Int) : List Int)).bind fun y237 => (if (strOfNums y237).size + x6.size ≤ 9223372036854775807 then (fairleadlaw09_LexWorth.l1 k x0 x3 x4 ((strOfNums y237) ++ x6) (IntKind.u64.wrap (Int.tdiv x7 16))) else (none))) else (none)) else (none)) else (if x4.size + 3 ≤ 9223372036854775807 then (if (x4 ++ (⟨#[32, 48, 120]⟩ : ByteArray)).size + x6.size ≤ 9223372036854775807 then ((lex_All.f k ((x4 ++ (⟨#[32, 48, 120]⟩ : ByteArray)) ++ x6)).bind fun bt240 => (if x3 = true then (if bt240.2.1 = 0 then (if (bt240.1.length : Int) = 3 then (if 0 < (bt240.1.length : Int) then (if ((rd_T31 bt240.1 0).f3) = x0 then (if 1 < (bt240.1.length : Int) then (if ((rd_T31 bt240.1 1).f3) = x0 then (some (((rd_T31 bt240.1 0).f0) == 2)) else (some false)) else (none)) else (some false)) else (none)) else (some false)) else (some false)) else (some false))) else (none)) else (none)))
end
def fairleadlaw09_LexWorth.f (k : Nat) (a0 : Int) : Option (Bool) := (fairleadlaw09_awake.f k).bind fun t227 => (fairleadlaw09_LexWorth.l0 k a0 t227 (⟨#[]⟩ : ByteArray) a0)
theorem fairleadlaw09_LexWorth.mono_l : ∀ k, (∀ y0 y1 y2 y3, LeO (fairleadlaw09_LexWorth.l0 k y0 y1 y2 y3) (fairleadlaw09_LexWorth.l0 (k + 1) y0 y1 y2 y3)) ∧ (∀ y0 y1 y2 y3 y4, LeO (fairleadlaw09_LexWorth.l1 k y0 y1 y2 y3 y4) (fairleadlaw09_LexWorth.l1 (k + 1) y0 y1 y2 y3 y4))
  | 0 => ⟨fun _ _ _ _ r h => by simp [fairleadlaw09_LexWorth.l0] at h, fun _ _ _ _ _ r h => by simp [fairleadlaw09_LexWorth.l1] at h⟩
  | k + 1 => by
    obtain ⟨ih0, ih1⟩ := fairleadlaw09_LexWorth.mono_l k
    refine ⟨?_, ?_⟩
    · intro y0 y1 y2 y3
      unfold fairleadlaw09_LexWorth.l0
      repeat' first
      | (with_reducible exact ih0 _ _ _ _)
      | (with_reducible exact ih1 _ _ _ _ _)
      | (with_reducible exact fairleadlaw09_awake.mono _)
      | (with_reducible exact lex_All.mono _ _)
      | (with_reducible exact LeO.refl _)
      | (with_reducible exact LeO.none _)
      | (with_reducible refine LeO.ite ?_ ?_)
      | (with_reducible refine LeO.bind ?_ (fun _ => ?_))
      | exact ih0 _ _ _ _
      | exact ih1 _ _ _ _ _
      | exact fairleadlaw09_awake.mono _
      | exact lex_All.mono _ _
      | exact LeO.none _
      | refine LeO.ite ?_ ?_
      | refine LeO.bind ?_ (fun _ => ?_)
    · intro y0 y1 y2 y3 y4
      unfold fairleadlaw09_LexWorth.l1
      repeat' first
      | (with_reducible exact ih0 _ _ _ _)
      | (with_reducible exact ih1 _ _ _ _ _)
      | (with_reducible exact fairleadlaw09_awake.mono _)
      | (with_reducible exact lex_All.mono _ _)
      | (with_reducible exact LeO.refl _)
      | (with_reducible exact LeO.none _)
      | (with_reducible refine LeO.ite ?_ ?_)
      | (with_reducible refine LeO.bind ?_ (fun _ => ?_))
      | exact ih0 _ _ _ _
      | exact ih1 _ _ _ _ _
      | exact fairleadlaw09_awake.mono _
      | exact lex_All.mono _ _
      | exact LeO.none _
      | refine LeO.ite ?_ ?_
      | refine LeO.bind ?_ (fun _ => ?_)
theorem fairleadlaw09_LexWorth.mono : ∀ a0 k, LeO (fairleadlaw09_LexWorth.f k a0) (fairleadlaw09_LexWorth.f (k + 1) a0) := by
  intro a0 k
  obtain ⟨ih0, ih1⟩ := fairleadlaw09_LexWorth.mono_l k
  unfold fairleadlaw09_LexWorth.f
  repeat' first
      | (with_reducible exact ih0 _ _ _ _)
      | (with_reducible exact ih1 _ _ _ _ _)
      | (with_reducible exact fairleadlaw09_awake.mono _)
      | (with_reducible exact lex_All.mono _ _)
      | (with_reducible exact LeO.refl _)
      | (with_reducible exact LeO.none _)
      | (with_reducible refine LeO.ite ?_ ?_)
      | (with_reducible refine LeO.bind ?_ (fun _ => ?_))
      | exact ih0 _ _ _ _
      | exact ih1 _ _ _ _ _
      | exact fairleadlaw09_awake.mono _
      | exact lex_All.mono _ _
      | exact LeO.none _
      | refine LeO.ite ?_ ?_
      | refine LeO.bind ?_ (fun _ => ?_)
set_option maxHeartbeats 8000000 in
set_option maxRecDepth 100000 in
theorem fairleadlaw09_LexWorth.calls (k : Nat) (a0 : Int) (r : Bool) (w : World) (h : fairleadlaw09_LexWorth.f k a0 = some r) :
    Calls Try.prog 8 #[.int .u64 a0] w fun e w' => e = .returned (.bool r) ∧ Below w.heap.size w w' := by
  have HB := Aside0.mk (Below.refl w.heap.size w)
  have H : ((fairleadlaw09_awake.f k).bind fun t227 => (fairleadlaw09_LexWorth.l0 k a0 t227 (⟨#[]⟩ : ByteArray) a0)) = some r := h
  clear h
  replace H := Option.bind_eq_some_iff.mp H
  obtain ⟨t227, A20, H⟩ := H
  replace H : (fairleadlaw09_LexWorth.l0 k a0 t227 (⟨#[]⟩ : ByteArray) a0) = some r := H
  have A2 := Aside0.mk A20
  clear A20
  have H' := Aside0.mk H
  clear H
  go_enter Try.func8, Try.ntmps8
  go_wp2_with (first | ((with_reducible refine gate_callee (f := 9) rfl ?_); refine goesL_ (some 11) rfl rfl Try.func9 (by kernel_rfl) rfl #[] rfl (by (try simp only [List.map_toArray, List.map_cons, List.map_nil]); first | done | rfl | (simp only [List.length_drop, List.length_take]; rfl)) ?_; (with_reducible refine (fairleadlaw09_awake.calls k  t227 _ A2.out).mono ?_); rintro e w3 ⟨rfl, hb⟩; refine ⟨_, rfl, ?_⟩; have n0_ := Aside0.mk (below_step (by repeat (first | (with_reducible first | exact HB.out | apply below_alloc | apply pw_below_drewN | apply below_drew1) | exact HB.out)) hb); clear HB; have HB := n0_; clear n0_; (try clear hb); (try clear hb2); (try clear hk); (try clear hi)))
  go_loopg [4, 5] k (fun kq v4 v5 w' => ∃ (x4_1 : ByteArray) (x5_1 : Int), v4 = .string x4_1 ∧ v5 = .int .u64 x5_1 ∧ Aside0 (fairleadlaw09_LexWorth.l0 kq a0 t227 x4_1 x5_1 = some r) ∧ Aside0 (kq ≤ k) ∧ Aside0 (Below w.heap.size w w'))
  case atStart => exact ⟨((⟨#[]⟩ : ByteArray)), (a0), (by first | rfl | (simp; done) | (simp [*]; done)), (by first | rfl | (simp; done) | (simp [*]; done)), H', ⟨Nat.le_refl _⟩, ⟨by repeat (first | (with_reducible first | exact HB.out | apply below_alloc | apply pw_below_drewN | apply below_drew1) | exact HB.out)⟩⟩
  case round =>
    clear H'
    try clear p2
    obtain ⟨x4_1, x5_1, rfl, rfl, HA, HK1, HB⟩ := hrel
    cases gk with
    | zero => exact absurd HA.out (by simp [fairleadlaw09_LexWorth.l0])
    | succ k1 =>
      have H := HA.out
      clear HA
      simp only [fairleadlaw09_LexWorth.l0] at H
      by_cases c4 : x5_1 > 0
      · rw [if_pos c4] at H
        have c4b0 : decide (0 < x5_1) = true := decide_eq_true c4
        clear c4
        obtain ⟨y228, hy228⟩ : ∃ y_ : List Int, y_ = (([(IntKind.u64.wrap (48 + (Int.tmod x5_1 10))) % 256] : List Int)) := ⟨_, rfl⟩
        replace H : (if (strOfNums y228).size + x4_1.size ≤ 9223372036854775807 then (fairleadlaw09_LexWorth.l0 k1 a0 t227 ((strOfNums y228) ++ x4_1) (IntKind.u64.wrap (Int.tdiv x5_1 10))) else (none)) = some r := by first | (rw [hy228]; with_reducible exact H) | (have H2_ := (Option.bind_some _ _).symm.trans H; rw [hy228]; with_reducible exact H2_) | (have H2_ := (Option.bind_some _ _).symm.trans H; with_reducible exact H2_) | with_reducible exact H | (rw [hy228]; exact H) | exact H
        have Ny228 := Aside0.mk hy228
        clear hy228
        by_cases c5 : (strOfNums y228).size + x4_1.size ≤ 9223372036854775807
        · rw [if_pos c5] at H
          have c5b0 := eq_true c5
          have c5b1 : decide ((strOfNums y228).size + x4_1.size ≤ 9223372036854775807) = true := decide_eq_true c5
          try have c5b2 : (9223372036854775807 < (strOfNums y228).size + x4_1.size) = False := eq_false (Nat.not_lt.2 c5)
          have H' := Aside0.mk H
          clear H
          go_wp2_with (first | ((with_reducible refine gate_dst (N := 25) rfl ?_); (try (refine gate_guard (by rfl) ?_; dsimp only)); refine Kd.R_lit (Kd.int .u8) _ 5 ?hg (N := 25) ?hd (xs := ([(IntKind.u64.wrap (48 + (Int.tmod x5_1 10))) % 256] : List Int)) (inner := [.int .u8 ((IntKind.u64.wrap (48 + (Int.tmod x5_1 10))) % 256)]) (ok := fun _ => True) (okp := fun _ => True) ?hr ?hp (fun _ hk => hk) trivial (Below.refl _ _) (Nat.le_refl _) (by simp) ?_; (case hd => rfl); (case hg => rfl); (case hr => first | (go_simp; done) | (go_simp; rfl)); (case hp => exact (Reps.one (show Kd.M (Kd.int .u8) _ _ _ ((IntKind.u64.wrap (48 + (Int.tmod x5_1 10))) % 256) [.int .u8 ((IntKind.u64.wrap (48 + (Int.tmod x5_1 10))) % 256)] from rfl) (Reps.none _ _))); intro v229 w6 ho7 hb hg_ hnew_; clear hg_ hnew_; (first | rw [← Ny228.out] at ho7 | (simp only [Int.reduceToNat] at ho7; rw [← Ny228.out] at ho7)); have n0_ := Aside0.mk (Kd.R_lower ho7 (below_size (by repeat (first | (with_reducible first | exact HB.out | apply below_alloc | apply pw_below_drewN | apply below_drew1) | exact HB.out)))); have n1_ := Aside0.mk (below_step (by repeat (first | (with_reducible first | exact HB.out | apply below_alloc | apply pw_below_drewN | apply below_drew1) | exact HB.out)) hb); clear HB; have HO230 := n0_; have HB := n1_; clear n0_ n1_; clear hb ho7; have hcv8 := own_string (P := Try.prog) Try.underlying34 Try.underlying5 Try.underlying9 (Kd.own_of_R HO230.out)))
          go_roundg k1
          case measure => have := HK1.out; omega
          case rel => exact ⟨((strOfNums y228) ++ x4_1), (IntKind.u64.wrap (Int.tdiv x5_1 10)), (by first | rfl | (simp; done) | (simp [*]; done)), (by first | rfl | (simp; done) | (simp [*]; done)), H', ⟨by have := HK1.out; omega⟩, ⟨by repeat (first | (with_reducible first | exact HB.out | apply below_alloc | apply pw_below_drewN | apply below_drew1) | exact HB.out)⟩⟩
        · rw [if_neg c5] at H
          exact absurd H (by simp)
      · rw [if_neg c4] at H
        have c4b0 : decide (0 < x5_1) = false := decide_eq_false c4
        clear c4
        by_cases c9 : x4_1.toList = ([] : List UInt8)
        · rw [if_pos c9] at H
          have c9b0 : (x4_1.toList == ([] : List UInt8)) = true := beq_iff_eq.mpr c9
          have c9b1 : (x4_1.toList != ([] : List UInt8)) = false := bne_eq_false_iff_eq.mpr c9
          clear c9
          obtain ⟨y231, hy231⟩ : ∃ y_ : List Int, y_ = (([(IntKind.u64.wrap (48 + (Int.tmod x5_1 10))) % 256] : List Int)) := ⟨_, rfl⟩
          replace H : (if (strOfNums y231).size + x4_1.size ≤ 9223372036854775807 then (fairleadlaw09_LexWorth.l0 k1 a0 t227 ((strOfNums y231) ++ x4_1) (IntKind.u64.wrap (Int.tdiv x5_1 10))) else (none)) = some r := by first | (rw [hy231]; with_reducible exact H) | (have H2_ := (Option.bind_some _ _).symm.trans H; rw [hy231]; with_reducible exact H2_) | (have H2_ := (Option.bind_some _ _).symm.trans H; with_reducible exact H2_) | with_reducible exact H | (rw [hy231]; exact H) | exact H
          have Ny231 := Aside0.mk hy231
          clear hy231
          by_cases c10 : (strOfNums y231).size + x4_1.size ≤ 9223372036854775807
          · rw [if_pos c10] at H
            have c10b0 := eq_true c10
            have c10b1 : decide ((strOfNums y231).size + x4_1.size ≤ 9223372036854775807) = true := decide_eq_true c10
            try have c10b2 : (9223372036854775807 < (strOfNums y231).size + x4_1.size) = False := eq_false (Nat.not_lt.2 c10)
            have H' := Aside0.mk H
            clear H
            go_wp2_with (first | ((with_reducible refine gate_dst (N := 25) rfl ?_); (try (refine gate_guard (by rfl) ?_; dsimp only)); refine Kd.R_lit (Kd.int .u8) _ 5 ?hg (N := 25) ?hd (xs := ([(IntKind.u64.wrap (48 + (Int.tmod x5_1 10))) % 256] : List Int)) (inner := [.int .u8 ((IntKind.u64.wrap (48 + (Int.tmod x5_1 10))) % 256)]) (ok := fun _ => True) (okp := fun _ => True) ?hr ?hp (fun _ hk => hk) trivial (Below.refl _ _) (Nat.le_refl _) (by simp) ?_; (case hd => rfl); (case hg => rfl); (case hr => first | (go_simp; done) | (go_simp; rfl)); (case hp => exact (Reps.one (show Kd.M (Kd.int .u8) _ _ _ ((IntKind.u64.wrap (48 + (Int.tmod x5_1 10))) % 256) [.int .u8 ((IntKind.u64.wrap (48 + (Int.tmod x5_1 10))) % 256)] from rfl) (Reps.none _ _))); intro v232 w11 ho12 hb hg_ hnew_; clear hg_ hnew_; (first | rw [← Ny231.out] at ho12 | (simp only [Int.reduceToNat] at ho12; rw [← Ny231.out] at ho12)); have n0_ := Aside0.mk (Kd.R_lower ho12 (below_size (by repeat (first | (with_reducible first | exact HB.out | apply below_alloc | apply pw_below_drewN | apply below_drew1) | exact HB.out)))); have n1_ := Aside0.mk (below_step (by repeat (first | (with_reducible first | exact HB.out | apply below_alloc | apply pw_below_drewN | apply below_drew1) | exact HB.out)) hb); clear HB; have HO233 := n0_; have HB := n1_; clear n0_ n1_; clear hb ho12; have hcv13 := own_string (P := Try.prog) Try.underlying34 Try.underlying5 Try.underlying9 (Kd.own_of_R HO233.out)))
            go_roundg k1
            case measure => have := HK1.out; omega
            case rel => exact ⟨((strOfNums y231) ++ x4_1), (IntKind.u64.wrap (Int.tdiv x5_1 10)), (by first | rfl | (simp; done) | (simp [*]; done)), (by first | rfl | (simp; done) | (simp [*]; done)), H', ⟨by have := HK1.out; omega⟩, ⟨by repeat (first | (with_reducible first | exact HB.out | apply below_alloc | apply pw_below_drewN | apply below_drew1) | exact HB.out)⟩⟩
          · rw [if_neg c10] at H
            exact absurd H (by simp)
        · rw [if_neg c9] at H
          have c9b0 : (x4_1.toList == ([] : List UInt8)) = false := beq_eq_false_iff_ne.mpr c9
          have c9b1 : (x4_1.toList != ([] : List UInt8)) = true := bne_iff_ne.mpr c9
          have H' := Aside0.mk H
          clear H
          go_wp2
          go_loopg [6, 7] k1 (fun kq v6 v7 w' => ∃ (x6_2 : ByteArray) (x7_2 : Int), v6 = .string x6_2 ∧ v7 = .int .u64 x7_2 ∧ Aside0 (fairleadlaw09_LexWorth.l1 kq a0 t227 x4_1 x6_2 x7_2 = some r) ∧ Aside0 (kq ≤ k1) ∧ Aside0 (Below w.heap.size w w'))
          case atStart => exact ⟨((⟨#[]⟩ : ByteArray)), (a0), (by first | rfl | (simp; done) | (simp [*]; done)), (by first | rfl | (simp; done) | (simp [*]; done)), H', ⟨Nat.le_refl _⟩, ⟨by repeat (first | (with_reducible first | exact HB.out | apply below_alloc | apply pw_below_drewN | apply below_drew1) | exact HB.out)⟩⟩
          case round =>
            clear H'
            try clear c1
            try clear hcv1
            try clear p2
            try clear c4
            try clear c4b0
            try clear c5
            try clear c5b0
            try clear c5b1
            try clear c5b2
            try clear c8
            try clear hcv8
            try clear c9
            try clear c9b0
            try clear c9b1
            try clear c10
            try clear c10b0
            try clear c10b1
            try clear c10b2
            try clear hcv13
            try clear p2
            obtain ⟨x6_2, x7_2, rfl, rfl, HA, HK2, HB⟩ := hrel
            cases gk with
            | zero => exact absurd HA.out (by simp [fairleadlaw09_LexWorth.l1])
            | succ k2 =>
              have H := HA.out
              clear HA
              simp only [fairleadlaw09_LexWorth.l1] at H
              by_cases c14 : x7_2 > 0
              · rw [if_pos c14] at H
                have c14b0 : decide (0 < x7_2) = true := decide_eq_true c14
                clear c14
                obtain ⟨ji15, hji15⟩ : ∃ j_ : Int, (Int.tmod x7_2 16) = j_ := ⟨_, rfl⟩
                replace H : (if 0 ≤ (ji15) then (if (ji15) < 16 then ((some (([bt (⟨#[48, 49, 50, 51, 52, 53, 54, 55, 56, 57, 97, 98, 99, 100, 101, 102]⟩ : ByteArray) (ji15)] : List Int) : List Int)).bind fun y234 => (if (strOfNums y234).size + x6_2.size ≤ 9223372036854775807 then (fairleadlaw09_LexWorth.l1 k2 a0 t227 x4_1 ((strOfNums y234) ++ x6_2) (IntKind.u64.wrap (Int.tdiv x7_2 16))) else (none))) else (none)) else (none)) = some r := by first | (rw [hji15] at H; exact H) | (simp only [hji15] at H ⊢; exact H)
                by_cases c16 : 0 ≤ (ji15)
                · rw [if_pos c16] at H
                  have c16b0 : decide (0 ≤ (ji15)) = true := decide_eq_true c16
                  clear c16
                  by_cases c17 : (ji15) < 16
                  · rw [if_pos c17] at H
                    have c17b0 : decide ((ji15) < 16) = true := decide_eq_true c17
                    clear c17
                    obtain ⟨y234, hy234⟩ : ∃ y_ : List Int, y_ = (([bt (⟨#[48, 49, 50, 51, 52, 53, 54, 55, 56, 57, 97, 98, 99, 100, 101, 102]⟩ : ByteArray) (ji15)] : List Int)) := ⟨_, rfl⟩
                    replace H : (if (strOfNums y234).size + x6_2.size ≤ 9223372036854775807 then (fairleadlaw09_LexWorth.l1 k2 a0 t227 x4_1 ((strOfNums y234) ++ x6_2) (IntKind.u64.wrap (Int.tdiv x7_2 16))) else (none)) = some r := by first | (rw [hy234]; with_reducible exact H) | (have H2_ := (Option.bind_some _ _).symm.trans H; rw [hy234]; with_reducible exact H2_) | (have H2_ := (Option.bind_some _ _).symm.trans H; with_reducible exact H2_) | with_reducible exact H | (rw [hy234]; exact H) | exact H
                    have Ny234 := Aside0.mk hy234
                    clear hy234
                    by_cases c19 : (strOfNums y234).size + x6_2.size ≤ 9223372036854775807
                    · rw [if_pos c19] at H
                      have c19b0 := eq_true c19
                      have c19b1 : decide ((strOfNums y234).size + x6_2.size ≤ 9223372036854775807) = true := decide_eq_true c19
                      try have c19b2 : (9223372036854775807 < (strOfNums y234).size + x6_2.size) = False := eq_false (Nat.not_lt.2 c19)
                      have H' := Aside0.mk H
                      clear H
                      have p18 : 0 ≤ ((ji15) : Int) := of_decide_eq_true (by first | (with_reducible assumption) | assumption)
                      have q18 : (ji15) < (16 : Int) := of_decide_eq_true (by first | (with_reducible assumption) | assumption)
                      have hx18 := bt_at (⟨#[48, 49, 50, 51, 52, 53, 54, 55, 56, 57, 97, 98, 99, 100, 101, 102]⟩ : ByteArray) (ji15)
                      replace p18 := eq_true p18
                      replace q18 := eq_true q18
                      go_wp2_with (first | ((with_reducible refine gate_dst (N := 41) rfl ?_); (try (refine gate_guard (by rfl) ?_; dsimp only)); refine Kd.R_lit (Kd.int .u8) _ 5 ?hg (N := 41) ?hd (xs := ([bt (⟨#[48, 49, 50, 51, 52, 53, 54, 55, 56, 57, 97, 98, 99, 100, 101, 102]⟩ : ByteArray) (ji15)] : List Int)) (inner := [.int .u8 (bt (⟨#[48, 49, 50, 51, 52, 53, 54, 55, 56, 57, 97, 98, 99, 100, 101, 102]⟩ : ByteArray) (ji15))]) (ok := fun _ => True) (okp := fun _ => True) ?hr ?hp (fun _ hk => hk) trivial (Below.refl _ _) (Nat.le_refl _) (by simp) ?_; (case hd => rfl); (case hg => rfl); (case hr => first | (go_simp; done) | (go_simp; rfl)); (case hp => exact (Reps.one (show Kd.M (Kd.int .u8) _ _ _ (bt (⟨#[48, 49, 50, 51, 52, 53, 54, 55, 56, 57, 97, 98, 99, 100, 101, 102]⟩ : ByteArray) (ji15)) [.int .u8 (bt (⟨#[48, 49, 50, 51, 52, 53, 54, 55, 56, 57, 97, 98, 99, 100, 101, 102]⟩ : ByteArray) (ji15))] from rfl) (Reps.none _ _))); intro v235 w20 ho21 hb hg_ hnew_; clear hg_ hnew_; (first | rw [← Ny234.out] at ho21 | (simp only [Int.reduceToNat] at ho21; rw [← Ny234.out] at ho21)); have n0_ := Aside0.mk (Kd.R_lower ho21 (below_size (by repeat (first | (with_reducible first | exact HB.out | apply below_alloc | apply pw_below_drewN | apply below_drew1) | exact HB.out)))); have n1_ := Aside0.mk (below_step (by repeat (first | (with_reducible first | exact HB.out | apply below_alloc | apply pw_below_drewN | apply below_drew1) | exact HB.out)) hb); clear HB; have HO236 := n0_; have HB := n1_; clear n0_ n1_; clear hb ho21; have hcv22 := own_string (P := Try.prog) Try.underlying34 Try.underlying5 Try.underlying9 (Kd.own_of_R HO236.out)))
                      go_roundg k2
                      case measure => have := HK1.out; have := HK2.out; omega
                      case rel => exact ⟨((strOfNums y234) ++ x6_2), (IntKind.u64.wrap (Int.tdiv x7_2 16)), (by first | rfl | (simp; done) | (simp [*]; done)), (by first | rfl | (simp; done) | (simp [*]; done)), H', ⟨by have := HK1.out; have := HK2.out; omega⟩, ⟨by repeat (first | (with_reducible first | exact HB.out | apply below_alloc | apply pw_below_drewN | apply below_drew1) | exact HB.out)⟩⟩
                    · rw [if_neg c19] at H
                      exact absurd H (by simp)
                  · rw [if_neg c17] at H
                    exact absurd H (by simp)
                · rw [if_neg c16] at H
                  exact absurd H (by simp)
              · rw [if_neg c14] at H
                have c14b0 : decide (0 < x7_2) = false := decide_eq_false c14
                clear c14
                by_cases c23 : x6_2.toList = ([] : List UInt8)
                · rw [if_pos c23] at H
                  have c23b0 : (x6_2.toList == ([] : List UInt8)) = true := beq_iff_eq.mpr c23
                  have c23b1 : (x6_2.toList != ([] : List UInt8)) = false := bne_eq_false_iff_eq.mpr c23
                  clear c23
                  obtain ⟨ji24, hji24⟩ : ∃ j_ : Int, (Int.tmod x7_2 16) = j_ := ⟨_, rfl⟩
                  replace H : (if 0 ≤ (ji24) then (if (ji24) < 16 then ((some (([bt (⟨#[48, 49, 50, 51, 52, 53, 54, 55, 56, 57, 97, 98, 99, 100, 101, 102]⟩ : ByteArray) (ji24)] : List Int) : List Int)).bind fun y237 => (if (strOfNums y237).size + x6_2.size ≤ 9223372036854775807 then (fairleadlaw09_LexWorth.l1 k2 a0 t227 x4_1 ((strOfNums y237) ++ x6_2) (IntKind.u64.wrap (Int.tdiv x7_2 16))) else (none))) else (none)) else (none)) = some r := by first | (rw [hji24] at H; exact H) | (simp only [hji24] at H ⊢; exact H)
                  by_cases c25 : 0 ≤ (ji24)
                  · rw [if_pos c25] at H
                    have c25b0 : decide (0 ≤ (ji24)) = true := decide_eq_true c25
                    clear c25
                    by_cases c26 : (ji24) < 16
                    · rw [if_pos c26] at H
                      have c26b0 : decide ((ji24) < 16) = true := decide_eq_true c26
                      clear c26
                      obtain ⟨y237, hy237⟩ : ∃ y_ : List Int, y_ = (([bt (⟨#[48, 49, 50, 51, 52, 53, 54, 55, 56, 57, 97, 98, 99, 100, 101, 102]⟩ : ByteArray) (ji24)] : List Int)) := ⟨_, rfl⟩
                      replace H : (if (strOfNums y237).size + x6_2.size ≤ 9223372036854775807 then (fairleadlaw09_LexWorth.l1 k2 a0 t227 x4_1 ((strOfNums y237) ++ x6_2) (IntKind.u64.wrap (Int.tdiv x7_2 16))) else (none)) = some r := by first | (rw [hy237]; with_reducible exact H) | (have H2_ := (Option.bind_some _ _).symm.trans H; rw [hy237]; with_reducible exact H2_) | (have H2_ := (Option.bind_some _ _).symm.trans H; with_reducible exact H2_) | with_reducible exact H | (rw [hy237]; exact H) | exact H
                      have Ny237 := Aside0.mk hy237
                      clear hy237
                      by_cases c28 : (strOfNums y237).size + x6_2.size ≤ 9223372036854775807
                      · rw [if_pos c28] at H
                        have c28b0 := eq_true c28
                        have c28b1 : decide ((strOfNums y237).size + x6_2.size ≤ 9223372036854775807) = true := decide_eq_true c28
                        try have c28b2 : (9223372036854775807 < (strOfNums y237).size + x6_2.size) = False := eq_false (Nat.not_lt.2 c28)
                        have H' := Aside0.mk H
                        clear H
                        have p27 : 0 ≤ ((ji24) : Int) := of_decide_eq_true (by first | (with_reducible assumption) | assumption)
                        have q27 : (ji24) < (16 : Int) := of_decide_eq_true (by first | (with_reducible assumption) | assumption)
                        have hx27 := bt_at (⟨#[48, 49, 50, 51, 52, 53, 54, 55, 56, 57, 97, 98, 99, 100, 101, 102]⟩ : ByteArray) (ji24)
                        replace p27 := eq_true p27
                        replace q27 := eq_true q27
                        go_wp2_with (first | ((with_reducible refine gate_dst (N := 41) rfl ?_); (try (refine gate_guard (by rfl) ?_; dsimp only)); refine Kd.R_lit (Kd.int .u8) _ 5 ?hg (N := 41) ?hd (xs := ([bt (⟨#[48, 49, 50, 51, 52, 53, 54, 55, 56, 57, 97, 98, 99, 100, 101, 102]⟩ : ByteArray) (ji24)] : List Int)) (inner := [.int .u8 (bt (⟨#[48, 49, 50, 51, 52, 53, 54, 55, 56, 57, 97, 98, 99, 100, 101, 102]⟩ : ByteArray) (ji24))]) (ok := fun _ => True) (okp := fun _ => True) ?hr ?hp (fun _ hk => hk) trivial (Below.refl _ _) (Nat.le_refl _) (by simp) ?_; (case hd => rfl); (case hg => rfl); (case hr => first | (go_simp; done) | (go_simp; rfl)); (case hp => exact (Reps.one (show Kd.M (Kd.int .u8) _ _ _ (bt (⟨#[48, 49, 50, 51, 52, 53, 54, 55, 56, 57, 97, 98, 99, 100, 101, 102]⟩ : ByteArray) (ji24)) [.int .u8 (bt (⟨#[48, 49, 50, 51, 52, 53, 54, 55, 56, 57, 97, 98, 99, 100, 101, 102]⟩ : ByteArray) (ji24))] from rfl) (Reps.none _ _))); intro v238 w29 ho30 hb hg_ hnew_; clear hg_ hnew_; (first | rw [← Ny237.out] at ho30 | (simp only [Int.reduceToNat] at ho30; rw [← Ny237.out] at ho30)); have n0_ := Aside0.mk (Kd.R_lower ho30 (below_size (by repeat (first | (with_reducible first | exact HB.out | apply below_alloc | apply pw_below_drewN | apply below_drew1) | exact HB.out)))); have n1_ := Aside0.mk (below_step (by repeat (first | (with_reducible first | exact HB.out | apply below_alloc | apply pw_below_drewN | apply below_drew1) | exact HB.out)) hb); clear HB; have HO239 := n0_; have HB := n1_; clear n0_ n1_; clear hb ho30; have hcv31 := own_string (P := Try.prog) Try.underlying34 Try.underlying5 Try.underlying9 (Kd.own_of_R HO239.out)))
                        go_roundg k2
                        case measure => have := HK1.out; have := HK2.out; omega
                        case rel => exact ⟨((strOfNums y237) ++ x6_2), (IntKind.u64.wrap (Int.tdiv x7_2 16)), (by first | rfl | (simp; done) | (simp [*]; done)), (by first | rfl | (simp; done) | (simp [*]; done)), H', ⟨by have := HK1.out; have := HK2.out; omega⟩, ⟨by repeat (first | (with_reducible first | exact HB.out | apply below_alloc | apply pw_below_drewN | apply below_drew1) | exact HB.out)⟩⟩
                      · rw [if_neg c28] at H
                        exact absurd H (by simp)
                    · rw [if_neg c26] at H
                      exact absurd H (by simp)
                  · rw [if_neg c25] at H
                    exact absurd H (by simp)
                · rw [if_neg c23] at H
                  have c23b0 : (x6_2.toList == ([] : List UInt8)) = false := beq_eq_false_iff_ne.mpr c23
                  have c23b1 : (x6_2.toList != ([] : List UInt8)) = true := bne_iff_ne.mpr c23
                  by_cases c32 : x4_1.size + 3 ≤ 9223372036854775807
                  · rw [if_pos c32] at H
                    have c32b0 := eq_true c32
                    have c32b1 : decide (x4_1.size + 3 ≤ 9223372036854775807) = true := decide_eq_true c32
                    try have c32b2 : (9223372036854775807 < x4_1.size + 3) = False := eq_false (Nat.not_lt.2 c32)
                    by_cases c33 : (x4_1 ++ (⟨#[32, 48, 120]⟩ : ByteArray)).size + x6_2.size ≤ 9223372036854775807
                    · rw [if_pos c33] at H
                      have c33b0 := eq_true c33
                      have c33b1 : decide ((x4_1 ++ (⟨#[32, 48, 120]⟩ : ByteArray)).size + x6_2.size ≤ 9223372036854775807) = true := decide_eq_true c33
                      (try (have c33b1s := c33b1; simp only [ByteArray.size_append, Int.natCast_add, Int.cast_ofNat_Int, show (⟨#[32, 48, 120]⟩ : ByteArray).size = 3 from rfl] at c33b1s))
                      (try (have c33h := c33; simp only [ByteArray.size_append] at c33h; have c33b5 := eq_true c33h; have c33b6 := eq_false (Nat.not_lt.2 c33h); clear c33h))
                      try have c33b2 : (9223372036854775807 < (x4_1 ++ (⟨#[32, 48, 120]⟩ : ByteArray)).size + x6_2.size) = False := eq_false (Nat.not_lt.2 c33)
                      replace H := Option.bind_eq_some_iff.mp H
                      obtain ⟨⟨t240, t241, t242⟩, A340, H⟩ := H
                      replace H : (if t227 = true then (if t241 = 0 then (if (t240.length : Int) = 3 then (if 0 < (t240.length : Int) then (if ((rd_T31 t240 0).f3) = a0 then (if 1 < (t240.length : Int) then (if ((rd_T31 t240 1).f3) = a0 then (some (((rd_T31 t240 0).f0) == 2)) else (some false)) else (none)) else (some false)) else (none)) else (some false)) else (some false)) else (some false)) = some r := H
                      have A34 := Aside0.mk A340
                      clear A340
                      by_cases c35 : t227 = true
                      · subst c35
                        have H1 : (if t241 = 0 then (if (t240.length : Int) = 3 then (if 0 < (t240.length : Int) then (if ((rd_T31 t240 0).f3) = a0 then (if 1 < (t240.length : Int) then (if ((rd_T31 t240 1).f3) = a0 then (some (((rd_T31 t240 0).f0) == 2)) else (some false)) else (none)) else (some false)) else (none)) else (some false)) else (some false)) = some r := by rw [if_pos rfl] at H; exact H
                        clear H
                        have H := H1
                        clear H1
                        by_cases c36 : t241 = 0
                        · rw [if_pos c36] at H
                          have c36b0 : (t241 == 0) = true := beq_iff_eq.mpr c36
                          have c36b1 : (t241 != 0) = false := bne_eq_false_iff_eq.mpr c36
                          clear c36
                          by_cases c37 : (t240.length : Int) = 3
                          · rw [if_pos c37] at H
                            have c37b0 : ((t240.length : Int) == 3) = true := beq_iff_eq.mpr c37
                            have c37b1 : ((t240.length : Int) != 3) = false := bne_eq_false_iff_eq.mpr c37
                            clear c37
                            by_cases c38 : 0 < (t240.length : Int)
                            · rw [if_pos c38] at H
                              have c38b0 : decide (0 < (t240.length : Int)) = true := decide_eq_true c38
                              have c38b1 : decide (0 < t240.length) = true := decide_eq_true (by omega)
                              clear c38
                              by_cases c39 : ((rd_T31 t240 0).f3) = a0
                              · rw [if_pos c39] at H
                                have c39b0 : (((rd_T31 t240 0).f3) == a0) = true := beq_iff_eq.mpr c39
                                have c39b1 : (((rd_T31 t240 0).f3) != a0) = false := bne_eq_false_iff_eq.mpr c39
                                clear c39
                                by_cases c40 : 1 < (t240.length : Int)
                                · rw [if_pos c40] at H
                                  have c40b0 : decide (1 < (t240.length : Int)) = true := decide_eq_true c40
                                  have c40b1 : decide (1 < t240.length) = true := decide_eq_true (by omega)
                                  clear c40
                                  by_cases c41 : ((rd_T31 t240 1).f3) = a0
                                  · rw [if_pos c41] at H
                                    have c41b0 : (((rd_T31 t240 1).f3) == a0) = true := beq_iff_eq.mpr c41
                                    have c41b1 : (((rd_T31 t240 1).f3) != a0) = false := bne_eq_false_iff_eq.mpr c41
                                    clear c41
                                    obtain rfl := Option.some.inj H
                                    go_wp2_with (first | ((with_reducible refine gate_callee (f := 10) rfl ?_); refine goesL_ (some 50) rfl rfl Try.func10 (by kernel_rfl) rfl #[.string ((x4_1 ++ (⟨#[32, 48, 120]⟩ : ByteArray)) ++ x6_2)] rfl (by (try simp only [List.map_toArray, List.map_cons, List.map_nil]); first | done | rfl | (simp only [List.length_drop, List.length_take]; rfl)) ?_; (with_reducible refine (lex_All.calls k2 ((x4_1 ++ (⟨#[32, 48, 120]⟩ : ByteArray)) ++ x6_2) t240 t241 t242 _ A34.out).mono ?_); rintro e w42 ⟨v243, rfl, ho0, hb⟩; refine ⟨_, rfl, ?_⟩; have n0_ := Aside0.mk (Kd.R_lower ho0 (below_size (by repeat (first | (with_reducible first | exact HB.out | apply below_alloc | apply pw_below_drewN | apply below_drew1) | exact HB.out)))); have n1_ := Aside0.mk (below_step (by repeat (first | (with_reducible first | exact HB.out | apply below_alloc | apply pw_below_drewN | apply below_drew1) | exact HB.out)) hb); clear HB; have HO244 := n0_; have HB := n1_; clear n0_ n1_; (try clear hb); (try clear hb2); (try clear hk); (try clear hi); (try clear ho0); obtain ⟨Ao43, co43, eo43⟩ := Kd.R_slice HO244.out; subst eo43; have p245 : 0 ≤ (0 : Int) := (by omega); have q245 : 0 < (t240.length : Int) := of_decide_eq_true (by first | (with_reducible assumption) | assumption); obtain ⟨ad245, e245, hx245_0, hx245_1, hx245_2, hx245_3⟩ := at_T31 (Kd.R_reads' HO244.out).2.2 0 p245 q245; cases e245; have qi245 : (0 < t240.length) = True := eq_true (by omega); (try rw [show ((0 : Int)).toNat = 0 from rfl] at hx245_0); (try rw [show 0 * 4 = 0 from rfl] at hx245_0); (try rw [Addr.add_zero'] at hx245_0); (try rw [show ((0 : Int)).toNat = 0 from rfl] at hx245_1); (try rw [show 0 * 4 = 0 from rfl] at hx245_1); (try rw [Addr.add_zero'] at hx245_1); (try rw [show ((0 : Int)).toNat = 0 from rfl] at hx245_2); (try rw [show 0 * 4 = 0 from rfl] at hx245_2); (try rw [Addr.add_zero'] at hx245_2); (try rw [show ((0 : Int)).toNat = 0 from rfl] at hx245_3); (try rw [show 0 * 4 = 0 from rfl] at hx245_3); (try rw [Addr.add_zero'] at hx245_3); replace p245 := eq_true p245; replace q245 := eq_true q245; have p246 : 0 ≤ (1 : Int) := (by omega); have q246 : 1 < (t240.length : Int) := of_decide_eq_true (by first | (with_reducible assumption) | assumption); obtain ⟨ad246, e246, hx246_0, hx246_1, hx246_2, hx246_3⟩ := at_T31 (Kd.R_reads' HO244.out).2.2 1 p246 q246; obtain rfl : ad245 = ad246 := (by injection e246); (try simp only [show (1 : Int).toNat = 1 from rfl, Nat.reduceMul, Nat.reduceEqDiff, Go.Addr.add, ↓reduceIte] at hx246_0); (try simp only [show (1 : Int).toNat = 1 from rfl, Nat.reduceMul, Nat.reduceEqDiff, Go.Addr.add, ↓reduceIte] at hx246_1); (try simp only [show (1 : Int).toNat = 1 from rfl, Nat.reduceMul, Nat.reduceEqDiff, Go.Addr.add, ↓reduceIte] at hx246_2); (try simp only [show (1 : Int).toNat = 1 from rfl, Nat.reduceMul, Nat.reduceEqDiff, Go.Addr.add, ↓reduceIte] at hx246_3); have qi246 : (1 < t240.length) = True := eq_true (by omega); (try rw [show ((1 : Int)).toNat = 1 from rfl] at hx246_0); (try rw [show 1 * 4 = 4 from rfl] at hx246_0); (try rw [show ((1 : Int)).toNat = 1 from rfl] at hx246_1); (try rw [show 1 * 4 = 4 from rfl] at hx246_1); (try rw [show ((1 : Int)).toNat = 1 from rfl] at hx246_2); (try rw [show 1 * 4 = 4 from rfl] at hx246_2); (try rw [show ((1 : Int)).toNat = 1 from rfl] at hx246_3); (try rw [show 1 * 4 = 4 from rfl] at hx246_3); replace p246 := eq_true p246; replace q246 := eq_true q246; have p247 : 0 ≤ (0 : Int) := (by omega); have q247 : 0 < (t240.length : Int) := of_decide_eq_true (by first | (with_reducible assumption) | assumption); obtain ⟨ad247, e247, hx247_0, hx247_1, hx247_2, hx247_3⟩ := at_T31 (Kd.R_reads' HO244.out).2.2 0 p247 q247; obtain rfl : ad245 = ad247 := (by injection e247); have qi247 : (0 < t240.length) = True := eq_true (by omega); (try rw [show ((0 : Int)).toNat = 0 from rfl] at hx247_0); (try rw [show 0 * 4 = 0 from rfl] at hx247_0); (try rw [Addr.add_zero'] at hx247_0); (try rw [show ((0 : Int)).toNat = 0 from rfl] at hx247_1); (try rw [show 0 * 4 = 0 from rfl] at hx247_1); (try rw [Addr.add_zero'] at hx247_1); (try rw [show ((0 : Int)).toNat = 0 from rfl] at hx247_2); (try rw [show 0 * 4 = 0 from rfl] at hx247_2); (try rw [Addr.add_zero'] at hx247_2); (try rw [show ((0 : Int)).toNat = 0 from rfl] at hx247_3); (try rw [show 0 * 4 = 0 from rfl] at hx247_3); (try rw [Addr.add_zero'] at hx247_3); replace p247 := eq_true p247; replace q247 := eq_true q247))
                                    go_ret
                                    exact ⟨by first | rfl | (simp [errW_none, errW_some] <;> rfl) | (simp [*, errW_none, errW_some] <;> rfl), by repeat (first | (with_reducible first | exact HB.out | apply below_alloc | apply pw_below_drewN | apply below_drew1) | exact HB.out)⟩
                                  · rw [if_neg c41] at H
                                    have c41b0 : (((rd_T31 t240 1).f3) == a0) = false := beq_eq_false_iff_ne.mpr c41
                                    have c41b1 : (((rd_T31 t240 1).f3) != a0) = true := bne_iff_ne.mpr c41
                                    obtain rfl := Option.some.inj H
                                    go_wp2_with (first | ((with_reducible refine gate_callee (f := 10) rfl ?_); refine goesL_ (some 50) rfl rfl Try.func10 (by kernel_rfl) rfl #[.string ((x4_1 ++ (⟨#[32, 48, 120]⟩ : ByteArray)) ++ x6_2)] rfl (by (try simp only [List.map_toArray, List.map_cons, List.map_nil]); first | done | rfl | (simp only [List.length_drop, List.length_take]; rfl)) ?_; (with_reducible refine (lex_All.calls k2 ((x4_1 ++ (⟨#[32, 48, 120]⟩ : ByteArray)) ++ x6_2) t240 t241 t242 _ A34.out).mono ?_); rintro e w44 ⟨v243, rfl, ho0, hb⟩; refine ⟨_, rfl, ?_⟩; have n0_ := Aside0.mk (Kd.R_lower ho0 (below_size (by repeat (first | (with_reducible first | exact HB.out | apply below_alloc | apply pw_below_drewN | apply below_drew1) | exact HB.out)))); have n1_ := Aside0.mk (below_step (by repeat (first | (with_reducible first | exact HB.out | apply below_alloc | apply pw_below_drewN | apply below_drew1) | exact HB.out)) hb); clear HB; have HO244 := n0_; have HB := n1_; clear n0_ n1_; (try clear hb); (try clear hb2); (try clear hk); (try clear hi); (try clear ho0); obtain ⟨Ao45, co45, eo45⟩ := Kd.R_slice HO244.out; subst eo45; have p245 : 0 ≤ (0 : Int) := (by omega); have q245 : 0 < (t240.length : Int) := of_decide_eq_true (by first | (with_reducible assumption) | assumption); obtain ⟨ad245, e245, hx245_0, hx245_1, hx245_2, hx245_3⟩ := at_T31 (Kd.R_reads' HO244.out).2.2 0 p245 q245; cases e245; have qi245 : (0 < t240.length) = True := eq_true (by omega); (try rw [show ((0 : Int)).toNat = 0 from rfl] at hx245_0); (try rw [show 0 * 4 = 0 from rfl] at hx245_0); (try rw [Addr.add_zero'] at hx245_0); (try rw [show ((0 : Int)).toNat = 0 from rfl] at hx245_1); (try rw [show 0 * 4 = 0 from rfl] at hx245_1); (try rw [Addr.add_zero'] at hx245_1); (try rw [show ((0 : Int)).toNat = 0 from rfl] at hx245_2); (try rw [show 0 * 4 = 0 from rfl] at hx245_2); (try rw [Addr.add_zero'] at hx245_2); (try rw [show ((0 : Int)).toNat = 0 from rfl] at hx245_3); (try rw [show 0 * 4 = 0 from rfl] at hx245_3); (try rw [Addr.add_zero'] at hx245_3); replace p245 := eq_true p245; replace q245 := eq_true q245; have p246 : 0 ≤ (1 : Int) := (by omega); have q246 : 1 < (t240.length : Int) := of_decide_eq_true (by first | (with_reducible assumption) | assumption); obtain ⟨ad246, e246, hx246_0, hx246_1, hx246_2, hx246_3⟩ := at_T31 (Kd.R_reads' HO244.out).2.2 1 p246 q246; obtain rfl : ad245 = ad246 := (by injection e246); (try simp only [show (1 : Int).toNat = 1 from rfl, Nat.reduceMul, Nat.reduceEqDiff, Go.Addr.add, ↓reduceIte] at hx246_0); (try simp only [show (1 : Int).toNat = 1 from rfl, Nat.reduceMul, Nat.reduceEqDiff, Go.Addr.add, ↓reduceIte] at hx246_1); (try simp only [show (1 : Int).toNat = 1 from rfl, Nat.reduceMul, Nat.reduceEqDiff, Go.Addr.add, ↓reduceIte] at hx246_2); (try simp only [show (1 : Int).toNat = 1 from rfl, Nat.reduceMul, Nat.reduceEqDiff, Go.Addr.add, ↓reduceIte] at hx246_3); have qi246 : (1 < t240.length) = True := eq_true (by omega); (try rw [show ((1 : Int)).toNat = 1 from rfl] at hx246_0); (try rw [show 1 * 4 = 4 from rfl] at hx246_0); (try rw [show ((1 : Int)).toNat = 1 from rfl] at hx246_1); (try rw [show 1 * 4 = 4 from rfl] at hx246_1); (try rw [show ((1 : Int)).toNat = 1 from rfl] at hx246_2); (try rw [show 1 * 4 = 4 from rfl] at hx246_2); (try rw [show ((1 : Int)).toNat = 1 from rfl] at hx246_3); (try rw [show 1 * 4 = 4 from rfl] at hx246_3); replace p246 := eq_true p246; replace q246 := eq_true q246))
                                    go_ret
                                    exact ⟨by first | rfl | (simp [errW_none, errW_some] <;> rfl) | (simp [*, errW_none, errW_some] <;> rfl), by repeat (first | (with_reducible first | exact HB.out | apply below_alloc | apply pw_below_drewN | apply below_drew1) | exact HB.out)⟩
                                · rw [if_neg c40] at H
                                  exact absurd H (by simp)
                              · rw [if_neg c39] at H
                                have c39b0 : (((rd_T31 t240 0).f3) == a0) = false := beq_eq_false_iff_ne.mpr c39
                                have c39b1 : (((rd_T31 t240 0).f3) != a0) = true := bne_iff_ne.mpr c39
                                obtain rfl := Option.some.inj H
                                go_wp2_with (first | ((with_reducible refine gate_callee (f := 10) rfl ?_); refine goesL_ (some 50) rfl rfl Try.func10 (by kernel_rfl) rfl #[.string ((x4_1 ++ (⟨#[32, 48, 120]⟩ : ByteArray)) ++ x6_2)] rfl (by (try simp only [List.map_toArray, List.map_cons, List.map_nil]); first | done | rfl | (simp only [List.length_drop, List.length_take]; rfl)) ?_; (with_reducible refine (lex_All.calls k2 ((x4_1 ++ (⟨#[32, 48, 120]⟩ : ByteArray)) ++ x6_2) t240 t241 t242 _ A34.out).mono ?_); rintro e w46 ⟨v243, rfl, ho0, hb⟩; refine ⟨_, rfl, ?_⟩; have n0_ := Aside0.mk (Kd.R_lower ho0 (below_size (by repeat (first | (with_reducible first | exact HB.out | apply below_alloc | apply pw_below_drewN | apply below_drew1) | exact HB.out)))); have n1_ := Aside0.mk (below_step (by repeat (first | (with_reducible first | exact HB.out | apply below_alloc | apply pw_below_drewN | apply below_drew1) | exact HB.out)) hb); clear HB; have HO244 := n0_; have HB := n1_; clear n0_ n1_; (try clear hb); (try clear hb2); (try clear hk); (try clear hi); (try clear ho0); obtain ⟨Ao47, co47, eo47⟩ := Kd.R_slice HO244.out; subst eo47; have p245 : 0 ≤ (0 : Int) := (by omega); have q245 : 0 < (t240.length : Int) := of_decide_eq_true (by first | (with_reducible assumption) | assumption); obtain ⟨ad245, e245, hx245_0, hx245_1, hx245_2, hx245_3⟩ := at_T31 (Kd.R_reads' HO244.out).2.2 0 p245 q245; cases e245; have qi245 : (0 < t240.length) = True := eq_true (by omega); (try rw [show ((0 : Int)).toNat = 0 from rfl] at hx245_0); (try rw [show 0 * 4 = 0 from rfl] at hx245_0); (try rw [Addr.add_zero'] at hx245_0); (try rw [show ((0 : Int)).toNat = 0 from rfl] at hx245_1); (try rw [show 0 * 4 = 0 from rfl] at hx245_1); (try rw [Addr.add_zero'] at hx245_1); (try rw [show ((0 : Int)).toNat = 0 from rfl] at hx245_2); (try rw [show 0 * 4 = 0 from rfl] at hx245_2); (try rw [Addr.add_zero'] at hx245_2); (try rw [show ((0 : Int)).toNat = 0 from rfl] at hx245_3); (try rw [show 0 * 4 = 0 from rfl] at hx245_3); (try rw [Addr.add_zero'] at hx245_3); replace p245 := eq_true p245; replace q245 := eq_true q245))
                                go_ret
                                exact ⟨by first | rfl | (simp [errW_none, errW_some] <;> rfl) | (simp [*, errW_none, errW_some] <;> rfl), by repeat (first | (with_reducible first | exact HB.out | apply below_alloc | apply pw_below_drewN | apply below_drew1) | exact HB.out)⟩
                            · rw [if_neg c38] at H
                              exact absurd H (by simp)
                          · rw [if_neg c37] at H
                            have c37b0 : ((t240.length : Int) == 3) = false := beq_eq_false_iff_ne.mpr c37
                            have c37b1 : ((t240.length : Int) != 3) = true := bne_iff_ne.mpr c37
                            obtain rfl := Option.some.inj H
                            go_wp2_with (first | ((with_reducible refine gate_callee (f := 10) rfl ?_); refine goesL_ (some 50) rfl rfl Try.func10 (by kernel_rfl) rfl #[.string ((x4_1 ++ (⟨#[32, 48, 120]⟩ : ByteArray)) ++ x6_2)] rfl (by (try simp only [List.map_toArray, List.map_cons, List.map_nil]); first | done | rfl | (simp only [List.length_drop, List.length_take]; rfl)) ?_; (with_reducible refine (lex_All.calls k2 ((x4_1 ++ (⟨#[32, 48, 120]⟩ : ByteArray)) ++ x6_2) t240 t241 t242 _ A34.out).mono ?_); rintro e w48 ⟨v243, rfl, ho0, hb⟩; refine ⟨_, rfl, ?_⟩; have n0_ := Aside0.mk (Kd.R_lower ho0 (below_size (by repeat (first | (with_reducible first | exact HB.out | apply below_alloc | apply pw_below_drewN | apply below_drew1) | exact HB.out)))); have n1_ := Aside0.mk (below_step (by repeat (first | (with_reducible first | exact HB.out | apply below_alloc | apply pw_below_drewN | apply below_drew1) | exact HB.out)) hb); clear HB; have HO244 := n0_; have HB := n1_; clear n0_ n1_; (try clear hb); (try clear hb2); (try clear hk); (try clear hi); (try clear ho0); obtain ⟨Ao49, co49, eo49⟩ := Kd.R_slice HO244.out; subst eo49))
                            go_ret
                            exact ⟨by first | rfl | (simp [errW_none, errW_some] <;> rfl) | (simp [*, errW_none, errW_some] <;> rfl), by repeat (first | (with_reducible first | exact HB.out | apply below_alloc | apply pw_below_drewN | apply below_drew1) | exact HB.out)⟩
                        · rw [if_neg c36] at H
                          have c36b0 : (t241 == 0) = false := beq_eq_false_iff_ne.mpr c36
                          have c36b1 : (t241 != 0) = true := bne_iff_ne.mpr c36
                          obtain rfl := Option.some.inj H
                          go_wp2_with (first | ((with_reducible refine gate_callee (f := 10) rfl ?_); refine goesL_ (some 50) rfl rfl Try.func10 (by kernel_rfl) rfl #[.string ((x4_1 ++ (⟨#[32, 48, 120]⟩ : ByteArray)) ++ x6_2)] rfl (by (try simp only [List.map_toArray, List.map_cons, List.map_nil]); first | done | rfl | (simp only [List.length_drop, List.length_take]; rfl)) ?_; (with_reducible refine (lex_All.calls k2 ((x4_1 ++ (⟨#[32, 48, 120]⟩ : ByteArray)) ++ x6_2) t240 t241 t242 _ A34.out).mono ?_); rintro e w50 ⟨v243, rfl, ho0, hb⟩; refine ⟨_, rfl, ?_⟩; have n0_ := Aside0.mk (Kd.R_lower ho0 (below_size (by repeat (first | (with_reducible first | exact HB.out | apply below_alloc | apply pw_below_drewN | apply below_drew1) | exact HB.out)))); have n1_ := Aside0.mk (below_step (by repeat (first | (with_reducible first | exact HB.out | apply below_alloc | apply pw_below_drewN | apply below_drew1) | exact HB.out)) hb); clear HB; have HO244 := n0_; have HB := n1_; clear n0_ n1_; (try clear hb); (try clear hb2); (try clear hk); (try clear hi); (try clear ho0)))
                          go_ret
                          exact ⟨by first | rfl | (simp [errW_none, errW_some] <;> rfl) | (simp [*, errW_none, errW_some] <;> rfl), by repeat (first | (with_reducible first | exact HB.out | apply below_alloc | apply pw_below_drewN | apply below_drew1) | exact HB.out)⟩
                      · replace c35 := Bool.eq_false_iff.mpr c35
                        subst c35
                        have H1 : (some false) = some r := by rw [if_neg (show ¬ (false = true) by decide)] at H; exact H
                        clear H
                        have H := H1
                        clear H1
                        obtain rfl := Option.some.inj H
                        go_wp2_with (first | ((with_reducible refine gate_callee (f := 10) rfl ?_); refine goesL_ (some 50) rfl rfl Try.func10 (by kernel_rfl) rfl #[.string ((x4_1 ++ (⟨#[32, 48, 120]⟩ : ByteArray)) ++ x6_2)] rfl (by (try simp only [List.map_toArray, List.map_cons, List.map_nil]); first | done | rfl | (simp only [List.length_drop, List.length_take]; rfl)) ?_; (with_reducible refine (lex_All.calls k2 ((x4_1 ++ (⟨#[32, 48, 120]⟩ : ByteArray)) ++ x6_2) t240 t241 t242 _ A34.out).mono ?_); rintro e w51 ⟨v243, rfl, ho0, hb⟩; refine ⟨_, rfl, ?_⟩; have n0_ := Aside0.mk (Kd.R_lower ho0 (below_size (by repeat (first | (with_reducible first | exact HB.out | apply below_alloc | apply pw_below_drewN | apply below_drew1) | exact HB.out)))); have n1_ := Aside0.mk (below_step (by repeat (first | (with_reducible first | exact HB.out | apply below_alloc | apply pw_below_drewN | apply below_drew1) | exact HB.out)) hb); clear HB; have HO244 := n0_; have HB := n1_; clear n0_ n1_; (try clear hb); (try clear hb2); (try clear hk); (try clear hi); (try clear ho0)))
                        go_ret
                        exact ⟨by first | rfl | (simp [errW_none, errW_some] <;> rfl) | (simp [*, errW_none, errW_some] <;> rfl), by repeat (first | (with_reducible first | exact HB.out | apply below_alloc | apply pw_below_drewN | apply below_drew1) | exact HB.out)⟩
                    · rw [if_neg c33] at H
                      exact absurd H (by simp)
                  · rw [if_neg c32] at H
                    exact absurd H (by simp)

/-- What is to be shown of fairleadlaw09_LexWorth, without Go and memory. -/
def fairleadlaw09_LexWorth.Pure : Prop := ∀ (a0 : Int), (0 ≤ a0 ∧ a0 ≤ 18446744073709551615) → ∃ k, fairleadlaw09_LexWorth.f k a0 = some true

end Go.Proofs.Ytbiccohcikfgeaa.M
