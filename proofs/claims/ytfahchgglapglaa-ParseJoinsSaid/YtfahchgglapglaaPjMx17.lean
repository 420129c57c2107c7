-- Laid by a program (wip/tools/myprint.py) out of the loaded program's own print: for each Go function a Lean function and the proof of its contract.
import Derived.Test.YtfahchgglapglaaPjMx0
import Derived.Test.YtfahchgglapglaaPjMx10
import Derived.Test.YtfahchgglapglaaPjMx11
import Derived.Test.YtfahchgglapglaaPjMx16
namespace Go.Proofs.Ytfahchgglapglaa.M
open Go.RowKit Go.Proofs.YtfahchgglapglaaW.PrintWords Go.Proofs.YtfahchgglapglaaW.PrintLast Go.Proofs.YtfahchgglapglaaW.PrintMore
attribute [local go_sem] max2_int min2_int max_two min_two max_three min_three max_four min_four   -- for this text's walks alone
set_option linter.unusedVariables false
set_option linter.unusedSimpArgs false
mutual
def fairleadlaw10_ParseJoins.j0 : Nat → ByteArray → ByteArray → Bool → Bool → Option (Bool)
 | 0, _, _, _, _ => none
 | k + 1, x0, x1, x5, x25 => if x25 = true then (some x5) else ((parse_Parse.f k x0).bind fun bt229 => (if 12 + x1.size ≤ 9223372036854775807 then ((parse_Parse.f k ((⟨#[100, 101, 102, 97, 117, 108, 116, 32, 108, 111, 103, 59]⟩ : ByteArray) ++ x1)).bind fun bt237 => (if x0.size + 1 ≤ 9223372036854775807 then (if (x0 ++ (⟨#[10]⟩ : ByteArray)).size + x1.size ≤ 9223372036854775807 then ((parse_Parse.f k ((x0 ++ (⟨#[10]⟩ : ByteArray)) ++ x1)).bind fun bt245 => (if bt229.2.2.2.1 = 0 then (fairleadlaw10_ParseJoins.j1 k x5 bt245.2.2.2.1 (bt237.2.2.2.1 != 0) bt229.1 bt229.2.1 bt229.2.2.1 bt237.1 bt237.2.1 bt237.2.2.1 bt245.1 bt245.2.1 bt245.2.2.1) else (fairleadlaw10_ParseJoins.j1 k x5 bt245.2.2.2.1 true bt229.1 bt229.2.1 bt229.2.2.1 bt237.1 bt237.2.1 bt237.2.2.1 bt245.1 bt245.2.1 bt245.2.2.1))) else (none)) else (none))) else (none)))
def fairleadlaw10_ParseJoins.j1 : Nat → Bool → Int → Bool → Int → Int → List (S44) → Int → Int → List (S44) → Int → Int → List (S44) → Option (Bool)
 | 0, _, _, _, _, _, _, _, _, _, _, _, _ => none
 | k + 1, x5, x13, x54, Z0, Z1, Z2, Z3, Z4, Z5, Z6, Z7, Z8 => if x54 = true then (some x5) else (if (wrap64 ((Z2.length : Int) + (Z5.length : Int))) > 64 then (if x5 = true then (some (x13 == 4)) else (some false)) else ((some (([] : List (S44)) : List (S44))).bind fun y253 => (if y253.length + Z2.length < 2199023255552 then ((some (y253 ++ Z2 : List (S44))).bind fun y256 => (if y256.length + Z5.length < 2199023255552 then ((fairleadref10_Same.f k Z6 Z7 Z8 Z0 Z1 (y256 ++ Z5)).bind fun t263 => (if x5 = true then (if x13 = 0 then (some t263) else none) else none)) else (none))) else (none))))
end
def fairleadlaw10_ParseJoins.f (k : Nat) (a0 : ByteArray) (a1 : ByteArray) : Option (Bool) := (fairleadlaw10_awake.f k).bind fun t228 => (if (a0.size : Int) > 3000 then (fairleadlaw10_ParseJoins.j0 k a0 a1 t228 true) else (fairleadlaw10_ParseJoins.j0 k a0 a1 t228 (decide ((a1.size : Int) > 3000))))
def fairleadlaw10_ParseJoins.T11 : Bool × List (List Nat × List Nat) := (true, [([], []), ([0], [0]), ([], []), ([], []), ([3], [3]), ([2, 4], [2, 4]), ([], []), ([6], [6]), ([5, 7, 5], [5, 7]), ([1, 8], [1, 8]), ([], []), ([10, 9, 8, 0, 1, 2, 3, 4, 5, 6, 7, 8, 9, 10], [9, 10])])
def fairleadlaw10_ParseJoins.B11 : List Nat := [0, 1, 0, 0, 8, 28, 0, 64, 252, 511, 0, 2047]
theorem fairleadlaw10_ParseJoins.tab11 : rtab .any (opsOf Try.f4 11) = fairleadlaw10_ParseJoins.T11 := by kernel_rfl
theorem fairleadlaw10_ParseJoins.bits11 : waitsOk fairleadlaw10_ParseJoins.T11.2 fairleadlaw10_ParseJoins.B11 = true := by kernel_rfl
set_option maxHeartbeats 8000000 in
set_option maxRecDepth 100000 in
theorem fairleadlaw10_ParseJoins.calls (k : Nat) (a0 : ByteArray) (a1 : ByteArray) (r : Bool) (w : World) (h : fairleadlaw10_ParseJoins.f k a0 a1 = some r) :
  Calls Try.prog 4 #[.string a0, .string a1] w fun e w' => e = .returned (.bool r) ∧ Below w.heap.size w w' := by
 have hu27 := Try.underlying27
 have hu24 := Try.underlying24
 have HB := Aside0.mk (Below.refl w.heap.size w)
 have H : ((fairleadlaw10_awake.f k).bind fun t228 => (if (a0.size : Int) > 3000 then (fairleadlaw10_ParseJoins.j0 k a0 a1 t228 true) else (fairleadlaw10_ParseJoins.j0 k a0 a1 t228 (decide ((a1.size : Int) > 3000))))) = some r := h
 clear h
 replace H := Option.bind_eq_some_iff.mp H
 obtain ⟨t228, A30, H⟩ := H
 replace H : (if (a0.size : Int) > 3000 then (fairleadlaw10_ParseJoins.j0 k a0 a1 t228 true) else (fairleadlaw10_ParseJoins.j0 k a0 a1 t228 (decide ((a1.size : Int) > 3000)))) = some r := H
 have A3 := Aside0.mk A30
 clear A30
 have HC4 := Aside0.mk H
 clear H
 go_enter Try.func4, Try.ntmps4
 go_upto_region 2 with (first | ((with_reducible refine gate_callee (f := 9) rfl ?_); refine goesL_ (some 17) rfl rfl Try.func9 (by kernel_rfl) rfl #[] rfl (by (try simp only [List.map_toArray, List.map_cons, List.map_nil]); first | done | rfl | (simp only [List.length_drop, List.length_take]; rfl)) ?_; (with_reducible refine (fairleadlaw10_awake.calls k  t228 _ A3.out).mono ?_); rintro e w5 ⟨rfl, hb⟩; refine ⟨_, rfl, ?_⟩; have n0_ := Aside0.mk (below_step (by repeat (first | (with_reducible first | exact HB.out | apply below_alloc | apply pw_below_drewN | apply below_drew1) | exact HB.out)) hb); clear HB; have HB := n0_; clear n0_; (try clear hb); (try clear hb2); (try clear hk); (try clear hi)))
 (try simp only [Act.put, List.setIfInBounds_toArray, List.set_cons_zero, List.set_cons_succ])
 go_cut [25] (fun v25 wc => ∃ (kq : Nat) (x25_3 : Bool), v25 = .bool x25_3 ∧ Aside0 (fairleadlaw10_ParseJoins.j0 kq a0 a1 t228 x25_3 = some r) ∧ Aside0 (kq ≤ k) ∧ Aside0 (Below w.heap.size w wc))
 case first =>
  have H := HC4.out
  clear HC4
  by_cases c6 : (a0.size : Int) > 3000
  ·rw [if_pos c6] at H
   have c6b0 : decide (3000 < (a0.size : Int)) = true := decide_eq_true c6
   have c6b1 : decide (3000 < a0.size) = true := decide_eq_true (by omega)
   clear c6
   (first | rw [c6b0] | (simp only [i64_w, i32_w]; rw [c6b0]) | skip)
   have H' := Aside0.mk H
   clear H
   go_wp2
   go_meet
   case rel => exact ⟨_, (true), (by first | rfl | (simp; done) | (simp [*]; done)), H', ⟨by first | omega | exact Nat.le_refl _⟩, ⟨by repeat (first | (with_reducible first | exact HB.out | apply below_alloc | apply pw_below_drewN | apply below_drew1) | exact HB.out)⟩⟩
  ·rw [if_neg c6] at H
   have c6b0 : decide (3000 < (a0.size : Int)) = false := decide_eq_false c6
   have c6b1 : decide (3000 < a0.size) = false := decide_eq_false (by omega)
   clear c6
   (first | rw [c6b0] | (simp only [i64_w, i32_w]; rw [c6b0]) | skip)
   have H' := Aside0.mk H
   clear H
   go_wp2
   go_meet
   case rel => exact ⟨_, (decide ((a1.size : Int) > 3000)), (by first | rfl | (simp; done) | (simp [*]; done)), H', ⟨by first | omega | exact Nat.le_refl _⟩, ⟨by repeat (first | (with_reducible first | exact HB.out | apply below_alloc | apply pw_below_drewN | apply below_drew1) | exact HB.out)⟩⟩
 case rest =>
  clear HC4
  try clear p2
  try clear c4
  try clear c6
  try clear c6b0
  try clear c6b1
  obtain ⟨kq, x25_3, rfl, HA, HJ3, HB⟩ := hcut
  cases kq with
  | zero => exact absurd HA.out (by simp [fairleadlaw10_ParseJoins.j0])
  | succ kj3 =>
   have H := HA.out
   clear HA
   simp only [fairleadlaw10_ParseJoins.j0] at H
   by_cases c7 : x25_3 = true
   ·subst c7
    have H1 : (some t228) = some r := by rw [if_pos rfl] at H; exact H
    clear H
    have H := H1
    clear H1
    obtain rfl := Option.some.inj H
    go_wp2
    go_ret
    exact ⟨by first | rfl | (simp [errW_none, errW_some] <;> rfl) | (simp [*, errW_none, errW_some] <;> rfl), by repeat (first | (with_reducible first | exact HB.out | apply below_alloc | apply pw_below_drewN | apply below_drew1) | exact HB.out)⟩
   ·replace c7 := Bool.eq_false_iff.mpr c7
    subst c7
    have H1 : ((parse_Parse.f kj3 a0).bind fun bt229 => (if 12 + a1.size ≤ 9223372036854775807 then ((parse_Parse.f kj3 ((⟨#[100, 101, 102, 97, 117, 108, 116, 32, 108, 111, 103, 59]⟩ : ByteArray) ++ a1)).bind fun bt237 => (if a0.size + 1 ≤ 9223372036854775807 then (if (a0 ++ (⟨#[10]⟩ : ByteArray)).size + a1.size ≤ 9223372036854775807 then ((parse_Parse.f kj3 ((a0 ++ (⟨#[10]⟩ : ByteArray)) ++ a1)).bind fun bt245 => (if bt229.2.2.2.1 = 0 then (fairleadlaw10_ParseJoins.j1 kj3 t228 bt245.2.2.2.1 (bt237.2.2.2.1 != 0) bt229.1 bt229.2.1 bt229.2.2.1 bt237.1 bt237.2.1 bt237.2.2.1 bt245.1 bt245.2.1 bt245.2.2.1) else (fairleadlaw10_ParseJoins.j1 kj3 t228 bt245.2.2.2.1 true bt229.1 bt229.2.1 bt229.2.2.1 bt237.1 bt237.2.1 bt237.2.2.1 bt245.1 bt245.2.1 bt245.2.2.1))) else (none)) else (none))) else (none))) = some r := by rw [if_neg (show ¬ (false = true) by decide)] at H; exact H
    clear H
    have H := H1
    clear H1
    replace H := Option.bind_eq_some_iff.mp H
    obtain ⟨⟨t229, t230, t231, t234, t235⟩, A80, H⟩ := H
    replace H : (if 12 + a1.size ≤ 9223372036854775807 then ((parse_Parse.f kj3 ((⟨#[100, 101, 102, 97, 117, 108, 116, 32, 108, 111, 103, 59]⟩ : ByteArray) ++ a1)).bind fun bt237 => (if a0.size + 1 ≤ 9223372036854775807 then (if (a0 ++ (⟨#[10]⟩ : ByteArray)).size + a1.size ≤ 9223372036854775807 then ((parse_Parse.f kj3 ((a0 ++ (⟨#[10]⟩ : ByteArray)) ++ a1)).bind fun bt245 => (if t234 = 0 then (fairleadlaw10_ParseJoins.j1 kj3 t228 bt245.2.2.2.1 (bt237.2.2.2.1 != 0) t229 t230 t231 bt237.1 bt237.2.1 bt237.2.2.1 bt245.1 bt245.2.1 bt245.2.2.1) else (fairleadlaw10_ParseJoins.j1 kj3 t228 bt245.2.2.2.1 true t229 t230 t231 bt237.1 bt237.2.1 bt237.2.2.1 bt245.1 bt245.2.1 bt245.2.2.1))) else (none)) else (none))) else (none)) = some r := H
    have A8 := Aside0.mk A80
    clear A80
    by_cases c9 : 12 + a1.size ≤ 9223372036854775807
    ·rw [if_pos c9] at H
     have c9b0 := eq_true c9
     have c9b1 : decide (12 + a1.size ≤ 9223372036854775807) = true := decide_eq_true c9
     try have c9b2 : (9223372036854775807 < 12 + a1.size) = False := eq_false (Nat.not_lt.2 c9)
     replace H := Option.bind_eq_some_iff.mp H
     obtain ⟨⟨t237, t238, t239, t242, t243⟩, A100, H⟩ := H
     replace H : (if a0.size + 1 ≤ 9223372036854775807 then (if (a0 ++ (⟨#[10]⟩ : ByteArray)).size + a1.size ≤ 9223372036854775807 then ((parse_Parse.f kj3 ((a0 ++ (⟨#[10]⟩ : ByteArray)) ++ a1)).bind fun bt245 => (if t234 = 0 then (fairleadlaw10_ParseJoins.j1 kj3 t228 bt245.2.2.2.1 (t242 != 0) t229 t230 t231 t237 t238 t239 bt245.1 bt245.2.1 bt245.2.2.1) else (fairleadlaw10_ParseJoins.j1 kj3 t228 bt245.2.2.2.1 true t229 t230 t231 t237 t238 t239 bt245.1 bt245.2.1 bt245.2.2.1))) else (none)) else (none)) = some r := H
     have A10 := Aside0.mk A100
     clear A100
     by_cases c11 : a0.size + 1 ≤ 9223372036854775807
     ·rw [if_pos c11] at H
      have c11b0 := eq_true c11
      have c11b1 : decide (a0.size + 1 ≤ 9223372036854775807) = true := decide_eq_true c11
      try have c11b2 : (9223372036854775807 < a0.size + 1) = False := eq_false (Nat.not_lt.2 c11)
      by_cases c12 : (a0 ++ (⟨#[10]⟩ : ByteArray)).size + a1.size ≤ 9223372036854775807
      ·rw [if_pos c12] at H
       have c12b0 := eq_true c12
       have c12b1 : decide ((a0 ++ (⟨#[10]⟩ : ByteArray)).size + a1.size ≤ 9223372036854775807) = true := decide_eq_true c12
       (try (have c12b1s := c12b1; simp only [ByteArray.size_append, Int.natCast_add, Int.cast_ofNat_Int, show (⟨#[10]⟩ : ByteArray).size = 1 from rfl] at c12b1s))
       (try (have c12h := c12; simp only [ByteArray.size_append] at c12h; have c12b5 := eq_true c12h; have c12b6 := eq_false (Nat.not_lt.2 c12h); clear c12h))
       try have c12b2 : (9223372036854775807 < (a0 ++ (⟨#[10]⟩ : ByteArray)).size + a1.size) = False := eq_false (Nat.not_lt.2 c12)
       replace H := Option.bind_eq_some_iff.mp H
       obtain ⟨⟨t245, t246, t247, t250, t251⟩, A130, H⟩ := H
       replace H : (if t234 = 0 then (fairleadlaw10_ParseJoins.j1 kj3 t228 t250 (t242 != 0) t229 t230 t231 t237 t238 t239 t245 t246 t247) else (fairleadlaw10_ParseJoins.j1 kj3 t228 t250 true t229 t230 t231 t237 t238 t239 t245 t246 t247)) = some r := H
       have A13 := Aside0.mk A130
       clear A130
       have HC14 := Aside0.mk H
       clear H
       go_upto_region 7 with (first | ((with_reducible refine gate_callee (f := 10) rfl ?_); refine goesL_ (some 29) rfl rfl Try.func10 (by kernel_rfl) rfl #[.string a0] rfl (by (try simp only [List.map_toArray, List.map_cons, List.map_nil]); first | done | rfl | (simp only [List.length_drop, List.length_take]; rfl)) ?_; (with_reducible refine (parse_Parse.calls kj3 a0 t229 t230 t231 t234 t235 _ A8.out).mono ?_); rintro e w15 ⟨v232, rfl, ho0, hb⟩; refine ⟨_, rfl, ?_⟩; have n0_ := Aside0.mk (Kd.N_lower (Kd.N_mono (ok' := fun k_ => True) (Kd.S_N (Kd.S_bound ho0)) (fun k_ hk_ => trivial)) (below_size (by repeat (first | (with_reducible first | exact HB.out | apply below_alloc | apply pw_below_drewN | apply below_drew1) | exact HB.out)))); have n1_ := Aside0.mk (below_step (by repeat (first | (with_reducible first | exact HB.out | apply below_alloc | apply pw_below_drewN | apply below_drew1) | exact HB.out)) hb); clear HB; have HO233 := n0_; have HB := n1_; clear n0_ n1_; (try clear hb); (try clear hb2); (try clear hk); (try clear hi); (try clear ho0)) | ((with_reducible refine gate_dst (N := 6) rfl ?_); (try (refine gate_guard (by rfl) ?_; dsimp only)); refine box_event ?hg (N := 6) ?hd (cs := #[.int .i64 0, .int .i64 0, .slice none 0 0]) (t := 27) ?hr ?_; (case hd => rfl); (case hg => rfl); (case hr => first | (go_simp; done) | (go_simp; rfl)); intro gb236 hg w16 hbox hb; have n0_ := Aside0.mk (Kd.N_below (Kd.N_elderB (by (with_reducible repeat (first | apply Kd.N_alloc | apply Kd.N_drewN | apply Kd.N_drew)); exact HO233.out) gb236 (Nat.le_of_eq hg.symm)) hb); have n1_ := Aside0.mk (below_step (by repeat (first | (with_reducible first | exact HB.out | apply below_alloc | apply pw_below_drewN | apply below_drew1) | exact HB.out)) hb); have n2_ := Aside0.mk (hbox); have n3_ := Aside0.mk ((by rw [hg]; exact (below_size (by repeat (first | (with_reducible first | exact HB.out | apply below_alloc | apply pw_below_drewN | apply below_drew1) | exact HB.out))) : w.heap.size ≤ gb236)); have n4_ := Aside0.mk ((by rw [hg]; exact (below_size (by repeat (first | (with_reducible first | exact HB.out | apply below_alloc | apply pw_below_drewN | apply below_drew1) | exact HB.out))) : w.heap.size ≤ gb236)); clear HO233; clear HB; have HO233 := n0_; have HB := n1_; have BK236 := n2_; have GW236 := n3_; have GE236 := n4_; clear n0_ n1_ n2_ n3_ n4_; clear hb hbox hg; have hcz17_0 : w16.cell? ⟨gb236, 0, none⟩ = some (.int .i64 0) := (blk_cell BK236.out 0).trans rfl; have hcz17_1 : w16.cell? ⟨gb236, 1, none⟩ = some (.int .i64 0) := (blk_cell BK236.out 1).trans rfl; have hcz17_2 : w16.cell? ⟨gb236, 2, none⟩ = some (.slice none 0 0) := (blk_cell BK236.out 2).trans rfl; have hfz17_0 := blk_frozen BK236.out; obtain ⟨Ao18, co18, eo18⟩ := Kd.N_slice HO233.out; subst eo18) | ((with_reducible refine gate_callee (f := 10) rfl ?_); refine goesL_ (some 36) rfl rfl Try.func10 (by kernel_rfl) rfl #[.string ((⟨#[100, 101, 102, 97, 117, 108, 116, 32, 108, 111, 103, 59]⟩ : ByteArray) ++ a1)] rfl (by (try simp only [List.map_toArray, List.map_cons, List.map_nil]); first | done | rfl | (simp only [List.length_drop, List.length_take]; rfl)) ?_; (with_reducible refine (parse_Parse.calls kj3 ((⟨#[100, 101, 102, 97, 117, 108, 116, 32, 108, 111, 103, 59]⟩ : ByteArray) ++ a1) t237 t238 t239 t242 t243 _ A10.out).mono ?_); rintro e w19 ⟨v240, rfl, ho0, hb⟩; refine ⟨_, rfl, ?_⟩; have n0_ := Aside0.mk (Kd.N_elder' (by (with_reducible repeat (first | apply Kd.N_alloc | apply Kd.N_drewN | apply Kd.N_drew)); exact (Kd.N_mono (Kd.N_far (p := ⟨gb236, 2, none⟩) (Kd.N_far (p := ⟨gb236, 1, none⟩) (Kd.N_far (p := ⟨gb236, 0, none⟩) (Kd.N_mono HO233.out (fun k_ hk => (⟨hk, hk.2⟩ : _ ∧ k_ ≠ gb236))) (fun _ hk => by first | exact hk.2 | exact hk | exact trivial) (.int .i64 t229)) (fun _ hk => by first | exact hk.2 | exact hk | exact trivial) (.int .i64 t230)) (fun _ hk => by first | exact hk.2 | exact hk | exact trivial) (.slice Ao18 t231.length co18)) (fun _ h_ => h_.1))) (Kd.S_base ho0) hb); have n1_ := Aside0.mk (Kd.N_lower (Kd.N_mono (ok' := fun k_ => some k_ ≠ (.slice Ao18 t231.length co18 : Value).ownBlock ∧ k_ ≠ gb236) (Kd.S_N (Kd.S_bound ho0)) (fun k_ hk_ => ⟨(Kd.fresh' (Kd.N_lt (by (with_reducible repeat (first | apply Kd.N_alloc | apply Kd.N_drewN | apply Kd.N_drew)); exact (Kd.N_mono (Kd.N_far (p := ⟨gb236, 2, none⟩) (Kd.N_far (p := ⟨gb236, 1, none⟩) (Kd.N_far (p := ⟨gb236, 0, none⟩) (Kd.N_mono HO233.out (fun k_ hk => (⟨hk, hk.2⟩ : _ ∧ k_ ≠ gb236))) (fun _ hk => by first | exact hk.2 | exact hk | exact trivial) (.int .i64 t229)) (fun _ hk => by first | exact hk.2 | exact hk | exact trivial) (.int .i64 t230)) (fun _ hk => by first | exact hk.2 | exact hk | exact trivial) (.slice Ao18 t231.length co18)) (fun _ h_ => h_.1)))) k_ hk_.2.1), (Kd.freshB (g := gb236) (o := .cells #[.int .i64 t229, .int .i64 t230, .slice Ao18 t231.length co18] 27 (0, 0)) (by (with_reducible repeat (first | refine blk_drewN ?_ _ | refine blk_drew ?_ | refine blk_alloc ?_ _)); refine blk_put (cs := #[.int .i64 t229, .int .i64 t230, .slice none 0 0]) ?_ 2 _ rfl; (with_reducible repeat (first | refine blk_drewN ?_ _ | refine blk_drew ?_ | refine blk_alloc ?_ _)); refine blk_put (cs := #[.int .i64 t229, .int .i64 0, .slice none 0 0]) ?_ 1 _ rfl; (with_reducible repeat (first | refine blk_drewN ?_ _ | refine blk_drew ?_ | refine blk_alloc ?_ _)); refine blk_put (cs := #[.int .i64 0, .int .i64 0, .slice none 0 0]) ?_ 0 _ rfl; (with_reducible repeat (first | refine blk_drewN ?_ _ | refine blk_drew ?_ | refine blk_alloc ?_ _)); exact BK236.out) k_ hk_.2.1)⟩)) (below_size (by repeat (first | (with_reducible first | exact HB.out | apply below_alloc | apply pw_below_drewN | apply below_drew1 | refine below_set ?_ GE236.out) | exact HB.out)))); have n2_ := Aside0.mk (blk_below (g := gb236) (o := .cells #[.int .i64 t229, .int .i64 t230, .slice Ao18 t231.length co18] 27 (0, 0)) (by (with_reducible repeat (first | refine blk_drewN ?_ _ | refine blk_drew ?_ | refine blk_alloc ?_ _)); refine blk_put (cs := #[.int .i64 t229, .int .i64 t230, .slice none 0 0]) ?_ 2 _ rfl; (with_reducible repeat (first | refine blk_drewN ?_ _ | refine blk_drew ?_ | refine blk_alloc ?_ _)); refine blk_put (cs := #[.int .i64 t229, .int .i64 0, .slice none 0 0]) ?_ 1 _ rfl; (with_reducible repeat (first | refine blk_drewN ?_ _ | refine blk_drew ?_ | refine blk_alloc ?_ _)); refine blk_put (cs := #[.int .i64 0, .int .i64 0, .slice none 0 0]) ?_ 0 _ rfl; (with_reducible repeat (first | refine blk_drewN ?_ _ | refine blk_drew ?_ | refine blk_alloc ?_ _)); exact BK236.out) hb); have n3_ := Aside0.mk (below_step (by repeat (first | (with_reducible first | exact HB.out | apply below_alloc | apply pw_below_drewN | apply below_drew1 | refine below_set ?_ GE236.out) | exact HB.out)) hb); clear HO233; clear BK236; clear HB; have HO233 := n0_; have HO241 := n1_; have BK236 := n2_; have HB := n3_; clear n0_ n1_ n2_ n3_; (try clear hb); (try clear hb2); (try clear hk); (try clear hi); (try clear ho0)) | ((with_reducible refine gate_dst (N := 9) rfl ?_); (try (refine gate_guard (by rfl) ?_; dsimp only)); refine box_event ?hg (N := 9) ?hd (cs := #[.int .i64 0, .int .i64 0, .slice none 0 0]) (t := 27) ?hr ?_; (case hd => rfl); (case hg => rfl); (case hr => first | (go_simp; done) | (go_simp; rfl)); intro gb244 hg w20 hbox hb; have n0_ := Aside0.mk (Kd.N_below (Kd.N_elderB (by (with_reducible repeat (first | apply Kd.N_alloc | apply Kd.N_drewN | apply Kd.N_drew)); exact HO233.out) gb244 (Nat.le_of_eq hg.symm)) hb); have n1_ := Aside0.mk (Kd.N_below (Kd.N_elderB (by (with_reducible repeat (first | apply Kd.N_alloc | apply Kd.N_drewN | apply Kd.N_drew)); exact HO241.out) gb244 (Nat.le_of_eq hg.symm)) hb); have n2_ := Aside0.mk (blk_below (g := gb236) (o := .cells #[.int .i64 t229, .int .i64 t230, .slice Ao18 t231.length co18] 27 (0, 0)) (by (with_reducible repeat (first | refine blk_drewN ?_ _ | refine blk_drew ?_ | refine blk_alloc ?_ _)); exact BK236.out) hb); have n3_ := Aside0.mk (below_step (by repeat (first | (with_reducible first | exact HB.out | apply below_alloc | apply pw_below_drewN | apply below_drew1 | refine below_set ?_ GE236.out) | exact HB.out)) hb); have n4_ := Aside0.mk (hbox); have n5_ := Aside0.mk ((by rw [hg]; exact (below_size (by repeat (first | (with_reducible first | exact HB.out | apply below_alloc | apply pw_below_drewN | apply below_drew1 | refine below_set ?_ GE236.out) | exact HB.out))) : w.heap.size ≤ gb244)); have n6_ := Aside0.mk ((by rw [hg]; exact (below_size (by repeat (first | (with_reducible first | exact HB.out | apply below_alloc | apply pw_below_drewN | apply below_drew1 | refine below_set ?_ GE236.out) | exact HB.out))) : w.heap.size ≤ gb244)); have n7_ := Aside0.mk ((by rw [hg]; exact Nat.ne_of_lt (blk_lt (g := gb236) (o := .cells #[.int .i64 t229, .int .i64 t230, .slice Ao18 t231.length co18] 27 (0, 0)) (by (with_reducible repeat (first | refine blk_drewN ?_ _ | refine blk_drew ?_ | refine blk_alloc ?_ _)); exact BK236.out)) : gb236 ≠ gb244)); have n8_ := Aside0.mk ((by rw [hg]; exact Nat.ne_of_gt (blk_lt (g := gb236) (o := .cells #[.int .i64 t229, .int .i64 t230, .slice Ao18 t231.length co18] 27 (0, 0)) (by (with_reducible repeat (first | refine blk_drewN ?_ _ | refine blk_drew ?_ | refine blk_alloc ?_ _)); exact BK236.out)) : gb244 ≠ gb236)); clear HO233; clear HO241; clear BK236; clear HB; have HO233 := n0_; have HO241 := n1_; have BK236 := n2_; have HB := n3_; have BK244 := n4_; have GW244 := n5_; have GE244 := n6_; have NB236_244 := n7_; have NB244_236 := n8_; clear n0_ n1_ n2_ n3_ n4_ n5_ n6_ n7_ n8_; clear hb hbox hg; have hnb21 := NB244_236.out; have hnc21 := NB236_244.out; have hcz22_0 : w20.cell? ⟨gb244, 0, none⟩ = some (.int .i64 0) := (blk_cell BK244.out 0).trans rfl; have hcz22_1 : w20.cell? ⟨gb244, 1, none⟩ = some (.int .i64 0) := (blk_cell BK244.out 1).trans rfl; have hcz22_2 : w20.cell? ⟨gb244, 2, none⟩ = some (.slice none 0 0) := (blk_cell BK244.out 2).trans rfl; have hfz22_0 := blk_frozen BK244.out; obtain ⟨Ao23, co23, eo23⟩ := Kd.N_slice HO241.out; subst eo23) | ((with_reducible refine gate_callee (f := 10) rfl ?_); refine goesL_ (some 45) rfl rfl Try.func10 (by kernel_rfl) rfl #[.string ((a0 ++ (⟨#[10]⟩ : ByteArray)) ++ a1)] rfl (by (try simp only [List.map_toArray, List.map_cons, List.map_nil]); first | done | rfl | (simp only [List.length_drop, List.length_take]; rfl)) ?_; (with_reducible refine (parse_Parse.calls kj3 ((a0 ++ (⟨#[10]⟩ : ByteArray)) ++ a1) t245 t246 t247 t250 t251 _ A13.out).mono ?_); rintro e w24 ⟨v248, rfl, ho0, hb⟩; refine ⟨_, rfl, ?_⟩; have n0_ := Aside0.mk (Kd.N_elder' (by (with_reducible repeat (first | apply Kd.N_alloc | apply Kd.N_drewN | apply Kd.N_drew)); exact (Kd.N_mono (Kd.N_far (p := ⟨gb244, 2, none⟩) (Kd.N_far (p := ⟨gb244, 1, none⟩) (Kd.N_far (p := ⟨gb244, 0, none⟩) (Kd.N_mono HO233.out (fun k_ hk => (⟨hk, hk.2⟩ : _ ∧ k_ ≠ gb244))) (fun _ hk => by first | exact hk.2 | exact hk | exact trivial) (.int .i64 t237)) (fun _ hk => by first | exact hk.2 | exact hk | exact trivial) (.int .i64 t238)) (fun _ hk => by first | exact hk.2 | exact hk | exact trivial) (.slice Ao23 t239.length co23)) (fun _ h_ => h_.1))) (Kd.S_base ho0) hb); have n1_ := Aside0.mk (Kd.N_elder' (by (with_reducible repeat (first | apply Kd.N_alloc | apply Kd.N_drewN | apply Kd.N_drew)); exact (Kd.N_mono (Kd.N_far (p := ⟨gb244, 2, none⟩) (Kd.N_far (p := ⟨gb244, 1, none⟩) (Kd.N_far (p := ⟨gb244, 0, none⟩) (Kd.N_mono HO241.out (fun k_ hk => (⟨hk, hk.2⟩ : _ ∧ k_ ≠ gb244))) (fun _ hk => by first | exact hk.2 | exact hk | exact trivial) (.int .i64 t237)) (fun _ hk => by first | exact hk.2 | exact hk | exact trivial) (.int .i64 t238)) (fun _ hk => by first | exact hk.2 | exact hk | exact trivial) (.slice Ao23 t239.length co23)) (fun _ h_ => h_.1))) (Kd.S_base ho0) hb); have n2_ := Aside0.mk (Kd.N_lower (Kd.N_mono (ok' := fun k_ => some k_ ≠ (.slice Ao18 t231.length co18 : Value).ownBlock ∧ some k_ ≠ (.slice Ao23 t239.length co23 : Value).ownBlock ∧ k_ ≠ gb236 ∧ k_ ≠ gb244) (Kd.S_N (Kd.S_bound ho0)) (fun k_ hk_ => ⟨(Kd.fresh' (Kd.N_lt (by (with_reducible repeat (first | apply Kd.N_alloc | apply Kd.N_drewN | apply Kd.N_drew)); exact (Kd.N_mono (Kd.N_far (p := ⟨gb244, 2, none⟩) (Kd.N_far (p := ⟨gb244, 1, none⟩) (Kd.N_far (p := ⟨gb244, 0, none⟩) (Kd.N_mono HO233.out (fun k_ hk => (⟨hk, hk.2⟩ : _ ∧ k_ ≠ gb244))) (fun _ hk => by first | exact hk.2 | exact hk | exact trivial) (.int .i64 t237)) (fun _ hk => by first | exact hk.2 | exact hk | exact trivial) (.int .i64 t238)) (fun _ hk => by first | exact hk.2 | exact hk | exact trivial) (.slice Ao23 t239.length co23)) (fun _ h_ => h_.1)))) k_ hk_.2.1), (Kd.fresh' (Kd.N_lt (by (with_reducible repeat (first | apply Kd.N_alloc | apply Kd.N_drewN | apply Kd.N_drew)); exact (Kd.N_mono (Kd.N_far (p := ⟨gb244, 2, none⟩) (Kd.N_far (p := ⟨gb244, 1, none⟩) (Kd.N_far (p := ⟨gb244, 0, none⟩) (Kd.N_mono HO241.out (fun k_ hk => (⟨hk, hk.2⟩ : _ ∧ k_ ≠ gb244))) (fun _ hk => by first | exact hk.2 | exact hk | exact trivial) (.int .i64 t237)) (fun _ hk => by first | exact hk.2 | exact hk | exact trivial) (.int .i64 t238)) (fun _ hk => by first | exact hk.2 | exact hk | exact trivial) (.slice Ao23 t239.length co23)) (fun _ h_ => h_.1)))) k_ hk_.2.1), (Kd.freshB (g := gb236) (o := .cells #[.int .i64 t229, .int .i64 t230, .slice Ao18 t231.length co18] 27 (0, 0)) (by (with_reducible repeat (first | refine blk_drewN ?_ _ | refine blk_drew ?_ | refine blk_alloc ?_ _)); refine blk_far ?_ NB236_244.out _; (with_reducible repeat (first | refine blk_drewN ?_ _ | refine blk_drew ?_ | refine blk_alloc ?_ _)); refine blk_far ?_ NB236_244.out _; (with_reducible repeat (first | refine blk_drewN ?_ _ | refine blk_drew ?_ | refine blk_alloc ?_ _)); refine blk_far ?_ NB236_244.out _; (with_reducible repeat (first | refine blk_drewN ?_ _ | refine blk_drew ?_ | refine blk_alloc ?_ _)); exact BK236.out) k_ hk_.2.1), (Kd.freshB (g := gb244) (o := .cells #[.int .i64 t237, .int .i64 t238, .slice Ao23 t239.length co23] 27 (0, 0)) (by (with_reducible repeat (first | refine blk_drewN ?_ _ | refine blk_drew ?_ | refine blk_alloc ?_ _)); refine blk_put (cs := #[.int .i64 t237, .int .i64 t238, .slice none 0 0]) ?_ 2 _ rfl; (with_reducible repeat (first | refine blk_drewN ?_ _ | refine blk_drew ?_ | refine blk_alloc ?_ _)); refine blk_put (cs := #[.int .i64 t237, .int .i64 0, .slice none 0 0]) ?_ 1 _ rfl; (with_reducible repeat (first | refine blk_drewN ?_ _ | refine blk_drew ?_ | refine blk_alloc ?_ _)); refine blk_put (cs := #[.int .i64 0, .int .i64 0, .slice none 0 0]) ?_ 0 _ rfl; (with_reducible repeat (first | refine blk_drewN ?_ _ | refine blk_drew ?_ | refine blk_alloc ?_ _)); exact BK244.out) k_ hk_.2.1)⟩)) (below_size (by repeat (first | (with_reducible first | exact HB.out | apply below_alloc | apply pw_below_drewN | apply below_drew1 | refine below_set ?_ GE236.out | refine below_set ?_ GE244.out) | exact HB.out)))); have n3_ := Aside0.mk (blk_below (g := gb236) (o := .cells #[.int .i64 t229, .int .i64 t230, .slice Ao18 t231.length co18] 27 (0, 0)) (by (with_reducible repeat (first | refine blk_drewN ?_ _ | refine blk_drew ?_ | refine blk_alloc ?_ _)); refine blk_far ?_ NB236_244.out _; (with_reducible repeat (first | refine blk_drewN ?_ _ | refine blk_drew ?_ | refine blk_alloc ?_ _)); refine blk_far ?_ NB236_244.out _; (with_reducible repeat (first | refine blk_drewN ?_ _ | refine blk_drew ?_ | refine blk_alloc ?_ _)); refine blk_far ?_ NB236_244.out _; (with_reducible repeat (first | refine blk_drewN ?_ _ | refine blk_drew ?_ | refine blk_alloc ?_ _)); exact BK236.out) hb); have n4_ := Aside0.mk (blk_below (g := gb244) (o := .cells #[.int .i64 t237, .int .i64 t238, .slice Ao23 t239.length co23] 27 (0, 0)) (by (with_reducible repeat (first | refine blk_drewN ?_ _ | refine blk_drew ?_ | refine blk_alloc ?_ _)); refine blk_put (cs := #[.int .i64 t237, .int .i64 t238, .slice none 0 0]) ?_ 2 _ rfl; (with_reducible repeat (first | refine blk_drewN ?_ _ | refine blk_drew ?_ | refine blk_alloc ?_ _)); refine blk_put (cs := #[.int .i64 t237, .int .i64 0, .slice none 0 0]) ?_ 1 _ rfl; (with_reducible repeat (first | refine blk_drewN ?_ _ | refine blk_drew ?_ | refine blk_alloc ?_ _)); refine blk_put (cs := #[.int .i64 0, .int .i64 0, .slice none 0 0]) ?_ 0 _ rfl; (with_reducible repeat (first | refine blk_drewN ?_ _ | refine blk_drew ?_ | refine blk_alloc ?_ _)); exact BK244.out) hb); have n5_ := Aside0.mk (below_step (by repeat (first | (with_reducible first | exact HB.out | apply below_alloc | apply pw_below_drewN | apply below_drew1 | refine below_set ?_ GE236.out | refine below_set ?_ GE244.out) | exact HB.out)) hb); clear HO233; clear HO241; clear BK236; clear BK244; clear HB; have HO233 := n0_; have HO241 := n1_; have HO249 := n2_; have BK236 := n3_; have BK244 := n4_; have HB := n5_; clear n0_ n1_ n2_ n3_ n4_ n5_; (try clear hb); (try clear hb2); (try clear hk); (try clear hi); (try clear ho0)) | ((with_reducible refine gate_dst (N := 12) rfl ?_); (try (refine gate_guard (by rfl) ?_; dsimp only)); refine box_event ?hg (N := 12) ?hd (cs := #[.int .i64 0, .int .i64 0, .slice none 0 0]) (t := 27) ?hr ?_; (case hd => rfl); (case hg => rfl); (case hr => first | (go_simp; done) | (go_simp; rfl)); intro gb252 hg w25 hbox hb; have n0_ := Aside0.mk (Kd.N_below (Kd.N_elderB (by (with_reducible repeat (first | apply Kd.N_alloc | apply Kd.N_drewN | apply Kd.N_drew)); exact HO233.out) gb252 (Nat.le_of_eq hg.symm)) hb); have n1_ := Aside0.mk (Kd.N_below (Kd.N_elderB (by (with_reducible repeat (first | apply Kd.N_alloc | apply Kd.N_drewN | apply Kd.N_drew)); exact HO241.out) gb252 (Nat.le_of_eq hg.symm)) hb); have n2_ := Aside0.mk (Kd.N_below (Kd.N_elderB (by (with_reducible repeat (first | apply Kd.N_alloc | apply Kd.N_drewN | apply Kd.N_drew)); exact HO249.out) gb252 (Nat.le_of_eq hg.symm)) hb); have n3_ := Aside0.mk (blk_below (g := gb236) (o := .cells #[.int .i64 t229, .int .i64 t230, .slice Ao18 t231.length co18] 27 (0, 0)) (by (with_reducible repeat (first | refine blk_drewN ?_ _ | refine blk_drew ?_ | refine blk_alloc ?_ _)); exact BK236.out) hb); have n4_ := Aside0.mk (blk_below (g := gb244) (o := .cells #[.int .i64 t237, .int .i64 t238, .slice Ao23 t239.length co23] 27 (0, 0)) (by (with_reducible repeat (first | refine blk_drewN ?_ _ | refine blk_drew ?_ | refine blk_alloc ?_ _)); exact BK244.out) hb); have n5_ := Aside0.mk (below_step (by repeat (first | (with_reducible first | exact HB.out | apply below_alloc | apply pw_below_drewN | apply below_drew1 | refine below_set ?_ GE236.out | refine below_set ?_ GE244.out) | exact HB.out)) hb); have n6_ := Aside0.mk (hbox); have n7_ := Aside0.mk ((by rw [hg]; exact (below_size (by repeat (first | (with_reducible first | exact HB.out | apply below_alloc | apply pw_below_drewN | apply below_drew1 | refine below_set ?_ GE236.out | refine below_set ?_ GE244.out) | exact HB.out))) : w.heap.size ≤ gb252)); have n8_ := Aside0.mk ((by rw [hg]; exact (below_size (by repeat (first | (with_reducible first | exact HB.out | apply below_alloc | apply pw_below_drewN | apply below_drew1 | refine below_set ?_ GE236.out | refine below_set ?_ GE244.out) | exact HB.out))) : w.heap.size ≤ gb252)); have n9_ := Aside0.mk ((by rw [hg]; exact Nat.ne_of_lt (blk_lt (g := gb236) (o := .cells #[.int .i64 t229, .int .i64 t230, .slice Ao18 t231.length co18] 27 (0, 0)) (by (with_reducible repeat (first | refine blk_drewN ?_ _ | refine blk_drew ?_ | refine blk_alloc ?_ _)); exact BK236.out)) : gb236 ≠ gb252)); have n10_ := Aside0.mk ((by rw [hg]; exact Nat.ne_of_gt (blk_lt (g := gb236) (o := .cells #[.int .i64 t229, .int .i64 t230, .slice Ao18 t231.length co18] 27 (0, 0)) (by (with_reducible repeat (first | refine blk_drewN ?_ _ | refine blk_drew ?_ | refine blk_alloc ?_ _)); exact BK236.out)) : gb252 ≠ gb236)); have n11_ := Aside0.mk ((by rw [hg]; exact Nat.ne_of_lt (blk_lt (g := gb244) (o := .cells #[.int .i64 t237, .int .i64 t238, .slice Ao23 t239.length co23] 27 (0, 0)) (by (with_reducible repeat (first | refine blk_drewN ?_ _ | refine blk_drew ?_ | refine blk_alloc ?_ _)); exact BK244.out)) : gb244 ≠ gb252)); have n12_ := Aside0.mk ((by rw [hg]; exact Nat.ne_of_gt (blk_lt (g := gb244) (o := .cells #[.int .i64 t237, .int .i64 t238, .slice Ao23 t239.length co23] 27 (0, 0)) (by (with_reducible repeat (first | refine blk_drewN ?_ _ | refine blk_drew ?_ | refine blk_alloc ?_ _)); exact BK244.out)) : gb252 ≠ gb244)); clear HO233; clear HO241; clear HO249; clear BK236; clear BK244; clear HB; have HO233 := n0_; have HO241 := n1_; have HO249 := n2_; have BK236 := n3_; have BK244 := n4_; have HB := n5_; have BK252 := n6_; have GW252 := n7_; have GE252 := n8_; have NB236_252 := n9_; have NB252_236 := n10_; have NB244_252 := n11_; have NB252_244 := n12_; clear n0_ n1_ n2_ n3_ n4_ n5_ n6_ n7_ n8_ n9_ n10_ n11_ n12_; clear hb hbox hg; have hnb26 := NB252_236.out; have hnc26 := NB236_252.out; have hnb27 := NB252_244.out; have hnc27 := NB244_252.out; have hcz28_0 : w25.cell? ⟨gb252, 0, none⟩ = some (.int .i64 0) := (blk_cell BK252.out 0).trans rfl; have hcz28_1 : w25.cell? ⟨gb252, 1, none⟩ = some (.int .i64 0) := (blk_cell BK252.out 1).trans rfl; have hcz28_2 : w25.cell? ⟨gb252, 2, none⟩ = some (.slice none 0 0) := (blk_cell BK252.out 2).trans rfl; have hfz28_0 := blk_frozen BK252.out; obtain ⟨Ao29, co29, eo29⟩ := Kd.N_slice HO249.out; subst eo29))
       (try simp only [Act.put, List.setIfInBounds_toArray, List.set_cons_zero, List.set_cons_succ])
       go_cut [54] (fun v54 wc => ∃ (kq : Nat) (x54_13 : Bool), v54 = .bool x54_13 ∧ Aside0 (fairleadlaw10_ParseJoins.j1 kq t228 t250 x54_13 t229 t230 t231 t237 t238 t239 t245 t246 t247 = some r) ∧ Aside0 (kq ≤ kj3) ∧ Aside0 (Kd.N k44 44 wc w.heap.size (fun k_ => some k_ ≠ ((.slice Ao23 t239.length co23) : Value).ownBlock ∧ some k_ ≠ ((.slice Ao29 t247.length co29) : Value).ownBlock ∧ k_ ≠ gb236 ∧ k_ ≠ gb244 ∧ k_ ≠ gb252) (.slice Ao18 t231.length co18) t231) ∧ Aside0 (Kd.N k44 44 wc w.heap.size (fun k_ => some k_ ≠ ((.slice Ao18 t231.length co18) : Value).ownBlock ∧ some k_ ≠ ((.slice Ao29 t247.length co29) : Value).ownBlock ∧ k_ ≠ gb236 ∧ k_ ≠ gb244 ∧ k_ ≠ gb252) (.slice Ao23 t239.length co23) t239) ∧ Aside0 (Kd.N k44 44 wc w.heap.size (fun k_ => some k_ ≠ ((.slice Ao18 t231.length co18) : Value).ownBlock ∧ some k_ ≠ ((.slice Ao23 t239.length co23) : Value).ownBlock ∧ k_ ≠ gb236 ∧ k_ ≠ gb244 ∧ k_ ≠ gb252) (.slice Ao29 t247.length co29) t247) ∧ Aside0 (wc.heap[gb236]? = some (.cells #[.int .i64 t229, .int .i64 t230, (.slice Ao18 t231.length co18)] 27 (0, 0))) ∧ Aside0 (wc.heap[gb244]? = some (.cells #[.int .i64 t237, .int .i64 t238, (.slice Ao23 t239.length co23)] 27 (0, 0))) ∧ Aside0 (wc.heap[gb252]? = some (.cells #[.int .i64 t245, .int .i64 t246, (.slice Ao29 t247.length co29)] 27 (0, 0))) ∧ Aside0 (Below w.heap.size w wc))
       case first =>
        have H := HC14.out
        clear HC14
        by_cases c30 : t234 = 0
        ·rw [if_pos c30] at H
         have c30b0 : (t234 == 0) = true := beq_iff_eq.mpr c30
         have c30b1 : (t234 != 0) = false := bne_eq_false_iff_eq.mpr c30
         clear c30
         (first | rw [c30b0] | (simp only [i64_w, i32_w]; rw [c30b0]) | skip)
         have H' := Aside0.mk H
         clear H
         go_wp2
         go_meet
         case rel => exact ⟨_, ((t242 != 0)), (by first | rfl | (simp; done) | (simp [*]; done)), H', ⟨by have := HJ3.out; first | omega | exact Nat.le_refl _⟩, ⟨by (with_reducible repeat (first | apply Kd.N_alloc | apply Kd.N_drewN | apply Kd.N_drew)); exact Kd.N_mono (Kd.N_far (p := ⟨gb252, 2, none⟩) (Kd.N_far (p := ⟨gb252, 1, none⟩) (Kd.N_far (p := ⟨gb252, 0, none⟩) (Kd.N_mono HO233.out (fun k_ hk => (⟨hk, hk.2⟩ : _ ∧ k_ ≠ gb252))) (fun _ hk => by first | exact hk.2 | exact hk | exact trivial) (.int .i64 t245)) (fun _ hk => by first | exact hk.2 | exact hk | exact trivial) (.int .i64 t246)) (fun _ hk => by first | exact hk.2 | exact hk | exact trivial) (.slice Ao29 t247.length co29)) (fun _ hk => ⟨hk.1.1.1.1.2, ⟨hk.1.1.2, ⟨hk.1.1.1.1.1.2, ⟨hk.1.1.1.2, hk.1.2⟩⟩⟩⟩)⟩, ⟨by (with_reducible repeat (first | apply Kd.N_alloc | apply Kd.N_drewN | apply Kd.N_drew)); exact Kd.N_mono (Kd.N_far (p := ⟨gb252, 2, none⟩) (Kd.N_far (p := ⟨gb252, 1, none⟩) (Kd.N_far (p := ⟨gb252, 0, none⟩) (Kd.N_mono HO241.out (fun k_ hk => (⟨hk, hk.2⟩ : _ ∧ k_ ≠ gb252))) (fun _ hk => by first | exact hk.2 | exact hk | exact trivial) (.int .i64 t245)) (fun _ hk => by first | exact hk.2 | exact hk | exact trivial) (.int .i64 t246)) (fun _ hk => by first | exact hk.2 | exact hk | exact trivial) (.slice Ao29 t247.length co29)) (fun _ hk => ⟨hk.1.1.1.1.1, ⟨hk.1.1.2, ⟨hk.1.1.1.1.2, ⟨hk.1.1.1.2, hk.1.2⟩⟩⟩⟩)⟩, ⟨by (with_reducible repeat (first | apply Kd.N_alloc | apply Kd.N_drewN | apply Kd.N_drew)); exact Kd.N_mono (Kd.N_far (p := ⟨gb252, 2, none⟩) (Kd.N_far (p := ⟨gb252, 1, none⟩) (Kd.N_far (p := ⟨gb252, 0, none⟩) (Kd.N_mono HO249.out (fun k_ hk => (⟨hk, hk.2⟩ : _ ∧ k_ ≠ gb252))) (fun _ hk => by first | exact hk.2 | exact hk | exact trivial) (.int .i64 t245)) (fun _ hk => by first | exact hk.2 | exact hk | exact trivial) (.int .i64 t246)) (fun _ hk => by first | exact hk.2 | exact hk | exact trivial) (.slice Ao29 t247.length co29)) (fun _ hk => ⟨hk.1.1.1, ⟨hk.1.1.2.1, ⟨hk.1.1.2.2.1, ⟨hk.1.1.2.2.2, hk.1.2⟩⟩⟩⟩)⟩, ⟨by (with_reducible repeat (first | refine blk_drewN ?_ _ | refine blk_drew ?_ | refine blk_alloc ?_ _)); refine blk_far ?_ NB236_252.out _; (with_reducible repeat (first | refine blk_drewN ?_ _ | refine blk_drew ?_ | refine blk_alloc ?_ _)); refine blk_far ?_ NB236_252.out _; (with_reducible repeat (first | refine blk_drewN ?_ _ | refine blk_drew ?_ | refine blk_alloc ?_ _)); refine blk_far ?_ NB236_252.out _; (with_reducible repeat (first | refine blk_drewN ?_ _ | refine blk_drew ?_ | refine blk_alloc ?_ _)); exact BK236.out⟩, ⟨by (with_reducible repeat (first | refine blk_drewN ?_ _ | refine blk_drew ?_ | refine blk_alloc ?_ _)); refine blk_far ?_ NB244_252.out _; (with_reducible repeat (first | refine blk_drewN ?_ _ | refine blk_drew ?_ | refine blk_alloc ?_ _)); refine blk_far ?_ NB244_252.out _; (with_reducible repeat (first | refine blk_drewN ?_ _ | refine blk_drew ?_ | refine blk_alloc ?_ _)); refine blk_far ?_ NB244_252.out _; (with_reducible repeat (first | refine blk_drewN ?_ _ | refine blk_drew ?_ | refine blk_alloc ?_ _)); exact BK244.out⟩, ⟨by (with_reducible repeat (first | refine blk_drewN ?_ _ | refine blk_drew ?_ | refine blk_alloc ?_ _)); refine blk_put (cs := #[.int .i64 t245, .int .i64 t246, .slice none 0 0]) ?_ 2 _ rfl; (with_reducible repeat (first | refine blk_drewN ?_ _ | refine blk_drew ?_ | refine blk_alloc ?_ _)); refine blk_put (cs := #[.int .i64 t245, .int .i64 0, .slice none 0 0]) ?_ 1 _ rfl; (with_reducible repeat (first | refine blk_drewN ?_ _ | refine blk_drew ?_ | refine blk_alloc ?_ _)); refine blk_put (cs := #[.int .i64 0, .int .i64 0, .slice none 0 0]) ?_ 0 _ rfl; (with_reducible repeat (first | refine blk_drewN ?_ _ | refine blk_drew ?_ | refine blk_alloc ?_ _)); exact BK252.out⟩, ⟨by repeat (first | (with_reducible first | exact HB.out | apply below_alloc | apply pw_below_drewN | apply below_drew1 | refine below_set ?_ GE236.out | refine below_set ?_ GE244.out | refine below_set ?_ GE252.out) | exact HB.out)⟩⟩
        ·rw [if_neg c30] at H
         have c30b0 : (t234 == 0) = false := beq_eq_false_iff_ne.mpr c30
         have c30b1 : (t234 != 0) = true := bne_iff_ne.mpr c30
         (first | rw [c30b0] | (simp only [i64_w, i32_w]; rw [c30b0]) | skip)
         have H' := Aside0.mk H
         clear H
         go_wp2
         go_meet
         case rel => exact ⟨_, (true), (by first | rfl | (simp; done) | (simp [*]; done)), H', ⟨by have := HJ3.out; first | omega | exact Nat.le_refl _⟩, ⟨by (with_reducible repeat (first | apply Kd.N_alloc | apply Kd.N_drewN | apply Kd.N_drew)); exact Kd.N_mono (Kd.N_far (p := ⟨gb252, 2, none⟩) (Kd.N_far (p := ⟨gb252, 1, none⟩) (Kd.N_far (p := ⟨gb252, 0, none⟩) (Kd.N_mono HO233.out (fun k_ hk => (⟨hk, hk.2⟩ : _ ∧ k_ ≠ gb252))) (fun _ hk => by first | exact hk.2 | exact hk | exact trivial) (.int .i64 t245)) (fun _ hk => by first | exact hk.2 | exact hk | exact trivial) (.int .i64 t246)) (fun _ hk => by first | exact hk.2 | exact hk | exact trivial) (.slice Ao29 t247.length co29)) (fun _ hk => ⟨hk.1.1.1.1.2, ⟨hk.1.1.2, ⟨hk.1.1.1.1.1.2, ⟨hk.1.1.1.2, hk.1.2⟩⟩⟩⟩)⟩, ⟨by (with_reducible repeat (first | apply Kd.N_alloc | apply Kd.N_drewN | apply Kd.N_drew)); exact Kd.N_mono (Kd.N_far (p := ⟨gb252, 2, none⟩) (Kd.N_far (p := ⟨gb252, 1, none⟩) (Kd.N_far (p := ⟨gb252, 0, none⟩) (Kd.N_mono HO241.out (fun k_ hk => (⟨hk, hk.2⟩ : _ ∧ k_ ≠ gb252))) (fun _ hk => by first | exact hk.2 | exact hk | exact trivial) (.int .i64 t245)) (fun _ hk => by first | exact hk.2 | exact hk | exact trivial) (.int .i64 t246)) (fun _ hk => by first | exact hk.2 | exact hk | exact trivial) (.slice Ao29 t247.length co29)) (fun _ hk => ⟨hk.1.1.1.1.1, ⟨hk.1.1.2, ⟨hk.1.1.1.1.2, ⟨hk.1.1.1.2, hk.1.2⟩⟩⟩⟩)⟩, ⟨by (with_reducible repeat (first | apply Kd.N_alloc | apply Kd.N_drewN | apply Kd.N_drew)); exact Kd.N_mono (Kd.N_far (p := ⟨gb252, 2, none⟩) (Kd.N_far (p := ⟨gb252, 1, none⟩) (Kd.N_far (p := ⟨gb252, 0, none⟩) (Kd.N_mono HO249.out (fun k_ hk => (⟨hk, hk.2⟩ : _ ∧ k_ ≠ gb252))) (fun _ hk => by first | exact hk.2 | exact hk | exact trivial) (.int .i64 t245)) (fun _ hk => by first | exact hk.2 | exact hk | exact trivial) (.int .i64 t246)) (fun _ hk => by first | exact hk.2 | exact hk | exact trivial) (.slice Ao29 t247.length co29)) (fun _ hk => ⟨hk.1.1.1, ⟨hk.1.1.2.1, ⟨hk.1.1.2.2.1, ⟨hk.1.1.2.2.2, hk.1.2⟩⟩⟩⟩)⟩, ⟨by (with_reducible repeat (first | refine blk_drewN ?_ _ | refine blk_drew ?_ | refine blk_alloc ?_ _)); refine blk_far ?_ NB236_252.out _; (with_reducible repeat (first | refine blk_drewN ?_ _ | refine blk_drew ?_ | refine blk_alloc ?_ _)); refine blk_far ?_ NB236_252.out _; (with_reducible repeat (first | refine blk_drewN ?_ _ | refine blk_drew ?_ | refine blk_alloc ?_ _)); refine blk_far ?_ NB236_252.out _; (with_reducible repeat (first | refine blk_drewN ?_ _ | refine blk_drew ?_ | refine blk_alloc ?_ _)); exact BK236.out⟩, ⟨by (with_reducible repeat (first | refine blk_drewN ?_ _ | refine blk_drew ?_ | refine blk_alloc ?_ _)); refine blk_far ?_ NB244_252.out _; (with_reducible repeat (first | refine blk_drewN ?_ _ | refine blk_drew ?_ | refine blk_alloc ?_ _)); refine blk_far ?_ NB244_252.out _; (with_reducible repeat (first | refine blk_drewN ?_ _ | refine blk_drew ?_ | refine blk_alloc ?_ _)); refine blk_far ?_ NB244_252.out _; (with_reducible repeat (first | refine blk_drewN ?_ _ | refine blk_drew ?_ | refine blk_alloc ?_ _)); exact BK244.out⟩, ⟨by (with_reducible repeat (first | refine blk_drewN ?_ _ | refine blk_drew ?_ | refine blk_alloc ?_ _)); refine blk_put (cs := #[.int .i64 t245, .int .i64 t246, .slice none 0 0]) ?_ 2 _ rfl; (with_reducible repeat (first | refine blk_drewN ?_ _ | refine blk_drew ?_ | refine blk_alloc ?_ _)); refine blk_put (cs := #[.int .i64 t245, .int .i64 0, .slice none 0 0]) ?_ 1 _ rfl; (with_reducible repeat (first | refine blk_drewN ?_ _ | refine blk_drew ?_ | refine blk_alloc ?_ _)); refine blk_put (cs := #[.int .i64 0, .int .i64 0, .slice none 0 0]) ?_ 0 _ rfl; (with_reducible repeat (first | refine blk_drewN ?_ _ | refine blk_drew ?_ | refine blk_alloc ?_ _)); exact BK252.out⟩, ⟨by repeat (first | (with_reducible first | exact HB.out | apply below_alloc | apply pw_below_drewN | apply below_drew1 | refine below_set ?_ GE236.out | refine below_set ?_ GE244.out | refine below_set ?_ GE252.out) | exact HB.out)⟩⟩
       case rest =>
        clear HC14
        try clear c1
        try clear c2
        try clear p2
        try clear c3
        try clear c4
        try clear c6
        try clear c6b0
        try clear c6b1
        try clear c7
        try clear c9
        try clear c9b0
        try clear c9b1
        try clear c9b2
        try clear c10
        try clear c11
        try clear c11b0
        try clear c11b1
        try clear c11b2
        try clear c12
        try clear c12b0
        try clear c12b1
        try clear c12b2
        try clear c21
        try clear c26
        try clear c27
        try clear c30
        try clear c30b0
        try clear c30b1
        try clear hcz17_0 hcz17_1 hcz17_2
        try clear hcz22_0 hcz22_1 hcz22_2
        try clear hcz28_0 hcz28_1 hcz28_2
        try clear hfz17_0
        try clear hfz22_0
        try clear hfz28_0
        try clear p2
        obtain ⟨kq, x54_13, rfl, HA, HJ13, HO_237002, HO_245002, HO_253002, BK236, BK244, BK252, HB⟩ := hcut
        cases kq with
        | zero => exact absurd HA.out (by simp [fairleadlaw10_ParseJoins.j1])
        | succ kj13 =>
         have H := HA.out
         clear HA
         simp only [fairleadlaw10_ParseJoins.j1] at H
         by_cases c31 : x54_13 = true
         ·subst c31
          have H1 : (some t228) = some r := by rw [if_pos rfl] at H; exact H
          clear H
          have H := H1
          clear H1
          obtain rfl := Option.some.inj H
          go_wp2
          go_ret
          exact ⟨by first | rfl | (simp [errW_none, errW_some] <;> rfl) | (simp [*, errW_none, errW_some] <;> rfl), by repeat (first | (with_reducible first | exact HB.out | apply below_alloc | apply pw_below_drewN | apply below_drew1 | refine below_set ?_ GE236.out | refine below_set ?_ GE244.out | refine below_set ?_ GE252.out) | exact HB.out)⟩
         ·replace c31 := Bool.eq_false_iff.mpr c31
          subst c31
          have H1 : (if (wrap64 ((t231.length : Int) + (t239.length : Int))) > 64 then (if t228 = true then (some (t250 == 4)) else (some false)) else ((some (([] : List (S44)) : List (S44))).bind fun y253 => (if y253.length + t231.length < 2199023255552 then ((some (y253 ++ t231 : List (S44))).bind fun y256 => (if y256.length + t239.length < 2199023255552 then ((fairleadref10_Same.f kj13 t245 t246 t247 t229 t230 (y256 ++ t239)).bind fun t263 => (if t228 = true then (if t250 = 0 then (some t263) else none) else none)) else (none))) else (none)))) = some r := by rw [if_neg (show ¬ (false = true) by decide)] at H; exact H
          clear H
          have H := H1
          clear H1
          by_cases c32 : (wrap64 ((t231.length : Int) + (t239.length : Int))) > 64
          ·rw [if_pos c32] at H
           have c32b0 : decide (64 < (wrap64 ((t231.length : Int) + (t239.length : Int)))) = true := decide_eq_true c32
           clear c32
           by_cases c33 : t228 = true
           ·subst c33
            have H1 : (some (t250 == 4)) = some r := by rw [if_pos rfl] at H; exact H
            clear H
            have H := H1
            clear H1
            obtain rfl := Option.some.inj H
            have hnb34 := NB236_244.out
            have hnc34 := NB244_236.out
            have hnb35 := NB236_252.out
            have hnc35 := NB252_236.out
            have hcz36_0 : wc.cell? ⟨gb236, 0, none⟩ = some (.int .i64 t229) := (blk_cell BK236.out 0).trans rfl
            have hcz36_1 : wc.cell? ⟨gb236, 1, none⟩ = some (.int .i64 t230) := (blk_cell BK236.out 1).trans rfl
            have hcz36_2 : wc.cell? ⟨gb236, 2, none⟩ = some (.slice Ao18 t231.length co18) := (blk_cell BK236.out 2).trans rfl
            have hfz36_0 := blk_frozen BK236.out
            have hnb37 := NB244_252.out
            have hnc37 := NB252_244.out
            have hcz38_0 : wc.cell? ⟨gb244, 0, none⟩ = some (.int .i64 t237) := (blk_cell BK244.out 0).trans rfl
            have hcz38_1 : wc.cell? ⟨gb244, 1, none⟩ = some (.int .i64 t238) := (blk_cell BK244.out 1).trans rfl
            have hcz38_2 : wc.cell? ⟨gb244, 2, none⟩ = some (.slice Ao23 t239.length co23) := (blk_cell BK244.out 2).trans rfl
            have hfz38_0 := blk_frozen BK244.out
            go_wp2
            go_ret
            exact ⟨by first | rfl | (simp [errW_none, errW_some] <;> rfl) | (simp [*, errW_none, errW_some] <;> rfl), by repeat (first | (with_reducible first | exact HB.out | apply below_alloc | apply pw_below_drewN | apply below_drew1 | refine below_set ?_ GE236.out | refine below_set ?_ GE244.out | refine below_set ?_ GE252.out) | exact HB.out)⟩
           ·replace c33 := Bool.eq_false_iff.mpr c33
            subst c33
            have H1 : (some false) = some r := by rw [if_neg (show ¬ (false = true) by decide)] at H; exact H
            clear H
            have H := H1
            clear H1
            obtain rfl := Option.some.inj H
            have hnb39 := NB236_244.out
            have hnc39 := NB244_236.out
            have hnb40 := NB236_252.out
            have hnc40 := NB252_236.out
            have hcz41_0 : wc.cell? ⟨gb236, 0, none⟩ = some (.int .i64 t229) := (blk_cell BK236.out 0).trans rfl
            have hcz41_1 : wc.cell? ⟨gb236, 1, none⟩ = some (.int .i64 t230) := (blk_cell BK236.out 1).trans rfl
            have hcz41_2 : wc.cell? ⟨gb236, 2, none⟩ = some (.slice Ao18 t231.length co18) := (blk_cell BK236.out 2).trans rfl
            have hfz41_0 := blk_frozen BK236.out
            have hnb42 := NB244_252.out
            have hnc42 := NB252_244.out
            have hcz43_0 : wc.cell? ⟨gb244, 0, none⟩ = some (.int .i64 t237) := (blk_cell BK244.out 0).trans rfl
            have hcz43_1 : wc.cell? ⟨gb244, 1, none⟩ = some (.int .i64 t238) := (blk_cell BK244.out 1).trans rfl
            have hcz43_2 : wc.cell? ⟨gb244, 2, none⟩ = some (.slice Ao23 t239.length co23) := (blk_cell BK244.out 2).trans rfl
            have hfz43_0 := blk_frozen BK244.out
            go_wp2
            go_ret
            exact ⟨by first | rfl | (simp [errW_none, errW_some] <;> rfl) | (simp [*, errW_none, errW_some] <;> rfl), by repeat (first | (with_reducible first | exact HB.out | apply below_alloc | apply pw_below_drewN | apply below_drew1 | refine below_set ?_ GE236.out | refine below_set ?_ GE244.out | refine below_set ?_ GE252.out) | exact HB.out)⟩
          ·rw [if_neg c32] at H
           have c32b0 : decide (64 < (wrap64 ((t231.length : Int) + (t239.length : Int)))) = false := decide_eq_false c32
           clear c32
           obtain ⟨y253, hy253⟩ : ∃ y_ : List (S44), y_ = (([] : List (S44))) := ⟨_, rfl⟩
           replace H : (if y253.length + t231.length < 2199023255552 then ((some (y253 ++ t231 : List (S44))).bind fun y256 => (if y256.length + t239.length < 2199023255552 then ((fairleadref10_Same.f kj13 t245 t246 t247 t229 t230 (y256 ++ t239)).bind fun t263 => (if t228 = true then (if t250 = 0 then (some t263) else none) else none)) else (none))) else (none)) = some r := by first | (rw [hy253]; with_reducible exact H) | (have H2_ := (Option.bind_some _ _).symm.trans H; rw [hy253]; with_reducible exact H2_) | (have H2_ := (Option.bind_some _ _).symm.trans H; with_reducible exact H2_) | with_reducible exact H | (rw [hy253]; exact H) | exact H
           have Ny253 := Aside0.mk hy253
           clear hy253
           by_cases c44 : y253.length + t231.length < 2199023255552
           ·rw [if_pos c44] at H
            have LMc44 := Aside0.mk c44
            clear c44
            obtain ⟨y256, hy256⟩ : ∃ y_ : List (S44), y_ = (y253 ++ t231) := ⟨_, rfl⟩
            replace H : (if y256.length + t239.length < 2199023255552 then ((fairleadref10_Same.f kj13 t245 t246 t247 t229 t230 (y256 ++ t239)).bind fun t263 => (if t228 = true then (if t250 = 0 then (some t263) else none) else none)) else (none)) = some r := by first | (rw [hy256]; with_reducible exact H) | (have H2_ := (Option.bind_some _ _).symm.trans H; rw [hy256]; with_reducible exact H2_) | (have H2_ := (Option.bind_some _ _).symm.trans H; with_reducible exact H2_) | with_reducible exact H | (rw [hy256]; exact H) | exact H
            have Ny256 := Aside0.mk hy256
            clear hy256
            by_cases c45 : y256.length + t239.length < 2199023255552
            ·rw [if_pos c45] at H
             have LMc45 := Aside0.mk c45
             clear c45
             obtain ⟨y259, hy259⟩ : ∃ y_ : List (S44), y_ = (y256 ++ t239) := ⟨_, rfl⟩
             replace H : ((fairleadref10_Same.f kj13 t245 t246 t247 t229 t230 y259).bind fun t263 => (if t228 = true then (if t250 = 0 then (some t263) else none) else none)) = some r := by first | (rw [hy259]; with_reducible exact H) | (have H2_ := (Option.bind_some _ _).symm.trans H; rw [hy259]; with_reducible exact H2_) | (have H2_ := (Option.bind_some _ _).symm.trans H; with_reducible exact H2_) | with_reducible exact H | (rw [hy259]; exact H) | exact H
             have Ny259 := Aside0.mk hy259
             clear hy259
             replace H := Option.bind_eq_some_iff.mp H
             obtain ⟨t263, A460, H⟩ := H
             replace H : (if t228 = true then (if t250 = 0 then (some t263) else none) else none) = some r := H
             have A46 := Aside0.mk A460
             clear A460
             by_cases c47 : t228 = true
             ·subst c47
              have H1 : (if t250 = 0 then (some t263) else none) = some r := by rw [if_pos rfl] at H; exact H
              clear H
              have H := H1
              clear H1
              by_cases c48 : t250 = 0
              ·rw [if_pos c48] at H
               have c48b0 : (t250 == 0) = true := beq_iff_eq.mpr c48
               have c48b1 : (t250 != 0) = false := bne_eq_false_iff_eq.mpr c48
               clear c48
               obtain rfl := Option.some.inj H
               have hnb49 := NB236_244.out
               have hnc49 := NB244_236.out
               have hnb50 := NB236_252.out
               have hnc50 := NB252_236.out
               have hcz51_0 : wc.cell? ⟨gb236, 0, none⟩ = some (.int .i64 t229) := (blk_cell BK236.out 0).trans rfl
               have hcz51_1 : wc.cell? ⟨gb236, 1, none⟩ = some (.int .i64 t230) := (blk_cell BK236.out 1).trans rfl
               have hcz51_2 : wc.cell? ⟨gb236, 2, none⟩ = some (.slice Ao18 t231.length co18) := (blk_cell BK236.out 2).trans rfl
               have hfz51_0 := blk_frozen BK236.out
               have hnb52 := NB244_252.out
               have hnc52 := NB252_244.out
               have hcz53_0 : wc.cell? ⟨gb244, 0, none⟩ = some (.int .i64 t237) := (blk_cell BK244.out 0).trans rfl
               have hcz53_1 : wc.cell? ⟨gb244, 1, none⟩ = some (.int .i64 t238) := (blk_cell BK244.out 1).trans rfl
               have hcz53_2 : wc.cell? ⟨gb244, 2, none⟩ = some (.slice Ao23 t239.length co23) := (blk_cell BK244.out 2).trans rfl
               have hfz53_0 := blk_frozen BK244.out
               try go_wp2
               have n0_ := Aside0.mk (Kd.N_drew HO_237002.out)
               have n1_ := Aside0.mk (Kd.N_drew HO_245002.out)
               have n2_ := Aside0.mk (Kd.N_drew HO_253002.out)
               have n3_ := Aside0.mk (blk_drew BK236.out)
               have n4_ := Aside0.mk (blk_drew BK244.out)
               have n5_ := Aside0.mk (blk_drew BK252.out)
               have n6_ := Aside0.mk (below_drew1 HB.out)
               clear HO_237002
               clear HO_245002
               clear HO_253002
               clear BK236
               clear BK244
               clear BK252
               clear HB
               have HO_237002 := n0_
               have HO_245002 := n1_
               have HO_253002 := n2_
               have BK236 := n3_
               have BK244 := n4_
               have BK252 := n5_
               have HB := n6_
               clear n0_ n1_ n2_ n3_ n4_ n5_ n6_
               refine start_ (n := 12) (S := fun w' => w'.cell? ⟨gb236, 0, none⟩ = some (.int .i64 t229) ∧ w'.cell? ⟨gb236, 1, none⟩ = some (.int .i64 t230) ∧ w'.cell? ⟨gb236, 2, none⟩ = some (.slice Ao18 t231.length co18) ∧ w'.cell? ⟨gb244, 0, none⟩ = some (.int .i64 t237) ∧ w'.cell? ⟨gb244, 1, none⟩ = some (.int .i64 t238) ∧ w'.cell? ⟨gb244, 2, none⟩ = some (.slice Ao23 t239.length co23)) (ds := []) #[false, false, false, false, false, false, false, false, false, false, false, false] (by kernel_rfl) rfl rfl ⟨(blk_cell BK236.out 0).trans rfl, (blk_cell BK236.out 1).trans rfl, (blk_cell BK236.out 2).trans rfl, (blk_cell BK244.out 0).trans rfl, (blk_cell BK244.out 1).trans rfl, (blk_cell BK244.out 2).trans rfl⟩ (fun hHeld => ?_); refine with_tabW fairleadlaw10_ParseJoins.tab11 fairleadlaw10_ParseJoins.bits11 (fun HT_ HW_ => ?_)
               generalize wc.drew = w54 at HO_237002 HO_245002 HO_253002 BK236 BK244 BK252 HB hHeld ⊢
               refine pure_ (i := 0) (N := some 69) (v := ?_) (a' := ?_) #[true, false, false, false, false, false, false, false, false, false, false, false] rfl rfl (any_of HT_.out (by kernel_rfl)) (fun _ _ _ h => h) (Or.inl ⟨by rfl, ?_⟩) ?_ ?_
               rotate_left
               ·intro w'
                go_simp
                with_reducible rfl
               rotate_left
               ·simp only [Act.put, List.setIfInBounds_toArray, List.set_cons_zero, List.set_cons_succ, i64_w, i32_w]
                rfl
               refine pure_ (i := 3) (N := some 72) (v := ?_) (a' := ?_) #[true, false, false, true, false, false, false, false, false, false, false, false] rfl rfl (any_of HT_.out (by kernel_rfl)) (fun _ _ _ h => h) (Or.inl ⟨by rfl, ?_⟩) ?_ ?_
               rotate_left
               ·intro w'
                go_simp
                with_reducible rfl
               rotate_left
               ·simp only [Act.put, List.setIfInBounds_toArray, List.set_cons_zero, List.set_cons_succ, i64_w, i32_w]
                rfl
               refine pure_ (i := 6) (N := some 75) (v := ?_) (a' := ?_) #[true, false, false, true, false, false, true, false, false, false, false, false] rfl rfl (any_of HT_.out (by kernel_rfl)) (fun _ _ _ h => h) (Or.inl ⟨by rfl, ?_⟩) ?_ ?_
               rotate_left
               ·intro w'
                go_simp
                with_reducible rfl
               rotate_left
               ·simp only [Act.put, List.setIfInBounds_toArray, List.set_cons_zero, List.set_cons_succ, i64_w, i32_w]
                rfl
               refine take_ (i := 1) (N := some 70) (v := ?_) (a' := ?_) #[true, true, false, true, false, false, true, false, false, false, false, false] rfl rfl (take_ofW HT_.out HW_.out (by kernel_rfl)) (fun _ _ _ h => h) (Or.inl ⟨by rfl, ?_⟩) hHeld ?_ ?_
               rotate_left
               ·rintro w' ⟨s0, s1, s2, s3, s4, s5⟩
                go_simp
                with_reducible rfl
               rotate_left
               ·simp only [Act.put, List.setIfInBounds_toArray, List.set_cons_zero, List.set_cons_succ, i64_w, i32_w]
                rfl
               refine take_ (i := 4) (N := some 73) (v := ?_) (a' := ?_) #[true, true, false, true, true, false, true, false, false, false, false, false] rfl rfl (take_ofW HT_.out HW_.out (by kernel_rfl)) (fun _ _ _ h => h) (Or.inl ⟨by rfl, ?_⟩) hHeld ?_ ?_
               rotate_left
               ·rintro w' ⟨s0, s1, s2, s3, s4, s5⟩
                go_simp
                with_reducible rfl
               rotate_left
               ·simp only [Act.put, List.setIfInBounds_toArray, List.set_cons_zero, List.set_cons_succ, i64_w, i32_w]
                rfl
               refine take_ (i := 7) (N := some 76) (v := ?_) (a' := ?_) #[true, true, false, true, true, false, true, true, false, false, false, false] rfl rfl (take_ofW HT_.out HW_.out (by kernel_rfl)) (fun _ _ _ h => h) (Or.inl ⟨by rfl, ?_⟩) hHeld ?_ ?_
               rotate_left
               ·rintro w' ⟨s0, s1, s2, s3, s4, s5⟩
                go_simp
                with_reducible rfl
               rotate_left
               ·simp only [Act.put, List.setIfInBounds_toArray, List.set_cons_zero, List.set_cons_succ, i64_w, i32_w]
                rfl
               refine join_ (σ := Value × Value × Value × Nat) 1 #[true, true, true, true, true, true, true, true, true, true, true, false] (fun s_ => [(71, s_.1), (74, s_.2.1), (77, s_.2.2.1), (15, .pointer (some ⟨s_.2.2.2, 0, none⟩)), (78, .agg #[.int .i64 t229, .int .i64 t230, s_.2.2.1])]) (fun s_ w' => (w'.cell? ⟨gb236, 0, none⟩ = some (.int .i64 t229) ∧ w'.cell? ⟨gb236, 1, none⟩ = some (.int .i64 t230) ∧ w'.cell? ⟨gb236, 2, none⟩ = some (.slice Ao18 t231.length co18) ∧ w'.cell? ⟨gb244, 0, none⟩ = some (.int .i64 t237) ∧ w'.cell? ⟨gb244, 1, none⟩ = some (.int .i64 t238) ∧ w'.cell? ⟨gb244, 2, none⟩ = some (.slice Ao23 t239.length co23)) ∧ (Kd.N k44 44 w' w.heap.size (fun k_ => some k_ ≠ (.slice Ao29 t247.length co29 : Value).ownBlock ∧ k_ ≠ gb236 ∧ k_ ≠ gb244 ∧ k_ ≠ gb252 ∧ k_ ≠ s_.2.2.2) s_.2.2.1 y259) ∧ (Kd.N k44 44 w' w.heap.size (fun k_ => some k_ ≠ (s_.2.2.1 : Value).ownBlock ∧ some k_ ≠ (.slice Ao23 t239.length co23 : Value).ownBlock ∧ some k_ ≠ (.slice Ao29 t247.length co29 : Value).ownBlock ∧ k_ ≠ gb236 ∧ k_ ≠ gb244 ∧ k_ ≠ gb252 ∧ k_ ≠ s_.2.2.2) (.slice Ao18 t231.length co18) t231) ∧ (Kd.N k44 44 w' w.heap.size (fun k_ => some k_ ≠ (s_.2.2.1 : Value).ownBlock ∧ some k_ ≠ (.slice Ao18 t231.length co18 : Value).ownBlock ∧ some k_ ≠ (.slice Ao29 t247.length co29 : Value).ownBlock ∧ k_ ≠ gb236 ∧ k_ ≠ gb244 ∧ k_ ≠ gb252 ∧ k_ ≠ s_.2.2.2) (.slice Ao23 t239.length co23) t239) ∧ (Kd.N k44 44 w' w.heap.size (fun k_ => some k_ ≠ (s_.2.2.1 : Value).ownBlock ∧ some k_ ≠ (.slice Ao18 t231.length co18 : Value).ownBlock ∧ some k_ ≠ (.slice Ao23 t239.length co23 : Value).ownBlock ∧ k_ ≠ gb236 ∧ k_ ≠ gb244 ∧ k_ ≠ gb252 ∧ k_ ≠ s_.2.2.2) (.slice Ao29 t247.length co29) t247) ∧ (w'.heap[gb236]? = some (.cells #[.int .i64 t229, .int .i64 t230, .slice Ao18 t231.length co18] 27 (0, 0))) ∧ (w'.heap[gb244]? = some (.cells #[.int .i64 t237, .int .i64 t238, .slice Ao23 t239.length co23] 27 (0, 0))) ∧ (w'.heap[gb252]? = some (.cells #[.int .i64 t245, .int .i64 t246, .slice Ao29 t247.length co29] 27 (0, 0))) ∧ (w'.heap[s_.2.2.2]? = some (.cells #[.int .i64 0, .int .i64 0, .slice none 0 0] 27 (0, 0))) ∧ (w.heap.size ≤ s_.2.2.2) ∧ (w.heap.size ≤ s_.2.2.2) ∧ (gb236 ≠ s_.2.2.2) ∧ (s_.2.2.2 ≠ gb236) ∧ (gb244 ≠ s_.2.2.2) ∧ (s_.2.2.2 ≠ gb244) ∧ (gb252 ≠ s_.2.2.2) ∧ (s_.2.2.2 ≠ gb252) ∧ (Below w.heap.size w w')) ?_ ?_
               rotate_left
               ·intro hCont
                refine two_ (i := 2) (j := 10) (Ni := some 71) (Nj := some 15) #[true, true, true, true, true, false, true, true, false, false, false, false] #[true, true, false, true, true, false, true, true, false, false, true, false] rfl rfl rfl rfl (two_of HT_.out (by kernel_rfl)) (by decide) (by decide) (fun K hK => ?_) (fun K hK => ?_)
                ·skip
                 refine Kd.N_lit_step k44 _ 44 ?hg (N' := 71) ?hd (xs := ([] : List (S44))) (inner := []) (ok := (fun k_ => some k_ ≠ (.slice Ao18 t231.length co18 : Value).ownBlock ∧ some k_ ≠ (.slice Ao23 t239.length co23 : Value).ownBlock ∧ some k_ ≠ (.slice Ao29 t247.length co29 : Value).ownBlock ∧ k_ ≠ gb236 ∧ k_ ≠ gb244 ∧ k_ ≠ gb252)) (okp := (fun k_ => some k_ ≠ (.slice Ao18 t231.length co18 : Value).ownBlock ∧ some k_ ≠ (.slice Ao23 t239.length co23 : Value).ownBlock ∧ some k_ ≠ (.slice Ao29 t247.length co29 : Value).ownBlock ∧ k_ ≠ gb236 ∧ k_ ≠ gb244 ∧ k_ ≠ gb252)) ?hr ?hp (fun _ hk => hk) ((show ∀ k_, w54.heap.size ≤ k_ → (fun k_ => some k_ ≠ (.slice Ao18 t231.length co18 : Value).ownBlock ∧ some k_ ≠ (.slice Ao23 t239.length co23 : Value).ownBlock ∧ some k_ ≠ (.slice Ao29 t247.length co29 : Value).ownBlock ∧ k_ ≠ gb236 ∧ k_ ≠ gb244 ∧ k_ ≠ gb252) k_ from fun k_ hk => ⟨Kd.fresh' (Kd.N_lt (by (with_reducible repeat (first | apply Kd.N_alloc | apply Kd.N_drewN | apply Kd.N_drew)); exact HO_237002.out)) k_ hk, Kd.fresh' (Kd.N_lt (by (with_reducible repeat (first | apply Kd.N_alloc | apply Kd.N_drewN | apply Kd.N_drew)); exact HO_245002.out)) k_ hk, Kd.fresh' (Kd.N_lt (by (with_reducible repeat (first | apply Kd.N_alloc | apply Kd.N_drewN | apply Kd.N_drew)); exact HO_253002.out)) k_ hk, Kd.freshB (g := gb236) (o := .cells #[.int .i64 t229, .int .i64 t230, .slice Ao18 t231.length co18] 27 (0, 0)) (by (with_reducible repeat (first | refine blk_drewN ?_ _ | refine blk_drew ?_ | refine blk_alloc ?_ _)); exact BK236.out) k_ hk, Kd.freshB (g := gb244) (o := .cells #[.int .i64 t237, .int .i64 t238, .slice Ao23 t239.length co23] 27 (0, 0)) (by (with_reducible repeat (first | refine blk_drewN ?_ _ | refine blk_drew ?_ | refine blk_alloc ?_ _)); exact BK244.out) k_ hk, Kd.freshB (g := gb252) (o := .cells #[.int .i64 t245, .int .i64 t246, .slice Ao29 t247.length co29] 27 (0, 0)) (by (with_reducible repeat (first | refine blk_drewN ?_ _ | refine blk_drew ?_ | refine blk_alloc ?_ _)); exact BK252.out) k_ hk⟩) _ (Nat.le_refl _)) (Below.refl _ _) (Nat.le_refl _) (by simp) ?_; (case hd => rfl); (case hg => rfl); (case hr => first | (go_simp; done) | (go_simp; rfl)); (case hp => exact (Reps.none _ _))
                 intro v254 w55 ho56 hb hg_ hnew_
                 clear hg_ hnew_
                 (first | rw [← Ny253.out] at ho56 | (simp only [Int.reduceToNat] at ho56; rw [← Ny253.out] at ho56))
                 have n0_ := Aside0.mk (Kd.N_elder' (by (with_reducible repeat (first | apply Kd.N_alloc | apply Kd.N_drewN | apply Kd.N_drew)); exact HO_237002.out) (Kd.N_base ho56) hb)
                 have n1_ := Aside0.mk (Kd.N_elder' (by (with_reducible repeat (first | apply Kd.N_alloc | apply Kd.N_drewN | apply Kd.N_drew)); exact HO_245002.out) (Kd.N_base ho56) hb)
                 have n2_ := Aside0.mk (Kd.N_elder' (by (with_reducible repeat (first | apply Kd.N_alloc | apply Kd.N_drewN | apply Kd.N_drew)); exact HO_253002.out) (Kd.N_base ho56) hb)
                 have n3_ := Aside0.mk (Kd.N_lower ho56 (below_size (by repeat (first | (with_reducible first | exact HB.out | apply below_alloc | apply pw_below_drewN | apply below_drew1 | refine below_set ?_ GE236.out | refine below_set ?_ GE244.out | refine below_set ?_ GE252.out) | exact HB.out))))
                 have n4_ := Aside0.mk (blk_below (g := gb236) (o := .cells #[.int .i64 t229, .int .i64 t230, .slice Ao18 t231.length co18] 27 (0, 0)) (by (with_reducible repeat (first | refine blk_drewN ?_ _ | refine blk_drew ?_ | refine blk_alloc ?_ _)); exact BK236.out) hb)
                 have n5_ := Aside0.mk (blk_below (g := gb244) (o := .cells #[.int .i64 t237, .int .i64 t238, .slice Ao23 t239.length co23] 27 (0, 0)) (by (with_reducible repeat (first | refine blk_drewN ?_ _ | refine blk_drew ?_ | refine blk_alloc ?_ _)); exact BK244.out) hb)
                 have n6_ := Aside0.mk (blk_below (g := gb252) (o := .cells #[.int .i64 t245, .int .i64 t246, .slice Ao29 t247.length co29] 27 (0, 0)) (by (with_reducible repeat (first | refine blk_drewN ?_ _ | refine blk_drew ?_ | refine blk_alloc ?_ _)); exact BK252.out) hb)
                 have n7_ := Aside0.mk (below_step (by repeat (first | (with_reducible first | exact HB.out | apply below_alloc | apply pw_below_drewN | apply below_drew1 | refine below_set ?_ GE236.out | refine below_set ?_ GE244.out | refine below_set ?_ GE252.out) | exact HB.out)) hb)
                 clear HO_237002
                 clear HO_245002
                 clear HO_253002
                 clear BK236
                 clear BK244
                 clear BK252
                 clear HB
                 have HO_237002 := n0_
                 have HO_245002 := n1_
                 have HO_253002 := n2_
                 have HO255 := n3_
                 have BK236 := n4_
                 have BK244 := n5_
                 have BK252 := n6_
                 have HB := n7_
                 clear n0_ n1_ n2_ n3_ n4_ n5_ n6_ n7_
                 clear hb ho56
                 refine hK.out _ _ ⟨(blk_cell BK236.out 0).trans rfl, (blk_cell BK236.out 1).trans rfl, (blk_cell BK236.out 2).trans rfl, (blk_cell BK244.out 0).trans rfl, (blk_cell BK244.out 1).trans rfl, (blk_cell BK244.out 2).trans rfl⟩ (fun hHeld => ?_)
                 clear hK K
                 refine norm_ (a' := ?_) ?_ ?_
                 rotate_left
                 ·show Act.put _ (some 71) _ = _
                  simp only [Act.put, List.setIfInBounds_toArray, List.set_cons_zero, List.set_cons_succ, i64_w, i32_w]
                  rfl
                 refine two_ (i := 5) (j := 10) (Ni := some 74) (Nj := some 15) #[true, true, true, true, true, true, true, true, false, false, false, false] #[true, true, true, true, true, false, true, true, false, false, true, false] rfl rfl rfl rfl (two_of HT_.out (by kernel_rfl)) (by decide) (by decide) (fun K hK => ?_) (fun K hK => ?_)
                 ·skip
                  refine Kd.N_append_rows_step k44 (w0 := w) w.heap.size (by rfl) (.tmp 71) (.tmp 73) 25 44 (.agg #[(.int .i64 0), (.int .i64 0), (.slice none 0 0), (.slice none 0 0)]) 64 rfl Try.underlying25 info44 rfl (by decide) (by omega) v254 y253 t231 _ _ _ (fun k_ => some k_ ≠ (.slice Ao23 t239.length co23 : Value).ownBlock ∧ some k_ ≠ (.slice Ao29 t247.length co29 : Value).ownBlock ∧ k_ ≠ gb236 ∧ k_ ≠ gb244 ∧ k_ ≠ gb252) (fun k_ => ((fun k_ => some k_ ≠ (.slice Ao23 t239.length co23 : Value).ownBlock ∧ some k_ ≠ (.slice Ao29 t247.length co29 : Value).ownBlock ∧ k_ ≠ gb236 ∧ k_ ≠ gb244 ∧ k_ ≠ gb252)) k_ ∧ some k_ ≠ (v254 : Value).ownBlock) rfl rfl ?aO ?aR (fun _ hk => hk) ?aF ?aB ?aS ?aL ?_
                  (case aR => exact (by skip; exact Kd.N_F (Kd.N_mono (ok' := (fun k_ => ((fun k_ => some k_ ≠ (.slice Ao23 t239.length co23 : Value).ownBlock ∧ some k_ ≠ (.slice Ao29 t247.length co29 : Value).ownBlock ∧ k_ ≠ gb236 ∧ k_ ≠ gb244 ∧ k_ ≠ gb252)) k_ ∧ some k_ ≠ (v254 : Value).ownBlock)) (HO_237002.out) (fun k_ hk => ⟨⟨hk.1.1, ⟨hk.1.2.1, ⟨hk.1.2.2.1, ⟨hk.1.2.2.2.1, hk.1.2.2.2.2⟩⟩⟩⟩, hk.2⟩))))
                  (case aB => exact (by repeat (first | (with_reducible first | exact HB.out | apply below_alloc | apply pw_below_drewN | apply below_drew1 | refine below_set ?_ GE236.out | refine below_set ?_ GE244.out | refine below_set ?_ GE252.out) | exact HB.out)))
                  (case aF => exact (fun k_ hk => ⟨Kd.fresh' (Kd.N_lt (by (with_reducible repeat (first | apply Kd.N_alloc | apply Kd.N_drewN | apply Kd.N_drew)); exact HO_245002.out)) k_ hk, Kd.fresh' (Kd.N_lt (by (with_reducible repeat (first | apply Kd.N_alloc | apply Kd.N_drewN | apply Kd.N_drew)); exact HO_253002.out)) k_ hk, Kd.freshB (g := gb236) (o := .cells #[.int .i64 t229, .int .i64 t230, .slice Ao18 t231.length co18] 27 (0, 0)) (by (with_reducible repeat (first | refine blk_drewN ?_ _ | refine blk_drew ?_ | refine blk_alloc ?_ _)); exact BK236.out) k_ hk, Kd.freshB (g := gb244) (o := .cells #[.int .i64 t237, .int .i64 t238, .slice Ao23 t239.length co23] 27 (0, 0)) (by (with_reducible repeat (first | refine blk_drewN ?_ _ | refine blk_drew ?_ | refine blk_alloc ?_ _)); exact BK244.out) k_ hk, Kd.freshB (g := gb252) (o := .cells #[.int .i64 t245, .int .i64 t246, .slice Ao29 t247.length co29] 27 (0, 0)) (by (with_reducible repeat (first | refine blk_drewN ?_ _ | refine blk_drew ?_ | refine blk_alloc ?_ _)); exact BK252.out) k_ hk⟩))
                  (case aO => exact (by (with_reducible repeat (first | apply Kd.N_alloc | apply Kd.N_drewN | apply Kd.N_drew)); exact Kd.N_mono HO255.out (fun _ hk => ⟨hk.2.1, ⟨hk.2.2.1, ⟨hk.2.2.2.1, ⟨hk.2.2.2.2.1, hk.2.2.2.2.2⟩⟩⟩⟩)))
                  (case aS => exact (below_size (by repeat (first | (with_reducible first | exact HB.out | apply below_alloc | apply pw_below_drewN | apply below_drew1 | refine below_set ?_ GE236.out | refine below_set ?_ GE244.out | refine below_set ?_ GE252.out) | exact HB.out))))
                  (case aL => have := LMc44.out; omega)
                  intro v257 w57 ho hb hg hat
                  rw [← Ny256.out] at ho
                  have n0_ := Aside0.mk (Kd.N_afterv (ok := (fun k_ => some k_ ≠ (.slice Ao23 t239.length co23 : Value).ownBlock ∧ some k_ ≠ (.slice Ao29 t247.length co29 : Value).ownBlock ∧ k_ ≠ gb236 ∧ k_ ≠ gb244 ∧ k_ ≠ gb252)) (by (with_reducible repeat (first | apply Kd.N_alloc | apply Kd.N_drewN | apply Kd.N_drew)); exact HO_237002.out) hg hat)
                  have n1_ := Aside0.mk (Kd.N_afterv (ok := (fun k_ => some k_ ≠ (.slice Ao18 t231.length co18 : Value).ownBlock ∧ some k_ ≠ (.slice Ao29 t247.length co29 : Value).ownBlock ∧ k_ ≠ gb236 ∧ k_ ≠ gb244 ∧ k_ ≠ gb252)) (by (with_reducible repeat (first | apply Kd.N_alloc | apply Kd.N_drewN | apply Kd.N_drew)); exact HO_245002.out) hg hat)
                  have n2_ := Aside0.mk (Kd.N_afterv (ok := (fun k_ => some k_ ≠ (.slice Ao18 t231.length co18 : Value).ownBlock ∧ some k_ ≠ (.slice Ao23 t239.length co23 : Value).ownBlock ∧ k_ ≠ gb236 ∧ k_ ≠ gb244 ∧ k_ ≠ gb252)) (by (with_reducible repeat (first | apply Kd.N_alloc | apply Kd.N_drewN | apply Kd.N_drew)); exact HO_253002.out) hg hat)
                  have n3_ := Aside0.mk (blk_grown (g := gb236) (o := .cells #[.int .i64 t229, .int .i64 t230, .slice Ao18 t231.length co18] 27 (0, 0)) (by (with_reducible repeat (first | refine blk_drewN ?_ _ | refine blk_drew ?_ | refine blk_alloc ?_ _)); exact BK236.out) hg (Kd.N_ne HO255.out BK236.out (by decide)))
                  have n4_ := Aside0.mk (blk_grown (g := gb244) (o := .cells #[.int .i64 t237, .int .i64 t238, .slice Ao23 t239.length co23] 27 (0, 0)) (by (with_reducible repeat (first | refine blk_drewN ?_ _ | refine blk_drew ?_ | refine blk_alloc ?_ _)); exact BK244.out) hg (Kd.N_ne HO255.out BK244.out (by decide)))
                  have n5_ := Aside0.mk (blk_grown (g := gb252) (o := .cells #[.int .i64 t245, .int .i64 t246, .slice Ao29 t247.length co29] 27 (0, 0)) (by (with_reducible repeat (first | refine blk_drewN ?_ _ | refine blk_drew ?_ | refine blk_alloc ?_ _)); exact BK252.out) hg (Kd.N_ne HO255.out BK252.out (by decide)))
                  have n6_ := Aside0.mk (hb)
                  have n7_ := Aside0.mk (ho)
                  clear HO_237002
                  clear HO_245002
                  clear HO_253002
                  clear BK236
                  clear BK244
                  clear BK252
                  clear HB
                  clear HO255
                  have HO_237002 := n0_
                  have HO_245002 := n1_
                  have HO_253002 := n2_
                  have BK236 := n3_
                  have BK244 := n4_
                  have BK252 := n5_
                  have HB := n6_
                  have HO258 := n7_
                  clear n0_ n1_ n2_ n3_ n4_ n5_ n6_ n7_
                  clear ho hb hg hat
                  refine hK.out _ _ ⟨(blk_cell BK236.out 0).trans rfl, (blk_cell BK236.out 1).trans rfl, (blk_cell BK236.out 2).trans rfl, (blk_cell BK244.out 0).trans rfl, (blk_cell BK244.out 1).trans rfl, (blk_cell BK244.out 2).trans rfl⟩ (fun hHeld => ?_)
                  clear hK K
                  refine norm_ (a' := ?_) ?_ ?_
                  rotate_left
                  ·show Act.put _ (some 74) _ = _
                   simp only [Act.put, List.setIfInBounds_toArray, List.set_cons_zero, List.set_cons_succ, i64_w, i32_w]
                   rfl
                  refine two_ (i := 8) (j := 10) (Ni := some 77) (Nj := some 15) #[true, true, true, true, true, true, true, true, true, false, false, false] #[true, true, true, true, true, true, true, true, false, false, true, false] rfl rfl rfl rfl (two_of HT_.out (by kernel_rfl)) (by decide) (by decide) (fun K hK => ?_) (fun K hK => ?_)
                  ·skip
                   refine Kd.N_append_rows_step k44 (w0 := w) w.heap.size (by rfl) (.tmp 74) (.tmp 76) 25 44 (.agg #[(.int .i64 0), (.int .i64 0), (.slice none 0 0), (.slice none 0 0)]) 64 rfl Try.underlying25 info44 rfl (by decide) (by omega) v257 y256 t239 _ _ _ (fun k_ => some k_ ≠ (.slice Ao29 t247.length co29 : Value).ownBlock ∧ k_ ≠ gb236 ∧ k_ ≠ gb244 ∧ k_ ≠ gb252) (fun k_ => ((fun k_ => some k_ ≠ (.slice Ao29 t247.length co29 : Value).ownBlock ∧ k_ ≠ gb236 ∧ k_ ≠ gb244 ∧ k_ ≠ gb252)) k_ ∧ some k_ ≠ (v257 : Value).ownBlock) rfl rfl ?aO ?aR (fun _ hk => hk) ?aF ?aB ?aS ?aL ?_
                   (case aR => exact (by skip; exact Kd.N_F (Kd.N_mono (ok' := (fun k_ => ((fun k_ => some k_ ≠ (.slice Ao29 t247.length co29 : Value).ownBlock ∧ k_ ≠ gb236 ∧ k_ ≠ gb244 ∧ k_ ≠ gb252)) k_ ∧ some k_ ≠ (v257 : Value).ownBlock)) (HO_245002.out) (fun k_ hk => ⟨⟨hk.1.2.1, ⟨hk.1.2.2.1, ⟨hk.1.2.2.2.1, hk.1.2.2.2.2⟩⟩⟩, hk.2⟩))))
                   (case aB => exact (by repeat (first | (with_reducible first | exact HB.out | apply below_alloc | apply pw_below_drewN | apply below_drew1 | refine below_set ?_ GE236.out | refine below_set ?_ GE244.out | refine below_set ?_ GE252.out) | exact HB.out)))
                   (case aF => exact (fun k_ hk => ⟨Kd.fresh' (Kd.N_lt (by (with_reducible repeat (first | apply Kd.N_alloc | apply Kd.N_drewN | apply Kd.N_drew)); exact HO_253002.out)) k_ hk, Kd.freshB (g := gb236) (o := .cells #[.int .i64 t229, .int .i64 t230, .slice Ao18 t231.length co18] 27 (0, 0)) (by (with_reducible repeat (first | refine blk_drewN ?_ _ | refine blk_drew ?_ | refine blk_alloc ?_ _)); exact BK236.out) k_ hk, Kd.freshB (g := gb244) (o := .cells #[.int .i64 t237, .int .i64 t238, .slice Ao23 t239.length co23] 27 (0, 0)) (by (with_reducible repeat (first | refine blk_drewN ?_ _ | refine blk_drew ?_ | refine blk_alloc ?_ _)); exact BK244.out) k_ hk, Kd.freshB (g := gb252) (o := .cells #[.int .i64 t245, .int .i64 t246, .slice Ao29 t247.length co29] 27 (0, 0)) (by (with_reducible repeat (first | refine blk_drewN ?_ _ | refine blk_drew ?_ | refine blk_alloc ?_ _)); exact BK252.out) k_ hk⟩))
                   (case aO => exact (by (with_reducible repeat (first | apply Kd.N_alloc | apply Kd.N_drewN | apply Kd.N_drew)); exact Kd.N_mono HO258.out (fun _ hk => ⟨hk.2.1, ⟨hk.2.2.1, ⟨hk.2.2.2.1, hk.2.2.2.2⟩⟩⟩)))
                   (case aS => exact (below_size (by repeat (first | (with_reducible first | exact HB.out | apply below_alloc | apply pw_below_drewN | apply below_drew1 | refine below_set ?_ GE236.out | refine below_set ?_ GE244.out | refine below_set ?_ GE252.out) | exact HB.out))))
                   (case aL => have := LMc45.out; omega)
                   intro v260 w58 ho hb hg hat
                   rw [← Ny259.out] at ho
                   have n0_ := Aside0.mk (Kd.N_afterv (ok := (fun k_ => some k_ ≠ (.slice Ao23 t239.length co23 : Value).ownBlock ∧ some k_ ≠ (.slice Ao29 t247.length co29 : Value).ownBlock ∧ k_ ≠ gb236 ∧ k_ ≠ gb244 ∧ k_ ≠ gb252)) (by (with_reducible repeat (first | apply Kd.N_alloc | apply Kd.N_drewN | apply Kd.N_drew)); exact HO_237002.out) hg hat)
                   have n1_ := Aside0.mk (Kd.N_afterv (ok := (fun k_ => some k_ ≠ (.slice Ao18 t231.length co18 : Value).ownBlock ∧ some k_ ≠ (.slice Ao29 t247.length co29 : Value).ownBlock ∧ k_ ≠ gb236 ∧ k_ ≠ gb244 ∧ k_ ≠ gb252)) (by (with_reducible repeat (first | apply Kd.N_alloc | apply Kd.N_drewN | apply Kd.N_drew)); exact HO_245002.out) hg hat)
                   have n2_ := Aside0.mk (Kd.N_afterv (ok := (fun k_ => some k_ ≠ (.slice Ao18 t231.length co18 : Value).ownBlock ∧ some k_ ≠ (.slice Ao23 t239.length co23 : Value).ownBlock ∧ k_ ≠ gb236 ∧ k_ ≠ gb244 ∧ k_ ≠ gb252)) (by (with_reducible repeat (first | apply Kd.N_alloc | apply Kd.N_drewN | apply Kd.N_drew)); exact HO_253002.out) hg hat)
                   have n3_ := Aside0.mk (blk_grown (g := gb236) (o := .cells #[.int .i64 t229, .int .i64 t230, .slice Ao18 t231.length co18] 27 (0, 0)) (by (with_reducible repeat (first | refine blk_drewN ?_ _ | refine blk_drew ?_ | refine blk_alloc ?_ _)); exact BK236.out) hg (Kd.N_ne HO258.out BK236.out (by decide)))
                   have n4_ := Aside0.mk (blk_grown (g := gb244) (o := .cells #[.int .i64 t237, .int .i64 t238, .slice Ao23 t239.length co23] 27 (0, 0)) (by (with_reducible repeat (first | refine blk_drewN ?_ _ | refine blk_drew ?_ | refine blk_alloc ?_ _)); exact BK244.out) hg (Kd.N_ne HO258.out BK244.out (by decide)))
                   have n5_ := Aside0.mk (blk_grown (g := gb252) (o := .cells #[.int .i64 t245, .int .i64 t246, .slice Ao29 t247.length co29] 27 (0, 0)) (by (with_reducible repeat (first | refine blk_drewN ?_ _ | refine blk_drew ?_ | refine blk_alloc ?_ _)); exact BK252.out) hg (Kd.N_ne HO258.out BK252.out (by decide)))
                   have n6_ := Aside0.mk (hb)
                   have n7_ := Aside0.mk (ho)
                   clear HO_237002
                   clear HO_245002
                   clear HO_253002
                   clear BK236
                   clear BK244
                   clear BK252
                   clear HB
                   clear HO258
                   have HO_237002 := n0_
                   have HO_245002 := n1_
                   have HO_253002 := n2_
                   have BK236 := n3_
                   have BK244 := n4_
                   have BK252 := n5_
                   have HB := n6_
                   have HO261 := n7_
                   clear n0_ n1_ n2_ n3_ n4_ n5_ n6_ n7_
                   clear ho hb hg hat
                   obtain ⟨Ao59, co59, eo59⟩ := Kd.N_slice HO261.out
                   (first | subst eo59 | (injection eo59 with f1_ f2_ f3_; have f4_ := f1_.symm; have f5_ := f3_.symm; clear f1_ f2_ f3_; subst f4_; subst f5_))
                   refine hK.out _ _ ⟨(blk_cell BK236.out 0).trans rfl, (blk_cell BK236.out 1).trans rfl, (blk_cell BK236.out 2).trans rfl, (blk_cell BK244.out 0).trans rfl, (blk_cell BK244.out 1).trans rfl, (blk_cell BK244.out 2).trans rfl⟩ (fun hHeld => ?_)
                   clear hK K
                   refine norm_ (a' := ?_) ?_ ?_
                   rotate_left
                   ·show Act.put _ (some 77) _ = _
                    simp only [Act.put, List.setIfInBounds_toArray, List.set_cons_zero, List.set_cons_succ, i64_w, i32_w]
                    rfl
                   refine pure_ (i := 9) (N := some 78) (v := ?_) (a' := ?_) #[true, true, true, true, true, true, true, true, true, true, false, false] rfl rfl (any_of HT_.out (by kernel_rfl)) (fun _ _ _ h => h) (Or.inl ⟨by rfl, ?_⟩) ?_ ?_
                   rotate_left
                   ·intro w'
                    go_simp
                    with_reducible rfl
                   rotate_left
                   ·simp only [Act.put, List.setIfInBounds_toArray, List.set_cons_zero, List.set_cons_succ, i64_w, i32_w]
                    rfl
                   refine one_ (i := 10) (N := some 15) #[true, true, true, true, true, true, true, true, true, true, true, false] rfl rfl (one_of HT_.out (by kernel_rfl)) (by decide) (fun K hK => ?_)
                   refine box_step ?hg (N := 15) ?hd (cs := #[.int .i64 0, .int .i64 0, .slice none 0 0]) (t := 27) ?hr ?_; (case hd => rfl); (case hg => rfl); (case hr => first | (go_simp; done) | (go_simp; rfl))
                   intro gb262 hg w60 hbox hb
                   have n0_ := Aside0.mk (Kd.N_below (Kd.N_elderB (by (with_reducible repeat (first | apply Kd.N_alloc | apply Kd.N_drewN | apply Kd.N_drew)); exact HO_237002.out) gb262 (Nat.le_of_eq hg.symm)) hb)
                   have n1_ := Aside0.mk (Kd.N_below (Kd.N_elderB (by (with_reducible repeat (first | apply Kd.N_alloc | apply Kd.N_drewN | apply Kd.N_drew)); exact HO_245002.out) gb262 (Nat.le_of_eq hg.symm)) hb)
                   have n2_ := Aside0.mk (Kd.N_below (Kd.N_elderB (by (with_reducible repeat (first | apply Kd.N_alloc | apply Kd.N_drewN | apply Kd.N_drew)); exact HO_253002.out) gb262 (Nat.le_of_eq hg.symm)) hb)
                   have n3_ := Aside0.mk (Kd.N_below (Kd.N_elderB (by (with_reducible repeat (first | apply Kd.N_alloc | apply Kd.N_drewN | apply Kd.N_drew)); exact HO261.out) gb262 (Nat.le_of_eq hg.symm)) hb)
                   have n4_ := Aside0.mk (blk_below (g := gb236) (o := .cells #[.int .i64 t229, .int .i64 t230, .slice Ao18 t231.length co18] 27 (0, 0)) (by (with_reducible repeat (first | refine blk_drewN ?_ _ | refine blk_drew ?_ | refine blk_alloc ?_ _)); exact BK236.out) hb)
                   have n5_ := Aside0.mk (blk_below (g := gb244) (o := .cells #[.int .i64 t237, .int .i64 t238, .slice Ao23 t239.length co23] 27 (0, 0)) (by (with_reducible repeat (first | refine blk_drewN ?_ _ | refine blk_drew ?_ | refine blk_alloc ?_ _)); exact BK244.out) hb)
                   have n6_ := Aside0.mk (blk_below (g := gb252) (o := .cells #[.int .i64 t245, .int .i64 t246, .slice Ao29 t247.length co29] 27 (0, 0)) (by (with_reducible repeat (first | refine blk_drewN ?_ _ | refine blk_drew ?_ | refine blk_alloc ?_ _)); exact BK252.out) hb)
                   have n7_ := Aside0.mk (below_step (by repeat (first | (with_reducible first | exact HB.out | apply below_alloc | apply pw_below_drewN | apply below_drew1 | refine below_set ?_ GE236.out | refine below_set ?_ GE244.out | refine below_set ?_ GE252.out) | exact HB.out)) hb)
                   have n8_ := Aside0.mk (hbox)
                   have n9_ := Aside0.mk ((by rw [hg]; exact (below_size (by repeat (first | (with_reducible first | exact HB.out | apply below_alloc | apply pw_below_drewN | apply below_drew1 | refine below_set ?_ GE236.out | refine below_set ?_ GE244.out | refine below_set ?_ GE252.out) | exact HB.out))) : w.heap.size ≤ gb262))
                   have n10_ := Aside0.mk ((by rw [hg]; exact (below_size (by repeat (first | (with_reducible first | exact HB.out | apply below_alloc | apply pw_below_drewN | apply below_drew1 | refine below_set ?_ GE236.out | refine below_set ?_ GE244.out | refine below_set ?_ GE252.out) | exact HB.out))) : w.heap.size ≤ gb262))
                   have n11_ := Aside0.mk ((by rw [hg]; exact Nat.ne_of_lt (blk_lt (g := gb236) (o := .cells #[.int .i64 t229, .int .i64 t230, .slice Ao18 t231.length co18] 27 (0, 0)) (by (with_reducible repeat (first | refine blk_drewN ?_ _ | refine blk_drew ?_ | refine blk_alloc ?_ _)); exact BK236.out)) : gb236 ≠ gb262))
                   have n12_ := Aside0.mk ((by rw [hg]; exact Nat.ne_of_gt (blk_lt (g := gb236) (o := .cells #[.int .i64 t229, .int .i64 t230, .slice Ao18 t231.length co18] 27 (0, 0)) (by (with_reducible repeat (first | refine blk_drewN ?_ _ | refine blk_drew ?_ | refine blk_alloc ?_ _)); exact BK236.out)) : gb262 ≠ gb236))
                   have n13_ := Aside0.mk ((by rw [hg]; exact Nat.ne_of_lt (blk_lt (g := gb244) (o := .cells #[.int .i64 t237, .int .i64 t238, .slice Ao23 t239.length co23] 27 (0, 0)) (by (with_reducible repeat (first | refine blk_drewN ?_ _ | refine blk_drew ?_ | refine blk_alloc ?_ _)); exact BK244.out)) : gb244 ≠ gb262))
                   have n14_ := Aside0.mk ((by rw [hg]; exact Nat.ne_of_gt (blk_lt (g := gb244) (o := .cells #[.int .i64 t237, .int .i64 t238, .slice Ao23 t239.length co23] 27 (0, 0)) (by (with_reducible repeat (first | refine blk_drewN ?_ _ | refine blk_drew ?_ | refine blk_alloc ?_ _)); exact BK244.out)) : gb262 ≠ gb244))
                   have n15_ := Aside0.mk ((by rw [hg]; exact Nat.ne_of_lt (blk_lt (g := gb252) (o := .cells #[.int .i64 t245, .int .i64 t246, .slice Ao29 t247.length co29] 27 (0, 0)) (by (with_reducible repeat (first | refine blk_drewN ?_ _ | refine blk_drew ?_ | refine blk_alloc ?_ _)); exact BK252.out)) : gb252 ≠ gb262))
                   have n16_ := Aside0.mk ((by rw [hg]; exact Nat.ne_of_gt (blk_lt (g := gb252) (o := .cells #[.int .i64 t245, .int .i64 t246, .slice Ao29 t247.length co29] 27 (0, 0)) (by (with_reducible repeat (first | refine blk_drewN ?_ _ | refine blk_drew ?_ | refine blk_alloc ?_ _)); exact BK252.out)) : gb262 ≠ gb252))
                   clear HO_237002
                   clear HO_245002
                   clear HO_253002
                   clear HO261
                   clear BK236
                   clear BK244
                   clear BK252
                   clear HB
                   have HO_237002 := n0_
                   have HO_245002 := n1_
                   have HO_253002 := n2_
                   have HO261 := n3_
                   have BK236 := n4_
                   have BK244 := n5_
                   have BK252 := n6_
                   have HB := n7_
                   have BK262 := n8_
                   have GW262 := n9_
                   have GE262 := n10_
                   have NB236_262 := n11_
                   have NB262_236 := n12_
                   have NB244_262 := n13_
                   have NB262_244 := n14_
                   have NB252_262 := n15_
                   have NB262_252 := n16_
                   clear n0_ n1_ n2_ n3_ n4_ n5_ n6_ n7_ n8_ n9_ n10_ n11_ n12_ n13_ n14_ n15_ n16_
                   clear hb hbox hg
                   refine hK.out _ _ ⟨(blk_cell BK236.out 0).trans rfl, (blk_cell BK236.out 1).trans rfl, (blk_cell BK236.out 2).trans rfl, (blk_cell BK244.out 0).trans rfl, (blk_cell BK244.out 1).trans rfl, (blk_cell BK244.out 2).trans rfl⟩ (fun hHeld => ?_)
                   clear hK K
                   refine norm_ (a' := ?_) ?_ ?_
                   rotate_left
                   ·show Act.put _ (some 15) _ = _
                    simp only [Act.put, List.setIfInBounds_toArray, List.set_cons_zero, List.set_cons_succ, i64_w, i32_w]
                    rfl
                   exact norm_ (by simp only [putAll, Act.put, List.setIfInBounds_toArray, List.set_cons_zero, List.set_cons_succ] <;> (try simp only [IntKind.wrap_u32])) (hCont (v254, v257, .slice Ao59 y259.length co59, gb262) _ ⟨hHeld, (by (with_reducible repeat (first | apply Kd.N_alloc | apply Kd.N_drewN | apply Kd.N_drew)); exact Kd.N_mono HO261.out (fun _ hk => ⟨hk.1.1, ⟨hk.1.2.1, ⟨hk.1.2.2.1, ⟨hk.1.2.2.2, hk.2⟩⟩⟩⟩)), (by (with_reducible repeat (first | apply Kd.N_alloc | apply Kd.N_drewN | apply Kd.N_drew)); exact Kd.N_mono HO_237002.out (fun _ hk => ⟨hk.1.2, ⟨hk.1.1.1, ⟨hk.1.1.2.1, ⟨hk.1.1.2.2.1, ⟨hk.1.1.2.2.2.1, ⟨hk.1.1.2.2.2.2, hk.2⟩⟩⟩⟩⟩⟩)), (by (with_reducible repeat (first | apply Kd.N_alloc | apply Kd.N_drewN | apply Kd.N_drew)); exact Kd.N_mono HO_245002.out (fun _ hk => ⟨hk.1.2, ⟨hk.1.1.1, ⟨hk.1.1.2.1, ⟨hk.1.1.2.2.1, ⟨hk.1.1.2.2.2.1, ⟨hk.1.1.2.2.2.2, hk.2⟩⟩⟩⟩⟩⟩)), (by (with_reducible repeat (first | apply Kd.N_alloc | apply Kd.N_drewN | apply Kd.N_drew)); exact Kd.N_mono HO_253002.out (fun _ hk => ⟨hk.1.2, ⟨hk.1.1.1, ⟨hk.1.1.2.1, ⟨hk.1.1.2.2.1, ⟨hk.1.1.2.2.2.1, ⟨hk.1.1.2.2.2.2, hk.2⟩⟩⟩⟩⟩⟩)), (by (with_reducible repeat (first | refine blk_drewN ?_ _ | refine blk_drew ?_ | refine blk_alloc ?_ _)); exact BK236.out), (by (with_reducible repeat (first | refine blk_drewN ?_ _ | refine blk_drew ?_ | refine blk_alloc ?_ _)); exact BK244.out), (by (with_reducible repeat (first | refine blk_drewN ?_ _ | refine blk_drew ?_ | refine blk_alloc ?_ _)); exact BK252.out), (by (with_reducible repeat (first | refine blk_drewN ?_ _ | refine blk_drew ?_ | refine blk_alloc ?_ _)); exact BK262.out), GW262.out, GE262.out, NB236_262.out, NB262_236.out, NB244_262.out, NB262_244.out, NB252_262.out, NB262_252.out, (by repeat (first | (with_reducible first | exact HB.out | apply below_alloc | apply pw_below_drewN | apply below_drew1 | refine below_set ?_ GE236.out | refine below_set ?_ GE244.out | refine below_set ?_ GE252.out | refine below_set ?_ GE262.out) | exact HB.out))⟩)
                  ·skip
                   refine box_step ?hg (N := 15) ?hd (cs := #[.int .i64 0, .int .i64 0, .slice none 0 0]) (t := 27) ?hr ?_; (case hd => rfl); (case hg => rfl); (case hr => first | (go_simp; done) | (go_simp; rfl))
                   intro gb262 hg w58 hbox hb
                   have n0_ := Aside0.mk (Kd.N_below (Kd.N_elderB (by (with_reducible repeat (first | apply Kd.N_alloc | apply Kd.N_drewN | apply Kd.N_drew)); exact HO_237002.out) gb262 (Nat.le_of_eq hg.symm)) hb)
                   have n1_ := Aside0.mk (Kd.N_below (Kd.N_elderB (by (with_reducible repeat (first | apply Kd.N_alloc | apply Kd.N_drewN | apply Kd.N_drew)); exact HO_245002.out) gb262 (Nat.le_of_eq hg.symm)) hb)
                   have n2_ := Aside0.mk (Kd.N_below (Kd.N_elderB (by (with_reducible repeat (first | apply Kd.N_alloc | apply Kd.N_drewN | apply Kd.N_drew)); exact HO_253002.out) gb262 (Nat.le_of_eq hg.symm)) hb)
                   have n3_ := Aside0.mk (Kd.N_below (Kd.N_elderB (by (with_reducible repeat (first | apply Kd.N_alloc | apply Kd.N_drewN | apply Kd.N_drew)); exact HO258.out) gb262 (Nat.le_of_eq hg.symm)) hb)
                   have n4_ := Aside0.mk (blk_below (g := gb236) (o := .cells #[.int .i64 t229, .int .i64 t230, .slice Ao18 t231.length co18] 27 (0, 0)) (by (with_reducible repeat (first | refine blk_drewN ?_ _ | refine blk_drew ?_ | refine blk_alloc ?_ _)); exact BK236.out) hb)
                   have n5_ := Aside0.mk (blk_below (g := gb244) (o := .cells #[.int .i64 t237, .int .i64 t238, .slice Ao23 t239.length co23] 27 (0, 0)) (by (with_reducible repeat (first | refine blk_drewN ?_ _ | refine blk_drew ?_ | refine blk_alloc ?_ _)); exact BK244.out) hb)
                   have n6_ := Aside0.mk (blk_below (g := gb252) (o := .cells #[.int .i64 t245, .int .i64 t246, .slice Ao29 t247.length co29] 27 (0, 0)) (by (with_reducible repeat (first | refine blk_drewN ?_ _ | refine blk_drew ?_ | refine blk_alloc ?_ _)); exact BK252.out) hb)
                   have n7_ := Aside0.mk (below_step (by repeat (first | (with_reducible first | exact HB.out | apply below_alloc | apply pw_below_drewN | apply below_drew1 | refine below_set ?_ GE236.out | refine below_set ?_ GE244.out | refine below_set ?_ GE252.out) | exact HB.out)) hb)
                   have n8_ := Aside0.mk (hbox)
                   have n9_ := Aside0.mk ((by rw [hg]; exact (below_size (by repeat (first | (with_reducible first | exact HB.out | apply below_alloc | apply pw_below_drewN | apply below_drew1 | refine below_set ?_ GE236.out | refine below_set ?_ GE244.out | refine below_set ?_ GE252.out) | exact HB.out))) : w.heap.size ≤ gb262))
                   have n10_ := Aside0.mk ((by rw [hg]; exact (below_size (by repeat (first | (with_reducible first | exact HB.out | apply below_alloc | apply pw_below_drewN | apply below_drew1 | refine below_set ?_ GE236.out | refine below_set ?_ GE244.out | refine below_set ?_ GE252.out) | exact HB.out))) : w.heap.size ≤ gb262))
                   have n11_ := Aside0.mk ((by rw [hg]; exact Nat.ne_of_lt (blk_lt (g := gb236) (o := .cells #[.int .i64 t229, .int .i64 t230, .slice Ao18 t231.length co18] 27 (0, 0)) (by (with_reducible repeat (first | refine blk_drewN ?_ _ | refine blk_drew ?_ | refine blk_alloc ?_ _)); exact BK236.out)) : gb236 ≠ gb262))
                   have n12_ := Aside0.mk ((by rw [hg]; exact Nat.ne_of_gt (blk_lt (g := gb236) (o := .cells #[.int .i64 t229, .int .i64 t230, .slice Ao18 t231.length co18] 27 (0, 0)) (by (with_reducible repeat (first | refine blk_drewN ?_ _ | refine blk_drew ?_ | refine blk_alloc ?_ _)); exact BK236.out)) : gb262 ≠ gb236))
                   have n13_ := Aside0.mk ((by rw [hg]; exact Nat.ne_of_lt (blk_lt (g := gb244) (o := .cells #[.int .i64 t237, .int .i64 t238, .slice Ao23 t239.length co23] 27 (0, 0)) (by (with_reducible repeat (first | refine blk_drewN ?_ _ | refine blk_drew ?_ | refine blk_alloc ?_ _)); exact BK244.out)) : gb244 ≠ gb262))
                   have n14_ := Aside0.mk ((by rw [hg]; exact Nat.ne_of_gt (blk_lt (g := gb244) (o := .cells #[.int .i64 t237, .int .i64 t238, .slice Ao23 t239.length co23] 27 (0, 0)) (by (with_reducible repeat (first | refine blk_drewN ?_ _ | refine blk_drew ?_ | refine blk_alloc ?_ _)); exact BK244.out)) : gb262 ≠ gb244))
                   have n15_ := Aside0.mk ((by rw [hg]; exact Nat.ne_of_lt (blk_lt (g := gb252) (o := .cells #[.int .i64 t245, .int .i64 t246, .slice Ao29 t247.length co29] 27 (0, 0)) (by (with_reducible repeat (first | refine blk_drewN ?_ _ | refine blk_drew ?_ | refine blk_alloc ?_ _)); exact BK252.out)) : gb252 ≠ gb262))
                   have n16_ := Aside0.mk ((by rw [hg]; exact Nat.ne_of_gt (blk_lt (g := gb252) (o := .cells #[.int .i64 t245, .int .i64 t246, .slice Ao29 t247.length co29] 27 (0, 0)) (by (with_reducible repeat (first | refine blk_drewN ?_ _ | refine blk_drew ?_ | refine blk_alloc ?_ _)); exact BK252.out)) : gb262 ≠ gb252))
                   clear HO_237002
                   clear HO_245002
                   clear HO_253002
                   clear HO258
                   clear BK236
                   clear BK244
                   clear BK252
                   clear HB
                   have HO_237002 := n0_
                   have HO_245002 := n1_
                   have HO_253002 := n2_
                   have HO258 := n3_
                   have BK236 := n4_
                   have BK244 := n5_
                   have BK252 := n6_
                   have HB := n7_
                   have BK262 := n8_
                   have GW262 := n9_
                   have GE262 := n10_
                   have NB236_262 := n11_
                   have NB262_236 := n12_
                   have NB244_262 := n13_
                   have NB262_244 := n14_
                   have NB252_262 := n15_
                   have NB262_252 := n16_
                   clear n0_ n1_ n2_ n3_ n4_ n5_ n6_ n7_ n8_ n9_ n10_ n11_ n12_ n13_ n14_ n15_ n16_
                   clear hb hbox hg
                   refine hK.out _ _ ⟨(blk_cell BK236.out 0).trans rfl, (blk_cell BK236.out 1).trans rfl, (blk_cell BK236.out 2).trans rfl, (blk_cell BK244.out 0).trans rfl, (blk_cell BK244.out 1).trans rfl, (blk_cell BK244.out 2).trans rfl⟩ (fun hHeld => ?_)
                   clear hK K
                   refine norm_ (a' := ?_) ?_ ?_
                   rotate_left
                   ·show Act.put _ (some 15) _ = _
                    simp only [Act.put, List.setIfInBounds_toArray, List.set_cons_zero, List.set_cons_succ, i64_w, i32_w]
                    rfl
                   refine one_ (i := 8) (N := some 77) #[true, true, true, true, true, true, true, true, true, false, true, false] rfl rfl (one_of HT_.out (by kernel_rfl)) (by decide) (fun K hK => ?_)
                   refine Kd.N_append_rows_step k44 (w0 := w) w.heap.size (by rfl) (.tmp 74) (.tmp 76) 25 44 (.agg #[(.int .i64 0), (.int .i64 0), (.slice none 0 0), (.slice none 0 0)]) 64 rfl Try.underlying25 info44 rfl (by decide) (by omega) v257 y256 t239 _ _ _ (fun k_ => some k_ ≠ (.slice Ao29 t247.length co29 : Value).ownBlock ∧ k_ ≠ gb236 ∧ k_ ≠ gb244 ∧ k_ ≠ gb252 ∧ k_ ≠ gb262) (fun k_ => ((fun k_ => some k_ ≠ (.slice Ao29 t247.length co29 : Value).ownBlock ∧ k_ ≠ gb236 ∧ k_ ≠ gb244 ∧ k_ ≠ gb252 ∧ k_ ≠ gb262)) k_ ∧ some k_ ≠ (v257 : Value).ownBlock) rfl rfl ?aO ?aR (fun _ hk => hk) ?aF ?aB ?aS ?aL ?_
                   (case aR => exact (by skip; exact Kd.N_F (Kd.N_mono (ok' := (fun k_ => ((fun k_ => some k_ ≠ (.slice Ao29 t247.length co29 : Value).ownBlock ∧ k_ ≠ gb236 ∧ k_ ≠ gb244 ∧ k_ ≠ gb252 ∧ k_ ≠ gb262)) k_ ∧ some k_ ≠ (v257 : Value).ownBlock)) (HO_245002.out) (fun k_ hk => ⟨⟨hk.1.1.2.1, ⟨hk.1.1.2.2.1, ⟨hk.1.1.2.2.2.1, ⟨hk.1.1.2.2.2.2, hk.2⟩⟩⟩⟩, hk.1.2⟩))))
                   (case aB => exact (by repeat (first | (with_reducible first | exact HB.out | apply below_alloc | apply pw_below_drewN | apply below_drew1 | refine below_set ?_ GE236.out | refine below_set ?_ GE244.out | refine below_set ?_ GE252.out | refine below_set ?_ GE262.out) | exact HB.out)))
                   (case aF => exact (fun k_ hk => ⟨Kd.fresh' (Kd.N_lt (by (with_reducible repeat (first | apply Kd.N_alloc | apply Kd.N_drewN | apply Kd.N_drew)); exact HO_253002.out)) k_ hk, Kd.freshB (g := gb236) (o := .cells #[.int .i64 t229, .int .i64 t230, .slice Ao18 t231.length co18] 27 (0, 0)) (by (with_reducible repeat (first | refine blk_drewN ?_ _ | refine blk_drew ?_ | refine blk_alloc ?_ _)); exact BK236.out) k_ hk, Kd.freshB (g := gb244) (o := .cells #[.int .i64 t237, .int .i64 t238, .slice Ao23 t239.length co23] 27 (0, 0)) (by (with_reducible repeat (first | refine blk_drewN ?_ _ | refine blk_drew ?_ | refine blk_alloc ?_ _)); exact BK244.out) k_ hk, Kd.freshB (g := gb252) (o := .cells #[.int .i64 t245, .int .i64 t246, .slice Ao29 t247.length co29] 27 (0, 0)) (by (with_reducible repeat (first | refine blk_drewN ?_ _ | refine blk_drew ?_ | refine blk_alloc ?_ _)); exact BK252.out) k_ hk, Kd.freshB (g := gb262) (o := .cells #[.int .i64 0, .int .i64 0, .slice none 0 0] 27 (0, 0)) (by (with_reducible repeat (first | refine blk_drewN ?_ _ | refine blk_drew ?_ | refine blk_alloc ?_ _)); exact BK262.out) k_ hk⟩))
                   (case aO => exact (by (with_reducible repeat (first | apply Kd.N_alloc | apply Kd.N_drewN | apply Kd.N_drew)); exact Kd.N_mono HO258.out (fun _ hk => ⟨hk.1.2.1, ⟨hk.1.2.2.1, ⟨hk.1.2.2.2.1, ⟨hk.1.2.2.2.2, hk.2⟩⟩⟩⟩)))
                   (case aS => exact (below_size (by repeat (first | (with_reducible first | exact HB.out | apply below_alloc | apply pw_below_drewN | apply below_drew1 | refine below_set ?_ GE236.out | refine below_set ?_ GE244.out | refine below_set ?_ GE252.out | refine below_set ?_ GE262.out) | exact HB.out))))
                   (case aL => have := LMc45.out; omega)
                   intro v260 w59 ho hb hg hat
                   rw [← Ny259.out] at ho
                   have n0_ := Aside0.mk (Kd.N_afterv (ok := (fun k_ => some k_ ≠ (.slice Ao23 t239.length co23 : Value).ownBlock ∧ some k_ ≠ (.slice Ao29 t247.length co29 : Value).ownBlock ∧ k_ ≠ gb236 ∧ k_ ≠ gb244 ∧ k_ ≠ gb252 ∧ k_ ≠ gb262)) (by (with_reducible repeat (first | apply Kd.N_alloc | apply Kd.N_drewN | apply Kd.N_drew)); exact Kd.N_mono HO_237002.out (fun _ hk => ⟨⟨hk.1.1.1, ⟨hk.1.1.2.1, ⟨hk.1.1.2.2.1, ⟨hk.1.1.2.2.2.1, ⟨hk.1.1.2.2.2.2, hk.2⟩⟩⟩⟩⟩, hk.1.2⟩)) hg hat)
                   have n1_ := Aside0.mk (Kd.N_afterv (ok := (fun k_ => some k_ ≠ (.slice Ao18 t231.length co18 : Value).ownBlock ∧ some k_ ≠ (.slice Ao29 t247.length co29 : Value).ownBlock ∧ k_ ≠ gb236 ∧ k_ ≠ gb244 ∧ k_ ≠ gb252 ∧ k_ ≠ gb262)) (by (with_reducible repeat (first | apply Kd.N_alloc | apply Kd.N_drewN | apply Kd.N_drew)); exact Kd.N_mono HO_245002.out (fun _ hk => ⟨⟨hk.1.1.1, ⟨hk.1.1.2.1, ⟨hk.1.1.2.2.1, ⟨hk.1.1.2.2.2.1, ⟨hk.1.1.2.2.2.2, hk.2⟩⟩⟩⟩⟩, hk.1.2⟩)) hg hat)
                   have n2_ := Aside0.mk (Kd.N_afterv (ok := (fun k_ => some k_ ≠ (.slice Ao18 t231.length co18 : Value).ownBlock ∧ some k_ ≠ (.slice Ao23 t239.length co23 : Value).ownBlock ∧ k_ ≠ gb236 ∧ k_ ≠ gb244 ∧ k_ ≠ gb252 ∧ k_ ≠ gb262)) (by (with_reducible repeat (first | apply Kd.N_alloc | apply Kd.N_drewN | apply Kd.N_drew)); exact Kd.N_mono HO_253002.out (fun _ hk => ⟨⟨hk.1.1.1, ⟨hk.1.1.2.1, ⟨hk.1.1.2.2.1, ⟨hk.1.1.2.2.2.1, ⟨hk.1.1.2.2.2.2, hk.2⟩⟩⟩⟩⟩, hk.1.2⟩)) hg hat)
                   have n3_ := Aside0.mk (blk_grown (g := gb236) (o := .cells #[.int .i64 t229, .int .i64 t230, .slice Ao18 t231.length co18] 27 (0, 0)) (by (with_reducible repeat (first | refine blk_drewN ?_ _ | refine blk_drew ?_ | refine blk_alloc ?_ _)); exact BK236.out) hg (Kd.N_ne HO258.out BK236.out (by decide)))
                   have n4_ := Aside0.mk (blk_grown (g := gb244) (o := .cells #[.int .i64 t237, .int .i64 t238, .slice Ao23 t239.length co23] 27 (0, 0)) (by (with_reducible repeat (first | refine blk_drewN ?_ _ | refine blk_drew ?_ | refine blk_alloc ?_ _)); exact BK244.out) hg (Kd.N_ne HO258.out BK244.out (by decide)))
                   have n5_ := Aside0.mk (blk_grown (g := gb252) (o := .cells #[.int .i64 t245, .int .i64 t246, .slice Ao29 t247.length co29] 27 (0, 0)) (by (with_reducible repeat (first | refine blk_drewN ?_ _ | refine blk_drew ?_ | refine blk_alloc ?_ _)); exact BK252.out) hg (Kd.N_ne HO258.out BK252.out (by decide)))
                   have n6_ := Aside0.mk (blk_grown (g := gb262) (o := .cells #[.int .i64 0, .int .i64 0, .slice none 0 0] 27 (0, 0)) (by (with_reducible repeat (first | refine blk_drewN ?_ _ | refine blk_drew ?_ | refine blk_alloc ?_ _)); exact BK262.out) hg (Kd.N_ne HO258.out BK262.out (by decide)))
                   have n7_ := Aside0.mk (hb)
                   have n8_ := Aside0.mk (ho)
                   clear HO_237002
                   clear HO_245002
                   clear HO_253002
                   clear BK236
                   clear BK244
                   clear BK252
                   clear BK262
                   clear HB
                   clear HO258
                   have HO_237002 := n0_
                   have HO_245002 := n1_
                   have HO_253002 := n2_
                   have BK236 := n3_
                   have BK244 := n4_
                   have BK252 := n5_
                   have BK262 := n6_
                   have HB := n7_
                   have HO261 := n8_
                   clear n0_ n1_ n2_ n3_ n4_ n5_ n6_ n7_ n8_
                   clear ho hb hg hat
                   obtain ⟨Ao60, co60, eo60⟩ := Kd.N_slice HO261.out
                   (first | subst eo60 | (injection eo60 with f1_ f2_ f3_; have f4_ := f1_.symm; have f5_ := f3_.symm; clear f1_ f2_ f3_; subst f4_; subst f5_))
                   refine hK.out _ _ ⟨(blk_cell BK236.out 0).trans rfl, (blk_cell BK236.out 1).trans rfl, (blk_cell BK236.out 2).trans rfl, (blk_cell BK244.out 0).trans rfl, (blk_cell BK244.out 1).trans rfl, (blk_cell BK244.out 2).trans rfl⟩ (fun hHeld => ?_)
                   clear hK K
                   refine norm_ (a' := ?_) ?_ ?_
                   rotate_left
                   ·show Act.put _ (some 77) _ = _
                    simp only [Act.put, List.setIfInBounds_toArray, List.set_cons_zero, List.set_cons_succ, i64_w, i32_w]
                    rfl
                   refine pure_ (i := 9) (N := some 78) (v := ?_) (a' := ?_) #[true, true, true, true, true, true, true, true, true, true, true, false] rfl rfl (any_of HT_.out (by kernel_rfl)) (fun _ _ _ h => h) (Or.inl ⟨by rfl, ?_⟩) ?_ ?_
                   rotate_left
                   ·intro w'
                    go_simp
                    with_reducible rfl
                   rotate_left
                   ·simp only [Act.put, List.setIfInBounds_toArray, List.set_cons_zero, List.set_cons_succ, i64_w, i32_w]
                    rfl
                   exact norm_ (by simp only [putAll, Act.put, List.setIfInBounds_toArray, List.set_cons_zero, List.set_cons_succ] <;> (try simp only [IntKind.wrap_u32])) (hCont (v254, v257, .slice Ao60 y259.length co60, gb262) _ ⟨hHeld, (by (with_reducible repeat (first | apply Kd.N_alloc | apply Kd.N_drewN | apply Kd.N_drew)); exact HO261.out), (by (with_reducible repeat (first | apply Kd.N_alloc | apply Kd.N_drewN | apply Kd.N_drew)); exact Kd.N_mono HO_237002.out (fun _ hk => ⟨hk.2, ⟨hk.1.1, ⟨hk.1.2.1, ⟨hk.1.2.2.1, ⟨hk.1.2.2.2.1, ⟨hk.1.2.2.2.2.1, hk.1.2.2.2.2.2⟩⟩⟩⟩⟩⟩)), (by (with_reducible repeat (first | apply Kd.N_alloc | apply Kd.N_drewN | apply Kd.N_drew)); exact Kd.N_mono HO_245002.out (fun _ hk => ⟨hk.2, ⟨hk.1.1, ⟨hk.1.2.1, ⟨hk.1.2.2.1, ⟨hk.1.2.2.2.1, ⟨hk.1.2.2.2.2.1, hk.1.2.2.2.2.2⟩⟩⟩⟩⟩⟩)), (by (with_reducible repeat (first | apply Kd.N_alloc | apply Kd.N_drewN | apply Kd.N_drew)); exact Kd.N_mono HO_253002.out (fun _ hk => ⟨hk.2, ⟨hk.1.1, ⟨hk.1.2.1, ⟨hk.1.2.2.1, ⟨hk.1.2.2.2.1, ⟨hk.1.2.2.2.2.1, hk.1.2.2.2.2.2⟩⟩⟩⟩⟩⟩)), (by (with_reducible repeat (first | refine blk_drewN ?_ _ | refine blk_drew ?_ | refine blk_alloc ?_ _)); exact BK236.out), (by (with_reducible repeat (first | refine blk_drewN ?_ _ | refine blk_drew ?_ | refine blk_alloc ?_ _)); exact BK244.out), (by (with_reducible repeat (first | refine blk_drewN ?_ _ | refine blk_drew ?_ | refine blk_alloc ?_ _)); exact BK252.out), (by (with_reducible repeat (first | refine blk_drewN ?_ _ | refine blk_drew ?_ | refine blk_alloc ?_ _)); exact BK262.out), GW262.out, GE262.out, NB236_262.out, NB262_236.out, NB244_262.out, NB262_244.out, NB252_262.out, NB262_252.out, (by repeat (first | (with_reducible first | exact HB.out | apply below_alloc | apply pw_below_drewN | apply below_drew1 | refine below_set ?_ GE236.out | refine below_set ?_ GE244.out | refine below_set ?_ GE252.out | refine below_set ?_ GE262.out) | exact HB.out))⟩)
                 ·skip
                  refine box_step ?hg (N := 15) ?hd (cs := #[.int .i64 0, .int .i64 0, .slice none 0 0]) (t := 27) ?hr ?_; (case hd => rfl); (case hg => rfl); (case hr => first | (go_simp; done) | (go_simp; rfl))
                  intro gb262 hg w57 hbox hb
                  have n0_ := Aside0.mk (Kd.N_below (Kd.N_elderB (by (with_reducible repeat (first | apply Kd.N_alloc | apply Kd.N_drewN | apply Kd.N_drew)); exact HO_237002.out) gb262 (Nat.le_of_eq hg.symm)) hb)
                  have n1_ := Aside0.mk (Kd.N_below (Kd.N_elderB (by (with_reducible repeat (first | apply Kd.N_alloc | apply Kd.N_drewN | apply Kd.N_drew)); exact HO_245002.out) gb262 (Nat.le_of_eq hg.symm)) hb)
                  have n2_ := Aside0.mk (Kd.N_below (Kd.N_elderB (by (with_reducible repeat (first | apply Kd.N_alloc | apply Kd.N_drewN | apply Kd.N_drew)); exact HO_253002.out) gb262 (Nat.le_of_eq hg.symm)) hb)
                  have n3_ := Aside0.mk (Kd.N_below (Kd.N_elderB (by (with_reducible repeat (first | apply Kd.N_alloc | apply Kd.N_drewN | apply Kd.N_drew)); exact HO255.out) gb262 (Nat.le_of_eq hg.symm)) hb)
                  have n4_ := Aside0.mk (blk_below (g := gb236) (o := .cells #[.int .i64 t229, .int .i64 t230, .slice Ao18 t231.length co18] 27 (0, 0)) (by (with_reducible repeat (first | refine blk_drewN ?_ _ | refine blk_drew ?_ | refine blk_alloc ?_ _)); exact BK236.out) hb)
                  have n5_ := Aside0.mk (blk_below (g := gb244) (o := .cells #[.int .i64 t237, .int .i64 t238, .slice Ao23 t239.length co23] 27 (0, 0)) (by (with_reducible repeat (first | refine blk_drewN ?_ _ | refine blk_drew ?_ | refine blk_alloc ?_ _)); exact BK244.out) hb)
                  have n6_ := Aside0.mk (blk_below (g := gb252) (o := .cells #[.int .i64 t245, .int .i64 t246, .slice Ao29 t247.length co29] 27 (0, 0)) (by (with_reducible repeat (first | refine blk_drewN ?_ _ | refine blk_drew ?_ | refine blk_alloc ?_ _)); exact BK252.out) hb)
                  have n7_ := Aside0.mk (below_step (by repeat (first | (with_reducible first | exact HB.out | apply below_alloc | apply pw_below_drewN | apply below_drew1 | refine below_set ?_ GE236.out | refine below_set ?_ GE244.out | refine below_set ?_ GE252.out) | exact HB.out)) hb)
                  have n8_ := Aside0.mk (hbox)
                  have n9_ := Aside0.mk ((by rw [hg]; exact (below_size (by repeat (first | (with_reducible first | exact HB.out | apply below_alloc | apply pw_below_drewN | apply below_drew1 | refine below_set ?_ GE236.out | refine below_set ?_ GE244.out | refine below_set ?_ GE252.out) | exact HB.out))) : w.heap.size ≤ gb262))
                  have n10_ := Aside0.mk ((by rw [hg]; exact (below_size (by repeat (first | (with_reducible first | exact HB.out | apply below_alloc | apply pw_below_drewN | apply below_drew1 | refine below_set ?_ GE236.out | refine below_set ?_ GE244.out | refine below_set ?_ GE252.out) | exact HB.out))) : w.heap.size ≤ gb262))
                  have n11_ := Aside0.mk ((by rw [hg]; exact Nat.ne_of_lt (blk_lt (g := gb236) (o := .cells #[.int .i64 t229, .int .i64 t230, .slice Ao18 t231.length co18] 27 (0, 0)) (by (with_reducible repeat (first | refine blk_drewN ?_ _ | refine blk_drew ?_ | refine blk_alloc ?_ _)); exact BK236.out)) : gb236 ≠ gb262))
                  have n12_ := Aside0.mk ((by rw [hg]; exact Nat.ne_of_gt (blk_lt (g := gb236) (o := .cells #[.int .i64 t229, .int .i64 t230, .slice Ao18 t231.length co18] 27 (0, 0)) (by (with_reducible repeat (first | refine blk_drewN ?_ _ | refine blk_drew ?_ | refine blk_alloc ?_ _)); exact BK236.out)) : gb262 ≠ gb236))
                  have n13_ := Aside0.mk ((by rw [hg]; exact Nat.ne_of_lt (blk_lt (g := gb244) (o := .cells #[.int .i64 t237, .int .i64 t238, .slice Ao23 t239.length co23] 27 (0, 0)) (by (with_reducible repeat (first | refine blk_drewN ?_ _ | refine blk_drew ?_ | refine blk_alloc ?_ _)); exact BK244.out)) : gb244 ≠ gb262))
                  have n14_ := Aside0.mk ((by rw [hg]; exact Nat.ne_of_gt (blk_lt (g := gb244) (o := .cells #[.int .i64 t237, .int .i64 t238, .slice Ao23 t239.length co23] 27 (0, 0)) (by (with_reducible repeat (first | refine blk_drewN ?_ _ | refine blk_drew ?_ | refine blk_alloc ?_ _)); exact BK244.out)) : gb262 ≠ gb244))
                  have n15_ := Aside0.mk ((by rw [hg]; exact Nat.ne_of_lt (blk_lt (g := gb252) (o := .cells #[.int .i64 t245, .int .i64 t246, .slice Ao29 t247.length co29] 27 (0, 0)) (by (with_reducible repeat (first | refine blk_drewN ?_ _ | refine blk_drew ?_ | refine blk_alloc ?_ _)); exact BK252.out)) : gb252 ≠ gb262))
                  have n16_ := Aside0.mk ((by rw [hg]; exact Nat.ne_of_gt (blk_lt (g := gb252) (o := .cells #[.int .i64 t245, .int .i64 t246, .slice Ao29 t247.length co29] 27 (0, 0)) (by (with_reducible repeat (first | refine blk_drewN ?_ _ | refine blk_drew ?_ | refine blk_alloc ?_ _)); exact BK252.out)) : gb262 ≠ gb252))
                  clear HO_237002
                  clear HO_245002
                  clear HO_253002
                  clear HO255
                  clear BK236
                  clear BK244
                  clear BK252
                  clear HB
                  have HO_237002 := n0_
                  have HO_245002 := n1_
                  have HO_253002 := n2_
                  have HO255 := n3_
                  have BK236 := n4_
                  have BK244 := n5_
                  have BK252 := n6_
                  have HB := n7_
                  have BK262 := n8_
                  have GW262 := n9_
                  have GE262 := n10_
                  have NB236_262 := n11_
                  have NB262_236 := n12_
                  have NB244_262 := n13_
                  have NB262_244 := n14_
                  have NB252_262 := n15_
                  have NB262_252 := n16_
                  clear n0_ n1_ n2_ n3_ n4_ n5_ n6_ n7_ n8_ n9_ n10_ n11_ n12_ n13_ n14_ n15_ n16_
                  clear hb hbox hg
                  refine hK.out _ _ ⟨(blk_cell BK236.out 0).trans rfl, (blk_cell BK236.out 1).trans rfl, (blk_cell BK236.out 2).trans rfl, (blk_cell BK244.out 0).trans rfl, (blk_cell BK244.out 1).trans rfl, (blk_cell BK244.out 2).trans rfl⟩ (fun hHeld => ?_)
                  clear hK K
                  refine norm_ (a' := ?_) ?_ ?_
                  rotate_left
                  ·show Act.put _ (some 15) _ = _
                   simp only [Act.put, List.setIfInBounds_toArray, List.set_cons_zero, List.set_cons_succ, i64_w, i32_w]
                   rfl
                  refine one_ (i := 5) (N := some 74) #[true, true, true, true, true, true, true, true, false, false, true, false] rfl rfl (one_of HT_.out (by kernel_rfl)) (by decide) (fun K hK => ?_)
                  refine Kd.N_append_rows_step k44 (w0 := w) w.heap.size (by rfl) (.tmp 71) (.tmp 73) 25 44 (.agg #[(.int .i64 0), (.int .i64 0), (.slice none 0 0), (.slice none 0 0)]) 64 rfl Try.underlying25 info44 rfl (by decide) (by omega) v254 y253 t231 _ _ _ (fun k_ => some k_ ≠ (.slice Ao23 t239.length co23 : Value).ownBlock ∧ some k_ ≠ (.slice Ao29 t247.length co29 : Value).ownBlock ∧ k_ ≠ gb236 ∧ k_ ≠ gb244 ∧ k_ ≠ gb252 ∧ k_ ≠ gb262) (fun k_ => ((fun k_ => some k_ ≠ (.slice Ao23 t239.length co23 : Value).ownBlock ∧ some k_ ≠ (.slice Ao29 t247.length co29 : Value).ownBlock ∧ k_ ≠ gb236 ∧ k_ ≠ gb244 ∧ k_ ≠ gb252 ∧ k_ ≠ gb262)) k_ ∧ some k_ ≠ (v254 : Value).ownBlock) rfl rfl ?aO ?aR (fun _ hk => hk) ?aF ?aB ?aS ?aL ?_
                  (case aR => exact (by skip; exact Kd.N_F (Kd.N_mono (ok' := (fun k_ => ((fun k_ => some k_ ≠ (.slice Ao23 t239.length co23 : Value).ownBlock ∧ some k_ ≠ (.slice Ao29 t247.length co29 : Value).ownBlock ∧ k_ ≠ gb236 ∧ k_ ≠ gb244 ∧ k_ ≠ gb252 ∧ k_ ≠ gb262)) k_ ∧ some k_ ≠ (v254 : Value).ownBlock)) (HO_237002.out) (fun k_ hk => ⟨⟨hk.1.1.1, ⟨hk.1.1.2.1, ⟨hk.1.1.2.2.1, ⟨hk.1.1.2.2.2.1, ⟨hk.1.1.2.2.2.2, hk.2⟩⟩⟩⟩⟩, hk.1.2⟩))))
                  (case aB => exact (by repeat (first | (with_reducible first | exact HB.out | apply below_alloc | apply pw_below_drewN | apply below_drew1 | refine below_set ?_ GE236.out | refine below_set ?_ GE244.out | refine below_set ?_ GE252.out | refine below_set ?_ GE262.out) | exact HB.out)))
                  (case aF => exact (fun k_ hk => ⟨Kd.fresh' (Kd.N_lt (by (with_reducible repeat (first | apply Kd.N_alloc | apply Kd.N_drewN | apply Kd.N_drew)); exact HO_245002.out)) k_ hk, Kd.fresh' (Kd.N_lt (by (with_reducible repeat (first | apply Kd.N_alloc | apply Kd.N_drewN | apply Kd.N_drew)); exact HO_253002.out)) k_ hk, Kd.freshB (g := gb236) (o := .cells #[.int .i64 t229, .int .i64 t230, .slice Ao18 t231.length co18] 27 (0, 0)) (by (with_reducible repeat (first | refine blk_drewN ?_ _ | refine blk_drew ?_ | refine blk_alloc ?_ _)); exact BK236.out) k_ hk, Kd.freshB (g := gb244) (o := .cells #[.int .i64 t237, .int .i64 t238, .slice Ao23 t239.length co23] 27 (0, 0)) (by (with_reducible repeat (first | refine blk_drewN ?_ _ | refine blk_drew ?_ | refine blk_alloc ?_ _)); exact BK244.out) k_ hk, Kd.freshB (g := gb252) (o := .cells #[.int .i64 t245, .int .i64 t246, .slice Ao29 t247.length co29] 27 (0, 0)) (by (with_reducible repeat (first | refine blk_drewN ?_ _ | refine blk_drew ?_ | refine blk_alloc ?_ _)); exact BK252.out) k_ hk, Kd.freshB (g := gb262) (o := .cells #[.int .i64 0, .int .i64 0, .slice none 0 0] 27 (0, 0)) (by (with_reducible repeat (first | refine blk_drewN ?_ _ | refine blk_drew ?_ | refine blk_alloc ?_ _)); exact BK262.out) k_ hk⟩))
                  (case aO => exact (by (with_reducible repeat (first | apply Kd.N_alloc | apply Kd.N_drewN | apply Kd.N_drew)); exact Kd.N_mono HO255.out (fun _ hk => ⟨hk.1.2.1, ⟨hk.1.2.2.1, ⟨hk.1.2.2.2.1, ⟨hk.1.2.2.2.2.1, ⟨hk.1.2.2.2.2.2, hk.2⟩⟩⟩⟩⟩)))
                  (case aS => exact (below_size (by repeat (first | (with_reducible first | exact HB.out | apply below_alloc | apply pw_below_drewN | apply below_drew1 | refine below_set ?_ GE236.out | refine below_set ?_ GE244.out | refine below_set ?_ GE252.out | refine below_set ?_ GE262.out) | exact HB.out))))
                  (case aL => have := LMc44.out; omega)
                  intro v257 w58 ho hb hg hat
                  rw [← Ny256.out] at ho
                  have n0_ := Aside0.mk (Kd.N_afterv (ok := (fun k_ => some k_ ≠ (.slice Ao23 t239.length co23 : Value).ownBlock ∧ some k_ ≠ (.slice Ao29 t247.length co29 : Value).ownBlock ∧ k_ ≠ gb236 ∧ k_ ≠ gb244 ∧ k_ ≠ gb252 ∧ k_ ≠ gb262)) (by (with_reducible repeat (first | apply Kd.N_alloc | apply Kd.N_drewN | apply Kd.N_drew)); exact Kd.N_mono HO_237002.out (fun _ hk => ⟨⟨hk.1.1.1, ⟨hk.1.1.2.1, ⟨hk.1.1.2.2.1, ⟨hk.1.1.2.2.2.1, ⟨hk.1.1.2.2.2.2, hk.2⟩⟩⟩⟩⟩, hk.1.2⟩)) hg hat)
                  have n1_ := Aside0.mk (Kd.N_afterv (ok := (fun k_ => some k_ ≠ (.slice Ao18 t231.length co18 : Value).ownBlock ∧ some k_ ≠ (.slice Ao29 t247.length co29 : Value).ownBlock ∧ k_ ≠ gb236 ∧ k_ ≠ gb244 ∧ k_ ≠ gb252 ∧ k_ ≠ gb262)) (by (with_reducible repeat (first | apply Kd.N_alloc | apply Kd.N_drewN | apply Kd.N_drew)); exact Kd.N_mono HO_245002.out (fun _ hk => ⟨⟨hk.1.1.1, ⟨hk.1.1.2.1, ⟨hk.1.1.2.2.1, ⟨hk.1.1.2.2.2.1, ⟨hk.1.1.2.2.2.2, hk.2⟩⟩⟩⟩⟩, hk.1.2⟩)) hg hat)
                  have n2_ := Aside0.mk (Kd.N_afterv (ok := (fun k_ => some k_ ≠ (.slice Ao18 t231.length co18 : Value).ownBlock ∧ some k_ ≠ (.slice Ao23 t239.length co23 : Value).ownBlock ∧ k_ ≠ gb236 ∧ k_ ≠ gb244 ∧ k_ ≠ gb252 ∧ k_ ≠ gb262)) (by (with_reducible repeat (first | apply Kd.N_alloc | apply Kd.N_drewN | apply Kd.N_drew)); exact Kd.N_mono HO_253002.out (fun _ hk => ⟨⟨hk.1.1.1, ⟨hk.1.1.2.1, ⟨hk.1.1.2.2.1, ⟨hk.1.1.2.2.2.1, ⟨hk.1.1.2.2.2.2, hk.2⟩⟩⟩⟩⟩, hk.1.2⟩)) hg hat)
                  have n3_ := Aside0.mk (blk_grown (g := gb236) (o := .cells #[.int .i64 t229, .int .i64 t230, .slice Ao18 t231.length co18] 27 (0, 0)) (by (with_reducible repeat (first | refine blk_drewN ?_ _ | refine blk_drew ?_ | refine blk_alloc ?_ _)); exact BK236.out) hg (Kd.N_ne HO255.out BK236.out (by decide)))
                  have n4_ := Aside0.mk (blk_grown (g := gb244) (o := .cells #[.int .i64 t237, .int .i64 t238, .slice Ao23 t239.length co23] 27 (0, 0)) (by (with_reducible repeat (first | refine blk_drewN ?_ _ | refine blk_drew ?_ | refine blk_alloc ?_ _)); exact BK244.out) hg (Kd.N_ne HO255.out BK244.out (by decide)))
                  have n5_ := Aside0.mk (blk_grown (g := gb252) (o := .cells #[.int .i64 t245, .int .i64 t246, .slice Ao29 t247.length co29] 27 (0, 0)) (by (with_reducible repeat (first | refine blk_drewN ?_ _ | refine blk_drew ?_ | refine blk_alloc ?_ _)); exact BK252.out) hg (Kd.N_ne HO255.out BK252.out (by decide)))
                  have n6_ := Aside0.mk (blk_grown (g := gb262) (o := .cells #[.int .i64 0, .int .i64 0, .slice none 0 0] 27 (0, 0)) (by (with_reducible repeat (first | refine blk_drewN ?_ _ | refine blk_drew ?_ | refine blk_alloc ?_ _)); exact BK262.out) hg (Kd.N_ne HO255.out BK262.out (by decide)))
                  have n7_ := Aside0.mk (hb)
                  have n8_ := Aside0.mk (ho)
                  clear HO_237002
                  clear HO_245002
                  clear HO_253002
                  clear BK236
                  clear BK244
                  clear BK252
                  clear BK262
                  clear HB
                  clear HO255
                  have HO_237002 := n0_
                  have HO_245002 := n1_
                  have HO_253002 := n2_
                  have BK236 := n3_
                  have BK244 := n4_
                  have BK252 := n5_
                  have BK262 := n6_
                  have HB := n7_
                  have HO258 := n8_
                  clear n0_ n1_ n2_ n3_ n4_ n5_ n6_ n7_ n8_
                  clear ho hb hg hat
                  refine hK.out _ _ ⟨(blk_cell BK236.out 0).trans rfl, (blk_cell BK236.out 1).trans rfl, (blk_cell BK236.out 2).trans rfl, (blk_cell BK244.out 0).trans rfl, (blk_cell BK244.out 1).trans rfl, (blk_cell BK244.out 2).trans rfl⟩ (fun hHeld => ?_)
                  clear hK K
                  refine norm_ (a' := ?_) ?_ ?_
                  rotate_left
                  ·show Act.put _ (some 74) _ = _
                   simp only [Act.put, List.setIfInBounds_toArray, List.set_cons_zero, List.set_cons_succ, i64_w, i32_w]
                   rfl
                  refine one_ (i := 8) (N := some 77) #[true, true, true, true, true, true, true, true, true, false, true, false] rfl rfl (one_of HT_.out (by kernel_rfl)) (by decide) (fun K hK => ?_)
                  refine Kd.N_append_rows_step k44 (w0 := w) w.heap.size (by rfl) (.tmp 74) (.tmp 76) 25 44 (.agg #[(.int .i64 0), (.int .i64 0), (.slice none 0 0), (.slice none 0 0)]) 64 rfl Try.underlying25 info44 rfl (by decide) (by omega) v257 y256 t239 _ _ _ (fun k_ => some k_ ≠ (.slice Ao29 t247.length co29 : Value).ownBlock ∧ k_ ≠ gb236 ∧ k_ ≠ gb244 ∧ k_ ≠ gb252 ∧ k_ ≠ gb262) (fun k_ => ((fun k_ => some k_ ≠ (.slice Ao29 t247.length co29 : Value).ownBlock ∧ k_ ≠ gb236 ∧ k_ ≠ gb244 ∧ k_ ≠ gb252 ∧ k_ ≠ gb262)) k_ ∧ some k_ ≠ (v257 : Value).ownBlock) rfl rfl ?aO ?aR (fun _ hk => hk) ?aF ?aB ?aS ?aL ?_
                  (case aR => exact (by skip; exact Kd.N_F (Kd.N_mono (ok' := (fun k_ => ((fun k_ => some k_ ≠ (.slice Ao29 t247.length co29 : Value).ownBlock ∧ k_ ≠ gb236 ∧ k_ ≠ gb244 ∧ k_ ≠ gb252 ∧ k_ ≠ gb262)) k_ ∧ some k_ ≠ (v257 : Value).ownBlock)) (HO_245002.out) (fun k_ hk => ⟨⟨hk.1.2.1, ⟨hk.1.2.2.1, ⟨hk.1.2.2.2.1, ⟨hk.1.2.2.2.2.1, hk.1.2.2.2.2.2⟩⟩⟩⟩, hk.2⟩))))
                  (case aB => exact (by repeat (first | (with_reducible first | exact HB.out | apply below_alloc | apply pw_below_drewN | apply below_drew1 | refine below_set ?_ GE236.out | refine below_set ?_ GE244.out | refine below_set ?_ GE252.out | refine below_set ?_ GE262.out) | exact HB.out)))
                  (case aF => exact (fun k_ hk => ⟨Kd.fresh' (Kd.N_lt (by (with_reducible repeat (first | apply Kd.N_alloc | apply Kd.N_drewN | apply Kd.N_drew)); exact HO_253002.out)) k_ hk, Kd.freshB (g := gb236) (o := .cells #[.int .i64 t229, .int .i64 t230, .slice Ao18 t231.length co18] 27 (0, 0)) (by (with_reducible repeat (first | refine blk_drewN ?_ _ | refine blk_drew ?_ | refine blk_alloc ?_ _)); exact BK236.out) k_ hk, Kd.freshB (g := gb244) (o := .cells #[.int .i64 t237, .int .i64 t238, .slice Ao23 t239.length co23] 27 (0, 0)) (by (with_reducible repeat (first | refine blk_drewN ?_ _ | refine blk_drew ?_ | refine blk_alloc ?_ _)); exact BK244.out) k_ hk, Kd.freshB (g := gb252) (o := .cells #[.int .i64 t245, .int .i64 t246, .slice Ao29 t247.length co29] 27 (0, 0)) (by (with_reducible repeat (first | refine blk_drewN ?_ _ | refine blk_drew ?_ | refine blk_alloc ?_ _)); exact BK252.out) k_ hk, Kd.freshB (g := gb262) (o := .cells #[.int .i64 0, .int .i64 0, .slice none 0 0] 27 (0, 0)) (by (with_reducible repeat (first | refine blk_drewN ?_ _ | refine blk_drew ?_ | refine blk_alloc ?_ _)); exact BK262.out) k_ hk⟩))
                  (case aO => exact (by (with_reducible repeat (first | apply Kd.N_alloc | apply Kd.N_drewN | apply Kd.N_drew)); exact Kd.N_mono HO258.out (fun _ hk => ⟨hk.2.1, ⟨hk.2.2.1, ⟨hk.2.2.2.1, ⟨hk.2.2.2.2.1, hk.2.2.2.2.2⟩⟩⟩⟩)))
                  (case aS => exact (below_size (by repeat (first | (with_reducible first | exact HB.out | apply below_alloc | apply pw_below_drewN | apply below_drew1 | refine below_set ?_ GE236.out | refine below_set ?_ GE244.out | refine below_set ?_ GE252.out | refine below_set ?_ GE262.out) | exact HB.out))))
                  (case aL => have := LMc45.out; omega)
                  intro v260 w59 ho hb hg hat
                  rw [← Ny259.out] at ho
                  have n0_ := Aside0.mk (Kd.N_afterv (ok := (fun k_ => some k_ ≠ (.slice Ao23 t239.length co23 : Value).ownBlock ∧ some k_ ≠ (.slice Ao29 t247.length co29 : Value).ownBlock ∧ k_ ≠ gb236 ∧ k_ ≠ gb244 ∧ k_ ≠ gb252 ∧ k_ ≠ gb262)) (by (with_reducible repeat (first | apply Kd.N_alloc | apply Kd.N_drewN | apply Kd.N_drew)); exact HO_237002.out) hg hat)
                  have n1_ := Aside0.mk (Kd.N_afterv (ok := (fun k_ => some k_ ≠ (.slice Ao18 t231.length co18 : Value).ownBlock ∧ some k_ ≠ (.slice Ao29 t247.length co29 : Value).ownBlock ∧ k_ ≠ gb236 ∧ k_ ≠ gb244 ∧ k_ ≠ gb252 ∧ k_ ≠ gb262)) (by (with_reducible repeat (first | apply Kd.N_alloc | apply Kd.N_drewN | apply Kd.N_drew)); exact HO_245002.out) hg hat)
                  have n2_ := Aside0.mk (Kd.N_afterv (ok := (fun k_ => some k_ ≠ (.slice Ao18 t231.length co18 : Value).ownBlock ∧ some k_ ≠ (.slice Ao23 t239.length co23 : Value).ownBlock ∧ k_ ≠ gb236 ∧ k_ ≠ gb244 ∧ k_ ≠ gb252 ∧ k_ ≠ gb262)) (by (with_reducible repeat (first | apply Kd.N_alloc | apply Kd.N_drewN | apply Kd.N_drew)); exact HO_253002.out) hg hat)
                  have n3_ := Aside0.mk (blk_grown (g := gb236) (o := .cells #[.int .i64 t229, .int .i64 t230, .slice Ao18 t231.length co18] 27 (0, 0)) (by (with_reducible repeat (first | refine blk_drewN ?_ _ | refine blk_drew ?_ | refine blk_alloc ?_ _)); exact BK236.out) hg (Kd.N_ne HO258.out BK236.out (by decide)))
                  have n4_ := Aside0.mk (blk_grown (g := gb244) (o := .cells #[.int .i64 t237, .int .i64 t238, .slice Ao23 t239.length co23] 27 (0, 0)) (by (with_reducible repeat (first | refine blk_drewN ?_ _ | refine blk_drew ?_ | refine blk_alloc ?_ _)); exact BK244.out) hg (Kd.N_ne HO258.out BK244.out (by decide)))
                  have n5_ := Aside0.mk (blk_grown (g := gb252) (o := .cells #[.int .i64 t245, .int .i64 t246, .slice Ao29 t247.length co29] 27 (0, 0)) (by (with_reducible repeat (first | refine blk_drewN ?_ _ | refine blk_drew ?_ | refine blk_alloc ?_ _)); exact BK252.out) hg (Kd.N_ne HO258.out BK252.out (by decide)))
                  have n6_ := Aside0.mk (blk_grown (g := gb262) (o := .cells #[.int .i64 0, .int .i64 0, .slice none 0 0] 27 (0, 0)) (by (with_reducible repeat (first | refine blk_drewN ?_ _ | refine blk_drew ?_ | refine blk_alloc ?_ _)); exact BK262.out) hg (Kd.N_ne HO258.out BK262.out (by decide)))
                  have n7_ := Aside0.mk (hb)
                  have n8_ := Aside0.mk (ho)
                  clear HO_237002
                  clear HO_245002
                  clear HO_253002
                  clear BK236
                  clear BK244
                  clear BK252
                  clear BK262
                  clear HB
                  clear HO258
                  have HO_237002 := n0_
                  have HO_245002 := n1_
                  have HO_253002 := n2_
                  have BK236 := n3_
                  have BK244 := n4_
                  have BK252 := n5_
                  have BK262 := n6_
                  have HB := n7_
                  have HO261 := n8_
                  clear n0_ n1_ n2_ n3_ n4_ n5_ n6_ n7_ n8_
                  clear ho hb hg hat
                  obtain ⟨Ao60, co60, eo60⟩ := Kd.N_slice HO261.out
                  (first | subst eo60 | (injection eo60 with f1_ f2_ f3_; have f4_ := f1_.symm; have f5_ := f3_.symm; clear f1_ f2_ f3_; subst f4_; subst f5_))
                  refine hK.out _ _ ⟨(blk_cell BK236.out 0).trans rfl, (blk_cell BK236.out 1).trans rfl, (blk_cell BK236.out 2).trans rfl, (blk_cell BK244.out 0).trans rfl, (blk_cell BK244.out 1).trans rfl, (blk_cell BK244.out 2).trans rfl⟩ (fun hHeld => ?_)
                  clear hK K
                  refine norm_ (a' := ?_) ?_ ?_
                  rotate_left
                  ·show Act.put _ (some 77) _ = _
                   simp only [Act.put, List.setIfInBounds_toArray, List.set_cons_zero, List.set_cons_succ, i64_w, i32_w]
                   rfl
                  refine pure_ (i := 9) (N := some 78) (v := ?_) (a' := ?_) #[true, true, true, true, true, true, true, true, true, true, true, false] rfl rfl (any_of HT_.out (by kernel_rfl)) (fun _ _ _ h => h) (Or.inl ⟨by rfl, ?_⟩) ?_ ?_
                  rotate_left
                  ·intro w'
                   go_simp
                   with_reducible rfl
                  rotate_left
                  ·simp only [Act.put, List.setIfInBounds_toArray, List.set_cons_zero, List.set_cons_succ, i64_w, i32_w]
                   rfl
                  exact norm_ (by simp only [putAll, Act.put, List.setIfInBounds_toArray, List.set_cons_zero, List.set_cons_succ] <;> (try simp only [IntKind.wrap_u32])) (hCont (v254, v257, .slice Ao60 y259.length co60, gb262) _ ⟨hHeld, (by (with_reducible repeat (first | apply Kd.N_alloc | apply Kd.N_drewN | apply Kd.N_drew)); exact HO261.out), (by (with_reducible repeat (first | apply Kd.N_alloc | apply Kd.N_drewN | apply Kd.N_drew)); exact Kd.N_mono HO_237002.out (fun _ hk => ⟨hk.2, ⟨hk.1.1, ⟨hk.1.2.1, ⟨hk.1.2.2.1, ⟨hk.1.2.2.2.1, ⟨hk.1.2.2.2.2.1, hk.1.2.2.2.2.2⟩⟩⟩⟩⟩⟩)), (by (with_reducible repeat (first | apply Kd.N_alloc | apply Kd.N_drewN | apply Kd.N_drew)); exact Kd.N_mono HO_245002.out (fun _ hk => ⟨hk.2, ⟨hk.1.1, ⟨hk.1.2.1, ⟨hk.1.2.2.1, ⟨hk.1.2.2.2.1, ⟨hk.1.2.2.2.2.1, hk.1.2.2.2.2.2⟩⟩⟩⟩⟩⟩)), (by (with_reducible repeat (first | apply Kd.N_alloc | apply Kd.N_drewN | apply Kd.N_drew)); exact Kd.N_mono HO_253002.out (fun _ hk => ⟨hk.2, ⟨hk.1.1, ⟨hk.1.2.1, ⟨hk.1.2.2.1, ⟨hk.1.2.2.2.1, ⟨hk.1.2.2.2.2.1, hk.1.2.2.2.2.2⟩⟩⟩⟩⟩⟩)), (by (with_reducible repeat (first | refine blk_drewN ?_ _ | refine blk_drew ?_ | refine blk_alloc ?_ _)); exact BK236.out), (by (with_reducible repeat (first | refine blk_drewN ?_ _ | refine blk_drew ?_ | refine blk_alloc ?_ _)); exact BK244.out), (by (with_reducible repeat (first | refine blk_drewN ?_ _ | refine blk_drew ?_ | refine blk_alloc ?_ _)); exact BK252.out), (by (with_reducible repeat (first | refine blk_drewN ?_ _ | refine blk_drew ?_ | refine blk_alloc ?_ _)); exact BK262.out), GW262.out, GE262.out, NB236_262.out, NB262_236.out, NB244_262.out, NB262_244.out, NB252_262.out, NB262_252.out, (by repeat (first | (with_reducible first | exact HB.out | apply below_alloc | apply pw_below_drewN | apply below_drew1 | refine below_set ?_ GE236.out | refine below_set ?_ GE244.out | refine below_set ?_ GE252.out | refine below_set ?_ GE262.out) | exact HB.out))⟩)
                ·skip
                 refine box_step ?hg (N := 15) ?hd (cs := #[.int .i64 0, .int .i64 0, .slice none 0 0]) (t := 27) ?hr ?_; (case hd => rfl); (case hg => rfl); (case hr => first | (go_simp; done) | (go_simp; rfl))
                 intro gb262 hg w55 hbox hb
                 have n0_ := Aside0.mk (Kd.N_below (Kd.N_elderB (by (with_reducible repeat (first | apply Kd.N_alloc | apply Kd.N_drewN | apply Kd.N_drew)); exact HO_237002.out) gb262 (Nat.le_of_eq hg.symm)) hb)
                 have n1_ := Aside0.mk (Kd.N_below (Kd.N_elderB (by (with_reducible repeat (first | apply Kd.N_alloc | apply Kd.N_drewN | apply Kd.N_drew)); exact HO_245002.out) gb262 (Nat.le_of_eq hg.symm)) hb)
                 have n2_ := Aside0.mk (Kd.N_below (Kd.N_elderB (by (with_reducible repeat (first | apply Kd.N_alloc | apply Kd.N_drewN | apply Kd.N_drew)); exact HO_253002.out) gb262 (Nat.le_of_eq hg.symm)) hb)
                 have n3_ := Aside0.mk (blk_below (g := gb236) (o := .cells #[.int .i64 t229, .int .i64 t230, .slice Ao18 t231.length co18] 27 (0, 0)) (by (with_reducible repeat (first | refine blk_drewN ?_ _ | refine blk_drew ?_ | refine blk_alloc ?_ _)); exact BK236.out) hb)
                 have n4_ := Aside0.mk (blk_below (g := gb244) (o := .cells #[.int .i64 t237, .int .i64 t238, .slice Ao23 t239.length co23] 27 (0, 0)) (by (with_reducible repeat (first | refine blk_drewN ?_ _ | refine blk_drew ?_ | refine blk_alloc ?_ _)); exact BK244.out) hb)
                 have n5_ := Aside0.mk (blk_below (g := gb252) (o := .cells #[.int .i64 t245, .int .i64 t246, .slice Ao29 t247.length co29] 27 (0, 0)) (by (with_reducible repeat (first | refine blk_drewN ?_ _ | refine blk_drew ?_ | refine blk_alloc ?_ _)); exact BK252.out) hb)
                 have n6_ := Aside0.mk (below_step (by repeat (first | (with_reducible first | exact HB.out | apply below_alloc | apply pw_below_drewN | apply below_drew1 | refine below_set ?_ GE236.out | refine below_set ?_ GE244.out | refine below_set ?_ GE252.out) | exact HB.out)) hb)
                 have n7_ := Aside0.mk (hbox)
                 have n8_ := Aside0.mk ((by rw [hg]; exact (below_size (by repeat (first | (with_reducible first | exact HB.out | apply below_alloc | apply pw_below_drewN | apply below_drew1 | refine below_set ?_ GE236.out | refine below_set ?_ GE244.out | refine below_set ?_ GE252.out) | exact HB.out))) : w.heap.size ≤ gb262))
                 have n9_ := Aside0.mk ((by rw [hg]; exact (below_size (by repeat (first | (with_reducible first | exact HB.out | apply below_alloc | apply pw_below_drewN | apply below_drew1 | refine below_set ?_ GE236.out | refine below_set ?_ GE244.out | refine below_set ?_ GE252.out) | exact HB.out))) : w.heap.size ≤ gb262))
                 have n10_ := Aside0.mk ((by rw [hg]; exact Nat.ne_of_lt (blk_lt (g := gb236) (o := .cells #[.int .i64 t229, .int .i64 t230, .slice Ao18 t231.length co18] 27 (0, 0)) (by (with_reducible repeat (first | refine blk_drewN ?_ _ | refine blk_drew ?_ | refine blk_alloc ?_ _)); exact BK236.out)) : gb236 ≠ gb262))
                 have n11_ := Aside0.mk ((by rw [hg]; exact Nat.ne_of_gt (blk_lt (g := gb236) (o := .cells #[.int .i64 t229, .int .i64 t230, .slice Ao18 t231.length co18] 27 (0, 0)) (by (with_reducible repeat (first | refine blk_drewN ?_ _ | refine blk_drew ?_ | refine blk_alloc ?_ _)); exact BK236.out)) : gb262 ≠ gb236))
                 have n12_ := Aside0.mk ((by rw [hg]; exact Nat.ne_of_lt (blk_lt (g := gb244) (o := .cells #[.int .i64 t237, .int .i64 t238, .slice Ao23 t239.length co23] 27 (0, 0)) (by (with_reducible repeat (first | refine blk_drewN ?_ _ | refine blk_drew ?_ | refine blk_alloc ?_ _)); exact BK244.out)) : gb244 ≠ gb262))
                 have n13_ := Aside0.mk ((by rw [hg]; exact Nat.ne_of_gt (blk_lt (g := gb244) (o := .cells #[.int .i64 t237, .int .i64 t238, .slice Ao23 t239.length co23] 27 (0, 0)) (by (with_reducible repeat (first | refine blk_drewN ?_ _ | refine blk_drew ?_ | refine blk_alloc ?_ _)); exact BK244.out)) : gb262 ≠ gb244))
                 have n14_ := Aside0.mk ((by rw [hg]; exact Nat.ne_of_lt (blk_lt (g := gb252) (o := .cells #[.int .i64 t245, .int .i64 t246, .slice Ao29 t247.length co29] 27 (0, 0)) (by (with_reducible repeat (first | refine blk_drewN ?_ _ | refine blk_drew ?_ | refine blk_alloc ?_ _)); exact BK252.out)) : gb252 ≠ gb262))
                 have n15_ := Aside0.mk ((by rw [hg]; exact Nat.ne_of_gt (blk_lt (g := gb252) (o := .cells #[.int .i64 t245, .int .i64 t246, .slice Ao29 t247.length co29] 27 (0, 0)) (by (with_reducible repeat (first | refine blk_drewN ?_ _ | refine blk_drew ?_ | refine blk_alloc ?_ _)); exact BK252.out)) : gb262 ≠ gb252))
                 clear HO_237002
                 clear HO_245002
                 clear HO_253002
                 clear BK236
                 clear BK244
                 clear BK252
                 clear HB
                 have HO_237002 := n0_
                 have HO_245002 := n1_
                 have HO_253002 := n2_
                 have BK236 := n3_
                 have BK244 := n4_
                 have BK252 := n5_
                 have HB := n6_
                 have BK262 := n7_
                 have GW262 := n8_
                 have GE262 := n9_
                 have NB236_262 := n10_
                 have NB262_236 := n11_
                 have NB244_262 := n12_
                 have NB262_244 := n13_
                 have NB252_262 := n14_
                 have NB262_252 := n15_
                 clear n0_ n1_ n2_ n3_ n4_ n5_ n6_ n7_ n8_ n9_ n10_ n11_ n12_ n13_ n14_ n15_
                 clear hb hbox hg
                 refine hK.out _ _ ⟨(blk_cell BK236.out 0).trans rfl, (blk_cell BK236.out 1).trans rfl, (blk_cell BK236.out 2).trans rfl, (blk_cell BK244.out 0).trans rfl, (blk_cell BK244.out 1).trans rfl, (blk_cell BK244.out 2).trans rfl⟩ (fun hHeld => ?_)
                 clear hK K
                 refine norm_ (a' := ?_) ?_ ?_
                 rotate_left
                 ·show Act.put _ (some 15) _ = _
                  simp only [Act.put, List.setIfInBounds_toArray, List.set_cons_zero, List.set_cons_succ, i64_w, i32_w]
                  rfl
                 refine one_ (i := 2) (N := some 71) #[true, true, true, true, true, false, true, true, false, false, true, false] rfl rfl (one_of HT_.out (by kernel_rfl)) (by decide) (fun K hK => ?_)
                 refine Kd.N_lit_step k44 _ 44 ?hg (N' := 71) ?hd (xs := ([] : List (S44))) (inner := []) (ok := (fun k_ => some k_ ≠ (.slice Ao18 t231.length co18 : Value).ownBlock ∧ some k_ ≠ (.slice Ao23 t239.length co23 : Value).ownBlock ∧ some k_ ≠ (.slice Ao29 t247.length co29 : Value).ownBlock ∧ k_ ≠ gb236 ∧ k_ ≠ gb244 ∧ k_ ≠ gb252 ∧ k_ ≠ gb262)) (okp := (fun k_ => some k_ ≠ (.slice Ao18 t231.length co18 : Value).ownBlock ∧ some k_ ≠ (.slice Ao23 t239.length co23 : Value).ownBlock ∧ some k_ ≠ (.slice Ao29 t247.length co29 : Value).ownBlock ∧ k_ ≠ gb236 ∧ k_ ≠ gb244 ∧ k_ ≠ gb252 ∧ k_ ≠ gb262)) ?hr ?hp (fun _ hk => hk) ((show ∀ k_, w55.heap.size ≤ k_ → (fun k_ => some k_ ≠ (.slice Ao18 t231.length co18 : Value).ownBlock ∧ some k_ ≠ (.slice Ao23 t239.length co23 : Value).ownBlock ∧ some k_ ≠ (.slice Ao29 t247.length co29 : Value).ownBlock ∧ k_ ≠ gb236 ∧ k_ ≠ gb244 ∧ k_ ≠ gb252 ∧ k_ ≠ gb262) k_ from fun k_ hk => ⟨Kd.fresh' (Kd.N_lt (by (with_reducible repeat (first | apply Kd.N_alloc | apply Kd.N_drewN | apply Kd.N_drew)); exact HO_237002.out)) k_ hk, Kd.fresh' (Kd.N_lt (by (with_reducible repeat (first | apply Kd.N_alloc | apply Kd.N_drewN | apply Kd.N_drew)); exact HO_245002.out)) k_ hk, Kd.fresh' (Kd.N_lt (by (with_reducible repeat (first | apply Kd.N_alloc | apply Kd.N_drewN | apply Kd.N_drew)); exact HO_253002.out)) k_ hk, Kd.freshB (g := gb236) (o := .cells #[.int .i64 t229, .int .i64 t230, .slice Ao18 t231.length co18] 27 (0, 0)) (by (with_reducible repeat (first | refine blk_drewN ?_ _ | refine blk_drew ?_ | refine blk_alloc ?_ _)); exact BK236.out) k_ hk, Kd.freshB (g := gb244) (o := .cells #[.int .i64 t237, .int .i64 t238, .slice Ao23 t239.length co23] 27 (0, 0)) (by (with_reducible repeat (first | refine blk_drewN ?_ _ | refine blk_drew ?_ | refine blk_alloc ?_ _)); exact BK244.out) k_ hk, Kd.freshB (g := gb252) (o := .cells #[.int .i64 t245, .int .i64 t246, .slice Ao29 t247.length co29] 27 (0, 0)) (by (with_reducible repeat (first | refine blk_drewN ?_ _ | refine blk_drew ?_ | refine blk_alloc ?_ _)); exact BK252.out) k_ hk, Kd.freshB (g := gb262) (o := .cells #[.int .i64 0, .int .i64 0, .slice none 0 0] 27 (0, 0)) (by (with_reducible repeat (first | refine blk_drewN ?_ _ | refine blk_drew ?_ | refine blk_alloc ?_ _)); exact BK262.out) k_ hk⟩) _ (Nat.le_refl _)) (Below.refl _ _) (Nat.le_refl _) (by simp) ?_; (case hd => rfl); (case hg => rfl); (case hr => first | (go_simp; done) | (go_simp; rfl)); (case hp => exact (Reps.none _ _))
                 intro v254 w56 ho57 hb hg_ hnew_
                 clear hg_ hnew_
                 (first | rw [← Ny253.out] at ho57 | (simp only [Int.reduceToNat] at ho57; rw [← Ny253.out] at ho57))
                 have n0_ := Aside0.mk (Kd.N_elder' (by (with_reducible repeat (first | apply Kd.N_alloc | apply Kd.N_drewN | apply Kd.N_drew)); exact HO_237002.out) (Kd.N_base ho57) hb)
                 have n1_ := Aside0.mk (Kd.N_elder' (by (with_reducible repeat (first | apply Kd.N_alloc | apply Kd.N_drewN | apply Kd.N_drew)); exact HO_245002.out) (Kd.N_base ho57) hb)
                 have n2_ := Aside0.mk (Kd.N_elder' (by (with_reducible repeat (first | apply Kd.N_alloc | apply Kd.N_drewN | apply Kd.N_drew)); exact HO_253002.out) (Kd.N_base ho57) hb)
                 have n3_ := Aside0.mk (Kd.N_lower ho57 (below_size (by repeat (first | (with_reducible first | exact HB.out | apply below_alloc | apply pw_below_drewN | apply below_drew1 | refine below_set ?_ GE236.out | refine below_set ?_ GE244.out | refine below_set ?_ GE252.out | refine below_set ?_ GE262.out) | exact HB.out))))
                 have n4_ := Aside0.mk (blk_below (g := gb236) (o := .cells #[.int .i64 t229, .int .i64 t230, .slice Ao18 t231.length co18] 27 (0, 0)) (by (with_reducible repeat (first | refine blk_drewN ?_ _ | refine blk_drew ?_ | refine blk_alloc ?_ _)); exact BK236.out) hb)
                 have n5_ := Aside0.mk (blk_below (g := gb244) (o := .cells #[.int .i64 t237, .int .i64 t238, .slice Ao23 t239.length co23] 27 (0, 0)) (by (with_reducible repeat (first | refine blk_drewN ?_ _ | refine blk_drew ?_ | refine blk_alloc ?_ _)); exact BK244.out) hb)
                 have n6_ := Aside0.mk (blk_below (g := gb252) (o := .cells #[.int .i64 t245, .int .i64 t246, .slice Ao29 t247.length co29] 27 (0, 0)) (by (with_reducible repeat (first | refine blk_drewN ?_ _ | refine blk_drew ?_ | refine blk_alloc ?_ _)); exact BK252.out) hb)
                 have n7_ := Aside0.mk (blk_below (g := gb262) (o := .cells #[.int .i64 0, .int .i64 0, .slice none 0 0] 27 (0, 0)) (by (with_reducible repeat (first | refine blk_drewN ?_ _ | refine blk_drew ?_ | refine blk_alloc ?_ _)); exact BK262.out) hb)
                 have n8_ := Aside0.mk (below_step (by repeat (first | (with_reducible first | exact HB.out | apply below_alloc | apply pw_below_drewN | apply below_drew1 | refine below_set ?_ GE236.out | refine below_set ?_ GE244.out | refine below_set ?_ GE252.out | refine below_set ?_ GE262.out) | exact HB.out)) hb)
                 clear HO_237002
                 clear HO_245002
                 clear HO_253002
                 clear BK236
                 clear BK244
                 clear BK252
                 clear BK262
                 clear HB
                 have HO_237002 := n0_
                 have HO_245002 := n1_
                 have HO_253002 := n2_
                 have HO255 := n3_
                 have BK236 := n4_
                 have BK244 := n5_
                 have BK252 := n6_
                 have BK262 := n7_
                 have HB := n8_
                 clear n0_ n1_ n2_ n3_ n4_ n5_ n6_ n7_ n8_
                 clear hb ho57
                 refine hK.out _ _ ⟨(blk_cell BK236.out 0).trans rfl, (blk_cell BK236.out 1).trans rfl, (blk_cell BK236.out 2).trans rfl, (blk_cell BK244.out 0).trans rfl, (blk_cell BK244.out 1).trans rfl, (blk_cell BK244.out 2).trans rfl⟩ (fun hHeld => ?_)
                 clear hK K
                 refine norm_ (a' := ?_) ?_ ?_
                 rotate_left
                 ·show Act.put _ (some 71) _ = _
                  simp only [Act.put, List.setIfInBounds_toArray, List.set_cons_zero, List.set_cons_succ, i64_w, i32_w]
                  rfl
                 refine one_ (i := 5) (N := some 74) #[true, true, true, true, true, true, true, true, false, false, true, false] rfl rfl (one_of HT_.out (by kernel_rfl)) (by decide) (fun K hK => ?_)
                 refine Kd.N_append_rows_step k44 (w0 := w) w.heap.size (by rfl) (.tmp 71) (.tmp 73) 25 44 (.agg #[(.int .i64 0), (.int .i64 0), (.slice none 0 0), (.slice none 0 0)]) 64 rfl Try.underlying25 info44 rfl (by decide) (by omega) v254 y253 t231 _ _ _ (fun k_ => some k_ ≠ (.slice Ao23 t239.length co23 : Value).ownBlock ∧ some k_ ≠ (.slice Ao29 t247.length co29 : Value).ownBlock ∧ k_ ≠ gb236 ∧ k_ ≠ gb244 ∧ k_ ≠ gb252 ∧ k_ ≠ gb262) (fun k_ => ((fun k_ => some k_ ≠ (.slice Ao23 t239.length co23 : Value).ownBlock ∧ some k_ ≠ (.slice Ao29 t247.length co29 : Value).ownBlock ∧ k_ ≠ gb236 ∧ k_ ≠ gb244 ∧ k_ ≠ gb252 ∧ k_ ≠ gb262)) k_ ∧ some k_ ≠ (v254 : Value).ownBlock) rfl rfl ?aO ?aR (fun _ hk => hk) ?aF ?aB ?aS ?aL ?_
                 (case aR => exact (by skip; exact Kd.N_F (Kd.N_mono (ok' := (fun k_ => ((fun k_ => some k_ ≠ (.slice Ao23 t239.length co23 : Value).ownBlock ∧ some k_ ≠ (.slice Ao29 t247.length co29 : Value).ownBlock ∧ k_ ≠ gb236 ∧ k_ ≠ gb244 ∧ k_ ≠ gb252 ∧ k_ ≠ gb262)) k_ ∧ some k_ ≠ (v254 : Value).ownBlock)) (HO_237002.out) (fun k_ hk => ⟨⟨hk.1.1.1, ⟨hk.1.1.2.1, ⟨hk.1.1.2.2.1, ⟨hk.1.1.2.2.2.1, ⟨hk.1.1.2.2.2.2, hk.1.2⟩⟩⟩⟩⟩, hk.2⟩))))
                 (case aB => exact (by repeat (first | (with_reducible first | exact HB.out | apply below_alloc | apply pw_below_drewN | apply below_drew1 | refine below_set ?_ GE236.out | refine below_set ?_ GE244.out | refine below_set ?_ GE252.out | refine below_set ?_ GE262.out) | exact HB.out)))
                 (case aF => exact (fun k_ hk => ⟨Kd.fresh' (Kd.N_lt (by (with_reducible repeat (first | apply Kd.N_alloc | apply Kd.N_drewN | apply Kd.N_drew)); exact HO_245002.out)) k_ hk, Kd.fresh' (Kd.N_lt (by (with_reducible repeat (first | apply Kd.N_alloc | apply Kd.N_drewN | apply Kd.N_drew)); exact HO_253002.out)) k_ hk, Kd.freshB (g := gb236) (o := .cells #[.int .i64 t229, .int .i64 t230, .slice Ao18 t231.length co18] 27 (0, 0)) (by (with_reducible repeat (first | refine blk_drewN ?_ _ | refine blk_drew ?_ | refine blk_alloc ?_ _)); exact BK236.out) k_ hk, Kd.freshB (g := gb244) (o := .cells #[.int .i64 t237, .int .i64 t238, .slice Ao23 t239.length co23] 27 (0, 0)) (by (with_reducible repeat (first | refine blk_drewN ?_ _ | refine blk_drew ?_ | refine blk_alloc ?_ _)); exact BK244.out) k_ hk, Kd.freshB (g := gb252) (o := .cells #[.int .i64 t245, .int .i64 t246, .slice Ao29 t247.length co29] 27 (0, 0)) (by (with_reducible repeat (first | refine blk_drewN ?_ _ | refine blk_drew ?_ | refine blk_alloc ?_ _)); exact BK252.out) k_ hk, Kd.freshB (g := gb262) (o := .cells #[.int .i64 0, .int .i64 0, .slice none 0 0] 27 (0, 0)) (by (with_reducible repeat (first | refine blk_drewN ?_ _ | refine blk_drew ?_ | refine blk_alloc ?_ _)); exact BK262.out) k_ hk⟩))
                 (case aO => exact (by (with_reducible repeat (first | apply Kd.N_alloc | apply Kd.N_drewN | apply Kd.N_drew)); exact Kd.N_mono HO255.out (fun _ hk => ⟨hk.2.1, ⟨hk.2.2.1, ⟨hk.2.2.2.1, ⟨hk.2.2.2.2.1, ⟨hk.2.2.2.2.2.1, hk.2.2.2.2.2.2⟩⟩⟩⟩⟩)))
                 (case aS => exact (below_size (by repeat (first | (with_reducible first | exact HB.out | apply below_alloc | apply pw_below_drewN | apply below_drew1 | refine below_set ?_ GE236.out | refine below_set ?_ GE244.out | refine below_set ?_ GE252.out | refine below_set ?_ GE262.out) | exact HB.out))))
                 (case aL => have := LMc44.out; omega)
                 intro v257 w58 ho hb hg hat
                 rw [← Ny256.out] at ho
                 have n0_ := Aside0.mk (Kd.N_afterv (ok := (fun k_ => some k_ ≠ (.slice Ao23 t239.length co23 : Value).ownBlock ∧ some k_ ≠ (.slice Ao29 t247.length co29 : Value).ownBlock ∧ k_ ≠ gb236 ∧ k_ ≠ gb244 ∧ k_ ≠ gb252 ∧ k_ ≠ gb262)) (by (with_reducible repeat (first | apply Kd.N_alloc | apply Kd.N_drewN | apply Kd.N_drew)); exact Kd.N_mono HO_237002.out (fun _ hk => ⟨⟨hk.1.1.1, ⟨hk.1.1.2.1, ⟨hk.1.1.2.2.1, ⟨hk.1.1.2.2.2.1, ⟨hk.1.1.2.2.2.2, hk.1.2⟩⟩⟩⟩⟩, hk.2⟩)) hg hat)
                 have n1_ := Aside0.mk (Kd.N_afterv (ok := (fun k_ => some k_ ≠ (.slice Ao18 t231.length co18 : Value).ownBlock ∧ some k_ ≠ (.slice Ao29 t247.length co29 : Value).ownBlock ∧ k_ ≠ gb236 ∧ k_ ≠ gb244 ∧ k_ ≠ gb252 ∧ k_ ≠ gb262)) (by (with_reducible repeat (first | apply Kd.N_alloc | apply Kd.N_drewN | apply Kd.N_drew)); exact Kd.N_mono HO_245002.out (fun _ hk => ⟨⟨hk.1.1.1, ⟨hk.1.1.2.1, ⟨hk.1.1.2.2.1, ⟨hk.1.1.2.2.2.1, ⟨hk.1.1.2.2.2.2, hk.1.2⟩⟩⟩⟩⟩, hk.2⟩)) hg hat)
                 have n2_ := Aside0.mk (Kd.N_afterv (ok := (fun k_ => some k_ ≠ (.slice Ao18 t231.length co18 : Value).ownBlock ∧ some k_ ≠ (.slice Ao23 t239.length co23 : Value).ownBlock ∧ k_ ≠ gb236 ∧ k_ ≠ gb244 ∧ k_ ≠ gb252 ∧ k_ ≠ gb262)) (by (with_reducible repeat (first | apply Kd.N_alloc | apply Kd.N_drewN | apply Kd.N_drew)); exact Kd.N_mono HO_253002.out (fun _ hk => ⟨⟨hk.1.1.1, ⟨hk.1.1.2.1, ⟨hk.1.1.2.2.1, ⟨hk.1.1.2.2.2.1, ⟨hk.1.1.2.2.2.2, hk.1.2⟩⟩⟩⟩⟩, hk.2⟩)) hg hat)
                 have n3_ := Aside0.mk (blk_grown (g := gb236) (o := .cells #[.int .i64 t229, .int .i64 t230, .slice Ao18 t231.length co18] 27 (0, 0)) (by (with_reducible repeat (first | refine blk_drewN ?_ _ | refine blk_drew ?_ | refine blk_alloc ?_ _)); exact BK236.out) hg (Kd.N_ne HO255.out BK236.out (by decide)))
                 have n4_ := Aside0.mk (blk_grown (g := gb244) (o := .cells #[.int .i64 t237, .int .i64 t238, .slice Ao23 t239.length co23] 27 (0, 0)) (by (with_reducible repeat (first | refine blk_drewN ?_ _ | refine blk_drew ?_ | refine blk_alloc ?_ _)); exact BK244.out) hg (Kd.N_ne HO255.out BK244.out (by decide)))
                 have n5_ := Aside0.mk (blk_grown (g := gb252) (o := .cells #[.int .i64 t245, .int .i64 t246, .slice Ao29 t247.length co29] 27 (0, 0)) (by (with_reducible repeat (first | refine blk_drewN ?_ _ | refine blk_drew ?_ | refine blk_alloc ?_ _)); exact BK252.out) hg (Kd.N_ne HO255.out BK252.out (by decide)))
                 have n6_ := Aside0.mk (blk_grown (g := gb262) (o := .cells #[.int .i64 0, .int .i64 0, .slice none 0 0] 27 (0, 0)) (by (with_reducible repeat (first | refine blk_drewN ?_ _ | refine blk_drew ?_ | refine blk_alloc ?_ _)); exact BK262.out) hg (Kd.N_ne HO255.out BK262.out (by decide)))
                 have n7_ := Aside0.mk (hb)
                 have n8_ := Aside0.mk (ho)
                 clear HO_237002
                 clear HO_245002
                 clear HO_253002
                 clear BK236
                 clear BK244
                 clear BK252
                 clear BK262
                 clear HB
                 clear HO255
                 have HO_237002 := n0_
                 have HO_245002 := n1_
                 have HO_253002 := n2_
                 have BK236 := n3_
                 have BK244 := n4_
                 have BK252 := n5_
                 have BK262 := n6_
                 have HB := n7_
                 have HO258 := n8_
                 clear n0_ n1_ n2_ n3_ n4_ n5_ n6_ n7_ n8_
                 clear ho hb hg hat
                 refine hK.out _ _ ⟨(blk_cell BK236.out 0).trans rfl, (blk_cell BK236.out 1).trans rfl, (blk_cell BK236.out 2).trans rfl, (blk_cell BK244.out 0).trans rfl, (blk_cell BK244.out 1).trans rfl, (blk_cell BK244.out 2).trans rfl⟩ (fun hHeld => ?_)
                 clear hK K
                 refine norm_ (a' := ?_) ?_ ?_
                 rotate_left
                 ·show Act.put _ (some 74) _ = _
                  simp only [Act.put, List.setIfInBounds_toArray, List.set_cons_zero, List.set_cons_succ, i64_w, i32_w]
                  rfl
                 refine one_ (i := 8) (N := some 77) #[true, true, true, true, true, true, true, true, true, false, true, false] rfl rfl (one_of HT_.out (by kernel_rfl)) (by decide) (fun K hK => ?_)
                 refine Kd.N_append_rows_step k44 (w0 := w) w.heap.size (by rfl) (.tmp 74) (.tmp 76) 25 44 (.agg #[(.int .i64 0), (.int .i64 0), (.slice none 0 0), (.slice none 0 0)]) 64 rfl Try.underlying25 info44 rfl (by decide) (by omega) v257 y256 t239 _ _ _ (fun k_ => some k_ ≠ (.slice Ao29 t247.length co29 : Value).ownBlock ∧ k_ ≠ gb236 ∧ k_ ≠ gb244 ∧ k_ ≠ gb252 ∧ k_ ≠ gb262) (fun k_ => ((fun k_ => some k_ ≠ (.slice Ao29 t247.length co29 : Value).ownBlock ∧ k_ ≠ gb236 ∧ k_ ≠ gb244 ∧ k_ ≠ gb252 ∧ k_ ≠ gb262)) k_ ∧ some k_ ≠ (v257 : Value).ownBlock) rfl rfl ?aO ?aR (fun _ hk => hk) ?aF ?aB ?aS ?aL ?_
                 (case aR => exact (by skip; exact Kd.N_F (Kd.N_mono (ok' := (fun k_ => ((fun k_ => some k_ ≠ (.slice Ao29 t247.length co29 : Value).ownBlock ∧ k_ ≠ gb236 ∧ k_ ≠ gb244 ∧ k_ ≠ gb252 ∧ k_ ≠ gb262)) k_ ∧ some k_ ≠ (v257 : Value).ownBlock)) (HO_245002.out) (fun k_ hk => ⟨⟨hk.1.2.1, ⟨hk.1.2.2.1, ⟨hk.1.2.2.2.1, ⟨hk.1.2.2.2.2.1, hk.1.2.2.2.2.2⟩⟩⟩⟩, hk.2⟩))))
                 (case aB => exact (by repeat (first | (with_reducible first | exact HB.out | apply below_alloc | apply pw_below_drewN | apply below_drew1 | refine below_set ?_ GE236.out | refine below_set ?_ GE244.out | refine below_set ?_ GE252.out | refine below_set ?_ GE262.out) | exact HB.out)))
                 (case aF => exact (fun k_ hk => ⟨Kd.fresh' (Kd.N_lt (by (with_reducible repeat (first | apply Kd.N_alloc | apply Kd.N_drewN | apply Kd.N_drew)); exact HO_253002.out)) k_ hk, Kd.freshB (g := gb236) (o := .cells #[.int .i64 t229, .int .i64 t230, .slice Ao18 t231.length co18] 27 (0, 0)) (by (with_reducible repeat (first | refine blk_drewN ?_ _ | refine blk_drew ?_ | refine blk_alloc ?_ _)); exact BK236.out) k_ hk, Kd.freshB (g := gb244) (o := .cells #[.int .i64 t237, .int .i64 t238, .slice Ao23 t239.length co23] 27 (0, 0)) (by (with_reducible repeat (first | refine blk_drewN ?_ _ | refine blk_drew ?_ | refine blk_alloc ?_ _)); exact BK244.out) k_ hk, Kd.freshB (g := gb252) (o := .cells #[.int .i64 t245, .int .i64 t246, .slice Ao29 t247.length co29] 27 (0, 0)) (by (with_reducible repeat (first | refine blk_drewN ?_ _ | refine blk_drew ?_ | refine blk_alloc ?_ _)); exact BK252.out) k_ hk, Kd.freshB (g := gb262) (o := .cells #[.int .i64 0, .int .i64 0, .slice none 0 0] 27 (0, 0)) (by (with_reducible repeat (first | refine blk_drewN ?_ _ | refine blk_drew ?_ | refine blk_alloc ?_ _)); exact BK262.out) k_ hk⟩))
                 (case aO => exact (by (with_reducible repeat (first | apply Kd.N_alloc | apply Kd.N_drewN | apply Kd.N_drew)); exact Kd.N_mono HO258.out (fun _ hk => ⟨hk.2.1, ⟨hk.2.2.1, ⟨hk.2.2.2.1, ⟨hk.2.2.2.2.1, hk.2.2.2.2.2⟩⟩⟩⟩)))
                 (case aS => exact (below_size (by repeat (first | (with_reducible first | exact HB.out | apply below_alloc | apply pw_below_drewN | apply below_drew1 | refine below_set ?_ GE236.out | refine below_set ?_ GE244.out | refine below_set ?_ GE252.out | refine below_set ?_ GE262.out) | exact HB.out))))
                 (case aL => have := LMc45.out; omega)
                 intro v260 w59 ho hb hg hat
                 rw [← Ny259.out] at ho
                 have n0_ := Aside0.mk (Kd.N_afterv (ok := (fun k_ => some k_ ≠ (.slice Ao23 t239.length co23 : Value).ownBlock ∧ some k_ ≠ (.slice Ao29 t247.length co29 : Value).ownBlock ∧ k_ ≠ gb236 ∧ k_ ≠ gb244 ∧ k_ ≠ gb252 ∧ k_ ≠ gb262)) (by (with_reducible repeat (first | apply Kd.N_alloc | apply Kd.N_drewN | apply Kd.N_drew)); exact HO_237002.out) hg hat)
                 have n1_ := Aside0.mk (Kd.N_afterv (ok := (fun k_ => some k_ ≠ (.slice Ao18 t231.length co18 : Value).ownBlock ∧ some k_ ≠ (.slice Ao29 t247.length co29 : Value).ownBlock ∧ k_ ≠ gb236 ∧ k_ ≠ gb244 ∧ k_ ≠ gb252 ∧ k_ ≠ gb262)) (by (with_reducible repeat (first | apply Kd.N_alloc | apply Kd.N_drewN | apply Kd.N_drew)); exact HO_245002.out) hg hat)
                 have n2_ := Aside0.mk (Kd.N_afterv (ok := (fun k_ => some k_ ≠ (.slice Ao18 t231.length co18 : Value).ownBlock ∧ some k_ ≠ (.slice Ao23 t239.length co23 : Value).ownBlock ∧ k_ ≠ gb236 ∧ k_ ≠ gb244 ∧ k_ ≠ gb252 ∧ k_ ≠ gb262)) (by (with_reducible repeat (first | apply Kd.N_alloc | apply Kd.N_drewN | apply Kd.N_drew)); exact HO_253002.out) hg hat)
                 have n3_ := Aside0.mk (blk_grown (g := gb236) (o := .cells #[.int .i64 t229, .int .i64 t230, .slice Ao18 t231.length co18] 27 (0, 0)) (by (with_reducible repeat (first | refine blk_drewN ?_ _ | refine blk_drew ?_ | refine blk_alloc ?_ _)); exact BK236.out) hg (Kd.N_ne HO258.out BK236.out (by decide)))
                 have n4_ := Aside0.mk (blk_grown (g := gb244) (o := .cells #[.int .i64 t237, .int .i64 t238, .slice Ao23 t239.length co23] 27 (0, 0)) (by (with_reducible repeat (first | refine blk_drewN ?_ _ | refine blk_drew ?_ | refine blk_alloc ?_ _)); exact BK244.out) hg (Kd.N_ne HO258.out BK244.out (by decide)))
                 have n5_ := Aside0.mk (blk_grown (g := gb252) (o := .cells #[.int .i64 t245, .int .i64 t246, .slice Ao29 t247.length co29] 27 (0, 0)) (by (with_reducible repeat (first | refine blk_drewN ?_ _ | refine blk_drew ?_ | refine blk_alloc ?_ _)); exact BK252.out) hg (Kd.N_ne HO258.out BK252.out (by decide)))
                 have n6_ := Aside0.mk (blk_grown (g := gb262) (o := .cells #[.int .i64 0, .int .i64 0, .slice none 0 0] 27 (0, 0)) (by (with_reducible repeat (first | refine blk_drewN ?_ _ | refine blk_drew ?_ | refine blk_alloc ?_ _)); exact BK262.out) hg (Kd.N_ne HO258.out BK262.out (by decide)))
                 have n7_ := Aside0.mk (hb)
                 have n8_ := Aside0.mk (ho)
                 clear HO_237002
                 clear HO_245002
                 clear HO_253002
                 clear BK236
                 clear BK244
                 clear BK252
                 clear BK262
                 clear HB
                 clear HO258
                 have HO_237002 := n0_
                 have HO_245002 := n1_
                 have HO_253002 := n2_
                 have BK236 := n3_
                 have BK244 := n4_
                 have BK252 := n5_
                 have BK262 := n6_
                 have HB := n7_
                 have HO261 := n8_
                 clear n0_ n1_ n2_ n3_ n4_ n5_ n6_ n7_ n8_
                 clear ho hb hg hat
                 obtain ⟨Ao60, co60, eo60⟩ := Kd.N_slice HO261.out
                 (first | subst eo60 | (injection eo60 with f1_ f2_ f3_; have f4_ := f1_.symm; have f5_ := f3_.symm; clear f1_ f2_ f3_; subst f4_; subst f5_))
                 refine hK.out _ _ ⟨(blk_cell BK236.out 0).trans rfl, (blk_cell BK236.out 1).trans rfl, (blk_cell BK236.out 2).trans rfl, (blk_cell BK244.out 0).trans rfl, (blk_cell BK244.out 1).trans rfl, (blk_cell BK244.out 2).trans rfl⟩ (fun hHeld => ?_)
                 clear hK K
                 refine norm_ (a' := ?_) ?_ ?_
                 rotate_left
                 ·show Act.put _ (some 77) _ = _
                  simp only [Act.put, List.setIfInBounds_toArray, List.set_cons_zero, List.set_cons_succ, i64_w, i32_w]
                  rfl
                 refine pure_ (i := 9) (N := some 78) (v := ?_) (a' := ?_) #[true, true, true, true, true, true, true, true, true, true, true, false] rfl rfl (any_of HT_.out (by kernel_rfl)) (fun _ _ _ h => h) (Or.inl ⟨by rfl, ?_⟩) ?_ ?_
                 rotate_left
                 ·intro w'
                  go_simp
                  with_reducible rfl
                 rotate_left
                 ·simp only [Act.put, List.setIfInBounds_toArray, List.set_cons_zero, List.set_cons_succ, i64_w, i32_w]
                  rfl
                 exact norm_ (by simp only [putAll, Act.put, List.setIfInBounds_toArray, List.set_cons_zero, List.set_cons_succ] <;> (try simp only [IntKind.wrap_u32])) (hCont (v254, v257, .slice Ao60 y259.length co60, gb262) _ ⟨hHeld, (by (with_reducible repeat (first | apply Kd.N_alloc | apply Kd.N_drewN | apply Kd.N_drew)); exact HO261.out), (by (with_reducible repeat (first | apply Kd.N_alloc | apply Kd.N_drewN | apply Kd.N_drew)); exact Kd.N_mono HO_237002.out (fun _ hk => ⟨hk.2, ⟨hk.1.1, ⟨hk.1.2.1, ⟨hk.1.2.2.1, ⟨hk.1.2.2.2.1, ⟨hk.1.2.2.2.2.1, hk.1.2.2.2.2.2⟩⟩⟩⟩⟩⟩)), (by (with_reducible repeat (first | apply Kd.N_alloc | apply Kd.N_drewN | apply Kd.N_drew)); exact Kd.N_mono HO_245002.out (fun _ hk => ⟨hk.2, ⟨hk.1.1, ⟨hk.1.2.1, ⟨hk.1.2.2.1, ⟨hk.1.2.2.2.1, ⟨hk.1.2.2.2.2.1, hk.1.2.2.2.2.2⟩⟩⟩⟩⟩⟩)), (by (with_reducible repeat (first | apply Kd.N_alloc | apply Kd.N_drewN | apply Kd.N_drew)); exact Kd.N_mono HO_253002.out (fun _ hk => ⟨hk.2, ⟨hk.1.1, ⟨hk.1.2.1, ⟨hk.1.2.2.1, ⟨hk.1.2.2.2.1, ⟨hk.1.2.2.2.2.1, hk.1.2.2.2.2.2⟩⟩⟩⟩⟩⟩)), (by (with_reducible repeat (first | refine blk_drewN ?_ _ | refine blk_drew ?_ | refine blk_alloc ?_ _)); exact BK236.out), (by (with_reducible repeat (first | refine blk_drewN ?_ _ | refine blk_drew ?_ | refine blk_alloc ?_ _)); exact BK244.out), (by (with_reducible repeat (first | refine blk_drewN ?_ _ | refine blk_drew ?_ | refine blk_alloc ?_ _)); exact BK252.out), (by (with_reducible repeat (first | refine blk_drewN ?_ _ | refine blk_drew ?_ | refine blk_alloc ?_ _)); exact BK262.out), GW262.out, GE262.out, NB236_262.out, NB262_236.out, NB244_262.out, NB262_244.out, NB252_262.out, NB262_252.out, (by repeat (first | (with_reducible first | exact HB.out | apply below_alloc | apply pw_below_drewN | apply below_drew1 | refine below_set ?_ GE236.out | refine below_set ?_ GE244.out | refine below_set ?_ GE252.out | refine below_set ?_ GE262.out) | exact HB.out))⟩)
               rintro ⟨v254, v257, v260, gb262⟩ w61 ⟨hS_, h0_, h1_, h2_, h3_, h4_, h5_, h6_, h7_, h8_, h9_, h10_, h11_, h12_, h13_, h14_, h15_, h16_⟩
               have n0_ : Aside0 (Kd.N k44 44 w61 w.heap.size (fun k_ => some k_ ≠ (.slice Ao29 t247.length co29 : Value).ownBlock ∧ k_ ≠ gb236 ∧ k_ ≠ gb244 ∧ k_ ≠ gb252 ∧ k_ ≠ gb262) v260 y259) := ⟨h0_⟩
               have n1_ : Aside0 (Kd.N k44 44 w61 w.heap.size (fun k_ => some k_ ≠ (v260 : Value).ownBlock ∧ some k_ ≠ (.slice Ao23 t239.length co23 : Value).ownBlock ∧ some k_ ≠ (.slice Ao29 t247.length co29 : Value).ownBlock ∧ k_ ≠ gb236 ∧ k_ ≠ gb244 ∧ k_ ≠ gb252 ∧ k_ ≠ gb262) (.slice Ao18 t231.length co18) t231) := ⟨h1_⟩
               have n2_ : Aside0 (Kd.N k44 44 w61 w.heap.size (fun k_ => some k_ ≠ (v260 : Value).ownBlock ∧ some k_ ≠ (.slice Ao18 t231.length co18 : Value).ownBlock ∧ some k_ ≠ (.slice Ao29 t247.length co29 : Value).ownBlock ∧ k_ ≠ gb236 ∧ k_ ≠ gb244 ∧ k_ ≠ gb252 ∧ k_ ≠ gb262) (.slice Ao23 t239.length co23) t239) := ⟨h2_⟩
               have n3_ : Aside0 (Kd.N k44 44 w61 w.heap.size (fun k_ => some k_ ≠ (v260 : Value).ownBlock ∧ some k_ ≠ (.slice Ao18 t231.length co18 : Value).ownBlock ∧ some k_ ≠ (.slice Ao23 t239.length co23 : Value).ownBlock ∧ k_ ≠ gb236 ∧ k_ ≠ gb244 ∧ k_ ≠ gb252 ∧ k_ ≠ gb262) (.slice Ao29 t247.length co29) t247) := ⟨h3_⟩
               have n4_ : Aside0 (w61.heap[gb236]? = some (.cells #[.int .i64 t229, .int .i64 t230, .slice Ao18 t231.length co18] 27 (0, 0))) := ⟨h4_⟩
               have n5_ : Aside0 (w61.heap[gb244]? = some (.cells #[.int .i64 t237, .int .i64 t238, .slice Ao23 t239.length co23] 27 (0, 0))) := ⟨h5_⟩
               have n6_ : Aside0 (w61.heap[gb252]? = some (.cells #[.int .i64 t245, .int .i64 t246, .slice Ao29 t247.length co29] 27 (0, 0))) := ⟨h6_⟩
               have n7_ : Aside0 (w61.heap[gb262]? = some (.cells #[.int .i64 0, .int .i64 0, .slice none 0 0] 27 (0, 0))) := ⟨h7_⟩
               have n8_ : Aside0 (w.heap.size ≤ gb262) := ⟨h8_⟩
               have n9_ : Aside0 (w.heap.size ≤ gb262) := ⟨h9_⟩
               have n10_ : Aside0 (gb236 ≠ gb262) := ⟨h10_⟩
               have n11_ : Aside0 (gb262 ≠ gb236) := ⟨h11_⟩
               have n12_ : Aside0 (gb244 ≠ gb262) := ⟨h12_⟩
               have n13_ : Aside0 (gb262 ≠ gb244) := ⟨h13_⟩
               have n14_ : Aside0 (gb252 ≠ gb262) := ⟨h14_⟩
               have n15_ : Aside0 (gb262 ≠ gb252) := ⟨h15_⟩
               have n16_ : Aside0 (Below w.heap.size w w61) := ⟨h16_⟩
               clear HO_237002
               clear HO_245002
               clear HO_253002
               clear BK236
               clear BK244
               clear BK252
               clear HB
               clear h0_ h1_ h2_ h3_ h4_ h5_ h6_ h7_ h8_ h9_ h10_ h11_ h12_ h13_ h14_ h15_ h16_
               have HO261 := n0_
               have HO_237002 := n1_
               have HO_245002 := n2_
               have HO_253002 := n3_
               have BK236 := n4_
               have BK244 := n5_
               have BK252 := n6_
               have BK262 := n7_
               have GW262 := n8_
               have GE262 := n9_
               have NB236_262 := n10_
               have NB262_236 := n11_
               have NB244_262 := n12_
               have NB262_244 := n13_
               have NB252_262 := n14_
               have NB262_252 := n15_
               have HB := n16_
               clear n0_ n1_ n2_ n3_ n4_ n5_ n6_ n7_ n8_ n9_ n10_ n11_ n12_ n13_ n14_ n15_ n16_
               have hHeld : w61.cell? ⟨gb236, 0, none⟩ = some (.int .i64 t229) ∧ w61.cell? ⟨gb236, 1, none⟩ = some (.int .i64 t230) ∧ w61.cell? ⟨gb236, 2, none⟩ = some (.slice Ao18 t231.length co18) ∧ w61.cell? ⟨gb244, 0, none⟩ = some (.int .i64 t237) ∧ w61.cell? ⟨gb244, 1, none⟩ = some (.int .i64 t238) ∧ w61.cell? ⟨gb244, 2, none⟩ = some (.slice Ao23 t239.length co23) := hS_
               obtain ⟨Ao62, co62, eo62⟩ := Kd.N_slice HO261.out
               (first | subst eo62 | (injection eo62 with f1_ f2_ f3_; have f4_ := f1_.symm; have f5_ := f3_.symm; clear f1_ f2_ f3_; subst f4_; subst f5_))
               refine norm_ (a' := ?_) ?_ ?_
               rotate_left
               ·simp only [putAll, Act.put, List.setIfInBounds_toArray, List.set_cons_zero, List.set_cons_succ]
                rfl
               refine one_ (i := 11) (N := none) #[true, true, true, true, true, true, true, true, true, true, true, true] rfl rfl (one_of HT_.out (by kernel_rfl)) (by decide) (fun K hK => ?_)
               have hs63 : w61.cell? ⟨gb262, 0, none⟩ = some (.int .i64 0) := (blk_cell BK262.out 0).trans rfl
               have hfs63 := blk_frozen BK262.out 0
               have hns63_0 := NB236_262.out
               have hns63_1 := NB244_262.out
               have hns63_2 := NB252_262.out
               have hms63_0 := NB262_236.out
               have hms63_1 := NB262_244.out
               have hms63_2 := NB262_252.out
               have hs64 : w61.cell? ⟨gb262, 1, none⟩ = some (.int .i64 0) := (blk_cell BK262.out 1).trans rfl
               have hfs64 := blk_frozen BK262.out 1
               have hns64_0 := NB236_262.out
               have hns64_1 := NB244_262.out
               have hns64_2 := NB252_262.out
               have hms64_0 := NB262_236.out
               have hms64_1 := NB262_244.out
               have hms64_2 := NB262_252.out
               have hs65 : w61.cell? ⟨gb262, 2, none⟩ = some (.slice none 0 0) := (blk_cell BK262.out 2).trans rfl
               have hfs65 := blk_frozen BK262.out 2
               have hns65_0 := NB236_262.out
               have hns65_1 := NB244_262.out
               have hns65_2 := NB252_262.out
               have hms65_0 := NB262_236.out
               have hms65_1 := NB262_244.out
               have hms65_2 := NB262_252.out
               refine skip_ (w1 := ?_) (by rfl) rfl ?_ ?_
               rotate_left
               ·go_simp
                rfl
               refine hK.out _ _ ⟨((cell_far (p := ⟨gb262, _, none⟩) NB236_262.out _).trans (((cell_far (p := ⟨gb262, _, none⟩) NB236_262.out _).trans (((cell_far (p := ⟨gb262, _, none⟩) NB236_262.out _).trans (hHeld.1)))))), ((cell_far (p := ⟨gb262, _, none⟩) NB236_262.out _).trans (((cell_far (p := ⟨gb262, _, none⟩) NB236_262.out _).trans (((cell_far (p := ⟨gb262, _, none⟩) NB236_262.out _).trans (hHeld.2.1)))))), ((cell_far (p := ⟨gb262, _, none⟩) NB236_262.out _).trans (((cell_far (p := ⟨gb262, _, none⟩) NB236_262.out _).trans (((cell_far (p := ⟨gb262, _, none⟩) NB236_262.out _).trans (hHeld.2.2.1)))))), ((cell_far (p := ⟨gb262, _, none⟩) NB244_262.out _).trans (((cell_far (p := ⟨gb262, _, none⟩) NB244_262.out _).trans (((cell_far (p := ⟨gb262, _, none⟩) NB244_262.out _).trans (hHeld.2.2.2.1)))))), ((cell_far (p := ⟨gb262, _, none⟩) NB244_262.out _).trans (((cell_far (p := ⟨gb262, _, none⟩) NB244_262.out _).trans (((cell_far (p := ⟨gb262, _, none⟩) NB244_262.out _).trans (hHeld.2.2.2.2.1)))))), ((cell_far (p := ⟨gb262, _, none⟩) NB244_262.out _).trans (((cell_far (p := ⟨gb262, _, none⟩) NB244_262.out _).trans (((cell_far (p := ⟨gb262, _, none⟩) NB244_262.out _).trans (hHeld.2.2.2.2.2))))))⟩ (fun hHeld => ?_)
               clear hK K
               refine done_ (done_of HT_.out (by kernel_rfl)) ?_
               have hnb66 := NB252_262.out
               have hnc66 := NB262_252.out
               have hcz67_0 : w61.cell? ⟨gb252, 0, none⟩ = some (.int .i64 t245) := (blk_cell BK252.out 0).trans rfl
               have hcz67_1 : w61.cell? ⟨gb252, 1, none⟩ = some (.int .i64 t246) := (blk_cell BK252.out 1).trans rfl
               have hcz67_2 : w61.cell? ⟨gb252, 2, none⟩ = some (.slice Ao29 t247.length co29) := (blk_cell BK252.out 2).trans rfl
               have hfz67_0 := blk_frozen BK252.out
               have hnb68 := NB262_236.out
               have hnc68 := NB236_262.out
               have hnb69 := NB262_244.out
               have hnc69 := NB244_262.out
               have hcz70_0 : w61.cell? ⟨gb262, 0, none⟩ = some (.int .i64 0) := (blk_cell BK262.out 0).trans rfl
               have hcz70_1 : w61.cell? ⟨gb262, 1, none⟩ = some (.int .i64 0) := (blk_cell BK262.out 1).trans rfl
               have hcz70_2 : w61.cell? ⟨gb262, 2, none⟩ = some (.slice none 0 0) := (blk_cell BK262.out 2).trans rfl
               have hfz70_0 := blk_frozen BK262.out
               try go_wp2_with (first | ((with_reducible refine gate_callee (f := 12) rfl ?_); refine goesL_ (some 81) rfl rfl Try.func12 (by kernel_rfl) rfl #[.agg #[.int .i64 t245, .int .i64 t246, .slice Ao29 t247.length co29], .agg #[.int .i64 t229, .int .i64 t230, .slice Ao62 y259.length co62]] rfl (by (try simp only [List.map_toArray, List.map_cons, List.map_nil]); first | done | rfl | (simp only [List.length_drop, List.length_take]; rfl)) ?_; (with_reducible refine (fairleadref10_Same.calls kj13 t245 t246 _ _ t247 t229 t230 _ _ y259 t263 _ ?side1 ?side2 ?side3 ?side4 A46.out).mono ?_); (case side1 => refine (Kd.N_reads' (e := 44) (base := w.heap.size) (ok := fun k_ => (some k_ ≠ (.slice Ao62 y259.length co62 : Value).ownBlock ∧ (some k_ ≠ (.slice Ao18 t231.length co18 : Value).ownBlock ∧ (some k_ ≠ (.slice Ao23 t239.length co23 : Value).ownBlock ∧ (k_ ≠ gb236 ∧ (k_ ≠ gb244 ∧ (k_ ≠ gb252 ∧ k_ ≠ gb262))))))) (n := t247.length) (c := co29) ?_).2.2; exact (by (with_reducible repeat (first | apply Kd.N_alloc | apply Kd.N_drewN | apply Kd.N_drew)); exact (Kd.N_mono (Kd.N_far (p := ⟨gb262, 2, none⟩) (Kd.N_far (p := ⟨gb262, 1, none⟩) (Kd.N_far (p := ⟨gb262, 0, none⟩) (Kd.N_mono HO_253002.out (fun k_ hk => (⟨hk, hk.2.2.2.2.2.2⟩ : _ ∧ k_ ≠ gb262))) (fun _ hk => by first | exact hk.2 | exact hk | exact trivial) (.int .i64 t229)) (fun _ hk => by first | exact hk.2 | exact hk | exact trivial) (.int .i64 t230)) (fun _ hk => by first | exact hk.2 | exact hk | exact trivial) (.slice Ao62 y259.length co62)) (fun _ h_ => h_.1)))); (case side2 => exact (Kd.N_reads' HO_253002.out).2.1); (case side3 => refine (Kd.N_reads' (e := 44) (base := w.heap.size) (ok := fun k_ => (some k_ ≠ (.slice Ao29 t247.length co29 : Value).ownBlock ∧ (k_ ≠ gb236 ∧ (k_ ≠ gb244 ∧ (k_ ≠ gb252 ∧ k_ ≠ gb262))))) (n := y259.length) (c := co62) ?_).2.2; exact (by (with_reducible repeat (first | apply Kd.N_alloc | apply Kd.N_drewN | apply Kd.N_drew)); exact (Kd.N_mono (Kd.N_far (p := ⟨gb262, 2, none⟩) (Kd.N_far (p := ⟨gb262, 1, none⟩) (Kd.N_far (p := ⟨gb262, 0, none⟩) (Kd.N_mono HO261.out (fun k_ hk => (⟨hk, hk.2.2.2.2⟩ : _ ∧ k_ ≠ gb262))) (fun _ hk => by first | exact hk.2 | exact hk | exact trivial) (.int .i64 t229)) (fun _ hk => by first | exact hk.2 | exact hk | exact trivial) (.int .i64 t230)) (fun _ hk => by first | exact hk.2 | exact hk | exact trivial) (.slice Ao62 y259.length co62)) (fun _ h_ => h_.1)))); (case side4 => exact (Kd.N_reads' HO261.out).2.1); rintro e w71 ⟨rfl, hb⟩; refine ⟨_, rfl, ?_⟩; have n0_ := Aside0.mk (Kd.N_below (by (with_reducible repeat (first | apply Kd.N_alloc | apply Kd.N_drewN | apply Kd.N_drew)); exact (Kd.N_mono (Kd.N_far (p := ⟨gb262, 2, none⟩) (Kd.N_far (p := ⟨gb262, 1, none⟩) (Kd.N_far (p := ⟨gb262, 0, none⟩) (Kd.N_mono HO_237002.out (fun k_ hk => (⟨hk, hk.2.2.2.2.2.2⟩ : _ ∧ k_ ≠ gb262))) (fun _ hk => by first | exact hk.2 | exact hk | exact trivial) (.int .i64 t229)) (fun _ hk => by first | exact hk.2 | exact hk | exact trivial) (.int .i64 t230)) (fun _ hk => by first | exact hk.2 | exact hk | exact trivial) (.slice Ao62 y259.length co62)) (fun _ h_ => h_.1))) hb); have n1_ := Aside0.mk (Kd.N_below (by (with_reducible repeat (first | apply Kd.N_alloc | apply Kd.N_drewN | apply Kd.N_drew)); exact (Kd.N_mono (Kd.N_far (p := ⟨gb262, 2, none⟩) (Kd.N_far (p := ⟨gb262, 1, none⟩) (Kd.N_far (p := ⟨gb262, 0, none⟩) (Kd.N_mono HO_245002.out (fun k_ hk => (⟨hk, hk.2.2.2.2.2.2⟩ : _ ∧ k_ ≠ gb262))) (fun _ hk => by first | exact hk.2 | exact hk | exact trivial) (.int .i64 t229)) (fun _ hk => by first | exact hk.2 | exact hk | exact trivial) (.int .i64 t230)) (fun _ hk => by first | exact hk.2 | exact hk | exact trivial) (.slice Ao62 y259.length co62)) (fun _ h_ => h_.1))) hb); have n2_ := Aside0.mk (Kd.N_below (by (with_reducible repeat (first | apply Kd.N_alloc | apply Kd.N_drewN | apply Kd.N_drew)); exact (Kd.N_mono (Kd.N_far (p := ⟨gb262, 2, none⟩) (Kd.N_far (p := ⟨gb262, 1, none⟩) (Kd.N_far (p := ⟨gb262, 0, none⟩) (Kd.N_mono HO_253002.out (fun k_ hk => (⟨hk, hk.2.2.2.2.2.2⟩ : _ ∧ k_ ≠ gb262))) (fun _ hk => by first | exact hk.2 | exact hk | exact trivial) (.int .i64 t229)) (fun _ hk => by first | exact hk.2 | exact hk | exact trivial) (.int .i64 t230)) (fun _ hk => by first | exact hk.2 | exact hk | exact trivial) (.slice Ao62 y259.length co62)) (fun _ h_ => h_.1))) hb); have n3_ := Aside0.mk (Kd.N_below (by (with_reducible repeat (first | apply Kd.N_alloc | apply Kd.N_drewN | apply Kd.N_drew)); exact (Kd.N_mono (Kd.N_far (p := ⟨gb262, 2, none⟩) (Kd.N_far (p := ⟨gb262, 1, none⟩) (Kd.N_far (p := ⟨gb262, 0, none⟩) (Kd.N_mono HO261.out (fun k_ hk => (⟨hk, hk.2.2.2.2⟩ : _ ∧ k_ ≠ gb262))) (fun _ hk => by first | exact hk.2 | exact hk | exact trivial) (.int .i64 t229)) (fun _ hk => by first | exact hk.2 | exact hk | exact trivial) (.int .i64 t230)) (fun _ hk => by first | exact hk.2 | exact hk | exact trivial) (.slice Ao62 y259.length co62)) (fun _ h_ => h_.1))) hb); have n4_ := Aside0.mk (blk_below (g := gb236) (o := .cells #[.int .i64 t229, .int .i64 t230, .slice Ao18 t231.length co18] 27 (0, 0)) (by (with_reducible repeat (first | refine blk_drewN ?_ _ | refine blk_drew ?_ | refine blk_alloc ?_ _)); refine blk_far ?_ NB236_262.out _; (with_reducible repeat (first | refine blk_drewN ?_ _ | refine blk_drew ?_ | refine blk_alloc ?_ _)); refine blk_far ?_ NB236_262.out _; (with_reducible repeat (first | refine blk_drewN ?_ _ | refine blk_drew ?_ | refine blk_alloc ?_ _)); refine blk_far ?_ NB236_262.out _; (with_reducible repeat (first | refine blk_drewN ?_ _ | refine blk_drew ?_ | refine blk_alloc ?_ _)); exact BK236.out) hb); have n5_ := Aside0.mk (blk_below (g := gb244) (o := .cells #[.int .i64 t237, .int .i64 t238, .slice Ao23 t239.length co23] 27 (0, 0)) (by (with_reducible repeat (first | refine blk_drewN ?_ _ | refine blk_drew ?_ | refine blk_alloc ?_ _)); refine blk_far ?_ NB244_262.out _; (with_reducible repeat (first | refine blk_drewN ?_ _ | refine blk_drew ?_ | refine blk_alloc ?_ _)); refine blk_far ?_ NB244_262.out _; (with_reducible repeat (first | refine blk_drewN ?_ _ | refine blk_drew ?_ | refine blk_alloc ?_ _)); refine blk_far ?_ NB244_262.out _; (with_reducible repeat (first | refine blk_drewN ?_ _ | refine blk_drew ?_ | refine blk_alloc ?_ _)); exact BK244.out) hb); have n6_ := Aside0.mk (blk_below (g := gb252) (o := .cells #[.int .i64 t245, .int .i64 t246, .slice Ao29 t247.length co29] 27 (0, 0)) (by (with_reducible repeat (first | refine blk_drewN ?_ _ | refine blk_drew ?_ | refine blk_alloc ?_ _)); refine blk_far ?_ NB252_262.out _; (with_reducible repeat (first | refine blk_drewN ?_ _ | refine blk_drew ?_ | refine blk_alloc ?_ _)); refine blk_far ?_ NB252_262.out _; (with_reducible repeat (first | refine blk_drewN ?_ _ | refine blk_drew ?_ | refine blk_alloc ?_ _)); refine blk_far ?_ NB252_262.out _; (with_reducible repeat (first | refine blk_drewN ?_ _ | refine blk_drew ?_ | refine blk_alloc ?_ _)); exact BK252.out) hb); have n7_ := Aside0.mk (blk_below (g := gb262) (o := .cells #[.int .i64 t229, .int .i64 t230, .slice Ao62 y259.length co62] 27 (0, 0)) (by (with_reducible repeat (first | refine blk_drewN ?_ _ | refine blk_drew ?_ | refine blk_alloc ?_ _)); refine blk_put (cs := #[.int .i64 t229, .int .i64 t230, .slice none 0 0]) ?_ 2 _ rfl; (with_reducible repeat (first | refine blk_drewN ?_ _ | refine blk_drew ?_ | refine blk_alloc ?_ _)); refine blk_put (cs := #[.int .i64 t229, .int .i64 0, .slice none 0 0]) ?_ 1 _ rfl; (with_reducible repeat (first | refine blk_drewN ?_ _ | refine blk_drew ?_ | refine blk_alloc ?_ _)); refine blk_put (cs := #[.int .i64 0, .int .i64 0, .slice none 0 0]) ?_ 0 _ rfl; (with_reducible repeat (first | refine blk_drewN ?_ _ | refine blk_drew ?_ | refine blk_alloc ?_ _)); exact BK262.out) hb); have n8_ := Aside0.mk (below_step (by repeat (first | (with_reducible first | exact HB.out | apply below_alloc | apply pw_below_drewN | apply below_drew1 | refine below_set ?_ GE236.out | refine below_set ?_ GE244.out | refine below_set ?_ GE252.out | refine below_set ?_ GE262.out) | exact HB.out)) hb); clear HO_237002; clear HO_245002; clear HO_253002; clear HO261; clear BK236; clear BK244; clear BK252; clear BK262; clear HB; have HO_237002 := n0_; have HO_245002 := n1_; have HO_253002 := n2_; have HO261 := n3_; have BK236 := n4_; have BK244 := n5_; have BK252 := n6_; have BK262 := n7_; have HB := n8_; clear n0_ n1_ n2_ n3_ n4_ n5_ n6_ n7_ n8_; (try clear hb); (try clear hb2); (try clear hk); (try clear hi)))
               go_ret
               exact ⟨by first | rfl | (simp [errW_none, errW_some] <;> rfl) | (simp [*, errW_none, errW_some] <;> rfl), by repeat (first | (with_reducible first | exact HB.out | apply below_alloc | apply pw_below_drewN | apply below_drew1 | refine below_set ?_ GE236.out | refine below_set ?_ GE244.out | refine below_set ?_ GE252.out | refine below_set ?_ GE262.out) | exact HB.out)⟩
              ·rw [if_neg c48] at H; cases H
             ·rw [if_neg c47] at H; cases H
            ·rw [if_neg c45] at H
             exact absurd H (by simp)
           ·rw [if_neg c44] at H
            exact absurd H (by simp)
      ·rw [if_neg c12] at H
       exact absurd H (by simp)
     ·rw [if_neg c11] at H
      exact absurd H (by simp)
    ·rw [if_neg c9] at H
     exact absurd H (by simp)
/-- What is to be shown of fairleadlaw10_ParseJoins, without Go and memory. -/
def fairleadlaw10_ParseJoins.Pure : Prop := ∀ (a0 : ByteArray) (a1 : ByteArray), (a0.size ≤ 9223372036854775807) → (a1.size ≤ 9223372036854775807) → ∃ k, fairleadlaw10_ParseJoins.f k a0 a1 = some true
end Go.Proofs.Ytfahchgglapglaa.M
