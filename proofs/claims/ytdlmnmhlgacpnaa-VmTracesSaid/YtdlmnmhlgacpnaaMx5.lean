-- Laid by a program (wip/tools/myprint.py) out of the loaded program's own print: for each Go function a Lean function and the proof of its contract.
import Derived.Test.YtdlmnmhlgacpnaaMx0
import Derived.Test.YtdlmnmhlgacpnaaMx4
namespace Go.Proofs.Ytdlmnmhlgacpnaa.M
open Go.RowKit Go.Proofs.YtdlmnmhlgacpnaaW.PrintWords Go.Proofs.YtdlmnmhlgacpnaaW.PrintLast Go.Proofs.YtdlmnmhlgacpnaaW.PrintMore
attribute [local go_sem] max2_int min2_int max_two min_two max_three min_three max_four min_four   -- for this text's walks alone
set_option linter.unusedVariables false
set_option linter.unusedSimpArgs false

/-! ### fairleadlaw06_awake: function 9 -/
def fairleadlaw06_awake.f (k : Nat)  : Option (Bool) := (some (([(⟨32, 0, 0, 0⟩ : S37), (⟨21, 0, 1, 5⟩ : S37), (⟨6, 0, 0, 1⟩ : S37), (⟨6, 0, 0, 2⟩ : S37)] : List (S37)) : List (S37))).bind fun y146 => ((vm_Run.f k y146 5 0 0 0 0 0 0 0 0).bind fun bt149 => ((vm_Run.f k y146 6 0 0 0 0 0 0 0 0).bind fun bt152 => (if bt149.1 = 1 then (if bt149.2.1 = 3 then (if bt149.2.2 = 0 then (some (bt152.1 == 2)) else (some false)) else (some false)) else (some false))))
theorem fairleadlaw06_awake.mono : ∀ k, LeO (fairleadlaw06_awake.f k ) (fairleadlaw06_awake.f (k + 1) ) := by
 intro  k
 unfold fairleadlaw06_awake.f
 repeat' first
   | (with_reducible exact vm_Run.mono _ _ _ _ _ _ _ _ _ _ _)
   | (with_reducible exact LeO.refl _)
   | (with_reducible exact LeO.none _)
   | (with_reducible refine LeO.ite ?_ ?_)
   | (with_reducible refine LeO.bind ?_ (fun _ => ?_))
   | exact vm_Run.mono _ _ _ _ _ _ _ _ _ _ _
   | exact LeO.none _
   | refine LeO.ite ?_ ?_
   | refine LeO.bind ?_ (fun _ => ?_)
set_option maxHeartbeats 8000000 in
set_option maxRecDepth 100000 in
theorem fairleadlaw06_awake.calls (k : Nat)  (r : Bool) (w : World) (h : fairleadlaw06_awake.f k  = some r) :
  Calls Try.prog 9 #[] w fun e w' => e = .returned (.bool r) ∧ Below w.heap.size w w' := by
 have hu37 := Try.underlying37
 have hu27 := Try.underlying27
 have HB := Aside0.mk (Below.refl w.heap.size w)
 have H : ((some (([(⟨32, 0, 0, 0⟩ : S37), (⟨21, 0, 1, 5⟩ : S37), (⟨6, 0, 0, 1⟩ : S37), (⟨6, 0, 0, 2⟩ : S37)] : List (S37)) : List (S37))).bind fun y146 => ((vm_Run.f k y146 5 0 0 0 0 0 0 0 0).bind fun bt149 => ((vm_Run.f k y146 6 0 0 0 0 0 0 0 0).bind fun bt152 => (if bt149.1 = 1 then (if bt149.2.1 = 3 then (if bt149.2.2 = 0 then (some (bt152.1 == 2)) else (some false)) else (some false)) else (some false))))) = some r := h
 clear h
 obtain ⟨y146, hy146⟩ : ∃ y_ : List (S37), y_ = (([(⟨32, 0, 0, 0⟩ : S37), (⟨21, 0, 1, 5⟩ : S37), (⟨6, 0, 0, 1⟩ : S37), (⟨6, 0, 0, 2⟩ : S37)] : List (S37))) := ⟨_, rfl⟩
 replace H : ((vm_Run.f k y146 5 0 0 0 0 0 0 0 0).bind fun bt149 => ((vm_Run.f k y146 6 0 0 0 0 0 0 0 0).bind fun bt152 => (if bt149.1 = 1 then (if bt149.2.1 = 3 then (if bt149.2.2 = 0 then (some (bt152.1 == 2)) else (some false)) else (some false)) else (some false)))) = some r := by first | (rw [hy146]; with_reducible exact H) | (have H2_ := (Option.bind_some _ _).symm.trans H; rw [hy146]; with_reducible exact H2_) | (have H2_ := (Option.bind_some _ _).symm.trans H; with_reducible exact H2_) | with_reducible exact H | (rw [hy146]; exact H) | exact H
 have Ny146 := Aside0.mk hy146
 clear hy146
 replace H := Option.bind_eq_some_iff.mp H
 obtain ⟨⟨t149, t150, t151⟩, A10, H⟩ := H
 replace H : ((vm_Run.f k y146 6 0 0 0 0 0 0 0 0).bind fun bt152 => (if t149 = 1 then (if t150 = 3 then (if t151 = 0 then (some (bt152.1 == 2)) else (some false)) else (some false)) else (some false))) = some r := H
 have A1 := Aside0.mk A10
 clear A10
 replace H := Option.bind_eq_some_iff.mp H
 obtain ⟨⟨t152, t153, t154⟩, A20, H⟩ := H
 replace H : (if t149 = 1 then (if t150 = 3 then (if t151 = 0 then (some (t152 == 2)) else (some false)) else (some false)) else (some false)) = some r := H
 have A2 := Aside0.mk A20
 clear A20
 by_cases c3 : t149 = 1
 ·rw [if_pos c3] at H
  have c3b0 : (t149 == 1) = true := beq_iff_eq.mpr c3
  have c3b1 : (t149 != 1) = false := bne_eq_false_iff_eq.mpr c3
  clear c3
  by_cases c4 : t150 = 3
  ·rw [if_pos c4] at H
   have c4b0 : (t150 == 3) = true := beq_iff_eq.mpr c4
   have c4b1 : (t150 != 3) = false := bne_eq_false_iff_eq.mpr c4
   clear c4
   by_cases c5 : t151 = 0
   ·rw [if_pos c5] at H
    have c5b0 : (t151 == 0) = true := beq_iff_eq.mpr c5
    have c5b1 : (t151 != 0) = false := bne_eq_false_iff_eq.mpr c5
    clear c5
    obtain rfl := Option.some.inj H
    go_enter Try.func9, Try.ntmps9
    go_wp2_with (first | ((with_reducible refine gate_dst (N := 12) rfl ?_); refine Kd.R_lit k37 _ 37 ?hg (N := 12) ?hd (xs := ([(⟨32, 0, 0, 0⟩ : S37), (⟨21, 0, 1, 5⟩ : S37), (⟨6, 0, 0, 1⟩ : S37), (⟨6, 0, 0, 2⟩ : S37)] : List (S37))) (inner := [.int .u16 32, .int .u8 0, .int .u8 0, .int .u32 0, .int .u16 21, .int .u8 0, .int .u8 1, .int .u32 5, .int .u16 6, .int .u8 0, .int .u8 0, .int .u32 1, .int .u16 6, .int .u8 0, .int .u8 0, .int .u32 2]) (ok := fun _ => True) (okp := fun _ => True) ?hr ?hp (fun _ hk => hk) trivial (Below.refl _ _) (Nat.le_refl _) (by simp) ?_; (case hd => rfl); (case hg => rfl); (case hr => first | (go_simp; done) | (go_simp; rfl)); (case hp => exact (Reps.c4 (show Kd.M k37 _ _ _ (⟨32, 0, 0, 0⟩ : S37) [.int .u16 32, .int .u8 0, .int .u8 0, .int .u32 0] from (k37_mkM _ _ _ (⟨32, 0, 0, 0⟩ : S37) )) (Reps.c4 (show Kd.M k37 _ _ _ (⟨21, 0, 1, 5⟩ : S37) [.int .u16 21, .int .u8 0, .int .u8 1, .int .u32 5] from (k37_mkM _ _ _ (⟨21, 0, 1, 5⟩ : S37) )) (Reps.c4 (show Kd.M k37 _ _ _ (⟨6, 0, 0, 1⟩ : S37) [.int .u16 6, .int .u8 0, .int .u8 0, .int .u32 1] from (k37_mkM _ _ _ (⟨6, 0, 0, 1⟩ : S37) )) (Reps.c4 (show Kd.M k37 _ _ _ (⟨6, 0, 0, 2⟩ : S37) [.int .u16 6, .int .u8 0, .int .u8 0, .int .u32 2] from (k37_mkM _ _ _ (⟨6, 0, 0, 2⟩ : S37) )) (Reps.none _ _)))))); intro v147 w6 ho7 hb hg_ hnew_; clear hg_ hnew_; (first | rw [← Ny146.out] at ho7 | (simp only [Int.reduceToNat] at ho7; rw [← Ny146.out] at ho7)); have n0_ := Aside0.mk (Kd.R_lower ho7 (below_size (by repeat (first | (with_reducible first | exact HB.out | apply below_alloc | apply pw_below_drewN | apply below_drew1) | exact HB.out)))); have n1_ := Aside0.mk (below_step (by repeat (first | (with_reducible first | exact HB.out | apply below_alloc | apply pw_below_drewN | apply below_drew1) | exact HB.out)) hb); clear HB; have HO148 := n0_; have HB := n1_; clear n0_ n1_; clear hb ho7; obtain ⟨Ao8, co8, eo8⟩ := Kd.R_slice HO148.out; subst eo8) | ((with_reducible refine gate_callee (f := 10) rfl ?_); refine goesL_ (some 16) rfl rfl Try.func10 (by kernel_rfl) rfl #[.slice Ao8 y146.length co8, .agg #[.int .u32 5, .int .u32 0, .int .u64 0, .int .u64 0, .int .u64 0, .int .u64 0, .int .u64 0, .int .u64 0, .int .u64 0]] rfl (by (try simp only [List.map_toArray, List.map_cons, List.map_nil]); first | done | rfl | (simp only [List.length_drop, List.length_take]; rfl)) ?_; (with_reducible refine (vm_Run.calls k _ _ y146 5 0 0 0 0 0 0 0 0 t149 t150 t151 _ ?side1 ?side2 A1.out).mono ?_); (case side1 => repeat (first | exact (Kd.R_reads' HO148.out).2.2 | (with_reducible refine Kd.C_alloc ?_ _) | (with_reducible refine Kd.C_drewN ?_ _) | (with_reducible refine Kd.C_drew ?_))); (case side2 => exact (Kd.R_reads' HO148.out).2.1); rintro e w9 ⟨rfl, hb⟩; refine ⟨_, rfl, ?_⟩; have n0_ := Aside0.mk (Kd.R_below (by (with_reducible repeat (first | apply Kd.R_alloc | apply Kd.R_drewN | apply Kd.R_drew)); exact HO148.out) hb); have n1_ := Aside0.mk (below_step (by repeat (first | (with_reducible first | exact HB.out | apply below_alloc | apply pw_below_drewN | apply below_drew1) | exact HB.out)) hb); clear HO148; clear HB; have HO148 := n0_; have HB := n1_; clear n0_ n1_; (try clear hb); (try clear hb2); (try clear hk); (try clear hi)) | ((with_reducible refine gate_callee (f := 10) rfl ?_); refine goesL_ (some 23) rfl rfl Try.func10 (by kernel_rfl) rfl #[.slice Ao8 y146.length co8, .agg #[.int .u32 6, .int .u32 0, .int .u64 0, .int .u64 0, .int .u64 0, .int .u64 0, .int .u64 0, .int .u64 0, .int .u64 0]] rfl (by (try simp only [List.map_toArray, List.map_cons, List.map_nil]); first | done | rfl | (simp only [List.length_drop, List.length_take]; rfl)) ?_; (with_reducible refine (vm_Run.calls k _ _ y146 6 0 0 0 0 0 0 0 0 t152 t153 t154 _ ?side1 ?side2 A2.out).mono ?_); (case side1 => repeat (first | exact (Kd.R_reads' HO148.out).2.2 | (with_reducible refine Kd.C_alloc ?_ _) | (with_reducible refine Kd.C_drewN ?_ _) | (with_reducible refine Kd.C_drew ?_))); (case side2 => exact (Kd.R_reads' HO148.out).2.1); rintro e w10 ⟨rfl, hb⟩; refine ⟨_, rfl, ?_⟩; have n0_ := Aside0.mk (Kd.R_below (by (with_reducible repeat (first | apply Kd.R_alloc | apply Kd.R_drewN | apply Kd.R_drew)); exact HO148.out) hb); have n1_ := Aside0.mk (below_step (by repeat (first | (with_reducible first | exact HB.out | apply below_alloc | apply pw_below_drewN | apply below_drew1) | exact HB.out)) hb); clear HO148; clear HB; have HO148 := n0_; have HB := n1_; clear n0_ n1_; (try clear hb); (try clear hb2); (try clear hk); (try clear hi)))
    go_ret
    exact ⟨by first | rfl | (simp [errW_none, errW_some] <;> rfl) | (simp [*, errW_none, errW_some] <;> rfl), by repeat (first | (with_reducible first | exact HB.out | apply below_alloc | apply pw_below_drewN | apply below_drew1) | exact HB.out)⟩
   ·rw [if_neg c5] at H
    have c5b0 : (t151 == 0) = false := beq_eq_false_iff_ne.mpr c5
    have c5b1 : (t151 != 0) = true := bne_iff_ne.mpr c5
    obtain rfl := Option.some.inj H
    go_enter Try.func9, Try.ntmps9
    go_wp2_with (first | ((with_reducible refine gate_dst (N := 12) rfl ?_); refine Kd.R_lit k37 _ 37 ?hg (N := 12) ?hd (xs := ([(⟨32, 0, 0, 0⟩ : S37), (⟨21, 0, 1, 5⟩ : S37), (⟨6, 0, 0, 1⟩ : S37), (⟨6, 0, 0, 2⟩ : S37)] : List (S37))) (inner := [.int .u16 32, .int .u8 0, .int .u8 0, .int .u32 0, .int .u16 21, .int .u8 0, .int .u8 1, .int .u32 5, .int .u16 6, .int .u8 0, .int .u8 0, .int .u32 1, .int .u16 6, .int .u8 0, .int .u8 0, .int .u32 2]) (ok := fun _ => True) (okp := fun _ => True) ?hr ?hp (fun _ hk => hk) trivial (Below.refl _ _) (Nat.le_refl _) (by simp) ?_; (case hd => rfl); (case hg => rfl); (case hr => first | (go_simp; done) | (go_simp; rfl)); (case hp => exact (Reps.c4 (show Kd.M k37 _ _ _ (⟨32, 0, 0, 0⟩ : S37) [.int .u16 32, .int .u8 0, .int .u8 0, .int .u32 0] from (k37_mkM _ _ _ (⟨32, 0, 0, 0⟩ : S37) )) (Reps.c4 (show Kd.M k37 _ _ _ (⟨21, 0, 1, 5⟩ : S37) [.int .u16 21, .int .u8 0, .int .u8 1, .int .u32 5] from (k37_mkM _ _ _ (⟨21, 0, 1, 5⟩ : S37) )) (Reps.c4 (show Kd.M k37 _ _ _ (⟨6, 0, 0, 1⟩ : S37) [.int .u16 6, .int .u8 0, .int .u8 0, .int .u32 1] from (k37_mkM _ _ _ (⟨6, 0, 0, 1⟩ : S37) )) (Reps.c4 (show Kd.M k37 _ _ _ (⟨6, 0, 0, 2⟩ : S37) [.int .u16 6, .int .u8 0, .int .u8 0, .int .u32 2] from (k37_mkM _ _ _ (⟨6, 0, 0, 2⟩ : S37) )) (Reps.none _ _)))))); intro v147 w11 ho12 hb hg_ hnew_; clear hg_ hnew_; (first | rw [← Ny146.out] at ho12 | (simp only [Int.reduceToNat] at ho12; rw [← Ny146.out] at ho12)); have n0_ := Aside0.mk (Kd.R_lower ho12 (below_size (by repeat (first | (with_reducible first | exact HB.out | apply below_alloc | apply pw_below_drewN | apply below_drew1) | exact HB.out)))); have n1_ := Aside0.mk (below_step (by repeat (first | (with_reducible first | exact HB.out | apply below_alloc | apply pw_below_drewN | apply below_drew1) | exact HB.out)) hb); clear HB; have HO148 := n0_; have HB := n1_; clear n0_ n1_; clear hb ho12; obtain ⟨Ao13, co13, eo13⟩ := Kd.R_slice HO148.out; subst eo13) | ((with_reducible refine gate_callee (f := 10) rfl ?_); refine goesL_ (some 16) rfl rfl Try.func10 (by kernel_rfl) rfl #[.slice Ao13 y146.length co13, .agg #[.int .u32 5, .int .u32 0, .int .u64 0, .int .u64 0, .int .u64 0, .int .u64 0, .int .u64 0, .int .u64 0, .int .u64 0]] rfl (by (try simp only [List.map_toArray, List.map_cons, List.map_nil]); first | done | rfl | (simp only [List.length_drop, List.length_take]; rfl)) ?_; (with_reducible refine (vm_Run.calls k _ _ y146 5 0 0 0 0 0 0 0 0 t149 t150 t151 _ ?side1 ?side2 A1.out).mono ?_); (case side1 => repeat (first | exact (Kd.R_reads' HO148.out).2.2 | (with_reducible refine Kd.C_alloc ?_ _) | (with_reducible refine Kd.C_drewN ?_ _) | (with_reducible refine Kd.C_drew ?_))); (case side2 => exact (Kd.R_reads' HO148.out).2.1); rintro e w14 ⟨rfl, hb⟩; refine ⟨_, rfl, ?_⟩; have n0_ := Aside0.mk (Kd.R_below (by (with_reducible repeat (first | apply Kd.R_alloc | apply Kd.R_drewN | apply Kd.R_drew)); exact HO148.out) hb); have n1_ := Aside0.mk (below_step (by repeat (first | (with_reducible first | exact HB.out | apply below_alloc | apply pw_below_drewN | apply below_drew1) | exact HB.out)) hb); clear HO148; clear HB; have HO148 := n0_; have HB := n1_; clear n0_ n1_; (try clear hb); (try clear hb2); (try clear hk); (try clear hi)) | ((with_reducible refine gate_callee (f := 10) rfl ?_); refine goesL_ (some 23) rfl rfl Try.func10 (by kernel_rfl) rfl #[.slice Ao13 y146.length co13, .agg #[.int .u32 6, .int .u32 0, .int .u64 0, .int .u64 0, .int .u64 0, .int .u64 0, .int .u64 0, .int .u64 0, .int .u64 0]] rfl (by (try simp only [List.map_toArray, List.map_cons, List.map_nil]); first | done | rfl | (simp only [List.length_drop, List.length_take]; rfl)) ?_; (with_reducible refine (vm_Run.calls k _ _ y146 6 0 0 0 0 0 0 0 0 t152 t153 t154 _ ?side1 ?side2 A2.out).mono ?_); (case side1 => repeat (first | exact (Kd.R_reads' HO148.out).2.2 | (with_reducible refine Kd.C_alloc ?_ _) | (with_reducible refine Kd.C_drewN ?_ _) | (with_reducible refine Kd.C_drew ?_))); (case side2 => exact (Kd.R_reads' HO148.out).2.1); rintro e w15 ⟨rfl, hb⟩; refine ⟨_, rfl, ?_⟩; have n0_ := Aside0.mk (Kd.R_below (by (with_reducible repeat (first | apply Kd.R_alloc | apply Kd.R_drewN | apply Kd.R_drew)); exact HO148.out) hb); have n1_ := Aside0.mk (below_step (by repeat (first | (with_reducible first | exact HB.out | apply below_alloc | apply pw_below_drewN | apply below_drew1) | exact HB.out)) hb); clear HO148; clear HB; have HO148 := n0_; have HB := n1_; clear n0_ n1_; (try clear hb); (try clear hb2); (try clear hk); (try clear hi)))
    go_ret
    exact ⟨by first | rfl | (simp [errW_none, errW_some] <;> rfl) | (simp [*, errW_none, errW_some] <;> rfl), by repeat (first | (with_reducible first | exact HB.out | apply below_alloc | apply pw_below_drewN | apply below_drew1) | exact HB.out)⟩
  ·rw [if_neg c4] at H
   have c4b0 : (t150 == 3) = false := beq_eq_false_iff_ne.mpr c4
   have c4b1 : (t150 != 3) = true := bne_iff_ne.mpr c4
   obtain rfl := Option.some.inj H
   go_enter Try.func9, Try.ntmps9
   go_wp2_with (first | ((with_reducible refine gate_dst (N := 12) rfl ?_); refine Kd.R_lit k37 _ 37 ?hg (N := 12) ?hd (xs := ([(⟨32, 0, 0, 0⟩ : S37), (⟨21, 0, 1, 5⟩ : S37), (⟨6, 0, 0, 1⟩ : S37), (⟨6, 0, 0, 2⟩ : S37)] : List (S37))) (inner := [.int .u16 32, .int .u8 0, .int .u8 0, .int .u32 0, .int .u16 21, .int .u8 0, .int .u8 1, .int .u32 5, .int .u16 6, .int .u8 0, .int .u8 0, .int .u32 1, .int .u16 6, .int .u8 0, .int .u8 0, .int .u32 2]) (ok := fun _ => True) (okp := fun _ => True) ?hr ?hp (fun _ hk => hk) trivial (Below.refl _ _) (Nat.le_refl _) (by simp) ?_; (case hd => rfl); (case hg => rfl); (case hr => first | (go_simp; done) | (go_simp; rfl)); (case hp => exact (Reps.c4 (show Kd.M k37 _ _ _ (⟨32, 0, 0, 0⟩ : S37) [.int .u16 32, .int .u8 0, .int .u8 0, .int .u32 0] from (k37_mkM _ _ _ (⟨32, 0, 0, 0⟩ : S37) )) (Reps.c4 (show Kd.M k37 _ _ _ (⟨21, 0, 1, 5⟩ : S37) [.int .u16 21, .int .u8 0, .int .u8 1, .int .u32 5] from (k37_mkM _ _ _ (⟨21, 0, 1, 5⟩ : S37) )) (Reps.c4 (show Kd.M k37 _ _ _ (⟨6, 0, 0, 1⟩ : S37) [.int .u16 6, .int .u8 0, .int .u8 0, .int .u32 1] from (k37_mkM _ _ _ (⟨6, 0, 0, 1⟩ : S37) )) (Reps.c4 (show Kd.M k37 _ _ _ (⟨6, 0, 0, 2⟩ : S37) [.int .u16 6, .int .u8 0, .int .u8 0, .int .u32 2] from (k37_mkM _ _ _ (⟨6, 0, 0, 2⟩ : S37) )) (Reps.none _ _)))))); intro v147 w16 ho17 hb hg_ hnew_; clear hg_ hnew_; (first | rw [← Ny146.out] at ho17 | (simp only [Int.reduceToNat] at ho17; rw [← Ny146.out] at ho17)); have n0_ := Aside0.mk (Kd.R_lower ho17 (below_size (by repeat (first | (with_reducible first | exact HB.out | apply below_alloc | apply pw_below_drewN | apply below_drew1) | exact HB.out)))); have n1_ := Aside0.mk (below_step (by repeat (first | (with_reducible first | exact HB.out | apply below_alloc | apply pw_below_drewN | apply below_drew1) | exact HB.out)) hb); clear HB; have HO148 := n0_; have HB := n1_; clear n0_ n1_; clear hb ho17; obtain ⟨Ao18, co18, eo18⟩ := Kd.R_slice HO148.out; subst eo18) | ((with_reducible refine gate_callee (f := 10) rfl ?_); refine goesL_ (some 16) rfl rfl Try.func10 (by kernel_rfl) rfl #[.slice Ao18 y146.length co18, .agg #[.int .u32 5, .int .u32 0, .int .u64 0, .int .u64 0, .int .u64 0, .int .u64 0, .int .u64 0, .int .u64 0, .int .u64 0]] rfl (by (try simp only [List.map_toArray, List.map_cons, List.map_nil]); first | done | rfl | (simp only [List.length_drop, List.length_take]; rfl)) ?_; (with_reducible refine (vm_Run.calls k _ _ y146 5 0 0 0 0 0 0 0 0 t149 t150 t151 _ ?side1 ?side2 A1.out).mono ?_); (case side1 => repeat (first | exact (Kd.R_reads' HO148.out).2.2 | (with_reducible refine Kd.C_alloc ?_ _) | (with_reducible refine Kd.C_drewN ?_ _) | (with_reducible refine Kd.C_drew ?_))); (case side2 => exact (Kd.R_reads' HO148.out).2.1); rintro e w19 ⟨rfl, hb⟩; refine ⟨_, rfl, ?_⟩; have n0_ := Aside0.mk (Kd.R_below (by (with_reducible repeat (first | apply Kd.R_alloc | apply Kd.R_drewN | apply Kd.R_drew)); exact HO148.out) hb); have n1_ := Aside0.mk (below_step (by repeat (first | (with_reducible first | exact HB.out | apply below_alloc | apply pw_below_drewN | apply below_drew1) | exact HB.out)) hb); clear HO148; clear HB; have HO148 := n0_; have HB := n1_; clear n0_ n1_; (try clear hb); (try clear hb2); (try clear hk); (try clear hi)) | ((with_reducible refine gate_callee (f := 10) rfl ?_); refine goesL_ (some 23) rfl rfl Try.func10 (by kernel_rfl) rfl #[.slice Ao18 y146.length co18, .agg #[.int .u32 6, .int .u32 0, .int .u64 0, .int .u64 0, .int .u64 0, .int .u64 0, .int .u64 0, .int .u64 0, .int .u64 0]] rfl (by (try simp only [List.map_toArray, List.map_cons, List.map_nil]); first | done | rfl | (simp only [List.length_drop, List.length_take]; rfl)) ?_; (with_reducible refine (vm_Run.calls k _ _ y146 6 0 0 0 0 0 0 0 0 t152 t153 t154 _ ?side1 ?side2 A2.out).mono ?_); (case side1 => repeat (first | exact (Kd.R_reads' HO148.out).2.2 | (with_reducible refine Kd.C_alloc ?_ _) | (with_reducible refine Kd.C_drewN ?_ _) | (with_reducible refine Kd.C_drew ?_))); (case side2 => exact (Kd.R_reads' HO148.out).2.1); rintro e w20 ⟨rfl, hb⟩; refine ⟨_, rfl, ?_⟩; have n0_ := Aside0.mk (Kd.R_below (by (with_reducible repeat (first | apply Kd.R_alloc | apply Kd.R_drewN | apply Kd.R_drew)); exact HO148.out) hb); have n1_ := Aside0.mk (below_step (by repeat (first | (with_reducible first | exact HB.out | apply below_alloc | apply pw_below_drewN | apply below_drew1) | exact HB.out)) hb); clear HO148; clear HB; have HO148 := n0_; have HB := n1_; clear n0_ n1_; (try clear hb); (try clear hb2); (try clear hk); (try clear hi)))
   go_ret
   exact ⟨by first | rfl | (simp [errW_none, errW_some] <;> rfl) | (simp [*, errW_none, errW_some] <;> rfl), by repeat (first | (with_reducible first | exact HB.out | apply below_alloc | apply pw_below_drewN | apply below_drew1) | exact HB.out)⟩
 ·rw [if_neg c3] at H
  have c3b0 : (t149 == 1) = false := beq_eq_false_iff_ne.mpr c3
  have c3b1 : (t149 != 1) = true := bne_iff_ne.mpr c3
  obtain rfl := Option.some.inj H
  go_enter Try.func9, Try.ntmps9
  go_wp2_with (first | ((with_reducible refine gate_dst (N := 12) rfl ?_); refine Kd.R_lit k37 _ 37 ?hg (N := 12) ?hd (xs := ([(⟨32, 0, 0, 0⟩ : S37), (⟨21, 0, 1, 5⟩ : S37), (⟨6, 0, 0, 1⟩ : S37), (⟨6, 0, 0, 2⟩ : S37)] : List (S37))) (inner := [.int .u16 32, .int .u8 0, .int .u8 0, .int .u32 0, .int .u16 21, .int .u8 0, .int .u8 1, .int .u32 5, .int .u16 6, .int .u8 0, .int .u8 0, .int .u32 1, .int .u16 6, .int .u8 0, .int .u8 0, .int .u32 2]) (ok := fun _ => True) (okp := fun _ => True) ?hr ?hp (fun _ hk => hk) trivial (Below.refl _ _) (Nat.le_refl _) (by simp) ?_; (case hd => rfl); (case hg => rfl); (case hr => first | (go_simp; done) | (go_simp; rfl)); (case hp => exact (Reps.c4 (show Kd.M k37 _ _ _ (⟨32, 0, 0, 0⟩ : S37) [.int .u16 32, .int .u8 0, .int .u8 0, .int .u32 0] from (k37_mkM _ _ _ (⟨32, 0, 0, 0⟩ : S37) )) (Reps.c4 (show Kd.M k37 _ _ _ (⟨21, 0, 1, 5⟩ : S37) [.int .u16 21, .int .u8 0, .int .u8 1, .int .u32 5] from (k37_mkM _ _ _ (⟨21, 0, 1, 5⟩ : S37) )) (Reps.c4 (show Kd.M k37 _ _ _ (⟨6, 0, 0, 1⟩ : S37) [.int .u16 6, .int .u8 0, .int .u8 0, .int .u32 1] from (k37_mkM _ _ _ (⟨6, 0, 0, 1⟩ : S37) )) (Reps.c4 (show Kd.M k37 _ _ _ (⟨6, 0, 0, 2⟩ : S37) [.int .u16 6, .int .u8 0, .int .u8 0, .int .u32 2] from (k37_mkM _ _ _ (⟨6, 0, 0, 2⟩ : S37) )) (Reps.none _ _)))))); intro v147 w21 ho22 hb hg_ hnew_; clear hg_ hnew_; (first | rw [← Ny146.out] at ho22 | (simp only [Int.reduceToNat] at ho22; rw [← Ny146.out] at ho22)); have n0_ := Aside0.mk (Kd.R_lower ho22 (below_size (by repeat (first | (with_reducible first | exact HB.out | apply below_alloc | apply pw_below_drewN | apply below_drew1) | exact HB.out)))); have n1_ := Aside0.mk (below_step (by repeat (first | (with_reducible first | exact HB.out | apply below_alloc | apply pw_below_drewN | apply below_drew1) | exact HB.out)) hb); clear HB; have HO148 := n0_; have HB := n1_; clear n0_ n1_; clear hb ho22; obtain ⟨Ao23, co23, eo23⟩ := Kd.R_slice HO148.out; subst eo23) | ((with_reducible refine gate_callee (f := 10) rfl ?_); refine goesL_ (some 16) rfl rfl Try.func10 (by kernel_rfl) rfl #[.slice Ao23 y146.length co23, .agg #[.int .u32 5, .int .u32 0, .int .u64 0, .int .u64 0, .int .u64 0, .int .u64 0, .int .u64 0, .int .u64 0, .int .u64 0]] rfl (by (try simp only [List.map_toArray, List.map_cons, List.map_nil]); first | done | rfl | (simp only [List.length_drop, List.length_take]; rfl)) ?_; (with_reducible refine (vm_Run.calls k _ _ y146 5 0 0 0 0 0 0 0 0 t149 t150 t151 _ ?side1 ?side2 A1.out).mono ?_); (case side1 => repeat (first | exact (Kd.R_reads' HO148.out).2.2 | (with_reducible refine Kd.C_alloc ?_ _) | (with_reducible refine Kd.C_drewN ?_ _) | (with_reducible refine Kd.C_drew ?_))); (case side2 => exact (Kd.R_reads' HO148.out).2.1); rintro e w24 ⟨rfl, hb⟩; refine ⟨_, rfl, ?_⟩; have n0_ := Aside0.mk (Kd.R_below (by (with_reducible repeat (first | apply Kd.R_alloc | apply Kd.R_drewN | apply Kd.R_drew)); exact HO148.out) hb); have n1_ := Aside0.mk (below_step (by repeat (first | (with_reducible first | exact HB.out | apply below_alloc | apply pw_below_drewN | apply below_drew1) | exact HB.out)) hb); clear HO148; clear HB; have HO148 := n0_; have HB := n1_; clear n0_ n1_; (try clear hb); (try clear hb2); (try clear hk); (try clear hi)) | ((with_reducible refine gate_callee (f := 10) rfl ?_); refine goesL_ (some 23) rfl rfl Try.func10 (by kernel_rfl) rfl #[.slice Ao23 y146.length co23, .agg #[.int .u32 6, .int .u32 0, .int .u64 0, .int .u64 0, .int .u64 0, .int .u64 0, .int .u64 0, .int .u64 0, .int .u64 0]] rfl (by (try simp only [List.map_toArray, List.map_cons, List.map_nil]); first | done | rfl | (simp only [List.length_drop, List.length_take]; rfl)) ?_; (with_reducible refine (vm_Run.calls k _ _ y146 6 0 0 0 0 0 0 0 0 t152 t153 t154 _ ?side1 ?side2 A2.out).mono ?_); (case side1 => repeat (first | exact (Kd.R_reads' HO148.out).2.2 | (with_reducible refine Kd.C_alloc ?_ _) | (with_reducible refine Kd.C_drewN ?_ _) | (with_reducible refine Kd.C_drew ?_))); (case side2 => exact (Kd.R_reads' HO148.out).2.1); rintro e w25 ⟨rfl, hb⟩; refine ⟨_, rfl, ?_⟩; have n0_ := Aside0.mk (Kd.R_below (by (with_reducible repeat (first | apply Kd.R_alloc | apply Kd.R_drewN | apply Kd.R_drew)); exact HO148.out) hb); have n1_ := Aside0.mk (below_step (by repeat (first | (with_reducible first | exact HB.out | apply below_alloc | apply pw_below_drewN | apply below_drew1) | exact HB.out)) hb); clear HO148; clear HB; have HO148 := n0_; have HB := n1_; clear n0_ n1_; (try clear hb); (try clear hb2); (try clear hk); (try clear hi)))
  go_ret
  exact ⟨by first | rfl | (simp [errW_none, errW_some] <;> rfl) | (simp [*, errW_none, errW_some] <;> rfl), by repeat (first | (with_reducible first | exact HB.out | apply below_alloc | apply pw_below_drewN | apply below_drew1) | exact HB.out)⟩

/-! ### fairleadref03_Has: function 43 -/
def fairleadref03_Has.l0 : Nat → List Int → Int → Int → Option (Bool)
 | 0, _, _, _ => none
 | k + 1, x0, x1, x5 => if x5 < (x0.length : Int) then (if 0 ≤ x5 then (if (rd x0 x5) = x1 then (some true) else (fairleadref03_Has.l0 k x0 x1 (wrap64 (x5 + 1)))) else (none)) else (some false)
def fairleadref03_Has.f (k : Nat) (l0 : List Int) (a1 : Int) : Option (Bool) := fairleadref03_Has.l0 k l0 a1 0
theorem fairleadref03_Has.mono_l : ∀ k, (∀ y0 y1 y2, LeO (fairleadref03_Has.l0 k y0 y1 y2) (fairleadref03_Has.l0 (k + 1) y0 y1 y2))
 | 0 => fun _ _ _ r h => by simp [fairleadref03_Has.l0] at h
 | k + 1 => by
  have ih0 := fairleadref03_Has.mono_l k
  ·intro y0 y1 y2
   unfold fairleadref03_Has.l0
   repeat' first
   | (with_reducible exact ih0 _ _ _)
   | (with_reducible exact LeO.refl _)
   | (with_reducible exact LeO.none _)
   | (with_reducible refine LeO.ite ?_ ?_)
   | (with_reducible refine LeO.bind ?_ (fun _ => ?_))
   | exact ih0 _ _ _
   | exact LeO.none _
   | refine LeO.ite ?_ ?_
   | refine LeO.bind ?_ (fun _ => ?_)
theorem fairleadref03_Has.mono : ∀ a0 a1 k, LeO (fairleadref03_Has.f k a0 a1) (fairleadref03_Has.f (k + 1) a0 a1) := by
 intro a0 a1 k
 have ih0 := fairleadref03_Has.mono_l k
 unfold fairleadref03_Has.f
 repeat' first
   | (with_reducible exact ih0 _ _ _)
   | (with_reducible exact LeO.refl _)
   | (with_reducible exact LeO.none _)
   | (with_reducible refine LeO.ite ?_ ?_)
   | (with_reducible refine LeO.bind ?_ (fun _ => ?_))
   | exact ih0 _ _ _
   | exact LeO.none _
   | refine LeO.ite ?_ ?_
   | refine LeO.bind ?_ (fun _ => ?_)
set_option maxHeartbeats 8000000 in
set_option maxRecDepth 100000 in
theorem fairleadref03_Has.calls (k : Nat) (A0 : Option Addr) (c0 : Nat) (l0 : List Int) (a1 : Int) (r : Bool) (w : World) (hr0 : Kd.C (Kd.int .u16) w A0 l0.length l0) (hc0 : l0.length ≤ c0) (h : fairleadref03_Has.f k l0 a1 = some r) :
  Calls Try.prog 43 #[.slice A0 l0.length c0, .int .u16 a1] w fun e w' => e = .returned (.bool r) ∧ Drawn0 w w' := by
 have HR0 := Aside0.mk hr0
 have HC0 := Aside0.mk hc0
 clear hr0 hc0
 have H : (fairleadref03_Has.l0 k l0 a1 0) = some r := h
 clear h
 have H' := Aside0.mk H
 clear H
 go_enter Try.func43, Try.ntmps43
 go_wp2
 go_loopg [5] k (fun kq v5 w' => ∃ (x5_1 : Int), v5 = .int .i64 x5_1 ∧ Aside0 (fairleadref03_Has.l0 kq l0 a1 x5_1 = some r) ∧ Aside0 (kq ≤ k) ∧ Drawn0 w w')
 case atStart => exact ⟨(0), (by first | rfl | (simp; done) | (simp [*]; done)), H', ⟨Nat.le_refl _⟩, by repeat (first | exact Drawn0.refl _ | apply Drawn0.step)⟩
 case round =>
  clear H'
  try clear p2
  obtain ⟨x5_1, rfl, HA, HK1, ⟨m1, rfl⟩⟩ := hrel
  cases gk with
  | zero => exact absurd HA.out (by simp [fairleadref03_Has.l0])
  | succ k1 =>
   have H := HA.out
   clear HA
   simp only [fairleadref03_Has.l0] at H
   by_cases c3 : x5_1 < (l0.length : Int)
   ·rw [if_pos c3] at H
    have c3b0 : decide (x5_1 < (l0.length : Int)) = true := decide_eq_true c3
    clear c3
    by_cases c4 : 0 ≤ x5_1
    ·rw [if_pos c4] at H
     have c4b0 : decide (0 ≤ x5_1) = true := decide_eq_true c4
     clear c4
     by_cases c5 : (rd l0 x5_1) = a1
     ·rw [if_pos c5] at H
      have c5b0 : ((rd l0 x5_1) == a1) = true := beq_iff_eq.mpr c5
      have c5b1 : ((rd l0 x5_1) != a1) = false := bne_eq_false_iff_eq.mpr c5
      clear c5
      obtain rfl := Option.some.inj H
      have p155 : 0 ≤ (x5_1 : Int) := of_decide_eq_true (by first | (with_reducible assumption) | assumption)
      have q155 : x5_1 < (l0.length : Int) := of_decide_eq_true (by first | (with_reducible assumption) | assumption)
      obtain ⟨ad155, e155, hx155_0⟩ := Kd.at_int HR0.out x5_1 p155 q155
      cases e155
      replace p155 := eq_true p155
      replace q155 := eq_true q155
      go_wp2
      go_ret
      exact ⟨by first | rfl | (simp; done) | (simp [*]; done), by repeat (first | exact Drawn0.refl _ | apply Drawn0.step)⟩
     ·rw [if_neg c5] at H
      have c5b0 : ((rd l0 x5_1) == a1) = false := beq_eq_false_iff_ne.mpr c5
      have c5b1 : ((rd l0 x5_1) != a1) = true := bne_iff_ne.mpr c5
      have H' := Aside0.mk H
      clear H
      have p155 : 0 ≤ (x5_1 : Int) := of_decide_eq_true (by first | (with_reducible assumption) | assumption)
      have q155 : x5_1 < (l0.length : Int) := of_decide_eq_true (by first | (with_reducible assumption) | assumption)
      obtain ⟨ad155, e155, hx155_0⟩ := Kd.at_int HR0.out x5_1 p155 q155
      cases e155
      replace p155 := eq_true p155
      replace q155 := eq_true q155
      go_wp2
      go_roundg k1
      case measure => have := HK1.out; omega
      case rel => exact ⟨(wrap64 (x5_1 + 1)), (by first | rfl | (simp; done) | (simp [*]; done)), H', ⟨by have := HK1.out; omega⟩, by repeat (first | exact Drawn0.refl _ | apply Drawn0.step)⟩
    ·rw [if_neg c4] at H
     exact absurd H (by simp)
   ·rw [if_neg c3] at H
    have c3b0 : decide (x5_1 < (l0.length : Int)) = false := decide_eq_false c3
    clear c3
    obtain rfl := Option.some.inj H
    go_wp2
    go_ret
    exact ⟨by first | rfl | (simp; done) | (simp [*]; done), by repeat (first | exact Drawn0.refl _ | apply Drawn0.step)⟩

/-! ### fairleadref03_Plain: function 44 -/
def fairleadref03_Plain.f  : Option (List Int) := some (([32, 0, 1, 96, 97, 2, 3, 4, 20, 36, 52, 68, 84, 100, 116, 132, 164, 5, 21, 37, 53, 69, 6, 22, 7, 135] : List Int))
set_option maxHeartbeats 8000000 in
set_option maxRecDepth 100000 in
theorem fairleadref03_Plain.calls  (r : List Int) (w : World) (h : fairleadref03_Plain.f  = some r) :
  Calls Try.prog 44 #[] w fun e w' => ∃ v0_ : Value, e = .returned (v0_) ∧ Kd.R (Kd.int .u16) 33 w' w.heap.size (fun _ => True) v0_ r ∧ Below w.heap.size w w' := by
 have HB := Aside0.mk (Below.refl w.heap.size w)
 have H : (some (([32, 0, 1, 96, 97, 2, 3, 4, 20, 36, 52, 68, 84, 100, 116, 132, 164, 5, 21, 37, 53, 69, 6, 22, 7, 135] : List Int))) = some r := h
 clear h
 obtain ⟨y156, hy156⟩ : ∃ y_ : List Int, y_ = (([32, 0, 1, 96, 97, 2, 3, 4, 20, 36, 52, 68, 84, 100, 116, 132, 164, 5, 21, 37, 53, 69, 6, 22, 7, 135] : List Int)) := ⟨_, rfl⟩
 replace H : (some y156) = some r := by first | (rw [hy156]; with_reducible exact H) | (have H2_ := (Option.bind_some _ _).symm.trans H; rw [hy156]; with_reducible exact H2_) | (have H2_ := (Option.bind_some _ _).symm.trans H; with_reducible exact H2_) | with_reducible exact H | (rw [hy156]; exact H) | exact H
 have Ny156 := Aside0.mk hy156
 clear hy156
 obtain rfl := Option.some.inj H
 go_enter Try.func44, Try.ntmps44
 go_wp2_with (first | ((with_reducible refine gate_dst (N := 1) rfl ?_); refine Kd.R_lit (Kd.int .u16) _ 33 ?hg (N := 1) ?hd (xs := ([32, 0, 1, 96, 97, 2, 3, 4, 20, 36, 52, 68, 84, 100, 116, 132, 164, 5, 21, 37, 53, 69, 6, 22, 7, 135] : List Int)) (inner := [.int .u16 32, .int .u16 0, .int .u16 1, .int .u16 96, .int .u16 97, .int .u16 2, .int .u16 3, .int .u16 4, .int .u16 20, .int .u16 36, .int .u16 52, .int .u16 68, .int .u16 84, .int .u16 100, .int .u16 116, .int .u16 132, .int .u16 164, .int .u16 5, .int .u16 21, .int .u16 37, .int .u16 53, .int .u16 69, .int .u16 6, .int .u16 22, .int .u16 7, .int .u16 135]) (ok := fun _ => True) (okp := fun _ => True) ?hr ?hp (fun _ hk => hk) trivial (Below.refl _ _) (Nat.le_refl _) (by simp) ?_; (case hd => rfl); (case hg => rfl); (case hr => first | (go_simp; done) | (go_simp; rfl)); (case hp => exact (Reps.one (show Kd.M (Kd.int .u16) _ _ _ 32 [.int .u16 32] from rfl) (Reps.one (show Kd.M (Kd.int .u16) _ _ _ 0 [.int .u16 0] from rfl) (Reps.one (show Kd.M (Kd.int .u16) _ _ _ 1 [.int .u16 1] from rfl) (Reps.one (show Kd.M (Kd.int .u16) _ _ _ 96 [.int .u16 96] from rfl) (Reps.one (show Kd.M (Kd.int .u16) _ _ _ 97 [.int .u16 97] from rfl) (Reps.one (show Kd.M (Kd.int .u16) _ _ _ 2 [.int .u16 2] from rfl) (Reps.one (show Kd.M (Kd.int .u16) _ _ _ 3 [.int .u16 3] from rfl) (Reps.one (show Kd.M (Kd.int .u16) _ _ _ 4 [.int .u16 4] from rfl) (Reps.one (show Kd.M (Kd.int .u16) _ _ _ 20 [.int .u16 20] from rfl) (Reps.one (show Kd.M (Kd.int .u16) _ _ _ 36 [.int .u16 36] from rfl) (Reps.one (show Kd.M (Kd.int .u16) _ _ _ 52 [.int .u16 52] from rfl) (Reps.one (show Kd.M (Kd.int .u16) _ _ _ 68 [.int .u16 68] from rfl) (Reps.one (show Kd.M (Kd.int .u16) _ _ _ 84 [.int .u16 84] from rfl) (Reps.one (show Kd.M (Kd.int .u16) _ _ _ 100 [.int .u16 100] from rfl) (Reps.one (show Kd.M (Kd.int .u16) _ _ _ 116 [.int .u16 116] from rfl) (Reps.one (show Kd.M (Kd.int .u16) _ _ _ 132 [.int .u16 132] from rfl) (Reps.one (show Kd.M (Kd.int .u16) _ _ _ 164 [.int .u16 164] from rfl) (Reps.one (show Kd.M (Kd.int .u16) _ _ _ 5 [.int .u16 5] from rfl) (Reps.one (show Kd.M (Kd.int .u16) _ _ _ 21 [.int .u16 21] from rfl) (Reps.one (show Kd.M (Kd.int .u16) _ _ _ 37 [.int .u16 37] from rfl) (Reps.one (show Kd.M (Kd.int .u16) _ _ _ 53 [.int .u16 53] from rfl) (Reps.one (show Kd.M (Kd.int .u16) _ _ _ 69 [.int .u16 69] from rfl) (Reps.one (show Kd.M (Kd.int .u16) _ _ _ 6 [.int .u16 6] from rfl) (Reps.one (show Kd.M (Kd.int .u16) _ _ _ 22 [.int .u16 22] from rfl) (Reps.one (show Kd.M (Kd.int .u16) _ _ _ 7 [.int .u16 7] from rfl) (Reps.one (show Kd.M (Kd.int .u16) _ _ _ 135 [.int .u16 135] from rfl) (Reps.none _ _)))))))))))))))))))))))))))); intro v157 w1 ho2 hb hg_ hnew_; clear hg_ hnew_; (first | rw [← Ny156.out] at ho2 | (simp only [Int.reduceToNat] at ho2; rw [← Ny156.out] at ho2)); have n0_ := Aside0.mk (Kd.R_lower ho2 (below_size (by repeat (first | (with_reducible first | exact HB.out | apply below_alloc | apply pw_below_drewN | apply below_drew1) | exact HB.out)))); have n1_ := Aside0.mk (below_step (by repeat (first | (with_reducible first | exact HB.out | apply below_alloc | apply pw_below_drewN | apply below_drew1) | exact HB.out)) hb); clear HB; have HO158 := n0_; have HB := n1_; clear n0_ n1_; clear hb ho2))
 go_ret
 exact ⟨_, by first | rfl | (simp [errW_none, errW_some] <;> rfl) | (simp [*, errW_none, errW_some] <;> rfl), by (with_reducible repeat (first | apply Kd.R_alloc | apply Kd.R_drewN | apply Kd.R_drew)); exact HO158.out, by repeat (first | (with_reducible first | exact HB.out | apply below_alloc | apply pw_below_drewN | apply below_drew1) | exact HB.out)⟩

/-! ### fairleadref03_WithX: function 45 -/
def fairleadref03_WithX.f  : Option (List Int) := some (([4, 20, 36, 52, 68, 84, 100, 116, 164, 21, 37, 53, 69] : List Int))
set_option maxHeartbeats 8000000 in
set_option maxRecDepth 100000 in
theorem fairleadref03_WithX.calls  (r : List Int) (w : World) (h : fairleadref03_WithX.f  = some r) :
  Calls Try.prog 45 #[] w fun e w' => ∃ v0_ : Value, e = .returned (v0_) ∧ Kd.R (Kd.int .u16) 33 w' w.heap.size (fun _ => True) v0_ r ∧ Below w.heap.size w w' := by
 have HB := Aside0.mk (Below.refl w.heap.size w)
 have H : (some (([4, 20, 36, 52, 68, 84, 100, 116, 164, 21, 37, 53, 69] : List Int))) = some r := h
 clear h
 obtain ⟨y159, hy159⟩ : ∃ y_ : List Int, y_ = (([4, 20, 36, 52, 68, 84, 100, 116, 164, 21, 37, 53, 69] : List Int)) := ⟨_, rfl⟩
 replace H : (some y159) = some r := by first | (rw [hy159]; with_reducible exact H) | (have H2_ := (Option.bind_some _ _).symm.trans H; rw [hy159]; with_reducible exact H2_) | (have H2_ := (Option.bind_some _ _).symm.trans H; with_reducible exact H2_) | with_reducible exact H | (rw [hy159]; exact H) | exact H
 have Ny159 := Aside0.mk hy159
 clear hy159
 obtain rfl := Option.some.inj H
 go_enter Try.func45, Try.ntmps45
 go_wp2_with (first | ((with_reducible refine gate_dst (N := 1) rfl ?_); refine Kd.R_lit (Kd.int .u16) _ 33 ?hg (N := 1) ?hd (xs := ([4, 20, 36, 52, 68, 84, 100, 116, 164, 21, 37, 53, 69] : List Int)) (inner := [.int .u16 4, .int .u16 20, .int .u16 36, .int .u16 52, .int .u16 68, .int .u16 84, .int .u16 100, .int .u16 116, .int .u16 164, .int .u16 21, .int .u16 37, .int .u16 53, .int .u16 69]) (ok := fun _ => True) (okp := fun _ => True) ?hr ?hp (fun _ hk => hk) trivial (Below.refl _ _) (Nat.le_refl _) (by simp) ?_; (case hd => rfl); (case hg => rfl); (case hr => first | (go_simp; done) | (go_simp; rfl)); (case hp => exact (Reps.one (show Kd.M (Kd.int .u16) _ _ _ 4 [.int .u16 4] from rfl) (Reps.one (show Kd.M (Kd.int .u16) _ _ _ 20 [.int .u16 20] from rfl) (Reps.one (show Kd.M (Kd.int .u16) _ _ _ 36 [.int .u16 36] from rfl) (Reps.one (show Kd.M (Kd.int .u16) _ _ _ 52 [.int .u16 52] from rfl) (Reps.one (show Kd.M (Kd.int .u16) _ _ _ 68 [.int .u16 68] from rfl) (Reps.one (show Kd.M (Kd.int .u16) _ _ _ 84 [.int .u16 84] from rfl) (Reps.one (show Kd.M (Kd.int .u16) _ _ _ 100 [.int .u16 100] from rfl) (Reps.one (show Kd.M (Kd.int .u16) _ _ _ 116 [.int .u16 116] from rfl) (Reps.one (show Kd.M (Kd.int .u16) _ _ _ 164 [.int .u16 164] from rfl) (Reps.one (show Kd.M (Kd.int .u16) _ _ _ 21 [.int .u16 21] from rfl) (Reps.one (show Kd.M (Kd.int .u16) _ _ _ 37 [.int .u16 37] from rfl) (Reps.one (show Kd.M (Kd.int .u16) _ _ _ 53 [.int .u16 53] from rfl) (Reps.one (show Kd.M (Kd.int .u16) _ _ _ 69 [.int .u16 69] from rfl) (Reps.none _ _))))))))))))))); intro v160 w1 ho2 hb hg_ hnew_; clear hg_ hnew_; (first | rw [← Ny159.out] at ho2 | (simp only [Int.reduceToNat] at ho2; rw [← Ny159.out] at ho2)); have n0_ := Aside0.mk (Kd.R_lower ho2 (below_size (by repeat (first | (with_reducible first | exact HB.out | apply below_alloc | apply pw_below_drewN | apply below_drew1) | exact HB.out)))); have n1_ := Aside0.mk (below_step (by repeat (first | (with_reducible first | exact HB.out | apply below_alloc | apply pw_below_drewN | apply below_drew1) | exact HB.out)) hb); clear HB; have HO161 := n0_; have HB := n1_; clear n0_ n1_; clear hb ho2))
 go_ret
 exact ⟨_, by first | rfl | (simp [errW_none, errW_some] <;> rfl) | (simp [*, errW_none, errW_some] <;> rfl), by (with_reducible repeat (first | apply Kd.R_alloc | apply Kd.R_drewN | apply Kd.R_drew)); exact HO161.out, by repeat (first | (with_reducible first | exact HB.out | apply below_alloc | apply pw_below_drewN | apply below_drew1) | exact HB.out)⟩

/-! ### fairleadref03_Known: function 34 -/
def fairleadref03_Known.f (k : Nat) (a0 : Int) : Option (Bool) := (fairleadref03_Plain.f).bind fun t162 => ((fairleadref03_Has.f k t162 a0).bind fun t165 => (if t165 = true then (some true) else (if a0 ≥ 8 then ((fairleadref03_WithX.f).bind fun t166 => ((fairleadref03_Has.f k t166 (IntKind.u16.wrap (a0 - 8))).bind fun t169 => (some t169))) else (some false))))
theorem fairleadref03_Known.mono : ∀ a0 k, LeO (fairleadref03_Known.f k a0) (fairleadref03_Known.f (k + 1) a0) := by
 intro a0 k
 unfold fairleadref03_Known.f
 repeat' first
   | (with_reducible exact fairleadref03_Has.mono _ _ _)
   | (with_reducible exact LeO.refl _)
   | (with_reducible exact LeO.none _)
   | (with_reducible refine LeO.ite ?_ ?_)
   | (with_reducible refine LeO.bind ?_ (fun _ => ?_))
   | exact fairleadref03_Has.mono _ _ _
   | exact LeO.none _
   | refine LeO.ite ?_ ?_
   | refine LeO.bind ?_ (fun _ => ?_)
set_option maxHeartbeats 8000000 in
set_option maxRecDepth 100000 in
theorem fairleadref03_Known.calls (k : Nat) (a0 : Int) (r : Bool) (w : World) (h : fairleadref03_Known.f k a0 = some r) :
  Calls Try.prog 34 #[.int .u16 a0] w fun e w' => e = .returned (.bool r) ∧ Below w.heap.size w w' := by
 have HB := Aside0.mk (Below.refl w.heap.size w)
 have H : ((fairleadref03_Plain.f).bind fun t162 => ((fairleadref03_Has.f k t162 a0).bind fun t165 => (if t165 = true then (some true) else (if a0 ≥ 8 then ((fairleadref03_WithX.f).bind fun t166 => ((fairleadref03_Has.f k t166 (IntKind.u16.wrap (a0 - 8))).bind fun t169 => (some t169))) else (some false))))) = some r := h
 clear h
 replace H := Option.bind_eq_some_iff.mp H
 obtain ⟨t162, A20, H⟩ := H
 replace H : ((fairleadref03_Has.f k t162 a0).bind fun t165 => (if t165 = true then (some true) else (if a0 ≥ 8 then ((fairleadref03_WithX.f).bind fun t166 => ((fairleadref03_Has.f k t166 (IntKind.u16.wrap (a0 - 8))).bind fun t169 => (some t169))) else (some false)))) = some r := H
 have A2 := Aside0.mk A20
 clear A20
 replace H := Option.bind_eq_some_iff.mp H
 obtain ⟨t165, A30, H⟩ := H
 replace H : (if t165 = true then (some true) else (if a0 ≥ 8 then ((fairleadref03_WithX.f).bind fun t166 => ((fairleadref03_Has.f k t166 (IntKind.u16.wrap (a0 - 8))).bind fun t169 => (some t169))) else (some false))) = some r := H
 have A3 := Aside0.mk A30
 clear A30
 by_cases c4 : t165 = true
 ·subst c4
  have H1 : (some true) = some r := by rw [if_pos rfl] at H; exact H
  clear H
  have H := H1
  clear H1
  obtain rfl := Option.some.inj H
  go_enter Try.func34, Try.ntmps34
  go_wp2_with (first | ((with_reducible refine gate_callee (f := 44) rfl ?_); refine goesL_ (some 3) rfl rfl Try.func44 (by kernel_rfl) rfl #[] rfl (by (try simp only [List.map_toArray, List.map_cons, List.map_nil]); first | done | rfl | (simp only [List.length_drop, List.length_take]; rfl)) ?_; (with_reducible refine (fairleadref03_Plain.calls  t162 _ A2.out).mono ?_); rintro e w5 ⟨v163, rfl, ho0, hb⟩; refine ⟨_, rfl, ?_⟩; have n0_ := Aside0.mk (Kd.R_lower ho0 (below_size (by repeat (first | (with_reducible first | exact HB.out | apply below_alloc | apply pw_below_drewN | apply below_drew1) | exact HB.out)))); have n1_ := Aside0.mk (below_step (by repeat (first | (with_reducible first | exact HB.out | apply below_alloc | apply pw_below_drewN | apply below_drew1) | exact HB.out)) hb); clear HB; have HO164 := n0_; have HB := n1_; clear n0_ n1_; (try clear hb); (try clear hb2); (try clear hk); (try clear hi); (try clear ho0); obtain ⟨Ao6, co6, eo6⟩ := Kd.R_slice HO164.out; subst eo6) | ((with_reducible refine gate_callee (f := 43) rfl ?_); refine goesL_ (some 5) rfl rfl Try.func43 (by kernel_rfl) rfl #[.slice Ao6 t162.length co6, .int .u16 a0] rfl (by (try simp only [List.map_toArray, List.map_cons, List.map_nil]); first | done | rfl | (simp only [List.length_drop, List.length_take]; rfl)) ?_; (with_reducible refine (fairleadref03_Has.calls k _ _ t162 a0 true _ ?side1 ?side2 A3.out).mono ?_); (case side1 => repeat (first | exact (Kd.R_reads' HO164.out).2.2 | (with_reducible refine Kd.C_alloc ?_ _) | (with_reducible refine Kd.C_drewN ?_ _) | (with_reducible refine Kd.C_drew ?_))); (case side2 => exact (Kd.R_reads' HO164.out).2.1); rintro e w' ⟨rfl, ⟨nd, rfl⟩⟩; refine ⟨_, rfl, ?_⟩))
  go_ret
  exact ⟨by first | rfl | (simp [errW_none, errW_some] <;> rfl) | (simp [*, errW_none, errW_some] <;> rfl), by repeat (first | (with_reducible first | exact HB.out | apply below_alloc | apply pw_below_drewN | apply below_drew1) | exact HB.out)⟩
 ·replace c4 := Bool.eq_false_iff.mpr c4
  subst c4
  have H1 : (if a0 ≥ 8 then ((fairleadref03_WithX.f).bind fun t166 => ((fairleadref03_Has.f k t166 (IntKind.u16.wrap (a0 - 8))).bind fun t169 => (some t169))) else (some false)) = some r := by rw [if_neg (show ¬ (false = true) by decide)] at H; exact H
  clear H
  have H := H1
  clear H1
  by_cases c7 : a0 ≥ 8
  ·rw [if_pos c7] at H
   have c7b0 : decide (8 ≤ a0) = true := decide_eq_true c7
   clear c7
   replace H := Option.bind_eq_some_iff.mp H
   obtain ⟨t166, A80, H⟩ := H
   replace H : ((fairleadref03_Has.f k t166 (IntKind.u16.wrap (a0 - 8))).bind fun t169 => (some t169)) = some r := H
   have A8 := Aside0.mk A80
   clear A80
   replace H := Option.bind_eq_some_iff.mp H
   obtain ⟨t169, A90, H⟩ := H
   replace H : (some t169) = some r := H
   have A9 := Aside0.mk A90
   clear A90
   obtain rfl := Option.some.inj H
   go_enter Try.func34, Try.ntmps34
   go_wp2_with (first | ((with_reducible refine gate_callee (f := 44) rfl ?_); refine goesL_ (some 3) rfl rfl Try.func44 (by kernel_rfl) rfl #[] rfl (by (try simp only [List.map_toArray, List.map_cons, List.map_nil]); first | done | rfl | (simp only [List.length_drop, List.length_take]; rfl)) ?_; (with_reducible refine (fairleadref03_Plain.calls  t162 _ A2.out).mono ?_); rintro e w10 ⟨v163, rfl, ho0, hb⟩; refine ⟨_, rfl, ?_⟩; have n0_ := Aside0.mk (Kd.R_lower ho0 (below_size (by repeat (first | (with_reducible first | exact HB.out | apply below_alloc | apply pw_below_drewN | apply below_drew1) | exact HB.out)))); have n1_ := Aside0.mk (below_step (by repeat (first | (with_reducible first | exact HB.out | apply below_alloc | apply pw_below_drewN | apply below_drew1) | exact HB.out)) hb); clear HB; have HO164 := n0_; have HB := n1_; clear n0_ n1_; (try clear hb); (try clear hb2); (try clear hk); (try clear hi); (try clear ho0); obtain ⟨Ao11, co11, eo11⟩ := Kd.R_slice HO164.out; subst eo11) | ((with_reducible refine gate_callee (f := 43) rfl ?_); refine goesL_ (some 5) rfl rfl Try.func43 (by kernel_rfl) rfl #[.slice Ao11 t162.length co11, .int .u16 a0] rfl (by (try simp only [List.map_toArray, List.map_cons, List.map_nil]); first | done | rfl | (simp only [List.length_drop, List.length_take]; rfl)) ?_; (with_reducible refine (fairleadref03_Has.calls k _ _ t162 a0 false _ ?side1 ?side2 A3.out).mono ?_); (case side1 => repeat (first | exact (Kd.R_reads' HO164.out).2.2 | (with_reducible refine Kd.C_alloc ?_ _) | (with_reducible refine Kd.C_drewN ?_ _) | (with_reducible refine Kd.C_drew ?_))); (case side2 => exact (Kd.R_reads' HO164.out).2.1); rintro e w' ⟨rfl, ⟨nd, rfl⟩⟩; refine ⟨_, rfl, ?_⟩) | (go_at_call 45; (with_reducible refine (fairleadref03_WithX.calls  t166 _ A8.out).mono ?_); rintro e w12 ⟨v167, rfl, ho0, hb⟩; have n0_ := Aside0.mk (Kd.R_elder' (by (with_reducible repeat (first | apply Kd.R_alloc | apply Kd.R_drewN | apply Kd.R_drew)); exact HO164.out) (Kd.R_base ho0) hb); have n1_ := Aside0.mk (Kd.R_lower (Kd.R_new' ho0 (Kd.R_lt (by (with_reducible repeat (first | apply Kd.R_alloc | apply Kd.R_drewN | apply Kd.R_drew)); exact HO164.out))) (below_size (by repeat (first | (with_reducible first | exact HB.out | apply below_alloc | apply pw_below_drewN | apply below_drew1) | exact HB.out)))); have n2_ := Aside0.mk (below_step (by repeat (first | (with_reducible first | exact HB.out | apply below_alloc | apply pw_below_drewN | apply below_drew1) | exact HB.out)) hb); clear HO164; clear HB; have HO164 := n0_; have HO168 := n1_; have HB := n2_; clear n0_ n1_ n2_; (try clear hb); (try clear hb2); (try clear hk); (try clear hi); (try clear ho0); obtain ⟨Ao13, co13, eo13⟩ := Kd.R_slice HO168.out; subst eo13) | (go_at_call 43; (with_reducible refine (fairleadref03_Has.calls k _ _ t166 (IntKind.u16.wrap (a0 - 8)) t169 _ ?side1 ?side2 A9.out).mono ?_); (case side1 => repeat (first | exact (Kd.R_reads' HO168.out).2.2 | (with_reducible refine Kd.C_alloc ?_ _) | (with_reducible refine Kd.C_drewN ?_ _) | (with_reducible refine Kd.C_drew ?_))); (case side2 => exact (Kd.R_reads' HO168.out).2.1); rintro e w' ⟨rfl, ⟨nd, rfl⟩⟩))
   go_ret
   exact ⟨by first | rfl | (simp [errW_none, errW_some] <;> rfl) | (simp [*, errW_none, errW_some] <;> rfl), by repeat (first | (with_reducible first | exact HB.out | apply below_alloc | apply pw_below_drewN | apply below_drew1) | exact HB.out)⟩
  ·rw [if_neg c7] at H
   have c7b0 : decide (8 ≤ a0) = false := decide_eq_false c7
   clear c7
   obtain rfl := Option.some.inj H
   go_enter Try.func34, Try.ntmps34
   go_wp2_with (first | ((with_reducible refine gate_callee (f := 44) rfl ?_); refine goesL_ (some 3) rfl rfl Try.func44 (by kernel_rfl) rfl #[] rfl (by (try simp only [List.map_toArray, List.map_cons, List.map_nil]); first | done | rfl | (simp only [List.length_drop, List.length_take]; rfl)) ?_; (with_reducible refine (fairleadref03_Plain.calls  t162 _ A2.out).mono ?_); rintro e w14 ⟨v163, rfl, ho0, hb⟩; refine ⟨_, rfl, ?_⟩; have n0_ := Aside0.mk (Kd.R_lower ho0 (below_size (by repeat (first | (with_reducible first | exact HB.out | apply below_alloc | apply pw_below_drewN | apply below_drew1) | exact HB.out)))); have n1_ := Aside0.mk (below_step (by repeat (first | (with_reducible first | exact HB.out | apply below_alloc | apply pw_below_drewN | apply below_drew1) | exact HB.out)) hb); clear HB; have HO164 := n0_; have HB := n1_; clear n0_ n1_; (try clear hb); (try clear hb2); (try clear hk); (try clear hi); (try clear ho0); obtain ⟨Ao15, co15, eo15⟩ := Kd.R_slice HO164.out; subst eo15) | ((with_reducible refine gate_callee (f := 43) rfl ?_); refine goesL_ (some 5) rfl rfl Try.func43 (by kernel_rfl) rfl #[.slice Ao15 t162.length co15, .int .u16 a0] rfl (by (try simp only [List.map_toArray, List.map_cons, List.map_nil]); first | done | rfl | (simp only [List.length_drop, List.length_take]; rfl)) ?_; (with_reducible refine (fairleadref03_Has.calls k _ _ t162 a0 false _ ?side1 ?side2 A3.out).mono ?_); (case side1 => repeat (first | exact (Kd.R_reads' HO164.out).2.2 | (with_reducible refine Kd.C_alloc ?_ _) | (with_reducible refine Kd.C_drewN ?_ _) | (with_reducible refine Kd.C_drew ?_))); (case side2 => exact (Kd.R_reads' HO164.out).2.1); rintro e w' ⟨rfl, ⟨nd, rfl⟩⟩; refine ⟨_, rfl, ?_⟩))
   go_ret
   exact ⟨by first | rfl | (simp [errW_none, errW_some] <;> rfl) | (simp [*, errW_none, errW_some] <;> rfl), by repeat (first | (with_reducible first | exact HB.out | apply below_alloc | apply pw_below_drewN | apply below_drew1) | exact HB.out)⟩

/-! ### fairleadref03_Jumps: function 35 -/
def fairleadref03_Jumps.f (a0 : Int) : Option (Bool) := if a0 = 5 then (some true) else (if a0 = 21 then (some true) else (if a0 = 37 then (some true) else (if a0 = 53 then (some true) else (if a0 = 69 then (some true) else (if a0 = 29 then (some true) else (if a0 = 45 then (some true) else (if a0 = 61 then (some true) else (some (a0 == 77)))))))))
set_option maxHeartbeats 8000000 in
set_option maxRecDepth 100000 in
theorem fairleadref03_Jumps.calls (a0 : Int) (r : Bool) (w : World) (h : fairleadref03_Jumps.f a0 = some r) :
  Calls Try.prog 35 #[.int .u16 a0] w fun e w' => e = .returned (.bool r) ∧ Drawn0 w w' := by
 have H : (if a0 = 5 then (some true) else (if a0 = 21 then (some true) else (if a0 = 37 then (some true) else (if a0 = 53 then (some true) else (if a0 = 69 then (some true) else (if a0 = 29 then (some true) else (if a0 = 45 then (some true) else (if a0 = 61 then (some true) else (some (a0 == 77)))))))))) = some r := h
 clear h
 by_cases c2 : a0 = 5
 ·rw [if_pos c2] at H
  have c2b0 : (a0 == 5) = true := beq_iff_eq.mpr c2
  have c2b1 : (a0 != 5) = false := bne_eq_false_iff_eq.mpr c2
  clear c2
  obtain rfl := Option.some.inj H
  go_enter Try.func35, Try.ntmps35
  go_wp2
  go_ret
  exact ⟨by first | rfl | (simp; done) | (simp [*]; done), by repeat (first | exact Drawn0.refl _ | apply Drawn0.step)⟩
 ·rw [if_neg c2] at H
  have c2b0 : (a0 == 5) = false := beq_eq_false_iff_ne.mpr c2
  have c2b1 : (a0 != 5) = true := bne_iff_ne.mpr c2
  by_cases c3 : a0 = 21
  ·rw [if_pos c3] at H
   have c3b0 : (a0 == 21) = true := beq_iff_eq.mpr c3
   have c3b1 : (a0 != 21) = false := bne_eq_false_iff_eq.mpr c3
   clear c3
   obtain rfl := Option.some.inj H
   go_enter Try.func35, Try.ntmps35
   go_wp2
   go_ret
   exact ⟨by first | rfl | (simp; done) | (simp [*]; done), by repeat (first | exact Drawn0.refl _ | apply Drawn0.step)⟩
  ·rw [if_neg c3] at H
   have c3b0 : (a0 == 21) = false := beq_eq_false_iff_ne.mpr c3
   have c3b1 : (a0 != 21) = true := bne_iff_ne.mpr c3
   by_cases c4 : a0 = 37
   ·rw [if_pos c4] at H
    have c4b0 : (a0 == 37) = true := beq_iff_eq.mpr c4
    have c4b1 : (a0 != 37) = false := bne_eq_false_iff_eq.mpr c4
    clear c4
    obtain rfl := Option.some.inj H
    go_enter Try.func35, Try.ntmps35
    go_wp2
    go_ret
    exact ⟨by first | rfl | (simp; done) | (simp [*]; done), by repeat (first | exact Drawn0.refl _ | apply Drawn0.step)⟩
   ·rw [if_neg c4] at H
    have c4b0 : (a0 == 37) = false := beq_eq_false_iff_ne.mpr c4
    have c4b1 : (a0 != 37) = true := bne_iff_ne.mpr c4
    by_cases c5 : a0 = 53
    ·rw [if_pos c5] at H
     have c5b0 : (a0 == 53) = true := beq_iff_eq.mpr c5
     have c5b1 : (a0 != 53) = false := bne_eq_false_iff_eq.mpr c5
     clear c5
     obtain rfl := Option.some.inj H
     go_enter Try.func35, Try.ntmps35
     go_wp2
     go_ret
     exact ⟨by first | rfl | (simp; done) | (simp [*]; done), by repeat (first | exact Drawn0.refl _ | apply Drawn0.step)⟩
    ·rw [if_neg c5] at H
     have c5b0 : (a0 == 53) = false := beq_eq_false_iff_ne.mpr c5
     have c5b1 : (a0 != 53) = true := bne_iff_ne.mpr c5
     by_cases c6 : a0 = 69
     ·rw [if_pos c6] at H
      have c6b0 : (a0 == 69) = true := beq_iff_eq.mpr c6
      have c6b1 : (a0 != 69) = false := bne_eq_false_iff_eq.mpr c6
      clear c6
      obtain rfl := Option.some.inj H
      go_enter Try.func35, Try.ntmps35
      go_wp2
      go_ret
      exact ⟨by first | rfl | (simp; done) | (simp [*]; done), by repeat (first | exact Drawn0.refl _ | apply Drawn0.step)⟩
     ·rw [if_neg c6] at H
      have c6b0 : (a0 == 69) = false := beq_eq_false_iff_ne.mpr c6
      have c6b1 : (a0 != 69) = true := bne_iff_ne.mpr c6
      by_cases c7 : a0 = 29
      ·rw [if_pos c7] at H
       have c7b0 : (a0 == 29) = true := beq_iff_eq.mpr c7
       have c7b1 : (a0 != 29) = false := bne_eq_false_iff_eq.mpr c7
       clear c7
       obtain rfl := Option.some.inj H
       go_enter Try.func35, Try.ntmps35
       go_wp2
       go_ret
       exact ⟨by first | rfl | (simp; done) | (simp [*]; done), by repeat (first | exact Drawn0.refl _ | apply Drawn0.step)⟩
      ·rw [if_neg c7] at H
       have c7b0 : (a0 == 29) = false := beq_eq_false_iff_ne.mpr c7
       have c7b1 : (a0 != 29) = true := bne_iff_ne.mpr c7
       by_cases c8 : a0 = 45
       ·rw [if_pos c8] at H
        have c8b0 : (a0 == 45) = true := beq_iff_eq.mpr c8
        have c8b1 : (a0 != 45) = false := bne_eq_false_iff_eq.mpr c8
        clear c8
        obtain rfl := Option.some.inj H
        go_enter Try.func35, Try.ntmps35
        go_wp2
        go_ret
        exact ⟨by first | rfl | (simp; done) | (simp [*]; done), by repeat (first | exact Drawn0.refl _ | apply Drawn0.step)⟩
       ·rw [if_neg c8] at H
        have c8b0 : (a0 == 45) = false := beq_eq_false_iff_ne.mpr c8
        have c8b1 : (a0 != 45) = true := bne_iff_ne.mpr c8
        by_cases c9 : a0 = 61
        ·rw [if_pos c9] at H
         have c9b0 : (a0 == 61) = true := beq_iff_eq.mpr c9
         have c9b1 : (a0 != 61) = false := bne_eq_false_iff_eq.mpr c9
         clear c9
         obtain rfl := Option.some.inj H
         go_enter Try.func35, Try.ntmps35
         go_wp2
         go_ret
         exact ⟨by first | rfl | (simp; done) | (simp [*]; done), by repeat (first | exact Drawn0.refl _ | apply Drawn0.step)⟩
        ·rw [if_neg c9] at H
         have c9b0 : (a0 == 61) = false := beq_eq_false_iff_ne.mpr c9
         have c9b1 : (a0 != 61) = true := bne_iff_ne.mpr c9
         obtain rfl := Option.some.inj H
         go_enter Try.func35, Try.ntmps35
         go_wp2
         go_ret
         exact ⟨by first | rfl | (simp; done) | (simp [*]; done), by repeat (first | exact Drawn0.refl _ | apply Drawn0.step)⟩

/-! ### fairleadref03_Ends: function 36 -/
def fairleadref03_Ends.f (a0 : Int) : Option (Bool) := if a0 = 6 then (some true) else (some (a0 == 22))
set_option maxHeartbeats 8000000 in
set_option maxRecDepth 100000 in
theorem fairleadref03_Ends.calls (a0 : Int) (r : Bool) (w : World) (h : fairleadref03_Ends.f a0 = some r) :
  Calls Try.prog 36 #[.int .u16 a0] w fun e w' => e = .returned (.bool r) ∧ Drawn0 w w' := by
 have H : (if a0 = 6 then (some true) else (some (a0 == 22))) = some r := h
 clear h
 by_cases c2 : a0 = 6
 ·rw [if_pos c2] at H
  have c2b0 : (a0 == 6) = true := beq_iff_eq.mpr c2
  have c2b1 : (a0 != 6) = false := bne_eq_false_iff_eq.mpr c2
  clear c2
  obtain rfl := Option.some.inj H
  go_enter Try.func36, Try.ntmps36
  go_wp2
  go_ret
  exact ⟨by first | rfl | (simp; done) | (simp [*]; done), by repeat (first | exact Drawn0.refl _ | apply Drawn0.step)⟩
 ·rw [if_neg c2] at H
  have c2b0 : (a0 == 6) = false := beq_eq_false_iff_ne.mpr c2
  have c2b1 : (a0 != 6) = true := bne_iff_ne.mpr c2
  obtain rfl := Option.some.inj H
  go_enter Try.func36, Try.ntmps36
  go_wp2
  go_ret
  exact ⟨by first | rfl | (simp; done) | (simp [*]; done), by repeat (first | exact Drawn0.refl _ | apply Drawn0.step)⟩

end Go.Proofs.Ytdlmnmhlgacpnaa.M
