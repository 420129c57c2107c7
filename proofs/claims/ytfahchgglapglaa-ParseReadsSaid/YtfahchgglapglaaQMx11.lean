-- Laid by a program (wip/tools/myprint.py) out of the loaded program's own print: for each Go function a Lean function and the proof of its contract.
import Derived.Test.YtfahchgglapglaaQMx0
import Derived.Test.YtfahchgglapglaaQMx1
import Derived.Test.YtfahchgglapglaaQMx2
import Derived.Test.YtfahchgglapglaaQMx10
namespace Go.Proofs.Ytfahchgglapglaa.M
open Go.RowKit Go.Proofs.YtfahchgglapglaaW.PrintWords Go.Proofs.YtfahchgglapglaaW.PrintLast Go.Proofs.YtfahchgglapglaaW.PrintMore
attribute [local go_sem] max2_int min2_int max_two min_two max_three min_three max_four min_four   -- for this text's walks alone
set_option linter.unusedVariables false
set_option linter.unusedSimpArgs false
attribute [local go_sem high] eqA24 eqA46
def fairleadlaw10_awake.f (k : Nat)  : Option (Bool) := (parse_Parse.f k (⟨#[100, 101, 102, 97, 117, 108, 116, 32, 107, 105, 108, 108, 59, 32, 97, 108, 108, 111, 119, 32, 114, 101, 97, 100, 44, 32, 119, 114, 105, 116, 101, 59, 32, 101, 114, 114, 110, 111, 32, 49, 51, 32, 111, 112, 101, 110, 32, 119, 104, 101, 110, 32, 97, 114, 103, 49, 32, 38, 32, 51, 32, 33, 61, 32, 48, 59]⟩ : ByteArray)).bind fun bt126 => (if bt126.2.2.2.1 = 0 then (if bt126.2.2.2.2 = (-1) then (if (bt126.2.2.1.length : Int) = 2 then (if 1 < (bt126.2.2.1.length : Int) then (if (((rd_T44 bt126.2.2.1 1).f0.f0) == 4 && (((rd_T44 bt126.2.2.1 1).f0.f1) == 13)) = true then (if (((rd_T44 bt126.2.2.1 1).f2).length : Int) = 1 then (if 0 < (((rd_T44 bt126.2.2.1 1).f2).length : Int) then (some (((rd_T46 ((rd_T44 bt126.2.2.1 1).f2) 0).f0) == 1 && (((rd_T46 ((rd_T44 bt126.2.2.1 1).f2) 0).f1) == 2 && (((rd_T46 ((rd_T44 bt126.2.2.1 1).f2) 0).f2) == 3 && (((rd_T46 ((rd_T44 bt126.2.2.1 1).f2) 0).f3) == 0))))) else (none)) else (some false)) else (some false)) else (none)) else (some false)) else (some false)) else (some false))
set_option maxHeartbeats 8000000 in
set_option maxRecDepth 100000 in
theorem fairleadlaw10_awake.calls (k : Nat)  (r : Bool) (w : World) (h : fairleadlaw10_awake.f k  = some r) :
  Calls Try.prog 9 #[] w fun e w' => e = .returned (.bool r) ∧ Below w.heap.size w w' := by
 have hu27 := Try.underlying27
 have hu24 := Try.underlying24
 have hu46 := Try.underlying46
 have HB := Aside0.mk (Below.refl w.heap.size w)
 have H : ((parse_Parse.f k (⟨#[100, 101, 102, 97, 117, 108, 116, 32, 107, 105, 108, 108, 59, 32, 97, 108, 108, 111, 119, 32, 114, 101, 97, 100, 44, 32, 119, 114, 105, 116, 101, 59, 32, 101, 114, 114, 110, 111, 32, 49, 51, 32, 111, 112, 101, 110, 32, 119, 104, 101, 110, 32, 97, 114, 103, 49, 32, 38, 32, 51, 32, 33, 61, 32, 48, 59]⟩ : ByteArray)).bind fun bt126 => (if bt126.2.2.2.1 = 0 then (if bt126.2.2.2.2 = (-1) then (if (bt126.2.2.1.length : Int) = 2 then (if 1 < (bt126.2.2.1.length : Int) then (if (((rd_T44 bt126.2.2.1 1).f0.f0) == 4 && (((rd_T44 bt126.2.2.1 1).f0.f1) == 13)) = true then (if (((rd_T44 bt126.2.2.1 1).f2).length : Int) = 1 then (if 0 < (((rd_T44 bt126.2.2.1 1).f2).length : Int) then (some (((rd_T46 ((rd_T44 bt126.2.2.1 1).f2) 0).f0) == 1 && (((rd_T46 ((rd_T44 bt126.2.2.1 1).f2) 0).f1) == 2 && (((rd_T46 ((rd_T44 bt126.2.2.1 1).f2) 0).f2) == 3 && (((rd_T46 ((rd_T44 bt126.2.2.1 1).f2) 0).f3) == 0))))) else (none)) else (some false)) else (some false)) else (none)) else (some false)) else (some false)) else (some false))) = some r := h
 clear h
 replace H := Option.bind_eq_some_iff.mp H
 obtain ⟨⟨t126, t127, t128, t131, t132⟩, A10, H⟩ := H
 replace H : (if t131 = 0 then (if t132 = (-1) then (if (t128.length : Int) = 2 then (if 1 < (t128.length : Int) then (if (((rd_T44 t128 1).f0.f0) == 4 && (((rd_T44 t128 1).f0.f1) == 13)) = true then (if (((rd_T44 t128 1).f2).length : Int) = 1 then (if 0 < (((rd_T44 t128 1).f2).length : Int) then (some (((rd_T46 ((rd_T44 t128 1).f2) 0).f0) == 1 && (((rd_T46 ((rd_T44 t128 1).f2) 0).f1) == 2 && (((rd_T46 ((rd_T44 t128 1).f2) 0).f2) == 3 && (((rd_T46 ((rd_T44 t128 1).f2) 0).f3) == 0))))) else (none)) else (some false)) else (some false)) else (none)) else (some false)) else (some false)) else (some false)) = some r := H
 have A1 := Aside0.mk A10
 clear A10
 by_cases c2 : t131 = 0
 ·rw [if_pos c2] at H
  have c2b0 : (t131 == 0) = true := beq_iff_eq.mpr c2
  have c2b1 : (t131 != 0) = false := bne_eq_false_iff_eq.mpr c2
  clear c2
  by_cases c3 : t132 = (-1)
  ·rw [if_pos c3] at H
   have c3b0 : (t132 == (-1)) = true := beq_iff_eq.mpr c3
   have c3b1 : (t132 != (-1)) = false := bne_eq_false_iff_eq.mpr c3
   clear c3
   by_cases c4 : (t128.length : Int) = 2
   ·rw [if_pos c4] at H
    have c4b0 : ((t128.length : Int) == 2) = true := beq_iff_eq.mpr c4
    have c4b1 : ((t128.length : Int) != 2) = false := bne_eq_false_iff_eq.mpr c4
    clear c4
    by_cases c5 : 1 < (t128.length : Int)
    ·rw [if_pos c5] at H
     have c5b0 : decide (1 < (t128.length : Int)) = true := decide_eq_true c5
     have c5b1 : decide (1 < t128.length) = true := decide_eq_true (by omega)
     clear c5
     by_cases c6 : (((rd_T44 t128 1).f0.f0) == 4 && (((rd_T44 t128 1).f0.f1) == 13)) = true
     ·rw [if_pos c6] at H
      have c6b0 : (((rd_T44 t128 1).f0.f0) == 4 && (((rd_T44 t128 1).f0.f1) == 13)) = true := c6
      (try (have c6b1 : decide (((rd_T44 t128 1).f0.f0) = 4 && (((rd_T44 t128 1).f0.f1) == 13)) = true := by simpa using c6))
      (try (have c6b2 : (((rd_T44 t128 1).f0.f0) == 4 && (((rd_T44 t128 1).f0.f1) == 13)) = true := by simpa using c6))
      clear c6
      by_cases c7 : (((rd_T44 t128 1).f2).length : Int) = 1
      ·rw [if_pos c7] at H
       have c7b0 : ((((rd_T44 t128 1).f2).length : Int) == 1) = true := beq_iff_eq.mpr c7
       have c7b1 : ((((rd_T44 t128 1).f2).length : Int) != 1) = false := bne_eq_false_iff_eq.mpr c7
       clear c7
       by_cases c8 : 0 < (((rd_T44 t128 1).f2).length : Int)
       ·rw [if_pos c8] at H
        have c8b0 : decide (0 < (((rd_T44 t128 1).f2).length : Int)) = true := decide_eq_true c8
        have c8b1 : decide (0 < ((rd_T44 t128 1).f2).length) = true := decide_eq_true (by omega)
        clear c8
        obtain rfl := Option.some.inj H
        go_enter Try.func9, Try.ntmps9
        go_wp2_with (first | ((with_reducible refine gate_callee (f := 10) rfl ?_); refine goesL_ (some 5) rfl rfl Try.func10 (by kernel_rfl) rfl #[.string (⟨#[100, 101, 102, 97, 117, 108, 116, 32, 107, 105, 108, 108, 59, 32, 97, 108, 108, 111, 119, 32, 114, 101, 97, 100, 44, 32, 119, 114, 105, 116, 101, 59, 32, 101, 114, 114, 110, 111, 32, 49, 51, 32, 111, 112, 101, 110, 32, 119, 104, 101, 110, 32, 97, 114, 103, 49, 32, 38, 32, 51, 32, 33, 61, 32, 48, 59]⟩ : ByteArray)] rfl (by (try simp only [List.map_toArray, List.map_cons, List.map_nil]); first | done | rfl | (simp only [List.length_drop, List.length_take]; rfl)) ?_; (with_reducible refine (parse_Parse.calls k (⟨#[100, 101, 102, 97, 117, 108, 116, 32, 107, 105, 108, 108, 59, 32, 97, 108, 108, 111, 119, 32, 114, 101, 97, 100, 44, 32, 119, 114, 105, 116, 101, 59, 32, 101, 114, 114, 110, 111, 32, 49, 51, 32, 111, 112, 101, 110, 32, 119, 104, 101, 110, 32, 97, 114, 103, 49, 32, 38, 32, 51, 32, 33, 61, 32, 48, 59]⟩ : ByteArray) t126 t127 t128 t131 t132 _ A1.out).mono ?_); rintro e w9 ⟨v129, rfl, ho0, hb⟩; refine ⟨_, rfl, ?_⟩; have n0_ := Aside0.mk (Kd.S_lower ho0 (below_size (by repeat (first | (with_reducible first | exact HB.out | apply below_alloc | apply pw_below_drewN | apply below_drew1) | exact HB.out)))); have n1_ := Aside0.mk (below_step (by repeat (first | (with_reducible first | exact HB.out | apply below_alloc | apply pw_below_drewN | apply below_drew1) | exact HB.out)) hb); clear HB; have HO130 := n0_; have HB := n1_; clear n0_ n1_; (try clear hb); (try clear hb2); (try clear hk); (try clear hi); (try clear ho0)) | ((with_reducible refine gate_dst (N := 1) rfl ?_); (try (refine gate_guard (by rfl) ?_; dsimp only)); refine box_event ?hg (N := 1) ?hd (cs := #[.int .i64 0, .int .i64 0, .slice none 0 0]) (t := 27) ?hr ?_; (case hd => rfl); (case hg => rfl); (case hr => first | (go_simp; done) | (go_simp; rfl)); intro gb133 hg w10 hbox hb; have n0_ := Aside0.mk (Kd.S_below (by (with_reducible repeat (first | apply Kd.S_alloc | apply Kd.S_drewN | apply Kd.S_drew)); exact HO130.out) hb); have n1_ := Aside0.mk (below_step (by repeat (first | (with_reducible first | exact HB.out | apply below_alloc | apply pw_below_drewN | apply below_drew1) | exact HB.out)) hb); have n2_ := Aside0.mk (hbox); have n3_ := Aside0.mk ((by rw [hg]; exact (below_size (by repeat (first | (with_reducible first | exact HB.out | apply below_alloc | apply pw_below_drewN | apply below_drew1) | exact HB.out))) : w.heap.size ≤ gb133)); have n4_ := Aside0.mk ((by rw [hg]; exact (below_size (by repeat (first | (with_reducible first | exact HB.out | apply below_alloc | apply pw_below_drewN | apply below_drew1) | exact HB.out))) : w.heap.size ≤ gb133)); clear HO130; clear HB; have HO130 := n0_; have HB := n1_; have BK133 := n2_; have GW133 := n3_; have GE133 := n4_; clear n0_ n1_ n2_ n3_ n4_; clear hb hbox hg; have hcz11_0 : w10.cell? ⟨gb133, 0, none⟩ = some (.int .i64 0) := (blk_cell BK133.out 0).trans rfl; have hcz11_1 : w10.cell? ⟨gb133, 1, none⟩ = some (.int .i64 0) := (blk_cell BK133.out 1).trans rfl; have hcz11_2 : w10.cell? ⟨gb133, 2, none⟩ = some (.slice none 0 0) := (blk_cell BK133.out 2).trans rfl; have hfz11_0 := blk_frozen BK133.out; obtain ⟨Ao12, co12, eo12⟩ := Kd.S_slice HO130.out; subst eo12) | ((with_reducible refine gate_store (t := 27) (p := 1) rfl ?_); refine store_event (t := 27) (p := 1) (v := ?vo_w13) (w1 := (((w10.setCell ⟨gb133, 0, none⟩ (.int .i64 t126)).setCell ⟨gb133, 1, none⟩ (.int .i64 t127)).setCell ⟨gb133, 2, none⟩ (.slice Ao12 t128.length co12))) ?hg ?ho ?hn ?hr ?_; (case ho => rfl); (case hg => rfl); (case hn => rfl); (case hr => first | (go_simp; done) | (go_simp; rfl)); intro w13 hw; have n0_ : Aside0 (Kd.S k44 44 w13 w.heap.size (fun _ => True) (.slice Ao12 t128.length co12) t128) := ⟨(by rw [hw]; exact (by (with_reducible repeat (first | apply Kd.S_alloc | apply Kd.S_drewN | apply Kd.S_drew)); exact Kd.S_mono (Kd.S_far (p := ⟨gb133, 2, none⟩) (Kd.S_far (p := ⟨gb133, 1, none⟩) (Kd.S_far (p := ⟨gb133, 0, none⟩) (Kd.S_types HO130.out BK133.out (by decide)) (fun _ hk => by first | exact hk.2 | exact hk | exact trivial) (.int .i64 t126)) (fun _ hk => by first | exact hk.2 | exact hk | exact trivial) (.int .i64 t127)) (fun _ hk => by first | exact hk.2 | exact hk | exact trivial) (.slice Ao12 t128.length co12)) (fun _ hk => trivial)))⟩; have n1_ : Aside0 (w13.heap[gb133]? = some (.cells #[.int .i64 t126, .int .i64 t127, .slice Ao12 t128.length co12] 27 (0, 0))) := ⟨(by rw [hw]; exact (by (with_reducible repeat (first | refine blk_drewN ?_ _ | refine blk_drew ?_ | refine blk_alloc ?_ _)); refine blk_put (cs := #[.int .i64 t126, .int .i64 t127, .slice none 0 0]) ?_ 2 _ rfl; (with_reducible repeat (first | refine blk_drewN ?_ _ | refine blk_drew ?_ | refine blk_alloc ?_ _)); refine blk_put (cs := #[.int .i64 t126, .int .i64 0, .slice none 0 0]) ?_ 1 _ rfl; (with_reducible repeat (first | refine blk_drewN ?_ _ | refine blk_drew ?_ | refine blk_alloc ?_ _)); refine blk_put (cs := #[.int .i64 0, .int .i64 0, .slice none 0 0]) ?_ 0 _ rfl; (with_reducible repeat (first | refine blk_drewN ?_ _ | refine blk_drew ?_ | refine blk_alloc ?_ _)); exact BK133.out))⟩; have n2_ : Aside0 (Below w.heap.size w w13) := ⟨(by rw [hw]; exact (by repeat (first | (with_reducible first | exact HB.out | apply below_alloc | apply pw_below_drewN | apply below_drew1 | refine below_set ?_ GE133.out) | exact HB.out)))⟩; clear hw; clear HO130; clear BK133; clear HB; have HO130 := n0_; have BK133 := n1_; have HB := n2_; clear n0_ n1_ n2_; have hcz14_0 : w13.cell? ⟨gb133, 0, none⟩ = some (.int .i64 t126) := (blk_cell BK133.out 0).trans rfl; have hcz14_1 : w13.cell? ⟨gb133, 1, none⟩ = some (.int .i64 t127) := (blk_cell BK133.out 1).trans rfl; have hcz14_2 : w13.cell? ⟨gb133, 2, none⟩ = some (.slice Ao12 t128.length co12) := (blk_cell BK133.out 2).trans rfl; have hfz14_0 := blk_frozen BK133.out; have p134 : 0 ≤ (1 : Int) := (by omega); have q134 : 1 < (t128.length : Int) := of_decide_eq_true (by first | (with_reducible assumption) | assumption); obtain ⟨ad134, A134_2, c134_2, A134_3, c134_3, e134, hx134_0, hx134_1, hx134_2, hx134_3, hl134_2, hi134_2, hl134_3, hi134_3⟩ := at_T44 (Kd.S_reads' HO130.out).2.2 1 p134 q134; cases e134; obtain ⟨ce134, hce134, hMe134, hcc134⟩ := Kd.S_get HO130.out z44 1 p134 (by first | exact q134 | exact of_decide_eq_true (by first | (with_reducible assumption) | assumption) | (have e_ := (Kd.S_reads' HO130.out).1; omega)); obtain ⟨ve134_2, ve134_3, rfl, ge134_2, ge134_3⟩ := k44_openM hMe134; have hv134_2 := hcc134 2 _ rfl; rw [add_field _ _ 2 (by omega)] at hv134_2; replace hv134_2 := Option.some.inj (hv134_2.symm.trans hx134_2); rw [hv134_2] at ge134_2; have HL134_2 := Aside0.mk (show Kd.R Kd.string 9 _ _ _ _ ((rd_T44 t128 1).f1) from ge134_2); clear hv134_2 ge134_2; have hv134_3 := hcc134 3 _ rfl; rw [add_field _ _ 3 (by omega)] at hv134_3; replace hv134_3 := Option.some.inj (hv134_3.symm.trans hx134_3); rw [hv134_3] at ge134_3; have HL134_3 := Aside0.mk (show Kd.R k46 46 _ _ _ _ ((rd_T44 t128 1).f2) from ge134_3); clear hv134_3 ge134_3; clear hcc134 hce134; (try simp only [show (1 : Int).toNat = 1 from rfl, Nat.reduceMul, Nat.reduceEqDiff, Go.Addr.add, ↓reduceIte] at hx134_0); (try simp only [show (1 : Int).toNat = 1 from rfl, Nat.reduceMul, Nat.reduceEqDiff, Go.Addr.add, ↓reduceIte] at hx134_1); (try simp only [show (1 : Int).toNat = 1 from rfl, Nat.reduceMul, Nat.reduceEqDiff, Go.Addr.add, ↓reduceIte] at hx134_2); (try simp only [show (1 : Int).toNat = 1 from rfl, Nat.reduceMul, Nat.reduceEqDiff, Go.Addr.add, ↓reduceIte] at hx134_3); have qi134 : (1 < t128.length) = True := eq_true (by omega); (try rw [show ((1 : Int)).toNat = 1 from rfl] at hx134_0); (try rw [show 1 * 4 = 4 from rfl] at hx134_0); (try rw [show ((1 : Int)).toNat = 1 from rfl] at hx134_1); (try rw [show 1 * 4 = 4 from rfl] at hx134_1); (try rw [show ((1 : Int)).toNat = 1 from rfl] at hx134_2); (try rw [show 1 * 4 = 4 from rfl] at hx134_2); (try rw [show ((1 : Int)).toNat = 1 from rfl] at hx134_3); (try rw [show 1 * 4 = 4 from rfl] at hx134_3); have HR134_2 := Aside0.mk hi134_2; have HC134_2 := Aside0.mk hl134_2; clear hi134_2 hl134_2; have HR134_3 := Aside0.mk hi134_3; have HC134_3 := Aside0.mk hl134_3; clear hi134_3 hl134_3; replace p134 := eq_true p134; replace q134 := eq_true q134; have p135 : 0 ≤ (1 : Int) := (by omega); have q135 : 1 < (t128.length : Int) := of_decide_eq_true (by first | (with_reducible assumption) | assumption); obtain ⟨ad135, A135_2, c135_2, A135_3, c135_3, e135, hx135_0, hx135_1, hx135_2, hx135_3, hl135_2, hi135_2, hl135_3, hi135_3⟩ := at_T44 (Kd.S_reads' HO130.out).2.2 1 p135 q135; obtain rfl : ad134 = ad135 := (by injection e135); obtain ⟨ce135, hce135, hMe135, hcc135⟩ := Kd.S_get HO130.out z44 1 p135 (by first | exact q135 | exact of_decide_eq_true (by first | (with_reducible assumption) | assumption) | (have e_ := (Kd.S_reads' HO130.out).1; omega)); obtain ⟨ve135_2, ve135_3, rfl, ge135_2, ge135_3⟩ := k44_openM hMe135; have hv135_2 := hcc135 2 _ rfl; rw [add_field _ _ 2 (by omega)] at hv135_2; replace hv135_2 := Option.some.inj (hv135_2.symm.trans hx135_2); rw [hv135_2] at ge135_2; have HL135_2 := Aside0.mk (show Kd.R Kd.string 9 _ _ _ _ ((rd_T44 t128 1).f1) from ge135_2); clear hv135_2 ge135_2; have hv135_3 := hcc135 3 _ rfl; rw [add_field _ _ 3 (by omega)] at hv135_3; replace hv135_3 := Option.some.inj (hv135_3.symm.trans hx135_3); rw [hv135_3] at ge135_3; have HL135_3 := Aside0.mk (show Kd.R k46 46 _ _ _ _ ((rd_T44 t128 1).f2) from ge135_3); clear hv135_3 ge135_3; clear hcc135 hce135; (try simp only [show (1 : Int).toNat = 1 from rfl, Nat.reduceMul, Nat.reduceEqDiff, Go.Addr.add, ↓reduceIte] at hx135_0); (try simp only [show (1 : Int).toNat = 1 from rfl, Nat.reduceMul, Nat.reduceEqDiff, Go.Addr.add, ↓reduceIte] at hx135_1); (try simp only [show (1 : Int).toNat = 1 from rfl, Nat.reduceMul, Nat.reduceEqDiff, Go.Addr.add, ↓reduceIte] at hx135_2); (try simp only [show (1 : Int).toNat = 1 from rfl, Nat.reduceMul, Nat.reduceEqDiff, Go.Addr.add, ↓reduceIte] at hx135_3); have qi135 : (1 < t128.length) = True := eq_true (by omega); (try rw [show ((1 : Int)).toNat = 1 from rfl] at hx135_0); (try rw [show 1 * 4 = 4 from rfl] at hx135_0); (try rw [show ((1 : Int)).toNat = 1 from rfl] at hx135_1); (try rw [show 1 * 4 = 4 from rfl] at hx135_1); (try rw [show ((1 : Int)).toNat = 1 from rfl] at hx135_2); (try rw [show 1 * 4 = 4 from rfl] at hx135_2); (try rw [show ((1 : Int)).toNat = 1 from rfl] at hx135_3); (try rw [show 1 * 4 = 4 from rfl] at hx135_3); have HR135_2 := Aside0.mk hi135_2; have HC135_2 := Aside0.mk hl135_2; clear hi135_2 hl135_2; have HR135_3 := Aside0.mk hi135_3; have HC135_3 := Aside0.mk hl135_3; clear hi135_3 hl135_3; replace p135 := eq_true p135; replace q135 := eq_true q135; have ea_ := Option.some.inj (hx134_2.symm.trans hx135_2); injection ea_ with ea_ en_ ec_; subst ea_; subst ec_; clear en_; have ea_ := Option.some.inj (hx134_3.symm.trans hx135_3); injection ea_ with ea_ en_ ec_; subst ea_; subst ec_; clear en_; have p136 : 0 ≤ (1 : Int) := (by omega); have q136 : 1 < (t128.length : Int) := of_decide_eq_true (by first | (with_reducible assumption) | assumption); obtain ⟨ad136, A136_2, c136_2, A136_3, c136_3, e136, hx136_0, hx136_1, hx136_2, hx136_3, hl136_2, hi136_2, hl136_3, hi136_3⟩ := at_T44 (Kd.S_reads' HO130.out).2.2 1 p136 q136; obtain rfl : ad134 = ad136 := (by injection e136); obtain ⟨ce136, hce136, hMe136, hcc136⟩ := Kd.S_get HO130.out z44 1 p136 (by first | exact q136 | exact of_decide_eq_true (by first | (with_reducible assumption) | assumption) | (have e_ := (Kd.S_reads' HO130.out).1; omega)); obtain ⟨ve136_2, ve136_3, rfl, ge136_2, ge136_3⟩ := k44_openM hMe136; have hv136_2 := hcc136 2 _ rfl; rw [add_field _ _ 2 (by omega)] at hv136_2; replace hv136_2 := Option.some.inj (hv136_2.symm.trans hx136_2); rw [hv136_2] at ge136_2; have HL136_2 := Aside0.mk (show Kd.R Kd.string 9 _ _ _ _ ((rd_T44 t128 1).f1) from ge136_2); clear hv136_2 ge136_2; have hv136_3 := hcc136 3 _ rfl; rw [add_field _ _ 3 (by omega)] at hv136_3; replace hv136_3 := Option.some.inj (hv136_3.symm.trans hx136_3); rw [hv136_3] at ge136_3; have HL136_3 := Aside0.mk (show Kd.R k46 46 _ _ _ _ ((rd_T44 t128 1).f2) from ge136_3); clear hv136_3 ge136_3; clear hcc136 hce136; (try simp only [show (1 : Int).toNat = 1 from rfl, Nat.reduceMul, Nat.reduceEqDiff, Go.Addr.add, ↓reduceIte] at hx136_0); (try simp only [show (1 : Int).toNat = 1 from rfl, Nat.reduceMul, Nat.reduceEqDiff, Go.Addr.add, ↓reduceIte] at hx136_1); (try simp only [show (1 : Int).toNat = 1 from rfl, Nat.reduceMul, Nat.reduceEqDiff, Go.Addr.add, ↓reduceIte] at hx136_2); (try simp only [show (1 : Int).toNat = 1 from rfl, Nat.reduceMul, Nat.reduceEqDiff, Go.Addr.add, ↓reduceIte] at hx136_3); have qi136 : (1 < t128.length) = True := eq_true (by omega); (try rw [show ((1 : Int)).toNat = 1 from rfl] at hx136_0); (try rw [show 1 * 4 = 4 from rfl] at hx136_0); (try rw [show ((1 : Int)).toNat = 1 from rfl] at hx136_1); (try rw [show 1 * 4 = 4 from rfl] at hx136_1); (try rw [show ((1 : Int)).toNat = 1 from rfl] at hx136_2); (try rw [show 1 * 4 = 4 from rfl] at hx136_2); (try rw [show ((1 : Int)).toNat = 1 from rfl] at hx136_3); (try rw [show 1 * 4 = 4 from rfl] at hx136_3); have HR136_2 := Aside0.mk hi136_2; have HC136_2 := Aside0.mk hl136_2; clear hi136_2 hl136_2; have HR136_3 := Aside0.mk hi136_3; have HC136_3 := Aside0.mk hl136_3; clear hi136_3 hl136_3; replace p136 := eq_true p136; replace q136 := eq_true q136; have ea_ := Option.some.inj (hx134_2.symm.trans hx136_2); injection ea_ with ea_ en_ ec_; subst ea_; subst ec_; clear en_; have ea_ := Option.some.inj (hx134_3.symm.trans hx136_3); injection ea_ with ea_ en_ ec_; subst ea_; subst ec_; clear en_; have p137 : 0 ≤ (0 : Int) := (by omega); have q137 : 0 < (((rd_T44 t128 1).f2).length : Int) := of_decide_eq_true (by first | (with_reducible assumption) | assumption); obtain ⟨ad137, e137, hx137_0, hx137_1, hx137_2, hx137_3⟩ := at_T46 (by repeat (first | (with_reducible exact HR136_3.out) | (with_reducible refine Kd.C_alloc ?_ _) | (with_reducible refine Kd.C_drewN ?_ _) | (with_reducible refine Kd.C_drew ?_) | exact HR136_3.out)) 0 p137 q137; cases e137; have qi137 : (0 < ((rd_T44 t128 1).f2).length) = True := eq_true (by omega); (try rw [show ((0 : Int)).toNat = 0 from rfl] at hx137_0); (try rw [show 0 * 4 = 0 from rfl] at hx137_0); (try rw [Addr.add_zero'] at hx137_0); (try rw [show ((0 : Int)).toNat = 0 from rfl] at hx137_1); (try rw [show 0 * 4 = 0 from rfl] at hx137_1); (try rw [Addr.add_zero'] at hx137_1); (try rw [show ((0 : Int)).toNat = 0 from rfl] at hx137_2); (try rw [show 0 * 4 = 0 from rfl] at hx137_2); (try rw [Addr.add_zero'] at hx137_2); (try rw [show ((0 : Int)).toNat = 0 from rfl] at hx137_3); (try rw [show 0 * 4 = 0 from rfl] at hx137_3); (try rw [Addr.add_zero'] at hx137_3); replace p137 := eq_true p137; replace q137 := eq_true q137))
        go_ret
        exact ⟨by first | rfl | (simp [errW_none, errW_some] <;> rfl) | (simp [*, errW_none, errW_some] <;> rfl), by repeat (first | (with_reducible first | exact HB.out | apply below_alloc | apply pw_below_drewN | apply below_drew1 | refine below_set ?_ GE133.out) | exact HB.out)⟩
       ·rw [if_neg c8] at H
        exact absurd H (by simp)
      ·rw [if_neg c7] at H
       have c7b0 : ((((rd_T44 t128 1).f2).length : Int) == 1) = false := beq_eq_false_iff_ne.mpr c7
       have c7b1 : ((((rd_T44 t128 1).f2).length : Int) != 1) = true := bne_iff_ne.mpr c7
       obtain rfl := Option.some.inj H
       go_enter Try.func9, Try.ntmps9
       go_wp2_with (first | ((with_reducible refine gate_callee (f := 10) rfl ?_); refine goesL_ (some 5) rfl rfl Try.func10 (by kernel_rfl) rfl #[.string (⟨#[100, 101, 102, 97, 117, 108, 116, 32, 107, 105, 108, 108, 59, 32, 97, 108, 108, 111, 119, 32, 114, 101, 97, 100, 44, 32, 119, 114, 105, 116, 101, 59, 32, 101, 114, 114, 110, 111, 32, 49, 51, 32, 111, 112, 101, 110, 32, 119, 104, 101, 110, 32, 97, 114, 103, 49, 32, 38, 32, 51, 32, 33, 61, 32, 48, 59]⟩ : ByteArray)] rfl (by (try simp only [List.map_toArray, List.map_cons, List.map_nil]); first | done | rfl | (simp only [List.length_drop, List.length_take]; rfl)) ?_; (with_reducible refine (parse_Parse.calls k (⟨#[100, 101, 102, 97, 117, 108, 116, 32, 107, 105, 108, 108, 59, 32, 97, 108, 108, 111, 119, 32, 114, 101, 97, 100, 44, 32, 119, 114, 105, 116, 101, 59, 32, 101, 114, 114, 110, 111, 32, 49, 51, 32, 111, 112, 101, 110, 32, 119, 104, 101, 110, 32, 97, 114, 103, 49, 32, 38, 32, 51, 32, 33, 61, 32, 48, 59]⟩ : ByteArray) t126 t127 t128 t131 t132 _ A1.out).mono ?_); rintro e w15 ⟨v129, rfl, ho0, hb⟩; refine ⟨_, rfl, ?_⟩; have n0_ := Aside0.mk (Kd.S_lower ho0 (below_size (by repeat (first | (with_reducible first | exact HB.out | apply below_alloc | apply pw_below_drewN | apply below_drew1) | exact HB.out)))); have n1_ := Aside0.mk (below_step (by repeat (first | (with_reducible first | exact HB.out | apply below_alloc | apply pw_below_drewN | apply below_drew1) | exact HB.out)) hb); clear HB; have HO130 := n0_; have HB := n1_; clear n0_ n1_; (try clear hb); (try clear hb2); (try clear hk); (try clear hi); (try clear ho0)) | ((with_reducible refine gate_dst (N := 1) rfl ?_); (try (refine gate_guard (by rfl) ?_; dsimp only)); refine box_event ?hg (N := 1) ?hd (cs := #[.int .i64 0, .int .i64 0, .slice none 0 0]) (t := 27) ?hr ?_; (case hd => rfl); (case hg => rfl); (case hr => first | (go_simp; done) | (go_simp; rfl)); intro gb133 hg w16 hbox hb; have n0_ := Aside0.mk (Kd.S_below (by (with_reducible repeat (first | apply Kd.S_alloc | apply Kd.S_drewN | apply Kd.S_drew)); exact HO130.out) hb); have n1_ := Aside0.mk (below_step (by repeat (first | (with_reducible first | exact HB.out | apply below_alloc | apply pw_below_drewN | apply below_drew1) | exact HB.out)) hb); have n2_ := Aside0.mk (hbox); have n3_ := Aside0.mk ((by rw [hg]; exact (below_size (by repeat (first | (with_reducible first | exact HB.out | apply below_alloc | apply pw_below_drewN | apply below_drew1) | exact HB.out))) : w.heap.size ≤ gb133)); have n4_ := Aside0.mk ((by rw [hg]; exact (below_size (by repeat (first | (with_reducible first | exact HB.out | apply below_alloc | apply pw_below_drewN | apply below_drew1) | exact HB.out))) : w.heap.size ≤ gb133)); clear HO130; clear HB; have HO130 := n0_; have HB := n1_; have BK133 := n2_; have GW133 := n3_; have GE133 := n4_; clear n0_ n1_ n2_ n3_ n4_; clear hb hbox hg; have hcz17_0 : w16.cell? ⟨gb133, 0, none⟩ = some (.int .i64 0) := (blk_cell BK133.out 0).trans rfl; have hcz17_1 : w16.cell? ⟨gb133, 1, none⟩ = some (.int .i64 0) := (blk_cell BK133.out 1).trans rfl; have hcz17_2 : w16.cell? ⟨gb133, 2, none⟩ = some (.slice none 0 0) := (blk_cell BK133.out 2).trans rfl; have hfz17_0 := blk_frozen BK133.out; obtain ⟨Ao18, co18, eo18⟩ := Kd.S_slice HO130.out; subst eo18) | ((with_reducible refine gate_store (t := 27) (p := 1) rfl ?_); refine store_event (t := 27) (p := 1) (v := ?vo_w19) (w1 := (((w16.setCell ⟨gb133, 0, none⟩ (.int .i64 t126)).setCell ⟨gb133, 1, none⟩ (.int .i64 t127)).setCell ⟨gb133, 2, none⟩ (.slice Ao18 t128.length co18))) ?hg ?ho ?hn ?hr ?_; (case ho => rfl); (case hg => rfl); (case hn => rfl); (case hr => first | (go_simp; done) | (go_simp; rfl)); intro w19 hw; have n0_ : Aside0 (Kd.S k44 44 w19 w.heap.size (fun _ => True) (.slice Ao18 t128.length co18) t128) := ⟨(by rw [hw]; exact (by (with_reducible repeat (first | apply Kd.S_alloc | apply Kd.S_drewN | apply Kd.S_drew)); exact Kd.S_mono (Kd.S_far (p := ⟨gb133, 2, none⟩) (Kd.S_far (p := ⟨gb133, 1, none⟩) (Kd.S_far (p := ⟨gb133, 0, none⟩) (Kd.S_types HO130.out BK133.out (by decide)) (fun _ hk => by first | exact hk.2 | exact hk | exact trivial) (.int .i64 t126)) (fun _ hk => by first | exact hk.2 | exact hk | exact trivial) (.int .i64 t127)) (fun _ hk => by first | exact hk.2 | exact hk | exact trivial) (.slice Ao18 t128.length co18)) (fun _ hk => trivial)))⟩; have n1_ : Aside0 (w19.heap[gb133]? = some (.cells #[.int .i64 t126, .int .i64 t127, .slice Ao18 t128.length co18] 27 (0, 0))) := ⟨(by rw [hw]; exact (by (with_reducible repeat (first | refine blk_drewN ?_ _ | refine blk_drew ?_ | refine blk_alloc ?_ _)); refine blk_put (cs := #[.int .i64 t126, .int .i64 t127, .slice none 0 0]) ?_ 2 _ rfl; (with_reducible repeat (first | refine blk_drewN ?_ _ | refine blk_drew ?_ | refine blk_alloc ?_ _)); refine blk_put (cs := #[.int .i64 t126, .int .i64 0, .slice none 0 0]) ?_ 1 _ rfl; (with_reducible repeat (first | refine blk_drewN ?_ _ | refine blk_drew ?_ | refine blk_alloc ?_ _)); refine blk_put (cs := #[.int .i64 0, .int .i64 0, .slice none 0 0]) ?_ 0 _ rfl; (with_reducible repeat (first | refine blk_drewN ?_ _ | refine blk_drew ?_ | refine blk_alloc ?_ _)); exact BK133.out))⟩; have n2_ : Aside0 (Below w.heap.size w w19) := ⟨(by rw [hw]; exact (by repeat (first | (with_reducible first | exact HB.out | apply below_alloc | apply pw_below_drewN | apply below_drew1 | refine below_set ?_ GE133.out) | exact HB.out)))⟩; clear hw; clear HO130; clear BK133; clear HB; have HO130 := n0_; have BK133 := n1_; have HB := n2_; clear n0_ n1_ n2_; have hcz20_0 : w19.cell? ⟨gb133, 0, none⟩ = some (.int .i64 t126) := (blk_cell BK133.out 0).trans rfl; have hcz20_1 : w19.cell? ⟨gb133, 1, none⟩ = some (.int .i64 t127) := (blk_cell BK133.out 1).trans rfl; have hcz20_2 : w19.cell? ⟨gb133, 2, none⟩ = some (.slice Ao18 t128.length co18) := (blk_cell BK133.out 2).trans rfl; have hfz20_0 := blk_frozen BK133.out; have p134 : 0 ≤ (1 : Int) := (by omega); have q134 : 1 < (t128.length : Int) := of_decide_eq_true (by first | (with_reducible assumption) | assumption); obtain ⟨ad134, A134_2, c134_2, A134_3, c134_3, e134, hx134_0, hx134_1, hx134_2, hx134_3, hl134_2, hi134_2, hl134_3, hi134_3⟩ := at_T44 (Kd.S_reads' HO130.out).2.2 1 p134 q134; cases e134; obtain ⟨ce134, hce134, hMe134, hcc134⟩ := Kd.S_get HO130.out z44 1 p134 (by first | exact q134 | exact of_decide_eq_true (by first | (with_reducible assumption) | assumption) | (have e_ := (Kd.S_reads' HO130.out).1; omega)); obtain ⟨ve134_2, ve134_3, rfl, ge134_2, ge134_3⟩ := k44_openM hMe134; have hv134_2 := hcc134 2 _ rfl; rw [add_field _ _ 2 (by omega)] at hv134_2; replace hv134_2 := Option.some.inj (hv134_2.symm.trans hx134_2); rw [hv134_2] at ge134_2; have HL134_2 := Aside0.mk (show Kd.R Kd.string 9 _ _ _ _ ((rd_T44 t128 1).f1) from ge134_2); clear hv134_2 ge134_2; have hv134_3 := hcc134 3 _ rfl; rw [add_field _ _ 3 (by omega)] at hv134_3; replace hv134_3 := Option.some.inj (hv134_3.symm.trans hx134_3); rw [hv134_3] at ge134_3; have HL134_3 := Aside0.mk (show Kd.R k46 46 _ _ _ _ ((rd_T44 t128 1).f2) from ge134_3); clear hv134_3 ge134_3; clear hcc134 hce134; (try simp only [show (1 : Int).toNat = 1 from rfl, Nat.reduceMul, Nat.reduceEqDiff, Go.Addr.add, ↓reduceIte] at hx134_0); (try simp only [show (1 : Int).toNat = 1 from rfl, Nat.reduceMul, Nat.reduceEqDiff, Go.Addr.add, ↓reduceIte] at hx134_1); (try simp only [show (1 : Int).toNat = 1 from rfl, Nat.reduceMul, Nat.reduceEqDiff, Go.Addr.add, ↓reduceIte] at hx134_2); (try simp only [show (1 : Int).toNat = 1 from rfl, Nat.reduceMul, Nat.reduceEqDiff, Go.Addr.add, ↓reduceIte] at hx134_3); have qi134 : (1 < t128.length) = True := eq_true (by omega); (try rw [show ((1 : Int)).toNat = 1 from rfl] at hx134_0); (try rw [show 1 * 4 = 4 from rfl] at hx134_0); (try rw [show ((1 : Int)).toNat = 1 from rfl] at hx134_1); (try rw [show 1 * 4 = 4 from rfl] at hx134_1); (try rw [show ((1 : Int)).toNat = 1 from rfl] at hx134_2); (try rw [show 1 * 4 = 4 from rfl] at hx134_2); (try rw [show ((1 : Int)).toNat = 1 from rfl] at hx134_3); (try rw [show 1 * 4 = 4 from rfl] at hx134_3); have HR134_2 := Aside0.mk hi134_2; have HC134_2 := Aside0.mk hl134_2; clear hi134_2 hl134_2; have HR134_3 := Aside0.mk hi134_3; have HC134_3 := Aside0.mk hl134_3; clear hi134_3 hl134_3; replace p134 := eq_true p134; replace q134 := eq_true q134; have p135 : 0 ≤ (1 : Int) := (by omega); have q135 : 1 < (t128.length : Int) := of_decide_eq_true (by first | (with_reducible assumption) | assumption); obtain ⟨ad135, A135_2, c135_2, A135_3, c135_3, e135, hx135_0, hx135_1, hx135_2, hx135_3, hl135_2, hi135_2, hl135_3, hi135_3⟩ := at_T44 (Kd.S_reads' HO130.out).2.2 1 p135 q135; obtain rfl : ad134 = ad135 := (by injection e135); obtain ⟨ce135, hce135, hMe135, hcc135⟩ := Kd.S_get HO130.out z44 1 p135 (by first | exact q135 | exact of_decide_eq_true (by first | (with_reducible assumption) | assumption) | (have e_ := (Kd.S_reads' HO130.out).1; omega)); obtain ⟨ve135_2, ve135_3, rfl, ge135_2, ge135_3⟩ := k44_openM hMe135; have hv135_2 := hcc135 2 _ rfl; rw [add_field _ _ 2 (by omega)] at hv135_2; replace hv135_2 := Option.some.inj (hv135_2.symm.trans hx135_2); rw [hv135_2] at ge135_2; have HL135_2 := Aside0.mk (show Kd.R Kd.string 9 _ _ _ _ ((rd_T44 t128 1).f1) from ge135_2); clear hv135_2 ge135_2; have hv135_3 := hcc135 3 _ rfl; rw [add_field _ _ 3 (by omega)] at hv135_3; replace hv135_3 := Option.some.inj (hv135_3.symm.trans hx135_3); rw [hv135_3] at ge135_3; have HL135_3 := Aside0.mk (show Kd.R k46 46 _ _ _ _ ((rd_T44 t128 1).f2) from ge135_3); clear hv135_3 ge135_3; clear hcc135 hce135; (try simp only [show (1 : Int).toNat = 1 from rfl, Nat.reduceMul, Nat.reduceEqDiff, Go.Addr.add, ↓reduceIte] at hx135_0); (try simp only [show (1 : Int).toNat = 1 from rfl, Nat.reduceMul, Nat.reduceEqDiff, Go.Addr.add, ↓reduceIte] at hx135_1); (try simp only [show (1 : Int).toNat = 1 from rfl, Nat.reduceMul, Nat.reduceEqDiff, Go.Addr.add, ↓reduceIte] at hx135_2); (try simp only [show (1 : Int).toNat = 1 from rfl, Nat.reduceMul, Nat.reduceEqDiff, Go.Addr.add, ↓reduceIte] at hx135_3); have qi135 : (1 < t128.length) = True := eq_true (by omega); (try rw [show ((1 : Int)).toNat = 1 from rfl] at hx135_0); (try rw [show 1 * 4 = 4 from rfl] at hx135_0); (try rw [show ((1 : Int)).toNat = 1 from rfl] at hx135_1); (try rw [show 1 * 4 = 4 from rfl] at hx135_1); (try rw [show ((1 : Int)).toNat = 1 from rfl] at hx135_2); (try rw [show 1 * 4 = 4 from rfl] at hx135_2); (try rw [show ((1 : Int)).toNat = 1 from rfl] at hx135_3); (try rw [show 1 * 4 = 4 from rfl] at hx135_3); have HR135_2 := Aside0.mk hi135_2; have HC135_2 := Aside0.mk hl135_2; clear hi135_2 hl135_2; have HR135_3 := Aside0.mk hi135_3; have HC135_3 := Aside0.mk hl135_3; clear hi135_3 hl135_3; replace p135 := eq_true p135; replace q135 := eq_true q135; have ea_ := Option.some.inj (hx134_2.symm.trans hx135_2); injection ea_ with ea_ en_ ec_; subst ea_; subst ec_; clear en_; have ea_ := Option.some.inj (hx134_3.symm.trans hx135_3); injection ea_ with ea_ en_ ec_; subst ea_; subst ec_; clear en_))
       go_ret
       exact ⟨by first | rfl | (simp [errW_none, errW_some] <;> rfl) | (simp [*, errW_none, errW_some] <;> rfl), by repeat (first | (with_reducible first | exact HB.out | apply below_alloc | apply pw_below_drewN | apply below_drew1 | refine below_set ?_ GE133.out) | exact HB.out)⟩
     ·rw [if_neg c6] at H
      have c6b0 : (((rd_T44 t128 1).f0.f0) == 4 && (((rd_T44 t128 1).f0.f1) == 13)) = false := by simpa using c6
      (try (have c6b1 : decide (((rd_T44 t128 1).f0.f0) = 4 && (((rd_T44 t128 1).f0.f1) == 13)) = false := by simpa using c6))
      (try (have c6b2 : (((rd_T44 t128 1).f0.f0) == 4 && (((rd_T44 t128 1).f0.f1) == 13)) = false := by simpa using c6))
      (try (have c6b3 : ¬ (((rd_T44 t128 1).f0.f0) = 4 && (((rd_T44 t128 1).f0.f1) == 13)) := by simpa using c6))
      clear c6
      obtain rfl := Option.some.inj H
      go_enter Try.func9, Try.ntmps9
      go_wp2_with (first | ((with_reducible refine gate_callee (f := 10) rfl ?_); refine goesL_ (some 5) rfl rfl Try.func10 (by kernel_rfl) rfl #[.string (⟨#[100, 101, 102, 97, 117, 108, 116, 32, 107, 105, 108, 108, 59, 32, 97, 108, 108, 111, 119, 32, 114, 101, 97, 100, 44, 32, 119, 114, 105, 116, 101, 59, 32, 101, 114, 114, 110, 111, 32, 49, 51, 32, 111, 112, 101, 110, 32, 119, 104, 101, 110, 32, 97, 114, 103, 49, 32, 38, 32, 51, 32, 33, 61, 32, 48, 59]⟩ : ByteArray)] rfl (by (try simp only [List.map_toArray, List.map_cons, List.map_nil]); first | done | rfl | (simp only [List.length_drop, List.length_take]; rfl)) ?_; (with_reducible refine (parse_Parse.calls k (⟨#[100, 101, 102, 97, 117, 108, 116, 32, 107, 105, 108, 108, 59, 32, 97, 108, 108, 111, 119, 32, 114, 101, 97, 100, 44, 32, 119, 114, 105, 116, 101, 59, 32, 101, 114, 114, 110, 111, 32, 49, 51, 32, 111, 112, 101, 110, 32, 119, 104, 101, 110, 32, 97, 114, 103, 49, 32, 38, 32, 51, 32, 33, 61, 32, 48, 59]⟩ : ByteArray) t126 t127 t128 t131 t132 _ A1.out).mono ?_); rintro e w21 ⟨v129, rfl, ho0, hb⟩; refine ⟨_, rfl, ?_⟩; have n0_ := Aside0.mk (Kd.S_lower ho0 (below_size (by repeat (first | (with_reducible first | exact HB.out | apply below_alloc | apply pw_below_drewN | apply below_drew1) | exact HB.out)))); have n1_ := Aside0.mk (below_step (by repeat (first | (with_reducible first | exact HB.out | apply below_alloc | apply pw_below_drewN | apply below_drew1) | exact HB.out)) hb); clear HB; have HO130 := n0_; have HB := n1_; clear n0_ n1_; (try clear hb); (try clear hb2); (try clear hk); (try clear hi); (try clear ho0)) | ((with_reducible refine gate_dst (N := 1) rfl ?_); (try (refine gate_guard (by rfl) ?_; dsimp only)); refine box_event ?hg (N := 1) ?hd (cs := #[.int .i64 0, .int .i64 0, .slice none 0 0]) (t := 27) ?hr ?_; (case hd => rfl); (case hg => rfl); (case hr => first | (go_simp; done) | (go_simp; rfl)); intro gb133 hg w22 hbox hb; have n0_ := Aside0.mk (Kd.S_below (by (with_reducible repeat (first | apply Kd.S_alloc | apply Kd.S_drewN | apply Kd.S_drew)); exact HO130.out) hb); have n1_ := Aside0.mk (below_step (by repeat (first | (with_reducible first | exact HB.out | apply below_alloc | apply pw_below_drewN | apply below_drew1) | exact HB.out)) hb); have n2_ := Aside0.mk (hbox); have n3_ := Aside0.mk ((by rw [hg]; exact (below_size (by repeat (first | (with_reducible first | exact HB.out | apply below_alloc | apply pw_below_drewN | apply below_drew1) | exact HB.out))) : w.heap.size ≤ gb133)); have n4_ := Aside0.mk ((by rw [hg]; exact (below_size (by repeat (first | (with_reducible first | exact HB.out | apply below_alloc | apply pw_below_drewN | apply below_drew1) | exact HB.out))) : w.heap.size ≤ gb133)); clear HO130; clear HB; have HO130 := n0_; have HB := n1_; have BK133 := n2_; have GW133 := n3_; have GE133 := n4_; clear n0_ n1_ n2_ n3_ n4_; clear hb hbox hg; have hcz23_0 : w22.cell? ⟨gb133, 0, none⟩ = some (.int .i64 0) := (blk_cell BK133.out 0).trans rfl; have hcz23_1 : w22.cell? ⟨gb133, 1, none⟩ = some (.int .i64 0) := (blk_cell BK133.out 1).trans rfl; have hcz23_2 : w22.cell? ⟨gb133, 2, none⟩ = some (.slice none 0 0) := (blk_cell BK133.out 2).trans rfl; have hfz23_0 := blk_frozen BK133.out; obtain ⟨Ao24, co24, eo24⟩ := Kd.S_slice HO130.out; subst eo24) | ((with_reducible refine gate_store (t := 27) (p := 1) rfl ?_); refine store_event (t := 27) (p := 1) (v := ?vo_w25) (w1 := (((w22.setCell ⟨gb133, 0, none⟩ (.int .i64 t126)).setCell ⟨gb133, 1, none⟩ (.int .i64 t127)).setCell ⟨gb133, 2, none⟩ (.slice Ao24 t128.length co24))) ?hg ?ho ?hn ?hr ?_; (case ho => rfl); (case hg => rfl); (case hn => rfl); (case hr => first | (go_simp; done) | (go_simp; rfl)); intro w25 hw; have n0_ : Aside0 (Kd.S k44 44 w25 w.heap.size (fun _ => True) (.slice Ao24 t128.length co24) t128) := ⟨(by rw [hw]; exact (by (with_reducible repeat (first | apply Kd.S_alloc | apply Kd.S_drewN | apply Kd.S_drew)); exact Kd.S_mono (Kd.S_far (p := ⟨gb133, 2, none⟩) (Kd.S_far (p := ⟨gb133, 1, none⟩) (Kd.S_far (p := ⟨gb133, 0, none⟩) (Kd.S_types HO130.out BK133.out (by decide)) (fun _ hk => by first | exact hk.2 | exact hk | exact trivial) (.int .i64 t126)) (fun _ hk => by first | exact hk.2 | exact hk | exact trivial) (.int .i64 t127)) (fun _ hk => by first | exact hk.2 | exact hk | exact trivial) (.slice Ao24 t128.length co24)) (fun _ hk => trivial)))⟩; have n1_ : Aside0 (w25.heap[gb133]? = some (.cells #[.int .i64 t126, .int .i64 t127, .slice Ao24 t128.length co24] 27 (0, 0))) := ⟨(by rw [hw]; exact (by (with_reducible repeat (first | refine blk_drewN ?_ _ | refine blk_drew ?_ | refine blk_alloc ?_ _)); refine blk_put (cs := #[.int .i64 t126, .int .i64 t127, .slice none 0 0]) ?_ 2 _ rfl; (with_reducible repeat (first | refine blk_drewN ?_ _ | refine blk_drew ?_ | refine blk_alloc ?_ _)); refine blk_put (cs := #[.int .i64 t126, .int .i64 0, .slice none 0 0]) ?_ 1 _ rfl; (with_reducible repeat (first | refine blk_drewN ?_ _ | refine blk_drew ?_ | refine blk_alloc ?_ _)); refine blk_put (cs := #[.int .i64 0, .int .i64 0, .slice none 0 0]) ?_ 0 _ rfl; (with_reducible repeat (first | refine blk_drewN ?_ _ | refine blk_drew ?_ | refine blk_alloc ?_ _)); exact BK133.out))⟩; have n2_ : Aside0 (Below w.heap.size w w25) := ⟨(by rw [hw]; exact (by repeat (first | (with_reducible first | exact HB.out | apply below_alloc | apply pw_below_drewN | apply below_drew1 | refine below_set ?_ GE133.out) | exact HB.out)))⟩; clear hw; clear HO130; clear BK133; clear HB; have HO130 := n0_; have BK133 := n1_; have HB := n2_; clear n0_ n1_ n2_; have hcz26_0 : w25.cell? ⟨gb133, 0, none⟩ = some (.int .i64 t126) := (blk_cell BK133.out 0).trans rfl; have hcz26_1 : w25.cell? ⟨gb133, 1, none⟩ = some (.int .i64 t127) := (blk_cell BK133.out 1).trans rfl; have hcz26_2 : w25.cell? ⟨gb133, 2, none⟩ = some (.slice Ao24 t128.length co24) := (blk_cell BK133.out 2).trans rfl; have hfz26_0 := blk_frozen BK133.out; have p134 : 0 ≤ (1 : Int) := (by omega); have q134 : 1 < (t128.length : Int) := of_decide_eq_true (by first | (with_reducible assumption) | assumption); obtain ⟨ad134, A134_2, c134_2, A134_3, c134_3, e134, hx134_0, hx134_1, hx134_2, hx134_3, hl134_2, hi134_2, hl134_3, hi134_3⟩ := at_T44 (Kd.S_reads' HO130.out).2.2 1 p134 q134; cases e134; obtain ⟨ce134, hce134, hMe134, hcc134⟩ := Kd.S_get HO130.out z44 1 p134 (by first | exact q134 | exact of_decide_eq_true (by first | (with_reducible assumption) | assumption) | (have e_ := (Kd.S_reads' HO130.out).1; omega)); obtain ⟨ve134_2, ve134_3, rfl, ge134_2, ge134_3⟩ := k44_openM hMe134; have hv134_2 := hcc134 2 _ rfl; rw [add_field _ _ 2 (by omega)] at hv134_2; replace hv134_2 := Option.some.inj (hv134_2.symm.trans hx134_2); rw [hv134_2] at ge134_2; have HL134_2 := Aside0.mk (show Kd.R Kd.string 9 _ _ _ _ ((rd_T44 t128 1).f1) from ge134_2); clear hv134_2 ge134_2; have hv134_3 := hcc134 3 _ rfl; rw [add_field _ _ 3 (by omega)] at hv134_3; replace hv134_3 := Option.some.inj (hv134_3.symm.trans hx134_3); rw [hv134_3] at ge134_3; have HL134_3 := Aside0.mk (show Kd.R k46 46 _ _ _ _ ((rd_T44 t128 1).f2) from ge134_3); clear hv134_3 ge134_3; clear hcc134 hce134; (try simp only [show (1 : Int).toNat = 1 from rfl, Nat.reduceMul, Nat.reduceEqDiff, Go.Addr.add, ↓reduceIte] at hx134_0); (try simp only [show (1 : Int).toNat = 1 from rfl, Nat.reduceMul, Nat.reduceEqDiff, Go.Addr.add, ↓reduceIte] at hx134_1); (try simp only [show (1 : Int).toNat = 1 from rfl, Nat.reduceMul, Nat.reduceEqDiff, Go.Addr.add, ↓reduceIte] at hx134_2); (try simp only [show (1 : Int).toNat = 1 from rfl, Nat.reduceMul, Nat.reduceEqDiff, Go.Addr.add, ↓reduceIte] at hx134_3); have qi134 : (1 < t128.length) = True := eq_true (by omega); (try rw [show ((1 : Int)).toNat = 1 from rfl] at hx134_0); (try rw [show 1 * 4 = 4 from rfl] at hx134_0); (try rw [show ((1 : Int)).toNat = 1 from rfl] at hx134_1); (try rw [show 1 * 4 = 4 from rfl] at hx134_1); (try rw [show ((1 : Int)).toNat = 1 from rfl] at hx134_2); (try rw [show 1 * 4 = 4 from rfl] at hx134_2); (try rw [show ((1 : Int)).toNat = 1 from rfl] at hx134_3); (try rw [show 1 * 4 = 4 from rfl] at hx134_3); have HR134_2 := Aside0.mk hi134_2; have HC134_2 := Aside0.mk hl134_2; clear hi134_2 hl134_2; have HR134_3 := Aside0.mk hi134_3; have HC134_3 := Aside0.mk hl134_3; clear hi134_3 hl134_3; replace p134 := eq_true p134; replace q134 := eq_true q134))
      go_ret
      exact ⟨by first | rfl | (simp [errW_none, errW_some] <;> rfl) | (simp [*, errW_none, errW_some] <;> rfl), by repeat (first | (with_reducible first | exact HB.out | apply below_alloc | apply pw_below_drewN | apply below_drew1 | refine below_set ?_ GE133.out) | exact HB.out)⟩
    ·rw [if_neg c5] at H
     exact absurd H (by simp)
   ·rw [if_neg c4] at H
    have c4b0 : ((t128.length : Int) == 2) = false := beq_eq_false_iff_ne.mpr c4
    have c4b1 : ((t128.length : Int) != 2) = true := bne_iff_ne.mpr c4
    obtain rfl := Option.some.inj H
    go_enter Try.func9, Try.ntmps9
    go_wp2_with (first | ((with_reducible refine gate_callee (f := 10) rfl ?_); refine goesL_ (some 5) rfl rfl Try.func10 (by kernel_rfl) rfl #[.string (⟨#[100, 101, 102, 97, 117, 108, 116, 32, 107, 105, 108, 108, 59, 32, 97, 108, 108, 111, 119, 32, 114, 101, 97, 100, 44, 32, 119, 114, 105, 116, 101, 59, 32, 101, 114, 114, 110, 111, 32, 49, 51, 32, 111, 112, 101, 110, 32, 119, 104, 101, 110, 32, 97, 114, 103, 49, 32, 38, 32, 51, 32, 33, 61, 32, 48, 59]⟩ : ByteArray)] rfl (by (try simp only [List.map_toArray, List.map_cons, List.map_nil]); first | done | rfl | (simp only [List.length_drop, List.length_take]; rfl)) ?_; (with_reducible refine (parse_Parse.calls k (⟨#[100, 101, 102, 97, 117, 108, 116, 32, 107, 105, 108, 108, 59, 32, 97, 108, 108, 111, 119, 32, 114, 101, 97, 100, 44, 32, 119, 114, 105, 116, 101, 59, 32, 101, 114, 114, 110, 111, 32, 49, 51, 32, 111, 112, 101, 110, 32, 119, 104, 101, 110, 32, 97, 114, 103, 49, 32, 38, 32, 51, 32, 33, 61, 32, 48, 59]⟩ : ByteArray) t126 t127 t128 t131 t132 _ A1.out).mono ?_); rintro e w27 ⟨v129, rfl, ho0, hb⟩; refine ⟨_, rfl, ?_⟩; have n0_ := Aside0.mk (Kd.S_lower ho0 (below_size (by repeat (first | (with_reducible first | exact HB.out | apply below_alloc | apply pw_below_drewN | apply below_drew1) | exact HB.out)))); have n1_ := Aside0.mk (below_step (by repeat (first | (with_reducible first | exact HB.out | apply below_alloc | apply pw_below_drewN | apply below_drew1) | exact HB.out)) hb); clear HB; have HO130 := n0_; have HB := n1_; clear n0_ n1_; (try clear hb); (try clear hb2); (try clear hk); (try clear hi); (try clear ho0)) | ((with_reducible refine gate_dst (N := 1) rfl ?_); (try (refine gate_guard (by rfl) ?_; dsimp only)); refine box_event ?hg (N := 1) ?hd (cs := #[.int .i64 0, .int .i64 0, .slice none 0 0]) (t := 27) ?hr ?_; (case hd => rfl); (case hg => rfl); (case hr => first | (go_simp; done) | (go_simp; rfl)); intro gb133 hg w28 hbox hb; have n0_ := Aside0.mk (Kd.S_below (by (with_reducible repeat (first | apply Kd.S_alloc | apply Kd.S_drewN | apply Kd.S_drew)); exact HO130.out) hb); have n1_ := Aside0.mk (below_step (by repeat (first | (with_reducible first | exact HB.out | apply below_alloc | apply pw_below_drewN | apply below_drew1) | exact HB.out)) hb); have n2_ := Aside0.mk (hbox); have n3_ := Aside0.mk ((by rw [hg]; exact (below_size (by repeat (first | (with_reducible first | exact HB.out | apply below_alloc | apply pw_below_drewN | apply below_drew1) | exact HB.out))) : w.heap.size ≤ gb133)); have n4_ := Aside0.mk ((by rw [hg]; exact (below_size (by repeat (first | (with_reducible first | exact HB.out | apply below_alloc | apply pw_below_drewN | apply below_drew1) | exact HB.out))) : w.heap.size ≤ gb133)); clear HO130; clear HB; have HO130 := n0_; have HB := n1_; have BK133 := n2_; have GW133 := n3_; have GE133 := n4_; clear n0_ n1_ n2_ n3_ n4_; clear hb hbox hg; have hcz29_0 : w28.cell? ⟨gb133, 0, none⟩ = some (.int .i64 0) := (blk_cell BK133.out 0).trans rfl; have hcz29_1 : w28.cell? ⟨gb133, 1, none⟩ = some (.int .i64 0) := (blk_cell BK133.out 1).trans rfl; have hcz29_2 : w28.cell? ⟨gb133, 2, none⟩ = some (.slice none 0 0) := (blk_cell BK133.out 2).trans rfl; have hfz29_0 := blk_frozen BK133.out; obtain ⟨Ao30, co30, eo30⟩ := Kd.S_slice HO130.out; subst eo30))
    go_ret
    exact ⟨by first | rfl | (simp [errW_none, errW_some] <;> rfl) | (simp [*, errW_none, errW_some] <;> rfl), by repeat (first | (with_reducible first | exact HB.out | apply below_alloc | apply pw_below_drewN | apply below_drew1 | refine below_set ?_ GE133.out) | exact HB.out)⟩
  ·rw [if_neg c3] at H
   have c3b0 : (t132 == (-1)) = false := beq_eq_false_iff_ne.mpr c3
   have c3b1 : (t132 != (-1)) = true := bne_iff_ne.mpr c3
   obtain rfl := Option.some.inj H
   go_enter Try.func9, Try.ntmps9
   go_wp2_with (first | ((with_reducible refine gate_callee (f := 10) rfl ?_); refine goesL_ (some 5) rfl rfl Try.func10 (by kernel_rfl) rfl #[.string (⟨#[100, 101, 102, 97, 117, 108, 116, 32, 107, 105, 108, 108, 59, 32, 97, 108, 108, 111, 119, 32, 114, 101, 97, 100, 44, 32, 119, 114, 105, 116, 101, 59, 32, 101, 114, 114, 110, 111, 32, 49, 51, 32, 111, 112, 101, 110, 32, 119, 104, 101, 110, 32, 97, 114, 103, 49, 32, 38, 32, 51, 32, 33, 61, 32, 48, 59]⟩ : ByteArray)] rfl (by (try simp only [List.map_toArray, List.map_cons, List.map_nil]); first | done | rfl | (simp only [List.length_drop, List.length_take]; rfl)) ?_; (with_reducible refine (parse_Parse.calls k (⟨#[100, 101, 102, 97, 117, 108, 116, 32, 107, 105, 108, 108, 59, 32, 97, 108, 108, 111, 119, 32, 114, 101, 97, 100, 44, 32, 119, 114, 105, 116, 101, 59, 32, 101, 114, 114, 110, 111, 32, 49, 51, 32, 111, 112, 101, 110, 32, 119, 104, 101, 110, 32, 97, 114, 103, 49, 32, 38, 32, 51, 32, 33, 61, 32, 48, 59]⟩ : ByteArray) t126 t127 t128 t131 t132 _ A1.out).mono ?_); rintro e w31 ⟨v129, rfl, ho0, hb⟩; refine ⟨_, rfl, ?_⟩; have n0_ := Aside0.mk (Kd.S_lower ho0 (below_size (by repeat (first | (with_reducible first | exact HB.out | apply below_alloc | apply pw_below_drewN | apply below_drew1) | exact HB.out)))); have n1_ := Aside0.mk (below_step (by repeat (first | (with_reducible first | exact HB.out | apply below_alloc | apply pw_below_drewN | apply below_drew1) | exact HB.out)) hb); clear HB; have HO130 := n0_; have HB := n1_; clear n0_ n1_; (try clear hb); (try clear hb2); (try clear hk); (try clear hi); (try clear ho0)) | ((with_reducible refine gate_dst (N := 1) rfl ?_); (try (refine gate_guard (by rfl) ?_; dsimp only)); refine box_event ?hg (N := 1) ?hd (cs := #[.int .i64 0, .int .i64 0, .slice none 0 0]) (t := 27) ?hr ?_; (case hd => rfl); (case hg => rfl); (case hr => first | (go_simp; done) | (go_simp; rfl)); intro gb133 hg w32 hbox hb; have n0_ := Aside0.mk (Kd.S_below (by (with_reducible repeat (first | apply Kd.S_alloc | apply Kd.S_drewN | apply Kd.S_drew)); exact HO130.out) hb); have n1_ := Aside0.mk (below_step (by repeat (first | (with_reducible first | exact HB.out | apply below_alloc | apply pw_below_drewN | apply below_drew1) | exact HB.out)) hb); have n2_ := Aside0.mk (hbox); have n3_ := Aside0.mk ((by rw [hg]; exact (below_size (by repeat (first | (with_reducible first | exact HB.out | apply below_alloc | apply pw_below_drewN | apply below_drew1) | exact HB.out))) : w.heap.size ≤ gb133)); have n4_ := Aside0.mk ((by rw [hg]; exact (below_size (by repeat (first | (with_reducible first | exact HB.out | apply below_alloc | apply pw_below_drewN | apply below_drew1) | exact HB.out))) : w.heap.size ≤ gb133)); clear HO130; clear HB; have HO130 := n0_; have HB := n1_; have BK133 := n2_; have GW133 := n3_; have GE133 := n4_; clear n0_ n1_ n2_ n3_ n4_; clear hb hbox hg; have hcz33_0 : w32.cell? ⟨gb133, 0, none⟩ = some (.int .i64 0) := (blk_cell BK133.out 0).trans rfl; have hcz33_1 : w32.cell? ⟨gb133, 1, none⟩ = some (.int .i64 0) := (blk_cell BK133.out 1).trans rfl; have hcz33_2 : w32.cell? ⟨gb133, 2, none⟩ = some (.slice none 0 0) := (blk_cell BK133.out 2).trans rfl; have hfz33_0 := blk_frozen BK133.out; obtain ⟨Ao34, co34, eo34⟩ := Kd.S_slice HO130.out; subst eo34))
   go_ret
   exact ⟨by first | rfl | (simp [errW_none, errW_some] <;> rfl) | (simp [*, errW_none, errW_some] <;> rfl), by repeat (first | (with_reducible first | exact HB.out | apply below_alloc | apply pw_below_drewN | apply below_drew1 | refine below_set ?_ GE133.out) | exact HB.out)⟩
 ·rw [if_neg c2] at H
  have c2b0 : (t131 == 0) = false := beq_eq_false_iff_ne.mpr c2
  have c2b1 : (t131 != 0) = true := bne_iff_ne.mpr c2
  obtain rfl := Option.some.inj H
  go_enter Try.func9, Try.ntmps9
  go_wp2_with (first | ((with_reducible refine gate_callee (f := 10) rfl ?_); refine goesL_ (some 5) rfl rfl Try.func10 (by kernel_rfl) rfl #[.string (⟨#[100, 101, 102, 97, 117, 108, 116, 32, 107, 105, 108, 108, 59, 32, 97, 108, 108, 111, 119, 32, 114, 101, 97, 100, 44, 32, 119, 114, 105, 116, 101, 59, 32, 101, 114, 114, 110, 111, 32, 49, 51, 32, 111, 112, 101, 110, 32, 119, 104, 101, 110, 32, 97, 114, 103, 49, 32, 38, 32, 51, 32, 33, 61, 32, 48, 59]⟩ : ByteArray)] rfl (by (try simp only [List.map_toArray, List.map_cons, List.map_nil]); first | done | rfl | (simp only [List.length_drop, List.length_take]; rfl)) ?_; (with_reducible refine (parse_Parse.calls k (⟨#[100, 101, 102, 97, 117, 108, 116, 32, 107, 105, 108, 108, 59, 32, 97, 108, 108, 111, 119, 32, 114, 101, 97, 100, 44, 32, 119, 114, 105, 116, 101, 59, 32, 101, 114, 114, 110, 111, 32, 49, 51, 32, 111, 112, 101, 110, 32, 119, 104, 101, 110, 32, 97, 114, 103, 49, 32, 38, 32, 51, 32, 33, 61, 32, 48, 59]⟩ : ByteArray) t126 t127 t128 t131 t132 _ A1.out).mono ?_); rintro e w35 ⟨v129, rfl, ho0, hb⟩; refine ⟨_, rfl, ?_⟩; have n0_ := Aside0.mk (Kd.S_lower ho0 (below_size (by repeat (first | (with_reducible first | exact HB.out | apply below_alloc | apply pw_below_drewN | apply below_drew1) | exact HB.out)))); have n1_ := Aside0.mk (below_step (by repeat (first | (with_reducible first | exact HB.out | apply below_alloc | apply pw_below_drewN | apply below_drew1) | exact HB.out)) hb); clear HB; have HO130 := n0_; have HB := n1_; clear n0_ n1_; (try clear hb); (try clear hb2); (try clear hk); (try clear hi); (try clear ho0)) | ((with_reducible refine gate_dst (N := 1) rfl ?_); (try (refine gate_guard (by rfl) ?_; dsimp only)); refine box_event ?hg (N := 1) ?hd (cs := #[.int .i64 0, .int .i64 0, .slice none 0 0]) (t := 27) ?hr ?_; (case hd => rfl); (case hg => rfl); (case hr => first | (go_simp; done) | (go_simp; rfl)); intro gb133 hg w36 hbox hb; have n0_ := Aside0.mk (Kd.S_below (by (with_reducible repeat (first | apply Kd.S_alloc | apply Kd.S_drewN | apply Kd.S_drew)); exact HO130.out) hb); have n1_ := Aside0.mk (below_step (by repeat (first | (with_reducible first | exact HB.out | apply below_alloc | apply pw_below_drewN | apply below_drew1) | exact HB.out)) hb); have n2_ := Aside0.mk (hbox); have n3_ := Aside0.mk ((by rw [hg]; exact (below_size (by repeat (first | (with_reducible first | exact HB.out | apply below_alloc | apply pw_below_drewN | apply below_drew1) | exact HB.out))) : w.heap.size ≤ gb133)); have n4_ := Aside0.mk ((by rw [hg]; exact (below_size (by repeat (first | (with_reducible first | exact HB.out | apply below_alloc | apply pw_below_drewN | apply below_drew1) | exact HB.out))) : w.heap.size ≤ gb133)); clear HO130; clear HB; have HO130 := n0_; have HB := n1_; have BK133 := n2_; have GW133 := n3_; have GE133 := n4_; clear n0_ n1_ n2_ n3_ n4_; clear hb hbox hg; have hcz37_0 : w36.cell? ⟨gb133, 0, none⟩ = some (.int .i64 0) := (blk_cell BK133.out 0).trans rfl; have hcz37_1 : w36.cell? ⟨gb133, 1, none⟩ = some (.int .i64 0) := (blk_cell BK133.out 1).trans rfl; have hcz37_2 : w36.cell? ⟨gb133, 2, none⟩ = some (.slice none 0 0) := (blk_cell BK133.out 2).trans rfl; have hfz37_0 := blk_frozen BK133.out; obtain ⟨Ao38, co38, eo38⟩ := Kd.S_slice HO130.out; subst eo38))
  go_ret
  exact ⟨by first | rfl | (simp [errW_none, errW_some] <;> rfl) | (simp [*, errW_none, errW_some] <;> rfl), by repeat (first | (with_reducible first | exact HB.out | apply below_alloc | apply pw_below_drewN | apply below_drew1 | refine below_set ?_ GE133.out) | exact HB.out)⟩
mutual
def fairleadref09_Skip.l0 : Nat → ByteArray → Int → Option (Int)
 | 0, _, _ => none
 | k + 1, x0, x1 => if x1 < (x0.size : Int) then (if 0 ≤ x1 then (if (bt x0 x1) = 35 then (fairleadref09_Skip.l1 k x0 x1) else (if (bt x0 x1) = 9 then (fairleadref09_Skip.l0 k x0 (wrap64 (x1 + 1))) else (if (bt x0 x1) = 10 then (fairleadref09_Skip.l0 k x0 (wrap64 (x1 + 1))) else (if (bt x0 x1) = 13 then (fairleadref09_Skip.l0 k x0 (wrap64 (x1 + 1))) else (if (bt x0 x1) = 32 then (fairleadref09_Skip.l0 k x0 (wrap64 (x1 + 1))) else (some x1)))))) else (none)) else (some x1)
def fairleadref09_Skip.l1 : Nat → ByteArray → Int → Option (Int)
 | 0, _, _ => none
 | k + 1, x0, x1 => if x1 < (x0.size : Int) then (if 0 ≤ x1 then (if (bt x0 x1) = 10 then (fairleadref09_Skip.l0 k x0 x1) else (fairleadref09_Skip.l1 k x0 (wrap64 (x1 + 1)))) else (none)) else (fairleadref09_Skip.l0 k x0 x1)
end
def fairleadref09_Skip.f (k : Nat) (a0 : ByteArray) (a1 : Int) : Option (Int) := fairleadref09_Skip.l0 k a0 a1
set_option maxHeartbeats 8000000 in
set_option maxRecDepth 100000 in
theorem fairleadref09_Skip.calls (k : Nat) (a0 : ByteArray) (a1 : Int) (r : Int) (w : World) (h : fairleadref09_Skip.f k a0 a1 = some r) :
  Calls Try.prog 35 #[.string a0, .int .i64 a1] w fun e w' => e = .returned (.int .i64 r) ∧ Drawn0 w w' := by
 have H : (fairleadref09_Skip.l0 k a0 a1) = some r := h
 clear h
 have H' := Aside0.mk H
 clear H
 go_enter Try.func35, Try.ntmps35
 go_wp2
 go_loopg [1] k (fun kq v1 w' => ∃ (x1_1 : Int), v1 = .int .i64 x1_1 ∧ Aside0 (fairleadref09_Skip.l0 kq a0 x1_1 = some r) ∧ Aside0 (kq ≤ k) ∧ Drawn0 w w')
 case atStart => exact ⟨(a1), (by first | rfl | (simp; done) | (simp [*]; done)), H', ⟨Nat.le_refl _⟩, by repeat (first | exact Drawn0.refl _ | apply Drawn0.step)⟩
 case round =>
  clear H'
  try clear p2
  obtain ⟨x1_1, rfl, HA, HK1, ⟨m1, rfl⟩⟩ := hrel
  cases gk with
  | zero => exact absurd HA.out (by simp [fairleadref09_Skip.l0])
  | succ k1 =>
   have H := HA.out
   clear HA
   simp only [fairleadref09_Skip.l0] at H
   by_cases c3 : x1_1 < (a0.size : Int)
   ·rw [if_pos c3] at H
    have c3b0 : decide (x1_1 < (a0.size : Int)) = true := decide_eq_true c3
    clear c3
    by_cases c4 : 0 ≤ x1_1
    ·rw [if_pos c4] at H
     have c4b0 : decide (0 ≤ x1_1) = true := decide_eq_true c4
     clear c4
     by_cases c6 : (bt a0 x1_1) = 35
     ·rw [if_pos c6] at H
      have c6b0 : ((bt a0 x1_1) == 35) = true := beq_iff_eq.mpr c6
      have c6b1 : ((bt a0 x1_1) != 35) = false := bne_eq_false_iff_eq.mpr c6
      clear c6
      have H' := Aside0.mk H
      clear H
      have p5 : 0 ≤ (x1_1 : Int) := of_decide_eq_true (by first | (with_reducible assumption) | assumption)
      have q5 : x1_1 < (a0.size : Int) := of_decide_eq_true (by first | (with_reducible assumption) | assumption)
      have hx5 := bt_at a0 x1_1
      replace p5 := eq_true p5
      replace q5 := eq_true q5
      go_wp2
      go_loopg [1] k1 (fun kq v1 w' => ∃ (x1_2 : Int), v1 = .int .i64 x1_2 ∧ Aside0 (fairleadref09_Skip.l1 kq a0 x1_2 = some r) ∧ Aside0 (kq ≤ k1) ∧ Drawn0 w w')
      case atStart => exact ⟨(x1_1), (by first | rfl | (simp; done) | (simp [*]; done)), H', ⟨Nat.le_refl _⟩, by repeat (first | exact Drawn0.refl _ | apply Drawn0.step)⟩
      case round =>
       clear H'
       try clear p2
       try clear c3
       try clear c3b0
       try clear c4
       try clear c4b0
       try clear p5
       try clear q5
       try clear hx5
       try clear c6
       try clear c6b0
       try clear c6b1
       try clear p2
       try clear p5
       try clear q5
       obtain ⟨x1_2, rfl, HA, HK2, ⟨m2, rfl⟩⟩ := hrel
       cases gk with
       | zero => exact absurd HA.out (by simp [fairleadref09_Skip.l1])
       | succ k2 =>
        have H := HA.out
        clear HA
        simp only [fairleadref09_Skip.l1] at H
        by_cases c7 : x1_2 < (a0.size : Int)
        ·rw [if_pos c7] at H
         have c7b0 : decide (x1_2 < (a0.size : Int)) = true := decide_eq_true c7
         clear c7
         by_cases c8 : 0 ≤ x1_2
         ·rw [if_pos c8] at H
          have c8b0 : decide (0 ≤ x1_2) = true := decide_eq_true c8
          clear c8
          by_cases c10 : (bt a0 x1_2) = 10
          ·rw [if_pos c10] at H
           have c10b0 : ((bt a0 x1_2) == 10) = true := beq_iff_eq.mpr c10
           have c10b1 : ((bt a0 x1_2) != 10) = false := bne_eq_false_iff_eq.mpr c10
           clear c10
           have H' := Aside0.mk H
           clear H
           have p9 : 0 ≤ (x1_2 : Int) := of_decide_eq_true (by first | (with_reducible assumption) | assumption)
           have q9 : x1_2 < (a0.size : Int) := of_decide_eq_true (by first | (with_reducible assumption) | assumption)
           have hx9 := bt_at a0 x1_2
           replace p9 := eq_true p9
           replace q9 := eq_true q9
           go_wp2
           go_roundg k2
           case measure => have := HK1.out; have := HK2.out; omega
           case rel => exact ⟨(x1_2), (by first | rfl | (simp; done) | (simp [*]; done)), H', ⟨by have := HK1.out; have := HK2.out; omega⟩, by repeat (first | exact Drawn0.refl _ | apply Drawn0.step)⟩
          ·rw [if_neg c10] at H
           have c10b0 : ((bt a0 x1_2) == 10) = false := beq_eq_false_iff_ne.mpr c10
           have c10b1 : ((bt a0 x1_2) != 10) = true := bne_iff_ne.mpr c10
           have H' := Aside0.mk H
           clear H
           have p9 : 0 ≤ (x1_2 : Int) := of_decide_eq_true (by first | (with_reducible assumption) | assumption)
           have q9 : x1_2 < (a0.size : Int) := of_decide_eq_true (by first | (with_reducible assumption) | assumption)
           have hx9 := bt_at a0 x1_2
           replace p9 := eq_true p9
           replace q9 := eq_true q9
           go_wp2
           go_roundg k2
           case measure => have := HK1.out; have := HK2.out; omega
           case rel => exact ⟨(wrap64 (x1_2 + 1)), (by first | rfl | (simp; done) | (simp [*]; done)), H', ⟨by have := HK1.out; have := HK2.out; omega⟩, by repeat (first | exact Drawn0.refl _ | apply Drawn0.step)⟩
         ·rw [if_neg c8] at H
          exact absurd H (by simp)
        ·rw [if_neg c7] at H
         have c7b0 : decide (x1_2 < (a0.size : Int)) = false := decide_eq_false c7
         clear c7
         have H' := Aside0.mk H
         clear H
         go_wp2
         go_roundg k2
         case measure => have := HK1.out; have := HK2.out; omega
         case rel => exact ⟨(x1_2), (by first | rfl | (simp; done) | (simp [*]; done)), H', ⟨by have := HK1.out; have := HK2.out; omega⟩, by repeat (first | exact Drawn0.refl _ | apply Drawn0.step)⟩
     ·rw [if_neg c6] at H
      have c6b0 : ((bt a0 x1_1) == 35) = false := beq_eq_false_iff_ne.mpr c6
      have c6b1 : ((bt a0 x1_1) != 35) = true := bne_iff_ne.mpr c6
      by_cases c11 : (bt a0 x1_1) = 9
      ·rw [if_pos c11] at H
       have c11b0 : ((bt a0 x1_1) == 9) = true := beq_iff_eq.mpr c11
       have c11b1 : ((bt a0 x1_1) != 9) = false := bne_eq_false_iff_eq.mpr c11
       clear c11
       have H' := Aside0.mk H
       clear H
       have p5 : 0 ≤ (x1_1 : Int) := of_decide_eq_true (by first | (with_reducible assumption) | assumption)
       have q5 : x1_1 < (a0.size : Int) := of_decide_eq_true (by first | (with_reducible assumption) | assumption)
       have hx5 := bt_at a0 x1_1
       replace p5 := eq_true p5
       replace q5 := eq_true q5
       go_wp2
       go_roundg k1
       case measure => have := HK1.out; omega
       case rel => exact ⟨(wrap64 (x1_1 + 1)), (by first | rfl | (simp; done) | (simp [*]; done)), H', ⟨by have := HK1.out; omega⟩, by repeat (first | exact Drawn0.refl _ | apply Drawn0.step)⟩
      ·rw [if_neg c11] at H
       have c11b0 : ((bt a0 x1_1) == 9) = false := beq_eq_false_iff_ne.mpr c11
       have c11b1 : ((bt a0 x1_1) != 9) = true := bne_iff_ne.mpr c11
       by_cases c12 : (bt a0 x1_1) = 10
       ·rw [if_pos c12] at H
        have c12b0 : ((bt a0 x1_1) == 10) = true := beq_iff_eq.mpr c12
        have c12b1 : ((bt a0 x1_1) != 10) = false := bne_eq_false_iff_eq.mpr c12
        clear c12
        have H' := Aside0.mk H
        clear H
        have p5 : 0 ≤ (x1_1 : Int) := of_decide_eq_true (by first | (with_reducible assumption) | assumption)
        have q5 : x1_1 < (a0.size : Int) := of_decide_eq_true (by first | (with_reducible assumption) | assumption)
        have hx5 := bt_at a0 x1_1
        replace p5 := eq_true p5
        replace q5 := eq_true q5
        go_wp2
        go_roundg k1
        case measure => have := HK1.out; omega
        case rel => exact ⟨(wrap64 (x1_1 + 1)), (by first | rfl | (simp; done) | (simp [*]; done)), H', ⟨by have := HK1.out; omega⟩, by repeat (first | exact Drawn0.refl _ | apply Drawn0.step)⟩
       ·rw [if_neg c12] at H
        have c12b0 : ((bt a0 x1_1) == 10) = false := beq_eq_false_iff_ne.mpr c12
        have c12b1 : ((bt a0 x1_1) != 10) = true := bne_iff_ne.mpr c12
        by_cases c13 : (bt a0 x1_1) = 13
        ·rw [if_pos c13] at H
         have c13b0 : ((bt a0 x1_1) == 13) = true := beq_iff_eq.mpr c13
         have c13b1 : ((bt a0 x1_1) != 13) = false := bne_eq_false_iff_eq.mpr c13
         clear c13
         have H' := Aside0.mk H
         clear H
         have p5 : 0 ≤ (x1_1 : Int) := of_decide_eq_true (by first | (with_reducible assumption) | assumption)
         have q5 : x1_1 < (a0.size : Int) := of_decide_eq_true (by first | (with_reducible assumption) | assumption)
         have hx5 := bt_at a0 x1_1
         replace p5 := eq_true p5
         replace q5 := eq_true q5
         go_wp2
         go_roundg k1
         case measure => have := HK1.out; omega
         case rel => exact ⟨(wrap64 (x1_1 + 1)), (by first | rfl | (simp; done) | (simp [*]; done)), H', ⟨by have := HK1.out; omega⟩, by repeat (first | exact Drawn0.refl _ | apply Drawn0.step)⟩
        ·rw [if_neg c13] at H
         have c13b0 : ((bt a0 x1_1) == 13) = false := beq_eq_false_iff_ne.mpr c13
         have c13b1 : ((bt a0 x1_1) != 13) = true := bne_iff_ne.mpr c13
         by_cases c14 : (bt a0 x1_1) = 32
         ·rw [if_pos c14] at H
          have c14b0 : ((bt a0 x1_1) == 32) = true := beq_iff_eq.mpr c14
          have c14b1 : ((bt a0 x1_1) != 32) = false := bne_eq_false_iff_eq.mpr c14
          clear c14
          have H' := Aside0.mk H
          clear H
          have p5 : 0 ≤ (x1_1 : Int) := of_decide_eq_true (by first | (with_reducible assumption) | assumption)
          have q5 : x1_1 < (a0.size : Int) := of_decide_eq_true (by first | (with_reducible assumption) | assumption)
          have hx5 := bt_at a0 x1_1
          replace p5 := eq_true p5
          replace q5 := eq_true q5
          go_wp2
          go_roundg k1
          case measure => have := HK1.out; omega
          case rel => exact ⟨(wrap64 (x1_1 + 1)), (by first | rfl | (simp; done) | (simp [*]; done)), H', ⟨by have := HK1.out; omega⟩, by repeat (first | exact Drawn0.refl _ | apply Drawn0.step)⟩
         ·rw [if_neg c14] at H
          have c14b0 : ((bt a0 x1_1) == 32) = false := beq_eq_false_iff_ne.mpr c14
          have c14b1 : ((bt a0 x1_1) != 32) = true := bne_iff_ne.mpr c14
          obtain rfl := Option.some.inj H
          have p5 : 0 ≤ (x1_1 : Int) := of_decide_eq_true (by first | (with_reducible assumption) | assumption)
          have q5 : x1_1 < (a0.size : Int) := of_decide_eq_true (by first | (with_reducible assumption) | assumption)
          have hx5 := bt_at a0 x1_1
          replace p5 := eq_true p5
          replace q5 := eq_true q5
          go_wp2
          go_ret
          exact ⟨by first | rfl | (simp; done) | (simp [*]; done), by repeat (first | exact Drawn0.refl _ | apply Drawn0.step)⟩
    ·rw [if_neg c4] at H
     exact absurd H (by simp)
   ·rw [if_neg c3] at H
    have c3b0 : decide (x1_1 < (a0.size : Int)) = false := decide_eq_false c3
    clear c3
    obtain rfl := Option.some.inj H
    go_wp2
    go_ret
    exact ⟨by first | rfl | (simp; done) | (simp [*]; done), by repeat (first | exact Drawn0.refl _ | apply Drawn0.step)⟩
def fairleadref09_small.f (a0 : Int) : Option (Bool) := if a0 ≥ 97 then (some (decide (a0 ≤ 122))) else (some false)
set_option maxHeartbeats 8000000 in
set_option maxRecDepth 100000 in
theorem fairleadref09_small.calls (a0 : Int) (r : Bool) (w : World) (h : fairleadref09_small.f a0 = some r) :
  Calls Try.prog 45 #[.int .u8 a0] w fun e w' => e = .returned (.bool r) ∧ Drawn0 w w' := by
 have H : (if a0 ≥ 97 then (some (decide (a0 ≤ 122))) else (some false)) = some r := h
 clear h
 by_cases c2 : a0 ≥ 97
 ·rw [if_pos c2] at H
  have c2b0 : decide (97 ≤ a0) = true := decide_eq_true c2
  clear c2
  obtain rfl := Option.some.inj H
  go_enter Try.func45, Try.ntmps45
  go_wp2
  go_ret
  exact ⟨by first | rfl | (simp; done) | (simp [*]; done), by repeat (first | exact Drawn0.refl _ | apply Drawn0.step)⟩
 ·rw [if_neg c2] at H
  have c2b0 : decide (97 ≤ a0) = false := decide_eq_false c2
  clear c2
  obtain rfl := Option.some.inj H
  go_enter Try.func45, Try.ntmps45
  go_wp2
  go_ret
  exact ⟨by first | rfl | (simp; done) | (simp [*]; done), by repeat (first | exact Drawn0.refl _ | apply Drawn0.step)⟩
def fairleadref09_digit.f (a0 : Int) : Option (Bool) := if a0 ≥ 48 then (some (decide (a0 ≤ 57))) else (some false)
set_option maxHeartbeats 8000000 in
set_option maxRecDepth 100000 in
theorem fairleadref09_digit.calls (a0 : Int) (r : Bool) (w : World) (h : fairleadref09_digit.f a0 = some r) :
  Calls Try.prog 47 #[.int .u8 a0] w fun e w' => e = .returned (.bool r) ∧ Drawn0 w w' := by
 have H : (if a0 ≥ 48 then (some (decide (a0 ≤ 57))) else (some false)) = some r := h
 clear h
 by_cases c2 : a0 ≥ 48
 ·rw [if_pos c2] at H
  have c2b0 : decide (48 ≤ a0) = true := decide_eq_true c2
  clear c2
  obtain rfl := Option.some.inj H
  go_enter Try.func47, Try.ntmps47
  go_wp2
  go_ret
  exact ⟨by first | rfl | (simp; done) | (simp [*]; done), by repeat (first | exact Drawn0.refl _ | apply Drawn0.step)⟩
 ·rw [if_neg c2] at H
  have c2b0 : decide (48 ≤ a0) = false := decide_eq_false c2
  clear c2
  obtain rfl := Option.some.inj H
  go_enter Try.func47, Try.ntmps47
  go_wp2
  go_ret
  exact ⟨by first | rfl | (simp; done) | (simp [*]; done), by repeat (first | exact Drawn0.refl _ | apply Drawn0.step)⟩
def fairleadref09_goes.f (a0 : Int) : Option (Bool) := (fairleadref09_small.f a0).bind fun t138 => (if t138 = true then (some true) else ((fairleadref09_digit.f a0).bind fun t139 => (if t139 = true then (some true) else (some (a0 == 95)))))
set_option maxHeartbeats 8000000 in
set_option maxRecDepth 100000 in
theorem fairleadref09_goes.calls (a0 : Int) (r : Bool) (w : World) (h : fairleadref09_goes.f a0 = some r) :
  Calls Try.prog 51 #[.int .u8 a0] w fun e w' => e = .returned (.bool r) ∧ Drawn0 w w' := by
 have H : ((fairleadref09_small.f a0).bind fun t138 => (if t138 = true then (some true) else ((fairleadref09_digit.f a0).bind fun t139 => (if t139 = true then (some true) else (some (a0 == 95)))))) = some r := h
 clear h
 replace H := Option.bind_eq_some_iff.mp H
 obtain ⟨t138, A20, H⟩ := H
 replace H : (if t138 = true then (some true) else ((fairleadref09_digit.f a0).bind fun t139 => (if t139 = true then (some true) else (some (a0 == 95))))) = some r := H
 have A2 := Aside0.mk A20
 clear A20
 by_cases c3 : t138 = true
 ·subst c3
  have H1 : (some true) = some r := by rw [if_pos rfl] at H; exact H
  clear H
  have H := H1
  clear H1
  obtain rfl := Option.some.inj H
  go_enter Try.func51, Try.ntmps51
  go_wp2_with (first | ((with_reducible refine gate_callee (f := 45) rfl ?_); refine goesL_ (some 4) rfl rfl Try.func45 (by kernel_rfl) rfl #[.int .u8 a0] rfl (by (try simp only [List.map_toArray, List.map_cons, List.map_nil]); first | done | rfl | (simp only [List.length_drop, List.length_take]; rfl)) ?_; (with_reducible refine (fairleadref09_small.calls a0 true _ A2.out).mono ?_); rintro e w' ⟨rfl, ⟨nd, rfl⟩⟩; refine ⟨_, rfl, ?_⟩))
  go_ret
  exact ⟨by first | rfl | (simp; done) | (simp [*]; done), by repeat (first | exact Drawn0.refl _ | apply Drawn0.step)⟩
 ·replace c3 := Bool.eq_false_iff.mpr c3
  subst c3
  have H1 : ((fairleadref09_digit.f a0).bind fun t139 => (if t139 = true then (some true) else (some (a0 == 95)))) = some r := by rw [if_neg (show ¬ (false = true) by decide)] at H; exact H
  clear H
  have H := H1
  clear H1
  replace H := Option.bind_eq_some_iff.mp H
  obtain ⟨t139, A40, H⟩ := H
  replace H : (if t139 = true then (some true) else (some (a0 == 95))) = some r := H
  have A4 := Aside0.mk A40
  clear A40
  by_cases c5 : t139 = true
  ·subst c5
   have H1 : (some true) = some r := by rw [if_pos rfl] at H; exact H
   clear H
   have H := H1
   clear H1
   obtain rfl := Option.some.inj H
   go_enter Try.func51, Try.ntmps51
   go_wp2_with (first | ((with_reducible refine gate_callee (f := 45) rfl ?_); refine goesL_ (some 4) rfl rfl Try.func45 (by kernel_rfl) rfl #[.int .u8 a0] rfl (by (try simp only [List.map_toArray, List.map_cons, List.map_nil]); first | done | rfl | (simp only [List.length_drop, List.length_take]; rfl)) ?_; (with_reducible refine (fairleadref09_small.calls a0 false _ A2.out).mono ?_); rintro e w' ⟨rfl, ⟨nd, rfl⟩⟩; refine ⟨_, rfl, ?_⟩) | (go_at_call 47; (with_reducible refine (fairleadref09_digit.calls a0 true _ A4.out).mono ?_); rintro e w' ⟨rfl, ⟨nd, rfl⟩⟩))
   go_ret
   exact ⟨by first | rfl | (simp; done) | (simp [*]; done), by repeat (first | exact Drawn0.refl _ | apply Drawn0.step)⟩
  ·replace c5 := Bool.eq_false_iff.mpr c5
   subst c5
   have H1 : (some (a0 == 95)) = some r := by rw [if_neg (show ¬ (false = true) by decide)] at H; exact H
   clear H
   have H := H1
   clear H1
   obtain rfl := Option.some.inj H
   go_enter Try.func51, Try.ntmps51
   go_wp2_with (first | ((with_reducible refine gate_callee (f := 45) rfl ?_); refine goesL_ (some 4) rfl rfl Try.func45 (by kernel_rfl) rfl #[.int .u8 a0] rfl (by (try simp only [List.map_toArray, List.map_cons, List.map_nil]); first | done | rfl | (simp only [List.length_drop, List.length_take]; rfl)) ?_; (with_reducible refine (fairleadref09_small.calls a0 false _ A2.out).mono ?_); rintro e w' ⟨rfl, ⟨nd, rfl⟩⟩; refine ⟨_, rfl, ?_⟩) | (go_at_call 47; (with_reducible refine (fairleadref09_digit.calls a0 false _ A4.out).mono ?_); rintro e w' ⟨rfl, ⟨nd, rfl⟩⟩))
   go_ret
   exact ⟨by first | rfl | (simp; done) | (simp [*]; done), by repeat (first | exact Drawn0.refl _ | apply Drawn0.step)⟩
def fairleadref09_run.l0 : Nat → ByteArray → Int → Int → Option (Int)
 | 0, _, _, _ => none
 | k + 1, x0, x1, x5 => if (wrap64 (x1 + x5)) < (x0.size : Int) then (if 0 ≤ (wrap64 (x1 + x5)) then ((fairleadref09_goes.f (bt x0 (wrap64 (x1 + x5)))).bind fun t140 => (if t140 = true then (fairleadref09_run.l0 k x0 x1 (wrap64 (x5 + 1))) else (some x5))) else (none)) else (some x5)
def fairleadref09_run.f (k : Nat) (a0 : ByteArray) (a1 : Int) : Option (Int) := fairleadref09_run.l0 k a0 a1 0
set_option maxHeartbeats 8000000 in
set_option maxRecDepth 100000 in
theorem fairleadref09_run.calls (k : Nat) (a0 : ByteArray) (a1 : Int) (r : Int) (w : World) (h : fairleadref09_run.f k a0 a1 = some r) :
  Calls Try.prog 46 #[.string a0, .int .i64 a1] w fun e w' => e = .returned (.int .i64 r) ∧ Drawn0 w w' := by
 have H : (fairleadref09_run.l0 k a0 a1 0) = some r := h
 clear h
 have H' := Aside0.mk H
 clear H
 go_enter Try.func46, Try.ntmps46
 go_wp2
 go_loopg [5] k (fun kq v5 w' => ∃ (x5_1 : Int), v5 = .int .i64 x5_1 ∧ Aside0 (fairleadref09_run.l0 kq a0 a1 x5_1 = some r) ∧ Aside0 (kq ≤ k) ∧ Drawn0 w w')
 case atStart => exact ⟨(0), (by first | rfl | (simp; done) | (simp [*]; done)), H', ⟨Nat.le_refl _⟩, by repeat (first | exact Drawn0.refl _ | apply Drawn0.step)⟩
 case round =>
  clear H'
  try clear p2
  obtain ⟨x5_1, rfl, HA, HK1, ⟨m1, rfl⟩⟩ := hrel
  cases gk with
  | zero => exact absurd HA.out (by simp [fairleadref09_run.l0])
  | succ k1 =>
   have H := HA.out
   clear HA
   simp only [fairleadref09_run.l0] at H
   by_cases c3 : (wrap64 (a1 + x5_1)) < (a0.size : Int)
   ·rw [if_pos c3] at H
    have c3b0 : decide ((wrap64 (a1 + x5_1)) < (a0.size : Int)) = true := decide_eq_true c3
    clear c3
    obtain ⟨ji4, hji4⟩ : ∃ j_ : Int, (wrap64 (a1 + x5_1)) = j_ := ⟨_, rfl⟩
    replace H : (if 0 ≤ (ji4) then ((fairleadref09_goes.f (bt a0 (ji4))).bind fun t140 => (if t140 = true then (fairleadref09_run.l0 k1 a0 a1 (wrap64 (x5_1 + 1))) else (some x5_1))) else (none)) = some r := by first | (rw [hji4] at H; exact H) | (simp only [hji4] at H ⊢; exact H)
    (try rw [hji4] at c3b0)
    have hji4w : (IntKind.i64.wrap (a1 + x5_1)) = ji4 := (i64_w _).trans hji4
    by_cases c5 : 0 ≤ (ji4)
    ·rw [if_pos c5] at H
     have c5b0 : decide (0 ≤ (ji4)) = true := decide_eq_true c5
     clear c5
     replace H := Option.bind_eq_some_iff.mp H
     obtain ⟨t140, A70, H⟩ := H
     replace H : (if t140 = true then (fairleadref09_run.l0 k1 a0 a1 (wrap64 (x5_1 + 1))) else (some x5_1)) = some r := H
     have A7 := Aside0.mk A70
     clear A70
     by_cases c8 : t140 = true
     ·subst c8
      have H1 : (fairleadref09_run.l0 k1 a0 a1 (wrap64 (x5_1 + 1))) = some r := by rw [if_pos rfl] at H; exact H
      clear H
      have H := H1
      clear H1
      have H' := Aside0.mk H
      clear H
      have p6 : 0 ≤ ((ji4) : Int) := of_decide_eq_true (by first | (with_reducible assumption) | assumption)
      have q6 : (ji4) < (a0.size : Int) := of_decide_eq_true (by first | (with_reducible assumption) | assumption)
      have hx6 := bt_at a0 (ji4)
      replace p6 := eq_true p6
      replace q6 := eq_true q6
      go_wp2_with (first | (go_at_call 51; (with_reducible refine (fairleadref09_goes.calls (bt a0 (ji4)) true _ A7.out).mono ?_); rintro e w' ⟨rfl, ⟨nd, rfl⟩⟩))
      go_roundg k1
      case measure => have := HK1.out; omega
      case rel => exact ⟨(wrap64 (x5_1 + 1)), (by first | rfl | (simp; done) | (simp [*]; done)), H', ⟨by have := HK1.out; omega⟩, by repeat (first | exact Drawn0.refl _ | apply Drawn0.step)⟩
     ·replace c8 := Bool.eq_false_iff.mpr c8
      subst c8
      have H1 : (some x5_1) = some r := by rw [if_neg (show ¬ (false = true) by decide)] at H; exact H
      clear H
      have H := H1
      clear H1
      obtain rfl := Option.some.inj H
      have p6 : 0 ≤ ((ji4) : Int) := of_decide_eq_true (by first | (with_reducible assumption) | assumption)
      have q6 : (ji4) < (a0.size : Int) := of_decide_eq_true (by first | (with_reducible assumption) | assumption)
      have hx6 := bt_at a0 (ji4)
      replace p6 := eq_true p6
      replace q6 := eq_true q6
      go_wp2_with (first | (go_at_call 51; (with_reducible refine (fairleadref09_goes.calls (bt a0 (ji4)) false _ A7.out).mono ?_); rintro e w' ⟨rfl, ⟨nd, rfl⟩⟩))
      go_ret
      exact ⟨by first | rfl | (simp; done) | (simp only [← hji4] <;> (first | rfl | simp)) | (simp [*]; done), by repeat (first | exact Drawn0.refl _ | apply Drawn0.step)⟩
    ·rw [if_neg c5] at H
     exact absurd H (by simp)
   ·rw [if_neg c3] at H
    have c3b0 : decide ((wrap64 (a1 + x5_1)) < (a0.size : Int)) = false := decide_eq_false c3
    clear c3
    obtain rfl := Option.some.inj H
    go_wp2
    go_ret
    exact ⟨by first | rfl | (simp; done) | (simp [*]; done), by repeat (first | exact Drawn0.refl _ | apply Drawn0.step)⟩
end Go.Proofs.Ytfahchgglapglaa.M
