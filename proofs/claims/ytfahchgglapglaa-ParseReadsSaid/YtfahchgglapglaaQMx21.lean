-- Laid by a program (wip/tools/myprint.py) out of the loaded program's own print: for each Go function a Lean function and the proof of its contract.
import Derived.Test.YtfahchgglapglaaQMx0
import Derived.Test.YtfahchgglapglaaQMx1
import Derived.Test.YtfahchgglapglaaQMx20
namespace Go.Proofs.Ytfahchgglapglaa.M
open Go.RowKit Go.Proofs.YtfahchgglapglaaW.PrintWords Go.Proofs.YtfahchgglapglaaW.PrintLast Go.Proofs.YtfahchgglapglaaW.PrintMore
attribute [local go_sem] max2_int min2_int max_two min_two max_three min_three max_four min_four   -- for this text's walks alone
set_option linter.unusedVariables false
set_option linter.unusedSimpArgs false
attribute [local go_sem high] eqA24
mutual
def fairleadref10_Same.j0 : Nat → Bool → Int → Int → List (S44) → Int → Int → List (S44) → Option (Bool)
 | 0, _, _, _, _, _, _, _ => none
 | k + 1, x19, Z0, Z1, Z2, Z3, Z4, Z5 => if x19 = true then (some false) else (fairleadref10_Same.l0 k 0 Z0 Z1 Z2 Z3 Z4 Z5)
def fairleadref10_Same.l0 : Nat → Int → Int → Int → List (S44) → Int → Int → List (S44) → Option (Bool)
 | 0, _, _, _, _, _, _, _ => none
 | k + 1, x5, Z0, Z1, Z2, Z3, Z4, Z5 => if x5 < (Z2.length : Int) then (if 0 ≤ x5 then (if x5 < (Z5.length : Int) then ((fairleadref10_SameRule.f k ((rd_T44 Z2 x5).f0.f0) ((rd_T44 Z2 x5).f0.f1) ((rd_T44 Z2 x5).f1) ((rd_T44 Z2 x5).f2) ((rd_T44 Z5 x5).f0.f0) ((rd_T44 Z5 x5).f0.f1) ((rd_T44 Z5 x5).f1) ((rd_T44 Z5 x5).f2)).bind fun t198 => (if t198 = true then (fairleadref10_Same.l0 k (wrap64 (x5 + 1)) Z0 Z1 Z2 Z3 Z4 Z5) else (some false))) else (none)) else (none)) else (some true)
end
def fairleadref10_Same.f (k : Nat) (a0_0 : Int) (a0_1 : Int) (l0_2 : List (S44)) (a1_0 : Int) (a1_1 : Int) (l1_2 : List (S44)) : Option (Bool) := if (!(a0_0 == a1_0) || (!(a0_1 == a1_1))) = true then (fairleadref10_Same.j0 k true a0_0 a0_1 l0_2 a1_0 a1_1 l1_2) else (fairleadref10_Same.j0 k ((l0_2.length : Int) != (l1_2.length : Int)) a0_0 a0_1 l0_2 a1_0 a1_1 l1_2)
def fairleadref10_Same.T6 : Bool × List (List Nat × List Nat) := (true, [([], []), ([0], [0]), ([], []), ([1, 2], [1, 2]), ([3], [3]), ([], []), ([5], [5]), ([], []), ([6, 7], [6, 7]), ([8], [8]), ([4, 9], [4, 9]), ([10], [10])])
def fairleadref10_Same.B6 : List Nat := [0, 1, 0, 7, 15, 0, 32, 0, 224, 480, 1023, 2047]
theorem fairleadref10_Same.tab6 : rtab .any (opsOf Try.f12 6) = fairleadref10_Same.T6 := by kernel_rfl
theorem fairleadref10_Same.bits6 : waitsOk fairleadref10_Same.T6.2 fairleadref10_Same.B6 = true := by kernel_rfl
set_option maxHeartbeats 8000000 in
set_option maxRecDepth 100000 in
theorem fairleadref10_Same.calls (k : Nat) (a0_0 : Int) (a0_1 : Int) (A0_2 : Option Addr) (c0_2 : Nat) (l0_2 : List (S44)) (a1_0 : Int) (a1_1 : Int) (A1_2 : Option Addr) (c1_2 : Nat) (l1_2 : List (S44)) (r : Bool) (w : World) (hr0_2 : Kd.C k44 w A0_2 l0_2.length l0_2) (hc0_2 : l0_2.length ≤ c0_2) (hr1_2 : Kd.C k44 w A1_2 l1_2.length l1_2) (hc1_2 : l1_2.length ≤ c1_2) (h : fairleadref10_Same.f k a0_0 a0_1 l0_2 a1_0 a1_1 l1_2 = some r) :
  Calls Try.prog 12 #[.agg #[.int .i64 a0_0, .int .i64 a0_1, .slice A0_2 l0_2.length c0_2], .agg #[.int .i64 a1_0, .int .i64 a1_1, .slice A1_2 l1_2.length c1_2]] w fun e w' => e = .returned (.bool r) ∧ Below w.heap.size w w' := by
 have hu27 := Try.underlying27
 have hu24 := Try.underlying24
 have hu44 := Try.underlying44
 have HR0_2 := Aside0.mk hr0_2
 have HC0_2 := Aside0.mk hc0_2
 clear hr0_2 hc0_2
 have HR1_2 := Aside0.mk hr1_2
 have HC1_2 := Aside0.mk hc1_2
 clear hr1_2 hc1_2
 have HB := Aside0.mk (Below.refl w.heap.size w)
 have H : (if (!(a0_0 == a1_0) || (!(a0_1 == a1_1))) = true then (fairleadref10_Same.j0 k true a0_0 a0_1 l0_2 a1_0 a1_1 l1_2) else (fairleadref10_Same.j0 k ((l0_2.length : Int) != (l1_2.length : Int)) a0_0 a0_1 l0_2 a1_0 a1_1 l1_2)) = some r := h
 clear h
 have HC3 := Aside0.mk H
 clear H
 go_enter Try.func12, Try.ntmps12
 go_upto_region 1 with (first | ((with_reducible refine gate_dst (N := 2) rfl ?_); (try (refine gate_guard (by rfl) ?_; dsimp only)); refine box_event ?hg (N := 2) ?hd (cs := #[.int .i64 a0_0, .int .i64 a0_1, .slice A0_2 l0_2.length c0_2]) (t := 27) ?hr ?_; (case hd => rfl); (case hg => rfl); (case hr => first | (go_simp; done) | (go_simp; rfl)); intro gb194 hg w4 hbox hb; have n0_ := Aside0.mk (below_step (by repeat (first | (with_reducible first | exact HB.out | apply below_alloc | apply pw_below_drewN | apply below_drew1) | exact HB.out)) hb); have n1_ := Aside0.mk (hbox); have n2_ := Aside0.mk ((by rw [hg]; exact (below_size (by repeat (first | (with_reducible first | exact HB.out | apply below_alloc | apply pw_below_drewN | apply below_drew1) | exact HB.out))) : w.heap.size ≤ gb194)); have n3_ := Aside0.mk ((by rw [hg]; exact (below_size (by repeat (first | (with_reducible first | exact HB.out | apply below_alloc | apply pw_below_drewN | apply below_drew1) | exact HB.out))) : w.heap.size ≤ gb194)); clear HB; have HB := n0_; have BK194 := n1_; have GW194 := n2_; have GE194 := n3_; clear n0_ n1_ n2_ n3_; clear hb hbox hg) | ((with_reducible refine gate_dst (N := 3) rfl ?_); (try (refine gate_guard (by rfl) ?_; dsimp only)); refine box_event ?hg (N := 3) ?hd (cs := #[.int .i64 a1_0, .int .i64 a1_1, .slice A1_2 l1_2.length c1_2]) (t := 27) ?hr ?_; (case hd => rfl); (case hg => rfl); (case hr => first | (go_simp; done) | (go_simp; rfl)); intro gb195 hg w5 hbox hb; have n0_ := Aside0.mk (blk_below (g := gb194) (o := .cells #[.int .i64 a0_0, .int .i64 a0_1, .slice A0_2 l0_2.length c0_2] 27 (0, 0)) (by (with_reducible repeat (first | refine blk_drewN ?_ _ | refine blk_drew ?_ | refine blk_alloc ?_ _)); exact BK194.out) hb); have n1_ := Aside0.mk (below_step (by repeat (first | (with_reducible first | exact HB.out | apply below_alloc | apply pw_below_drewN | apply below_drew1 | refine below_set ?_ GE194.out) | exact HB.out)) hb); have n2_ := Aside0.mk (hbox); have n3_ := Aside0.mk ((by rw [hg]; exact (below_size (by repeat (first | (with_reducible first | exact HB.out | apply below_alloc | apply pw_below_drewN | apply below_drew1 | refine below_set ?_ GE194.out) | exact HB.out))) : w.heap.size ≤ gb195)); have n4_ := Aside0.mk ((by rw [hg]; exact (below_size (by repeat (first | (with_reducible first | exact HB.out | apply below_alloc | apply pw_below_drewN | apply below_drew1 | refine below_set ?_ GE194.out) | exact HB.out))) : w.heap.size ≤ gb195)); have n5_ := Aside0.mk ((by rw [hg]; exact Nat.ne_of_lt (blk_lt (g := gb194) (o := .cells #[.int .i64 a0_0, .int .i64 a0_1, .slice A0_2 l0_2.length c0_2] 27 (0, 0)) (by (with_reducible repeat (first | refine blk_drewN ?_ _ | refine blk_drew ?_ | refine blk_alloc ?_ _)); exact BK194.out)) : gb194 ≠ gb195)); have n6_ := Aside0.mk ((by rw [hg]; exact Nat.ne_of_gt (blk_lt (g := gb194) (o := .cells #[.int .i64 a0_0, .int .i64 a0_1, .slice A0_2 l0_2.length c0_2] 27 (0, 0)) (by (with_reducible repeat (first | refine blk_drewN ?_ _ | refine blk_drew ?_ | refine blk_alloc ?_ _)); exact BK194.out)) : gb195 ≠ gb194)); clear BK194; clear HB; have BK194 := n0_; have HB := n1_; have BK195 := n2_; have GW195 := n3_; have GE195 := n4_; have NB194_195 := n5_; have NB195_194 := n6_; clear n0_ n1_ n2_ n3_ n4_ n5_ n6_; clear hb hbox hg))
 (try simp only [Act.put, List.setIfInBounds_toArray, List.set_cons_zero, List.set_cons_succ])
 go_cut [19] (fun v19 wc => ∃ (kq : Nat) (x19_2 : Bool), v19 = .bool x19_2 ∧ Aside0 (fairleadref10_Same.j0 kq x19_2 a0_0 a0_1 l0_2 a1_0 a1_1 l1_2 = some r) ∧ Aside0 (kq ≤ k) ∧ Aside0 (wc.heap[gb194]? = some (.cells #[.int .i64 a0_0, .int .i64 a0_1, (.slice A0_2 l0_2.length c0_2)] 27 (0, 0))) ∧ Aside0 (wc.heap[gb195]? = some (.cells #[.int .i64 a1_0, .int .i64 a1_1, (.slice A1_2 l1_2.length c1_2)] 27 (0, 0))) ∧ Aside0 (Below w.heap.size w wc))
 case first =>
  have H := HC3.out
  clear HC3
  by_cases c6 : (!(a0_0 == a1_0) || (!(a0_1 == a1_1))) = true
  ·rw [if_pos c6] at H
   have c6b0 : (!(a0_0 == a1_0) || (!(a0_1 == a1_1))) = true := c6
   clear c6
   (first | rw [c6b0] | (simp only [i64_w, i32_w]; rw [c6b0]) | skip)
   have H' := Aside0.mk H
   clear H
   have hnb7 := NB194_195.out
   have hnc7 := NB195_194.out
   have hcz8_0 : w5.cell? ⟨gb194, 0, none⟩ = some (.int .i64 a0_0) := (blk_cell BK194.out 0).trans rfl
   have hcz8_1 : w5.cell? ⟨gb194, 1, none⟩ = some (.int .i64 a0_1) := (blk_cell BK194.out 1).trans rfl
   have hcz8_2 : w5.cell? ⟨gb194, 2, none⟩ = some (.slice A0_2 l0_2.length c0_2) := (blk_cell BK194.out 2).trans rfl
   have hfz8_0 := blk_frozen BK194.out
   have hcz9_0 : w5.cell? ⟨gb195, 0, none⟩ = some (.int .i64 a1_0) := (blk_cell BK195.out 0).trans rfl
   have hcz9_1 : w5.cell? ⟨gb195, 1, none⟩ = some (.int .i64 a1_1) := (blk_cell BK195.out 1).trans rfl
   have hcz9_2 : w5.cell? ⟨gb195, 2, none⟩ = some (.slice A1_2 l1_2.length c1_2) := (blk_cell BK195.out 2).trans rfl
   have hfz9_0 := blk_frozen BK195.out
   go_wp2
   go_meet
   case rel => exact ⟨_, (true), (by first | rfl | (simp; done) | (simp [*]; done)), H', ⟨by first | omega | exact Nat.le_refl _⟩, ⟨by (with_reducible repeat (first | refine blk_drewN ?_ _ | refine blk_drew ?_ | refine blk_alloc ?_ _)); exact BK194.out⟩, ⟨by (with_reducible repeat (first | refine blk_drewN ?_ _ | refine blk_drew ?_ | refine blk_alloc ?_ _)); exact BK195.out⟩, ⟨by repeat (first | (with_reducible first | exact HB.out | apply below_alloc | apply pw_below_drewN | apply below_drew1 | refine below_set ?_ GE194.out | refine below_set ?_ GE195.out) | exact HB.out)⟩⟩
  ·rw [if_neg c6] at H
   have c6b0 : (!(a0_0 == a1_0) || (!(a0_1 == a1_1))) = false := by simpa using c6
   clear c6
   (first | rw [c6b0] | (simp only [i64_w, i32_w]; rw [c6b0]) | skip)
   have H' := Aside0.mk H
   clear H
   have hnb10 := NB194_195.out
   have hnc10 := NB195_194.out
   have hcz11_0 : w5.cell? ⟨gb194, 0, none⟩ = some (.int .i64 a0_0) := (blk_cell BK194.out 0).trans rfl
   have hcz11_1 : w5.cell? ⟨gb194, 1, none⟩ = some (.int .i64 a0_1) := (blk_cell BK194.out 1).trans rfl
   have hcz11_2 : w5.cell? ⟨gb194, 2, none⟩ = some (.slice A0_2 l0_2.length c0_2) := (blk_cell BK194.out 2).trans rfl
   have hfz11_0 := blk_frozen BK194.out
   have hcz12_0 : w5.cell? ⟨gb195, 0, none⟩ = some (.int .i64 a1_0) := (blk_cell BK195.out 0).trans rfl
   have hcz12_1 : w5.cell? ⟨gb195, 1, none⟩ = some (.int .i64 a1_1) := (blk_cell BK195.out 1).trans rfl
   have hcz12_2 : w5.cell? ⟨gb195, 2, none⟩ = some (.slice A1_2 l1_2.length c1_2) := (blk_cell BK195.out 2).trans rfl
   have hfz12_0 := blk_frozen BK195.out
   go_wp2
   go_meet
   case rel => exact ⟨_, (((l0_2.length : Int) != (l1_2.length : Int))), (by first | rfl | (simp; done) | (simp [*]; done)), H', ⟨by first | omega | exact Nat.le_refl _⟩, ⟨by (with_reducible repeat (first | refine blk_drewN ?_ _ | refine blk_drew ?_ | refine blk_alloc ?_ _)); exact BK194.out⟩, ⟨by (with_reducible repeat (first | refine blk_drewN ?_ _ | refine blk_drew ?_ | refine blk_alloc ?_ _)); exact BK195.out⟩, ⟨by repeat (first | (with_reducible first | exact HB.out | apply below_alloc | apply pw_below_drewN | apply below_drew1 | refine below_set ?_ GE194.out | refine below_set ?_ GE195.out) | exact HB.out)⟩⟩
 case rest =>
  clear HC3
  try clear c1
  try clear p2
  try clear c6
  try clear c6b0
  try clear c7
  try clear c10
  try clear c12
  try clear hcz11_0 hcz11_1 hcz11_2
  try clear hcz12_0 hcz12_1 hcz12_2
  try clear hcz8_0 hcz8_1 hcz8_2
  try clear hcz9_0 hcz9_1 hcz9_2
  try clear hfz11_0
  try clear hfz12_0
  try clear hfz8_0
  try clear hfz9_0
  obtain ⟨kq, x19_2, rfl, HA, HJ2, BK194, BK195, HB⟩ := hcut
  cases kq with
  | zero => exact absurd HA.out (by simp [fairleadref10_Same.j0])
  | succ kj2 =>
   have H := HA.out
   clear HA
   simp only [fairleadref10_Same.j0] at H
   by_cases c13 : x19_2 = true
   ·subst c13
    have H1 : (some false) = some r := by rw [if_pos rfl] at H; exact H
    clear H
    have H := H1
    clear H1
    obtain rfl := Option.some.inj H
    go_wp2
    go_ret
    exact ⟨by first | rfl | (simp [errW_none, errW_some] <;> rfl) | (simp [*, errW_none, errW_some] <;> rfl), by repeat (first | (with_reducible first | exact HB.out | apply below_alloc | apply pw_below_drewN | apply below_drew1 | refine below_set ?_ GE194.out | refine below_set ?_ GE195.out) | exact HB.out)⟩
   ·replace c13 := Bool.eq_false_iff.mpr c13
    subst c13
    have H1 : (fairleadref10_Same.l0 kj2 0 a0_0 a0_1 l0_2 a1_0 a1_1 l1_2) = some r := by rw [if_neg (show ¬ (false = true) by decide)] at H; exact H
    clear H
    have H := H1
    clear H1
    have H' := Aside0.mk H
    clear H
    go_wp2
    go_loopg [5] kj2 (fun kq v5 w' => ∃ (x5_2 : Int), v5 = .int .i64 x5_2 ∧ Aside0 (fairleadref10_Same.l0 kq x5_2 a0_0 a0_1 l0_2 a1_0 a1_1 l1_2 = some r) ∧ Aside0 (kq ≤ kj2) ∧ Aside0 (w'.heap[gb194]? = some (.cells #[.int .i64 a0_0, .int .i64 a0_1, (.slice A0_2 l0_2.length c0_2)] 27 (0, 0))) ∧ Aside0 (w'.heap[gb195]? = some (.cells #[.int .i64 a1_0, .int .i64 a1_1, (.slice A1_2 l1_2.length c1_2)] 27 (0, 0))) ∧ Aside0 (Below w.heap.size w w'))
    case atStart => exact ⟨(0), (by first | rfl | (simp; done) | (simp [*]; done)), H', ⟨Nat.le_refl _⟩, ⟨by (with_reducible repeat (first | refine blk_drewN ?_ _ | refine blk_drew ?_ | refine blk_alloc ?_ _)); exact BK194.out⟩, ⟨by (with_reducible repeat (first | refine blk_drewN ?_ _ | refine blk_drew ?_ | refine blk_alloc ?_ _)); exact BK195.out⟩, ⟨by repeat (first | (with_reducible first | exact HB.out | apply below_alloc | apply pw_below_drewN | apply below_drew1 | refine below_set ?_ GE194.out | refine below_set ?_ GE195.out) | exact HB.out)⟩⟩
    case round =>
     clear H'
     try clear c1
     try clear p2
     try clear c6
     try clear c6b0
     try clear c7
     try clear c10
     try clear c12
     try clear c13
     try clear hcz11_0 hcz11_1 hcz11_2
     try clear hcz12_0 hcz12_1 hcz12_2
     try clear hcz8_0 hcz8_1 hcz8_2
     try clear hcz9_0 hcz9_1 hcz9_2
     try clear hfz11_0
     try clear hfz12_0
     try clear hfz8_0
     try clear hfz9_0
     try clear p2
     obtain ⟨x5_2, rfl, HA, HK2, BK194, BK195, HB⟩ := hrel
     cases gk with
     | zero => exact absurd HA.out (by simp [fairleadref10_Same.l0])
     | succ k2 =>
      have H := HA.out
      clear HA
      simp only [fairleadref10_Same.l0] at H
      by_cases c14 : x5_2 < (l0_2.length : Int)
      ·rw [if_pos c14] at H
       have c14b0 : decide (x5_2 < (l0_2.length : Int)) = true := decide_eq_true c14
       clear c14
       by_cases c15 : 0 ≤ x5_2
       ·rw [if_pos c15] at H
        have c15b0 : decide (0 ≤ x5_2) = true := decide_eq_true c15
        clear c15
        by_cases c16 : x5_2 < (l1_2.length : Int)
        ·rw [if_pos c16] at H
         have c16b0 : decide (x5_2 < (l1_2.length : Int)) = true := decide_eq_true c16
         clear c16
         replace H := Option.bind_eq_some_iff.mp H
         obtain ⟨t198, A170, H⟩ := H
         replace H : (if t198 = true then (fairleadref10_Same.l0 k2 (wrap64 (x5_2 + 1)) a0_0 a0_1 l0_2 a1_0 a1_1 l1_2) else (some false)) = some r := H
         have A17 := Aside0.mk A170
         clear A170
         by_cases c18 : t198 = true
         ·subst c18
          have H1 : (fairleadref10_Same.l0 k2 (wrap64 (x5_2 + 1)) a0_0 a0_1 l0_2 a1_0 a1_1 l1_2) = some r := by rw [if_pos rfl] at H; exact H
          clear H
          have H := H1
          clear H1
          have H' := Aside0.mk H
          clear H
          have hnb19 := NB194_195.out
          have hnc19 := NB195_194.out
          have hcz20_0 : wr.cell? ⟨gb194, 0, none⟩ = some (.int .i64 a0_0) := (blk_cell BK194.out 0).trans rfl
          have hcz20_1 : wr.cell? ⟨gb194, 1, none⟩ = some (.int .i64 a0_1) := (blk_cell BK194.out 1).trans rfl
          have hcz20_2 : wr.cell? ⟨gb194, 2, none⟩ = some (.slice A0_2 l0_2.length c0_2) := (blk_cell BK194.out 2).trans rfl
          have hfz20_0 := blk_frozen BK194.out
          try go_wp2
          have n0_ := Aside0.mk (blk_drew BK194.out)
          have n1_ := Aside0.mk (blk_drew BK195.out)
          have n2_ := Aside0.mk (below_drew1 HB.out)
          clear BK194
          clear BK195
          clear HB
          have BK194 := n0_
          have BK195 := n1_
          have HB := n2_
          clear n0_ n1_ n2_
          have p196 : 0 ≤ (x5_2 : Int) := of_decide_eq_true (by first | (with_reducible assumption) | assumption)
          have q196 : x5_2 < (l0_2.length : Int) := of_decide_eq_true (by first | (with_reducible assumption) | assumption)
          obtain ⟨ad196, A196_2, c196_2, A196_3, c196_3, e196, hx196_0, hx196_1, hx196_2, hx196_3, hl196_2, hi196_2, hl196_3, hi196_3⟩ := at_T44 HR0_2.out x5_2 p196 q196
          have hw196_3 := hx196_3
          have hw196_2 := hx196_2
          have hw196_1 := hx196_1
          have hw196_0 := hx196_0
          cases e196
          replace hx196_0 := (HB.out.cell (World.block_lt_of_cell? w _ hx196_0)).trans hx196_0
          replace hx196_1 := (HB.out.cell (World.block_lt_of_cell? w _ hx196_1)).trans hx196_1
          replace hx196_2 := (HB.out.cell (World.block_lt_of_cell? w _ hx196_2)).trans hx196_2
          replace hx196_3 := (HB.out.cell (World.block_lt_of_cell? w _ hx196_3)).trans hx196_3
          have HR196_2 := Aside0.mk hi196_2
          have HC196_2 := Aside0.mk hl196_2
          clear hi196_2 hl196_2
          have HR196_3 := Aside0.mk hi196_3
          have HC196_3 := Aside0.mk hl196_3
          clear hi196_3 hl196_3
          replace p196 := eq_true p196
          replace q196 := eq_true q196
          have p197 : 0 ≤ (x5_2 : Int) := of_decide_eq_true (by first | (with_reducible assumption) | assumption)
          have q197 : x5_2 < (l1_2.length : Int) := of_decide_eq_true (by first | (with_reducible assumption) | assumption)
          obtain ⟨ad197, A197_2, c197_2, A197_3, c197_3, e197, hx197_0, hx197_1, hx197_2, hx197_3, hl197_2, hi197_2, hl197_3, hi197_3⟩ := at_T44 HR1_2.out x5_2 p197 q197
          have hw197_3 := hx197_3
          have hw197_2 := hx197_2
          have hw197_1 := hx197_1
          have hw197_0 := hx197_0
          cases e197
          replace hx197_0 := (HB.out.cell (World.block_lt_of_cell? w _ hx197_0)).trans hx197_0
          replace hx197_1 := (HB.out.cell (World.block_lt_of_cell? w _ hx197_1)).trans hx197_1
          replace hx197_2 := (HB.out.cell (World.block_lt_of_cell? w _ hx197_2)).trans hx197_2
          replace hx197_3 := (HB.out.cell (World.block_lt_of_cell? w _ hx197_3)).trans hx197_3
          have HR197_2 := Aside0.mk hi197_2
          have HC197_2 := Aside0.mk hl197_2
          clear hi197_2 hl197_2
          have HR197_3 := Aside0.mk hi197_3
          have HC197_3 := Aside0.mk hl197_3
          clear hi197_3 hl197_3
          replace p197 := eq_true p197
          replace q197 := eq_true q197
          refine start_ (n := 12) (S := fun w' => w'.cell? ⟨gb194, 0, none⟩ = some (.int .i64 a0_0) ∧ w'.cell? ⟨gb194, 1, none⟩ = some (.int .i64 a0_1) ∧ w'.cell? ⟨gb194, 2, none⟩ = some (.slice (some ad196) l0_2.length c0_2) ∧ w'.cell? ⟨gb195, 0, none⟩ = some (.int .i64 a1_0) ∧ w'.cell? ⟨gb195, 1, none⟩ = some (.int .i64 a1_1) ∧ w'.cell? ⟨gb195, 2, none⟩ = some (.slice (some ad197) l1_2.length c1_2) ∧ w'.cell? (ad196.add ((x5_2).toNat * 4)) = some (.int .i64 ((rd_T44 l0_2 x5_2).f0.f0)) ∧ w'.cell? ⟨(ad196.add ((x5_2).toNat * 4)).block, (ad196.add ((x5_2).toNat * 4)).off + 1, none⟩ = some (.int .i64 ((rd_T44 l0_2 x5_2).f0.f1)) ∧ w'.cell? ⟨(ad196.add ((x5_2).toNat * 4)).block, (ad196.add ((x5_2).toNat * 4)).off + 2, none⟩ = some (.slice A196_2 ((rd_T44 l0_2 x5_2).f1).length c196_2) ∧ w'.cell? ⟨(ad196.add ((x5_2).toNat * 4)).block, (ad196.add ((x5_2).toNat * 4)).off + 3, none⟩ = some (.slice A196_3 ((rd_T44 l0_2 x5_2).f2).length c196_3) ∧ w'.cell? (ad197.add ((x5_2).toNat * 4)) = some (.int .i64 ((rd_T44 l1_2 x5_2).f0.f0)) ∧ w'.cell? ⟨(ad197.add ((x5_2).toNat * 4)).block, (ad197.add ((x5_2).toNat * 4)).off + 1, none⟩ = some (.int .i64 ((rd_T44 l1_2 x5_2).f0.f1)) ∧ w'.cell? ⟨(ad197.add ((x5_2).toNat * 4)).block, (ad197.add ((x5_2).toNat * 4)).off + 2, none⟩ = some (.slice A197_2 ((rd_T44 l1_2 x5_2).f1).length c197_2) ∧ w'.cell? ⟨(ad197.add ((x5_2).toNat * 4)).block, (ad197.add ((x5_2).toNat * 4)).off + 3, none⟩ = some (.slice A197_3 ((rd_T44 l1_2 x5_2).f2).length c197_3)) (ds := []) #[false, false, false, false, false, false, false, false, false, false, false, false] (by kernel_rfl) rfl rfl ⟨(blk_cell BK194.out 0).trans rfl, (blk_cell BK194.out 1).trans rfl, (blk_cell BK194.out 2).trans rfl, (blk_cell BK195.out 0).trans rfl, (blk_cell BK195.out 1).trans rfl, (blk_cell BK195.out 2).trans rfl, ((HB.out.cell (World.block_lt_of_cell? w _ hw196_0)).trans hw196_0), ((HB.out.cell (World.block_lt_of_cell? w _ hw196_1)).trans hw196_1), ((HB.out.cell (World.block_lt_of_cell? w _ hw196_2)).trans hw196_2), ((HB.out.cell (World.block_lt_of_cell? w _ hw196_3)).trans hw196_3), ((HB.out.cell (World.block_lt_of_cell? w _ hw197_0)).trans hw197_0), ((HB.out.cell (World.block_lt_of_cell? w _ hw197_1)).trans hw197_1), ((HB.out.cell (World.block_lt_of_cell? w _ hw197_2)).trans hw197_2), ((HB.out.cell (World.block_lt_of_cell? w _ hw197_3)).trans hw197_3)⟩ (fun hHeld => ?_); refine with_tabW fairleadref10_Same.tab6 fairleadref10_Same.bits6 (fun HT_ HW_ => ?_)
          generalize wr.drew = w21 at BK194 BK195 HB HR196_2 HR196_3 HR197_2 HR197_3 hx196_0 hx196_1 hx196_2 hx196_3 hx197_0 hx197_1 hx197_2 hx197_3 hHeld ⊢
          refine Mine.pS 0 (some 27) ?_ (hc := any_of HT_.out (by kernel_rfl)); refine Mine.pS 2 (some 29) ?_ (hc := any_of HT_.out (by kernel_rfl)); refine Mine.pS 5 (some 32) ?_ (hc := any_of HT_.out (by kernel_rfl)); refine Mine.pS 7 (some 34) ?_ (hc := any_of HT_.out (by kernel_rfl)); refine Mine.tS 1 (some 28) hHeld ?_ (hc := take_ofW HT_.out HW_.out (by kernel_rfl)); refine Mine.pS 3 (some 30) ?_ (hc := any_of HT_.out (by kernel_rfl)); refine Mine.tS 4 (some 31) hHeld ?_ (hc := take_ofW HT_.out HW_.out (by kernel_rfl)); refine Mine.tS 6 (some 33) hHeld ?_ (hc := take_ofW HT_.out HW_.out (by kernel_rfl)); refine Mine.pS 8 (some 35) ?_ (hc := any_of HT_.out (by kernel_rfl)); refine Mine.tS 9 (some 36) hHeld ?_ (hc := take_ofW HT_.out HW_.out (by kernel_rfl))
          refine one_ (i := 10) (N := some 37) #[true, true, true, true, true, true, true, true, true, true, true, false] rfl rfl (one_of HT_.out (by kernel_rfl)) (by decide) (fun K hK => ?_)
          refine goes_ Try.func27 (by kernel_rfl) rfl #[.agg #[.int .i64 ((rd_T44 l0_2 x5_2).f0.f0), .int .i64 ((rd_T44 l0_2 x5_2).f0.f1), .slice A196_2 ((rd_T44 l0_2 x5_2).f1).length c196_2, .slice A196_3 ((rd_T44 l0_2 x5_2).f2).length c196_3], .agg #[.int .i64 ((rd_T44 l1_2 x5_2).f0.f0), .int .i64 ((rd_T44 l1_2 x5_2).f0.f1), .slice A197_2 ((rd_T44 l1_2 x5_2).f1).length c197_2, .slice A197_3 ((rd_T44 l1_2 x5_2).f2).length c197_3]] (by rfl) rfl rfl (by (try simp only [List.map_toArray, List.map_cons, List.map_nil]); first | done | rfl | (simp only [List.length_drop, List.length_take]; rfl)) ?_
          with_reducible refine (fairleadref10_SameRule.calls k2 ((rd_T44 l0_2 x5_2).f0.f0) ((rd_T44 l0_2 x5_2).f0.f1) _ _ ((rd_T44 l0_2 x5_2).f1) _ _ ((rd_T44 l0_2 x5_2).f2) ((rd_T44 l1_2 x5_2).f0.f0) ((rd_T44 l1_2 x5_2).f0.f1) _ _ ((rd_T44 l1_2 x5_2).f1) _ _ ((rd_T44 l1_2 x5_2).f2) true _ ?side1 ?side2 ?side3 ?side4 ?side5 ?side6 ?side7 ?side8 A17.out).mono ?_
          (case side1 => repeat (first | exact (Kd.C_below HR196_2.out HB.out) | (with_reducible refine Kd.C_alloc ?_ _) | (with_reducible refine Kd.C_drewN ?_ _) | (with_reducible refine Kd.C_drew ?_)))
          (case side2 => exact HC196_2.out)
          (case side3 => repeat (first | exact (Kd.C_below HR196_3.out HB.out) | (with_reducible refine Kd.C_alloc ?_ _) | (with_reducible refine Kd.C_drewN ?_ _) | (with_reducible refine Kd.C_drew ?_)))
          (case side4 => exact HC196_3.out)
          (case side5 => repeat (first | exact (Kd.C_below HR197_2.out HB.out) | (with_reducible refine Kd.C_alloc ?_ _) | (with_reducible refine Kd.C_drewN ?_ _) | (with_reducible refine Kd.C_drew ?_)))
          (case side6 => exact HC197_2.out)
          (case side7 => repeat (first | exact (Kd.C_below HR197_3.out HB.out) | (with_reducible refine Kd.C_alloc ?_ _) | (with_reducible refine Kd.C_drewN ?_ _) | (with_reducible refine Kd.C_drew ?_)))
          (case side8 => exact HC197_3.out)
          rintro e w22 ⟨rfl, hb⟩
          refine ⟨_, rfl, ?_⟩
          have n0_ := Aside0.mk (blk_below (g := gb194) (o := .cells #[.int .i64 a0_0, .int .i64 a0_1, .slice (some ad196) l0_2.length c0_2] 27 (0, 0)) (by (with_reducible repeat (first | refine blk_drewN ?_ _ | refine blk_drew ?_ | refine blk_alloc ?_ _)); exact BK194.out) hb)
          have n1_ := Aside0.mk (blk_below (g := gb195) (o := .cells #[.int .i64 a1_0, .int .i64 a1_1, .slice (some ad197) l1_2.length c1_2] 27 (0, 0)) (by (with_reducible repeat (first | refine blk_drewN ?_ _ | refine blk_drew ?_ | refine blk_alloc ?_ _)); exact BK195.out) hb)
          have n2_ := Aside0.mk (below_step (by repeat (first | (with_reducible first | exact HB.out | apply below_alloc | apply pw_below_drewN | apply below_drew1 | refine below_set ?_ GE194.out | refine below_set ?_ GE195.out) | exact HB.out)) hb)
          clear BK194
          clear BK195
          clear HB
          have BK194 := n0_
          have BK195 := n1_
          have HB := n2_
          clear n0_ n1_ n2_
          (try clear hb)
          (try clear hb2)
          (try clear hk)
          (try clear hi)
          refine hK.out _ _ ⟨(blk_cell BK194.out 0).trans rfl, (blk_cell BK194.out 1).trans rfl, (blk_cell BK194.out 2).trans rfl, (blk_cell BK195.out 0).trans rfl, (blk_cell BK195.out 1).trans rfl, (blk_cell BK195.out 2).trans rfl, ((HB.out.cell (World.block_lt_of_cell? w _ hw196_0)).trans hw196_0), ((HB.out.cell (World.block_lt_of_cell? w _ hw196_1)).trans hw196_1), ((HB.out.cell (World.block_lt_of_cell? w _ hw196_2)).trans hw196_2), ((HB.out.cell (World.block_lt_of_cell? w _ hw196_3)).trans hw196_3), ((HB.out.cell (World.block_lt_of_cell? w _ hw197_0)).trans hw197_0), ((HB.out.cell (World.block_lt_of_cell? w _ hw197_1)).trans hw197_1), ((HB.out.cell (World.block_lt_of_cell? w _ hw197_2)).trans hw197_2), ((HB.out.cell (World.block_lt_of_cell? w _ hw197_3)).trans hw197_3)⟩ (fun hHeld => ?_)
          clear hK K
          refine norm_ (a' := ?_) ?_ ?_
          rotate_left
          ·show Act.put _ (some 37) _ = _
           simp only [Act.put, List.setIfInBounds_toArray, List.set_cons_zero, List.set_cons_succ, i64_w, i32_w]
           rfl
          refine Mine.pS 11 (some 38) ?_ (hc := any_of HT_.out (by kernel_rfl))
          refine done_ (done_of HT_.out (by kernel_rfl)) ?_
          try go_wp2
          go_roundg k2
          case measure => have := HJ2.out; have := HK2.out; omega
          case rel => exact ⟨(wrap64 (x5_2 + 1)), (by first | rfl | (simp; done) | (simp [*]; done)), H', ⟨by have := HJ2.out; have := HK2.out; omega⟩, ⟨by (with_reducible repeat (first | refine blk_drewN ?_ _ | refine blk_drew ?_ | refine blk_alloc ?_ _)); exact BK194.out⟩, ⟨by (with_reducible repeat (first | refine blk_drewN ?_ _ | refine blk_drew ?_ | refine blk_alloc ?_ _)); exact BK195.out⟩, ⟨by repeat (first | (with_reducible first | exact HB.out | apply below_alloc | apply pw_below_drewN | apply below_drew1 | refine below_set ?_ GE194.out | refine below_set ?_ GE195.out) | exact HB.out)⟩⟩
         ·replace c18 := Bool.eq_false_iff.mpr c18
          subst c18
          have H1 : (some false) = some r := by rw [if_neg (show ¬ (false = true) by decide)] at H; exact H
          clear H
          have H := H1
          clear H1
          obtain rfl := Option.some.inj H
          have hnb23 := NB194_195.out
          have hnc23 := NB195_194.out
          have hcz24_0 : wr.cell? ⟨gb194, 0, none⟩ = some (.int .i64 a0_0) := (blk_cell BK194.out 0).trans rfl
          have hcz24_1 : wr.cell? ⟨gb194, 1, none⟩ = some (.int .i64 a0_1) := (blk_cell BK194.out 1).trans rfl
          have hcz24_2 : wr.cell? ⟨gb194, 2, none⟩ = some (.slice A0_2 l0_2.length c0_2) := (blk_cell BK194.out 2).trans rfl
          have hfz24_0 := blk_frozen BK194.out
          try go_wp2
          have n0_ := Aside0.mk (blk_drew BK194.out)
          have n1_ := Aside0.mk (blk_drew BK195.out)
          have n2_ := Aside0.mk (below_drew1 HB.out)
          clear BK194
          clear BK195
          clear HB
          have BK194 := n0_
          have BK195 := n1_
          have HB := n2_
          clear n0_ n1_ n2_
          have p196 : 0 ≤ (x5_2 : Int) := of_decide_eq_true (by first | (with_reducible assumption) | assumption)
          have q196 : x5_2 < (l0_2.length : Int) := of_decide_eq_true (by first | (with_reducible assumption) | assumption)
          obtain ⟨ad196, A196_2, c196_2, A196_3, c196_3, e196, hx196_0, hx196_1, hx196_2, hx196_3, hl196_2, hi196_2, hl196_3, hi196_3⟩ := at_T44 HR0_2.out x5_2 p196 q196
          have hw196_3 := hx196_3
          have hw196_2 := hx196_2
          have hw196_1 := hx196_1
          have hw196_0 := hx196_0
          cases e196
          replace hx196_0 := (HB.out.cell (World.block_lt_of_cell? w _ hx196_0)).trans hx196_0
          replace hx196_1 := (HB.out.cell (World.block_lt_of_cell? w _ hx196_1)).trans hx196_1
          replace hx196_2 := (HB.out.cell (World.block_lt_of_cell? w _ hx196_2)).trans hx196_2
          replace hx196_3 := (HB.out.cell (World.block_lt_of_cell? w _ hx196_3)).trans hx196_3
          have HR196_2 := Aside0.mk hi196_2
          have HC196_2 := Aside0.mk hl196_2
          clear hi196_2 hl196_2
          have HR196_3 := Aside0.mk hi196_3
          have HC196_3 := Aside0.mk hl196_3
          clear hi196_3 hl196_3
          replace p196 := eq_true p196
          replace q196 := eq_true q196
          have p197 : 0 ≤ (x5_2 : Int) := of_decide_eq_true (by first | (with_reducible assumption) | assumption)
          have q197 : x5_2 < (l1_2.length : Int) := of_decide_eq_true (by first | (with_reducible assumption) | assumption)
          obtain ⟨ad197, A197_2, c197_2, A197_3, c197_3, e197, hx197_0, hx197_1, hx197_2, hx197_3, hl197_2, hi197_2, hl197_3, hi197_3⟩ := at_T44 HR1_2.out x5_2 p197 q197
          have hw197_3 := hx197_3
          have hw197_2 := hx197_2
          have hw197_1 := hx197_1
          have hw197_0 := hx197_0
          cases e197
          replace hx197_0 := (HB.out.cell (World.block_lt_of_cell? w _ hx197_0)).trans hx197_0
          replace hx197_1 := (HB.out.cell (World.block_lt_of_cell? w _ hx197_1)).trans hx197_1
          replace hx197_2 := (HB.out.cell (World.block_lt_of_cell? w _ hx197_2)).trans hx197_2
          replace hx197_3 := (HB.out.cell (World.block_lt_of_cell? w _ hx197_3)).trans hx197_3
          have HR197_2 := Aside0.mk hi197_2
          have HC197_2 := Aside0.mk hl197_2
          clear hi197_2 hl197_2
          have HR197_3 := Aside0.mk hi197_3
          have HC197_3 := Aside0.mk hl197_3
          clear hi197_3 hl197_3
          replace p197 := eq_true p197
          replace q197 := eq_true q197
          refine start_ (n := 12) (S := fun w' => w'.cell? ⟨gb194, 0, none⟩ = some (.int .i64 a0_0) ∧ w'.cell? ⟨gb194, 1, none⟩ = some (.int .i64 a0_1) ∧ w'.cell? ⟨gb194, 2, none⟩ = some (.slice (some ad196) l0_2.length c0_2) ∧ w'.cell? ⟨gb195, 0, none⟩ = some (.int .i64 a1_0) ∧ w'.cell? ⟨gb195, 1, none⟩ = some (.int .i64 a1_1) ∧ w'.cell? ⟨gb195, 2, none⟩ = some (.slice (some ad197) l1_2.length c1_2) ∧ w'.cell? (ad196.add ((x5_2).toNat * 4)) = some (.int .i64 ((rd_T44 l0_2 x5_2).f0.f0)) ∧ w'.cell? ⟨(ad196.add ((x5_2).toNat * 4)).block, (ad196.add ((x5_2).toNat * 4)).off + 1, none⟩ = some (.int .i64 ((rd_T44 l0_2 x5_2).f0.f1)) ∧ w'.cell? ⟨(ad196.add ((x5_2).toNat * 4)).block, (ad196.add ((x5_2).toNat * 4)).off + 2, none⟩ = some (.slice A196_2 ((rd_T44 l0_2 x5_2).f1).length c196_2) ∧ w'.cell? ⟨(ad196.add ((x5_2).toNat * 4)).block, (ad196.add ((x5_2).toNat * 4)).off + 3, none⟩ = some (.slice A196_3 ((rd_T44 l0_2 x5_2).f2).length c196_3) ∧ w'.cell? (ad197.add ((x5_2).toNat * 4)) = some (.int .i64 ((rd_T44 l1_2 x5_2).f0.f0)) ∧ w'.cell? ⟨(ad197.add ((x5_2).toNat * 4)).block, (ad197.add ((x5_2).toNat * 4)).off + 1, none⟩ = some (.int .i64 ((rd_T44 l1_2 x5_2).f0.f1)) ∧ w'.cell? ⟨(ad197.add ((x5_2).toNat * 4)).block, (ad197.add ((x5_2).toNat * 4)).off + 2, none⟩ = some (.slice A197_2 ((rd_T44 l1_2 x5_2).f1).length c197_2) ∧ w'.cell? ⟨(ad197.add ((x5_2).toNat * 4)).block, (ad197.add ((x5_2).toNat * 4)).off + 3, none⟩ = some (.slice A197_3 ((rd_T44 l1_2 x5_2).f2).length c197_3)) (ds := []) #[false, false, false, false, false, false, false, false, false, false, false, false] (by kernel_rfl) rfl rfl ⟨(blk_cell BK194.out 0).trans rfl, (blk_cell BK194.out 1).trans rfl, (blk_cell BK194.out 2).trans rfl, (blk_cell BK195.out 0).trans rfl, (blk_cell BK195.out 1).trans rfl, (blk_cell BK195.out 2).trans rfl, ((HB.out.cell (World.block_lt_of_cell? w _ hw196_0)).trans hw196_0), ((HB.out.cell (World.block_lt_of_cell? w _ hw196_1)).trans hw196_1), ((HB.out.cell (World.block_lt_of_cell? w _ hw196_2)).trans hw196_2), ((HB.out.cell (World.block_lt_of_cell? w _ hw196_3)).trans hw196_3), ((HB.out.cell (World.block_lt_of_cell? w _ hw197_0)).trans hw197_0), ((HB.out.cell (World.block_lt_of_cell? w _ hw197_1)).trans hw197_1), ((HB.out.cell (World.block_lt_of_cell? w _ hw197_2)).trans hw197_2), ((HB.out.cell (World.block_lt_of_cell? w _ hw197_3)).trans hw197_3)⟩ (fun hHeld => ?_); refine with_tabW fairleadref10_Same.tab6 fairleadref10_Same.bits6 (fun HT_ HW_ => ?_)
          generalize wr.drew = w25 at BK194 BK195 HB HR196_2 HR196_3 HR197_2 HR197_3 hx196_0 hx196_1 hx196_2 hx196_3 hx197_0 hx197_1 hx197_2 hx197_3 hHeld ⊢
          refine Mine.pS 0 (some 27) ?_ (hc := any_of HT_.out (by kernel_rfl)); refine Mine.pS 2 (some 29) ?_ (hc := any_of HT_.out (by kernel_rfl)); refine Mine.pS 5 (some 32) ?_ (hc := any_of HT_.out (by kernel_rfl)); refine Mine.pS 7 (some 34) ?_ (hc := any_of HT_.out (by kernel_rfl)); refine Mine.tS 1 (some 28) hHeld ?_ (hc := take_ofW HT_.out HW_.out (by kernel_rfl)); refine Mine.pS 3 (some 30) ?_ (hc := any_of HT_.out (by kernel_rfl)); refine Mine.tS 4 (some 31) hHeld ?_ (hc := take_ofW HT_.out HW_.out (by kernel_rfl)); refine Mine.tS 6 (some 33) hHeld ?_ (hc := take_ofW HT_.out HW_.out (by kernel_rfl)); refine Mine.pS 8 (some 35) ?_ (hc := any_of HT_.out (by kernel_rfl)); refine Mine.tS 9 (some 36) hHeld ?_ (hc := take_ofW HT_.out HW_.out (by kernel_rfl))
          refine one_ (i := 10) (N := some 37) #[true, true, true, true, true, true, true, true, true, true, true, false] rfl rfl (one_of HT_.out (by kernel_rfl)) (by decide) (fun K hK => ?_)
          refine goes_ Try.func27 (by kernel_rfl) rfl #[.agg #[.int .i64 ((rd_T44 l0_2 x5_2).f0.f0), .int .i64 ((rd_T44 l0_2 x5_2).f0.f1), .slice A196_2 ((rd_T44 l0_2 x5_2).f1).length c196_2, .slice A196_3 ((rd_T44 l0_2 x5_2).f2).length c196_3], .agg #[.int .i64 ((rd_T44 l1_2 x5_2).f0.f0), .int .i64 ((rd_T44 l1_2 x5_2).f0.f1), .slice A197_2 ((rd_T44 l1_2 x5_2).f1).length c197_2, .slice A197_3 ((rd_T44 l1_2 x5_2).f2).length c197_3]] (by rfl) rfl rfl (by (try simp only [List.map_toArray, List.map_cons, List.map_nil]); first | done | rfl | (simp only [List.length_drop, List.length_take]; rfl)) ?_
          with_reducible refine (fairleadref10_SameRule.calls k2 ((rd_T44 l0_2 x5_2).f0.f0) ((rd_T44 l0_2 x5_2).f0.f1) _ _ ((rd_T44 l0_2 x5_2).f1) _ _ ((rd_T44 l0_2 x5_2).f2) ((rd_T44 l1_2 x5_2).f0.f0) ((rd_T44 l1_2 x5_2).f0.f1) _ _ ((rd_T44 l1_2 x5_2).f1) _ _ ((rd_T44 l1_2 x5_2).f2) false _ ?side1 ?side2 ?side3 ?side4 ?side5 ?side6 ?side7 ?side8 A17.out).mono ?_
          (case side1 => repeat (first | exact (Kd.C_below HR196_2.out HB.out) | (with_reducible refine Kd.C_alloc ?_ _) | (with_reducible refine Kd.C_drewN ?_ _) | (with_reducible refine Kd.C_drew ?_)))
          (case side2 => exact HC196_2.out)
          (case side3 => repeat (first | exact (Kd.C_below HR196_3.out HB.out) | (with_reducible refine Kd.C_alloc ?_ _) | (with_reducible refine Kd.C_drewN ?_ _) | (with_reducible refine Kd.C_drew ?_)))
          (case side4 => exact HC196_3.out)
          (case side5 => repeat (first | exact (Kd.C_below HR197_2.out HB.out) | (with_reducible refine Kd.C_alloc ?_ _) | (with_reducible refine Kd.C_drewN ?_ _) | (with_reducible refine Kd.C_drew ?_)))
          (case side6 => exact HC197_2.out)
          (case side7 => repeat (first | exact (Kd.C_below HR197_3.out HB.out) | (with_reducible refine Kd.C_alloc ?_ _) | (with_reducible refine Kd.C_drewN ?_ _) | (with_reducible refine Kd.C_drew ?_)))
          (case side8 => exact HC197_3.out)
          rintro e w26 ⟨rfl, hb⟩
          refine ⟨_, rfl, ?_⟩
          have n0_ := Aside0.mk (blk_below (g := gb194) (o := .cells #[.int .i64 a0_0, .int .i64 a0_1, .slice (some ad196) l0_2.length c0_2] 27 (0, 0)) (by (with_reducible repeat (first | refine blk_drewN ?_ _ | refine blk_drew ?_ | refine blk_alloc ?_ _)); exact BK194.out) hb)
          have n1_ := Aside0.mk (blk_below (g := gb195) (o := .cells #[.int .i64 a1_0, .int .i64 a1_1, .slice (some ad197) l1_2.length c1_2] 27 (0, 0)) (by (with_reducible repeat (first | refine blk_drewN ?_ _ | refine blk_drew ?_ | refine blk_alloc ?_ _)); exact BK195.out) hb)
          have n2_ := Aside0.mk (below_step (by repeat (first | (with_reducible first | exact HB.out | apply below_alloc | apply pw_below_drewN | apply below_drew1 | refine below_set ?_ GE194.out | refine below_set ?_ GE195.out) | exact HB.out)) hb)
          clear BK194
          clear BK195
          clear HB
          have BK194 := n0_
          have BK195 := n1_
          have HB := n2_
          clear n0_ n1_ n2_
          (try clear hb)
          (try clear hb2)
          (try clear hk)
          (try clear hi)
          refine hK.out _ _ ⟨(blk_cell BK194.out 0).trans rfl, (blk_cell BK194.out 1).trans rfl, (blk_cell BK194.out 2).trans rfl, (blk_cell BK195.out 0).trans rfl, (blk_cell BK195.out 1).trans rfl, (blk_cell BK195.out 2).trans rfl, ((HB.out.cell (World.block_lt_of_cell? w _ hw196_0)).trans hw196_0), ((HB.out.cell (World.block_lt_of_cell? w _ hw196_1)).trans hw196_1), ((HB.out.cell (World.block_lt_of_cell? w _ hw196_2)).trans hw196_2), ((HB.out.cell (World.block_lt_of_cell? w _ hw196_3)).trans hw196_3), ((HB.out.cell (World.block_lt_of_cell? w _ hw197_0)).trans hw197_0), ((HB.out.cell (World.block_lt_of_cell? w _ hw197_1)).trans hw197_1), ((HB.out.cell (World.block_lt_of_cell? w _ hw197_2)).trans hw197_2), ((HB.out.cell (World.block_lt_of_cell? w _ hw197_3)).trans hw197_3)⟩ (fun hHeld => ?_)
          clear hK K
          refine norm_ (a' := ?_) ?_ ?_
          rotate_left
          ·show Act.put _ (some 37) _ = _
           simp only [Act.put, List.setIfInBounds_toArray, List.set_cons_zero, List.set_cons_succ, i64_w, i32_w]
           rfl
          refine Mine.pS 11 (some 38) ?_ (hc := any_of HT_.out (by kernel_rfl))
          refine done_ (done_of HT_.out (by kernel_rfl)) ?_
          try go_wp2
          go_ret
          exact ⟨by first | rfl | (simp [errW_none, errW_some] <;> rfl) | (simp [*, errW_none, errW_some] <;> rfl), by repeat (first | (with_reducible first | exact HB.out | apply below_alloc | apply pw_below_drewN | apply below_drew1 | refine below_set ?_ GE194.out | refine below_set ?_ GE195.out) | exact HB.out)⟩
        ·rw [if_neg c16] at H
         exact absurd H (by simp)
       ·rw [if_neg c15] at H
        exact absurd H (by simp)
      ·rw [if_neg c14] at H
       have c14b0 : decide (x5_2 < (l0_2.length : Int)) = false := decide_eq_false c14
       clear c14
       obtain rfl := Option.some.inj H
       have hnb27 := NB194_195.out
       have hnc27 := NB195_194.out
       have hcz28_0 : wr.cell? ⟨gb194, 0, none⟩ = some (.int .i64 a0_0) := (blk_cell BK194.out 0).trans rfl
       have hcz28_1 : wr.cell? ⟨gb194, 1, none⟩ = some (.int .i64 a0_1) := (blk_cell BK194.out 1).trans rfl
       have hcz28_2 : wr.cell? ⟨gb194, 2, none⟩ = some (.slice A0_2 l0_2.length c0_2) := (blk_cell BK194.out 2).trans rfl
       have hfz28_0 := blk_frozen BK194.out
       go_wp2
       go_ret
       exact ⟨by first | rfl | (simp [errW_none, errW_some] <;> rfl) | (simp [*, errW_none, errW_some] <;> rfl), by repeat (first | (with_reducible first | exact HB.out | apply below_alloc | apply pw_below_drewN | apply below_drew1 | refine below_set ?_ GE194.out | refine below_set ?_ GE195.out) | exact HB.out)⟩
end Go.Proofs.Ytfahchgglapglaa.M
