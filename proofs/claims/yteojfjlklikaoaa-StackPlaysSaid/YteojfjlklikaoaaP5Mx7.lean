-- Laid by a program (wip/tools/myprint.py) out of the loaded program's own print: for each Go function a Lean function and the proof of its contract.
import Derived.Test.YteojfjlklikaoaaP5Mx0
namespace Go.Proofs.Yteojfjlklikaoaa.M
open Go.RowKit Go.Proofs.YteojfjlklikaoaaW.PrintWords Go.Proofs.YteojfjlklikaoaaW.PrintLast Go.Proofs.YteojfjlklikaoaaW.PrintMore
attribute [local go_sem] max2_int min2_int max_two min_two max_three min_three max_four min_four   -- for this text's walks alone
set_option linter.unusedVariables false
set_option linter.unusedSimpArgs false
-- HAND rounds=False making=False
abbrev RkS := Mine.Rk 35 53 38 k53
/-- What filters cost. -/
def costOf (L : List (List S53)) : Int := (L.map fun l => (l.length : Int) + 4).sum
theorem costOf_app (L : List (List S53)) (l : List S53) : costOf (L ++ [l]) = costOf L + l.length + 4 := by
  simp [costOf]; omega
theorem costOf_take (L : List (List S53)) (j : Nat) (h : j < L.length) : costOf (L.take (j + 1)) = costOf (L.take j) + ((L.getD j []).length : Int) + 4 := by
  have e : L.take (j + 1) = L.take j ++ [L.getD j []] := by
    rw [List.take_add_one, List.getElem?_eq_getElem h, List.getD_eq_getElem?_getD, List.getElem?_eq_getElem h]; rfl
  rw [e, costOf_app]
theorem costOf_in (L : List (List S53)) (h : ∀ l ∈ L, l.length ≤ 4096) : 0 ≤ costOf L ∧ costOf L ≤ 4100 * L.length := by
  induction L with
  | nil => exact ⟨by decide, by decide⟩
  | cons a r ih =>
    have h1 := ih (fun l hl => h l (List.mem_cons_of_mem _ hl))
    have h2 := h a List.mem_cons_self
    have e : costOf (a :: r) = (a.length : Int) + 4 + costOf r := by simp [costOf]
    rw [e, List.length_cons]
    omega
set_option maxHeartbeats 8000000 in
set_option maxRecDepth 100000 in
theorem fairleadref15_Stack_Cost.sk (g : Nat) (L : List (List S53)) (ok : Nat → Prop) (w : World) (hs : RkS ok w g L) (hL : L.length ≤ 40) (hm : ∀ l ∈ L, l.length ≤ 4096) :
    Calls Try.prog 14 #[.pointer (some ⟨g, 0, none⟩)] w fun e w' => e = .returned (.int .i64 (costOf L)) ∧ w = w' := by
  obtain ⟨A, c, hb, hl, hR, hC⟩ := hs.open_
  have z0 := (blk_cell hb 0).trans (show _ = some (.slice A L.length c : Value) from rfl)
  have HC := Aside0.mk hC
  have HMx := Aside0.mk hm
  clear hs hb hl hR hC hm
  go_enter Try.func14, Try.ntmps14
  go_wp2
  go_loopg [3, 4] (L.length + 1) (fun kq v3 v4 w' => ∃ (n i : Int) (j : Nat), v3 = .int .i64 n ∧ v4 = .int .i64 i ∧ Aside0 (i = (j : Int)) ∧ Aside0 (j ≤ L.length) ∧ Aside0 (L.length - j < kq) ∧ Aside0 (n = costOf (L.take j)) ∧ w' = w)
  case atStart => exact ⟨0, 0, 0, rfl, rfl, ⟨rfl⟩, ⟨Nat.zero_le _⟩, ⟨by omega⟩, ⟨rfl⟩, rfl⟩
  case round =>
    obtain ⟨n, i, j, rfl, rfl, hi, hj, hk2, hn, rfl⟩ := hrel
    obtain ⟨k2, rfl⟩ : ∃ k2, gk = k2 + 1 := ⟨gk - 1, by have := hk2.out; omega⟩
    by_cases hlt : i < (L.length : Int)
    · have b1 : decide (i < (L.length : Int)) = true := decide_eq_true hlt
      have p1 : 0 ≤ i := by have := hi.out; omega
      obtain ⟨ad, A', c', eA, zi, hlc, hCr⟩ := Mine.C_row HC.out i p1 hlt
      cases eA
      have hjl : j < L.length := by have := hi.out; omega
      obtain ⟨li, hli⟩ : ∃ li, li = L.getD i.toNat [] := ⟨_, rfl⟩
      rw [← hli] at zi
      have hmem : li ∈ L := by rw [hli, List.getD_eq_getElem?_getD, List.getElem?_eq_getElem (by omega)]; exact List.getElem_mem _
      have hll := HMx.out li hmem
      have htk := costOf_take L j hjl
      have hcin := costOf_in (L.take j) (fun l hl => HMx.out l (List.mem_of_mem_take hl))
      rw [List.length_take, ← hn.out] at hcin
      rw [← hn.out, show L.getD j [] = li from by rw [hli, show i.toNat = j by have := hi.out; omega]] at htk
      have HT := Aside0.mk htk
      have n0 : 0 ≤ n := hcin.1
      have n1 : n ≤ 164000 := by have := hcin.2; omega
      clear hlc hCr hli hmem htk hcin
      go_wp2
      go_roundg k2
      case measure => omega
      case rel => exact ⟨n + (li.length : Int) + 4, i + 1, j + 1, by first | rfl | simp, by first | rfl | (rw [show wrap64 (i + 1) = i + 1 by (unfold wrap64; omega)]), ⟨by have := hi.out; omega⟩, ⟨hjl⟩, ⟨by have := hk2.out; omega⟩, ⟨HT.out.symm⟩, rfl⟩
    · have b1 : decide (i < (L.length : Int)) = false := decide_eq_false hlt
      have hj2 : j = L.length := by have := hi.out; have := hj.out; omega
      have hn2 := hn.out
      rw [hj2, List.take_length] at hn2
      subst hn2
      go_wp2
      go_ret
      exact ⟨rfl, rfl⟩
def fairleadref03_Has.l0 : Nat → List Int → Int → Int → Option (Bool)
  | 0, _, _, _ => none
  | k + 1, x0, x1, x5 => if x5 < (x0.length : Int) then (if 0 ≤ x5 then (if (rd x0 x5) = x1 then (some true) else (fairleadref03_Has.l0 k x0 x1 (wrap64 (x5 + 1)))) else (none)) else (some false)
def fairleadref03_Has.f (k : Nat) (l0 : List Int) (a1 : Int) : Option (Bool) := fairleadref03_Has.l0 k l0 a1 0
set_option maxHeartbeats 8000000 in
set_option maxRecDepth 100000 in
theorem fairleadref03_Has.calls (k : Nat) (A0 : Option Addr) (c0 : Nat) (l0 : List Int) (a1 : Int) (r : Bool) (w : World) (hr0 : Kd.C (Kd.int .u16) w A0 l0.length l0) (hc0 : l0.length ≤ c0) (h : fairleadref03_Has.f k l0 a1 = some r) :
    Calls Try.prog 50 #[.slice A0 l0.length c0, .int .u16 a1] w fun e w' => e = .returned (.bool r) ∧ Drawn0 w w' := by
  have HR0 := Aside0.mk hr0
  have HC0 := Aside0.mk hc0
  clear hr0 hc0
  have H : (fairleadref03_Has.l0 k l0 a1 0) = some r := h
  clear h
  have H' := Aside0.mk H
  clear H
  go_enter Try.func50, Try.ntmps50
  go_wp2
  go_loopg [5] k (fun kq v5 w' => ∃ (x5_1 : Int), v5 = .int .i64 x5_1 ∧ Aside0 (fairleadref03_Has.l0 kq l0 a1 x5_1 = some r) ∧ Aside0 (kq ≤ k) ∧ Drawn0 w w')
  case atStart => exact ⟨(0), (by first | rfl | (simp; done) | (simp [*]; done)), H', ⟨Nat.le_refl _⟩, by repeat (first | exact Drawn0.refl _ | apply Drawn0.step)⟩
  case round =>
    clear H'
    try clear p2
    obtain ⟨x5_1, rfl, HA, HK1, ⟨m1, rfl⟩⟩ := hrel
    cases gk with
    | zero => exact absurd HA.out (by simp [fairleadref03_Has.l0])
    | succ k1 =>
      have H := HA.out
      clear HA
      simp only [fairleadref03_Has.l0] at H
      by_cases c3 : x5_1 < (l0.length : Int)
      · rw [if_pos c3] at H
        have c3b0 : decide (x5_1 < (l0.length : Int)) = true := decide_eq_true c3
        clear c3
        by_cases c4 : 0 ≤ x5_1
        · rw [if_pos c4] at H
          have c4b0 : decide (0 ≤ x5_1) = true := decide_eq_true c4
          clear c4
          by_cases c5 : (rd l0 x5_1) = a1
          · rw [if_pos c5] at H
            have c5b0 : ((rd l0 x5_1) == a1) = true := beq_iff_eq.mpr c5
            have c5b1 : ((rd l0 x5_1) != a1) = false := bne_eq_false_iff_eq.mpr c5
            clear c5
            obtain rfl := Option.some.inj H
            have p157 : 0 ≤ (x5_1 : Int) := of_decide_eq_true (by first | (with_reducible assumption) | assumption)
            have q157 : x5_1 < (l0.length : Int) := of_decide_eq_true (by first | (with_reducible assumption) | assumption)
            obtain ⟨ad157, e157, hx157_0⟩ := Kd.at_int HR0.out x5_1 p157 q157
            cases e157
            replace p157 := eq_true p157
            replace q157 := eq_true q157
            go_wp2
            go_ret
            exact ⟨by first | rfl | (simp; done) | (simp [*]; done), by repeat (first | exact Drawn0.refl _ | apply Drawn0.step)⟩
          · rw [if_neg c5] at H
            have c5b0 : ((rd l0 x5_1) == a1) = false := beq_eq_false_iff_ne.mpr c5
            have c5b1 : ((rd l0 x5_1) != a1) = true := bne_iff_ne.mpr c5
            have H' := Aside0.mk H
            clear H
            have p157 : 0 ≤ (x5_1 : Int) := of_decide_eq_true (by first | (with_reducible assumption) | assumption)
            have q157 : x5_1 < (l0.length : Int) := of_decide_eq_true (by first | (with_reducible assumption) | assumption)
            obtain ⟨ad157, e157, hx157_0⟩ := Kd.at_int HR0.out x5_1 p157 q157
            cases e157
            replace p157 := eq_true p157
            replace q157 := eq_true q157
            go_wp2
            go_roundg k1
            case measure => have := HK1.out; omega
            case rel => exact ⟨(wrap64 (x5_1 + 1)), (by first | rfl | (simp; done) | (simp [*]; done)), H', ⟨by have := HK1.out; omega⟩, by repeat (first | exact Drawn0.refl _ | apply Drawn0.step)⟩
        · rw [if_neg c4] at H
          exact absurd H (by simp)
      · rw [if_neg c3] at H
        have c3b0 : decide (x5_1 < (l0.length : Int)) = false := decide_eq_false c3
        clear c3
        obtain rfl := Option.some.inj H
        go_wp2
        go_ret
        exact ⟨by first | rfl | (simp; done) | (simp [*]; done), by repeat (first | exact Drawn0.refl _ | apply Drawn0.step)⟩
def fairleadref03_Plain.f  : Option (List Int) := some (([32, 0, 1, 96, 97, 2, 3, 4, 20, 36, 52, 68, 84, 100, 116, 132, 164, 5, 21, 37, 53, 69, 6, 22, 7, 135] : List Int))
set_option maxHeartbeats 8000000 in
set_option maxRecDepth 100000 in
theorem fairleadref03_Plain.calls  (r : List Int) (w : World) (h : fairleadref03_Plain.f  = some r) :
    Calls Try.prog 51 #[] w fun e w' => ∃ v0_ : Value, e = .returned (v0_) ∧ Kd.R (Kd.int .u16) 51 w' w.heap.size (fun _ => True) v0_ r ∧ Below w.heap.size w w' := by
  have HB := Aside0.mk (Below.refl w.heap.size w)
  have H : (some (([32, 0, 1, 96, 97, 2, 3, 4, 20, 36, 52, 68, 84, 100, 116, 132, 164, 5, 21, 37, 53, 69, 6, 22, 7, 135] : List Int))) = some r := h
  clear h
  obtain ⟨y158, hy158⟩ : ∃ y_ : List Int, y_ = (([32, 0, 1, 96, 97, 2, 3, 4, 20, 36, 52, 68, 84, 100, 116, 132, 164, 5, 21, 37, 53, 69, 6, 22, 7, 135] : List Int)) := ⟨_, rfl⟩
  replace H : (some y158) = some r := by first | (rw [hy158]; with_reducible exact H) | (have H2_ := (Option.bind_some _ _).symm.trans H; rw [hy158]; with_reducible exact H2_) | (have H2_ := (Option.bind_some _ _).symm.trans H; with_reducible exact H2_) | with_reducible exact H | (rw [hy158]; exact H) | exact H
  have Ny158 := Aside0.mk hy158
  clear hy158
  obtain rfl := Option.some.inj H
  go_enter Try.func51, Try.ntmps51
  go_wp2_with (first | ((with_reducible refine gate_dst (N := 1) rfl ?_); refine Kd.R_lit (Kd.int .u16) _ 51 ?hg (N := 1) ?hd (xs := ([32, 0, 1, 96, 97, 2, 3, 4, 20, 36, 52, 68, 84, 100, 116, 132, 164, 5, 21, 37, 53, 69, 6, 22, 7, 135] : List Int)) (inner := [.int .u16 32, .int .u16 0, .int .u16 1, .int .u16 96, .int .u16 97, .int .u16 2, .int .u16 3, .int .u16 4, .int .u16 20, .int .u16 36, .int .u16 52, .int .u16 68, .int .u16 84, .int .u16 100, .int .u16 116, .int .u16 132, .int .u16 164, .int .u16 5, .int .u16 21, .int .u16 37, .int .u16 53, .int .u16 69, .int .u16 6, .int .u16 22, .int .u16 7, .int .u16 135]) (ok := fun _ => True) (okp := fun _ => True) ?hr ?hp (fun _ hk => hk) trivial (Below.refl _ _) (Nat.le_refl _) (by simp) ?_; (case hd => rfl); (case hg => rfl); (case hr => first | (go_simp; done) | (go_simp; rfl)); (case hp => exact (Reps.one (show Kd.M (Kd.int .u16) _ _ _ 32 [.int .u16 32] from rfl) (Reps.one (show Kd.M (Kd.int .u16) _ _ _ 0 [.int .u16 0] from rfl) (Reps.one (show Kd.M (Kd.int .u16) _ _ _ 1 [.int .u16 1] from rfl) (Reps.one (show Kd.M (Kd.int .u16) _ _ _ 96 [.int .u16 96] from rfl) (Reps.one (show Kd.M (Kd.int .u16) _ _ _ 97 [.int .u16 97] from rfl) (Reps.one (show Kd.M (Kd.int .u16) _ _ _ 2 [.int .u16 2] from rfl) (Reps.one (show Kd.M (Kd.int .u16) _ _ _ 3 [.int .u16 3] from rfl) (Reps.one (show Kd.M (Kd.int .u16) _ _ _ 4 [.int .u16 4] from rfl) (Reps.one (show Kd.M (Kd.int .u16) _ _ _ 20 [.int .u16 20] from rfl) (Reps.one (show Kd.M (Kd.int .u16) _ _ _ 36 [.int .u16 36] from rfl) (Reps.one (show Kd.M (Kd.int .u16) _ _ _ 52 [.int .u16 52] from rfl) (Reps.one (show Kd.M (Kd.int .u16) _ _ _ 68 [.int .u16 68] from rfl) (Reps.one (show Kd.M (Kd.int .u16) _ _ _ 84 [.int .u16 84] from rfl) (Reps.one (show Kd.M (Kd.int .u16) _ _ _ 100 [.int .u16 100] from rfl) (Reps.one (show Kd.M (Kd.int .u16) _ _ _ 116 [.int .u16 116] from rfl) (Reps.one (show Kd.M (Kd.int .u16) _ _ _ 132 [.int .u16 132] from rfl) (Reps.one (show Kd.M (Kd.int .u16) _ _ _ 164 [.int .u16 164] from rfl) (Reps.one (show Kd.M (Kd.int .u16) _ _ _ 5 [.int .u16 5] from rfl) (Reps.one (show Kd.M (Kd.int .u16) _ _ _ 21 [.int .u16 21] from rfl) (Reps.one (show Kd.M (Kd.int .u16) _ _ _ 37 [.int .u16 37] from rfl) (Reps.one (show Kd.M (Kd.int .u16) _ _ _ 53 [.int .u16 53] from rfl) (Reps.one (show Kd.M (Kd.int .u16) _ _ _ 69 [.int .u16 69] from rfl) (Reps.one (show Kd.M (Kd.int .u16) _ _ _ 6 [.int .u16 6] from rfl) (Reps.one (show Kd.M (Kd.int .u16) _ _ _ 22 [.int .u16 22] from rfl) (Reps.one (show Kd.M (Kd.int .u16) _ _ _ 7 [.int .u16 7] from rfl) (Reps.one (show Kd.M (Kd.int .u16) _ _ _ 135 [.int .u16 135] from rfl) (Reps.none _ _)))))))))))))))))))))))))))); intro v159 w1 ho2 hb hg_ hnew_; clear hg_ hnew_; (first | rw [← Ny158.out] at ho2 | (simp only [Int.reduceToNat] at ho2; rw [← Ny158.out] at ho2)); have n0_ := Aside0.mk (Kd.R_lower ho2 (below_size (by repeat (first | (with_reducible first | exact HB.out | apply below_alloc | apply pw_below_drewN | apply below_drew1) | exact HB.out)))); have n1_ := Aside0.mk (below_step (by repeat (first | (with_reducible first | exact HB.out | apply below_alloc | apply pw_below_drewN | apply below_drew1) | exact HB.out)) hb); clear HB; have HO160 := n0_; have HB := n1_; clear n0_ n1_; clear hb ho2))
  go_ret
  exact ⟨_, by first | rfl | (simp [errW_none, errW_some] <;> rfl) | (simp [*, errW_none, errW_some] <;> rfl), by (with_reducible repeat (first | apply Kd.R_alloc | apply Kd.R_drewN | apply Kd.R_drew)); exact HO160.out, by repeat (first | (with_reducible first | exact HB.out | apply below_alloc | apply pw_below_drewN | apply below_drew1) | exact HB.out)⟩
def fairleadref03_WithX.f  : Option (List Int) := some (([4, 20, 36, 52, 68, 84, 100, 116, 164, 21, 37, 53, 69] : List Int))
set_option maxHeartbeats 8000000 in
set_option maxRecDepth 100000 in
theorem fairleadref03_WithX.calls  (r : List Int) (w : World) (h : fairleadref03_WithX.f  = some r) :
    Calls Try.prog 52 #[] w fun e w' => ∃ v0_ : Value, e = .returned (v0_) ∧ Kd.R (Kd.int .u16) 51 w' w.heap.size (fun _ => True) v0_ r ∧ Below w.heap.size w w' := by
  have HB := Aside0.mk (Below.refl w.heap.size w)
  have H : (some (([4, 20, 36, 52, 68, 84, 100, 116, 164, 21, 37, 53, 69] : List Int))) = some r := h
  clear h
  obtain ⟨y161, hy161⟩ : ∃ y_ : List Int, y_ = (([4, 20, 36, 52, 68, 84, 100, 116, 164, 21, 37, 53, 69] : List Int)) := ⟨_, rfl⟩
  replace H : (some y161) = some r := by first | (rw [hy161]; with_reducible exact H) | (have H2_ := (Option.bind_some _ _).symm.trans H; rw [hy161]; with_reducible exact H2_) | (have H2_ := (Option.bind_some _ _).symm.trans H; with_reducible exact H2_) | with_reducible exact H | (rw [hy161]; exact H) | exact H
  have Ny161 := Aside0.mk hy161
  clear hy161
  obtain rfl := Option.some.inj H
  go_enter Try.func52, Try.ntmps52
  go_wp2_with (first | ((with_reducible refine gate_dst (N := 1) rfl ?_); refine Kd.R_lit (Kd.int .u16) _ 51 ?hg (N := 1) ?hd (xs := ([4, 20, 36, 52, 68, 84, 100, 116, 164, 21, 37, 53, 69] : List Int)) (inner := [.int .u16 4, .int .u16 20, .int .u16 36, .int .u16 52, .int .u16 68, .int .u16 84, .int .u16 100, .int .u16 116, .int .u16 164, .int .u16 21, .int .u16 37, .int .u16 53, .int .u16 69]) (ok := fun _ => True) (okp := fun _ => True) ?hr ?hp (fun _ hk => hk) trivial (Below.refl _ _) (Nat.le_refl _) (by simp) ?_; (case hd => rfl); (case hg => rfl); (case hr => first | (go_simp; done) | (go_simp; rfl)); (case hp => exact (Reps.one (show Kd.M (Kd.int .u16) _ _ _ 4 [.int .u16 4] from rfl) (Reps.one (show Kd.M (Kd.int .u16) _ _ _ 20 [.int .u16 20] from rfl) (Reps.one (show Kd.M (Kd.int .u16) _ _ _ 36 [.int .u16 36] from rfl) (Reps.one (show Kd.M (Kd.int .u16) _ _ _ 52 [.int .u16 52] from rfl) (Reps.one (show Kd.M (Kd.int .u16) _ _ _ 68 [.int .u16 68] from rfl) (Reps.one (show Kd.M (Kd.int .u16) _ _ _ 84 [.int .u16 84] from rfl) (Reps.one (show Kd.M (Kd.int .u16) _ _ _ 100 [.int .u16 100] from rfl) (Reps.one (show Kd.M (Kd.int .u16) _ _ _ 116 [.int .u16 116] from rfl) (Reps.one (show Kd.M (Kd.int .u16) _ _ _ 164 [.int .u16 164] from rfl) (Reps.one (show Kd.M (Kd.int .u16) _ _ _ 21 [.int .u16 21] from rfl) (Reps.one (show Kd.M (Kd.int .u16) _ _ _ 37 [.int .u16 37] from rfl) (Reps.one (show Kd.M (Kd.int .u16) _ _ _ 53 [.int .u16 53] from rfl) (Reps.one (show Kd.M (Kd.int .u16) _ _ _ 69 [.int .u16 69] from rfl) (Reps.none _ _))))))))))))))); intro v162 w1 ho2 hb hg_ hnew_; clear hg_ hnew_; (first | rw [← Ny161.out] at ho2 | (simp only [Int.reduceToNat] at ho2; rw [← Ny161.out] at ho2)); have n0_ := Aside0.mk (Kd.R_lower ho2 (below_size (by repeat (first | (with_reducible first | exact HB.out | apply below_alloc | apply pw_below_drewN | apply below_drew1) | exact HB.out)))); have n1_ := Aside0.mk (below_step (by repeat (first | (with_reducible first | exact HB.out | apply below_alloc | apply pw_below_drewN | apply below_drew1) | exact HB.out)) hb); clear HB; have HO163 := n0_; have HB := n1_; clear n0_ n1_; clear hb ho2))
  go_ret
  exact ⟨_, by first | rfl | (simp [errW_none, errW_some] <;> rfl) | (simp [*, errW_none, errW_some] <;> rfl), by (with_reducible repeat (first | apply Kd.R_alloc | apply Kd.R_drewN | apply Kd.R_drew)); exact HO163.out, by repeat (first | (with_reducible first | exact HB.out | apply below_alloc | apply pw_below_drewN | apply below_drew1) | exact HB.out)⟩
def fairleadref03_Known.f (k : Nat) (a0 : Int) : Option (Bool) := (fairleadref03_Plain.f).bind fun t164 => ((fairleadref03_Has.f k t164 a0).bind fun t167 => (if t167 = true then (some true) else (if a0 ≥ 8 then ((fairleadref03_WithX.f).bind fun t168 => ((fairleadref03_Has.f k t168 (IntKind.u16.wrap (a0 - 8))).bind fun t171 => (some t171))) else (some false))))
set_option maxHeartbeats 8000000 in
set_option maxRecDepth 100000 in
theorem fairleadref03_Known.calls (k : Nat) (a0 : Int) (r : Bool) (w : World) (h : fairleadref03_Known.f k a0 = some r) :
    Calls Try.prog 40 #[.int .u16 a0] w fun e w' => e = .returned (.bool r) ∧ Below w.heap.size w w' := by
  have HB := Aside0.mk (Below.refl w.heap.size w)
  have H : ((fairleadref03_Plain.f).bind fun t164 => ((fairleadref03_Has.f k t164 a0).bind fun t167 => (if t167 = true then (some true) else (if a0 ≥ 8 then ((fairleadref03_WithX.f).bind fun t168 => ((fairleadref03_Has.f k t168 (IntKind.u16.wrap (a0 - 8))).bind fun t171 => (some t171))) else (some false))))) = some r := h
  clear h
  replace H := Option.bind_eq_some_iff.mp H
  obtain ⟨t164, A20, H⟩ := H
  replace H : ((fairleadref03_Has.f k t164 a0).bind fun t167 => (if t167 = true then (some true) else (if a0 ≥ 8 then ((fairleadref03_WithX.f).bind fun t168 => ((fairleadref03_Has.f k t168 (IntKind.u16.wrap (a0 - 8))).bind fun t171 => (some t171))) else (some false)))) = some r := H
  have A2 := Aside0.mk A20
  clear A20
  replace H := Option.bind_eq_some_iff.mp H
  obtain ⟨t167, A30, H⟩ := H
  replace H : (if t167 = true then (some true) else (if a0 ≥ 8 then ((fairleadref03_WithX.f).bind fun t168 => ((fairleadref03_Has.f k t168 (IntKind.u16.wrap (a0 - 8))).bind fun t171 => (some t171))) else (some false))) = some r := H
  have A3 := Aside0.mk A30
  clear A30
  by_cases c4 : t167 = true
  · subst c4
    have H1 : (some true) = some r := by rw [if_pos rfl] at H; exact H
    clear H
    have H := H1
    clear H1
    obtain rfl := Option.some.inj H
    go_enter Try.func40, Try.ntmps40
    go_wp2_with (first | ((with_reducible refine gate_callee (f := 51) rfl ?_); refine goesL_ (some 3) rfl rfl Try.func51 (by kernel_rfl) rfl #[] rfl (by (try simp only [List.map_toArray, List.map_cons, List.map_nil]); first | done | rfl | (simp only [List.length_drop, List.length_take]; rfl)) ?_; (with_reducible refine (fairleadref03_Plain.calls  t164 _ A2.out).mono ?_); rintro e w5 ⟨v165, rfl, ho0, hb⟩; refine ⟨_, rfl, ?_⟩; have n0_ := Aside0.mk (Kd.R_lower ho0 (below_size (by repeat (first | (with_reducible first | exact HB.out | apply below_alloc | apply pw_below_drewN | apply below_drew1) | exact HB.out)))); have n1_ := Aside0.mk (below_step (by repeat (first | (with_reducible first | exact HB.out | apply below_alloc | apply pw_below_drewN | apply below_drew1) | exact HB.out)) hb); clear HB; have HO166 := n0_; have HB := n1_; clear n0_ n1_; (try clear hb); (try clear hb2); (try clear hk); (try clear hi); (try clear ho0); obtain ⟨Ao6, co6, eo6⟩ := Kd.R_slice HO166.out; subst eo6) | ((with_reducible refine gate_callee (f := 50) rfl ?_); refine goesL_ (some 5) rfl rfl Try.func50 (by kernel_rfl) rfl #[.slice Ao6 t164.length co6, .int .u16 a0] rfl (by (try simp only [List.map_toArray, List.map_cons, List.map_nil]); first | done | rfl | (simp only [List.length_drop, List.length_take]; rfl)) ?_; (with_reducible refine (fairleadref03_Has.calls k _ _ t164 a0 true _ ?side1 ?side2 A3.out).mono ?_); (case side1 => repeat (first | exact (Kd.R_reads' HO166.out).2.2 | (with_reducible refine Kd.C_alloc ?_ _) | (with_reducible refine Kd.C_drewN ?_ _) | (with_reducible refine Kd.C_drew ?_))); (case side2 => exact (Kd.R_reads' HO166.out).2.1); rintro e w' ⟨rfl, ⟨nd, rfl⟩⟩; refine ⟨_, rfl, ?_⟩))
    go_ret
    exact ⟨by first | rfl | (simp [errW_none, errW_some] <;> rfl) | (simp [*, errW_none, errW_some] <;> rfl), by repeat (first | (with_reducible first | exact HB.out | apply below_alloc | apply pw_below_drewN | apply below_drew1) | exact HB.out)⟩
  · replace c4 := Bool.eq_false_iff.mpr c4
    subst c4
    have H1 : (if a0 ≥ 8 then ((fairleadref03_WithX.f).bind fun t168 => ((fairleadref03_Has.f k t168 (IntKind.u16.wrap (a0 - 8))).bind fun t171 => (some t171))) else (some false)) = some r := by rw [if_neg (show ¬ (false = true) by decide)] at H; exact H
    clear H
    have H := H1
    clear H1
    by_cases c7 : a0 ≥ 8
    · rw [if_pos c7] at H
      have c7b0 : decide (8 ≤ a0) = true := decide_eq_true c7
      clear c7
      replace H := Option.bind_eq_some_iff.mp H
      obtain ⟨t168, A80, H⟩ := H
      replace H : ((fairleadref03_Has.f k t168 (IntKind.u16.wrap (a0 - 8))).bind fun t171 => (some t171)) = some r := H
      have A8 := Aside0.mk A80
      clear A80
      replace H := Option.bind_eq_some_iff.mp H
      obtain ⟨t171, A90, H⟩ := H
      replace H : (some t171) = some r := H
      have A9 := Aside0.mk A90
      clear A90
      obtain rfl := Option.some.inj H
      go_enter Try.func40, Try.ntmps40
      go_wp2_with (first | ((with_reducible refine gate_callee (f := 51) rfl ?_); refine goesL_ (some 3) rfl rfl Try.func51 (by kernel_rfl) rfl #[] rfl (by (try simp only [List.map_toArray, List.map_cons, List.map_nil]); first | done | rfl | (simp only [List.length_drop, List.length_take]; rfl)) ?_; (with_reducible refine (fairleadref03_Plain.calls  t164 _ A2.out).mono ?_); rintro e w10 ⟨v165, rfl, ho0, hb⟩; refine ⟨_, rfl, ?_⟩; have n0_ := Aside0.mk (Kd.R_lower ho0 (below_size (by repeat (first | (with_reducible first | exact HB.out | apply below_alloc | apply pw_below_drewN | apply below_drew1) | exact HB.out)))); have n1_ := Aside0.mk (below_step (by repeat (first | (with_reducible first | exact HB.out | apply below_alloc | apply pw_below_drewN | apply below_drew1) | exact HB.out)) hb); clear HB; have HO166 := n0_; have HB := n1_; clear n0_ n1_; (try clear hb); (try clear hb2); (try clear hk); (try clear hi); (try clear ho0); obtain ⟨Ao11, co11, eo11⟩ := Kd.R_slice HO166.out; subst eo11) | ((with_reducible refine gate_callee (f := 50) rfl ?_); refine goesL_ (some 5) rfl rfl Try.func50 (by kernel_rfl) rfl #[.slice Ao11 t164.length co11, .int .u16 a0] rfl (by (try simp only [List.map_toArray, List.map_cons, List.map_nil]); first | done | rfl | (simp only [List.length_drop, List.length_take]; rfl)) ?_; (with_reducible refine (fairleadref03_Has.calls k _ _ t164 a0 false _ ?side1 ?side2 A3.out).mono ?_); (case side1 => repeat (first | exact (Kd.R_reads' HO166.out).2.2 | (with_reducible refine Kd.C_alloc ?_ _) | (with_reducible refine Kd.C_drewN ?_ _) | (with_reducible refine Kd.C_drew ?_))); (case side2 => exact (Kd.R_reads' HO166.out).2.1); rintro e w' ⟨rfl, ⟨nd, rfl⟩⟩; refine ⟨_, rfl, ?_⟩) | (go_at_call 52; (with_reducible refine (fairleadref03_WithX.calls  t168 _ A8.out).mono ?_); rintro e w12 ⟨v169, rfl, ho0, hb⟩; have n0_ := Aside0.mk (Kd.R_elder' (by (with_reducible repeat (first | apply Kd.R_alloc | apply Kd.R_drewN | apply Kd.R_drew)); exact HO166.out) (Kd.R_base ho0) hb); have n1_ := Aside0.mk (Kd.R_lower (Kd.R_new' ho0 (Kd.R_lt (by (with_reducible repeat (first | apply Kd.R_alloc | apply Kd.R_drewN | apply Kd.R_drew)); exact HO166.out))) (below_size (by repeat (first | (with_reducible first | exact HB.out | apply below_alloc | apply pw_below_drewN | apply below_drew1) | exact HB.out)))); have n2_ := Aside0.mk (below_step (by repeat (first | (with_reducible first | exact HB.out | apply below_alloc | apply pw_below_drewN | apply below_drew1) | exact HB.out)) hb); clear HO166; clear HB; have HO166 := n0_; have HO170 := n1_; have HB := n2_; clear n0_ n1_ n2_; (try clear hb); (try clear hb2); (try clear hk); (try clear hi); (try clear ho0); obtain ⟨Ao13, co13, eo13⟩ := Kd.R_slice HO170.out; subst eo13) | (go_at_call 50; (with_reducible refine (fairleadref03_Has.calls k _ _ t168 (IntKind.u16.wrap (a0 - 8)) t171 _ ?side1 ?side2 A9.out).mono ?_); (case side1 => repeat (first | exact (Kd.R_reads' HO170.out).2.2 | (with_reducible refine Kd.C_alloc ?_ _) | (with_reducible refine Kd.C_drewN ?_ _) | (with_reducible refine Kd.C_drew ?_))); (case side2 => exact (Kd.R_reads' HO170.out).2.1); rintro e w' ⟨rfl, ⟨nd, rfl⟩⟩))
      go_ret
      exact ⟨by first | rfl | (simp [errW_none, errW_some] <;> rfl) | (simp [*, errW_none, errW_some] <;> rfl), by repeat (first | (with_reducible first | exact HB.out | apply below_alloc | apply pw_below_drewN | apply below_drew1) | exact HB.out)⟩
    · rw [if_neg c7] at H
      have c7b0 : decide (8 ≤ a0) = false := decide_eq_false c7
      clear c7
      obtain rfl := Option.some.inj H
      go_enter Try.func40, Try.ntmps40
      go_wp2_with (first | ((with_reducible refine gate_callee (f := 51) rfl ?_); refine goesL_ (some 3) rfl rfl Try.func51 (by kernel_rfl) rfl #[] rfl (by (try simp only [List.map_toArray, List.map_cons, List.map_nil]); first | done | rfl | (simp only [List.length_drop, List.length_take]; rfl)) ?_; (with_reducible refine (fairleadref03_Plain.calls  t164 _ A2.out).mono ?_); rintro e w14 ⟨v165, rfl, ho0, hb⟩; refine ⟨_, rfl, ?_⟩; have n0_ := Aside0.mk (Kd.R_lower ho0 (below_size (by repeat (first | (with_reducible first | exact HB.out | apply below_alloc | apply pw_below_drewN | apply below_drew1) | exact HB.out)))); have n1_ := Aside0.mk (below_step (by repeat (first | (with_reducible first | exact HB.out | apply below_alloc | apply pw_below_drewN | apply below_drew1) | exact HB.out)) hb); clear HB; have HO166 := n0_; have HB := n1_; clear n0_ n1_; (try clear hb); (try clear hb2); (try clear hk); (try clear hi); (try clear ho0); obtain ⟨Ao15, co15, eo15⟩ := Kd.R_slice HO166.out; subst eo15) | ((with_reducible refine gate_callee (f := 50) rfl ?_); refine goesL_ (some 5) rfl rfl Try.func50 (by kernel_rfl) rfl #[.slice Ao15 t164.length co15, .int .u16 a0] rfl (by (try simp only [List.map_toArray, List.map_cons, List.map_nil]); first | done | rfl | (simp only [List.length_drop, List.length_take]; rfl)) ?_; (with_reducible refine (fairleadref03_Has.calls k _ _ t164 a0 false _ ?side1 ?side2 A3.out).mono ?_); (case side1 => repeat (first | exact (Kd.R_reads' HO166.out).2.2 | (with_reducible refine Kd.C_alloc ?_ _) | (with_reducible refine Kd.C_drewN ?_ _) | (with_reducible refine Kd.C_drew ?_))); (case side2 => exact (Kd.R_reads' HO166.out).2.1); rintro e w' ⟨rfl, ⟨nd, rfl⟩⟩; refine ⟨_, rfl, ?_⟩))
      go_ret
      exact ⟨by first | rfl | (simp [errW_none, errW_some] <;> rfl) | (simp [*, errW_none, errW_some] <;> rfl), by repeat (first | (with_reducible first | exact HB.out | apply below_alloc | apply pw_below_drewN | apply below_drew1) | exact HB.out)⟩
def fairleadref03_Jumps.f (a0 : Int) : Option (Bool) := if a0 = 5 then (some true) else (if a0 = 21 then (some true) else (if a0 = 37 then (some true) else (if a0 = 53 then (some true) else (if a0 = 69 then (some true) else (if a0 = 29 then (some true) else (if a0 = 45 then (some true) else (if a0 = 61 then (some true) else (some (a0 == 77)))))))))
set_option maxHeartbeats 8000000 in
set_option maxRecDepth 100000 in
theorem fairleadref03_Jumps.calls (a0 : Int) (r : Bool) (w : World) (h : fairleadref03_Jumps.f a0 = some r) :
    Calls Try.prog 41 #[.int .u16 a0] w fun e w' => e = .returned (.bool r) ∧ Drawn0 w w' := by
  have H : (if a0 = 5 then (some true) else (if a0 = 21 then (some true) else (if a0 = 37 then (some true) else (if a0 = 53 then (some true) else (if a0 = 69 then (some true) else (if a0 = 29 then (some true) else (if a0 = 45 then (some true) else (if a0 = 61 then (some true) else (some (a0 == 77)))))))))) = some r := h
  clear h
  by_cases c2 : a0 = 5
  · rw [if_pos c2] at H
    have c2b0 : (a0 == 5) = true := beq_iff_eq.mpr c2
    have c2b1 : (a0 != 5) = false := bne_eq_false_iff_eq.mpr c2
    clear c2
    obtain rfl := Option.some.inj H
    go_enter Try.func41, Try.ntmps41
    go_wp2
    go_ret
    exact ⟨by first | rfl | (simp; done) | (simp [*]; done), by repeat (first | exact Drawn0.refl _ | apply Drawn0.step)⟩
  · rw [if_neg c2] at H
    have c2b0 : (a0 == 5) = false := beq_eq_false_iff_ne.mpr c2
    have c2b1 : (a0 != 5) = true := bne_iff_ne.mpr c2
    by_cases c3 : a0 = 21
    · rw [if_pos c3] at H
      have c3b0 : (a0 == 21) = true := beq_iff_eq.mpr c3
      have c3b1 : (a0 != 21) = false := bne_eq_false_iff_eq.mpr c3
      clear c3
      obtain rfl := Option.some.inj H
      go_enter Try.func41, Try.ntmps41
      go_wp2
      go_ret
      exact ⟨by first | rfl | (simp; done) | (simp [*]; done), by repeat (first | exact Drawn0.refl _ | apply Drawn0.step)⟩
    · rw [if_neg c3] at H
      have c3b0 : (a0 == 21) = false := beq_eq_false_iff_ne.mpr c3
      have c3b1 : (a0 != 21) = true := bne_iff_ne.mpr c3
      by_cases c4 : a0 = 37
      · rw [if_pos c4] at H
        have c4b0 : (a0 == 37) = true := beq_iff_eq.mpr c4
        have c4b1 : (a0 != 37) = false := bne_eq_false_iff_eq.mpr c4
        clear c4
        obtain rfl := Option.some.inj H
        go_enter Try.func41, Try.ntmps41
        go_wp2
        go_ret
        exact ⟨by first | rfl | (simp; done) | (simp [*]; done), by repeat (first | exact Drawn0.refl _ | apply Drawn0.step)⟩
      · rw [if_neg c4] at H
        have c4b0 : (a0 == 37) = false := beq_eq_false_iff_ne.mpr c4
        have c4b1 : (a0 != 37) = true := bne_iff_ne.mpr c4
        by_cases c5 : a0 = 53
        · rw [if_pos c5] at H
          have c5b0 : (a0 == 53) = true := beq_iff_eq.mpr c5
          have c5b1 : (a0 != 53) = false := bne_eq_false_iff_eq.mpr c5
          clear c5
          obtain rfl := Option.some.inj H
          go_enter Try.func41, Try.ntmps41
          go_wp2
          go_ret
          exact ⟨by first | rfl | (simp; done) | (simp [*]; done), by repeat (first | exact Drawn0.refl _ | apply Drawn0.step)⟩
        · rw [if_neg c5] at H
          have c5b0 : (a0 == 53) = false := beq_eq_false_iff_ne.mpr c5
          have c5b1 : (a0 != 53) = true := bne_iff_ne.mpr c5
          by_cases c6 : a0 = 69
          · rw [if_pos c6] at H
            have c6b0 : (a0 == 69) = true := beq_iff_eq.mpr c6
            have c6b1 : (a0 != 69) = false := bne_eq_false_iff_eq.mpr c6
            clear c6
            obtain rfl := Option.some.inj H
            go_enter Try.func41, Try.ntmps41
            go_wp2
            go_ret
            exact ⟨by first | rfl | (simp; done) | (simp [*]; done), by repeat (first | exact Drawn0.refl _ | apply Drawn0.step)⟩
          · rw [if_neg c6] at H
            have c6b0 : (a0 == 69) = false := beq_eq_false_iff_ne.mpr c6
            have c6b1 : (a0 != 69) = true := bne_iff_ne.mpr c6
            by_cases c7 : a0 = 29
            · rw [if_pos c7] at H
              have c7b0 : (a0 == 29) = true := beq_iff_eq.mpr c7
              have c7b1 : (a0 != 29) = false := bne_eq_false_iff_eq.mpr c7
              clear c7
              obtain rfl := Option.some.inj H
              go_enter Try.func41, Try.ntmps41
              go_wp2
              go_ret
              exact ⟨by first | rfl | (simp; done) | (simp [*]; done), by repeat (first | exact Drawn0.refl _ | apply Drawn0.step)⟩
            · rw [if_neg c7] at H
              have c7b0 : (a0 == 29) = false := beq_eq_false_iff_ne.mpr c7
              have c7b1 : (a0 != 29) = true := bne_iff_ne.mpr c7
              by_cases c8 : a0 = 45
              · rw [if_pos c8] at H
                have c8b0 : (a0 == 45) = true := beq_iff_eq.mpr c8
                have c8b1 : (a0 != 45) = false := bne_eq_false_iff_eq.mpr c8
                clear c8
                obtain rfl := Option.some.inj H
                go_enter Try.func41, Try.ntmps41
                go_wp2
                go_ret
                exact ⟨by first | rfl | (simp; done) | (simp [*]; done), by repeat (first | exact Drawn0.refl _ | apply Drawn0.step)⟩
              · rw [if_neg c8] at H
                have c8b0 : (a0 == 45) = false := beq_eq_false_iff_ne.mpr c8
                have c8b1 : (a0 != 45) = true := bne_iff_ne.mpr c8
                by_cases c9 : a0 = 61
                · rw [if_pos c9] at H
                  have c9b0 : (a0 == 61) = true := beq_iff_eq.mpr c9
                  have c9b1 : (a0 != 61) = false := bne_eq_false_iff_eq.mpr c9
                  clear c9
                  obtain rfl := Option.some.inj H
                  go_enter Try.func41, Try.ntmps41
                  go_wp2
                  go_ret
                  exact ⟨by first | rfl | (simp; done) | (simp [*]; done), by repeat (first | exact Drawn0.refl _ | apply Drawn0.step)⟩
                · rw [if_neg c9] at H
                  have c9b0 : (a0 == 61) = false := beq_eq_false_iff_ne.mpr c9
                  have c9b1 : (a0 != 61) = true := bne_iff_ne.mpr c9
                  obtain rfl := Option.some.inj H
                  go_enter Try.func41, Try.ntmps41
                  go_wp2
                  go_ret
                  exact ⟨by first | rfl | (simp; done) | (simp [*]; done), by repeat (first | exact Drawn0.refl _ | apply Drawn0.step)⟩
def fairleadref03_Ends.f (a0 : Int) : Option (Bool) := if a0 = 6 then (some true) else (some (a0 == 22))
set_option maxHeartbeats 8000000 in
set_option maxRecDepth 100000 in
theorem fairleadref03_Ends.calls (a0 : Int) (r : Bool) (w : World) (h : fairleadref03_Ends.f a0 = some r) :
    Calls Try.prog 42 #[.int .u16 a0] w fun e w' => e = .returned (.bool r) ∧ Drawn0 w w' := by
  have H : (if a0 = 6 then (some true) else (some (a0 == 22))) = some r := h
  clear h
  by_cases c2 : a0 = 6
  · rw [if_pos c2] at H
    have c2b0 : (a0 == 6) = true := beq_iff_eq.mpr c2
    have c2b1 : (a0 != 6) = false := bne_eq_false_iff_eq.mpr c2
    clear c2
    obtain rfl := Option.some.inj H
    go_enter Try.func42, Try.ntmps42
    go_wp2
    go_ret
    exact ⟨by first | rfl | (simp; done) | (simp [*]; done), by repeat (first | exact Drawn0.refl _ | apply Drawn0.step)⟩
  · rw [if_neg c2] at H
    have c2b0 : (a0 == 6) = false := beq_eq_false_iff_ne.mpr c2
    have c2b1 : (a0 != 6) = true := bne_iff_ne.mpr c2
    obtain rfl := Option.some.inj H
    go_enter Try.func42, Try.ntmps42
    go_wp2
    go_ret
    exact ⟨by first | rfl | (simp; done) | (simp [*]; done), by repeat (first | exact Drawn0.refl _ | apply Drawn0.step)⟩
end Go.Proofs.Yteojfjlklikaoaa.M
