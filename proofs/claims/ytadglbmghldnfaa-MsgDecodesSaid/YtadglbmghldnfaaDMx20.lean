-- Laid by a program (wip/tools/myprint.py) out of the loaded program's own print: for each Go function a Lean function and the proof of its contract.
import Derived.Test.YtadglbmghldnfaaDMx0
import Derived.Test.YtadglbmghldnfaaDMx12
import Derived.Test.YtadglbmghldnfaaDMx17
import Derived.Test.YtadglbmghldnfaaDMx18
import Derived.Test.YtadglbmghldnfaaDMx19
namespace Go.Proofs.Ytadglbmghldnfaa.M
open Go.RowKit Go.Proofs.YtadglbmghldnfaaW.PrintWords Go.Proofs.YtadglbmghldnfaaW.PrintLast Go.Proofs.YtadglbmghldnfaaW.PrintMore
attribute [local go_sem] max2_int min2_int max_two min_two max_three min_three max_four min_four   -- for this text's walks alone
set_option linter.unusedVariables false
set_option linter.unusedSimpArgs false
-- HAND rounds=True making=True
open Mine
theorem bfq {a b : Int} (h : a ≠ b) : (a == b) = false := beq_eq_false_iff_ne.2 h
abbrev M15 (x0 x1 x2 x3 x4 x5 x6 x7 x8 x9 x10 x11 x12 x13 : Int) (s : ByteArray) : Array Value := #[.int .i64 x0, .int .u64 x1, .int .u64 x2, .int .i64 x3, .int .i64 x4, .int .u32 x5, .int .u32 x6, .int .u64 x7, .int .u64 x8, .int .u64 x9, .int .u64 x10, .int .u64 x11, .int .u64 x12, .int .u64 x13, .string s]
theorem amd {p : Prop} (h : p) : Aside0 p := ⟨h⟩
set_option maxHeartbeats 2000000 in
theorem dm_put15 {w : World} {g t : Nat} {z0 z1 z2 z3 z4 z5 z6 z7 z8 z9 z10 z11 z12 z13 z14 : Value} (v0 v1 v2 v3 v4 v5 v6 v7 v8 v9 v10 v11 v12 v13 v14 : Value) (h : w.heap[g]? = some (.cells #[z0, z1, z2, z3, z4, z5, z6, z7, z8, z9, z10, z11, z12, z13, z14] t (0, 0))) : (((((((((((((((w.setCell ⟨g, 0, none⟩ v0).setCell ⟨g, 1, none⟩ v1).setCell ⟨g, 2, none⟩ v2).setCell ⟨g, 3, none⟩ v3).setCell ⟨g, 4, none⟩ v4).setCell ⟨g, 5, none⟩ v5).setCell ⟨g, 6, none⟩ v6).setCell ⟨g, 7, none⟩ v7).setCell ⟨g, 8, none⟩ v8).setCell ⟨g, 9, none⟩ v9).setCell ⟨g, 10, none⟩ v10).setCell ⟨g, 11, none⟩ v11).setCell ⟨g, 12, none⟩ v12).setCell ⟨g, 13, none⟩ v13).setCell ⟨g, 14, none⟩ v14).heap[g]? = some (.cells #[v0, v1, v2, v3, v4, v5, v6, v7, v8, v9, v10, v11, v12, v13, v14] t (0, 0)) := by
  have h := blk_put (cs' := #[v0, z1, z2, z3, z4, z5, z6, z7, z8, z9, z10, z11, z12, z13, z14]) h 0 v0 rfl
  have h := blk_put (cs' := #[v0, v1, z2, z3, z4, z5, z6, z7, z8, z9, z10, z11, z12, z13, z14]) h 1 v1 rfl
  have h := blk_put (cs' := #[v0, v1, v2, z3, z4, z5, z6, z7, z8, z9, z10, z11, z12, z13, z14]) h 2 v2 rfl
  have h := blk_put (cs' := #[v0, v1, v2, v3, z4, z5, z6, z7, z8, z9, z10, z11, z12, z13, z14]) h 3 v3 rfl
  have h := blk_put (cs' := #[v0, v1, v2, v3, v4, z5, z6, z7, z8, z9, z10, z11, z12, z13, z14]) h 4 v4 rfl
  have h := blk_put (cs' := #[v0, v1, v2, v3, v4, v5, z6, z7, z8, z9, z10, z11, z12, z13, z14]) h 5 v5 rfl
  have h := blk_put (cs' := #[v0, v1, v2, v3, v4, v5, v6, z7, z8, z9, z10, z11, z12, z13, z14]) h 6 v6 rfl
  have h := blk_put (cs' := #[v0, v1, v2, v3, v4, v5, v6, v7, z8, z9, z10, z11, z12, z13, z14]) h 7 v7 rfl
  have h := blk_put (cs' := #[v0, v1, v2, v3, v4, v5, v6, v7, v8, z9, z10, z11, z12, z13, z14]) h 8 v8 rfl
  have h := blk_put (cs' := #[v0, v1, v2, v3, v4, v5, v6, v7, v8, v9, z10, z11, z12, z13, z14]) h 9 v9 rfl
  have h := blk_put (cs' := #[v0, v1, v2, v3, v4, v5, v6, v7, v8, v9, v10, z11, z12, z13, z14]) h 10 v10 rfl
  have h := blk_put (cs' := #[v0, v1, v2, v3, v4, v5, v6, v7, v8, v9, v10, v11, z12, z13, z14]) h 11 v11 rfl
  have h := blk_put (cs' := #[v0, v1, v2, v3, v4, v5, v6, v7, v8, v9, v10, v11, v12, z13, z14]) h 12 v12 rfl
  have h := blk_put (cs' := #[v0, v1, v2, v3, v4, v5, v6, v7, v8, v9, v10, v11, v12, v13, z14]) h 13 v13 rfl
  have h := blk_put (cs' := #[v0, v1, v2, v3, v4, v5, v6, v7, v8, v9, v10, v11, v12, v13, v14]) h 14 v14 rfl
  exact h
theorem dm_set {B g : Nat} {w0 w : World} (h : Below B w0 w) (hg : B ≤ g) (i : Nat) (v : Value) : Below B w0 (w.setCell ⟨g, i, none⟩ v) := Below.setCell h hg v
theorem dm_put15b {w : World} {g B : Nat} {w0 : World} (v0 v1 v2 v3 v4 v5 v6 v7 v8 v9 v10 v11 v12 v13 v14 : Value) (h : Below B w0 w) (hg : B ≤ g) : Below B w0 (((((((((((((((w.setCell ⟨g, 0, none⟩ v0).setCell ⟨g, 1, none⟩ v1).setCell ⟨g, 2, none⟩ v2).setCell ⟨g, 3, none⟩ v3).setCell ⟨g, 4, none⟩ v4).setCell ⟨g, 5, none⟩ v5).setCell ⟨g, 6, none⟩ v6).setCell ⟨g, 7, none⟩ v7).setCell ⟨g, 8, none⟩ v8).setCell ⟨g, 9, none⟩ v9).setCell ⟨g, 10, none⟩ v10).setCell ⟨g, 11, none⟩ v11).setCell ⟨g, 12, none⟩ v12).setCell ⟨g, 13, none⟩ v13).setCell ⟨g, 14, none⟩ v14) := dm_set (dm_set (dm_set (dm_set (dm_set (dm_set (dm_set (dm_set (dm_set (dm_set (dm_set (dm_set (dm_set (dm_set (dm_set h hg 0 _) hg 1 _) hg 2 _) hg 3 _) hg 4 _) hg 5 _) hg 6 _) hg 7 _) hg 8 _) hg 9 _) hg 10 _) hg 11 _) hg 12 _) hg 13 _) hg 14 _
theorem dm_far {w : World} {b g t : Nat} {cs : Array Value} (h : w.heap[b]? = some (.cells cs t (0, 0))) (hne : b ≠ g) (i : Nat) (v : Value) : (w.setCell ⟨g, i, none⟩ v).heap[b]? = some (.cells cs t (0, 0)) := blk_far (p := ⟨g, i, none⟩) h hne v
theorem dm_far15 {w : World} {b g t : Nat} {cs : Array Value} (v0 v1 v2 v3 v4 v5 v6 v7 v8 v9 v10 v11 v12 v13 v14 : Value) (h : w.heap[b]? = some (.cells cs t (0, 0))) (hne : b ≠ g) : (((((((((((((((w.setCell ⟨g, 0, none⟩ v0).setCell ⟨g, 1, none⟩ v1).setCell ⟨g, 2, none⟩ v2).setCell ⟨g, 3, none⟩ v3).setCell ⟨g, 4, none⟩ v4).setCell ⟨g, 5, none⟩ v5).setCell ⟨g, 6, none⟩ v6).setCell ⟨g, 7, none⟩ v7).setCell ⟨g, 8, none⟩ v8).setCell ⟨g, 9, none⟩ v9).setCell ⟨g, 10, none⟩ v10).setCell ⟨g, 11, none⟩ v11).setCell ⟨g, 12, none⟩ v12).setCell ⟨g, 13, none⟩ v13).setCell ⟨g, 14, none⟩ v14).heap[b]? = some (.cells cs t (0, 0)) := dm_far (dm_far (dm_far (dm_far (dm_far (dm_far (dm_far (dm_far (dm_far (dm_far (dm_far (dm_far (dm_far (dm_far (dm_far h hne 0 _) hne 1 _) hne 2 _) hne 3 _) hne 4 _) hne 5 _) hne 6 _) hne 7 _) hne 8 _) hne 9 _) hne 10 _) hne 11 _) hne 12 _) hne 13 _) hne 14 _
theorem dm_dr {w w1 : World} {n b : Nat} {o : Obj} (hq : w1 = w.drewN n) (h : w.heap[b]? = some o) : w1.heap[b]? = some o := by rw [hq]; exact blk_drewN h n
theorem dm_drb {w0 w w1 : World} {n B : Nat} (hq : w1 = w.drewN n) (h : Below B w0 w) : Below B w0 w1 := by rw [hq]; exact pw_below_drewN h n
def fairleadref17_Decode.fin (k : Nat) (l0 : List Int) (need m0 m1 m2 m3 m4 m5 m6 m7 m8 m9 m10 m11 m12 m13 : Int) (m14 : ByteArray) : Option (Int × Int × Int × Int × Int × Int × Int × Int × Int × Int × Int × Int × Int × Int × ByteArray × Int) := if need < (l0.length : Int) then some (0, 0, 0, 0, 0, 0, 0, 0, 0, 0, 0, 0, 0, 0, (⟨#[]⟩ : ByteArray), 3) else (fairleadref17_Right.f k m0 m1 m2 m3 m4 m5 m6 m7 m8 m9 m10 m11 m12 m13 m14).bind fun b => if b = true then some (m0, m1, m2, m3, m4, m5, m6, m7, m8, m9, m10, m11, m12, m13, m14, 0) else some (0, 0, 0, 0, 0, 0, 0, 0, 0, 0, 0, 0, 0, 0, (⟨#[]⟩ : ByteArray), 1)
def fairleadref17_Decode.f (k : Nat) (l0 : List Int) : Option (Int × Int × Int × Int × Int × Int × Int × Int × Int × Int × Int × Int × Int × Int × ByteArray × Int) := if l0.length = 0 then some (0, 0, 0, 0, 0, 0, 0, 0, 0, 0, 0, 0, 0, 0, (⟨#[]⟩ : ByteArray), 2) else if (wrap64 (rd l0 0)) < 1 ∨ 7 < (wrap64 (rd l0 0)) then some (0, 0, 0, 0, 0, 0, 0, 0, 0, 0, 0, 0, 0, 0, (⟨#[]⟩ : ByteArray), 3)
  else if (l0.length : Int) < (if (wrap64 (rd l0 0)) = 1 then 9 else if (wrap64 (rd l0 0)) = 2 then 84 else if (wrap64 (rd l0 0)) = 4 ∨ (wrap64 (rd l0 0)) = 5 ∨ (wrap64 (rd l0 0)) = 7 then 19 else 17) then some (0, 0, 0, 0, 0, 0, 0, 0, 0, 0, 0, 0, 0, 0, (⟨#[]⟩ : ByteArray), 2)
  else (fairleadref02_Take.f k (l0.drop 1) 8).bind fun p => if (wrap64 (rd l0 0)) = 1 then fairleadref17_Decode.fin k l0 9 (wrap64 (rd l0 0)) (p.1) 0 0 0 0 0 0 0 0 0 0 0 0 (⟨#[]⟩ : ByteArray)
    else (fairleadref02_Take.f k (l0.drop 9) 8).bind fun i => if (wrap64 (rd l0 0)) = 2 then (fairleadref04_Of.f k ((l0.take 82).drop 18)).bind fun d => (fairleadref02_TakeText.f k (l0.drop 82)).bind fun t => if t.2.2 = 0 then fairleadref17_Decode.fin k l0 (wrap64 (82 + t.2.1)) (wrap64 (rd l0 0)) (p.1) (i.1) (wrap64 (rd l0 17)) 0 (d.1) (d.2.1) (d.2.2.1) (d.2.2.2.1) (d.2.2.2.2.1) (d.2.2.2.2.2.1) (d.2.2.2.2.2.2.1) (d.2.2.2.2.2.2.2.1) (d.2.2.2.2.2.2.2.2.1) (t.1) else some (0, 0, 0, 0, 0, 0, 0, 0, 0, 0, 0, 0, 0, 0, (⟨#[]⟩ : ByteArray), 2)
      else if (wrap64 (rd l0 0)) = 4 ∨ (wrap64 (rd l0 0)) = 5 ∨ (wrap64 (rd l0 0)) = 7 then fairleadref17_Decode.fin k l0 19 (wrap64 (rd l0 0)) (p.1) (i.1) 0 (wrap64 ((wrap64 ((wrap64 (rd l0 17)) * 256)) + (wrap64 (rd l0 18)))) 0 0 0 0 0 0 0 0 0 (⟨#[]⟩ : ByteArray) else fairleadref17_Decode.fin k l0 17 (wrap64 (rd l0 0)) (p.1) (i.1) 0 0 0 0 0 0 0 0 0 0 0 (⟨#[]⟩ : ByteArray)
set_option maxHeartbeats 8000000 in
set_option maxRecDepth 100000 in
theorem fairleadref17_Decode.w0 (A0 : Option Addr) (c0 : Nat) (l0 : List Int) (w : World) (hl : l0.length = 0) :
    Calls Try.prog 14 #[.slice A0 l0.length c0] w (fun e w' => e = .returned (.tuple #[.agg #[.int .i64 0, .int .u64 0, .int .u64 0, .int .i64 0, .int .i64 0, .int .u32 0, .int .u32 0, .int .u64 0, .int .u64 0, .int .u64 0, .int .u64 0, .int .u64 0, .int .u64 0, .int .u64 0, .string (⟨#[]⟩ : ByteArray)], .int .i64 2]) ∧ Below w.heap.size w w') := by
  have hu28 := Try.underlying28
  have HB := amd (Below.refl w.heap.size w)
  have qe0 : ((l0.length : Int) == 0) = true := beq_iff_eq.2 (by omega)
  go_enter Try.func14, Try.ntmps14
  go_wp2_with (first | ((with_reducible refine gate_dst (N := 2) rfl ?_); refine box_event ?hg (N := 2) ?hd (cs := #[.int .i64 0, .int .u64 0, .int .u64 0, .int .i64 0, .int .i64 0, .int .u32 0, .int .u32 0, .int .u64 0, .int .u64 0, .int .u64 0, .int .u64 0, .int .u64 0, .int .u64 0, .int .u64 0, .string ⟨#[]⟩]) (t := 28) ?hr ?_; (case hd => rfl); (case hg => rfl); (case hr => first | (go_simp; done) | (go_simp; rfl)); intro gr hg w1 hbox hb; have er := amd (show w.heap.size ≤ gr from by rw [hg]; exact Below.size HB.out); have HB1 := amd (below_step HB.out hb); have rr1 := amd hbox; have cr1 := Mine.cells15 rr1.out; have fr1 := blk_frozen rr1.out; clear hbox hb hg))
  (repeat (go_step3; (try go_wp2)))
  refine bodyPost_ret (results_ct rfl _ _ gr 28 (M15 0 0 0 0 0 0 0 0 0 0 0 0 0 0 ⟨#[]⟩) (0, 0) _ rfl (dm_put15 _ _ _ _ _ _ _ _ _ _ _ _ _ _ _ rr1.out) hu28 rfl (by kernel_rfl)) rfl ?_
  exact ⟨rfl, (dm_put15b _ _ _ _ _ _ _ _ _ _ _ _ _ _ _ HB1.out er.out)⟩
set_option maxHeartbeats 8000000 in
set_option maxRecDepth 100000 in
theorem fairleadref17_Decode.wk (k : Nat) (ad : Addr) (c0 : Nat) (l0 : List Int) (w : World) (hr0 : Kd.C (Kd.int .u8) w (some ad) l0.length l0) (hl : 0 < l0.length) (J : (decide ((wrap64 (rd l0 0)) < 1) = true) ∨ (decide ((wrap64 (rd l0 0)) < 1) = false ∧ decide (7 < (wrap64 (rd l0 0))) = true)) :
    Calls Try.prog 14 #[.slice (some ad) l0.length c0] w (fun e w' => e = .returned (.tuple #[.agg #[.int .i64 0, .int .u64 0, .int .u64 0, .int .i64 0, .int .i64 0, .int .u32 0, .int .u32 0, .int .u64 0, .int .u64 0, .int .u64 0, .int .u64 0, .int .u64 0, .int .u64 0, .int .u64 0, .string (⟨#[]⟩ : ByteArray)], .int .i64 3]) ∧ Below w.heap.size w w') := by
  have hu28 := Try.underlying28
  have hu26 := Try.underlying26
  have hfd := fun (cs_ : Array Value) (j_ : Nat) (w_ : World) => Mine.run_field (P := Try.prog) Try.underlying26 cs_ j_ w_
  have HR0 := amd hr0
  have HB := amd (Below.refl w.heap.size w)
  have qi0 : (0 < l0.length) = True := eq_true hl
  have qj0 : ((0 : Int) < (l0.length : Int)) = True := eq_true (by omega)
  have qe0 : ((l0.length : Int) == 0) = false := bfq (by omega)
  obtain ⟨ad0, e0_, x0_⟩ := Kd.at_int HR0.out 0 (by omega) (by omega)
  cases e0_
  (try rw [show ((0 : Int)).toNat = 0 from rfl] at x0_)
  (try rw [Addr.add_zero'] at x0_)
  clear hr0
  rcases J with klo | ⟨klo, khi⟩
  all_goals
    go_enter Try.func14, Try.ntmps14
    go_wp2_with (first | ((with_reducible refine gate_dst (N := 2) rfl ?_); refine box_event ?hg (N := 2) ?hd (cs := #[.int .i64 0, .int .u64 0, .int .u64 0, .int .i64 0, .int .i64 0, .int .u32 0, .int .u32 0, .int .u64 0, .int .u64 0, .int .u64 0, .int .u64 0, .int .u64 0, .int .u64 0, .int .u64 0, .string ⟨#[]⟩]) (t := 28) ?hr ?_; (case hd => rfl); (case hg => rfl); (case hr => first | (go_simp; done) | (go_simp; rfl)); intro gr hg w1 hbox hb; have er := amd (show w.heap.size ≤ gr from by rw [hg]; exact Below.size HB.out); have HB1 := amd (below_step HB.out hb); have rr1 := amd hbox; have cr1 := Mine.cells15 rr1.out; have fr1 := blk_frozen rr1.out; clear hbox hb hg; have x0 := (HB1.out.cell (World.block_lt_of_cell? w _ x0_)).trans x0_) | ((with_reducible refine gate_dst (N := 4) rfl ?_); refine box_event ?hg (N := 4) ?hd (cs := #[.int .i64 0, .int .u64 0, .int .u64 0, .int .i64 0, .int .i64 0, .int .u32 0, .int .u32 0, .int .u64 0, .int .u64 0, .int .u64 0, .int .u64 0, .int .u64 0, .int .u64 0, .int .u64 0, .string ⟨#[]⟩]) (t := 28) ?hr ?_; (case hd => rfl); (case hg => rfl); (case hr => first | (go_simp; done) | (go_simp; rfl)); intro gm hg w2 hbox hb; have ng := amd (show gm ≠ gr from by rw [hg]; exact Nat.ne_of_gt (blk_lt rr1.out)); have em := amd (show w.heap.size ≤ gm from by rw [hg]; exact Below.size HB1.out); have rr2 := amd (blk_below rr1.out hb); have HB2 := amd (below_step HB1.out hb); have mm2 := amd hbox; clear HB1 rr1 cr1 fr1 x0; have cr2 := Mine.cells15 rr2.out; have fr2 := blk_frozen rr2.out; have cm2 := Mine.cells15 mm2.out; have fm2 := blk_frozen mm2.out; have n_gm_gr := ng.out; have n_gr_gm := Ne.symm ng.out; clear hbox hb hg))
    (repeat (go_step3; (try go_wp2)))
    refine bodyPost_ret (results_ct rfl _ _ gr 28 (M15 0 0 0 0 0 0 0 0 0 0 0 0 0 0 ⟨#[]⟩) (0, 0) _ rfl (dm_put15 _ _ _ _ _ _ _ _ _ _ _ _ _ _ _ (dm_far15 _ _ _ _ _ _ _ _ _ _ _ _ _ _ _ rr2.out (Ne.symm ng.out))) hu28 rfl (by kernel_rfl)) rfl ?_
    exact ⟨rfl, (dm_put15b _ _ _ _ _ _ _ _ _ _ _ _ _ _ _ (dm_put15b _ _ _ _ _ _ _ _ _ _ _ _ _ _ _ HB2.out em.out) er.out)⟩
set_option maxHeartbeats 8000000 in
set_option maxRecDepth 100000 in
theorem fairleadref17_Decode.s1 (k : Nat) (ad : Addr) (c0 : Nat) (l0 : List Int) (w : World) (hr0 : Kd.C (Kd.int .u8) w (some ad) l0.length l0) (hl : 0 < l0.length) (klo : decide ((wrap64 (rd l0 0)) < 1) = false) (khi : decide (7 < (wrap64 (rd l0 0))) = false) (kq1 : ((wrap64 (rd l0 0)) == 1) = true) (kq2 : ((wrap64 (rd l0 0)) == 2) = false) (kq4 : ((wrap64 (rd l0 0)) == 4) = false) (kq5 : ((wrap64 (rd l0 0)) == 5) = false) (kq7 : ((wrap64 (rd l0 0)) == 7) = false) (kg : decide (1 < (wrap64 (rd l0 0))) = false) (hs : decide ((l0.length : Int) < 9) = true) :
    Calls Try.prog 14 #[.slice (some ad) l0.length c0] w (fun e w' => e = .returned (.tuple #[.agg #[.int .i64 0, .int .u64 0, .int .u64 0, .int .i64 0, .int .i64 0, .int .u32 0, .int .u32 0, .int .u64 0, .int .u64 0, .int .u64 0, .int .u64 0, .int .u64 0, .int .u64 0, .int .u64 0, .string (⟨#[]⟩ : ByteArray)], .int .i64 2]) ∧ Below w.heap.size w w') := by
  have hu28 := Try.underlying28
  have hu26 := Try.underlying26
  have hfd := fun (cs_ : Array Value) (j_ : Nat) (w_ : World) => Mine.run_field (P := Try.prog) Try.underlying26 cs_ j_ w_
  have HR0 := amd hr0
  have HB := amd (Below.refl w.heap.size w)
  have qi0 : (0 < l0.length) = True := eq_true hl
  have qj0 : ((0 : Int) < (l0.length : Int)) = True := eq_true (by omega)
  have qe0 : ((l0.length : Int) == 0) = false := bfq (by omega)
  obtain ⟨ad0, e0_, x0_⟩ := Kd.at_int HR0.out 0 (by omega) (by omega)
  cases e0_
  (try rw [show ((0 : Int)).toNat = 0 from rfl] at x0_)
  (try rw [Addr.add_zero'] at x0_)
  clear hr0
  go_enter Try.func14, Try.ntmps14
  go_wp2_with (first | ((with_reducible refine gate_dst (N := 2) rfl ?_); refine box_event ?hg (N := 2) ?hd (cs := #[.int .i64 0, .int .u64 0, .int .u64 0, .int .i64 0, .int .i64 0, .int .u32 0, .int .u32 0, .int .u64 0, .int .u64 0, .int .u64 0, .int .u64 0, .int .u64 0, .int .u64 0, .int .u64 0, .string ⟨#[]⟩]) (t := 28) ?hr ?_; (case hd => rfl); (case hg => rfl); (case hr => first | (go_simp; done) | (go_simp; rfl)); intro gr hg w1 hbox hb; have er := amd (show w.heap.size ≤ gr from by rw [hg]; exact Below.size HB.out); have HB1 := amd (below_step HB.out hb); have rr1 := amd hbox; have cr1 := Mine.cells15 rr1.out; have fr1 := blk_frozen rr1.out; clear hbox hb hg; have x0 := (HB1.out.cell (World.block_lt_of_cell? w _ x0_)).trans x0_) | ((with_reducible refine gate_dst (N := 4) rfl ?_); refine box_event ?hg (N := 4) ?hd (cs := #[.int .i64 0, .int .u64 0, .int .u64 0, .int .i64 0, .int .i64 0, .int .u32 0, .int .u32 0, .int .u64 0, .int .u64 0, .int .u64 0, .int .u64 0, .int .u64 0, .int .u64 0, .int .u64 0, .string ⟨#[]⟩]) (t := 28) ?hr ?_; (case hd => rfl); (case hg => rfl); (case hr => first | (go_simp; done) | (go_simp; rfl)); intro gm hg w2 hbox hb; have ng := amd (show gm ≠ gr from by rw [hg]; exact Nat.ne_of_gt (blk_lt rr1.out)); have em := amd (show w.heap.size ≤ gm from by rw [hg]; exact Below.size HB1.out); have rr2 := amd (blk_below rr1.out hb); have HB2 := amd (below_step HB1.out hb); have mm2 := amd hbox; clear HB1 rr1 cr1 fr1 x0; have cr2 := Mine.cells15 rr2.out; have fr2 := blk_frozen rr2.out; have cm2 := Mine.cells15 mm2.out; have fm2 := blk_frozen mm2.out; have n_gm_gr := ng.out; have n_gr_gm := Ne.symm ng.out; clear hbox hb hg))
  (repeat (go_step3; (try go_wp2)))
  refine bodyPost_ret (results_ct rfl _ _ gr 28 (M15 0 0 0 0 0 0 0 0 0 0 0 0 0 0 ⟨#[]⟩) (0, 0) _ rfl (dm_put15 _ _ _ _ _ _ _ _ _ _ _ _ _ _ _ (dm_far15 _ _ _ _ _ _ _ _ _ _ _ _ _ _ _ rr2.out (Ne.symm ng.out))) hu28 rfl (by kernel_rfl)) rfl ?_
  exact ⟨rfl, (dm_put15b _ _ _ _ _ _ _ _ _ _ _ _ _ _ _ (dm_put15b _ _ _ _ _ _ _ _ _ _ _ _ _ _ _ HB2.out em.out) er.out)⟩
set_option maxHeartbeats 8000000 in
set_option maxRecDepth 100000 in
theorem fairleadref17_Decode.s2 (k : Nat) (ad : Addr) (c0 : Nat) (l0 : List Int) (w : World) (hr0 : Kd.C (Kd.int .u8) w (some ad) l0.length l0) (hl : 0 < l0.length) (klo : decide ((wrap64 (rd l0 0)) < 1) = false) (khi : decide (7 < (wrap64 (rd l0 0))) = false) (kq1 : ((wrap64 (rd l0 0)) == 1) = false) (kq2 : ((wrap64 (rd l0 0)) == 2) = true) (kq4 : ((wrap64 (rd l0 0)) == 4) = false) (kq5 : ((wrap64 (rd l0 0)) == 5) = false) (kq7 : ((wrap64 (rd l0 0)) == 7) = false) (kg : decide (1 < (wrap64 (rd l0 0))) = true) (hs : decide ((l0.length : Int) < 84) = true) :
    Calls Try.prog 14 #[.slice (some ad) l0.length c0] w (fun e w' => e = .returned (.tuple #[.agg #[.int .i64 0, .int .u64 0, .int .u64 0, .int .i64 0, .int .i64 0, .int .u32 0, .int .u32 0, .int .u64 0, .int .u64 0, .int .u64 0, .int .u64 0, .int .u64 0, .int .u64 0, .int .u64 0, .string (⟨#[]⟩ : ByteArray)], .int .i64 2]) ∧ Below w.heap.size w w') := by
  have hu28 := Try.underlying28
  have hu26 := Try.underlying26
  have hfd := fun (cs_ : Array Value) (j_ : Nat) (w_ : World) => Mine.run_field (P := Try.prog) Try.underlying26 cs_ j_ w_
  have HR0 := amd hr0
  have HB := amd (Below.refl w.heap.size w)
  have qi0 : (0 < l0.length) = True := eq_true hl
  have qj0 : ((0 : Int) < (l0.length : Int)) = True := eq_true (by omega)
  have qe0 : ((l0.length : Int) == 0) = false := bfq (by omega)
  obtain ⟨ad0, e0_, x0_⟩ := Kd.at_int HR0.out 0 (by omega) (by omega)
  cases e0_
  (try rw [show ((0 : Int)).toNat = 0 from rfl] at x0_)
  (try rw [Addr.add_zero'] at x0_)
  clear hr0
  go_enter Try.func14, Try.ntmps14
  go_wp2_with (first | ((with_reducible refine gate_dst (N := 2) rfl ?_); refine box_event ?hg (N := 2) ?hd (cs := #[.int .i64 0, .int .u64 0, .int .u64 0, .int .i64 0, .int .i64 0, .int .u32 0, .int .u32 0, .int .u64 0, .int .u64 0, .int .u64 0, .int .u64 0, .int .u64 0, .int .u64 0, .int .u64 0, .string ⟨#[]⟩]) (t := 28) ?hr ?_; (case hd => rfl); (case hg => rfl); (case hr => first | (go_simp; done) | (go_simp; rfl)); intro gr hg w1 hbox hb; have er := amd (show w.heap.size ≤ gr from by rw [hg]; exact Below.size HB.out); have HB1 := amd (below_step HB.out hb); have rr1 := amd hbox; have cr1 := Mine.cells15 rr1.out; have fr1 := blk_frozen rr1.out; clear hbox hb hg; have x0 := (HB1.out.cell (World.block_lt_of_cell? w _ x0_)).trans x0_) | ((with_reducible refine gate_dst (N := 4) rfl ?_); refine box_event ?hg (N := 4) ?hd (cs := #[.int .i64 0, .int .u64 0, .int .u64 0, .int .i64 0, .int .i64 0, .int .u32 0, .int .u32 0, .int .u64 0, .int .u64 0, .int .u64 0, .int .u64 0, .int .u64 0, .int .u64 0, .int .u64 0, .string ⟨#[]⟩]) (t := 28) ?hr ?_; (case hd => rfl); (case hg => rfl); (case hr => first | (go_simp; done) | (go_simp; rfl)); intro gm hg w2 hbox hb; have ng := amd (show gm ≠ gr from by rw [hg]; exact Nat.ne_of_gt (blk_lt rr1.out)); have em := amd (show w.heap.size ≤ gm from by rw [hg]; exact Below.size HB1.out); have rr2 := amd (blk_below rr1.out hb); have HB2 := amd (below_step HB1.out hb); have mm2 := amd hbox; clear HB1 rr1 cr1 fr1 x0; have cr2 := Mine.cells15 rr2.out; have fr2 := blk_frozen rr2.out; have cm2 := Mine.cells15 mm2.out; have fm2 := blk_frozen mm2.out; have n_gm_gr := ng.out; have n_gr_gm := Ne.symm ng.out; clear hbox hb hg))
  (repeat (go_step3; (try go_wp2)))
  refine bodyPost_ret (results_ct rfl _ _ gr 28 (M15 0 0 0 0 0 0 0 0 0 0 0 0 0 0 ⟨#[]⟩) (0, 0) _ rfl (dm_put15 _ _ _ _ _ _ _ _ _ _ _ _ _ _ _ (dm_far15 _ _ _ _ _ _ _ _ _ _ _ _ _ _ _ rr2.out (Ne.symm ng.out))) hu28 rfl (by kernel_rfl)) rfl ?_
  exact ⟨rfl, (dm_put15b _ _ _ _ _ _ _ _ _ _ _ _ _ _ _ (dm_put15b _ _ _ _ _ _ _ _ _ _ _ _ _ _ _ HB2.out em.out) er.out)⟩
set_option maxHeartbeats 8000000 in
set_option maxRecDepth 100000 in
theorem fairleadref17_Decode.s3 (k : Nat) (ad : Addr) (c0 : Nat) (l0 : List Int) (w : World) (hr0 : Kd.C (Kd.int .u8) w (some ad) l0.length l0) (hl : 0 < l0.length) (klo : decide ((wrap64 (rd l0 0)) < 1) = false) (khi : decide (7 < (wrap64 (rd l0 0))) = false) (kq1 : ((wrap64 (rd l0 0)) == 1) = false) (kq2 : ((wrap64 (rd l0 0)) == 2) = false) (kq4 : ((wrap64 (rd l0 0)) == 4) = false) (kq5 : ((wrap64 (rd l0 0)) == 5) = false) (kq7 : ((wrap64 (rd l0 0)) == 7) = false) (kg : decide (1 < (wrap64 (rd l0 0))) = true) (hs : decide ((l0.length : Int) < 17) = true) :
    Calls Try.prog 14 #[.slice (some ad) l0.length c0] w (fun e w' => e = .returned (.tuple #[.agg #[.int .i64 0, .int .u64 0, .int .u64 0, .int .i64 0, .int .i64 0, .int .u32 0, .int .u32 0, .int .u64 0, .int .u64 0, .int .u64 0, .int .u64 0, .int .u64 0, .int .u64 0, .int .u64 0, .string (⟨#[]⟩ : ByteArray)], .int .i64 2]) ∧ Below w.heap.size w w') := by
  have hu28 := Try.underlying28
  have hu26 := Try.underlying26
  have hfd := fun (cs_ : Array Value) (j_ : Nat) (w_ : World) => Mine.run_field (P := Try.prog) Try.underlying26 cs_ j_ w_
  have HR0 := amd hr0
  have HB := amd (Below.refl w.heap.size w)
  have qi0 : (0 < l0.length) = True := eq_true hl
  have qj0 : ((0 : Int) < (l0.length : Int)) = True := eq_true (by omega)
  have qe0 : ((l0.length : Int) == 0) = false := bfq (by omega)
  obtain ⟨ad0, e0_, x0_⟩ := Kd.at_int HR0.out 0 (by omega) (by omega)
  cases e0_
  (try rw [show ((0 : Int)).toNat = 0 from rfl] at x0_)
  (try rw [Addr.add_zero'] at x0_)
  clear hr0
  go_enter Try.func14, Try.ntmps14
  go_wp2_with (first | ((with_reducible refine gate_dst (N := 2) rfl ?_); refine box_event ?hg (N := 2) ?hd (cs := #[.int .i64 0, .int .u64 0, .int .u64 0, .int .i64 0, .int .i64 0, .int .u32 0, .int .u32 0, .int .u64 0, .int .u64 0, .int .u64 0, .int .u64 0, .int .u64 0, .int .u64 0, .int .u64 0, .string ⟨#[]⟩]) (t := 28) ?hr ?_; (case hd => rfl); (case hg => rfl); (case hr => first | (go_simp; done) | (go_simp; rfl)); intro gr hg w1 hbox hb; have er := amd (show w.heap.size ≤ gr from by rw [hg]; exact Below.size HB.out); have HB1 := amd (below_step HB.out hb); have rr1 := amd hbox; have cr1 := Mine.cells15 rr1.out; have fr1 := blk_frozen rr1.out; clear hbox hb hg; have x0 := (HB1.out.cell (World.block_lt_of_cell? w _ x0_)).trans x0_) | ((with_reducible refine gate_dst (N := 4) rfl ?_); refine box_event ?hg (N := 4) ?hd (cs := #[.int .i64 0, .int .u64 0, .int .u64 0, .int .i64 0, .int .i64 0, .int .u32 0, .int .u32 0, .int .u64 0, .int .u64 0, .int .u64 0, .int .u64 0, .int .u64 0, .int .u64 0, .int .u64 0, .string ⟨#[]⟩]) (t := 28) ?hr ?_; (case hd => rfl); (case hg => rfl); (case hr => first | (go_simp; done) | (go_simp; rfl)); intro gm hg w2 hbox hb; have ng := amd (show gm ≠ gr from by rw [hg]; exact Nat.ne_of_gt (blk_lt rr1.out)); have em := amd (show w.heap.size ≤ gm from by rw [hg]; exact Below.size HB1.out); have rr2 := amd (blk_below rr1.out hb); have HB2 := amd (below_step HB1.out hb); have mm2 := amd hbox; clear HB1 rr1 cr1 fr1 x0; have cr2 := Mine.cells15 rr2.out; have fr2 := blk_frozen rr2.out; have cm2 := Mine.cells15 mm2.out; have fm2 := blk_frozen mm2.out; have n_gm_gr := ng.out; have n_gr_gm := Ne.symm ng.out; clear hbox hb hg))
  (repeat (go_step3; (try go_wp2)))
  refine bodyPost_ret (results_ct rfl _ _ gr 28 (M15 0 0 0 0 0 0 0 0 0 0 0 0 0 0 ⟨#[]⟩) (0, 0) _ rfl (dm_put15 _ _ _ _ _ _ _ _ _ _ _ _ _ _ _ (dm_far15 _ _ _ _ _ _ _ _ _ _ _ _ _ _ _ rr2.out (Ne.symm ng.out))) hu28 rfl (by kernel_rfl)) rfl ?_
  exact ⟨rfl, (dm_put15b _ _ _ _ _ _ _ _ _ _ _ _ _ _ _ (dm_put15b _ _ _ _ _ _ _ _ _ _ _ _ _ _ _ HB2.out em.out) er.out)⟩
set_option maxHeartbeats 8000000 in
set_option maxRecDepth 100000 in
theorem fairleadref17_Decode.s4 (k : Nat) (ad : Addr) (c0 : Nat) (l0 : List Int) (w : World) (hr0 : Kd.C (Kd.int .u8) w (some ad) l0.length l0) (hl : 0 < l0.length) (klo : decide ((wrap64 (rd l0 0)) < 1) = false) (khi : decide (7 < (wrap64 (rd l0 0))) = false) (kq1 : ((wrap64 (rd l0 0)) == 1) = false) (kq2 : ((wrap64 (rd l0 0)) == 2) = false) (kq4 : ((wrap64 (rd l0 0)) == 4) = true) (kg : decide (1 < (wrap64 (rd l0 0))) = true) (hs : decide ((l0.length : Int) < 19) = true) :
    Calls Try.prog 14 #[.slice (some ad) l0.length c0] w (fun e w' => e = .returned (.tuple #[.agg #[.int .i64 0, .int .u64 0, .int .u64 0, .int .i64 0, .int .i64 0, .int .u32 0, .int .u32 0, .int .u64 0, .int .u64 0, .int .u64 0, .int .u64 0, .int .u64 0, .int .u64 0, .int .u64 0, .string (⟨#[]⟩ : ByteArray)], .int .i64 2]) ∧ Below w.heap.size w w') := by
  have hu28 := Try.underlying28
  have hu26 := Try.underlying26
  have hfd := fun (cs_ : Array Value) (j_ : Nat) (w_ : World) => Mine.run_field (P := Try.prog) Try.underlying26 cs_ j_ w_
  have HR0 := amd hr0
  have HB := amd (Below.refl w.heap.size w)
  have qi0 : (0 < l0.length) = True := eq_true hl
  have qj0 : ((0 : Int) < (l0.length : Int)) = True := eq_true (by omega)
  have qe0 : ((l0.length : Int) == 0) = false := bfq (by omega)
  obtain ⟨ad0, e0_, x0_⟩ := Kd.at_int HR0.out 0 (by omega) (by omega)
  cases e0_
  (try rw [show ((0 : Int)).toNat = 0 from rfl] at x0_)
  (try rw [Addr.add_zero'] at x0_)
  clear hr0
  go_enter Try.func14, Try.ntmps14
  go_wp2_with (first | ((with_reducible refine gate_dst (N := 2) rfl ?_); refine box_event ?hg (N := 2) ?hd (cs := #[.int .i64 0, .int .u64 0, .int .u64 0, .int .i64 0, .int .i64 0, .int .u32 0, .int .u32 0, .int .u64 0, .int .u64 0, .int .u64 0, .int .u64 0, .int .u64 0, .int .u64 0, .int .u64 0, .string ⟨#[]⟩]) (t := 28) ?hr ?_; (case hd => rfl); (case hg => rfl); (case hr => first | (go_simp; done) | (go_simp; rfl)); intro gr hg w1 hbox hb; have er := amd (show w.heap.size ≤ gr from by rw [hg]; exact Below.size HB.out); have HB1 := amd (below_step HB.out hb); have rr1 := amd hbox; have cr1 := Mine.cells15 rr1.out; have fr1 := blk_frozen rr1.out; clear hbox hb hg; have x0 := (HB1.out.cell (World.block_lt_of_cell? w _ x0_)).trans x0_) | ((with_reducible refine gate_dst (N := 4) rfl ?_); refine box_event ?hg (N := 4) ?hd (cs := #[.int .i64 0, .int .u64 0, .int .u64 0, .int .i64 0, .int .i64 0, .int .u32 0, .int .u32 0, .int .u64 0, .int .u64 0, .int .u64 0, .int .u64 0, .int .u64 0, .int .u64 0, .int .u64 0, .string ⟨#[]⟩]) (t := 28) ?hr ?_; (case hd => rfl); (case hg => rfl); (case hr => first | (go_simp; done) | (go_simp; rfl)); intro gm hg w2 hbox hb; have ng := amd (show gm ≠ gr from by rw [hg]; exact Nat.ne_of_gt (blk_lt rr1.out)); have em := amd (show w.heap.size ≤ gm from by rw [hg]; exact Below.size HB1.out); have rr2 := amd (blk_below rr1.out hb); have HB2 := amd (below_step HB1.out hb); have mm2 := amd hbox; clear HB1 rr1 cr1 fr1 x0; have cr2 := Mine.cells15 rr2.out; have fr2 := blk_frozen rr2.out; have cm2 := Mine.cells15 mm2.out; have fm2 := blk_frozen mm2.out; have n_gm_gr := ng.out; have n_gr_gm := Ne.symm ng.out; clear hbox hb hg))
  (repeat (go_step3; (try go_wp2)))
  refine bodyPost_ret (results_ct rfl _ _ gr 28 (M15 0 0 0 0 0 0 0 0 0 0 0 0 0 0 ⟨#[]⟩) (0, 0) _ rfl (dm_put15 _ _ _ _ _ _ _ _ _ _ _ _ _ _ _ (dm_far15 _ _ _ _ _ _ _ _ _ _ _ _ _ _ _ rr2.out (Ne.symm ng.out))) hu28 rfl (by kernel_rfl)) rfl ?_
  exact ⟨rfl, (dm_put15b _ _ _ _ _ _ _ _ _ _ _ _ _ _ _ (dm_put15b _ _ _ _ _ _ _ _ _ _ _ _ _ _ _ HB2.out em.out) er.out)⟩
set_option maxHeartbeats 8000000 in
set_option maxRecDepth 100000 in
theorem fairleadref17_Decode.s5 (k : Nat) (ad : Addr) (c0 : Nat) (l0 : List Int) (w : World) (hr0 : Kd.C (Kd.int .u8) w (some ad) l0.length l0) (hl : 0 < l0.length) (klo : decide ((wrap64 (rd l0 0)) < 1) = false) (khi : decide (7 < (wrap64 (rd l0 0))) = false) (kq1 : ((wrap64 (rd l0 0)) == 1) = false) (kq2 : ((wrap64 (rd l0 0)) == 2) = false) (kq4 : ((wrap64 (rd l0 0)) == 4) = false) (kq5 : ((wrap64 (rd l0 0)) == 5) = true) (kg : decide (1 < (wrap64 (rd l0 0))) = true) (hs : decide ((l0.length : Int) < 19) = true) :
    Calls Try.prog 14 #[.slice (some ad) l0.length c0] w (fun e w' => e = .returned (.tuple #[.agg #[.int .i64 0, .int .u64 0, .int .u64 0, .int .i64 0, .int .i64 0, .int .u32 0, .int .u32 0, .int .u64 0, .int .u64 0, .int .u64 0, .int .u64 0, .int .u64 0, .int .u64 0, .int .u64 0, .string (⟨#[]⟩ : ByteArray)], .int .i64 2]) ∧ Below w.heap.size w w') := by
  have hu28 := Try.underlying28
  have hu26 := Try.underlying26
  have hfd := fun (cs_ : Array Value) (j_ : Nat) (w_ : World) => Mine.run_field (P := Try.prog) Try.underlying26 cs_ j_ w_
  have HR0 := amd hr0
  have HB := amd (Below.refl w.heap.size w)
  have qi0 : (0 < l0.length) = True := eq_true hl
  have qj0 : ((0 : Int) < (l0.length : Int)) = True := eq_true (by omega)
  have qe0 : ((l0.length : Int) == 0) = false := bfq (by omega)
  obtain ⟨ad0, e0_, x0_⟩ := Kd.at_int HR0.out 0 (by omega) (by omega)
  cases e0_
  (try rw [show ((0 : Int)).toNat = 0 from rfl] at x0_)
  (try rw [Addr.add_zero'] at x0_)
  clear hr0
  go_enter Try.func14, Try.ntmps14
  go_wp2_with (first | ((with_reducible refine gate_dst (N := 2) rfl ?_); refine box_event ?hg (N := 2) ?hd (cs := #[.int .i64 0, .int .u64 0, .int .u64 0, .int .i64 0, .int .i64 0, .int .u32 0, .int .u32 0, .int .u64 0, .int .u64 0, .int .u64 0, .int .u64 0, .int .u64 0, .int .u64 0, .int .u64 0, .string ⟨#[]⟩]) (t := 28) ?hr ?_; (case hd => rfl); (case hg => rfl); (case hr => first | (go_simp; done) | (go_simp; rfl)); intro gr hg w1 hbox hb; have er := amd (show w.heap.size ≤ gr from by rw [hg]; exact Below.size HB.out); have HB1 := amd (below_step HB.out hb); have rr1 := amd hbox; have cr1 := Mine.cells15 rr1.out; have fr1 := blk_frozen rr1.out; clear hbox hb hg; have x0 := (HB1.out.cell (World.block_lt_of_cell? w _ x0_)).trans x0_) | ((with_reducible refine gate_dst (N := 4) rfl ?_); refine box_event ?hg (N := 4) ?hd (cs := #[.int .i64 0, .int .u64 0, .int .u64 0, .int .i64 0, .int .i64 0, .int .u32 0, .int .u32 0, .int .u64 0, .int .u64 0, .int .u64 0, .int .u64 0, .int .u64 0, .int .u64 0, .int .u64 0, .string ⟨#[]⟩]) (t := 28) ?hr ?_; (case hd => rfl); (case hg => rfl); (case hr => first | (go_simp; done) | (go_simp; rfl)); intro gm hg w2 hbox hb; have ng := amd (show gm ≠ gr from by rw [hg]; exact Nat.ne_of_gt (blk_lt rr1.out)); have em := amd (show w.heap.size ≤ gm from by rw [hg]; exact Below.size HB1.out); have rr2 := amd (blk_below rr1.out hb); have HB2 := amd (below_step HB1.out hb); have mm2 := amd hbox; clear HB1 rr1 cr1 fr1 x0; have cr2 := Mine.cells15 rr2.out; have fr2 := blk_frozen rr2.out; have cm2 := Mine.cells15 mm2.out; have fm2 := blk_frozen mm2.out; have n_gm_gr := ng.out; have n_gr_gm := Ne.symm ng.out; clear hbox hb hg))
  (repeat (go_step3; (try go_wp2)))
  refine bodyPost_ret (results_ct rfl _ _ gr 28 (M15 0 0 0 0 0 0 0 0 0 0 0 0 0 0 ⟨#[]⟩) (0, 0) _ rfl (dm_put15 _ _ _ _ _ _ _ _ _ _ _ _ _ _ _ (dm_far15 _ _ _ _ _ _ _ _ _ _ _ _ _ _ _ rr2.out (Ne.symm ng.out))) hu28 rfl (by kernel_rfl)) rfl ?_
  exact ⟨rfl, (dm_put15b _ _ _ _ _ _ _ _ _ _ _ _ _ _ _ (dm_put15b _ _ _ _ _ _ _ _ _ _ _ _ _ _ _ HB2.out em.out) er.out)⟩
set_option maxHeartbeats 8000000 in
set_option maxRecDepth 100000 in
theorem fairleadref17_Decode.s7 (k : Nat) (ad : Addr) (c0 : Nat) (l0 : List Int) (w : World) (hr0 : Kd.C (Kd.int .u8) w (some ad) l0.length l0) (hl : 0 < l0.length) (klo : decide ((wrap64 (rd l0 0)) < 1) = false) (khi : decide (7 < (wrap64 (rd l0 0))) = false) (kq1 : ((wrap64 (rd l0 0)) == 1) = false) (kq2 : ((wrap64 (rd l0 0)) == 2) = false) (kq4 : ((wrap64 (rd l0 0)) == 4) = false) (kq5 : ((wrap64 (rd l0 0)) == 5) = false) (kq7 : ((wrap64 (rd l0 0)) == 7) = true) (kg : decide (1 < (wrap64 (rd l0 0))) = true) (hs : decide ((l0.length : Int) < 19) = true) :
    Calls Try.prog 14 #[.slice (some ad) l0.length c0] w (fun e w' => e = .returned (.tuple #[.agg #[.int .i64 0, .int .u64 0, .int .u64 0, .int .i64 0, .int .i64 0, .int .u32 0, .int .u32 0, .int .u64 0, .int .u64 0, .int .u64 0, .int .u64 0, .int .u64 0, .int .u64 0, .int .u64 0, .string (⟨#[]⟩ : ByteArray)], .int .i64 2]) ∧ Below w.heap.size w w') := by
  have hu28 := Try.underlying28
  have hu26 := Try.underlying26
  have hfd := fun (cs_ : Array Value) (j_ : Nat) (w_ : World) => Mine.run_field (P := Try.prog) Try.underlying26 cs_ j_ w_
  have HR0 := amd hr0
  have HB := amd (Below.refl w.heap.size w)
  have qi0 : (0 < l0.length) = True := eq_true hl
  have qj0 : ((0 : Int) < (l0.length : Int)) = True := eq_true (by omega)
  have qe0 : ((l0.length : Int) == 0) = false := bfq (by omega)
  obtain ⟨ad0, e0_, x0_⟩ := Kd.at_int HR0.out 0 (by omega) (by omega)
  cases e0_
  (try rw [show ((0 : Int)).toNat = 0 from rfl] at x0_)
  (try rw [Addr.add_zero'] at x0_)
  clear hr0
  go_enter Try.func14, Try.ntmps14
  go_wp2_with (first | ((with_reducible refine gate_dst (N := 2) rfl ?_); refine box_event ?hg (N := 2) ?hd (cs := #[.int .i64 0, .int .u64 0, .int .u64 0, .int .i64 0, .int .i64 0, .int .u32 0, .int .u32 0, .int .u64 0, .int .u64 0, .int .u64 0, .int .u64 0, .int .u64 0, .int .u64 0, .int .u64 0, .string ⟨#[]⟩]) (t := 28) ?hr ?_; (case hd => rfl); (case hg => rfl); (case hr => first | (go_simp; done) | (go_simp; rfl)); intro gr hg w1 hbox hb; have er := amd (show w.heap.size ≤ gr from by rw [hg]; exact Below.size HB.out); have HB1 := amd (below_step HB.out hb); have rr1 := amd hbox; have cr1 := Mine.cells15 rr1.out; have fr1 := blk_frozen rr1.out; clear hbox hb hg; have x0 := (HB1.out.cell (World.block_lt_of_cell? w _ x0_)).trans x0_) | ((with_reducible refine gate_dst (N := 4) rfl ?_); refine box_event ?hg (N := 4) ?hd (cs := #[.int .i64 0, .int .u64 0, .int .u64 0, .int .i64 0, .int .i64 0, .int .u32 0, .int .u32 0, .int .u64 0, .int .u64 0, .int .u64 0, .int .u64 0, .int .u64 0, .int .u64 0, .int .u64 0, .string ⟨#[]⟩]) (t := 28) ?hr ?_; (case hd => rfl); (case hg => rfl); (case hr => first | (go_simp; done) | (go_simp; rfl)); intro gm hg w2 hbox hb; have ng := amd (show gm ≠ gr from by rw [hg]; exact Nat.ne_of_gt (blk_lt rr1.out)); have em := amd (show w.heap.size ≤ gm from by rw [hg]; exact Below.size HB1.out); have rr2 := amd (blk_below rr1.out hb); have HB2 := amd (below_step HB1.out hb); have mm2 := amd hbox; clear HB1 rr1 cr1 fr1 x0; have cr2 := Mine.cells15 rr2.out; have fr2 := blk_frozen rr2.out; have cm2 := Mine.cells15 mm2.out; have fm2 := blk_frozen mm2.out; have n_gm_gr := ng.out; have n_gr_gm := Ne.symm ng.out; clear hbox hb hg))
  (repeat (go_step3; (try go_wp2)))
  refine bodyPost_ret (results_ct rfl _ _ gr 28 (M15 0 0 0 0 0 0 0 0 0 0 0 0 0 0 ⟨#[]⟩) (0, 0) _ rfl (dm_put15 _ _ _ _ _ _ _ _ _ _ _ _ _ _ _ (dm_far15 _ _ _ _ _ _ _ _ _ _ _ _ _ _ _ rr2.out (Ne.symm ng.out))) hu28 rfl (by kernel_rfl)) rfl ?_
  exact ⟨rfl, (dm_put15b _ _ _ _ _ _ _ _ _ _ _ _ _ _ _ (dm_put15b _ _ _ _ _ _ _ _ _ _ _ _ _ _ _ HB2.out em.out) er.out)⟩
set_option maxHeartbeats 8000000 in
set_option maxRecDepth 100000 in
theorem fairleadref17_Decode.m1L (k : Nat) (ad : Addr) (c0 : Nat) (l0 : List Int) (w : World) (hr0 : Kd.C (Kd.int .u8) w (some ad) l0.length l0) (hl : 0 < l0.length) (klo : decide ((wrap64 (rd l0 0)) < 1) = false) (khi : decide (7 < (wrap64 (rd l0 0))) = false) (kq1 : ((wrap64 (rd l0 0)) == 1) = true) (kq2 : ((wrap64 (rd l0 0)) == 2) = false) (kq4 : ((wrap64 (rd l0 0)) == 4) = false) (kq5 : ((wrap64 (rd l0 0)) == 5) = false) (kq7 : ((wrap64 (rd l0 0)) == 7) = false) (kg : decide (1 < (wrap64 (rd l0 0))) = false) (hc0 : l0.length ≤ c0) (hs : decide ((l0.length : Int) < 9) = false) (p1 p2 : Int) (hp : fairleadref02_Take.f k (l0.drop 1) 8 = some (p1, p2)) (hL : decide (9 < (l0.length : Int)) = true) :
    Calls Try.prog 14 #[.slice (some ad) l0.length c0] w (fun e w' => e = .returned (.tuple #[.agg #[.int .i64 0, .int .u64 0, .int .u64 0, .int .i64 0, .int .i64 0, .int .u32 0, .int .u32 0, .int .u64 0, .int .u64 0, .int .u64 0, .int .u64 0, .int .u64 0, .int .u64 0, .int .u64 0, .string (⟨#[]⟩ : ByteArray)], .int .i64 3]) ∧ Below w.heap.size w w') := by
  have hu28 := Try.underlying28
  have hu26 := Try.underlying26
  have hfd := fun (cs_ : Array Value) (j_ : Nat) (w_ : World) => Mine.run_field (P := Try.prog) Try.underlying26 cs_ j_ w_
  have HR0 := amd hr0
  have HB := amd (Below.refl w.heap.size w)
  have qi0 : (0 < l0.length) = True := eq_true hl
  have qj0 : ((0 : Int) < (l0.length : Int)) = True := eq_true (by omega)
  have qe0 : ((l0.length : Int) == 0) = false := bfq (by omega)
  obtain ⟨ad0, e0_, x0_⟩ := Kd.at_int HR0.out 0 (by omega) (by omega)
  cases e0_
  (try rw [show ((0 : Int)).toNat = 0 from rfl] at x0_)
  (try rw [Addr.add_zero'] at x0_)
  clear hr0
  have HC0 := amd hc0
  have hln := amd (of_decide_eq_false hs)
  obtain ⟨i0_a, hi_a, _, hsz_a, _⟩ := info_parts info5
  obtain ⟨A_a, hcut_a, hA_a, hC_a⟩ := print_drop_of (P := Try.prog) (Value.int .u8) 0 30 5 .i64 Try.underlying30 hi_a hsz_a (some ad) c0 l0 1 (by omega) (by have := hln.out; omega) HC0.out
  have HR_a : Aside0 (Kd.C (Kd.int .u8) w A_a (l0.drop (1 : Int).toNat).length (l0.drop (1 : Int).toNat)) := amd (Kd.C_of_reads (h1 := fun _ => rfl) (hA_a _ (Kd.reads_of_C HR0.out)))
  have HC_a := amd hC_a
  (try simp only [show (1 : Int).toNat = 1 from rfl] at hcut_a HR_a HC_a)
  clear hA_a hC_a hi_a hsz_a
  generalize (l0.drop 1) = L_a at hcut_a HR_a HC_a hp
  have p := amd hp
  clear hp
  go_enter Try.func14, Try.ntmps14
  go_wp2_with (first | ((with_reducible refine gate_dst (N := 2) rfl ?_); refine box_event ?hg (N := 2) ?hd (cs := #[.int .i64 0, .int .u64 0, .int .u64 0, .int .i64 0, .int .i64 0, .int .u32 0, .int .u32 0, .int .u64 0, .int .u64 0, .int .u64 0, .int .u64 0, .int .u64 0, .int .u64 0, .int .u64 0, .string ⟨#[]⟩]) (t := 28) ?hr ?_; (case hd => rfl); (case hg => rfl); (case hr => first | (go_simp; done) | (go_simp; rfl)); intro gr hg w1 hbox hb; have er := amd (show w.heap.size ≤ gr from by rw [hg]; exact Below.size HB.out); have HB1 := amd (below_step HB.out hb); have rr1 := amd hbox; have cr1 := Mine.cells15 rr1.out; have fr1 := blk_frozen rr1.out; clear hbox hb hg; have x0 := (HB1.out.cell (World.block_lt_of_cell? w _ x0_)).trans x0_) | ((with_reducible refine gate_dst (N := 4) rfl ?_); refine box_event ?hg (N := 4) ?hd (cs := #[.int .i64 0, .int .u64 0, .int .u64 0, .int .i64 0, .int .i64 0, .int .u32 0, .int .u32 0, .int .u64 0, .int .u64 0, .int .u64 0, .int .u64 0, .int .u64 0, .int .u64 0, .int .u64 0, .string ⟨#[]⟩]) (t := 28) ?hr ?_; (case hd => rfl); (case hg => rfl); (case hr => first | (go_simp; done) | (go_simp; rfl)); intro gm hg w2 hbox hb; have ng := amd (show gm ≠ gr from by rw [hg]; exact Nat.ne_of_gt (blk_lt rr1.out)); have em := amd (show w.heap.size ≤ gm from by rw [hg]; exact Below.size HB1.out); have rr2 := amd (blk_below rr1.out hb); have HB2 := amd (below_step HB1.out hb); have mm2 := amd hbox; clear HB1 rr1 cr1 fr1 x0; have cr2 := Mine.cells15 rr2.out; have fr2 := blk_frozen rr2.out; have cm2 := Mine.cells15 mm2.out; have fm2 := blk_frozen mm2.out; have n_gm_gr := ng.out; have n_gr_gm := Ne.symm ng.out; clear hbox hb hg) | (go_at_call 29; (with_reducible refine (fairleadref02_Take.calls k _ _ L_a 8 p1 p2 _ (Kd.C_below HR_a.out (dm_put15b _ _ _ _ _ _ _ _ _ _ _ _ _ _ _ HB2.out em.out)) HC_a.out p.out).mono ?_); rintro e w3 ⟨rfl, nd_, hq_⟩; have rr3 := amd (dm_dr hq_ (dm_far15 _ _ _ _ _ _ _ _ _ _ _ _ _ _ _ rr2.out (Ne.symm ng.out))); have mm3 := amd (dm_dr hq_ (dm_put15 _ _ _ _ _ _ _ _ _ _ _ _ _ _ _ mm2.out)); have HB3 := amd (dm_drb hq_ (dm_put15b _ _ _ _ _ _ _ _ _ _ _ _ _ _ _ HB2.out em.out)); clear HB2 rr2 mm2 cr2 fr2 cm2 fm2; have cr3 := Mine.cells15 rr3.out; have fr3 := blk_frozen rr3.out; have cm3 := Mine.cells15 mm3.out; have fm3 := blk_frozen mm3.out; clear hq_ nd_))
  (repeat (go_step3; (try go_wp2)))
  refine bodyPost_ret (results_ct rfl _ _ gr 28 (M15 0 0 0 0 0 0 0 0 0 0 0 0 0 0 ⟨#[]⟩) (0, 0) _ rfl (dm_put15 _ _ _ _ _ _ _ _ _ _ _ _ _ _ _ (blk_far (p := ⟨gm, 1, none⟩) rr3.out (Ne.symm ng.out) (.int .u64 p1))) hu28 rfl (by kernel_rfl)) rfl ?_
  exact ⟨rfl, (dm_put15b _ _ _ _ _ _ _ _ _ _ _ _ _ _ _ (below_set (g := gm) (j := 1) (v := .int .u64 p1) HB3.out em.out) er.out)⟩
set_option maxHeartbeats 8000000 in
set_option maxRecDepth 100000 in
theorem fairleadref17_Decode.m1W (k : Nat) (ad : Addr) (c0 : Nat) (l0 : List Int) (w : World) (hr0 : Kd.C (Kd.int .u8) w (some ad) l0.length l0) (hl : 0 < l0.length) (klo : decide ((wrap64 (rd l0 0)) < 1) = false) (khi : decide (7 < (wrap64 (rd l0 0))) = false) (kq1 : ((wrap64 (rd l0 0)) == 1) = true) (kq2 : ((wrap64 (rd l0 0)) == 2) = false) (kq4 : ((wrap64 (rd l0 0)) == 4) = false) (kq5 : ((wrap64 (rd l0 0)) == 5) = false) (kq7 : ((wrap64 (rd l0 0)) == 7) = false) (kg : decide (1 < (wrap64 (rd l0 0))) = false) (hc0 : l0.length ≤ c0) (hs : decide ((l0.length : Int) < 9) = false) (p1 p2 : Int) (hp : fairleadref02_Take.f k (l0.drop 1) 8 = some (p1, p2)) (hL : decide (9 < (l0.length : Int)) = false) (hR : fairleadref17_Right.f k ((wrap64 (rd l0 0))) (p1) (0) (0) (0) (0) (0) (0) (0) (0) (0) (0) (0) (0) ((⟨#[]⟩ : ByteArray)) = some false) :
    Calls Try.prog 14 #[.slice (some ad) l0.length c0] w (fun e w' => e = .returned (.tuple #[.agg #[.int .i64 0, .int .u64 0, .int .u64 0, .int .i64 0, .int .i64 0, .int .u32 0, .int .u32 0, .int .u64 0, .int .u64 0, .int .u64 0, .int .u64 0, .int .u64 0, .int .u64 0, .int .u64 0, .string (⟨#[]⟩ : ByteArray)], .int .i64 1]) ∧ Below w.heap.size w w') := by
  have hu28 := Try.underlying28
  have hu26 := Try.underlying26
  have hfd := fun (cs_ : Array Value) (j_ : Nat) (w_ : World) => Mine.run_field (P := Try.prog) Try.underlying26 cs_ j_ w_
  have HR0 := amd hr0
  have HB := amd (Below.refl w.heap.size w)
  have qi0 : (0 < l0.length) = True := eq_true hl
  have qj0 : ((0 : Int) < (l0.length : Int)) = True := eq_true (by omega)
  have qe0 : ((l0.length : Int) == 0) = false := bfq (by omega)
  obtain ⟨ad0, e0_, x0_⟩ := Kd.at_int HR0.out 0 (by omega) (by omega)
  cases e0_
  (try rw [show ((0 : Int)).toNat = 0 from rfl] at x0_)
  (try rw [Addr.add_zero'] at x0_)
  clear hr0
  have HC0 := amd hc0
  have hln := amd (of_decide_eq_false hs)
  obtain ⟨i0_a, hi_a, _, hsz_a, _⟩ := info_parts info5
  obtain ⟨A_a, hcut_a, hA_a, hC_a⟩ := print_drop_of (P := Try.prog) (Value.int .u8) 0 30 5 .i64 Try.underlying30 hi_a hsz_a (some ad) c0 l0 1 (by omega) (by have := hln.out; omega) HC0.out
  have HR_a : Aside0 (Kd.C (Kd.int .u8) w A_a (l0.drop (1 : Int).toNat).length (l0.drop (1 : Int).toNat)) := amd (Kd.C_of_reads (h1 := fun _ => rfl) (hA_a _ (Kd.reads_of_C HR0.out)))
  have HC_a := amd hC_a
  (try simp only [show (1 : Int).toNat = 1 from rfl] at hcut_a HR_a HC_a)
  clear hA_a hC_a hi_a hsz_a
  generalize (l0.drop 1) = L_a at hcut_a HR_a HC_a hp
  have p := amd hp
  clear hp
  have HRt := amd hR
  go_enter Try.func14, Try.ntmps14
  go_wp2_with (first | ((with_reducible refine gate_dst (N := 2) rfl ?_); refine box_event ?hg (N := 2) ?hd (cs := #[.int .i64 0, .int .u64 0, .int .u64 0, .int .i64 0, .int .i64 0, .int .u32 0, .int .u32 0, .int .u64 0, .int .u64 0, .int .u64 0, .int .u64 0, .int .u64 0, .int .u64 0, .int .u64 0, .string ⟨#[]⟩]) (t := 28) ?hr ?_; (case hd => rfl); (case hg => rfl); (case hr => first | (go_simp; done) | (go_simp; rfl)); intro gr hg w1 hbox hb; have er := amd (show w.heap.size ≤ gr from by rw [hg]; exact Below.size HB.out); have HB1 := amd (below_step HB.out hb); have rr1 := amd hbox; have cr1 := Mine.cells15 rr1.out; have fr1 := blk_frozen rr1.out; clear hbox hb hg; have x0 := (HB1.out.cell (World.block_lt_of_cell? w _ x0_)).trans x0_) | ((with_reducible refine gate_dst (N := 4) rfl ?_); refine box_event ?hg (N := 4) ?hd (cs := #[.int .i64 0, .int .u64 0, .int .u64 0, .int .i64 0, .int .i64 0, .int .u32 0, .int .u32 0, .int .u64 0, .int .u64 0, .int .u64 0, .int .u64 0, .int .u64 0, .int .u64 0, .int .u64 0, .string ⟨#[]⟩]) (t := 28) ?hr ?_; (case hd => rfl); (case hg => rfl); (case hr => first | (go_simp; done) | (go_simp; rfl)); intro gm hg w2 hbox hb; have ng := amd (show gm ≠ gr from by rw [hg]; exact Nat.ne_of_gt (blk_lt rr1.out)); have em := amd (show w.heap.size ≤ gm from by rw [hg]; exact Below.size HB1.out); have rr2 := amd (blk_below rr1.out hb); have HB2 := amd (below_step HB1.out hb); have mm2 := amd hbox; clear HB1 rr1 cr1 fr1 x0; have cr2 := Mine.cells15 rr2.out; have fr2 := blk_frozen rr2.out; have cm2 := Mine.cells15 mm2.out; have fm2 := blk_frozen mm2.out; have n_gm_gr := ng.out; have n_gr_gm := Ne.symm ng.out; clear hbox hb hg) | (go_at_call 29; (with_reducible refine (fairleadref02_Take.calls k _ _ L_a 8 p1 p2 _ (Kd.C_below HR_a.out (dm_put15b _ _ _ _ _ _ _ _ _ _ _ _ _ _ _ HB2.out em.out)) HC_a.out p.out).mono ?_); rintro e w3 ⟨rfl, nd_, hq_⟩; have rr3 := amd (dm_dr hq_ (dm_far15 _ _ _ _ _ _ _ _ _ _ _ _ _ _ _ rr2.out (Ne.symm ng.out))); have mm3 := amd (dm_dr hq_ (dm_put15 _ _ _ _ _ _ _ _ _ _ _ _ _ _ _ mm2.out)); have HB3 := amd (dm_drb hq_ (dm_put15b _ _ _ _ _ _ _ _ _ _ _ _ _ _ _ HB2.out em.out)); clear HB2 rr2 mm2 cr2 fr2 cm2 fm2; have cr3 := Mine.cells15 rr3.out; have fr3 := blk_frozen rr3.out; have cm3 := Mine.cells15 mm3.out; have fm3 := blk_frozen mm3.out; clear hq_ nd_) | (go_at_call 12; (with_reducible refine (fairleadref17_Right.calls k ((wrap64 (rd l0 0))) (p1) (0) (0) (0) (0) (0) (0) (0) (0) (0) (0) (0) (0) ((⟨#[]⟩ : ByteArray)) false _ HRt.out).mono ?_); rintro e w4 ⟨rfl, hb⟩; have rr4 := amd (blk_below (blk_far (p := ⟨gm, 1, none⟩) rr3.out (Ne.symm ng.out) (.int .u64 p1)) hb); have mm4 := amd (blk_below (blk_put (cs' := M15 (wrap64 (rd l0 0)) p1 0 0 0 0 0 0 0 0 0 0 0 0 ⟨#[]⟩) mm3.out 1 (.int .u64 p1) rfl) hb); have HB4 := amd (below_step (below_set (g := gm) (j := 1) (v := .int .u64 p1) HB3.out em.out) hb); clear HB3 rr3 mm3 cr3 fr3 cm3 fm3; have cr4 := Mine.cells15 rr4.out; have fr4 := blk_frozen rr4.out; have cm4 := Mine.cells15 mm4.out; have fm4 := blk_frozen mm4.out; clear hb))
  (repeat (go_step3; (try go_wp2)))
  refine bodyPost_ret (results_ct rfl _ _ gr 28 (M15 0 0 0 0 0 0 0 0 0 0 0 0 0 0 ⟨#[]⟩) (0, 0) _ rfl (dm_put15 _ _ _ _ _ _ _ _ _ _ _ _ _ _ _ rr4.out) hu28 rfl (by kernel_rfl)) rfl ?_
  exact ⟨rfl, (dm_put15b _ _ _ _ _ _ _ _ _ _ _ _ _ _ _ HB4.out er.out)⟩
set_option maxHeartbeats 8000000 in
set_option maxRecDepth 100000 in
theorem fairleadref17_Decode.m1K (k : Nat) (ad : Addr) (c0 : Nat) (l0 : List Int) (w : World) (hr0 : Kd.C (Kd.int .u8) w (some ad) l0.length l0) (hl : 0 < l0.length) (klo : decide ((wrap64 (rd l0 0)) < 1) = false) (khi : decide (7 < (wrap64 (rd l0 0))) = false) (kq1 : ((wrap64 (rd l0 0)) == 1) = true) (kq2 : ((wrap64 (rd l0 0)) == 2) = false) (kq4 : ((wrap64 (rd l0 0)) == 4) = false) (kq5 : ((wrap64 (rd l0 0)) == 5) = false) (kq7 : ((wrap64 (rd l0 0)) == 7) = false) (kg : decide (1 < (wrap64 (rd l0 0))) = false) (hc0 : l0.length ≤ c0) (hs : decide ((l0.length : Int) < 9) = false) (p1 p2 : Int) (hp : fairleadref02_Take.f k (l0.drop 1) 8 = some (p1, p2)) (hL : decide (9 < (l0.length : Int)) = false) (hR : fairleadref17_Right.f k ((wrap64 (rd l0 0))) (p1) (0) (0) (0) (0) (0) (0) (0) (0) (0) (0) (0) (0) ((⟨#[]⟩ : ByteArray)) = some true) :
    Calls Try.prog 14 #[.slice (some ad) l0.length c0] w (fun e w' => e = .returned (.tuple #[.agg #[.int .i64 (wrap64 (rd l0 0)), .int .u64 p1, .int .u64 0, .int .i64 0, .int .i64 0, .int .u32 0, .int .u32 0, .int .u64 0, .int .u64 0, .int .u64 0, .int .u64 0, .int .u64 0, .int .u64 0, .int .u64 0, .string (⟨#[]⟩ : ByteArray)], .int .i64 0]) ∧ Below w.heap.size w w') := by
  have hu28 := Try.underlying28
  have hu26 := Try.underlying26
  have hfd := fun (cs_ : Array Value) (j_ : Nat) (w_ : World) => Mine.run_field (P := Try.prog) Try.underlying26 cs_ j_ w_
  have HR0 := amd hr0
  have HB := amd (Below.refl w.heap.size w)
  have qi0 : (0 < l0.length) = True := eq_true hl
  have qj0 : ((0 : Int) < (l0.length : Int)) = True := eq_true (by omega)
  have qe0 : ((l0.length : Int) == 0) = false := bfq (by omega)
  obtain ⟨ad0, e0_, x0_⟩ := Kd.at_int HR0.out 0 (by omega) (by omega)
  cases e0_
  (try rw [show ((0 : Int)).toNat = 0 from rfl] at x0_)
  (try rw [Addr.add_zero'] at x0_)
  clear hr0
  have HC0 := amd hc0
  have hln := amd (of_decide_eq_false hs)
  obtain ⟨i0_a, hi_a, _, hsz_a, _⟩ := info_parts info5
  obtain ⟨A_a, hcut_a, hA_a, hC_a⟩ := print_drop_of (P := Try.prog) (Value.int .u8) 0 30 5 .i64 Try.underlying30 hi_a hsz_a (some ad) c0 l0 1 (by omega) (by have := hln.out; omega) HC0.out
  have HR_a : Aside0 (Kd.C (Kd.int .u8) w A_a (l0.drop (1 : Int).toNat).length (l0.drop (1 : Int).toNat)) := amd (Kd.C_of_reads (h1 := fun _ => rfl) (hA_a _ (Kd.reads_of_C HR0.out)))
  have HC_a := amd hC_a
  (try simp only [show (1 : Int).toNat = 1 from rfl] at hcut_a HR_a HC_a)
  clear hA_a hC_a hi_a hsz_a
  generalize (l0.drop 1) = L_a at hcut_a HR_a HC_a hp
  have p := amd hp
  clear hp
  have HRt := amd hR
  go_enter Try.func14, Try.ntmps14
  go_wp2_with (first | ((with_reducible refine gate_dst (N := 2) rfl ?_); refine box_event ?hg (N := 2) ?hd (cs := #[.int .i64 0, .int .u64 0, .int .u64 0, .int .i64 0, .int .i64 0, .int .u32 0, .int .u32 0, .int .u64 0, .int .u64 0, .int .u64 0, .int .u64 0, .int .u64 0, .int .u64 0, .int .u64 0, .string ⟨#[]⟩]) (t := 28) ?hr ?_; (case hd => rfl); (case hg => rfl); (case hr => first | (go_simp; done) | (go_simp; rfl)); intro gr hg w1 hbox hb; have er := amd (show w.heap.size ≤ gr from by rw [hg]; exact Below.size HB.out); have HB1 := amd (below_step HB.out hb); have rr1 := amd hbox; have cr1 := Mine.cells15 rr1.out; have fr1 := blk_frozen rr1.out; clear hbox hb hg; have x0 := (HB1.out.cell (World.block_lt_of_cell? w _ x0_)).trans x0_) | ((with_reducible refine gate_dst (N := 4) rfl ?_); refine box_event ?hg (N := 4) ?hd (cs := #[.int .i64 0, .int .u64 0, .int .u64 0, .int .i64 0, .int .i64 0, .int .u32 0, .int .u32 0, .int .u64 0, .int .u64 0, .int .u64 0, .int .u64 0, .int .u64 0, .int .u64 0, .int .u64 0, .string ⟨#[]⟩]) (t := 28) ?hr ?_; (case hd => rfl); (case hg => rfl); (case hr => first | (go_simp; done) | (go_simp; rfl)); intro gm hg w2 hbox hb; have ng := amd (show gm ≠ gr from by rw [hg]; exact Nat.ne_of_gt (blk_lt rr1.out)); have em := amd (show w.heap.size ≤ gm from by rw [hg]; exact Below.size HB1.out); have rr2 := amd (blk_below rr1.out hb); have HB2 := amd (below_step HB1.out hb); have mm2 := amd hbox; clear HB1 rr1 cr1 fr1 x0; have cr2 := Mine.cells15 rr2.out; have fr2 := blk_frozen rr2.out; have cm2 := Mine.cells15 mm2.out; have fm2 := blk_frozen mm2.out; have n_gm_gr := ng.out; have n_gr_gm := Ne.symm ng.out; clear hbox hb hg) | (go_at_call 29; (with_reducible refine (fairleadref02_Take.calls k _ _ L_a 8 p1 p2 _ (Kd.C_below HR_a.out (dm_put15b _ _ _ _ _ _ _ _ _ _ _ _ _ _ _ HB2.out em.out)) HC_a.out p.out).mono ?_); rintro e w3 ⟨rfl, nd_, hq_⟩; have rr3 := amd (dm_dr hq_ (dm_far15 _ _ _ _ _ _ _ _ _ _ _ _ _ _ _ rr2.out (Ne.symm ng.out))); have mm3 := amd (dm_dr hq_ (dm_put15 _ _ _ _ _ _ _ _ _ _ _ _ _ _ _ mm2.out)); have HB3 := amd (dm_drb hq_ (dm_put15b _ _ _ _ _ _ _ _ _ _ _ _ _ _ _ HB2.out em.out)); clear HB2 rr2 mm2 cr2 fr2 cm2 fm2; have cr3 := Mine.cells15 rr3.out; have fr3 := blk_frozen rr3.out; have cm3 := Mine.cells15 mm3.out; have fm3 := blk_frozen mm3.out; clear hq_ nd_) | (go_at_call 12; (with_reducible refine (fairleadref17_Right.calls k ((wrap64 (rd l0 0))) (p1) (0) (0) (0) (0) (0) (0) (0) (0) (0) (0) (0) (0) ((⟨#[]⟩ : ByteArray)) true _ HRt.out).mono ?_); rintro e w4 ⟨rfl, hb⟩; have rr4 := amd (blk_below (blk_far (p := ⟨gm, 1, none⟩) rr3.out (Ne.symm ng.out) (.int .u64 p1)) hb); have mm4 := amd (blk_below (blk_put (cs' := M15 (wrap64 (rd l0 0)) p1 0 0 0 0 0 0 0 0 0 0 0 0 ⟨#[]⟩) mm3.out 1 (.int .u64 p1) rfl) hb); have HB4 := amd (below_step (below_set (g := gm) (j := 1) (v := .int .u64 p1) HB3.out em.out) hb); clear HB3 rr3 mm3 cr3 fr3 cm3 fm3; have cr4 := Mine.cells15 rr4.out; have fr4 := blk_frozen rr4.out; have cm4 := Mine.cells15 mm4.out; have fm4 := blk_frozen mm4.out; clear hb))
  (repeat (go_step3; (try go_wp2)))
  refine bodyPost_ret (results_ct rfl _ _ gr 28 (M15 (wrap64 (rd l0 0)) p1 0 0 0 0 0 0 0 0 0 0 0 0 ⟨#[]⟩) (0, 0) _ rfl (dm_put15 _ _ _ _ _ _ _ _ _ _ _ _ _ _ _ rr4.out) hu28 rfl (by kernel_rfl)) rfl ?_
  exact ⟨rfl, (dm_put15b _ _ _ _ _ _ _ _ _ _ _ _ _ _ _ HB4.out er.out)⟩
set_option maxHeartbeats 8000000 in
set_option maxRecDepth 100000 in
theorem fairleadref17_Decode.m3L (k : Nat) (ad : Addr) (c0 : Nat) (l0 : List Int) (w : World) (hr0 : Kd.C (Kd.int .u8) w (some ad) l0.length l0) (hl : 0 < l0.length) (klo : decide ((wrap64 (rd l0 0)) < 1) = false) (khi : decide (7 < (wrap64 (rd l0 0))) = false) (kq1 : ((wrap64 (rd l0 0)) == 1) = false) (kq2 : ((wrap64 (rd l0 0)) == 2) = false) (kq4 : ((wrap64 (rd l0 0)) == 4) = false) (kq5 : ((wrap64 (rd l0 0)) == 5) = false) (kq7 : ((wrap64 (rd l0 0)) == 7) = false) (kg : decide (1 < (wrap64 (rd l0 0))) = true) (hc0 : l0.length ≤ c0) (hs : decide ((l0.length : Int) < 17) = false) (p1 p2 : Int) (hp : fairleadref02_Take.f k (l0.drop 1) 8 = some (p1, p2)) (i1 i2 : Int) (hi : fairleadref02_Take.f k (l0.drop 9) 8 = some (i1, i2)) (hL : decide (17 < (l0.length : Int)) = true) :
    Calls Try.prog 14 #[.slice (some ad) l0.length c0] w (fun e w' => e = .returned (.tuple #[.agg #[.int .i64 0, .int .u64 0, .int .u64 0, .int .i64 0, .int .i64 0, .int .u32 0, .int .u32 0, .int .u64 0, .int .u64 0, .int .u64 0, .int .u64 0, .int .u64 0, .int .u64 0, .int .u64 0, .string (⟨#[]⟩ : ByteArray)], .int .i64 3]) ∧ Below w.heap.size w w') := by
  have hu28 := Try.underlying28
  have hu26 := Try.underlying26
  have hfd := fun (cs_ : Array Value) (j_ : Nat) (w_ : World) => Mine.run_field (P := Try.prog) Try.underlying26 cs_ j_ w_
  have HR0 := amd hr0
  have HB := amd (Below.refl w.heap.size w)
  have qi0 : (0 < l0.length) = True := eq_true hl
  have qj0 : ((0 : Int) < (l0.length : Int)) = True := eq_true (by omega)
  have qe0 : ((l0.length : Int) == 0) = false := bfq (by omega)
  obtain ⟨ad0, e0_, x0_⟩ := Kd.at_int HR0.out 0 (by omega) (by omega)
  cases e0_
  (try rw [show ((0 : Int)).toNat = 0 from rfl] at x0_)
  (try rw [Addr.add_zero'] at x0_)
  clear hr0
  have HC0 := amd hc0
  have hln := amd (of_decide_eq_false hs)
  obtain ⟨i0_a, hi_a, _, hsz_a, _⟩ := info_parts info5
  obtain ⟨A_a, hcut_a, hA_a, hC_a⟩ := print_drop_of (P := Try.prog) (Value.int .u8) 0 30 5 .i64 Try.underlying30 hi_a hsz_a (some ad) c0 l0 1 (by omega) (by have := hln.out; omega) HC0.out
  have HR_a : Aside0 (Kd.C (Kd.int .u8) w A_a (l0.drop (1 : Int).toNat).length (l0.drop (1 : Int).toNat)) := amd (Kd.C_of_reads (h1 := fun _ => rfl) (hA_a _ (Kd.reads_of_C HR0.out)))
  have HC_a := amd hC_a
  (try simp only [show (1 : Int).toNat = 1 from rfl] at hcut_a HR_a HC_a)
  clear hA_a hC_a hi_a hsz_a
  generalize (l0.drop 1) = L_a at hcut_a HR_a HC_a hp
  have p := amd hp
  clear hp
  obtain ⟨i0_b, hi_b, _, hsz_b, _⟩ := info_parts info5
  obtain ⟨A_b, hcut_b, hA_b, hC_b⟩ := print_drop_of (P := Try.prog) (Value.int .u8) 0 30 5 .i64 Try.underlying30 hi_b hsz_b (some ad) c0 l0 9 (by omega) (by have := hln.out; omega) HC0.out
  have HR_b : Aside0 (Kd.C (Kd.int .u8) w A_b (l0.drop (9 : Int).toNat).length (l0.drop (9 : Int).toNat)) := amd (Kd.C_of_reads (h1 := fun _ => rfl) (hA_b _ (Kd.reads_of_C HR0.out)))
  have HC_b := amd hC_b
  (try simp only [show (9 : Int).toNat = 9 from rfl] at hcut_b HR_b HC_b)
  clear hA_b hC_b hi_b hsz_b
  generalize (l0.drop 9) = L_b at hcut_b HR_b HC_b hi
  have i := amd hi
  clear hi
  go_enter Try.func14, Try.ntmps14
  go_wp2_with (first | ((with_reducible refine gate_dst (N := 2) rfl ?_); refine box_event ?hg (N := 2) ?hd (cs := #[.int .i64 0, .int .u64 0, .int .u64 0, .int .i64 0, .int .i64 0, .int .u32 0, .int .u32 0, .int .u64 0, .int .u64 0, .int .u64 0, .int .u64 0, .int .u64 0, .int .u64 0, .int .u64 0, .string ⟨#[]⟩]) (t := 28) ?hr ?_; (case hd => rfl); (case hg => rfl); (case hr => first | (go_simp; done) | (go_simp; rfl)); intro gr hg w1 hbox hb; have er := amd (show w.heap.size ≤ gr from by rw [hg]; exact Below.size HB.out); have HB1 := amd (below_step HB.out hb); have rr1 := amd hbox; have cr1 := Mine.cells15 rr1.out; have fr1 := blk_frozen rr1.out; clear hbox hb hg; have x0 := (HB1.out.cell (World.block_lt_of_cell? w _ x0_)).trans x0_) | ((with_reducible refine gate_dst (N := 4) rfl ?_); refine box_event ?hg (N := 4) ?hd (cs := #[.int .i64 0, .int .u64 0, .int .u64 0, .int .i64 0, .int .i64 0, .int .u32 0, .int .u32 0, .int .u64 0, .int .u64 0, .int .u64 0, .int .u64 0, .int .u64 0, .int .u64 0, .int .u64 0, .string ⟨#[]⟩]) (t := 28) ?hr ?_; (case hd => rfl); (case hg => rfl); (case hr => first | (go_simp; done) | (go_simp; rfl)); intro gm hg w2 hbox hb; have ng := amd (show gm ≠ gr from by rw [hg]; exact Nat.ne_of_gt (blk_lt rr1.out)); have em := amd (show w.heap.size ≤ gm from by rw [hg]; exact Below.size HB1.out); have rr2 := amd (blk_below rr1.out hb); have HB2 := amd (below_step HB1.out hb); have mm2 := amd hbox; clear HB1 rr1 cr1 fr1 x0; have cr2 := Mine.cells15 rr2.out; have fr2 := blk_frozen rr2.out; have cm2 := Mine.cells15 mm2.out; have fm2 := blk_frozen mm2.out; have n_gm_gr := ng.out; have n_gr_gm := Ne.symm ng.out; clear hbox hb hg) | (go_at_call 29; (with_reducible refine (fairleadref02_Take.calls k _ _ L_a 8 p1 p2 _ (Kd.C_below HR_a.out (dm_put15b _ _ _ _ _ _ _ _ _ _ _ _ _ _ _ HB2.out em.out)) HC_a.out p.out).mono ?_); rintro e w3 ⟨rfl, nd_, hq_⟩; have rr3 := amd (dm_dr hq_ (dm_far15 _ _ _ _ _ _ _ _ _ _ _ _ _ _ _ rr2.out (Ne.symm ng.out))); have mm3 := amd (dm_dr hq_ (dm_put15 _ _ _ _ _ _ _ _ _ _ _ _ _ _ _ mm2.out)); have HB3 := amd (dm_drb hq_ (dm_put15b _ _ _ _ _ _ _ _ _ _ _ _ _ _ _ HB2.out em.out)); clear HB2 rr2 mm2 cr2 fr2 cm2 fm2; have cr3 := Mine.cells15 rr3.out; have fr3 := blk_frozen rr3.out; have cm3 := Mine.cells15 mm3.out; have fm3 := blk_frozen mm3.out; clear hq_ nd_) | (go_at_call 29; (with_reducible refine (fairleadref02_Take.calls k _ _ L_b 8 i1 i2 _ (Kd.C_below HR_b.out (below_set (g := gm) (j := 1) (v := .int .u64 p1) HB3.out em.out)) HC_b.out i.out).mono ?_); rintro e w4 ⟨rfl, nd_, hq_⟩; have rr4 := amd (dm_dr hq_ (blk_far (p := ⟨gm, 1, none⟩) rr3.out (Ne.symm ng.out) (.int .u64 p1))); have mm4 := amd (dm_dr hq_ (blk_put (cs' := M15 (wrap64 (rd l0 0)) p1 0 0 0 0 0 0 0 0 0 0 0 0 ⟨#[]⟩) mm3.out 1 (.int .u64 p1) rfl)); have HB4 := amd (dm_drb hq_ (below_set (g := gm) (j := 1) (v := .int .u64 p1) HB3.out em.out)); clear HB3 rr3 mm3 cr3 fr3 cm3 fm3; have cr4 := Mine.cells15 rr4.out; have fr4 := blk_frozen rr4.out; have cm4 := Mine.cells15 mm4.out; have fm4 := blk_frozen mm4.out; clear hq_ nd_))
  (repeat (go_step3; (try go_wp2)))
  refine bodyPost_ret (results_ct rfl _ _ gr 28 (M15 0 0 0 0 0 0 0 0 0 0 0 0 0 0 ⟨#[]⟩) (0, 0) _ rfl (dm_put15 _ _ _ _ _ _ _ _ _ _ _ _ _ _ _ (blk_far (p := ⟨gm, 2, none⟩) rr4.out (Ne.symm ng.out) (.int .u64 i1))) hu28 rfl (by kernel_rfl)) rfl ?_
  exact ⟨rfl, (dm_put15b _ _ _ _ _ _ _ _ _ _ _ _ _ _ _ (below_set (g := gm) (j := 2) (v := .int .u64 i1) HB4.out em.out) er.out)⟩
set_option maxHeartbeats 8000000 in
set_option maxRecDepth 100000 in
theorem fairleadref17_Decode.m3W (k : Nat) (ad : Addr) (c0 : Nat) (l0 : List Int) (w : World) (hr0 : Kd.C (Kd.int .u8) w (some ad) l0.length l0) (hl : 0 < l0.length) (klo : decide ((wrap64 (rd l0 0)) < 1) = false) (khi : decide (7 < (wrap64 (rd l0 0))) = false) (kq1 : ((wrap64 (rd l0 0)) == 1) = false) (kq2 : ((wrap64 (rd l0 0)) == 2) = false) (kq4 : ((wrap64 (rd l0 0)) == 4) = false) (kq5 : ((wrap64 (rd l0 0)) == 5) = false) (kq7 : ((wrap64 (rd l0 0)) == 7) = false) (kg : decide (1 < (wrap64 (rd l0 0))) = true) (hc0 : l0.length ≤ c0) (hs : decide ((l0.length : Int) < 17) = false) (p1 p2 : Int) (hp : fairleadref02_Take.f k (l0.drop 1) 8 = some (p1, p2)) (i1 i2 : Int) (hi : fairleadref02_Take.f k (l0.drop 9) 8 = some (i1, i2)) (hL : decide (17 < (l0.length : Int)) = false) (hR : fairleadref17_Right.f k ((wrap64 (rd l0 0))) (p1) (i1) (0) (0) (0) (0) (0) (0) (0) (0) (0) (0) (0) ((⟨#[]⟩ : ByteArray)) = some false) :
    Calls Try.prog 14 #[.slice (some ad) l0.length c0] w (fun e w' => e = .returned (.tuple #[.agg #[.int .i64 0, .int .u64 0, .int .u64 0, .int .i64 0, .int .i64 0, .int .u32 0, .int .u32 0, .int .u64 0, .int .u64 0, .int .u64 0, .int .u64 0, .int .u64 0, .int .u64 0, .int .u64 0, .string (⟨#[]⟩ : ByteArray)], .int .i64 1]) ∧ Below w.heap.size w w') := by
  have hu28 := Try.underlying28
  have hu26 := Try.underlying26
  have hfd := fun (cs_ : Array Value) (j_ : Nat) (w_ : World) => Mine.run_field (P := Try.prog) Try.underlying26 cs_ j_ w_
  have HR0 := amd hr0
  have HB := amd (Below.refl w.heap.size w)
  have qi0 : (0 < l0.length) = True := eq_true hl
  have qj0 : ((0 : Int) < (l0.length : Int)) = True := eq_true (by omega)
  have qe0 : ((l0.length : Int) == 0) = false := bfq (by omega)
  obtain ⟨ad0, e0_, x0_⟩ := Kd.at_int HR0.out 0 (by omega) (by omega)
  cases e0_
  (try rw [show ((0 : Int)).toNat = 0 from rfl] at x0_)
  (try rw [Addr.add_zero'] at x0_)
  clear hr0
  have HC0 := amd hc0
  have hln := amd (of_decide_eq_false hs)
  obtain ⟨i0_a, hi_a, _, hsz_a, _⟩ := info_parts info5
  obtain ⟨A_a, hcut_a, hA_a, hC_a⟩ := print_drop_of (P := Try.prog) (Value.int .u8) 0 30 5 .i64 Try.underlying30 hi_a hsz_a (some ad) c0 l0 1 (by omega) (by have := hln.out; omega) HC0.out
  have HR_a : Aside0 (Kd.C (Kd.int .u8) w A_a (l0.drop (1 : Int).toNat).length (l0.drop (1 : Int).toNat)) := amd (Kd.C_of_reads (h1 := fun _ => rfl) (hA_a _ (Kd.reads_of_C HR0.out)))
  have HC_a := amd hC_a
  (try simp only [show (1 : Int).toNat = 1 from rfl] at hcut_a HR_a HC_a)
  clear hA_a hC_a hi_a hsz_a
  generalize (l0.drop 1) = L_a at hcut_a HR_a HC_a hp
  have p := amd hp
  clear hp
  obtain ⟨i0_b, hi_b, _, hsz_b, _⟩ := info_parts info5
  obtain ⟨A_b, hcut_b, hA_b, hC_b⟩ := print_drop_of (P := Try.prog) (Value.int .u8) 0 30 5 .i64 Try.underlying30 hi_b hsz_b (some ad) c0 l0 9 (by omega) (by have := hln.out; omega) HC0.out
  have HR_b : Aside0 (Kd.C (Kd.int .u8) w A_b (l0.drop (9 : Int).toNat).length (l0.drop (9 : Int).toNat)) := amd (Kd.C_of_reads (h1 := fun _ => rfl) (hA_b _ (Kd.reads_of_C HR0.out)))
  have HC_b := amd hC_b
  (try simp only [show (9 : Int).toNat = 9 from rfl] at hcut_b HR_b HC_b)
  clear hA_b hC_b hi_b hsz_b
  generalize (l0.drop 9) = L_b at hcut_b HR_b HC_b hi
  have i := amd hi
  clear hi
  have HRt := amd hR
  go_enter Try.func14, Try.ntmps14
  go_wp2_with (first | ((with_reducible refine gate_dst (N := 2) rfl ?_); refine box_event ?hg (N := 2) ?hd (cs := #[.int .i64 0, .int .u64 0, .int .u64 0, .int .i64 0, .int .i64 0, .int .u32 0, .int .u32 0, .int .u64 0, .int .u64 0, .int .u64 0, .int .u64 0, .int .u64 0, .int .u64 0, .int .u64 0, .string ⟨#[]⟩]) (t := 28) ?hr ?_; (case hd => rfl); (case hg => rfl); (case hr => first | (go_simp; done) | (go_simp; rfl)); intro gr hg w1 hbox hb; have er := amd (show w.heap.size ≤ gr from by rw [hg]; exact Below.size HB.out); have HB1 := amd (below_step HB.out hb); have rr1 := amd hbox; have cr1 := Mine.cells15 rr1.out; have fr1 := blk_frozen rr1.out; clear hbox hb hg; have x0 := (HB1.out.cell (World.block_lt_of_cell? w _ x0_)).trans x0_) | ((with_reducible refine gate_dst (N := 4) rfl ?_); refine box_event ?hg (N := 4) ?hd (cs := #[.int .i64 0, .int .u64 0, .int .u64 0, .int .i64 0, .int .i64 0, .int .u32 0, .int .u32 0, .int .u64 0, .int .u64 0, .int .u64 0, .int .u64 0, .int .u64 0, .int .u64 0, .int .u64 0, .string ⟨#[]⟩]) (t := 28) ?hr ?_; (case hd => rfl); (case hg => rfl); (case hr => first | (go_simp; done) | (go_simp; rfl)); intro gm hg w2 hbox hb; have ng := amd (show gm ≠ gr from by rw [hg]; exact Nat.ne_of_gt (blk_lt rr1.out)); have em := amd (show w.heap.size ≤ gm from by rw [hg]; exact Below.size HB1.out); have rr2 := amd (blk_below rr1.out hb); have HB2 := amd (below_step HB1.out hb); have mm2 := amd hbox; clear HB1 rr1 cr1 fr1 x0; have cr2 := Mine.cells15 rr2.out; have fr2 := blk_frozen rr2.out; have cm2 := Mine.cells15 mm2.out; have fm2 := blk_frozen mm2.out; have n_gm_gr := ng.out; have n_gr_gm := Ne.symm ng.out; clear hbox hb hg) | (go_at_call 29; (with_reducible refine (fairleadref02_Take.calls k _ _ L_a 8 p1 p2 _ (Kd.C_below HR_a.out (dm_put15b _ _ _ _ _ _ _ _ _ _ _ _ _ _ _ HB2.out em.out)) HC_a.out p.out).mono ?_); rintro e w3 ⟨rfl, nd_, hq_⟩; have rr3 := amd (dm_dr hq_ (dm_far15 _ _ _ _ _ _ _ _ _ _ _ _ _ _ _ rr2.out (Ne.symm ng.out))); have mm3 := amd (dm_dr hq_ (dm_put15 _ _ _ _ _ _ _ _ _ _ _ _ _ _ _ mm2.out)); have HB3 := amd (dm_drb hq_ (dm_put15b _ _ _ _ _ _ _ _ _ _ _ _ _ _ _ HB2.out em.out)); clear HB2 rr2 mm2 cr2 fr2 cm2 fm2; have cr3 := Mine.cells15 rr3.out; have fr3 := blk_frozen rr3.out; have cm3 := Mine.cells15 mm3.out; have fm3 := blk_frozen mm3.out; clear hq_ nd_) | (go_at_call 29; (with_reducible refine (fairleadref02_Take.calls k _ _ L_b 8 i1 i2 _ (Kd.C_below HR_b.out (below_set (g := gm) (j := 1) (v := .int .u64 p1) HB3.out em.out)) HC_b.out i.out).mono ?_); rintro e w4 ⟨rfl, nd_, hq_⟩; have rr4 := amd (dm_dr hq_ (blk_far (p := ⟨gm, 1, none⟩) rr3.out (Ne.symm ng.out) (.int .u64 p1))); have mm4 := amd (dm_dr hq_ (blk_put (cs' := M15 (wrap64 (rd l0 0)) p1 0 0 0 0 0 0 0 0 0 0 0 0 ⟨#[]⟩) mm3.out 1 (.int .u64 p1) rfl)); have HB4 := amd (dm_drb hq_ (below_set (g := gm) (j := 1) (v := .int .u64 p1) HB3.out em.out)); clear HB3 rr3 mm3 cr3 fr3 cm3 fm3; have cr4 := Mine.cells15 rr4.out; have fr4 := blk_frozen rr4.out; have cm4 := Mine.cells15 mm4.out; have fm4 := blk_frozen mm4.out; clear hq_ nd_) | (go_at_call 12; (with_reducible refine (fairleadref17_Right.calls k ((wrap64 (rd l0 0))) (p1) (i1) (0) (0) (0) (0) (0) (0) (0) (0) (0) (0) (0) ((⟨#[]⟩ : ByteArray)) false _ HRt.out).mono ?_); rintro e w5 ⟨rfl, hb⟩; have rr5 := amd (blk_below (blk_far (p := ⟨gm, 2, none⟩) rr4.out (Ne.symm ng.out) (.int .u64 i1)) hb); have mm5 := amd (blk_below (blk_put (cs' := M15 (wrap64 (rd l0 0)) p1 i1 0 0 0 0 0 0 0 0 0 0 0 ⟨#[]⟩) mm4.out 2 (.int .u64 i1) rfl) hb); have HB5 := amd (below_step (below_set (g := gm) (j := 2) (v := .int .u64 i1) HB4.out em.out) hb); clear HB4 rr4 mm4 cr4 fr4 cm4 fm4; have cr5 := Mine.cells15 rr5.out; have fr5 := blk_frozen rr5.out; have cm5 := Mine.cells15 mm5.out; have fm5 := blk_frozen mm5.out; clear hb))
  (repeat (go_step3; (try go_wp2)))
  refine bodyPost_ret (results_ct rfl _ _ gr 28 (M15 0 0 0 0 0 0 0 0 0 0 0 0 0 0 ⟨#[]⟩) (0, 0) _ rfl (dm_put15 _ _ _ _ _ _ _ _ _ _ _ _ _ _ _ rr5.out) hu28 rfl (by kernel_rfl)) rfl ?_
  exact ⟨rfl, (dm_put15b _ _ _ _ _ _ _ _ _ _ _ _ _ _ _ HB5.out er.out)⟩
set_option maxHeartbeats 8000000 in
set_option maxRecDepth 100000 in
theorem fairleadref17_Decode.m3K (k : Nat) (ad : Addr) (c0 : Nat) (l0 : List Int) (w : World) (hr0 : Kd.C (Kd.int .u8) w (some ad) l0.length l0) (hl : 0 < l0.length) (klo : decide ((wrap64 (rd l0 0)) < 1) = false) (khi : decide (7 < (wrap64 (rd l0 0))) = false) (kq1 : ((wrap64 (rd l0 0)) == 1) = false) (kq2 : ((wrap64 (rd l0 0)) == 2) = false) (kq4 : ((wrap64 (rd l0 0)) == 4) = false) (kq5 : ((wrap64 (rd l0 0)) == 5) = false) (kq7 : ((wrap64 (rd l0 0)) == 7) = false) (kg : decide (1 < (wrap64 (rd l0 0))) = true) (hc0 : l0.length ≤ c0) (hs : decide ((l0.length : Int) < 17) = false) (p1 p2 : Int) (hp : fairleadref02_Take.f k (l0.drop 1) 8 = some (p1, p2)) (i1 i2 : Int) (hi : fairleadref02_Take.f k (l0.drop 9) 8 = some (i1, i2)) (hL : decide (17 < (l0.length : Int)) = false) (hR : fairleadref17_Right.f k ((wrap64 (rd l0 0))) (p1) (i1) (0) (0) (0) (0) (0) (0) (0) (0) (0) (0) (0) ((⟨#[]⟩ : ByteArray)) = some true) :
    Calls Try.prog 14 #[.slice (some ad) l0.length c0] w (fun e w' => e = .returned (.tuple #[.agg #[.int .i64 (wrap64 (rd l0 0)), .int .u64 p1, .int .u64 i1, .int .i64 0, .int .i64 0, .int .u32 0, .int .u32 0, .int .u64 0, .int .u64 0, .int .u64 0, .int .u64 0, .int .u64 0, .int .u64 0, .int .u64 0, .string (⟨#[]⟩ : ByteArray)], .int .i64 0]) ∧ Below w.heap.size w w') := by
  have hu28 := Try.underlying28
  have hu26 := Try.underlying26
  have hfd := fun (cs_ : Array Value) (j_ : Nat) (w_ : World) => Mine.run_field (P := Try.prog) Try.underlying26 cs_ j_ w_
  have HR0 := amd hr0
  have HB := amd (Below.refl w.heap.size w)
  have qi0 : (0 < l0.length) = True := eq_true hl
  have qj0 : ((0 : Int) < (l0.length : Int)) = True := eq_true (by omega)
  have qe0 : ((l0.length : Int) == 0) = false := bfq (by omega)
  obtain ⟨ad0, e0_, x0_⟩ := Kd.at_int HR0.out 0 (by omega) (by omega)
  cases e0_
  (try rw [show ((0 : Int)).toNat = 0 from rfl] at x0_)
  (try rw [Addr.add_zero'] at x0_)
  clear hr0
  have HC0 := amd hc0
  have hln := amd (of_decide_eq_false hs)
  obtain ⟨i0_a, hi_a, _, hsz_a, _⟩ := info_parts info5
  obtain ⟨A_a, hcut_a, hA_a, hC_a⟩ := print_drop_of (P := Try.prog) (Value.int .u8) 0 30 5 .i64 Try.underlying30 hi_a hsz_a (some ad) c0 l0 1 (by omega) (by have := hln.out; omega) HC0.out
  have HR_a : Aside0 (Kd.C (Kd.int .u8) w A_a (l0.drop (1 : Int).toNat).length (l0.drop (1 : Int).toNat)) := amd (Kd.C_of_reads (h1 := fun _ => rfl) (hA_a _ (Kd.reads_of_C HR0.out)))
  have HC_a := amd hC_a
  (try simp only [show (1 : Int).toNat = 1 from rfl] at hcut_a HR_a HC_a)
  clear hA_a hC_a hi_a hsz_a
  generalize (l0.drop 1) = L_a at hcut_a HR_a HC_a hp
  have p := amd hp
  clear hp
  obtain ⟨i0_b, hi_b, _, hsz_b, _⟩ := info_parts info5
  obtain ⟨A_b, hcut_b, hA_b, hC_b⟩ := print_drop_of (P := Try.prog) (Value.int .u8) 0 30 5 .i64 Try.underlying30 hi_b hsz_b (some ad) c0 l0 9 (by omega) (by have := hln.out; omega) HC0.out
  have HR_b : Aside0 (Kd.C (Kd.int .u8) w A_b (l0.drop (9 : Int).toNat).length (l0.drop (9 : Int).toNat)) := amd (Kd.C_of_reads (h1 := fun _ => rfl) (hA_b _ (Kd.reads_of_C HR0.out)))
  have HC_b := amd hC_b
  (try simp only [show (9 : Int).toNat = 9 from rfl] at hcut_b HR_b HC_b)
  clear hA_b hC_b hi_b hsz_b
  generalize (l0.drop 9) = L_b at hcut_b HR_b HC_b hi
  have i := amd hi
  clear hi
  have HRt := amd hR
  go_enter Try.func14, Try.ntmps14
  go_wp2_with (first | ((with_reducible refine gate_dst (N := 2) rfl ?_); refine box_event ?hg (N := 2) ?hd (cs := #[.int .i64 0, .int .u64 0, .int .u64 0, .int .i64 0, .int .i64 0, .int .u32 0, .int .u32 0, .int .u64 0, .int .u64 0, .int .u64 0, .int .u64 0, .int .u64 0, .int .u64 0, .int .u64 0, .string ⟨#[]⟩]) (t := 28) ?hr ?_; (case hd => rfl); (case hg => rfl); (case hr => first | (go_simp; done) | (go_simp; rfl)); intro gr hg w1 hbox hb; have er := amd (show w.heap.size ≤ gr from by rw [hg]; exact Below.size HB.out); have HB1 := amd (below_step HB.out hb); have rr1 := amd hbox; have cr1 := Mine.cells15 rr1.out; have fr1 := blk_frozen rr1.out; clear hbox hb hg; have x0 := (HB1.out.cell (World.block_lt_of_cell? w _ x0_)).trans x0_) | ((with_reducible refine gate_dst (N := 4) rfl ?_); refine box_event ?hg (N := 4) ?hd (cs := #[.int .i64 0, .int .u64 0, .int .u64 0, .int .i64 0, .int .i64 0, .int .u32 0, .int .u32 0, .int .u64 0, .int .u64 0, .int .u64 0, .int .u64 0, .int .u64 0, .int .u64 0, .int .u64 0, .string ⟨#[]⟩]) (t := 28) ?hr ?_; (case hd => rfl); (case hg => rfl); (case hr => first | (go_simp; done) | (go_simp; rfl)); intro gm hg w2 hbox hb; have ng := amd (show gm ≠ gr from by rw [hg]; exact Nat.ne_of_gt (blk_lt rr1.out)); have em := amd (show w.heap.size ≤ gm from by rw [hg]; exact Below.size HB1.out); have rr2 := amd (blk_below rr1.out hb); have HB2 := amd (below_step HB1.out hb); have mm2 := amd hbox; clear HB1 rr1 cr1 fr1 x0; have cr2 := Mine.cells15 rr2.out; have fr2 := blk_frozen rr2.out; have cm2 := Mine.cells15 mm2.out; have fm2 := blk_frozen mm2.out; have n_gm_gr := ng.out; have n_gr_gm := Ne.symm ng.out; clear hbox hb hg) | (go_at_call 29; (with_reducible refine (fairleadref02_Take.calls k _ _ L_a 8 p1 p2 _ (Kd.C_below HR_a.out (dm_put15b _ _ _ _ _ _ _ _ _ _ _ _ _ _ _ HB2.out em.out)) HC_a.out p.out).mono ?_); rintro e w3 ⟨rfl, nd_, hq_⟩; have rr3 := amd (dm_dr hq_ (dm_far15 _ _ _ _ _ _ _ _ _ _ _ _ _ _ _ rr2.out (Ne.symm ng.out))); have mm3 := amd (dm_dr hq_ (dm_put15 _ _ _ _ _ _ _ _ _ _ _ _ _ _ _ mm2.out)); have HB3 := amd (dm_drb hq_ (dm_put15b _ _ _ _ _ _ _ _ _ _ _ _ _ _ _ HB2.out em.out)); clear HB2 rr2 mm2 cr2 fr2 cm2 fm2; have cr3 := Mine.cells15 rr3.out; have fr3 := blk_frozen rr3.out; have cm3 := Mine.cells15 mm3.out; have fm3 := blk_frozen mm3.out; clear hq_ nd_) | (go_at_call 29; (with_reducible refine (fairleadref02_Take.calls k _ _ L_b 8 i1 i2 _ (Kd.C_below HR_b.out (below_set (g := gm) (j := 1) (v := .int .u64 p1) HB3.out em.out)) HC_b.out i.out).mono ?_); rintro e w4 ⟨rfl, nd_, hq_⟩; have rr4 := amd (dm_dr hq_ (blk_far (p := ⟨gm, 1, none⟩) rr3.out (Ne.symm ng.out) (.int .u64 p1))); have mm4 := amd (dm_dr hq_ (blk_put (cs' := M15 (wrap64 (rd l0 0)) p1 0 0 0 0 0 0 0 0 0 0 0 0 ⟨#[]⟩) mm3.out 1 (.int .u64 p1) rfl)); have HB4 := amd (dm_drb hq_ (below_set (g := gm) (j := 1) (v := .int .u64 p1) HB3.out em.out)); clear HB3 rr3 mm3 cr3 fr3 cm3 fm3; have cr4 := Mine.cells15 rr4.out; have fr4 := blk_frozen rr4.out; have cm4 := Mine.cells15 mm4.out; have fm4 := blk_frozen mm4.out; clear hq_ nd_) | (go_at_call 12; (with_reducible refine (fairleadref17_Right.calls k ((wrap64 (rd l0 0))) (p1) (i1) (0) (0) (0) (0) (0) (0) (0) (0) (0) (0) (0) ((⟨#[]⟩ : ByteArray)) true _ HRt.out).mono ?_); rintro e w5 ⟨rfl, hb⟩; have rr5 := amd (blk_below (blk_far (p := ⟨gm, 2, none⟩) rr4.out (Ne.symm ng.out) (.int .u64 i1)) hb); have mm5 := amd (blk_below (blk_put (cs' := M15 (wrap64 (rd l0 0)) p1 i1 0 0 0 0 0 0 0 0 0 0 0 ⟨#[]⟩) mm4.out 2 (.int .u64 i1) rfl) hb); have HB5 := amd (below_step (below_set (g := gm) (j := 2) (v := .int .u64 i1) HB4.out em.out) hb); clear HB4 rr4 mm4 cr4 fr4 cm4 fm4; have cr5 := Mine.cells15 rr5.out; have fr5 := blk_frozen rr5.out; have cm5 := Mine.cells15 mm5.out; have fm5 := blk_frozen mm5.out; clear hb))
  (repeat (go_step3; (try go_wp2)))
  refine bodyPost_ret (results_ct rfl _ _ gr 28 (M15 (wrap64 (rd l0 0)) p1 i1 0 0 0 0 0 0 0 0 0 0 0 ⟨#[]⟩) (0, 0) _ rfl (dm_put15 _ _ _ _ _ _ _ _ _ _ _ _ _ _ _ rr5.out) hu28 rfl (by kernel_rfl)) rfl ?_
  exact ⟨rfl, (dm_put15b _ _ _ _ _ _ _ _ _ _ _ _ _ _ _ HB5.out er.out)⟩
set_option maxHeartbeats 8000000 in
set_option maxRecDepth 100000 in
theorem fairleadref17_Decode.m4L (k : Nat) (ad : Addr) (c0 : Nat) (l0 : List Int) (w : World) (hr0 : Kd.C (Kd.int .u8) w (some ad) l0.length l0) (hl : 0 < l0.length) (klo : decide ((wrap64 (rd l0 0)) < 1) = false) (khi : decide (7 < (wrap64 (rd l0 0))) = false) (kq1 : ((wrap64 (rd l0 0)) == 1) = false) (kq2 : ((wrap64 (rd l0 0)) == 2) = false) (kq4 : ((wrap64 (rd l0 0)) == 4) = true) (kg : decide (1 < (wrap64 (rd l0 0))) = true) (hc0 : l0.length ≤ c0) (hs : decide ((l0.length : Int) < 19) = false) (p1 p2 : Int) (hp : fairleadref02_Take.f k (l0.drop 1) 8 = some (p1, p2)) (i1 i2 : Int) (hi : fairleadref02_Take.f k (l0.drop 9) 8 = some (i1, i2)) (hL : decide (19 < (l0.length : Int)) = true) :
    Calls Try.prog 14 #[.slice (some ad) l0.length c0] w (fun e w' => e = .returned (.tuple #[.agg #[.int .i64 0, .int .u64 0, .int .u64 0, .int .i64 0, .int .i64 0, .int .u32 0, .int .u32 0, .int .u64 0, .int .u64 0, .int .u64 0, .int .u64 0, .int .u64 0, .int .u64 0, .int .u64 0, .string (⟨#[]⟩ : ByteArray)], .int .i64 3]) ∧ Below w.heap.size w w') := by
  have hu28 := Try.underlying28
  have hu26 := Try.underlying26
  have hfd := fun (cs_ : Array Value) (j_ : Nat) (w_ : World) => Mine.run_field (P := Try.prog) Try.underlying26 cs_ j_ w_
  have HR0 := amd hr0
  have HB := amd (Below.refl w.heap.size w)
  have qi0 : (0 < l0.length) = True := eq_true hl
  have qj0 : ((0 : Int) < (l0.length : Int)) = True := eq_true (by omega)
  have qe0 : ((l0.length : Int) == 0) = false := bfq (by omega)
  obtain ⟨ad0, e0_, x0_⟩ := Kd.at_int HR0.out 0 (by omega) (by omega)
  cases e0_
  (try rw [show ((0 : Int)).toNat = 0 from rfl] at x0_)
  (try rw [Addr.add_zero'] at x0_)
  clear hr0
  have HC0 := amd hc0
  have hln := amd (of_decide_eq_false hs)
  obtain ⟨i0_a, hi_a, _, hsz_a, _⟩ := info_parts info5
  obtain ⟨A_a, hcut_a, hA_a, hC_a⟩ := print_drop_of (P := Try.prog) (Value.int .u8) 0 30 5 .i64 Try.underlying30 hi_a hsz_a (some ad) c0 l0 1 (by omega) (by have := hln.out; omega) HC0.out
  have HR_a : Aside0 (Kd.C (Kd.int .u8) w A_a (l0.drop (1 : Int).toNat).length (l0.drop (1 : Int).toNat)) := amd (Kd.C_of_reads (h1 := fun _ => rfl) (hA_a _ (Kd.reads_of_C HR0.out)))
  have HC_a := amd hC_a
  (try simp only [show (1 : Int).toNat = 1 from rfl] at hcut_a HR_a HC_a)
  clear hA_a hC_a hi_a hsz_a
  generalize (l0.drop 1) = L_a at hcut_a HR_a HC_a hp
  have p := amd hp
  clear hp
  obtain ⟨i0_b, hi_b, _, hsz_b, _⟩ := info_parts info5
  obtain ⟨A_b, hcut_b, hA_b, hC_b⟩ := print_drop_of (P := Try.prog) (Value.int .u8) 0 30 5 .i64 Try.underlying30 hi_b hsz_b (some ad) c0 l0 9 (by omega) (by have := hln.out; omega) HC0.out
  have HR_b : Aside0 (Kd.C (Kd.int .u8) w A_b (l0.drop (9 : Int).toNat).length (l0.drop (9 : Int).toNat)) := amd (Kd.C_of_reads (h1 := fun _ => rfl) (hA_b _ (Kd.reads_of_C HR0.out)))
  have HC_b := amd hC_b
  (try simp only [show (9 : Int).toNat = 9 from rfl] at hcut_b HR_b HC_b)
  clear hA_b hC_b hi_b hsz_b
  generalize (l0.drop 9) = L_b at hcut_b HR_b HC_b hi
  have i := amd hi
  clear hi
  obtain ⟨ad17_, e17_, x17_⟩ := Kd.at_int HR0.out 17 (by omega) (by have := hln.out; omega)
  cases e17_
  (try simp only [show (17 : Int).toNat = 17 from rfl, Nat.reduceMul, Nat.reduceEqDiff, Go.Addr.add, ↓reduceIte] at x17_)
  have qi17 : (17 < l0.length) = True := eq_true (by have := hln.out; omega)
  have qj17 : ((17 : Int) < (l0.length : Int)) = True := eq_true (by have := hln.out; omega)
  obtain ⟨ad18_, e18_, x18_⟩ := Kd.at_int HR0.out 18 (by omega) (by have := hln.out; omega)
  cases e18_
  (try simp only [show (18 : Int).toNat = 18 from rfl, Nat.reduceMul, Nat.reduceEqDiff, Go.Addr.add, ↓reduceIte] at x18_)
  have qi18 : (18 < l0.length) = True := eq_true (by have := hln.out; omega)
  have qj18 : ((18 : Int) < (l0.length : Int)) = True := eq_true (by have := hln.out; omega)
  go_enter Try.func14, Try.ntmps14
  go_wp2_with (first | ((with_reducible refine gate_dst (N := 2) rfl ?_); refine box_event ?hg (N := 2) ?hd (cs := #[.int .i64 0, .int .u64 0, .int .u64 0, .int .i64 0, .int .i64 0, .int .u32 0, .int .u32 0, .int .u64 0, .int .u64 0, .int .u64 0, .int .u64 0, .int .u64 0, .int .u64 0, .int .u64 0, .string ⟨#[]⟩]) (t := 28) ?hr ?_; (case hd => rfl); (case hg => rfl); (case hr => first | (go_simp; done) | (go_simp; rfl)); intro gr hg w1 hbox hb; have er := amd (show w.heap.size ≤ gr from by rw [hg]; exact Below.size HB.out); have HB1 := amd (below_step HB.out hb); have rr1 := amd hbox; have cr1 := Mine.cells15 rr1.out; have fr1 := blk_frozen rr1.out; clear hbox hb hg; have x0 := (HB1.out.cell (World.block_lt_of_cell? w _ x0_)).trans x0_) | ((with_reducible refine gate_dst (N := 4) rfl ?_); refine box_event ?hg (N := 4) ?hd (cs := #[.int .i64 0, .int .u64 0, .int .u64 0, .int .i64 0, .int .i64 0, .int .u32 0, .int .u32 0, .int .u64 0, .int .u64 0, .int .u64 0, .int .u64 0, .int .u64 0, .int .u64 0, .int .u64 0, .string ⟨#[]⟩]) (t := 28) ?hr ?_; (case hd => rfl); (case hg => rfl); (case hr => first | (go_simp; done) | (go_simp; rfl)); intro gm hg w2 hbox hb; have ng := amd (show gm ≠ gr from by rw [hg]; exact Nat.ne_of_gt (blk_lt rr1.out)); have em := amd (show w.heap.size ≤ gm from by rw [hg]; exact Below.size HB1.out); have rr2 := amd (blk_below rr1.out hb); have HB2 := amd (below_step HB1.out hb); have mm2 := amd hbox; clear HB1 rr1 cr1 fr1 x0; have cr2 := Mine.cells15 rr2.out; have fr2 := blk_frozen rr2.out; have cm2 := Mine.cells15 mm2.out; have fm2 := blk_frozen mm2.out; have n_gm_gr := ng.out; have n_gr_gm := Ne.symm ng.out; clear hbox hb hg) | (go_at_call 29; (with_reducible refine (fairleadref02_Take.calls k _ _ L_a 8 p1 p2 _ (Kd.C_below HR_a.out (dm_put15b _ _ _ _ _ _ _ _ _ _ _ _ _ _ _ HB2.out em.out)) HC_a.out p.out).mono ?_); rintro e w3 ⟨rfl, nd_, hq_⟩; have rr3 := amd (dm_dr hq_ (dm_far15 _ _ _ _ _ _ _ _ _ _ _ _ _ _ _ rr2.out (Ne.symm ng.out))); have mm3 := amd (dm_dr hq_ (dm_put15 _ _ _ _ _ _ _ _ _ _ _ _ _ _ _ mm2.out)); have HB3 := amd (dm_drb hq_ (dm_put15b _ _ _ _ _ _ _ _ _ _ _ _ _ _ _ HB2.out em.out)); clear HB2 rr2 mm2 cr2 fr2 cm2 fm2; have cr3 := Mine.cells15 rr3.out; have fr3 := blk_frozen rr3.out; have cm3 := Mine.cells15 mm3.out; have fm3 := blk_frozen mm3.out; clear hq_ nd_) | (go_at_call 29; (with_reducible refine (fairleadref02_Take.calls k _ _ L_b 8 i1 i2 _ (Kd.C_below HR_b.out (below_set (g := gm) (j := 1) (v := .int .u64 p1) HB3.out em.out)) HC_b.out i.out).mono ?_); rintro e w4 ⟨rfl, nd_, hq_⟩; have rr4 := amd (dm_dr hq_ (blk_far (p := ⟨gm, 1, none⟩) rr3.out (Ne.symm ng.out) (.int .u64 p1))); have mm4 := amd (dm_dr hq_ (blk_put (cs' := M15 (wrap64 (rd l0 0)) p1 0 0 0 0 0 0 0 0 0 0 0 0 ⟨#[]⟩) mm3.out 1 (.int .u64 p1) rfl)); have HB4 := amd (dm_drb hq_ (below_set (g := gm) (j := 1) (v := .int .u64 p1) HB3.out em.out)); clear HB3 rr3 mm3 cr3 fr3 cm3 fm3; have cr4 := Mine.cells15 rr4.out; have fr4 := blk_frozen rr4.out; have cm4 := Mine.cells15 mm4.out; have fm4 := blk_frozen mm4.out; clear hq_ nd_))
  have rr5 := amd (blk_far (p := ⟨gm, 2, none⟩) rr4.out (Ne.symm ng.out) (.int .u64 i1))
  have mm5 := amd (blk_put (cs' := M15 (wrap64 (rd l0 0)) p1 i1 0 0 0 0 0 0 0 0 0 0 0 ⟨#[]⟩) mm4.out 2 (.int .u64 i1) rfl)
  have HB5 := amd (below_set (g := gm) (j := 2) (v := .int .u64 i1) HB4.out em.out)
  generalize (World.setCell w4 ⟨gm, 2, none⟩ (.int .u64 i1)) = w5 at rr5 mm5 HB5 ⊢
  clear HB4 rr4 mm4 cr4 fr4 cm4 fm4
  have cr5 := Mine.cells15 rr5.out
  have fr5 := blk_frozen rr5.out
  have cm5 := Mine.cells15 mm5.out
  have fm5 := blk_frozen mm5.out
  refine start_ (n := 12) (S := fun w' => w'.cell? ⟨ad.block, ad.off + 17, none⟩ = some (.int .u8 (rd l0 17)) ∧ w'.cell? ⟨ad.block, ad.off + 18, none⟩ = some (.int .u8 (rd l0 18))) (ds := [11]) #[false, false, false, false, false, false, false, false, false, false, false, false] (by kernel_rfl) rfl rfl ⟨((Below.cell (below_drew1 HB5.out) (World.block_lt_of_cell? w _ x17_)).trans x17_), ((Below.cell (below_drew1 HB5.out) (World.block_lt_of_cell? w _ x18_)).trans x18_)⟩ (fun hHeld => ?_)
  refine Mine.pS 0 (some 78) ?_; refine Mine.pS 1 (some 79) ?_; refine Mine.pS 5 (some 83) ?_; refine Mine.pS 6 (some 84) ?_; refine Mine.tS 2 (some 80) hHeld ?_; refine Mine.pS 3 (some 81) ?_; refine Mine.pS 4 (some 82) ?_; refine Mine.tS 7 (some 85) hHeld ?_; refine Mine.pS 8 (some 86) ?_; refine Mine.pS 9 (some 87) ?_; refine Mine.pS 10 (some 88) ?_
  refine last_ (i := 11) (N := none) #[true, true, true, true, true, true, true, true, true, true, true, true] rfl rfl (by kernel_rfl) (by decide) (fun K hK => ?_)
  refine skip_ (w1 := ?_) (by rfl) rfl ?_ ?_
  rotate_left
  · go_simp
    rfl
  refine hK.out _ _ ?_
  clear hK K
  refine done_ (by kernel_rfl) ?_
  
  have rr6 := amd (blk_drew (blk_far (p := ⟨gm, 4, none⟩) rr5.out (Ne.symm ng.out) (.int .i64 (wrap64 ((wrap64 ((wrap64 (rd l0 17)) * 256)) + (wrap64 (rd l0 18)))))))
  have mm6 := amd (blk_drew (blk_put (cs' := M15 (wrap64 (rd l0 0)) p1 i1 0 (wrap64 ((wrap64 ((wrap64 (rd l0 17)) * 256)) + (wrap64 (rd l0 18)))) 0 0 0 0 0 0 0 0 0 ⟨#[]⟩) mm5.out 4 (.int .i64 (wrap64 ((wrap64 ((wrap64 (rd l0 17)) * 256)) + (wrap64 (rd l0 18))))) rfl))
  have HB6 := amd (below_drew1 (below_set (g := gm) (j := 4) (v := .int .i64 (wrap64 ((wrap64 ((wrap64 (rd l0 17)) * 256)) + (wrap64 (rd l0 18))))) HB5.out em.out))
  generalize World.drew (World.setCell w5 ⟨gm, 4, none⟩ (.int .i64 (wrap64 ((wrap64 ((wrap64 (rd l0 17)) * 256)) + (wrap64 (rd l0 18)))))) = w6 at rr6 mm6 HB6 ⊢
  clear HB5 rr5 mm5 cr5 fr5 cm5 fm5
  have cr6 := Mine.cells15 rr6.out
  have fr6 := blk_frozen rr6.out
  have cm6 := Mine.cells15 mm6.out
  have fm6 := blk_frozen mm6.out
  go_wp2
  (repeat (go_step3; (try go_wp2)))
  refine bodyPost_ret (results_ct rfl _ _ gr 28 (M15 0 0 0 0 0 0 0 0 0 0 0 0 0 0 ⟨#[]⟩) (0, 0) _ rfl (dm_put15 _ _ _ _ _ _ _ _ _ _ _ _ _ _ _ rr6.out) hu28 rfl (by kernel_rfl)) rfl ?_
  exact ⟨rfl, (dm_put15b _ _ _ _ _ _ _ _ _ _ _ _ _ _ _ HB6.out er.out)⟩
set_option maxHeartbeats 8000000 in
set_option maxRecDepth 100000 in
theorem fairleadref17_Decode.m4W (k : Nat) (ad : Addr) (c0 : Nat) (l0 : List Int) (w : World) (hr0 : Kd.C (Kd.int .u8) w (some ad) l0.length l0) (hl : 0 < l0.length) (klo : decide ((wrap64 (rd l0 0)) < 1) = false) (khi : decide (7 < (wrap64 (rd l0 0))) = false) (kq1 : ((wrap64 (rd l0 0)) == 1) = false) (kq2 : ((wrap64 (rd l0 0)) == 2) = false) (kq4 : ((wrap64 (rd l0 0)) == 4) = true) (kg : decide (1 < (wrap64 (rd l0 0))) = true) (hc0 : l0.length ≤ c0) (hs : decide ((l0.length : Int) < 19) = false) (p1 p2 : Int) (hp : fairleadref02_Take.f k (l0.drop 1) 8 = some (p1, p2)) (i1 i2 : Int) (hi : fairleadref02_Take.f k (l0.drop 9) 8 = some (i1, i2)) (hL : decide (19 < (l0.length : Int)) = false) (hR : fairleadref17_Right.f k ((wrap64 (rd l0 0))) (p1) (i1) (0) ((wrap64 ((wrap64 ((wrap64 (rd l0 17)) * 256)) + (wrap64 (rd l0 18))))) (0) (0) (0) (0) (0) (0) (0) (0) (0) ((⟨#[]⟩ : ByteArray)) = some false) :
    Calls Try.prog 14 #[.slice (some ad) l0.length c0] w (fun e w' => e = .returned (.tuple #[.agg #[.int .i64 0, .int .u64 0, .int .u64 0, .int .i64 0, .int .i64 0, .int .u32 0, .int .u32 0, .int .u64 0, .int .u64 0, .int .u64 0, .int .u64 0, .int .u64 0, .int .u64 0, .int .u64 0, .string (⟨#[]⟩ : ByteArray)], .int .i64 1]) ∧ Below w.heap.size w w') := by
  have hu28 := Try.underlying28
  have hu26 := Try.underlying26
  have hfd := fun (cs_ : Array Value) (j_ : Nat) (w_ : World) => Mine.run_field (P := Try.prog) Try.underlying26 cs_ j_ w_
  have HR0 := amd hr0
  have HB := amd (Below.refl w.heap.size w)
  have qi0 : (0 < l0.length) = True := eq_true hl
  have qj0 : ((0 : Int) < (l0.length : Int)) = True := eq_true (by omega)
  have qe0 : ((l0.length : Int) == 0) = false := bfq (by omega)
  obtain ⟨ad0, e0_, x0_⟩ := Kd.at_int HR0.out 0 (by omega) (by omega)
  cases e0_
  (try rw [show ((0 : Int)).toNat = 0 from rfl] at x0_)
  (try rw [Addr.add_zero'] at x0_)
  clear hr0
  have HC0 := amd hc0
  have hln := amd (of_decide_eq_false hs)
  obtain ⟨i0_a, hi_a, _, hsz_a, _⟩ := info_parts info5
  obtain ⟨A_a, hcut_a, hA_a, hC_a⟩ := print_drop_of (P := Try.prog) (Value.int .u8) 0 30 5 .i64 Try.underlying30 hi_a hsz_a (some ad) c0 l0 1 (by omega) (by have := hln.out; omega) HC0.out
  have HR_a : Aside0 (Kd.C (Kd.int .u8) w A_a (l0.drop (1 : Int).toNat).length (l0.drop (1 : Int).toNat)) := amd (Kd.C_of_reads (h1 := fun _ => rfl) (hA_a _ (Kd.reads_of_C HR0.out)))
  have HC_a := amd hC_a
  (try simp only [show (1 : Int).toNat = 1 from rfl] at hcut_a HR_a HC_a)
  clear hA_a hC_a hi_a hsz_a
  generalize (l0.drop 1) = L_a at hcut_a HR_a HC_a hp
  have p := amd hp
  clear hp
  obtain ⟨i0_b, hi_b, _, hsz_b, _⟩ := info_parts info5
  obtain ⟨A_b, hcut_b, hA_b, hC_b⟩ := print_drop_of (P := Try.prog) (Value.int .u8) 0 30 5 .i64 Try.underlying30 hi_b hsz_b (some ad) c0 l0 9 (by omega) (by have := hln.out; omega) HC0.out
  have HR_b : Aside0 (Kd.C (Kd.int .u8) w A_b (l0.drop (9 : Int).toNat).length (l0.drop (9 : Int).toNat)) := amd (Kd.C_of_reads (h1 := fun _ => rfl) (hA_b _ (Kd.reads_of_C HR0.out)))
  have HC_b := amd hC_b
  (try simp only [show (9 : Int).toNat = 9 from rfl] at hcut_b HR_b HC_b)
  clear hA_b hC_b hi_b hsz_b
  generalize (l0.drop 9) = L_b at hcut_b HR_b HC_b hi
  have i := amd hi
  clear hi
  obtain ⟨ad17_, e17_, x17_⟩ := Kd.at_int HR0.out 17 (by omega) (by have := hln.out; omega)
  cases e17_
  (try simp only [show (17 : Int).toNat = 17 from rfl, Nat.reduceMul, Nat.reduceEqDiff, Go.Addr.add, ↓reduceIte] at x17_)
  have qi17 : (17 < l0.length) = True := eq_true (by have := hln.out; omega)
  have qj17 : ((17 : Int) < (l0.length : Int)) = True := eq_true (by have := hln.out; omega)
  obtain ⟨ad18_, e18_, x18_⟩ := Kd.at_int HR0.out 18 (by omega) (by have := hln.out; omega)
  cases e18_
  (try simp only [show (18 : Int).toNat = 18 from rfl, Nat.reduceMul, Nat.reduceEqDiff, Go.Addr.add, ↓reduceIte] at x18_)
  have qi18 : (18 < l0.length) = True := eq_true (by have := hln.out; omega)
  have qj18 : ((18 : Int) < (l0.length : Int)) = True := eq_true (by have := hln.out; omega)
  have HRt := amd hR
  go_enter Try.func14, Try.ntmps14
  go_wp2_with (first | ((with_reducible refine gate_dst (N := 2) rfl ?_); refine box_event ?hg (N := 2) ?hd (cs := #[.int .i64 0, .int .u64 0, .int .u64 0, .int .i64 0, .int .i64 0, .int .u32 0, .int .u32 0, .int .u64 0, .int .u64 0, .int .u64 0, .int .u64 0, .int .u64 0, .int .u64 0, .int .u64 0, .string ⟨#[]⟩]) (t := 28) ?hr ?_; (case hd => rfl); (case hg => rfl); (case hr => first | (go_simp; done) | (go_simp; rfl)); intro gr hg w1 hbox hb; have er := amd (show w.heap.size ≤ gr from by rw [hg]; exact Below.size HB.out); have HB1 := amd (below_step HB.out hb); have rr1 := amd hbox; have cr1 := Mine.cells15 rr1.out; have fr1 := blk_frozen rr1.out; clear hbox hb hg; have x0 := (HB1.out.cell (World.block_lt_of_cell? w _ x0_)).trans x0_) | ((with_reducible refine gate_dst (N := 4) rfl ?_); refine box_event ?hg (N := 4) ?hd (cs := #[.int .i64 0, .int .u64 0, .int .u64 0, .int .i64 0, .int .i64 0, .int .u32 0, .int .u32 0, .int .u64 0, .int .u64 0, .int .u64 0, .int .u64 0, .int .u64 0, .int .u64 0, .int .u64 0, .string ⟨#[]⟩]) (t := 28) ?hr ?_; (case hd => rfl); (case hg => rfl); (case hr => first | (go_simp; done) | (go_simp; rfl)); intro gm hg w2 hbox hb; have ng := amd (show gm ≠ gr from by rw [hg]; exact Nat.ne_of_gt (blk_lt rr1.out)); have em := amd (show w.heap.size ≤ gm from by rw [hg]; exact Below.size HB1.out); have rr2 := amd (blk_below rr1.out hb); have HB2 := amd (below_step HB1.out hb); have mm2 := amd hbox; clear HB1 rr1 cr1 fr1 x0; have cr2 := Mine.cells15 rr2.out; have fr2 := blk_frozen rr2.out; have cm2 := Mine.cells15 mm2.out; have fm2 := blk_frozen mm2.out; have n_gm_gr := ng.out; have n_gr_gm := Ne.symm ng.out; clear hbox hb hg) | (go_at_call 29; (with_reducible refine (fairleadref02_Take.calls k _ _ L_a 8 p1 p2 _ (Kd.C_below HR_a.out (dm_put15b _ _ _ _ _ _ _ _ _ _ _ _ _ _ _ HB2.out em.out)) HC_a.out p.out).mono ?_); rintro e w3 ⟨rfl, nd_, hq_⟩; have rr3 := amd (dm_dr hq_ (dm_far15 _ _ _ _ _ _ _ _ _ _ _ _ _ _ _ rr2.out (Ne.symm ng.out))); have mm3 := amd (dm_dr hq_ (dm_put15 _ _ _ _ _ _ _ _ _ _ _ _ _ _ _ mm2.out)); have HB3 := amd (dm_drb hq_ (dm_put15b _ _ _ _ _ _ _ _ _ _ _ _ _ _ _ HB2.out em.out)); clear HB2 rr2 mm2 cr2 fr2 cm2 fm2; have cr3 := Mine.cells15 rr3.out; have fr3 := blk_frozen rr3.out; have cm3 := Mine.cells15 mm3.out; have fm3 := blk_frozen mm3.out; clear hq_ nd_) | (go_at_call 29; (with_reducible refine (fairleadref02_Take.calls k _ _ L_b 8 i1 i2 _ (Kd.C_below HR_b.out (below_set (g := gm) (j := 1) (v := .int .u64 p1) HB3.out em.out)) HC_b.out i.out).mono ?_); rintro e w4 ⟨rfl, nd_, hq_⟩; have rr4 := amd (dm_dr hq_ (blk_far (p := ⟨gm, 1, none⟩) rr3.out (Ne.symm ng.out) (.int .u64 p1))); have mm4 := amd (dm_dr hq_ (blk_put (cs' := M15 (wrap64 (rd l0 0)) p1 0 0 0 0 0 0 0 0 0 0 0 0 ⟨#[]⟩) mm3.out 1 (.int .u64 p1) rfl)); have HB4 := amd (dm_drb hq_ (below_set (g := gm) (j := 1) (v := .int .u64 p1) HB3.out em.out)); clear HB3 rr3 mm3 cr3 fr3 cm3 fm3; have cr4 := Mine.cells15 rr4.out; have fr4 := blk_frozen rr4.out; have cm4 := Mine.cells15 mm4.out; have fm4 := blk_frozen mm4.out; clear hq_ nd_))
  have rr5 := amd (blk_far (p := ⟨gm, 2, none⟩) rr4.out (Ne.symm ng.out) (.int .u64 i1))
  have mm5 := amd (blk_put (cs' := M15 (wrap64 (rd l0 0)) p1 i1 0 0 0 0 0 0 0 0 0 0 0 ⟨#[]⟩) mm4.out 2 (.int .u64 i1) rfl)
  have HB5 := amd (below_set (g := gm) (j := 2) (v := .int .u64 i1) HB4.out em.out)
  generalize (World.setCell w4 ⟨gm, 2, none⟩ (.int .u64 i1)) = w5 at rr5 mm5 HB5 ⊢
  clear HB4 rr4 mm4 cr4 fr4 cm4 fm4
  have cr5 := Mine.cells15 rr5.out
  have fr5 := blk_frozen rr5.out
  have cm5 := Mine.cells15 mm5.out
  have fm5 := blk_frozen mm5.out
  refine start_ (n := 12) (S := fun w' => w'.cell? ⟨ad.block, ad.off + 17, none⟩ = some (.int .u8 (rd l0 17)) ∧ w'.cell? ⟨ad.block, ad.off + 18, none⟩ = some (.int .u8 (rd l0 18))) (ds := [11]) #[false, false, false, false, false, false, false, false, false, false, false, false] (by kernel_rfl) rfl rfl ⟨((Below.cell (below_drew1 HB5.out) (World.block_lt_of_cell? w _ x17_)).trans x17_), ((Below.cell (below_drew1 HB5.out) (World.block_lt_of_cell? w _ x18_)).trans x18_)⟩ (fun hHeld => ?_)
  refine Mine.pS 0 (some 78) ?_; refine Mine.pS 1 (some 79) ?_; refine Mine.pS 5 (some 83) ?_; refine Mine.pS 6 (some 84) ?_; refine Mine.tS 2 (some 80) hHeld ?_; refine Mine.pS 3 (some 81) ?_; refine Mine.pS 4 (some 82) ?_; refine Mine.tS 7 (some 85) hHeld ?_; refine Mine.pS 8 (some 86) ?_; refine Mine.pS 9 (some 87) ?_; refine Mine.pS 10 (some 88) ?_
  refine last_ (i := 11) (N := none) #[true, true, true, true, true, true, true, true, true, true, true, true] rfl rfl (by kernel_rfl) (by decide) (fun K hK => ?_)
  refine skip_ (w1 := ?_) (by rfl) rfl ?_ ?_
  rotate_left
  · go_simp
    rfl
  refine hK.out _ _ ?_
  clear hK K
  refine done_ (by kernel_rfl) ?_
  
  have rr6 := amd (blk_drew (blk_far (p := ⟨gm, 4, none⟩) rr5.out (Ne.symm ng.out) (.int .i64 (wrap64 ((wrap64 ((wrap64 (rd l0 17)) * 256)) + (wrap64 (rd l0 18)))))))
  have mm6 := amd (blk_drew (blk_put (cs' := M15 (wrap64 (rd l0 0)) p1 i1 0 (wrap64 ((wrap64 ((wrap64 (rd l0 17)) * 256)) + (wrap64 (rd l0 18)))) 0 0 0 0 0 0 0 0 0 ⟨#[]⟩) mm5.out 4 (.int .i64 (wrap64 ((wrap64 ((wrap64 (rd l0 17)) * 256)) + (wrap64 (rd l0 18))))) rfl))
  have HB6 := amd (below_drew1 (below_set (g := gm) (j := 4) (v := .int .i64 (wrap64 ((wrap64 ((wrap64 (rd l0 17)) * 256)) + (wrap64 (rd l0 18))))) HB5.out em.out))
  generalize World.drew (World.setCell w5 ⟨gm, 4, none⟩ (.int .i64 (wrap64 ((wrap64 ((wrap64 (rd l0 17)) * 256)) + (wrap64 (rd l0 18)))))) = w6 at rr6 mm6 HB6 ⊢
  clear HB5 rr5 mm5 cr5 fr5 cm5 fm5
  have cr6 := Mine.cells15 rr6.out
  have fr6 := blk_frozen rr6.out
  have cm6 := Mine.cells15 mm6.out
  have fm6 := blk_frozen mm6.out
  go_wp2_with (first | (go_at_call 12; (with_reducible refine (fairleadref17_Right.calls k ((wrap64 (rd l0 0))) (p1) (i1) (0) ((wrap64 ((wrap64 ((wrap64 (rd l0 17)) * 256)) + (wrap64 (rd l0 18))))) (0) (0) (0) (0) (0) (0) (0) (0) (0) ((⟨#[]⟩ : ByteArray)) false _ HRt.out).mono ?_); rintro e w7 ⟨rfl, hb⟩; have rr7 := amd (blk_below rr6.out hb); have mm7 := amd (blk_below mm6.out hb); have HB7 := amd (below_step HB6.out hb); clear HB6 rr6 mm6 cr6 fr6 cm6 fm6; have cr7 := Mine.cells15 rr7.out; have fr7 := blk_frozen rr7.out; have cm7 := Mine.cells15 mm7.out; have fm7 := blk_frozen mm7.out; clear hb))
  (repeat (go_step3; (try go_wp2)))
  refine bodyPost_ret (results_ct rfl _ _ gr 28 (M15 0 0 0 0 0 0 0 0 0 0 0 0 0 0 ⟨#[]⟩) (0, 0) _ rfl (dm_put15 _ _ _ _ _ _ _ _ _ _ _ _ _ _ _ rr7.out) hu28 rfl (by kernel_rfl)) rfl ?_
  exact ⟨rfl, (dm_put15b _ _ _ _ _ _ _ _ _ _ _ _ _ _ _ HB7.out er.out)⟩
set_option maxHeartbeats 8000000 in
set_option maxRecDepth 100000 in
theorem fairleadref17_Decode.m4K (k : Nat) (ad : Addr) (c0 : Nat) (l0 : List Int) (w : World) (hr0 : Kd.C (Kd.int .u8) w (some ad) l0.length l0) (hl : 0 < l0.length) (klo : decide ((wrap64 (rd l0 0)) < 1) = false) (khi : decide (7 < (wrap64 (rd l0 0))) = false) (kq1 : ((wrap64 (rd l0 0)) == 1) = false) (kq2 : ((wrap64 (rd l0 0)) == 2) = false) (kq4 : ((wrap64 (rd l0 0)) == 4) = true) (kg : decide (1 < (wrap64 (rd l0 0))) = true) (hc0 : l0.length ≤ c0) (hs : decide ((l0.length : Int) < 19) = false) (p1 p2 : Int) (hp : fairleadref02_Take.f k (l0.drop 1) 8 = some (p1, p2)) (i1 i2 : Int) (hi : fairleadref02_Take.f k (l0.drop 9) 8 = some (i1, i2)) (hL : decide (19 < (l0.length : Int)) = false) (hR : fairleadref17_Right.f k ((wrap64 (rd l0 0))) (p1) (i1) (0) ((wrap64 ((wrap64 ((wrap64 (rd l0 17)) * 256)) + (wrap64 (rd l0 18))))) (0) (0) (0) (0) (0) (0) (0) (0) (0) ((⟨#[]⟩ : ByteArray)) = some true) :
    Calls Try.prog 14 #[.slice (some ad) l0.length c0] w (fun e w' => e = .returned (.tuple #[.agg #[.int .i64 (wrap64 (rd l0 0)), .int .u64 p1, .int .u64 i1, .int .i64 0, .int .i64 (wrap64 ((wrap64 ((wrap64 (rd l0 17)) * 256)) + (wrap64 (rd l0 18)))), .int .u32 0, .int .u32 0, .int .u64 0, .int .u64 0, .int .u64 0, .int .u64 0, .int .u64 0, .int .u64 0, .int .u64 0, .string (⟨#[]⟩ : ByteArray)], .int .i64 0]) ∧ Below w.heap.size w w') := by
  have hu28 := Try.underlying28
  have hu26 := Try.underlying26
  have hfd := fun (cs_ : Array Value) (j_ : Nat) (w_ : World) => Mine.run_field (P := Try.prog) Try.underlying26 cs_ j_ w_
  have HR0 := amd hr0
  have HB := amd (Below.refl w.heap.size w)
  have qi0 : (0 < l0.length) = True := eq_true hl
  have qj0 : ((0 : Int) < (l0.length : Int)) = True := eq_true (by omega)
  have qe0 : ((l0.length : Int) == 0) = false := bfq (by omega)
  obtain ⟨ad0, e0_, x0_⟩ := Kd.at_int HR0.out 0 (by omega) (by omega)
  cases e0_
  (try rw [show ((0 : Int)).toNat = 0 from rfl] at x0_)
  (try rw [Addr.add_zero'] at x0_)
  clear hr0
  have HC0 := amd hc0
  have hln := amd (of_decide_eq_false hs)
  obtain ⟨i0_a, hi_a, _, hsz_a, _⟩ := info_parts info5
  obtain ⟨A_a, hcut_a, hA_a, hC_a⟩ := print_drop_of (P := Try.prog) (Value.int .u8) 0 30 5 .i64 Try.underlying30 hi_a hsz_a (some ad) c0 l0 1 (by omega) (by have := hln.out; omega) HC0.out
  have HR_a : Aside0 (Kd.C (Kd.int .u8) w A_a (l0.drop (1 : Int).toNat).length (l0.drop (1 : Int).toNat)) := amd (Kd.C_of_reads (h1 := fun _ => rfl) (hA_a _ (Kd.reads_of_C HR0.out)))
  have HC_a := amd hC_a
  (try simp only [show (1 : Int).toNat = 1 from rfl] at hcut_a HR_a HC_a)
  clear hA_a hC_a hi_a hsz_a
  generalize (l0.drop 1) = L_a at hcut_a HR_a HC_a hp
  have p := amd hp
  clear hp
  obtain ⟨i0_b, hi_b, _, hsz_b, _⟩ := info_parts info5
  obtain ⟨A_b, hcut_b, hA_b, hC_b⟩ := print_drop_of (P := Try.prog) (Value.int .u8) 0 30 5 .i64 Try.underlying30 hi_b hsz_b (some ad) c0 l0 9 (by omega) (by have := hln.out; omega) HC0.out
  have HR_b : Aside0 (Kd.C (Kd.int .u8) w A_b (l0.drop (9 : Int).toNat).length (l0.drop (9 : Int).toNat)) := amd (Kd.C_of_reads (h1 := fun _ => rfl) (hA_b _ (Kd.reads_of_C HR0.out)))
  have HC_b := amd hC_b
  (try simp only [show (9 : Int).toNat = 9 from rfl] at hcut_b HR_b HC_b)
  clear hA_b hC_b hi_b hsz_b
  generalize (l0.drop 9) = L_b at hcut_b HR_b HC_b hi
  have i := amd hi
  clear hi
  obtain ⟨ad17_, e17_, x17_⟩ := Kd.at_int HR0.out 17 (by omega) (by have := hln.out; omega)
  cases e17_
  (try simp only [show (17 : Int).toNat = 17 from rfl, Nat.reduceMul, Nat.reduceEqDiff, Go.Addr.add, ↓reduceIte] at x17_)
  have qi17 : (17 < l0.length) = True := eq_true (by have := hln.out; omega)
  have qj17 : ((17 : Int) < (l0.length : Int)) = True := eq_true (by have := hln.out; omega)
  obtain ⟨ad18_, e18_, x18_⟩ := Kd.at_int HR0.out 18 (by omega) (by have := hln.out; omega)
  cases e18_
  (try simp only [show (18 : Int).toNat = 18 from rfl, Nat.reduceMul, Nat.reduceEqDiff, Go.Addr.add, ↓reduceIte] at x18_)
  have qi18 : (18 < l0.length) = True := eq_true (by have := hln.out; omega)
  have qj18 : ((18 : Int) < (l0.length : Int)) = True := eq_true (by have := hln.out; omega)
  have HRt := amd hR
  go_enter Try.func14, Try.ntmps14
  go_wp2_with (first | ((with_reducible refine gate_dst (N := 2) rfl ?_); refine box_event ?hg (N := 2) ?hd (cs := #[.int .i64 0, .int .u64 0, .int .u64 0, .int .i64 0, .int .i64 0, .int .u32 0, .int .u32 0, .int .u64 0, .int .u64 0, .int .u64 0, .int .u64 0, .int .u64 0, .int .u64 0, .int .u64 0, .string ⟨#[]⟩]) (t := 28) ?hr ?_; (case hd => rfl); (case hg => rfl); (case hr => first | (go_simp; done) | (go_simp; rfl)); intro gr hg w1 hbox hb; have er := amd (show w.heap.size ≤ gr from by rw [hg]; exact Below.size HB.out); have HB1 := amd (below_step HB.out hb); have rr1 := amd hbox; have cr1 := Mine.cells15 rr1.out; have fr1 := blk_frozen rr1.out; clear hbox hb hg; have x0 := (HB1.out.cell (World.block_lt_of_cell? w _ x0_)).trans x0_) | ((with_reducible refine gate_dst (N := 4) rfl ?_); refine box_event ?hg (N := 4) ?hd (cs := #[.int .i64 0, .int .u64 0, .int .u64 0, .int .i64 0, .int .i64 0, .int .u32 0, .int .u32 0, .int .u64 0, .int .u64 0, .int .u64 0, .int .u64 0, .int .u64 0, .int .u64 0, .int .u64 0, .string ⟨#[]⟩]) (t := 28) ?hr ?_; (case hd => rfl); (case hg => rfl); (case hr => first | (go_simp; done) | (go_simp; rfl)); intro gm hg w2 hbox hb; have ng := amd (show gm ≠ gr from by rw [hg]; exact Nat.ne_of_gt (blk_lt rr1.out)); have em := amd (show w.heap.size ≤ gm from by rw [hg]; exact Below.size HB1.out); have rr2 := amd (blk_below rr1.out hb); have HB2 := amd (below_step HB1.out hb); have mm2 := amd hbox; clear HB1 rr1 cr1 fr1 x0; have cr2 := Mine.cells15 rr2.out; have fr2 := blk_frozen rr2.out; have cm2 := Mine.cells15 mm2.out; have fm2 := blk_frozen mm2.out; have n_gm_gr := ng.out; have n_gr_gm := Ne.symm ng.out; clear hbox hb hg) | (go_at_call 29; (with_reducible refine (fairleadref02_Take.calls k _ _ L_a 8 p1 p2 _ (Kd.C_below HR_a.out (dm_put15b _ _ _ _ _ _ _ _ _ _ _ _ _ _ _ HB2.out em.out)) HC_a.out p.out).mono ?_); rintro e w3 ⟨rfl, nd_, hq_⟩; have rr3 := amd (dm_dr hq_ (dm_far15 _ _ _ _ _ _ _ _ _ _ _ _ _ _ _ rr2.out (Ne.symm ng.out))); have mm3 := amd (dm_dr hq_ (dm_put15 _ _ _ _ _ _ _ _ _ _ _ _ _ _ _ mm2.out)); have HB3 := amd (dm_drb hq_ (dm_put15b _ _ _ _ _ _ _ _ _ _ _ _ _ _ _ HB2.out em.out)); clear HB2 rr2 mm2 cr2 fr2 cm2 fm2; have cr3 := Mine.cells15 rr3.out; have fr3 := blk_frozen rr3.out; have cm3 := Mine.cells15 mm3.out; have fm3 := blk_frozen mm3.out; clear hq_ nd_) | (go_at_call 29; (with_reducible refine (fairleadref02_Take.calls k _ _ L_b 8 i1 i2 _ (Kd.C_below HR_b.out (below_set (g := gm) (j := 1) (v := .int .u64 p1) HB3.out em.out)) HC_b.out i.out).mono ?_); rintro e w4 ⟨rfl, nd_, hq_⟩; have rr4 := amd (dm_dr hq_ (blk_far (p := ⟨gm, 1, none⟩) rr3.out (Ne.symm ng.out) (.int .u64 p1))); have mm4 := amd (dm_dr hq_ (blk_put (cs' := M15 (wrap64 (rd l0 0)) p1 0 0 0 0 0 0 0 0 0 0 0 0 ⟨#[]⟩) mm3.out 1 (.int .u64 p1) rfl)); have HB4 := amd (dm_drb hq_ (below_set (g := gm) (j := 1) (v := .int .u64 p1) HB3.out em.out)); clear HB3 rr3 mm3 cr3 fr3 cm3 fm3; have cr4 := Mine.cells15 rr4.out; have fr4 := blk_frozen rr4.out; have cm4 := Mine.cells15 mm4.out; have fm4 := blk_frozen mm4.out; clear hq_ nd_))
  have rr5 := amd (blk_far (p := ⟨gm, 2, none⟩) rr4.out (Ne.symm ng.out) (.int .u64 i1))
  have mm5 := amd (blk_put (cs' := M15 (wrap64 (rd l0 0)) p1 i1 0 0 0 0 0 0 0 0 0 0 0 ⟨#[]⟩) mm4.out 2 (.int .u64 i1) rfl)
  have HB5 := amd (below_set (g := gm) (j := 2) (v := .int .u64 i1) HB4.out em.out)
  generalize (World.setCell w4 ⟨gm, 2, none⟩ (.int .u64 i1)) = w5 at rr5 mm5 HB5 ⊢
  clear HB4 rr4 mm4 cr4 fr4 cm4 fm4
  have cr5 := Mine.cells15 rr5.out
  have fr5 := blk_frozen rr5.out
  have cm5 := Mine.cells15 mm5.out
  have fm5 := blk_frozen mm5.out
  refine start_ (n := 12) (S := fun w' => w'.cell? ⟨ad.block, ad.off + 17, none⟩ = some (.int .u8 (rd l0 17)) ∧ w'.cell? ⟨ad.block, ad.off + 18, none⟩ = some (.int .u8 (rd l0 18))) (ds := [11]) #[false, false, false, false, false, false, false, false, false, false, false, false] (by kernel_rfl) rfl rfl ⟨((Below.cell (below_drew1 HB5.out) (World.block_lt_of_cell? w _ x17_)).trans x17_), ((Below.cell (below_drew1 HB5.out) (World.block_lt_of_cell? w _ x18_)).trans x18_)⟩ (fun hHeld => ?_)
  refine Mine.pS 0 (some 78) ?_; refine Mine.pS 1 (some 79) ?_; refine Mine.pS 5 (some 83) ?_; refine Mine.pS 6 (some 84) ?_; refine Mine.tS 2 (some 80) hHeld ?_; refine Mine.pS 3 (some 81) ?_; refine Mine.pS 4 (some 82) ?_; refine Mine.tS 7 (some 85) hHeld ?_; refine Mine.pS 8 (some 86) ?_; refine Mine.pS 9 (some 87) ?_; refine Mine.pS 10 (some 88) ?_
  refine last_ (i := 11) (N := none) #[true, true, true, true, true, true, true, true, true, true, true, true] rfl rfl (by kernel_rfl) (by decide) (fun K hK => ?_)
  refine skip_ (w1 := ?_) (by rfl) rfl ?_ ?_
  rotate_left
  · go_simp
    rfl
  refine hK.out _ _ ?_
  clear hK K
  refine done_ (by kernel_rfl) ?_
  
  have rr6 := amd (blk_drew (blk_far (p := ⟨gm, 4, none⟩) rr5.out (Ne.symm ng.out) (.int .i64 (wrap64 ((wrap64 ((wrap64 (rd l0 17)) * 256)) + (wrap64 (rd l0 18)))))))
  have mm6 := amd (blk_drew (blk_put (cs' := M15 (wrap64 (rd l0 0)) p1 i1 0 (wrap64 ((wrap64 ((wrap64 (rd l0 17)) * 256)) + (wrap64 (rd l0 18)))) 0 0 0 0 0 0 0 0 0 ⟨#[]⟩) mm5.out 4 (.int .i64 (wrap64 ((wrap64 ((wrap64 (rd l0 17)) * 256)) + (wrap64 (rd l0 18))))) rfl))
  have HB6 := amd (below_drew1 (below_set (g := gm) (j := 4) (v := .int .i64 (wrap64 ((wrap64 ((wrap64 (rd l0 17)) * 256)) + (wrap64 (rd l0 18))))) HB5.out em.out))
  generalize World.drew (World.setCell w5 ⟨gm, 4, none⟩ (.int .i64 (wrap64 ((wrap64 ((wrap64 (rd l0 17)) * 256)) + (wrap64 (rd l0 18)))))) = w6 at rr6 mm6 HB6 ⊢
  clear HB5 rr5 mm5 cr5 fr5 cm5 fm5
  have cr6 := Mine.cells15 rr6.out
  have fr6 := blk_frozen rr6.out
  have cm6 := Mine.cells15 mm6.out
  have fm6 := blk_frozen mm6.out
  go_wp2_with (first | (go_at_call 12; (with_reducible refine (fairleadref17_Right.calls k ((wrap64 (rd l0 0))) (p1) (i1) (0) ((wrap64 ((wrap64 ((wrap64 (rd l0 17)) * 256)) + (wrap64 (rd l0 18))))) (0) (0) (0) (0) (0) (0) (0) (0) (0) ((⟨#[]⟩ : ByteArray)) true _ HRt.out).mono ?_); rintro e w7 ⟨rfl, hb⟩; have rr7 := amd (blk_below rr6.out hb); have mm7 := amd (blk_below mm6.out hb); have HB7 := amd (below_step HB6.out hb); clear HB6 rr6 mm6 cr6 fr6 cm6 fm6; have cr7 := Mine.cells15 rr7.out; have fr7 := blk_frozen rr7.out; have cm7 := Mine.cells15 mm7.out; have fm7 := blk_frozen mm7.out; clear hb))
  (repeat (go_step3; (try go_wp2)))
  refine bodyPost_ret (results_ct rfl _ _ gr 28 (M15 (wrap64 (rd l0 0)) p1 i1 0 (wrap64 ((wrap64 ((wrap64 (rd l0 17)) * 256)) + (wrap64 (rd l0 18)))) 0 0 0 0 0 0 0 0 0 ⟨#[]⟩) (0, 0) _ rfl (dm_put15 _ _ _ _ _ _ _ _ _ _ _ _ _ _ _ rr7.out) hu28 rfl (by kernel_rfl)) rfl ?_
  exact ⟨rfl, (dm_put15b _ _ _ _ _ _ _ _ _ _ _ _ _ _ _ HB7.out er.out)⟩
set_option maxHeartbeats 8000000 in
set_option maxRecDepth 100000 in
theorem fairleadref17_Decode.m5L (k : Nat) (ad : Addr) (c0 : Nat) (l0 : List Int) (w : World) (hr0 : Kd.C (Kd.int .u8) w (some ad) l0.length l0) (hl : 0 < l0.length) (klo : decide ((wrap64 (rd l0 0)) < 1) = false) (khi : decide (7 < (wrap64 (rd l0 0))) = false) (kq1 : ((wrap64 (rd l0 0)) == 1) = false) (kq2 : ((wrap64 (rd l0 0)) == 2) = false) (kq4 : ((wrap64 (rd l0 0)) == 4) = false) (kq5 : ((wrap64 (rd l0 0)) == 5) = true) (kg : decide (1 < (wrap64 (rd l0 0))) = true) (hc0 : l0.length ≤ c0) (hs : decide ((l0.length : Int) < 19) = false) (p1 p2 : Int) (hp : fairleadref02_Take.f k (l0.drop 1) 8 = some (p1, p2)) (i1 i2 : Int) (hi : fairleadref02_Take.f k (l0.drop 9) 8 = some (i1, i2)) (hL : decide (19 < (l0.length : Int)) = true) :
    Calls Try.prog 14 #[.slice (some ad) l0.length c0] w (fun e w' => e = .returned (.tuple #[.agg #[.int .i64 0, .int .u64 0, .int .u64 0, .int .i64 0, .int .i64 0, .int .u32 0, .int .u32 0, .int .u64 0, .int .u64 0, .int .u64 0, .int .u64 0, .int .u64 0, .int .u64 0, .int .u64 0, .string (⟨#[]⟩ : ByteArray)], .int .i64 3]) ∧ Below w.heap.size w w') := by
  have hu28 := Try.underlying28
  have hu26 := Try.underlying26
  have hfd := fun (cs_ : Array Value) (j_ : Nat) (w_ : World) => Mine.run_field (P := Try.prog) Try.underlying26 cs_ j_ w_
  have HR0 := amd hr0
  have HB := amd (Below.refl w.heap.size w)
  have qi0 : (0 < l0.length) = True := eq_true hl
  have qj0 : ((0 : Int) < (l0.length : Int)) = True := eq_true (by omega)
  have qe0 : ((l0.length : Int) == 0) = false := bfq (by omega)
  obtain ⟨ad0, e0_, x0_⟩ := Kd.at_int HR0.out 0 (by omega) (by omega)
  cases e0_
  (try rw [show ((0 : Int)).toNat = 0 from rfl] at x0_)
  (try rw [Addr.add_zero'] at x0_)
  clear hr0
  have HC0 := amd hc0
  have hln := amd (of_decide_eq_false hs)
  obtain ⟨i0_a, hi_a, _, hsz_a, _⟩ := info_parts info5
  obtain ⟨A_a, hcut_a, hA_a, hC_a⟩ := print_drop_of (P := Try.prog) (Value.int .u8) 0 30 5 .i64 Try.underlying30 hi_a hsz_a (some ad) c0 l0 1 (by omega) (by have := hln.out; omega) HC0.out
  have HR_a : Aside0 (Kd.C (Kd.int .u8) w A_a (l0.drop (1 : Int).toNat).length (l0.drop (1 : Int).toNat)) := amd (Kd.C_of_reads (h1 := fun _ => rfl) (hA_a _ (Kd.reads_of_C HR0.out)))
  have HC_a := amd hC_a
  (try simp only [show (1 : Int).toNat = 1 from rfl] at hcut_a HR_a HC_a)
  clear hA_a hC_a hi_a hsz_a
  generalize (l0.drop 1) = L_a at hcut_a HR_a HC_a hp
  have p := amd hp
  clear hp
  obtain ⟨i0_b, hi_b, _, hsz_b, _⟩ := info_parts info5
  obtain ⟨A_b, hcut_b, hA_b, hC_b⟩ := print_drop_of (P := Try.prog) (Value.int .u8) 0 30 5 .i64 Try.underlying30 hi_b hsz_b (some ad) c0 l0 9 (by omega) (by have := hln.out; omega) HC0.out
  have HR_b : Aside0 (Kd.C (Kd.int .u8) w A_b (l0.drop (9 : Int).toNat).length (l0.drop (9 : Int).toNat)) := amd (Kd.C_of_reads (h1 := fun _ => rfl) (hA_b _ (Kd.reads_of_C HR0.out)))
  have HC_b := amd hC_b
  (try simp only [show (9 : Int).toNat = 9 from rfl] at hcut_b HR_b HC_b)
  clear hA_b hC_b hi_b hsz_b
  generalize (l0.drop 9) = L_b at hcut_b HR_b HC_b hi
  have i := amd hi
  clear hi
  obtain ⟨ad17_, e17_, x17_⟩ := Kd.at_int HR0.out 17 (by omega) (by have := hln.out; omega)
  cases e17_
  (try simp only [show (17 : Int).toNat = 17 from rfl, Nat.reduceMul, Nat.reduceEqDiff, Go.Addr.add, ↓reduceIte] at x17_)
  have qi17 : (17 < l0.length) = True := eq_true (by have := hln.out; omega)
  have qj17 : ((17 : Int) < (l0.length : Int)) = True := eq_true (by have := hln.out; omega)
  obtain ⟨ad18_, e18_, x18_⟩ := Kd.at_int HR0.out 18 (by omega) (by have := hln.out; omega)
  cases e18_
  (try simp only [show (18 : Int).toNat = 18 from rfl, Nat.reduceMul, Nat.reduceEqDiff, Go.Addr.add, ↓reduceIte] at x18_)
  have qi18 : (18 < l0.length) = True := eq_true (by have := hln.out; omega)
  have qj18 : ((18 : Int) < (l0.length : Int)) = True := eq_true (by have := hln.out; omega)
  go_enter Try.func14, Try.ntmps14
  go_wp2_with (first | ((with_reducible refine gate_dst (N := 2) rfl ?_); refine box_event ?hg (N := 2) ?hd (cs := #[.int .i64 0, .int .u64 0, .int .u64 0, .int .i64 0, .int .i64 0, .int .u32 0, .int .u32 0, .int .u64 0, .int .u64 0, .int .u64 0, .int .u64 0, .int .u64 0, .int .u64 0, .int .u64 0, .string ⟨#[]⟩]) (t := 28) ?hr ?_; (case hd => rfl); (case hg => rfl); (case hr => first | (go_simp; done) | (go_simp; rfl)); intro gr hg w1 hbox hb; have er := amd (show w.heap.size ≤ gr from by rw [hg]; exact Below.size HB.out); have HB1 := amd (below_step HB.out hb); have rr1 := amd hbox; have cr1 := Mine.cells15 rr1.out; have fr1 := blk_frozen rr1.out; clear hbox hb hg; have x0 := (HB1.out.cell (World.block_lt_of_cell? w _ x0_)).trans x0_) | ((with_reducible refine gate_dst (N := 4) rfl ?_); refine box_event ?hg (N := 4) ?hd (cs := #[.int .i64 0, .int .u64 0, .int .u64 0, .int .i64 0, .int .i64 0, .int .u32 0, .int .u32 0, .int .u64 0, .int .u64 0, .int .u64 0, .int .u64 0, .int .u64 0, .int .u64 0, .int .u64 0, .string ⟨#[]⟩]) (t := 28) ?hr ?_; (case hd => rfl); (case hg => rfl); (case hr => first | (go_simp; done) | (go_simp; rfl)); intro gm hg w2 hbox hb; have ng := amd (show gm ≠ gr from by rw [hg]; exact Nat.ne_of_gt (blk_lt rr1.out)); have em := amd (show w.heap.size ≤ gm from by rw [hg]; exact Below.size HB1.out); have rr2 := amd (blk_below rr1.out hb); have HB2 := amd (below_step HB1.out hb); have mm2 := amd hbox; clear HB1 rr1 cr1 fr1 x0; have cr2 := Mine.cells15 rr2.out; have fr2 := blk_frozen rr2.out; have cm2 := Mine.cells15 mm2.out; have fm2 := blk_frozen mm2.out; have n_gm_gr := ng.out; have n_gr_gm := Ne.symm ng.out; clear hbox hb hg) | (go_at_call 29; (with_reducible refine (fairleadref02_Take.calls k _ _ L_a 8 p1 p2 _ (Kd.C_below HR_a.out (dm_put15b _ _ _ _ _ _ _ _ _ _ _ _ _ _ _ HB2.out em.out)) HC_a.out p.out).mono ?_); rintro e w3 ⟨rfl, nd_, hq_⟩; have rr3 := amd (dm_dr hq_ (dm_far15 _ _ _ _ _ _ _ _ _ _ _ _ _ _ _ rr2.out (Ne.symm ng.out))); have mm3 := amd (dm_dr hq_ (dm_put15 _ _ _ _ _ _ _ _ _ _ _ _ _ _ _ mm2.out)); have HB3 := amd (dm_drb hq_ (dm_put15b _ _ _ _ _ _ _ _ _ _ _ _ _ _ _ HB2.out em.out)); clear HB2 rr2 mm2 cr2 fr2 cm2 fm2; have cr3 := Mine.cells15 rr3.out; have fr3 := blk_frozen rr3.out; have cm3 := Mine.cells15 mm3.out; have fm3 := blk_frozen mm3.out; clear hq_ nd_) | (go_at_call 29; (with_reducible refine (fairleadref02_Take.calls k _ _ L_b 8 i1 i2 _ (Kd.C_below HR_b.out (below_set (g := gm) (j := 1) (v := .int .u64 p1) HB3.out em.out)) HC_b.out i.out).mono ?_); rintro e w4 ⟨rfl, nd_, hq_⟩; have rr4 := amd (dm_dr hq_ (blk_far (p := ⟨gm, 1, none⟩) rr3.out (Ne.symm ng.out) (.int .u64 p1))); have mm4 := amd (dm_dr hq_ (blk_put (cs' := M15 (wrap64 (rd l0 0)) p1 0 0 0 0 0 0 0 0 0 0 0 0 ⟨#[]⟩) mm3.out 1 (.int .u64 p1) rfl)); have HB4 := amd (dm_drb hq_ (below_set (g := gm) (j := 1) (v := .int .u64 p1) HB3.out em.out)); clear HB3 rr3 mm3 cr3 fr3 cm3 fm3; have cr4 := Mine.cells15 rr4.out; have fr4 := blk_frozen rr4.out; have cm4 := Mine.cells15 mm4.out; have fm4 := blk_frozen mm4.out; clear hq_ nd_))
  have rr5 := amd (blk_far (p := ⟨gm, 2, none⟩) rr4.out (Ne.symm ng.out) (.int .u64 i1))
  have mm5 := amd (blk_put (cs' := M15 (wrap64 (rd l0 0)) p1 i1 0 0 0 0 0 0 0 0 0 0 0 ⟨#[]⟩) mm4.out 2 (.int .u64 i1) rfl)
  have HB5 := amd (below_set (g := gm) (j := 2) (v := .int .u64 i1) HB4.out em.out)
  generalize (World.setCell w4 ⟨gm, 2, none⟩ (.int .u64 i1)) = w5 at rr5 mm5 HB5 ⊢
  clear HB4 rr4 mm4 cr4 fr4 cm4 fm4
  have cr5 := Mine.cells15 rr5.out
  have fr5 := blk_frozen rr5.out
  have cm5 := Mine.cells15 mm5.out
  have fm5 := blk_frozen mm5.out
  refine start_ (n := 12) (S := fun w' => w'.cell? ⟨ad.block, ad.off + 17, none⟩ = some (.int .u8 (rd l0 17)) ∧ w'.cell? ⟨ad.block, ad.off + 18, none⟩ = some (.int .u8 (rd l0 18))) (ds := [11]) #[false, false, false, false, false, false, false, false, false, false, false, false] (by kernel_rfl) rfl rfl ⟨((Below.cell (below_drew1 HB5.out) (World.block_lt_of_cell? w _ x17_)).trans x17_), ((Below.cell (below_drew1 HB5.out) (World.block_lt_of_cell? w _ x18_)).trans x18_)⟩ (fun hHeld => ?_)
  refine Mine.pS 0 (some 78) ?_; refine Mine.pS 1 (some 79) ?_; refine Mine.pS 5 (some 83) ?_; refine Mine.pS 6 (some 84) ?_; refine Mine.tS 2 (some 80) hHeld ?_; refine Mine.pS 3 (some 81) ?_; refine Mine.pS 4 (some 82) ?_; refine Mine.tS 7 (some 85) hHeld ?_; refine Mine.pS 8 (some 86) ?_; refine Mine.pS 9 (some 87) ?_; refine Mine.pS 10 (some 88) ?_
  refine last_ (i := 11) (N := none) #[true, true, true, true, true, true, true, true, true, true, true, true] rfl rfl (by kernel_rfl) (by decide) (fun K hK => ?_)
  refine skip_ (w1 := ?_) (by rfl) rfl ?_ ?_
  rotate_left
  · go_simp
    rfl
  refine hK.out _ _ ?_
  clear hK K
  refine done_ (by kernel_rfl) ?_
  
  have rr6 := amd (blk_drew (blk_far (p := ⟨gm, 4, none⟩) rr5.out (Ne.symm ng.out) (.int .i64 (wrap64 ((wrap64 ((wrap64 (rd l0 17)) * 256)) + (wrap64 (rd l0 18)))))))
  have mm6 := amd (blk_drew (blk_put (cs' := M15 (wrap64 (rd l0 0)) p1 i1 0 (wrap64 ((wrap64 ((wrap64 (rd l0 17)) * 256)) + (wrap64 (rd l0 18)))) 0 0 0 0 0 0 0 0 0 ⟨#[]⟩) mm5.out 4 (.int .i64 (wrap64 ((wrap64 ((wrap64 (rd l0 17)) * 256)) + (wrap64 (rd l0 18))))) rfl))
  have HB6 := amd (below_drew1 (below_set (g := gm) (j := 4) (v := .int .i64 (wrap64 ((wrap64 ((wrap64 (rd l0 17)) * 256)) + (wrap64 (rd l0 18))))) HB5.out em.out))
  generalize World.drew (World.setCell w5 ⟨gm, 4, none⟩ (.int .i64 (wrap64 ((wrap64 ((wrap64 (rd l0 17)) * 256)) + (wrap64 (rd l0 18)))))) = w6 at rr6 mm6 HB6 ⊢
  clear HB5 rr5 mm5 cr5 fr5 cm5 fm5
  have cr6 := Mine.cells15 rr6.out
  have fr6 := blk_frozen rr6.out
  have cm6 := Mine.cells15 mm6.out
  have fm6 := blk_frozen mm6.out
  go_wp2
  (repeat (go_step3; (try go_wp2)))
  refine bodyPost_ret (results_ct rfl _ _ gr 28 (M15 0 0 0 0 0 0 0 0 0 0 0 0 0 0 ⟨#[]⟩) (0, 0) _ rfl (dm_put15 _ _ _ _ _ _ _ _ _ _ _ _ _ _ _ rr6.out) hu28 rfl (by kernel_rfl)) rfl ?_
  exact ⟨rfl, (dm_put15b _ _ _ _ _ _ _ _ _ _ _ _ _ _ _ HB6.out er.out)⟩
set_option maxHeartbeats 8000000 in
set_option maxRecDepth 100000 in
theorem fairleadref17_Decode.m5W (k : Nat) (ad : Addr) (c0 : Nat) (l0 : List Int) (w : World) (hr0 : Kd.C (Kd.int .u8) w (some ad) l0.length l0) (hl : 0 < l0.length) (klo : decide ((wrap64 (rd l0 0)) < 1) = false) (khi : decide (7 < (wrap64 (rd l0 0))) = false) (kq1 : ((wrap64 (rd l0 0)) == 1) = false) (kq2 : ((wrap64 (rd l0 0)) == 2) = false) (kq4 : ((wrap64 (rd l0 0)) == 4) = false) (kq5 : ((wrap64 (rd l0 0)) == 5) = true) (kg : decide (1 < (wrap64 (rd l0 0))) = true) (hc0 : l0.length ≤ c0) (hs : decide ((l0.length : Int) < 19) = false) (p1 p2 : Int) (hp : fairleadref02_Take.f k (l0.drop 1) 8 = some (p1, p2)) (i1 i2 : Int) (hi : fairleadref02_Take.f k (l0.drop 9) 8 = some (i1, i2)) (hL : decide (19 < (l0.length : Int)) = false) (hR : fairleadref17_Right.f k ((wrap64 (rd l0 0))) (p1) (i1) (0) ((wrap64 ((wrap64 ((wrap64 (rd l0 17)) * 256)) + (wrap64 (rd l0 18))))) (0) (0) (0) (0) (0) (0) (0) (0) (0) ((⟨#[]⟩ : ByteArray)) = some false) :
    Calls Try.prog 14 #[.slice (some ad) l0.length c0] w (fun e w' => e = .returned (.tuple #[.agg #[.int .i64 0, .int .u64 0, .int .u64 0, .int .i64 0, .int .i64 0, .int .u32 0, .int .u32 0, .int .u64 0, .int .u64 0, .int .u64 0, .int .u64 0, .int .u64 0, .int .u64 0, .int .u64 0, .string (⟨#[]⟩ : ByteArray)], .int .i64 1]) ∧ Below w.heap.size w w') := by
  have hu28 := Try.underlying28
  have hu26 := Try.underlying26
  have hfd := fun (cs_ : Array Value) (j_ : Nat) (w_ : World) => Mine.run_field (P := Try.prog) Try.underlying26 cs_ j_ w_
  have HR0 := amd hr0
  have HB := amd (Below.refl w.heap.size w)
  have qi0 : (0 < l0.length) = True := eq_true hl
  have qj0 : ((0 : Int) < (l0.length : Int)) = True := eq_true (by omega)
  have qe0 : ((l0.length : Int) == 0) = false := bfq (by omega)
  obtain ⟨ad0, e0_, x0_⟩ := Kd.at_int HR0.out 0 (by omega) (by omega)
  cases e0_
  (try rw [show ((0 : Int)).toNat = 0 from rfl] at x0_)
  (try rw [Addr.add_zero'] at x0_)
  clear hr0
  have HC0 := amd hc0
  have hln := amd (of_decide_eq_false hs)
  obtain ⟨i0_a, hi_a, _, hsz_a, _⟩ := info_parts info5
  obtain ⟨A_a, hcut_a, hA_a, hC_a⟩ := print_drop_of (P := Try.prog) (Value.int .u8) 0 30 5 .i64 Try.underlying30 hi_a hsz_a (some ad) c0 l0 1 (by omega) (by have := hln.out; omega) HC0.out
  have HR_a : Aside0 (Kd.C (Kd.int .u8) w A_a (l0.drop (1 : Int).toNat).length (l0.drop (1 : Int).toNat)) := amd (Kd.C_of_reads (h1 := fun _ => rfl) (hA_a _ (Kd.reads_of_C HR0.out)))
  have HC_a := amd hC_a
  (try simp only [show (1 : Int).toNat = 1 from rfl] at hcut_a HR_a HC_a)
  clear hA_a hC_a hi_a hsz_a
  generalize (l0.drop 1) = L_a at hcut_a HR_a HC_a hp
  have p := amd hp
  clear hp
  obtain ⟨i0_b, hi_b, _, hsz_b, _⟩ := info_parts info5
  obtain ⟨A_b, hcut_b, hA_b, hC_b⟩ := print_drop_of (P := Try.prog) (Value.int .u8) 0 30 5 .i64 Try.underlying30 hi_b hsz_b (some ad) c0 l0 9 (by omega) (by have := hln.out; omega) HC0.out
  have HR_b : Aside0 (Kd.C (Kd.int .u8) w A_b (l0.drop (9 : Int).toNat).length (l0.drop (9 : Int).toNat)) := amd (Kd.C_of_reads (h1 := fun _ => rfl) (hA_b _ (Kd.reads_of_C HR0.out)))
  have HC_b := amd hC_b
  (try simp only [show (9 : Int).toNat = 9 from rfl] at hcut_b HR_b HC_b)
  clear hA_b hC_b hi_b hsz_b
  generalize (l0.drop 9) = L_b at hcut_b HR_b HC_b hi
  have i := amd hi
  clear hi
  obtain ⟨ad17_, e17_, x17_⟩ := Kd.at_int HR0.out 17 (by omega) (by have := hln.out; omega)
  cases e17_
  (try simp only [show (17 : Int).toNat = 17 from rfl, Nat.reduceMul, Nat.reduceEqDiff, Go.Addr.add, ↓reduceIte] at x17_)
  have qi17 : (17 < l0.length) = True := eq_true (by have := hln.out; omega)
  have qj17 : ((17 : Int) < (l0.length : Int)) = True := eq_true (by have := hln.out; omega)
  obtain ⟨ad18_, e18_, x18_⟩ := Kd.at_int HR0.out 18 (by omega) (by have := hln.out; omega)
  cases e18_
  (try simp only [show (18 : Int).toNat = 18 from rfl, Nat.reduceMul, Nat.reduceEqDiff, Go.Addr.add, ↓reduceIte] at x18_)
  have qi18 : (18 < l0.length) = True := eq_true (by have := hln.out; omega)
  have qj18 : ((18 : Int) < (l0.length : Int)) = True := eq_true (by have := hln.out; omega)
  have HRt := amd hR
  go_enter Try.func14, Try.ntmps14
  go_wp2_with (first | ((with_reducible refine gate_dst (N := 2) rfl ?_); refine box_event ?hg (N := 2) ?hd (cs := #[.int .i64 0, .int .u64 0, .int .u64 0, .int .i64 0, .int .i64 0, .int .u32 0, .int .u32 0, .int .u64 0, .int .u64 0, .int .u64 0, .int .u64 0, .int .u64 0, .int .u64 0, .int .u64 0, .string ⟨#[]⟩]) (t := 28) ?hr ?_; (case hd => rfl); (case hg => rfl); (case hr => first | (go_simp; done) | (go_simp; rfl)); intro gr hg w1 hbox hb; have er := amd (show w.heap.size ≤ gr from by rw [hg]; exact Below.size HB.out); have HB1 := amd (below_step HB.out hb); have rr1 := amd hbox; have cr1 := Mine.cells15 rr1.out; have fr1 := blk_frozen rr1.out; clear hbox hb hg; have x0 := (HB1.out.cell (World.block_lt_of_cell? w _ x0_)).trans x0_) | ((with_reducible refine gate_dst (N := 4) rfl ?_); refine box_event ?hg (N := 4) ?hd (cs := #[.int .i64 0, .int .u64 0, .int .u64 0, .int .i64 0, .int .i64 0, .int .u32 0, .int .u32 0, .int .u64 0, .int .u64 0, .int .u64 0, .int .u64 0, .int .u64 0, .int .u64 0, .int .u64 0, .string ⟨#[]⟩]) (t := 28) ?hr ?_; (case hd => rfl); (case hg => rfl); (case hr => first | (go_simp; done) | (go_simp; rfl)); intro gm hg w2 hbox hb; have ng := amd (show gm ≠ gr from by rw [hg]; exact Nat.ne_of_gt (blk_lt rr1.out)); have em := amd (show w.heap.size ≤ gm from by rw [hg]; exact Below.size HB1.out); have rr2 := amd (blk_below rr1.out hb); have HB2 := amd (below_step HB1.out hb); have mm2 := amd hbox; clear HB1 rr1 cr1 fr1 x0; have cr2 := Mine.cells15 rr2.out; have fr2 := blk_frozen rr2.out; have cm2 := Mine.cells15 mm2.out; have fm2 := blk_frozen mm2.out; have n_gm_gr := ng.out; have n_gr_gm := Ne.symm ng.out; clear hbox hb hg) | (go_at_call 29; (with_reducible refine (fairleadref02_Take.calls k _ _ L_a 8 p1 p2 _ (Kd.C_below HR_a.out (dm_put15b _ _ _ _ _ _ _ _ _ _ _ _ _ _ _ HB2.out em.out)) HC_a.out p.out).mono ?_); rintro e w3 ⟨rfl, nd_, hq_⟩; have rr3 := amd (dm_dr hq_ (dm_far15 _ _ _ _ _ _ _ _ _ _ _ _ _ _ _ rr2.out (Ne.symm ng.out))); have mm3 := amd (dm_dr hq_ (dm_put15 _ _ _ _ _ _ _ _ _ _ _ _ _ _ _ mm2.out)); have HB3 := amd (dm_drb hq_ (dm_put15b _ _ _ _ _ _ _ _ _ _ _ _ _ _ _ HB2.out em.out)); clear HB2 rr2 mm2 cr2 fr2 cm2 fm2; have cr3 := Mine.cells15 rr3.out; have fr3 := blk_frozen rr3.out; have cm3 := Mine.cells15 mm3.out; have fm3 := blk_frozen mm3.out; clear hq_ nd_) | (go_at_call 29; (with_reducible refine (fairleadref02_Take.calls k _ _ L_b 8 i1 i2 _ (Kd.C_below HR_b.out (below_set (g := gm) (j := 1) (v := .int .u64 p1) HB3.out em.out)) HC_b.out i.out).mono ?_); rintro e w4 ⟨rfl, nd_, hq_⟩; have rr4 := amd (dm_dr hq_ (blk_far (p := ⟨gm, 1, none⟩) rr3.out (Ne.symm ng.out) (.int .u64 p1))); have mm4 := amd (dm_dr hq_ (blk_put (cs' := M15 (wrap64 (rd l0 0)) p1 0 0 0 0 0 0 0 0 0 0 0 0 ⟨#[]⟩) mm3.out 1 (.int .u64 p1) rfl)); have HB4 := amd (dm_drb hq_ (below_set (g := gm) (j := 1) (v := .int .u64 p1) HB3.out em.out)); clear HB3 rr3 mm3 cr3 fr3 cm3 fm3; have cr4 := Mine.cells15 rr4.out; have fr4 := blk_frozen rr4.out; have cm4 := Mine.cells15 mm4.out; have fm4 := blk_frozen mm4.out; clear hq_ nd_))
  have rr5 := amd (blk_far (p := ⟨gm, 2, none⟩) rr4.out (Ne.symm ng.out) (.int .u64 i1))
  have mm5 := amd (blk_put (cs' := M15 (wrap64 (rd l0 0)) p1 i1 0 0 0 0 0 0 0 0 0 0 0 ⟨#[]⟩) mm4.out 2 (.int .u64 i1) rfl)
  have HB5 := amd (below_set (g := gm) (j := 2) (v := .int .u64 i1) HB4.out em.out)
  generalize (World.setCell w4 ⟨gm, 2, none⟩ (.int .u64 i1)) = w5 at rr5 mm5 HB5 ⊢
  clear HB4 rr4 mm4 cr4 fr4 cm4 fm4
  have cr5 := Mine.cells15 rr5.out
  have fr5 := blk_frozen rr5.out
  have cm5 := Mine.cells15 mm5.out
  have fm5 := blk_frozen mm5.out
  refine start_ (n := 12) (S := fun w' => w'.cell? ⟨ad.block, ad.off + 17, none⟩ = some (.int .u8 (rd l0 17)) ∧ w'.cell? ⟨ad.block, ad.off + 18, none⟩ = some (.int .u8 (rd l0 18))) (ds := [11]) #[false, false, false, false, false, false, false, false, false, false, false, false] (by kernel_rfl) rfl rfl ⟨((Below.cell (below_drew1 HB5.out) (World.block_lt_of_cell? w _ x17_)).trans x17_), ((Below.cell (below_drew1 HB5.out) (World.block_lt_of_cell? w _ x18_)).trans x18_)⟩ (fun hHeld => ?_)
  refine Mine.pS 0 (some 78) ?_; refine Mine.pS 1 (some 79) ?_; refine Mine.pS 5 (some 83) ?_; refine Mine.pS 6 (some 84) ?_; refine Mine.tS 2 (some 80) hHeld ?_; refine Mine.pS 3 (some 81) ?_; refine Mine.pS 4 (some 82) ?_; refine Mine.tS 7 (some 85) hHeld ?_; refine Mine.pS 8 (some 86) ?_; refine Mine.pS 9 (some 87) ?_; refine Mine.pS 10 (some 88) ?_
  refine last_ (i := 11) (N := none) #[true, true, true, true, true, true, true, true, true, true, true, true] rfl rfl (by kernel_rfl) (by decide) (fun K hK => ?_)
  refine skip_ (w1 := ?_) (by rfl) rfl ?_ ?_
  rotate_left
  · go_simp
    rfl
  refine hK.out _ _ ?_
  clear hK K
  refine done_ (by kernel_rfl) ?_
  
  have rr6 := amd (blk_drew (blk_far (p := ⟨gm, 4, none⟩) rr5.out (Ne.symm ng.out) (.int .i64 (wrap64 ((wrap64 ((wrap64 (rd l0 17)) * 256)) + (wrap64 (rd l0 18)))))))
  have mm6 := amd (blk_drew (blk_put (cs' := M15 (wrap64 (rd l0 0)) p1 i1 0 (wrap64 ((wrap64 ((wrap64 (rd l0 17)) * 256)) + (wrap64 (rd l0 18)))) 0 0 0 0 0 0 0 0 0 ⟨#[]⟩) mm5.out 4 (.int .i64 (wrap64 ((wrap64 ((wrap64 (rd l0 17)) * 256)) + (wrap64 (rd l0 18))))) rfl))
  have HB6 := amd (below_drew1 (below_set (g := gm) (j := 4) (v := .int .i64 (wrap64 ((wrap64 ((wrap64 (rd l0 17)) * 256)) + (wrap64 (rd l0 18))))) HB5.out em.out))
  generalize World.drew (World.setCell w5 ⟨gm, 4, none⟩ (.int .i64 (wrap64 ((wrap64 ((wrap64 (rd l0 17)) * 256)) + (wrap64 (rd l0 18)))))) = w6 at rr6 mm6 HB6 ⊢
  clear HB5 rr5 mm5 cr5 fr5 cm5 fm5
  have cr6 := Mine.cells15 rr6.out
  have fr6 := blk_frozen rr6.out
  have cm6 := Mine.cells15 mm6.out
  have fm6 := blk_frozen mm6.out
  go_wp2_with (first | (go_at_call 12; (with_reducible refine (fairleadref17_Right.calls k ((wrap64 (rd l0 0))) (p1) (i1) (0) ((wrap64 ((wrap64 ((wrap64 (rd l0 17)) * 256)) + (wrap64 (rd l0 18))))) (0) (0) (0) (0) (0) (0) (0) (0) (0) ((⟨#[]⟩ : ByteArray)) false _ HRt.out).mono ?_); rintro e w7 ⟨rfl, hb⟩; have rr7 := amd (blk_below rr6.out hb); have mm7 := amd (blk_below mm6.out hb); have HB7 := amd (below_step HB6.out hb); clear HB6 rr6 mm6 cr6 fr6 cm6 fm6; have cr7 := Mine.cells15 rr7.out; have fr7 := blk_frozen rr7.out; have cm7 := Mine.cells15 mm7.out; have fm7 := blk_frozen mm7.out; clear hb))
  (repeat (go_step3; (try go_wp2)))
  refine bodyPost_ret (results_ct rfl _ _ gr 28 (M15 0 0 0 0 0 0 0 0 0 0 0 0 0 0 ⟨#[]⟩) (0, 0) _ rfl (dm_put15 _ _ _ _ _ _ _ _ _ _ _ _ _ _ _ rr7.out) hu28 rfl (by kernel_rfl)) rfl ?_
  exact ⟨rfl, (dm_put15b _ _ _ _ _ _ _ _ _ _ _ _ _ _ _ HB7.out er.out)⟩
set_option maxHeartbeats 8000000 in
set_option maxRecDepth 100000 in
theorem fairleadref17_Decode.m5K (k : Nat) (ad : Addr) (c0 : Nat) (l0 : List Int) (w : World) (hr0 : Kd.C (Kd.int .u8) w (some ad) l0.length l0) (hl : 0 < l0.length) (klo : decide ((wrap64 (rd l0 0)) < 1) = false) (khi : decide (7 < (wrap64 (rd l0 0))) = false) (kq1 : ((wrap64 (rd l0 0)) == 1) = false) (kq2 : ((wrap64 (rd l0 0)) == 2) = false) (kq4 : ((wrap64 (rd l0 0)) == 4) = false) (kq5 : ((wrap64 (rd l0 0)) == 5) = true) (kg : decide (1 < (wrap64 (rd l0 0))) = true) (hc0 : l0.length ≤ c0) (hs : decide ((l0.length : Int) < 19) = false) (p1 p2 : Int) (hp : fairleadref02_Take.f k (l0.drop 1) 8 = some (p1, p2)) (i1 i2 : Int) (hi : fairleadref02_Take.f k (l0.drop 9) 8 = some (i1, i2)) (hL : decide (19 < (l0.length : Int)) = false) (hR : fairleadref17_Right.f k ((wrap64 (rd l0 0))) (p1) (i1) (0) ((wrap64 ((wrap64 ((wrap64 (rd l0 17)) * 256)) + (wrap64 (rd l0 18))))) (0) (0) (0) (0) (0) (0) (0) (0) (0) ((⟨#[]⟩ : ByteArray)) = some true) :
    Calls Try.prog 14 #[.slice (some ad) l0.length c0] w (fun e w' => e = .returned (.tuple #[.agg #[.int .i64 (wrap64 (rd l0 0)), .int .u64 p1, .int .u64 i1, .int .i64 0, .int .i64 (wrap64 ((wrap64 ((wrap64 (rd l0 17)) * 256)) + (wrap64 (rd l0 18)))), .int .u32 0, .int .u32 0, .int .u64 0, .int .u64 0, .int .u64 0, .int .u64 0, .int .u64 0, .int .u64 0, .int .u64 0, .string (⟨#[]⟩ : ByteArray)], .int .i64 0]) ∧ Below w.heap.size w w') := by
  have hu28 := Try.underlying28
  have hu26 := Try.underlying26
  have hfd := fun (cs_ : Array Value) (j_ : Nat) (w_ : World) => Mine.run_field (P := Try.prog) Try.underlying26 cs_ j_ w_
  have HR0 := amd hr0
  have HB := amd (Below.refl w.heap.size w)
  have qi0 : (0 < l0.length) = True := eq_true hl
  have qj0 : ((0 : Int) < (l0.length : Int)) = True := eq_true (by omega)
  have qe0 : ((l0.length : Int) == 0) = false := bfq (by omega)
  obtain ⟨ad0, e0_, x0_⟩ := Kd.at_int HR0.out 0 (by omega) (by omega)
  cases e0_
  (try rw [show ((0 : Int)).toNat = 0 from rfl] at x0_)
  (try rw [Addr.add_zero'] at x0_)
  clear hr0
  have HC0 := amd hc0
  have hln := amd (of_decide_eq_false hs)
  obtain ⟨i0_a, hi_a, _, hsz_a, _⟩ := info_parts info5
  obtain ⟨A_a, hcut_a, hA_a, hC_a⟩ := print_drop_of (P := Try.prog) (Value.int .u8) 0 30 5 .i64 Try.underlying30 hi_a hsz_a (some ad) c0 l0 1 (by omega) (by have := hln.out; omega) HC0.out
  have HR_a : Aside0 (Kd.C (Kd.int .u8) w A_a (l0.drop (1 : Int).toNat).length (l0.drop (1 : Int).toNat)) := amd (Kd.C_of_reads (h1 := fun _ => rfl) (hA_a _ (Kd.reads_of_C HR0.out)))
  have HC_a := amd hC_a
  (try simp only [show (1 : Int).toNat = 1 from rfl] at hcut_a HR_a HC_a)
  clear hA_a hC_a hi_a hsz_a
  generalize (l0.drop 1) = L_a at hcut_a HR_a HC_a hp
  have p := amd hp
  clear hp
  obtain ⟨i0_b, hi_b, _, hsz_b, _⟩ := info_parts info5
  obtain ⟨A_b, hcut_b, hA_b, hC_b⟩ := print_drop_of (P := Try.prog) (Value.int .u8) 0 30 5 .i64 Try.underlying30 hi_b hsz_b (some ad) c0 l0 9 (by omega) (by have := hln.out; omega) HC0.out
  have HR_b : Aside0 (Kd.C (Kd.int .u8) w A_b (l0.drop (9 : Int).toNat).length (l0.drop (9 : Int).toNat)) := amd (Kd.C_of_reads (h1 := fun _ => rfl) (hA_b _ (Kd.reads_of_C HR0.out)))
  have HC_b := amd hC_b
  (try simp only [show (9 : Int).toNat = 9 from rfl] at hcut_b HR_b HC_b)
  clear hA_b hC_b hi_b hsz_b
  generalize (l0.drop 9) = L_b at hcut_b HR_b HC_b hi
  have i := amd hi
  clear hi
  obtain ⟨ad17_, e17_, x17_⟩ := Kd.at_int HR0.out 17 (by omega) (by have := hln.out; omega)
  cases e17_
  (try simp only [show (17 : Int).toNat = 17 from rfl, Nat.reduceMul, Nat.reduceEqDiff, Go.Addr.add, ↓reduceIte] at x17_)
  have qi17 : (17 < l0.length) = True := eq_true (by have := hln.out; omega)
  have qj17 : ((17 : Int) < (l0.length : Int)) = True := eq_true (by have := hln.out; omega)
  obtain ⟨ad18_, e18_, x18_⟩ := Kd.at_int HR0.out 18 (by omega) (by have := hln.out; omega)
  cases e18_
  (try simp only [show (18 : Int).toNat = 18 from rfl, Nat.reduceMul, Nat.reduceEqDiff, Go.Addr.add, ↓reduceIte] at x18_)
  have qi18 : (18 < l0.length) = True := eq_true (by have := hln.out; omega)
  have qj18 : ((18 : Int) < (l0.length : Int)) = True := eq_true (by have := hln.out; omega)
  have HRt := amd hR
  go_enter Try.func14, Try.ntmps14
  go_wp2_with (first | ((with_reducible refine gate_dst (N := 2) rfl ?_); refine box_event ?hg (N := 2) ?hd (cs := #[.int .i64 0, .int .u64 0, .int .u64 0, .int .i64 0, .int .i64 0, .int .u32 0, .int .u32 0, .int .u64 0, .int .u64 0, .int .u64 0, .int .u64 0, .int .u64 0, .int .u64 0, .int .u64 0, .string ⟨#[]⟩]) (t := 28) ?hr ?_; (case hd => rfl); (case hg => rfl); (case hr => first | (go_simp; done) | (go_simp; rfl)); intro gr hg w1 hbox hb; have er := amd (show w.heap.size ≤ gr from by rw [hg]; exact Below.size HB.out); have HB1 := amd (below_step HB.out hb); have rr1 := amd hbox; have cr1 := Mine.cells15 rr1.out; have fr1 := blk_frozen rr1.out; clear hbox hb hg; have x0 := (HB1.out.cell (World.block_lt_of_cell? w _ x0_)).trans x0_) | ((with_reducible refine gate_dst (N := 4) rfl ?_); refine box_event ?hg (N := 4) ?hd (cs := #[.int .i64 0, .int .u64 0, .int .u64 0, .int .i64 0, .int .i64 0, .int .u32 0, .int .u32 0, .int .u64 0, .int .u64 0, .int .u64 0, .int .u64 0, .int .u64 0, .int .u64 0, .int .u64 0, .string ⟨#[]⟩]) (t := 28) ?hr ?_; (case hd => rfl); (case hg => rfl); (case hr => first | (go_simp; done) | (go_simp; rfl)); intro gm hg w2 hbox hb; have ng := amd (show gm ≠ gr from by rw [hg]; exact Nat.ne_of_gt (blk_lt rr1.out)); have em := amd (show w.heap.size ≤ gm from by rw [hg]; exact Below.size HB1.out); have rr2 := amd (blk_below rr1.out hb); have HB2 := amd (below_step HB1.out hb); have mm2 := amd hbox; clear HB1 rr1 cr1 fr1 x0; have cr2 := Mine.cells15 rr2.out; have fr2 := blk_frozen rr2.out; have cm2 := Mine.cells15 mm2.out; have fm2 := blk_frozen mm2.out; have n_gm_gr := ng.out; have n_gr_gm := Ne.symm ng.out; clear hbox hb hg) | (go_at_call 29; (with_reducible refine (fairleadref02_Take.calls k _ _ L_a 8 p1 p2 _ (Kd.C_below HR_a.out (dm_put15b _ _ _ _ _ _ _ _ _ _ _ _ _ _ _ HB2.out em.out)) HC_a.out p.out).mono ?_); rintro e w3 ⟨rfl, nd_, hq_⟩; have rr3 := amd (dm_dr hq_ (dm_far15 _ _ _ _ _ _ _ _ _ _ _ _ _ _ _ rr2.out (Ne.symm ng.out))); have mm3 := amd (dm_dr hq_ (dm_put15 _ _ _ _ _ _ _ _ _ _ _ _ _ _ _ mm2.out)); have HB3 := amd (dm_drb hq_ (dm_put15b _ _ _ _ _ _ _ _ _ _ _ _ _ _ _ HB2.out em.out)); clear HB2 rr2 mm2 cr2 fr2 cm2 fm2; have cr3 := Mine.cells15 rr3.out; have fr3 := blk_frozen rr3.out; have cm3 := Mine.cells15 mm3.out; have fm3 := blk_frozen mm3.out; clear hq_ nd_) | (go_at_call 29; (with_reducible refine (fairleadref02_Take.calls k _ _ L_b 8 i1 i2 _ (Kd.C_below HR_b.out (below_set (g := gm) (j := 1) (v := .int .u64 p1) HB3.out em.out)) HC_b.out i.out).mono ?_); rintro e w4 ⟨rfl, nd_, hq_⟩; have rr4 := amd (dm_dr hq_ (blk_far (p := ⟨gm, 1, none⟩) rr3.out (Ne.symm ng.out) (.int .u64 p1))); have mm4 := amd (dm_dr hq_ (blk_put (cs' := M15 (wrap64 (rd l0 0)) p1 0 0 0 0 0 0 0 0 0 0 0 0 ⟨#[]⟩) mm3.out 1 (.int .u64 p1) rfl)); have HB4 := amd (dm_drb hq_ (below_set (g := gm) (j := 1) (v := .int .u64 p1) HB3.out em.out)); clear HB3 rr3 mm3 cr3 fr3 cm3 fm3; have cr4 := Mine.cells15 rr4.out; have fr4 := blk_frozen rr4.out; have cm4 := Mine.cells15 mm4.out; have fm4 := blk_frozen mm4.out; clear hq_ nd_))
  have rr5 := amd (blk_far (p := ⟨gm, 2, none⟩) rr4.out (Ne.symm ng.out) (.int .u64 i1))
  have mm5 := amd (blk_put (cs' := M15 (wrap64 (rd l0 0)) p1 i1 0 0 0 0 0 0 0 0 0 0 0 ⟨#[]⟩) mm4.out 2 (.int .u64 i1) rfl)
  have HB5 := amd (below_set (g := gm) (j := 2) (v := .int .u64 i1) HB4.out em.out)
  generalize (World.setCell w4 ⟨gm, 2, none⟩ (.int .u64 i1)) = w5 at rr5 mm5 HB5 ⊢
  clear HB4 rr4 mm4 cr4 fr4 cm4 fm4
  have cr5 := Mine.cells15 rr5.out
  have fr5 := blk_frozen rr5.out
  have cm5 := Mine.cells15 mm5.out
  have fm5 := blk_frozen mm5.out
  refine start_ (n := 12) (S := fun w' => w'.cell? ⟨ad.block, ad.off + 17, none⟩ = some (.int .u8 (rd l0 17)) ∧ w'.cell? ⟨ad.block, ad.off + 18, none⟩ = some (.int .u8 (rd l0 18))) (ds := [11]) #[false, false, false, false, false, false, false, false, false, false, false, false] (by kernel_rfl) rfl rfl ⟨((Below.cell (below_drew1 HB5.out) (World.block_lt_of_cell? w _ x17_)).trans x17_), ((Below.cell (below_drew1 HB5.out) (World.block_lt_of_cell? w _ x18_)).trans x18_)⟩ (fun hHeld => ?_)
  refine Mine.pS 0 (some 78) ?_; refine Mine.pS 1 (some 79) ?_; refine Mine.pS 5 (some 83) ?_; refine Mine.pS 6 (some 84) ?_; refine Mine.tS 2 (some 80) hHeld ?_; refine Mine.pS 3 (some 81) ?_; refine Mine.pS 4 (some 82) ?_; refine Mine.tS 7 (some 85) hHeld ?_; refine Mine.pS 8 (some 86) ?_; refine Mine.pS 9 (some 87) ?_; refine Mine.pS 10 (some 88) ?_
  refine last_ (i := 11) (N := none) #[true, true, true, true, true, true, true, true, true, true, true, true] rfl rfl (by kernel_rfl) (by decide) (fun K hK => ?_)
  refine skip_ (w1 := ?_) (by rfl) rfl ?_ ?_
  rotate_left
  · go_simp
    rfl
  refine hK.out _ _ ?_
  clear hK K
  refine done_ (by kernel_rfl) ?_
  
  have rr6 := amd (blk_drew (blk_far (p := ⟨gm, 4, none⟩) rr5.out (Ne.symm ng.out) (.int .i64 (wrap64 ((wrap64 ((wrap64 (rd l0 17)) * 256)) + (wrap64 (rd l0 18)))))))
  have mm6 := amd (blk_drew (blk_put (cs' := M15 (wrap64 (rd l0 0)) p1 i1 0 (wrap64 ((wrap64 ((wrap64 (rd l0 17)) * 256)) + (wrap64 (rd l0 18)))) 0 0 0 0 0 0 0 0 0 ⟨#[]⟩) mm5.out 4 (.int .i64 (wrap64 ((wrap64 ((wrap64 (rd l0 17)) * 256)) + (wrap64 (rd l0 18))))) rfl))
  have HB6 := amd (below_drew1 (below_set (g := gm) (j := 4) (v := .int .i64 (wrap64 ((wrap64 ((wrap64 (rd l0 17)) * 256)) + (wrap64 (rd l0 18))))) HB5.out em.out))
  generalize World.drew (World.setCell w5 ⟨gm, 4, none⟩ (.int .i64 (wrap64 ((wrap64 ((wrap64 (rd l0 17)) * 256)) + (wrap64 (rd l0 18)))))) = w6 at rr6 mm6 HB6 ⊢
  clear HB5 rr5 mm5 cr5 fr5 cm5 fm5
  have cr6 := Mine.cells15 rr6.out
  have fr6 := blk_frozen rr6.out
  have cm6 := Mine.cells15 mm6.out
  have fm6 := blk_frozen mm6.out
  go_wp2_with (first | (go_at_call 12; (with_reducible refine (fairleadref17_Right.calls k ((wrap64 (rd l0 0))) (p1) (i1) (0) ((wrap64 ((wrap64 ((wrap64 (rd l0 17)) * 256)) + (wrap64 (rd l0 18))))) (0) (0) (0) (0) (0) (0) (0) (0) (0) ((⟨#[]⟩ : ByteArray)) true _ HRt.out).mono ?_); rintro e w7 ⟨rfl, hb⟩; have rr7 := amd (blk_below rr6.out hb); have mm7 := amd (blk_below mm6.out hb); have HB7 := amd (below_step HB6.out hb); clear HB6 rr6 mm6 cr6 fr6 cm6 fm6; have cr7 := Mine.cells15 rr7.out; have fr7 := blk_frozen rr7.out; have cm7 := Mine.cells15 mm7.out; have fm7 := blk_frozen mm7.out; clear hb))
  (repeat (go_step3; (try go_wp2)))
  refine bodyPost_ret (results_ct rfl _ _ gr 28 (M15 (wrap64 (rd l0 0)) p1 i1 0 (wrap64 ((wrap64 ((wrap64 (rd l0 17)) * 256)) + (wrap64 (rd l0 18)))) 0 0 0 0 0 0 0 0 0 ⟨#[]⟩) (0, 0) _ rfl (dm_put15 _ _ _ _ _ _ _ _ _ _ _ _ _ _ _ rr7.out) hu28 rfl (by kernel_rfl)) rfl ?_
  exact ⟨rfl, (dm_put15b _ _ _ _ _ _ _ _ _ _ _ _ _ _ _ HB7.out er.out)⟩
set_option maxHeartbeats 8000000 in
set_option maxRecDepth 100000 in
theorem fairleadref17_Decode.m7L (k : Nat) (ad : Addr) (c0 : Nat) (l0 : List Int) (w : World) (hr0 : Kd.C (Kd.int .u8) w (some ad) l0.length l0) (hl : 0 < l0.length) (klo : decide ((wrap64 (rd l0 0)) < 1) = false) (khi : decide (7 < (wrap64 (rd l0 0))) = false) (kq1 : ((wrap64 (rd l0 0)) == 1) = false) (kq2 : ((wrap64 (rd l0 0)) == 2) = false) (kq4 : ((wrap64 (rd l0 0)) == 4) = false) (kq5 : ((wrap64 (rd l0 0)) == 5) = false) (kq7 : ((wrap64 (rd l0 0)) == 7) = true) (kg : decide (1 < (wrap64 (rd l0 0))) = true) (hc0 : l0.length ≤ c0) (hs : decide ((l0.length : Int) < 19) = false) (p1 p2 : Int) (hp : fairleadref02_Take.f k (l0.drop 1) 8 = some (p1, p2)) (i1 i2 : Int) (hi : fairleadref02_Take.f k (l0.drop 9) 8 = some (i1, i2)) (hL : decide (19 < (l0.length : Int)) = true) :
    Calls Try.prog 14 #[.slice (some ad) l0.length c0] w (fun e w' => e = .returned (.tuple #[.agg #[.int .i64 0, .int .u64 0, .int .u64 0, .int .i64 0, .int .i64 0, .int .u32 0, .int .u32 0, .int .u64 0, .int .u64 0, .int .u64 0, .int .u64 0, .int .u64 0, .int .u64 0, .int .u64 0, .string (⟨#[]⟩ : ByteArray)], .int .i64 3]) ∧ Below w.heap.size w w') := by
  have hu28 := Try.underlying28
  have hu26 := Try.underlying26
  have hfd := fun (cs_ : Array Value) (j_ : Nat) (w_ : World) => Mine.run_field (P := Try.prog) Try.underlying26 cs_ j_ w_
  have HR0 := amd hr0
  have HB := amd (Below.refl w.heap.size w)
  have qi0 : (0 < l0.length) = True := eq_true hl
  have qj0 : ((0 : Int) < (l0.length : Int)) = True := eq_true (by omega)
  have qe0 : ((l0.length : Int) == 0) = false := bfq (by omega)
  obtain ⟨ad0, e0_, x0_⟩ := Kd.at_int HR0.out 0 (by omega) (by omega)
  cases e0_
  (try rw [show ((0 : Int)).toNat = 0 from rfl] at x0_)
  (try rw [Addr.add_zero'] at x0_)
  clear hr0
  have HC0 := amd hc0
  have hln := amd (of_decide_eq_false hs)
  obtain ⟨i0_a, hi_a, _, hsz_a, _⟩ := info_parts info5
  obtain ⟨A_a, hcut_a, hA_a, hC_a⟩ := print_drop_of (P := Try.prog) (Value.int .u8) 0 30 5 .i64 Try.underlying30 hi_a hsz_a (some ad) c0 l0 1 (by omega) (by have := hln.out; omega) HC0.out
  have HR_a : Aside0 (Kd.C (Kd.int .u8) w A_a (l0.drop (1 : Int).toNat).length (l0.drop (1 : Int).toNat)) := amd (Kd.C_of_reads (h1 := fun _ => rfl) (hA_a _ (Kd.reads_of_C HR0.out)))
  have HC_a := amd hC_a
  (try simp only [show (1 : Int).toNat = 1 from rfl] at hcut_a HR_a HC_a)
  clear hA_a hC_a hi_a hsz_a
  generalize (l0.drop 1) = L_a at hcut_a HR_a HC_a hp
  have p := amd hp
  clear hp
  obtain ⟨i0_b, hi_b, _, hsz_b, _⟩ := info_parts info5
  obtain ⟨A_b, hcut_b, hA_b, hC_b⟩ := print_drop_of (P := Try.prog) (Value.int .u8) 0 30 5 .i64 Try.underlying30 hi_b hsz_b (some ad) c0 l0 9 (by omega) (by have := hln.out; omega) HC0.out
  have HR_b : Aside0 (Kd.C (Kd.int .u8) w A_b (l0.drop (9 : Int).toNat).length (l0.drop (9 : Int).toNat)) := amd (Kd.C_of_reads (h1 := fun _ => rfl) (hA_b _ (Kd.reads_of_C HR0.out)))
  have HC_b := amd hC_b
  (try simp only [show (9 : Int).toNat = 9 from rfl] at hcut_b HR_b HC_b)
  clear hA_b hC_b hi_b hsz_b
  generalize (l0.drop 9) = L_b at hcut_b HR_b HC_b hi
  have i := amd hi
  clear hi
  obtain ⟨ad17_, e17_, x17_⟩ := Kd.at_int HR0.out 17 (by omega) (by have := hln.out; omega)
  cases e17_
  (try simp only [show (17 : Int).toNat = 17 from rfl, Nat.reduceMul, Nat.reduceEqDiff, Go.Addr.add, ↓reduceIte] at x17_)
  have qi17 : (17 < l0.length) = True := eq_true (by have := hln.out; omega)
  have qj17 : ((17 : Int) < (l0.length : Int)) = True := eq_true (by have := hln.out; omega)
  obtain ⟨ad18_, e18_, x18_⟩ := Kd.at_int HR0.out 18 (by omega) (by have := hln.out; omega)
  cases e18_
  (try simp only [show (18 : Int).toNat = 18 from rfl, Nat.reduceMul, Nat.reduceEqDiff, Go.Addr.add, ↓reduceIte] at x18_)
  have qi18 : (18 < l0.length) = True := eq_true (by have := hln.out; omega)
  have qj18 : ((18 : Int) < (l0.length : Int)) = True := eq_true (by have := hln.out; omega)
  go_enter Try.func14, Try.ntmps14
  go_wp2_with (first | ((with_reducible refine gate_dst (N := 2) rfl ?_); refine box_event ?hg (N := 2) ?hd (cs := #[.int .i64 0, .int .u64 0, .int .u64 0, .int .i64 0, .int .i64 0, .int .u32 0, .int .u32 0, .int .u64 0, .int .u64 0, .int .u64 0, .int .u64 0, .int .u64 0, .int .u64 0, .int .u64 0, .string ⟨#[]⟩]) (t := 28) ?hr ?_; (case hd => rfl); (case hg => rfl); (case hr => first | (go_simp; done) | (go_simp; rfl)); intro gr hg w1 hbox hb; have er := amd (show w.heap.size ≤ gr from by rw [hg]; exact Below.size HB.out); have HB1 := amd (below_step HB.out hb); have rr1 := amd hbox; have cr1 := Mine.cells15 rr1.out; have fr1 := blk_frozen rr1.out; clear hbox hb hg; have x0 := (HB1.out.cell (World.block_lt_of_cell? w _ x0_)).trans x0_) | ((with_reducible refine gate_dst (N := 4) rfl ?_); refine box_event ?hg (N := 4) ?hd (cs := #[.int .i64 0, .int .u64 0, .int .u64 0, .int .i64 0, .int .i64 0, .int .u32 0, .int .u32 0, .int .u64 0, .int .u64 0, .int .u64 0, .int .u64 0, .int .u64 0, .int .u64 0, .int .u64 0, .string ⟨#[]⟩]) (t := 28) ?hr ?_; (case hd => rfl); (case hg => rfl); (case hr => first | (go_simp; done) | (go_simp; rfl)); intro gm hg w2 hbox hb; have ng := amd (show gm ≠ gr from by rw [hg]; exact Nat.ne_of_gt (blk_lt rr1.out)); have em := amd (show w.heap.size ≤ gm from by rw [hg]; exact Below.size HB1.out); have rr2 := amd (blk_below rr1.out hb); have HB2 := amd (below_step HB1.out hb); have mm2 := amd hbox; clear HB1 rr1 cr1 fr1 x0; have cr2 := Mine.cells15 rr2.out; have fr2 := blk_frozen rr2.out; have cm2 := Mine.cells15 mm2.out; have fm2 := blk_frozen mm2.out; have n_gm_gr := ng.out; have n_gr_gm := Ne.symm ng.out; clear hbox hb hg) | (go_at_call 29; (with_reducible refine (fairleadref02_Take.calls k _ _ L_a 8 p1 p2 _ (Kd.C_below HR_a.out (dm_put15b _ _ _ _ _ _ _ _ _ _ _ _ _ _ _ HB2.out em.out)) HC_a.out p.out).mono ?_); rintro e w3 ⟨rfl, nd_, hq_⟩; have rr3 := amd (dm_dr hq_ (dm_far15 _ _ _ _ _ _ _ _ _ _ _ _ _ _ _ rr2.out (Ne.symm ng.out))); have mm3 := amd (dm_dr hq_ (dm_put15 _ _ _ _ _ _ _ _ _ _ _ _ _ _ _ mm2.out)); have HB3 := amd (dm_drb hq_ (dm_put15b _ _ _ _ _ _ _ _ _ _ _ _ _ _ _ HB2.out em.out)); clear HB2 rr2 mm2 cr2 fr2 cm2 fm2; have cr3 := Mine.cells15 rr3.out; have fr3 := blk_frozen rr3.out; have cm3 := Mine.cells15 mm3.out; have fm3 := blk_frozen mm3.out; clear hq_ nd_) | (go_at_call 29; (with_reducible refine (fairleadref02_Take.calls k _ _ L_b 8 i1 i2 _ (Kd.C_below HR_b.out (below_set (g := gm) (j := 1) (v := .int .u64 p1) HB3.out em.out)) HC_b.out i.out).mono ?_); rintro e w4 ⟨rfl, nd_, hq_⟩; have rr4 := amd (dm_dr hq_ (blk_far (p := ⟨gm, 1, none⟩) rr3.out (Ne.symm ng.out) (.int .u64 p1))); have mm4 := amd (dm_dr hq_ (blk_put (cs' := M15 (wrap64 (rd l0 0)) p1 0 0 0 0 0 0 0 0 0 0 0 0 ⟨#[]⟩) mm3.out 1 (.int .u64 p1) rfl)); have HB4 := amd (dm_drb hq_ (below_set (g := gm) (j := 1) (v := .int .u64 p1) HB3.out em.out)); clear HB3 rr3 mm3 cr3 fr3 cm3 fm3; have cr4 := Mine.cells15 rr4.out; have fr4 := blk_frozen rr4.out; have cm4 := Mine.cells15 mm4.out; have fm4 := blk_frozen mm4.out; clear hq_ nd_))
  have rr5 := amd (blk_far (p := ⟨gm, 2, none⟩) rr4.out (Ne.symm ng.out) (.int .u64 i1))
  have mm5 := amd (blk_put (cs' := M15 (wrap64 (rd l0 0)) p1 i1 0 0 0 0 0 0 0 0 0 0 0 ⟨#[]⟩) mm4.out 2 (.int .u64 i1) rfl)
  have HB5 := amd (below_set (g := gm) (j := 2) (v := .int .u64 i1) HB4.out em.out)
  generalize (World.setCell w4 ⟨gm, 2, none⟩ (.int .u64 i1)) = w5 at rr5 mm5 HB5 ⊢
  clear HB4 rr4 mm4 cr4 fr4 cm4 fm4
  have cr5 := Mine.cells15 rr5.out
  have fr5 := blk_frozen rr5.out
  have cm5 := Mine.cells15 mm5.out
  have fm5 := blk_frozen mm5.out
  refine start_ (n := 12) (S := fun w' => w'.cell? ⟨ad.block, ad.off + 17, none⟩ = some (.int .u8 (rd l0 17)) ∧ w'.cell? ⟨ad.block, ad.off + 18, none⟩ = some (.int .u8 (rd l0 18))) (ds := [11]) #[false, false, false, false, false, false, false, false, false, false, false, false] (by kernel_rfl) rfl rfl ⟨((Below.cell (below_drew1 HB5.out) (World.block_lt_of_cell? w _ x17_)).trans x17_), ((Below.cell (below_drew1 HB5.out) (World.block_lt_of_cell? w _ x18_)).trans x18_)⟩ (fun hHeld => ?_)
  refine Mine.pS 0 (some 78) ?_; refine Mine.pS 1 (some 79) ?_; refine Mine.pS 5 (some 83) ?_; refine Mine.pS 6 (some 84) ?_; refine Mine.tS 2 (some 80) hHeld ?_; refine Mine.pS 3 (some 81) ?_; refine Mine.pS 4 (some 82) ?_; refine Mine.tS 7 (some 85) hHeld ?_; refine Mine.pS 8 (some 86) ?_; refine Mine.pS 9 (some 87) ?_; refine Mine.pS 10 (some 88) ?_
  refine last_ (i := 11) (N := none) #[true, true, true, true, true, true, true, true, true, true, true, true] rfl rfl (by kernel_rfl) (by decide) (fun K hK => ?_)
  refine skip_ (w1 := ?_) (by rfl) rfl ?_ ?_
  rotate_left
  · go_simp
    rfl
  refine hK.out _ _ ?_
  clear hK K
  refine done_ (by kernel_rfl) ?_
  
  have rr6 := amd (blk_drew (blk_far (p := ⟨gm, 4, none⟩) rr5.out (Ne.symm ng.out) (.int .i64 (wrap64 ((wrap64 ((wrap64 (rd l0 17)) * 256)) + (wrap64 (rd l0 18)))))))
  have mm6 := amd (blk_drew (blk_put (cs' := M15 (wrap64 (rd l0 0)) p1 i1 0 (wrap64 ((wrap64 ((wrap64 (rd l0 17)) * 256)) + (wrap64 (rd l0 18)))) 0 0 0 0 0 0 0 0 0 ⟨#[]⟩) mm5.out 4 (.int .i64 (wrap64 ((wrap64 ((wrap64 (rd l0 17)) * 256)) + (wrap64 (rd l0 18))))) rfl))
  have HB6 := amd (below_drew1 (below_set (g := gm) (j := 4) (v := .int .i64 (wrap64 ((wrap64 ((wrap64 (rd l0 17)) * 256)) + (wrap64 (rd l0 18))))) HB5.out em.out))
  generalize World.drew (World.setCell w5 ⟨gm, 4, none⟩ (.int .i64 (wrap64 ((wrap64 ((wrap64 (rd l0 17)) * 256)) + (wrap64 (rd l0 18)))))) = w6 at rr6 mm6 HB6 ⊢
  clear HB5 rr5 mm5 cr5 fr5 cm5 fm5
  have cr6 := Mine.cells15 rr6.out
  have fr6 := blk_frozen rr6.out
  have cm6 := Mine.cells15 mm6.out
  have fm6 := blk_frozen mm6.out
  go_wp2
  (repeat (go_step3; (try go_wp2)))
  refine bodyPost_ret (results_ct rfl _ _ gr 28 (M15 0 0 0 0 0 0 0 0 0 0 0 0 0 0 ⟨#[]⟩) (0, 0) _ rfl (dm_put15 _ _ _ _ _ _ _ _ _ _ _ _ _ _ _ rr6.out) hu28 rfl (by kernel_rfl)) rfl ?_
  exact ⟨rfl, (dm_put15b _ _ _ _ _ _ _ _ _ _ _ _ _ _ _ HB6.out er.out)⟩
set_option maxHeartbeats 8000000 in
set_option maxRecDepth 100000 in
theorem fairleadref17_Decode.m7W (k : Nat) (ad : Addr) (c0 : Nat) (l0 : List Int) (w : World) (hr0 : Kd.C (Kd.int .u8) w (some ad) l0.length l0) (hl : 0 < l0.length) (klo : decide ((wrap64 (rd l0 0)) < 1) = false) (khi : decide (7 < (wrap64 (rd l0 0))) = false) (kq1 : ((wrap64 (rd l0 0)) == 1) = false) (kq2 : ((wrap64 (rd l0 0)) == 2) = false) (kq4 : ((wrap64 (rd l0 0)) == 4) = false) (kq5 : ((wrap64 (rd l0 0)) == 5) = false) (kq7 : ((wrap64 (rd l0 0)) == 7) = true) (kg : decide (1 < (wrap64 (rd l0 0))) = true) (hc0 : l0.length ≤ c0) (hs : decide ((l0.length : Int) < 19) = false) (p1 p2 : Int) (hp : fairleadref02_Take.f k (l0.drop 1) 8 = some (p1, p2)) (i1 i2 : Int) (hi : fairleadref02_Take.f k (l0.drop 9) 8 = some (i1, i2)) (hL : decide (19 < (l0.length : Int)) = false) (hR : fairleadref17_Right.f k ((wrap64 (rd l0 0))) (p1) (i1) (0) ((wrap64 ((wrap64 ((wrap64 (rd l0 17)) * 256)) + (wrap64 (rd l0 18))))) (0) (0) (0) (0) (0) (0) (0) (0) (0) ((⟨#[]⟩ : ByteArray)) = some false) :
    Calls Try.prog 14 #[.slice (some ad) l0.length c0] w (fun e w' => e = .returned (.tuple #[.agg #[.int .i64 0, .int .u64 0, .int .u64 0, .int .i64 0, .int .i64 0, .int .u32 0, .int .u32 0, .int .u64 0, .int .u64 0, .int .u64 0, .int .u64 0, .int .u64 0, .int .u64 0, .int .u64 0, .string (⟨#[]⟩ : ByteArray)], .int .i64 1]) ∧ Below w.heap.size w w') := by
  have hu28 := Try.underlying28
  have hu26 := Try.underlying26
  have hfd := fun (cs_ : Array Value) (j_ : Nat) (w_ : World) => Mine.run_field (P := Try.prog) Try.underlying26 cs_ j_ w_
  have HR0 := amd hr0
  have HB := amd (Below.refl w.heap.size w)
  have qi0 : (0 < l0.length) = True := eq_true hl
  have qj0 : ((0 : Int) < (l0.length : Int)) = True := eq_true (by omega)
  have qe0 : ((l0.length : Int) == 0) = false := bfq (by omega)
  obtain ⟨ad0, e0_, x0_⟩ := Kd.at_int HR0.out 0 (by omega) (by omega)
  cases e0_
  (try rw [show ((0 : Int)).toNat = 0 from rfl] at x0_)
  (try rw [Addr.add_zero'] at x0_)
  clear hr0
  have HC0 := amd hc0
  have hln := amd (of_decide_eq_false hs)
  obtain ⟨i0_a, hi_a, _, hsz_a, _⟩ := info_parts info5
  obtain ⟨A_a, hcut_a, hA_a, hC_a⟩ := print_drop_of (P := Try.prog) (Value.int .u8) 0 30 5 .i64 Try.underlying30 hi_a hsz_a (some ad) c0 l0 1 (by omega) (by have := hln.out; omega) HC0.out
  have HR_a : Aside0 (Kd.C (Kd.int .u8) w A_a (l0.drop (1 : Int).toNat).length (l0.drop (1 : Int).toNat)) := amd (Kd.C_of_reads (h1 := fun _ => rfl) (hA_a _ (Kd.reads_of_C HR0.out)))
  have HC_a := amd hC_a
  (try simp only [show (1 : Int).toNat = 1 from rfl] at hcut_a HR_a HC_a)
  clear hA_a hC_a hi_a hsz_a
  generalize (l0.drop 1) = L_a at hcut_a HR_a HC_a hp
  have p := amd hp
  clear hp
  obtain ⟨i0_b, hi_b, _, hsz_b, _⟩ := info_parts info5
  obtain ⟨A_b, hcut_b, hA_b, hC_b⟩ := print_drop_of (P := Try.prog) (Value.int .u8) 0 30 5 .i64 Try.underlying30 hi_b hsz_b (some ad) c0 l0 9 (by omega) (by have := hln.out; omega) HC0.out
  have HR_b : Aside0 (Kd.C (Kd.int .u8) w A_b (l0.drop (9 : Int).toNat).length (l0.drop (9 : Int).toNat)) := amd (Kd.C_of_reads (h1 := fun _ => rfl) (hA_b _ (Kd.reads_of_C HR0.out)))
  have HC_b := amd hC_b
  (try simp only [show (9 : Int).toNat = 9 from rfl] at hcut_b HR_b HC_b)
  clear hA_b hC_b hi_b hsz_b
  generalize (l0.drop 9) = L_b at hcut_b HR_b HC_b hi
  have i := amd hi
  clear hi
  obtain ⟨ad17_, e17_, x17_⟩ := Kd.at_int HR0.out 17 (by omega) (by have := hln.out; omega)
  cases e17_
  (try simp only [show (17 : Int).toNat = 17 from rfl, Nat.reduceMul, Nat.reduceEqDiff, Go.Addr.add, ↓reduceIte] at x17_)
  have qi17 : (17 < l0.length) = True := eq_true (by have := hln.out; omega)
  have qj17 : ((17 : Int) < (l0.length : Int)) = True := eq_true (by have := hln.out; omega)
  obtain ⟨ad18_, e18_, x18_⟩ := Kd.at_int HR0.out 18 (by omega) (by have := hln.out; omega)
  cases e18_
  (try simp only [show (18 : Int).toNat = 18 from rfl, Nat.reduceMul, Nat.reduceEqDiff, Go.Addr.add, ↓reduceIte] at x18_)
  have qi18 : (18 < l0.length) = True := eq_true (by have := hln.out; omega)
  have qj18 : ((18 : Int) < (l0.length : Int)) = True := eq_true (by have := hln.out; omega)
  have HRt := amd hR
  go_enter Try.func14, Try.ntmps14
  go_wp2_with (first | ((with_reducible refine gate_dst (N := 2) rfl ?_); refine box_event ?hg (N := 2) ?hd (cs := #[.int .i64 0, .int .u64 0, .int .u64 0, .int .i64 0, .int .i64 0, .int .u32 0, .int .u32 0, .int .u64 0, .int .u64 0, .int .u64 0, .int .u64 0, .int .u64 0, .int .u64 0, .int .u64 0, .string ⟨#[]⟩]) (t := 28) ?hr ?_; (case hd => rfl); (case hg => rfl); (case hr => first | (go_simp; done) | (go_simp; rfl)); intro gr hg w1 hbox hb; have er := amd (show w.heap.size ≤ gr from by rw [hg]; exact Below.size HB.out); have HB1 := amd (below_step HB.out hb); have rr1 := amd hbox; have cr1 := Mine.cells15 rr1.out; have fr1 := blk_frozen rr1.out; clear hbox hb hg; have x0 := (HB1.out.cell (World.block_lt_of_cell? w _ x0_)).trans x0_) | ((with_reducible refine gate_dst (N := 4) rfl ?_); refine box_event ?hg (N := 4) ?hd (cs := #[.int .i64 0, .int .u64 0, .int .u64 0, .int .i64 0, .int .i64 0, .int .u32 0, .int .u32 0, .int .u64 0, .int .u64 0, .int .u64 0, .int .u64 0, .int .u64 0, .int .u64 0, .int .u64 0, .string ⟨#[]⟩]) (t := 28) ?hr ?_; (case hd => rfl); (case hg => rfl); (case hr => first | (go_simp; done) | (go_simp; rfl)); intro gm hg w2 hbox hb; have ng := amd (show gm ≠ gr from by rw [hg]; exact Nat.ne_of_gt (blk_lt rr1.out)); have em := amd (show w.heap.size ≤ gm from by rw [hg]; exact Below.size HB1.out); have rr2 := amd (blk_below rr1.out hb); have HB2 := amd (below_step HB1.out hb); have mm2 := amd hbox; clear HB1 rr1 cr1 fr1 x0; have cr2 := Mine.cells15 rr2.out; have fr2 := blk_frozen rr2.out; have cm2 := Mine.cells15 mm2.out; have fm2 := blk_frozen mm2.out; have n_gm_gr := ng.out; have n_gr_gm := Ne.symm ng.out; clear hbox hb hg) | (go_at_call 29; (with_reducible refine (fairleadref02_Take.calls k _ _ L_a 8 p1 p2 _ (Kd.C_below HR_a.out (dm_put15b _ _ _ _ _ _ _ _ _ _ _ _ _ _ _ HB2.out em.out)) HC_a.out p.out).mono ?_); rintro e w3 ⟨rfl, nd_, hq_⟩; have rr3 := amd (dm_dr hq_ (dm_far15 _ _ _ _ _ _ _ _ _ _ _ _ _ _ _ rr2.out (Ne.symm ng.out))); have mm3 := amd (dm_dr hq_ (dm_put15 _ _ _ _ _ _ _ _ _ _ _ _ _ _ _ mm2.out)); have HB3 := amd (dm_drb hq_ (dm_put15b _ _ _ _ _ _ _ _ _ _ _ _ _ _ _ HB2.out em.out)); clear HB2 rr2 mm2 cr2 fr2 cm2 fm2; have cr3 := Mine.cells15 rr3.out; have fr3 := blk_frozen rr3.out; have cm3 := Mine.cells15 mm3.out; have fm3 := blk_frozen mm3.out; clear hq_ nd_) | (go_at_call 29; (with_reducible refine (fairleadref02_Take.calls k _ _ L_b 8 i1 i2 _ (Kd.C_below HR_b.out (below_set (g := gm) (j := 1) (v := .int .u64 p1) HB3.out em.out)) HC_b.out i.out).mono ?_); rintro e w4 ⟨rfl, nd_, hq_⟩; have rr4 := amd (dm_dr hq_ (blk_far (p := ⟨gm, 1, none⟩) rr3.out (Ne.symm ng.out) (.int .u64 p1))); have mm4 := amd (dm_dr hq_ (blk_put (cs' := M15 (wrap64 (rd l0 0)) p1 0 0 0 0 0 0 0 0 0 0 0 0 ⟨#[]⟩) mm3.out 1 (.int .u64 p1) rfl)); have HB4 := amd (dm_drb hq_ (below_set (g := gm) (j := 1) (v := .int .u64 p1) HB3.out em.out)); clear HB3 rr3 mm3 cr3 fr3 cm3 fm3; have cr4 := Mine.cells15 rr4.out; have fr4 := blk_frozen rr4.out; have cm4 := Mine.cells15 mm4.out; have fm4 := blk_frozen mm4.out; clear hq_ nd_))
  have rr5 := amd (blk_far (p := ⟨gm, 2, none⟩) rr4.out (Ne.symm ng.out) (.int .u64 i1))
  have mm5 := amd (blk_put (cs' := M15 (wrap64 (rd l0 0)) p1 i1 0 0 0 0 0 0 0 0 0 0 0 ⟨#[]⟩) mm4.out 2 (.int .u64 i1) rfl)
  have HB5 := amd (below_set (g := gm) (j := 2) (v := .int .u64 i1) HB4.out em.out)
  generalize (World.setCell w4 ⟨gm, 2, none⟩ (.int .u64 i1)) = w5 at rr5 mm5 HB5 ⊢
  clear HB4 rr4 mm4 cr4 fr4 cm4 fm4
  have cr5 := Mine.cells15 rr5.out
  have fr5 := blk_frozen rr5.out
  have cm5 := Mine.cells15 mm5.out
  have fm5 := blk_frozen mm5.out
  refine start_ (n := 12) (S := fun w' => w'.cell? ⟨ad.block, ad.off + 17, none⟩ = some (.int .u8 (rd l0 17)) ∧ w'.cell? ⟨ad.block, ad.off + 18, none⟩ = some (.int .u8 (rd l0 18))) (ds := [11]) #[false, false, false, false, false, false, false, false, false, false, false, false] (by kernel_rfl) rfl rfl ⟨((Below.cell (below_drew1 HB5.out) (World.block_lt_of_cell? w _ x17_)).trans x17_), ((Below.cell (below_drew1 HB5.out) (World.block_lt_of_cell? w _ x18_)).trans x18_)⟩ (fun hHeld => ?_)
  refine Mine.pS 0 (some 78) ?_; refine Mine.pS 1 (some 79) ?_; refine Mine.pS 5 (some 83) ?_; refine Mine.pS 6 (some 84) ?_; refine Mine.tS 2 (some 80) hHeld ?_; refine Mine.pS 3 (some 81) ?_; refine Mine.pS 4 (some 82) ?_; refine Mine.tS 7 (some 85) hHeld ?_; refine Mine.pS 8 (some 86) ?_; refine Mine.pS 9 (some 87) ?_; refine Mine.pS 10 (some 88) ?_
  refine last_ (i := 11) (N := none) #[true, true, true, true, true, true, true, true, true, true, true, true] rfl rfl (by kernel_rfl) (by decide) (fun K hK => ?_)
  refine skip_ (w1 := ?_) (by rfl) rfl ?_ ?_
  rotate_left
  · go_simp
    rfl
  refine hK.out _ _ ?_
  clear hK K
  refine done_ (by kernel_rfl) ?_
  
  have rr6 := amd (blk_drew (blk_far (p := ⟨gm, 4, none⟩) rr5.out (Ne.symm ng.out) (.int .i64 (wrap64 ((wrap64 ((wrap64 (rd l0 17)) * 256)) + (wrap64 (rd l0 18)))))))
  have mm6 := amd (blk_drew (blk_put (cs' := M15 (wrap64 (rd l0 0)) p1 i1 0 (wrap64 ((wrap64 ((wrap64 (rd l0 17)) * 256)) + (wrap64 (rd l0 18)))) 0 0 0 0 0 0 0 0 0 ⟨#[]⟩) mm5.out 4 (.int .i64 (wrap64 ((wrap64 ((wrap64 (rd l0 17)) * 256)) + (wrap64 (rd l0 18))))) rfl))
  have HB6 := amd (below_drew1 (below_set (g := gm) (j := 4) (v := .int .i64 (wrap64 ((wrap64 ((wrap64 (rd l0 17)) * 256)) + (wrap64 (rd l0 18))))) HB5.out em.out))
  generalize World.drew (World.setCell w5 ⟨gm, 4, none⟩ (.int .i64 (wrap64 ((wrap64 ((wrap64 (rd l0 17)) * 256)) + (wrap64 (rd l0 18)))))) = w6 at rr6 mm6 HB6 ⊢
  clear HB5 rr5 mm5 cr5 fr5 cm5 fm5
  have cr6 := Mine.cells15 rr6.out
  have fr6 := blk_frozen rr6.out
  have cm6 := Mine.cells15 mm6.out
  have fm6 := blk_frozen mm6.out
  go_wp2_with (first | (go_at_call 12; (with_reducible refine (fairleadref17_Right.calls k ((wrap64 (rd l0 0))) (p1) (i1) (0) ((wrap64 ((wrap64 ((wrap64 (rd l0 17)) * 256)) + (wrap64 (rd l0 18))))) (0) (0) (0) (0) (0) (0) (0) (0) (0) ((⟨#[]⟩ : ByteArray)) false _ HRt.out).mono ?_); rintro e w7 ⟨rfl, hb⟩; have rr7 := amd (blk_below rr6.out hb); have mm7 := amd (blk_below mm6.out hb); have HB7 := amd (below_step HB6.out hb); clear HB6 rr6 mm6 cr6 fr6 cm6 fm6; have cr7 := Mine.cells15 rr7.out; have fr7 := blk_frozen rr7.out; have cm7 := Mine.cells15 mm7.out; have fm7 := blk_frozen mm7.out; clear hb))
  (repeat (go_step3; (try go_wp2)))
  refine bodyPost_ret (results_ct rfl _ _ gr 28 (M15 0 0 0 0 0 0 0 0 0 0 0 0 0 0 ⟨#[]⟩) (0, 0) _ rfl (dm_put15 _ _ _ _ _ _ _ _ _ _ _ _ _ _ _ rr7.out) hu28 rfl (by kernel_rfl)) rfl ?_
  exact ⟨rfl, (dm_put15b _ _ _ _ _ _ _ _ _ _ _ _ _ _ _ HB7.out er.out)⟩
set_option maxHeartbeats 8000000 in
set_option maxRecDepth 100000 in
theorem fairleadref17_Decode.m7K (k : Nat) (ad : Addr) (c0 : Nat) (l0 : List Int) (w : World) (hr0 : Kd.C (Kd.int .u8) w (some ad) l0.length l0) (hl : 0 < l0.length) (klo : decide ((wrap64 (rd l0 0)) < 1) = false) (khi : decide (7 < (wrap64 (rd l0 0))) = false) (kq1 : ((wrap64 (rd l0 0)) == 1) = false) (kq2 : ((wrap64 (rd l0 0)) == 2) = false) (kq4 : ((wrap64 (rd l0 0)) == 4) = false) (kq5 : ((wrap64 (rd l0 0)) == 5) = false) (kq7 : ((wrap64 (rd l0 0)) == 7) = true) (kg : decide (1 < (wrap64 (rd l0 0))) = true) (hc0 : l0.length ≤ c0) (hs : decide ((l0.length : Int) < 19) = false) (p1 p2 : Int) (hp : fairleadref02_Take.f k (l0.drop 1) 8 = some (p1, p2)) (i1 i2 : Int) (hi : fairleadref02_Take.f k (l0.drop 9) 8 = some (i1, i2)) (hL : decide (19 < (l0.length : Int)) = false) (hR : fairleadref17_Right.f k ((wrap64 (rd l0 0))) (p1) (i1) (0) ((wrap64 ((wrap64 ((wrap64 (rd l0 17)) * 256)) + (wrap64 (rd l0 18))))) (0) (0) (0) (0) (0) (0) (0) (0) (0) ((⟨#[]⟩ : ByteArray)) = some true) :
    Calls Try.prog 14 #[.slice (some ad) l0.length c0] w (fun e w' => e = .returned (.tuple #[.agg #[.int .i64 (wrap64 (rd l0 0)), .int .u64 p1, .int .u64 i1, .int .i64 0, .int .i64 (wrap64 ((wrap64 ((wrap64 (rd l0 17)) * 256)) + (wrap64 (rd l0 18)))), .int .u32 0, .int .u32 0, .int .u64 0, .int .u64 0, .int .u64 0, .int .u64 0, .int .u64 0, .int .u64 0, .int .u64 0, .string (⟨#[]⟩ : ByteArray)], .int .i64 0]) ∧ Below w.heap.size w w') := by
  have hu28 := Try.underlying28
  have hu26 := Try.underlying26
  have hfd := fun (cs_ : Array Value) (j_ : Nat) (w_ : World) => Mine.run_field (P := Try.prog) Try.underlying26 cs_ j_ w_
  have HR0 := amd hr0
  have HB := amd (Below.refl w.heap.size w)
  have qi0 : (0 < l0.length) = True := eq_true hl
  have qj0 : ((0 : Int) < (l0.length : Int)) = True := eq_true (by omega)
  have qe0 : ((l0.length : Int) == 0) = false := bfq (by omega)
  obtain ⟨ad0, e0_, x0_⟩ := Kd.at_int HR0.out 0 (by omega) (by omega)
  cases e0_
  (try rw [show ((0 : Int)).toNat = 0 from rfl] at x0_)
  (try rw [Addr.add_zero'] at x0_)
  clear hr0
  have HC0 := amd hc0
  have hln := amd (of_decide_eq_false hs)
  obtain ⟨i0_a, hi_a, _, hsz_a, _⟩ := info_parts info5
  obtain ⟨A_a, hcut_a, hA_a, hC_a⟩ := print_drop_of (P := Try.prog) (Value.int .u8) 0 30 5 .i64 Try.underlying30 hi_a hsz_a (some ad) c0 l0 1 (by omega) (by have := hln.out; omega) HC0.out
  have HR_a : Aside0 (Kd.C (Kd.int .u8) w A_a (l0.drop (1 : Int).toNat).length (l0.drop (1 : Int).toNat)) := amd (Kd.C_of_reads (h1 := fun _ => rfl) (hA_a _ (Kd.reads_of_C HR0.out)))
  have HC_a := amd hC_a
  (try simp only [show (1 : Int).toNat = 1 from rfl] at hcut_a HR_a HC_a)
  clear hA_a hC_a hi_a hsz_a
  generalize (l0.drop 1) = L_a at hcut_a HR_a HC_a hp
  have p := amd hp
  clear hp
  obtain ⟨i0_b, hi_b, _, hsz_b, _⟩ := info_parts info5
  obtain ⟨A_b, hcut_b, hA_b, hC_b⟩ := print_drop_of (P := Try.prog) (Value.int .u8) 0 30 5 .i64 Try.underlying30 hi_b hsz_b (some ad) c0 l0 9 (by omega) (by have := hln.out; omega) HC0.out
  have HR_b : Aside0 (Kd.C (Kd.int .u8) w A_b (l0.drop (9 : Int).toNat).length (l0.drop (9 : Int).toNat)) := amd (Kd.C_of_reads (h1 := fun _ => rfl) (hA_b _ (Kd.reads_of_C HR0.out)))
  have HC_b := amd hC_b
  (try simp only [show (9 : Int).toNat = 9 from rfl] at hcut_b HR_b HC_b)
  clear hA_b hC_b hi_b hsz_b
  generalize (l0.drop 9) = L_b at hcut_b HR_b HC_b hi
  have i := amd hi
  clear hi
  obtain ⟨ad17_, e17_, x17_⟩ := Kd.at_int HR0.out 17 (by omega) (by have := hln.out; omega)
  cases e17_
  (try simp only [show (17 : Int).toNat = 17 from rfl, Nat.reduceMul, Nat.reduceEqDiff, Go.Addr.add, ↓reduceIte] at x17_)
  have qi17 : (17 < l0.length) = True := eq_true (by have := hln.out; omega)
  have qj17 : ((17 : Int) < (l0.length : Int)) = True := eq_true (by have := hln.out; omega)
  obtain ⟨ad18_, e18_, x18_⟩ := Kd.at_int HR0.out 18 (by omega) (by have := hln.out; omega)
  cases e18_
  (try simp only [show (18 : Int).toNat = 18 from rfl, Nat.reduceMul, Nat.reduceEqDiff, Go.Addr.add, ↓reduceIte] at x18_)
  have qi18 : (18 < l0.length) = True := eq_true (by have := hln.out; omega)
  have qj18 : ((18 : Int) < (l0.length : Int)) = True := eq_true (by have := hln.out; omega)
  have HRt := amd hR
  go_enter Try.func14, Try.ntmps14
  go_wp2_with (first | ((with_reducible refine gate_dst (N := 2) rfl ?_); refine box_event ?hg (N := 2) ?hd (cs := #[.int .i64 0, .int .u64 0, .int .u64 0, .int .i64 0, .int .i64 0, .int .u32 0, .int .u32 0, .int .u64 0, .int .u64 0, .int .u64 0, .int .u64 0, .int .u64 0, .int .u64 0, .int .u64 0, .string ⟨#[]⟩]) (t := 28) ?hr ?_; (case hd => rfl); (case hg => rfl); (case hr => first | (go_simp; done) | (go_simp; rfl)); intro gr hg w1 hbox hb; have er := amd (show w.heap.size ≤ gr from by rw [hg]; exact Below.size HB.out); have HB1 := amd (below_step HB.out hb); have rr1 := amd hbox; have cr1 := Mine.cells15 rr1.out; have fr1 := blk_frozen rr1.out; clear hbox hb hg; have x0 := (HB1.out.cell (World.block_lt_of_cell? w _ x0_)).trans x0_) | ((with_reducible refine gate_dst (N := 4) rfl ?_); refine box_event ?hg (N := 4) ?hd (cs := #[.int .i64 0, .int .u64 0, .int .u64 0, .int .i64 0, .int .i64 0, .int .u32 0, .int .u32 0, .int .u64 0, .int .u64 0, .int .u64 0, .int .u64 0, .int .u64 0, .int .u64 0, .int .u64 0, .string ⟨#[]⟩]) (t := 28) ?hr ?_; (case hd => rfl); (case hg => rfl); (case hr => first | (go_simp; done) | (go_simp; rfl)); intro gm hg w2 hbox hb; have ng := amd (show gm ≠ gr from by rw [hg]; exact Nat.ne_of_gt (blk_lt rr1.out)); have em := amd (show w.heap.size ≤ gm from by rw [hg]; exact Below.size HB1.out); have rr2 := amd (blk_below rr1.out hb); have HB2 := amd (below_step HB1.out hb); have mm2 := amd hbox; clear HB1 rr1 cr1 fr1 x0; have cr2 := Mine.cells15 rr2.out; have fr2 := blk_frozen rr2.out; have cm2 := Mine.cells15 mm2.out; have fm2 := blk_frozen mm2.out; have n_gm_gr := ng.out; have n_gr_gm := Ne.symm ng.out; clear hbox hb hg) | (go_at_call 29; (with_reducible refine (fairleadref02_Take.calls k _ _ L_a 8 p1 p2 _ (Kd.C_below HR_a.out (dm_put15b _ _ _ _ _ _ _ _ _ _ _ _ _ _ _ HB2.out em.out)) HC_a.out p.out).mono ?_); rintro e w3 ⟨rfl, nd_, hq_⟩; have rr3 := amd (dm_dr hq_ (dm_far15 _ _ _ _ _ _ _ _ _ _ _ _ _ _ _ rr2.out (Ne.symm ng.out))); have mm3 := amd (dm_dr hq_ (dm_put15 _ _ _ _ _ _ _ _ _ _ _ _ _ _ _ mm2.out)); have HB3 := amd (dm_drb hq_ (dm_put15b _ _ _ _ _ _ _ _ _ _ _ _ _ _ _ HB2.out em.out)); clear HB2 rr2 mm2 cr2 fr2 cm2 fm2; have cr3 := Mine.cells15 rr3.out; have fr3 := blk_frozen rr3.out; have cm3 := Mine.cells15 mm3.out; have fm3 := blk_frozen mm3.out; clear hq_ nd_) | (go_at_call 29; (with_reducible refine (fairleadref02_Take.calls k _ _ L_b 8 i1 i2 _ (Kd.C_below HR_b.out (below_set (g := gm) (j := 1) (v := .int .u64 p1) HB3.out em.out)) HC_b.out i.out).mono ?_); rintro e w4 ⟨rfl, nd_, hq_⟩; have rr4 := amd (dm_dr hq_ (blk_far (p := ⟨gm, 1, none⟩) rr3.out (Ne.symm ng.out) (.int .u64 p1))); have mm4 := amd (dm_dr hq_ (blk_put (cs' := M15 (wrap64 (rd l0 0)) p1 0 0 0 0 0 0 0 0 0 0 0 0 ⟨#[]⟩) mm3.out 1 (.int .u64 p1) rfl)); have HB4 := amd (dm_drb hq_ (below_set (g := gm) (j := 1) (v := .int .u64 p1) HB3.out em.out)); clear HB3 rr3 mm3 cr3 fr3 cm3 fm3; have cr4 := Mine.cells15 rr4.out; have fr4 := blk_frozen rr4.out; have cm4 := Mine.cells15 mm4.out; have fm4 := blk_frozen mm4.out; clear hq_ nd_))
  have rr5 := amd (blk_far (p := ⟨gm, 2, none⟩) rr4.out (Ne.symm ng.out) (.int .u64 i1))
  have mm5 := amd (blk_put (cs' := M15 (wrap64 (rd l0 0)) p1 i1 0 0 0 0 0 0 0 0 0 0 0 ⟨#[]⟩) mm4.out 2 (.int .u64 i1) rfl)
  have HB5 := amd (below_set (g := gm) (j := 2) (v := .int .u64 i1) HB4.out em.out)
  generalize (World.setCell w4 ⟨gm, 2, none⟩ (.int .u64 i1)) = w5 at rr5 mm5 HB5 ⊢
  clear HB4 rr4 mm4 cr4 fr4 cm4 fm4
  have cr5 := Mine.cells15 rr5.out
  have fr5 := blk_frozen rr5.out
  have cm5 := Mine.cells15 mm5.out
  have fm5 := blk_frozen mm5.out
  refine start_ (n := 12) (S := fun w' => w'.cell? ⟨ad.block, ad.off + 17, none⟩ = some (.int .u8 (rd l0 17)) ∧ w'.cell? ⟨ad.block, ad.off + 18, none⟩ = some (.int .u8 (rd l0 18))) (ds := [11]) #[false, false, false, false, false, false, false, false, false, false, false, false] (by kernel_rfl) rfl rfl ⟨((Below.cell (below_drew1 HB5.out) (World.block_lt_of_cell? w _ x17_)).trans x17_), ((Below.cell (below_drew1 HB5.out) (World.block_lt_of_cell? w _ x18_)).trans x18_)⟩ (fun hHeld => ?_)
  refine Mine.pS 0 (some 78) ?_; refine Mine.pS 1 (some 79) ?_; refine Mine.pS 5 (some 83) ?_; refine Mine.pS 6 (some 84) ?_; refine Mine.tS 2 (some 80) hHeld ?_; refine Mine.pS 3 (some 81) ?_; refine Mine.pS 4 (some 82) ?_; refine Mine.tS 7 (some 85) hHeld ?_; refine Mine.pS 8 (some 86) ?_; refine Mine.pS 9 (some 87) ?_; refine Mine.pS 10 (some 88) ?_
  refine last_ (i := 11) (N := none) #[true, true, true, true, true, true, true, true, true, true, true, true] rfl rfl (by kernel_rfl) (by decide) (fun K hK => ?_)
  refine skip_ (w1 := ?_) (by rfl) rfl ?_ ?_
  rotate_left
  · go_simp
    rfl
  refine hK.out _ _ ?_
  clear hK K
  refine done_ (by kernel_rfl) ?_
  
  have rr6 := amd (blk_drew (blk_far (p := ⟨gm, 4, none⟩) rr5.out (Ne.symm ng.out) (.int .i64 (wrap64 ((wrap64 ((wrap64 (rd l0 17)) * 256)) + (wrap64 (rd l0 18)))))))
  have mm6 := amd (blk_drew (blk_put (cs' := M15 (wrap64 (rd l0 0)) p1 i1 0 (wrap64 ((wrap64 ((wrap64 (rd l0 17)) * 256)) + (wrap64 (rd l0 18)))) 0 0 0 0 0 0 0 0 0 ⟨#[]⟩) mm5.out 4 (.int .i64 (wrap64 ((wrap64 ((wrap64 (rd l0 17)) * 256)) + (wrap64 (rd l0 18))))) rfl))
  have HB6 := amd (below_drew1 (below_set (g := gm) (j := 4) (v := .int .i64 (wrap64 ((wrap64 ((wrap64 (rd l0 17)) * 256)) + (wrap64 (rd l0 18))))) HB5.out em.out))
  generalize World.drew (World.setCell w5 ⟨gm, 4, none⟩ (.int .i64 (wrap64 ((wrap64 ((wrap64 (rd l0 17)) * 256)) + (wrap64 (rd l0 18)))))) = w6 at rr6 mm6 HB6 ⊢
  clear HB5 rr5 mm5 cr5 fr5 cm5 fm5
  have cr6 := Mine.cells15 rr6.out
  have fr6 := blk_frozen rr6.out
  have cm6 := Mine.cells15 mm6.out
  have fm6 := blk_frozen mm6.out
  go_wp2_with (first | (go_at_call 12; (with_reducible refine (fairleadref17_Right.calls k ((wrap64 (rd l0 0))) (p1) (i1) (0) ((wrap64 ((wrap64 ((wrap64 (rd l0 17)) * 256)) + (wrap64 (rd l0 18))))) (0) (0) (0) (0) (0) (0) (0) (0) (0) ((⟨#[]⟩ : ByteArray)) true _ HRt.out).mono ?_); rintro e w7 ⟨rfl, hb⟩; have rr7 := amd (blk_below rr6.out hb); have mm7 := amd (blk_below mm6.out hb); have HB7 := amd (below_step HB6.out hb); clear HB6 rr6 mm6 cr6 fr6 cm6 fm6; have cr7 := Mine.cells15 rr7.out; have fr7 := blk_frozen rr7.out; have cm7 := Mine.cells15 mm7.out; have fm7 := blk_frozen mm7.out; clear hb))
  (repeat (go_step3; (try go_wp2)))
  refine bodyPost_ret (results_ct rfl _ _ gr 28 (M15 (wrap64 (rd l0 0)) p1 i1 0 (wrap64 ((wrap64 ((wrap64 (rd l0 17)) * 256)) + (wrap64 (rd l0 18)))) 0 0 0 0 0 0 0 0 0 ⟨#[]⟩) (0, 0) _ rfl (dm_put15 _ _ _ _ _ _ _ _ _ _ _ _ _ _ _ rr7.out) hu28 rfl (by kernel_rfl)) rfl ?_
  exact ⟨rfl, (dm_put15b _ _ _ _ _ _ _ _ _ _ _ _ _ _ _ HB7.out er.out)⟩
set_option maxHeartbeats 8000000 in
set_option maxRecDepth 100000 in
theorem fairleadref17_Decode.m2L (k : Nat) (ad : Addr) (c0 : Nat) (l0 : List Int) (w : World) (hr0 : Kd.C (Kd.int .u8) w (some ad) l0.length l0) (hl : 0 < l0.length) (klo : decide ((wrap64 (rd l0 0)) < 1) = false) (khi : decide (7 < (wrap64 (rd l0 0))) = false) (kq1 : ((wrap64 (rd l0 0)) == 1) = false) (kq2 : ((wrap64 (rd l0 0)) == 2) = true) (kq4 : ((wrap64 (rd l0 0)) == 4) = false) (kq5 : ((wrap64 (rd l0 0)) == 5) = false) (kq7 : ((wrap64 (rd l0 0)) == 7) = false) (kg : decide (1 < (wrap64 (rd l0 0))) = true) (hc0 : l0.length ≤ c0) (hs : decide ((l0.length : Int) < 84) = false) (p1 p2 : Int) (hp : fairleadref02_Take.f k (l0.drop 1) 8 = some (p1, p2)) (i1 i2 : Int) (hi : fairleadref02_Take.f k (l0.drop 9) 8 = some (i1, i2)) (d1 d2 d3 d4 d5 d6 d7 d8 d9 d10 : Int) (hd : fairleadref04_Of.f k ((l0.take 82).drop 18) = some (d1, d2, d3, d4, d5, d6, d7, d8, d9, d10)) (t1 : ByteArray) (t2 t3 : Int) (ht : fairleadref02_TakeText.f k (l0.drop 82) = some (t1, t2, t3)) (he : (t3 == 0) = true) (he2 : (t3 != 0) = false) (hL : decide ((wrap64 (82 + t2)) < (l0.length : Int)) = true) :
    Calls Try.prog 14 #[.slice (some ad) l0.length c0] w (fun e w' => e = .returned (.tuple #[.agg #[.int .i64 0, .int .u64 0, .int .u64 0, .int .i64 0, .int .i64 0, .int .u32 0, .int .u32 0, .int .u64 0, .int .u64 0, .int .u64 0, .int .u64 0, .int .u64 0, .int .u64 0, .int .u64 0, .string (⟨#[]⟩ : ByteArray)], .int .i64 3]) ∧ Below w.heap.size w w') := by
  have hu28 := Try.underlying28
  have hu26 := Try.underlying26
  have hfd := fun (cs_ : Array Value) (j_ : Nat) (w_ : World) => Mine.run_field (P := Try.prog) Try.underlying26 cs_ j_ w_
  have HR0 := amd hr0
  have HB := amd (Below.refl w.heap.size w)
  have qi0 : (0 < l0.length) = True := eq_true hl
  have qj0 : ((0 : Int) < (l0.length : Int)) = True := eq_true (by omega)
  have qe0 : ((l0.length : Int) == 0) = false := bfq (by omega)
  obtain ⟨ad0, e0_, x0_⟩ := Kd.at_int HR0.out 0 (by omega) (by omega)
  cases e0_
  (try rw [show ((0 : Int)).toNat = 0 from rfl] at x0_)
  (try rw [Addr.add_zero'] at x0_)
  clear hr0
  have HC0 := amd hc0
  have hln := amd (of_decide_eq_false hs)
  obtain ⟨i0_a, hi_a, _, hsz_a, _⟩ := info_parts info5
  obtain ⟨A_a, hcut_a, hA_a, hC_a⟩ := print_drop_of (P := Try.prog) (Value.int .u8) 0 30 5 .i64 Try.underlying30 hi_a hsz_a (some ad) c0 l0 1 (by omega) (by have := hln.out; omega) HC0.out
  have HR_a : Aside0 (Kd.C (Kd.int .u8) w A_a (l0.drop (1 : Int).toNat).length (l0.drop (1 : Int).toNat)) := amd (Kd.C_of_reads (h1 := fun _ => rfl) (hA_a _ (Kd.reads_of_C HR0.out)))
  have HC_a := amd hC_a
  (try simp only [show (1 : Int).toNat = 1 from rfl] at hcut_a HR_a HC_a)
  clear hA_a hC_a hi_a hsz_a
  generalize (l0.drop 1) = L_a at hcut_a HR_a HC_a hp
  have p := amd hp
  clear hp
  obtain ⟨i0_b, hi_b, _, hsz_b, _⟩ := info_parts info5
  obtain ⟨A_b, hcut_b, hA_b, hC_b⟩ := print_drop_of (P := Try.prog) (Value.int .u8) 0 30 5 .i64 Try.underlying30 hi_b hsz_b (some ad) c0 l0 9 (by omega) (by have := hln.out; omega) HC0.out
  have HR_b : Aside0 (Kd.C (Kd.int .u8) w A_b (l0.drop (9 : Int).toNat).length (l0.drop (9 : Int).toNat)) := amd (Kd.C_of_reads (h1 := fun _ => rfl) (hA_b _ (Kd.reads_of_C HR0.out)))
  have HC_b := amd hC_b
  (try simp only [show (9 : Int).toNat = 9 from rfl] at hcut_b HR_b HC_b)
  clear hA_b hC_b hi_b hsz_b
  generalize (l0.drop 9) = L_b at hcut_b HR_b HC_b hi
  have i := amd hi
  clear hi
  obtain ⟨ad17_, e17_, x17_⟩ := Kd.at_int HR0.out 17 (by omega) (by have := hln.out; omega)
  cases e17_
  (try simp only [show (17 : Int).toNat = 17 from rfl, Nat.reduceMul, Nat.reduceEqDiff, Go.Addr.add, ↓reduceIte] at x17_)
  have qi17 : (17 < l0.length) = True := eq_true (by have := hln.out; omega)
  have qj17 : ((17 : Int) < (l0.length : Int)) = True := eq_true (by have := hln.out; omega)
  obtain ⟨i0_d, hi_d, _, hsz_d, _⟩ := info_parts info5
  obtain ⟨A_d, hcut_d, hA_d, hC_d⟩ := print_mid_of (P := Try.prog) (Value.int .u8) 0 30 5 .i64 .i64 Try.underlying30 hi_d hsz_d (some ad) c0 l0 18 82 (by omega) (by omega) (by have := hln.out; omega) HC0.out
  have HR_d : Aside0 (Kd.C (Kd.int .u8) w A_d ((l0.take (82 : Int).toNat).drop (18 : Int).toNat).length ((l0.take (82 : Int).toNat).drop (18 : Int).toNat)) := amd (Kd.C_of_reads (h1 := fun _ => rfl) (hA_d _ (Kd.reads_of_C HR0.out)))
  have HC_d := amd hC_d
  (try simp only [show (18 : Int).toNat = 18 from rfl] at hcut_d HR_d HC_d)
  (try simp only [show (82 : Int).toNat = 82 from rfl] at hcut_d HR_d HC_d)
  clear hA_d hC_d hi_d hsz_d
  generalize ((l0.take 82).drop 18) = L_d at hcut_d HR_d HC_d hd
  have d := amd hd
  clear hd
  obtain ⟨i0_t, hi_t, _, hsz_t, _⟩ := info_parts info5
  obtain ⟨A_t, hcut_t, hA_t, hC_t⟩ := print_drop_of (P := Try.prog) (Value.int .u8) 0 30 5 .i64 Try.underlying30 hi_t hsz_t (some ad) c0 l0 82 (by omega) (by have := hln.out; omega) HC0.out
  have HR_t : Aside0 (Kd.C (Kd.int .u8) w A_t (l0.drop (82 : Int).toNat).length (l0.drop (82 : Int).toNat)) := amd (Kd.C_of_reads (h1 := fun _ => rfl) (hA_t _ (Kd.reads_of_C HR0.out)))
  have HC_t := amd hC_t
  (try simp only [show (82 : Int).toNat = 82 from rfl] at hcut_t HR_t HC_t)
  clear hA_t hC_t hi_t hsz_t
  generalize (l0.drop 82) = L_t at hcut_t HR_t HC_t ht
  have t := amd ht
  clear ht
  go_enter Try.func14, Try.ntmps14
  go_wp2_with (first | ((with_reducible refine gate_dst (N := 2) rfl ?_); refine box_event ?hg (N := 2) ?hd (cs := #[.int .i64 0, .int .u64 0, .int .u64 0, .int .i64 0, .int .i64 0, .int .u32 0, .int .u32 0, .int .u64 0, .int .u64 0, .int .u64 0, .int .u64 0, .int .u64 0, .int .u64 0, .int .u64 0, .string ⟨#[]⟩]) (t := 28) ?hr ?_; (case hd => rfl); (case hg => rfl); (case hr => first | (go_simp; done) | (go_simp; rfl)); intro gr hg w1 hbox hb; have er := amd (show w.heap.size ≤ gr from by rw [hg]; exact Below.size HB.out); have HB1 := amd (below_step HB.out hb); have rr1 := amd hbox; have cr1 := Mine.cells15 rr1.out; have fr1 := blk_frozen rr1.out; clear hbox hb hg; have x0 := (HB1.out.cell (World.block_lt_of_cell? w _ x0_)).trans x0_) | ((with_reducible refine gate_dst (N := 4) rfl ?_); refine box_event ?hg (N := 4) ?hd (cs := #[.int .i64 0, .int .u64 0, .int .u64 0, .int .i64 0, .int .i64 0, .int .u32 0, .int .u32 0, .int .u64 0, .int .u64 0, .int .u64 0, .int .u64 0, .int .u64 0, .int .u64 0, .int .u64 0, .string ⟨#[]⟩]) (t := 28) ?hr ?_; (case hd => rfl); (case hg => rfl); (case hr => first | (go_simp; done) | (go_simp; rfl)); intro gm hg w2 hbox hb; have ng := amd (show gm ≠ gr from by rw [hg]; exact Nat.ne_of_gt (blk_lt rr1.out)); have em := amd (show w.heap.size ≤ gm from by rw [hg]; exact Below.size HB1.out); have rr2 := amd (blk_below rr1.out hb); have HB2 := amd (below_step HB1.out hb); have mm2 := amd hbox; clear HB1 rr1 cr1 fr1 x0; have cr2 := Mine.cells15 rr2.out; have fr2 := blk_frozen rr2.out; have cm2 := Mine.cells15 mm2.out; have fm2 := blk_frozen mm2.out; have n_gm_gr := ng.out; have n_gr_gm := Ne.symm ng.out; clear hbox hb hg) | (go_at_call 29; (with_reducible refine (fairleadref02_Take.calls k _ _ L_a 8 p1 p2 _ (Kd.C_below HR_a.out (dm_put15b _ _ _ _ _ _ _ _ _ _ _ _ _ _ _ HB2.out em.out)) HC_a.out p.out).mono ?_); rintro e w3 ⟨rfl, nd_, hq_⟩; have rr3 := amd (dm_dr hq_ (dm_far15 _ _ _ _ _ _ _ _ _ _ _ _ _ _ _ rr2.out (Ne.symm ng.out))); have mm3 := amd (dm_dr hq_ (dm_put15 _ _ _ _ _ _ _ _ _ _ _ _ _ _ _ mm2.out)); have HB3 := amd (dm_drb hq_ (dm_put15b _ _ _ _ _ _ _ _ _ _ _ _ _ _ _ HB2.out em.out)); clear HB2 rr2 mm2 cr2 fr2 cm2 fm2; have cr3 := Mine.cells15 rr3.out; have fr3 := blk_frozen rr3.out; have cm3 := Mine.cells15 mm3.out; have fm3 := blk_frozen mm3.out; clear hq_ nd_) | (go_at_call 29; (with_reducible refine (fairleadref02_Take.calls k _ _ L_b 8 i1 i2 _ (Kd.C_below HR_b.out (below_set (g := gm) (j := 1) (v := .int .u64 p1) HB3.out em.out)) HC_b.out i.out).mono ?_); rintro e w4 ⟨rfl, nd_, hq_⟩; have rr4 := amd (dm_dr hq_ (blk_far (p := ⟨gm, 1, none⟩) rr3.out (Ne.symm ng.out) (.int .u64 p1))); have mm4 := amd (dm_dr hq_ (blk_put (cs' := M15 (wrap64 (rd l0 0)) p1 0 0 0 0 0 0 0 0 0 0 0 0 ⟨#[]⟩) mm3.out 1 (.int .u64 p1) rfl)); have HB4 := amd (dm_drb hq_ (below_set (g := gm) (j := 1) (v := .int .u64 p1) HB3.out em.out)); clear HB3 rr3 mm3 cr3 fr3 cm3 fm3; have cr4 := Mine.cells15 rr4.out; have fr4 := blk_frozen rr4.out; have cm4 := Mine.cells15 mm4.out; have fm4 := blk_frozen mm4.out; clear hq_ nd_; have x17 := (HB4.out.cell (World.block_lt_of_cell? w ⟨ad.block, ad.off + 17, none⟩ x17_)).trans x17_; have na_ : gm ≠ ad.block := Nat.ne_of_gt (Nat.lt_of_lt_of_le (World.block_lt_of_cell? w ⟨ad.block, ad.off + 17, none⟩ x17_) em.out); have nb_ := Ne.symm na_) | (go_at_call 30; (with_reducible refine (fairleadref04_Of.calls k _ _ L_d d1 d2 d3 d4 d5 d6 d7 d8 d9 d10 _ (Kd.C_below HR_d.out (below_set (g := gm) (j := 3) (v := .int .i64 (wrap64 (rd l0 17))) (below_set (g := gm) (j := 2) (v := .int .u64 i1) HB4.out em.out) em.out)) HC_d.out d.out).mono ?_); rintro e w5 ⟨rfl, hb⟩; have rr5 := amd (blk_below (blk_far (p := ⟨gm, 3, none⟩) (blk_far (p := ⟨gm, 2, none⟩) rr4.out (Ne.symm ng.out) (.int .u64 i1)) (Ne.symm ng.out) (.int .i64 (wrap64 (rd l0 17)))) hb); have mm5 := amd (blk_below (blk_put (cs' := M15 (wrap64 (rd l0 0)) p1 i1 (wrap64 (rd l0 17)) 0 0 0 0 0 0 0 0 0 0 ⟨#[]⟩) (blk_put (cs' := M15 (wrap64 (rd l0 0)) p1 i1 0 0 0 0 0 0 0 0 0 0 0 ⟨#[]⟩) mm4.out 2 (.int .u64 i1) rfl) 3 (.int .i64 (wrap64 (rd l0 17))) rfl) hb); have HB5 := amd (below_step (below_set (g := gm) (j := 3) (v := .int .i64 (wrap64 (rd l0 17))) (below_set (g := gm) (j := 2) (v := .int .u64 i1) HB4.out em.out) em.out) hb); clear HB4 rr4 mm4 cr4 fr4 cm4 fm4 x17 na_ nb_; have cr5 := Mine.cells15 rr5.out; have fr5 := blk_frozen rr5.out; have cm5 := Mine.cells15 mm5.out; have fm5 := blk_frozen mm5.out; clear hb) | ((with_reducible refine gate_dst (N := 10) rfl ?_); refine box_event ?hg (N := 10) ?hd (cs := #[.int .u32 0, .int .u32 0, .int .u64 0, .int .u64 0, .int .u64 0, .int .u64 0, .int .u64 0, .int .u64 0, .int .u64 0]) (t := 26) ?hr ?_; (case hd => rfl); (case hg => rfl); (case hr => first | (go_simp; done) | (go_simp; rfl)); intro gd hg w6 hbox hb; have nq := amd (show gd ≠ gr from by rw [hg]; exact Nat.ne_of_gt (blk_lt rr5.out)); have nd := amd (show gd ≠ gm from by rw [hg]; exact Nat.ne_of_gt (blk_lt mm5.out)); have ed := amd (show w.heap.size ≤ gd from by rw [hg]; exact Below.size HB5.out); have rr6 := amd (blk_below rr5.out hb); have mm6 := amd (blk_below mm5.out hb); have HB6 := amd (below_step HB5.out hb); have dd6 := amd hbox; clear HB5 rr5 mm5 cr5 fr5 cm5 fm5; have cr6 := Mine.cells15 rr6.out; have fr6 := blk_frozen rr6.out; have cm6 := Mine.cells15 mm6.out; have fm6 := blk_frozen mm6.out; have cd6 := Mine.cells9 dd6.out; have fd6 := blk_frozen dd6.out; have n_gd_gr := nq.out; have n_gd_gm := nd.out; have n_gr_gd := Ne.symm nq.out; have n_gm_gd := Ne.symm nd.out; clear hbox hb hg) | (go_at_call 31; (with_reducible refine (fairleadref02_TakeText.calls k _ _ L_t t1 t2 t3 _ (Kd.C_below HR_t.out (below_set (g := gm) (j := 13) (v := .int .u64 d9) (below_set (g := gm) (j := 12) (v := .int .u64 d8) (below_set (g := gm) (j := 11) (v := .int .u64 d7) (below_set (g := gm) (j := 10) (v := .int .u64 d6) (below_set (g := gm) (j := 9) (v := .int .u64 d5) (below_set (g := gm) (j := 8) (v := .int .u64 d4) (below_set (g := gm) (j := 7) (v := .int .u64 d3) (below_set (g := gm) (j := 6) (v := .int .u32 d2) (below_set (g := gm) (j := 5) (v := .int .u32 d1) (below_set (g := gd) (j := 8) (v := .int .u64 d9) (below_set (g := gd) (j := 7) (v := .int .u64 d8) (below_set (g := gd) (j := 6) (v := .int .u64 d7) (below_set (g := gd) (j := 5) (v := .int .u64 d6) (below_set (g := gd) (j := 4) (v := .int .u64 d5) (below_set (g := gd) (j := 3) (v := .int .u64 d4) (below_set (g := gd) (j := 2) (v := .int .u64 d3) (below_set (g := gd) (j := 1) (v := .int .u32 d2) (below_set (g := gd) (j := 0) (v := .int .u32 d1) HB6.out ed.out) ed.out) ed.out) ed.out) ed.out) ed.out) ed.out) ed.out) ed.out) em.out) em.out) em.out) em.out) em.out) em.out) em.out) em.out) em.out)) HC_t.out t.out).mono ?_); rintro e w7 ⟨rfl, nd_, hq_⟩; have rr7 := amd (dm_dr hq_ (blk_far (p := ⟨gm, 13, none⟩) (blk_far (p := ⟨gm, 12, none⟩) (blk_far (p := ⟨gm, 11, none⟩) (blk_far (p := ⟨gm, 10, none⟩) (blk_far (p := ⟨gm, 9, none⟩) (blk_far (p := ⟨gm, 8, none⟩) (blk_far (p := ⟨gm, 7, none⟩) (blk_far (p := ⟨gm, 6, none⟩) (blk_far (p := ⟨gm, 5, none⟩) (blk_far (p := ⟨gd, 8, none⟩) (blk_far (p := ⟨gd, 7, none⟩) (blk_far (p := ⟨gd, 6, none⟩) (blk_far (p := ⟨gd, 5, none⟩) (blk_far (p := ⟨gd, 4, none⟩) (blk_far (p := ⟨gd, 3, none⟩) (blk_far (p := ⟨gd, 2, none⟩) (blk_far (p := ⟨gd, 1, none⟩) (blk_far (p := ⟨gd, 0, none⟩) rr6.out (Ne.symm nq.out) (.int .u32 d1)) (Ne.symm nq.out) (.int .u32 d2)) (Ne.symm nq.out) (.int .u64 d3)) (Ne.symm nq.out) (.int .u64 d4)) (Ne.symm nq.out) (.int .u64 d5)) (Ne.symm nq.out) (.int .u64 d6)) (Ne.symm nq.out) (.int .u64 d7)) (Ne.symm nq.out) (.int .u64 d8)) (Ne.symm nq.out) (.int .u64 d9)) (Ne.symm ng.out) (.int .u32 d1)) (Ne.symm ng.out) (.int .u32 d2)) (Ne.symm ng.out) (.int .u64 d3)) (Ne.symm ng.out) (.int .u64 d4)) (Ne.symm ng.out) (.int .u64 d5)) (Ne.symm ng.out) (.int .u64 d6)) (Ne.symm ng.out) (.int .u64 d7)) (Ne.symm ng.out) (.int .u64 d8)) (Ne.symm ng.out) (.int .u64 d9))); have mm7 := amd (dm_dr hq_ (blk_put (cs' := M15 (wrap64 (rd l0 0)) p1 i1 (wrap64 (rd l0 17)) 0 d1 d2 d3 d4 d5 d6 d7 d8 d9 ⟨#[]⟩) (blk_put (cs' := M15 (wrap64 (rd l0 0)) p1 i1 (wrap64 (rd l0 17)) 0 d1 d2 d3 d4 d5 d6 d7 d8 0 ⟨#[]⟩) (blk_put (cs' := M15 (wrap64 (rd l0 0)) p1 i1 (wrap64 (rd l0 17)) 0 d1 d2 d3 d4 d5 d6 d7 0 0 ⟨#[]⟩) (blk_put (cs' := M15 (wrap64 (rd l0 0)) p1 i1 (wrap64 (rd l0 17)) 0 d1 d2 d3 d4 d5 d6 0 0 0 ⟨#[]⟩) (blk_put (cs' := M15 (wrap64 (rd l0 0)) p1 i1 (wrap64 (rd l0 17)) 0 d1 d2 d3 d4 d5 0 0 0 0 ⟨#[]⟩) (blk_put (cs' := M15 (wrap64 (rd l0 0)) p1 i1 (wrap64 (rd l0 17)) 0 d1 d2 d3 d4 0 0 0 0 0 ⟨#[]⟩) (blk_put (cs' := M15 (wrap64 (rd l0 0)) p1 i1 (wrap64 (rd l0 17)) 0 d1 d2 d3 0 0 0 0 0 0 ⟨#[]⟩) (blk_put (cs' := M15 (wrap64 (rd l0 0)) p1 i1 (wrap64 (rd l0 17)) 0 d1 d2 0 0 0 0 0 0 0 ⟨#[]⟩) (blk_put (cs' := M15 (wrap64 (rd l0 0)) p1 i1 (wrap64 (rd l0 17)) 0 d1 0 0 0 0 0 0 0 0 ⟨#[]⟩) (blk_far (p := ⟨gd, 8, none⟩) (blk_far (p := ⟨gd, 7, none⟩) (blk_far (p := ⟨gd, 6, none⟩) (blk_far (p := ⟨gd, 5, none⟩) (blk_far (p := ⟨gd, 4, none⟩) (blk_far (p := ⟨gd, 3, none⟩) (blk_far (p := ⟨gd, 2, none⟩) (blk_far (p := ⟨gd, 1, none⟩) (blk_far (p := ⟨gd, 0, none⟩) mm6.out (Ne.symm nd.out) (.int .u32 d1)) (Ne.symm nd.out) (.int .u32 d2)) (Ne.symm nd.out) (.int .u64 d3)) (Ne.symm nd.out) (.int .u64 d4)) (Ne.symm nd.out) (.int .u64 d5)) (Ne.symm nd.out) (.int .u64 d6)) (Ne.symm nd.out) (.int .u64 d7)) (Ne.symm nd.out) (.int .u64 d8)) (Ne.symm nd.out) (.int .u64 d9)) 5 (.int .u32 d1) rfl) 6 (.int .u32 d2) rfl) 7 (.int .u64 d3) rfl) 8 (.int .u64 d4) rfl) 9 (.int .u64 d5) rfl) 10 (.int .u64 d6) rfl) 11 (.int .u64 d7) rfl) 12 (.int .u64 d8) rfl) 13 (.int .u64 d9) rfl)); have dd7 := amd (dm_dr hq_ (blk_far (p := ⟨gm, 13, none⟩) (blk_far (p := ⟨gm, 12, none⟩) (blk_far (p := ⟨gm, 11, none⟩) (blk_far (p := ⟨gm, 10, none⟩) (blk_far (p := ⟨gm, 9, none⟩) (blk_far (p := ⟨gm, 8, none⟩) (blk_far (p := ⟨gm, 7, none⟩) (blk_far (p := ⟨gm, 6, none⟩) (blk_far (p := ⟨gm, 5, none⟩) (blk_put (cs' := #[.int .u32 d1, .int .u32 d2, .int .u64 d3, .int .u64 d4, .int .u64 d5, .int .u64 d6, .int .u64 d7, .int .u64 d8, .int .u64 d9]) (blk_put (cs' := #[.int .u32 d1, .int .u32 d2, .int .u64 d3, .int .u64 d4, .int .u64 d5, .int .u64 d6, .int .u64 d7, .int .u64 d8, .int .u64 0]) (blk_put (cs' := #[.int .u32 d1, .int .u32 d2, .int .u64 d3, .int .u64 d4, .int .u64 d5, .int .u64 d6, .int .u64 d7, .int .u64 0, .int .u64 0]) (blk_put (cs' := #[.int .u32 d1, .int .u32 d2, .int .u64 d3, .int .u64 d4, .int .u64 d5, .int .u64 d6, .int .u64 0, .int .u64 0, .int .u64 0]) (blk_put (cs' := #[.int .u32 d1, .int .u32 d2, .int .u64 d3, .int .u64 d4, .int .u64 d5, .int .u64 0, .int .u64 0, .int .u64 0, .int .u64 0]) (blk_put (cs' := #[.int .u32 d1, .int .u32 d2, .int .u64 d3, .int .u64 d4, .int .u64 0, .int .u64 0, .int .u64 0, .int .u64 0, .int .u64 0]) (blk_put (cs' := #[.int .u32 d1, .int .u32 d2, .int .u64 d3, .int .u64 0, .int .u64 0, .int .u64 0, .int .u64 0, .int .u64 0, .int .u64 0]) (blk_put (cs' := #[.int .u32 d1, .int .u32 d2, .int .u64 0, .int .u64 0, .int .u64 0, .int .u64 0, .int .u64 0, .int .u64 0, .int .u64 0]) (blk_put (cs' := #[.int .u32 d1, .int .u32 0, .int .u64 0, .int .u64 0, .int .u64 0, .int .u64 0, .int .u64 0, .int .u64 0, .int .u64 0]) dd6.out 0 (.int .u32 d1) rfl) 1 (.int .u32 d2) rfl) 2 (.int .u64 d3) rfl) 3 (.int .u64 d4) rfl) 4 (.int .u64 d5) rfl) 5 (.int .u64 d6) rfl) 6 (.int .u64 d7) rfl) 7 (.int .u64 d8) rfl) 8 (.int .u64 d9) rfl) nd.out (.int .u32 d1)) nd.out (.int .u32 d2)) nd.out (.int .u64 d3)) nd.out (.int .u64 d4)) nd.out (.int .u64 d5)) nd.out (.int .u64 d6)) nd.out (.int .u64 d7)) nd.out (.int .u64 d8)) nd.out (.int .u64 d9))); have HB7 := amd (dm_drb hq_ (below_set (g := gm) (j := 13) (v := .int .u64 d9) (below_set (g := gm) (j := 12) (v := .int .u64 d8) (below_set (g := gm) (j := 11) (v := .int .u64 d7) (below_set (g := gm) (j := 10) (v := .int .u64 d6) (below_set (g := gm) (j := 9) (v := .int .u64 d5) (below_set (g := gm) (j := 8) (v := .int .u64 d4) (below_set (g := gm) (j := 7) (v := .int .u64 d3) (below_set (g := gm) (j := 6) (v := .int .u32 d2) (below_set (g := gm) (j := 5) (v := .int .u32 d1) (below_set (g := gd) (j := 8) (v := .int .u64 d9) (below_set (g := gd) (j := 7) (v := .int .u64 d8) (below_set (g := gd) (j := 6) (v := .int .u64 d7) (below_set (g := gd) (j := 5) (v := .int .u64 d6) (below_set (g := gd) (j := 4) (v := .int .u64 d5) (below_set (g := gd) (j := 3) (v := .int .u64 d4) (below_set (g := gd) (j := 2) (v := .int .u64 d3) (below_set (g := gd) (j := 1) (v := .int .u32 d2) (below_set (g := gd) (j := 0) (v := .int .u32 d1) HB6.out ed.out) ed.out) ed.out) ed.out) ed.out) ed.out) ed.out) ed.out) ed.out) em.out) em.out) em.out) em.out) em.out) em.out) em.out) em.out) em.out)); clear HB6 rr6 mm6 dd6 cr6 fr6 cm6 fm6 cd6 fd6; have cr7 := Mine.cells15 rr7.out; have fr7 := blk_frozen rr7.out; have cm7 := Mine.cells15 mm7.out; have fm7 := blk_frozen mm7.out; have cd7 := Mine.cells9 dd7.out; have fd7 := blk_frozen dd7.out; clear hq_ nd_))
  (repeat (go_step3; (try go_wp2)))
  refine bodyPost_ret (results_ct rfl _ _ gr 28 (M15 0 0 0 0 0 0 0 0 0 0 0 0 0 0 ⟨#[]⟩) (0, 0) _ rfl (dm_put15 _ _ _ _ _ _ _ _ _ _ _ _ _ _ _ (blk_far (p := ⟨gm, 14, none⟩) rr7.out (Ne.symm ng.out) (.string t1))) hu28 rfl (by kernel_rfl)) rfl ?_
  exact ⟨rfl, (dm_put15b _ _ _ _ _ _ _ _ _ _ _ _ _ _ _ (below_set (g := gm) (j := 14) (v := .string t1) HB7.out em.out) er.out)⟩
set_option maxHeartbeats 8000000 in
set_option maxRecDepth 100000 in
theorem fairleadref17_Decode.m2W (k : Nat) (ad : Addr) (c0 : Nat) (l0 : List Int) (w : World) (hr0 : Kd.C (Kd.int .u8) w (some ad) l0.length l0) (hl : 0 < l0.length) (klo : decide ((wrap64 (rd l0 0)) < 1) = false) (khi : decide (7 < (wrap64 (rd l0 0))) = false) (kq1 : ((wrap64 (rd l0 0)) == 1) = false) (kq2 : ((wrap64 (rd l0 0)) == 2) = true) (kq4 : ((wrap64 (rd l0 0)) == 4) = false) (kq5 : ((wrap64 (rd l0 0)) == 5) = false) (kq7 : ((wrap64 (rd l0 0)) == 7) = false) (kg : decide (1 < (wrap64 (rd l0 0))) = true) (hc0 : l0.length ≤ c0) (hs : decide ((l0.length : Int) < 84) = false) (p1 p2 : Int) (hp : fairleadref02_Take.f k (l0.drop 1) 8 = some (p1, p2)) (i1 i2 : Int) (hi : fairleadref02_Take.f k (l0.drop 9) 8 = some (i1, i2)) (d1 d2 d3 d4 d5 d6 d7 d8 d9 d10 : Int) (hd : fairleadref04_Of.f k ((l0.take 82).drop 18) = some (d1, d2, d3, d4, d5, d6, d7, d8, d9, d10)) (t1 : ByteArray) (t2 t3 : Int) (ht : fairleadref02_TakeText.f k (l0.drop 82) = some (t1, t2, t3)) (he : (t3 == 0) = true) (he2 : (t3 != 0) = false) (hL : decide ((wrap64 (82 + t2)) < (l0.length : Int)) = false) (hR : fairleadref17_Right.f k ((wrap64 (rd l0 0))) (p1) (i1) ((wrap64 (rd l0 17))) (0) (d1) (d2) (d3) (d4) (d5) (d6) (d7) (d8) (d9) (t1) = some false) :
    Calls Try.prog 14 #[.slice (some ad) l0.length c0] w (fun e w' => e = .returned (.tuple #[.agg #[.int .i64 0, .int .u64 0, .int .u64 0, .int .i64 0, .int .i64 0, .int .u32 0, .int .u32 0, .int .u64 0, .int .u64 0, .int .u64 0, .int .u64 0, .int .u64 0, .int .u64 0, .int .u64 0, .string (⟨#[]⟩ : ByteArray)], .int .i64 1]) ∧ Below w.heap.size w w') := by
  have hu28 := Try.underlying28
  have hu26 := Try.underlying26
  have hfd := fun (cs_ : Array Value) (j_ : Nat) (w_ : World) => Mine.run_field (P := Try.prog) Try.underlying26 cs_ j_ w_
  have HR0 := amd hr0
  have HB := amd (Below.refl w.heap.size w)
  have qi0 : (0 < l0.length) = True := eq_true hl
  have qj0 : ((0 : Int) < (l0.length : Int)) = True := eq_true (by omega)
  have qe0 : ((l0.length : Int) == 0) = false := bfq (by omega)
  obtain ⟨ad0, e0_, x0_⟩ := Kd.at_int HR0.out 0 (by omega) (by omega)
  cases e0_
  (try rw [show ((0 : Int)).toNat = 0 from rfl] at x0_)
  (try rw [Addr.add_zero'] at x0_)
  clear hr0
  have HC0 := amd hc0
  have hln := amd (of_decide_eq_false hs)
  obtain ⟨i0_a, hi_a, _, hsz_a, _⟩ := info_parts info5
  obtain ⟨A_a, hcut_a, hA_a, hC_a⟩ := print_drop_of (P := Try.prog) (Value.int .u8) 0 30 5 .i64 Try.underlying30 hi_a hsz_a (some ad) c0 l0 1 (by omega) (by have := hln.out; omega) HC0.out
  have HR_a : Aside0 (Kd.C (Kd.int .u8) w A_a (l0.drop (1 : Int).toNat).length (l0.drop (1 : Int).toNat)) := amd (Kd.C_of_reads (h1 := fun _ => rfl) (hA_a _ (Kd.reads_of_C HR0.out)))
  have HC_a := amd hC_a
  (try simp only [show (1 : Int).toNat = 1 from rfl] at hcut_a HR_a HC_a)
  clear hA_a hC_a hi_a hsz_a
  generalize (l0.drop 1) = L_a at hcut_a HR_a HC_a hp
  have p := amd hp
  clear hp
  obtain ⟨i0_b, hi_b, _, hsz_b, _⟩ := info_parts info5
  obtain ⟨A_b, hcut_b, hA_b, hC_b⟩ := print_drop_of (P := Try.prog) (Value.int .u8) 0 30 5 .i64 Try.underlying30 hi_b hsz_b (some ad) c0 l0 9 (by omega) (by have := hln.out; omega) HC0.out
  have HR_b : Aside0 (Kd.C (Kd.int .u8) w A_b (l0.drop (9 : Int).toNat).length (l0.drop (9 : Int).toNat)) := amd (Kd.C_of_reads (h1 := fun _ => rfl) (hA_b _ (Kd.reads_of_C HR0.out)))
  have HC_b := amd hC_b
  (try simp only [show (9 : Int).toNat = 9 from rfl] at hcut_b HR_b HC_b)
  clear hA_b hC_b hi_b hsz_b
  generalize (l0.drop 9) = L_b at hcut_b HR_b HC_b hi
  have i := amd hi
  clear hi
  obtain ⟨ad17_, e17_, x17_⟩ := Kd.at_int HR0.out 17 (by omega) (by have := hln.out; omega)
  cases e17_
  (try simp only [show (17 : Int).toNat = 17 from rfl, Nat.reduceMul, Nat.reduceEqDiff, Go.Addr.add, ↓reduceIte] at x17_)
  have qi17 : (17 < l0.length) = True := eq_true (by have := hln.out; omega)
  have qj17 : ((17 : Int) < (l0.length : Int)) = True := eq_true (by have := hln.out; omega)
  obtain ⟨i0_d, hi_d, _, hsz_d, _⟩ := info_parts info5
  obtain ⟨A_d, hcut_d, hA_d, hC_d⟩ := print_mid_of (P := Try.prog) (Value.int .u8) 0 30 5 .i64 .i64 Try.underlying30 hi_d hsz_d (some ad) c0 l0 18 82 (by omega) (by omega) (by have := hln.out; omega) HC0.out
  have HR_d : Aside0 (Kd.C (Kd.int .u8) w A_d ((l0.take (82 : Int).toNat).drop (18 : Int).toNat).length ((l0.take (82 : Int).toNat).drop (18 : Int).toNat)) := amd (Kd.C_of_reads (h1 := fun _ => rfl) (hA_d _ (Kd.reads_of_C HR0.out)))
  have HC_d := amd hC_d
  (try simp only [show (18 : Int).toNat = 18 from rfl] at hcut_d HR_d HC_d)
  (try simp only [show (82 : Int).toNat = 82 from rfl] at hcut_d HR_d HC_d)
  clear hA_d hC_d hi_d hsz_d
  generalize ((l0.take 82).drop 18) = L_d at hcut_d HR_d HC_d hd
  have d := amd hd
  clear hd
  obtain ⟨i0_t, hi_t, _, hsz_t, _⟩ := info_parts info5
  obtain ⟨A_t, hcut_t, hA_t, hC_t⟩ := print_drop_of (P := Try.prog) (Value.int .u8) 0 30 5 .i64 Try.underlying30 hi_t hsz_t (some ad) c0 l0 82 (by omega) (by have := hln.out; omega) HC0.out
  have HR_t : Aside0 (Kd.C (Kd.int .u8) w A_t (l0.drop (82 : Int).toNat).length (l0.drop (82 : Int).toNat)) := amd (Kd.C_of_reads (h1 := fun _ => rfl) (hA_t _ (Kd.reads_of_C HR0.out)))
  have HC_t := amd hC_t
  (try simp only [show (82 : Int).toNat = 82 from rfl] at hcut_t HR_t HC_t)
  clear hA_t hC_t hi_t hsz_t
  generalize (l0.drop 82) = L_t at hcut_t HR_t HC_t ht
  have t := amd ht
  clear ht
  have HRt := amd hR
  go_enter Try.func14, Try.ntmps14
  go_wp2_with (first | ((with_reducible refine gate_dst (N := 2) rfl ?_); refine box_event ?hg (N := 2) ?hd (cs := #[.int .i64 0, .int .u64 0, .int .u64 0, .int .i64 0, .int .i64 0, .int .u32 0, .int .u32 0, .int .u64 0, .int .u64 0, .int .u64 0, .int .u64 0, .int .u64 0, .int .u64 0, .int .u64 0, .string ⟨#[]⟩]) (t := 28) ?hr ?_; (case hd => rfl); (case hg => rfl); (case hr => first | (go_simp; done) | (go_simp; rfl)); intro gr hg w1 hbox hb; have er := amd (show w.heap.size ≤ gr from by rw [hg]; exact Below.size HB.out); have HB1 := amd (below_step HB.out hb); have rr1 := amd hbox; have cr1 := Mine.cells15 rr1.out; have fr1 := blk_frozen rr1.out; clear hbox hb hg; have x0 := (HB1.out.cell (World.block_lt_of_cell? w _ x0_)).trans x0_) | ((with_reducible refine gate_dst (N := 4) rfl ?_); refine box_event ?hg (N := 4) ?hd (cs := #[.int .i64 0, .int .u64 0, .int .u64 0, .int .i64 0, .int .i64 0, .int .u32 0, .int .u32 0, .int .u64 0, .int .u64 0, .int .u64 0, .int .u64 0, .int .u64 0, .int .u64 0, .int .u64 0, .string ⟨#[]⟩]) (t := 28) ?hr ?_; (case hd => rfl); (case hg => rfl); (case hr => first | (go_simp; done) | (go_simp; rfl)); intro gm hg w2 hbox hb; have ng := amd (show gm ≠ gr from by rw [hg]; exact Nat.ne_of_gt (blk_lt rr1.out)); have em := amd (show w.heap.size ≤ gm from by rw [hg]; exact Below.size HB1.out); have rr2 := amd (blk_below rr1.out hb); have HB2 := amd (below_step HB1.out hb); have mm2 := amd hbox; clear HB1 rr1 cr1 fr1 x0; have cr2 := Mine.cells15 rr2.out; have fr2 := blk_frozen rr2.out; have cm2 := Mine.cells15 mm2.out; have fm2 := blk_frozen mm2.out; have n_gm_gr := ng.out; have n_gr_gm := Ne.symm ng.out; clear hbox hb hg) | (go_at_call 29; (with_reducible refine (fairleadref02_Take.calls k _ _ L_a 8 p1 p2 _ (Kd.C_below HR_a.out (dm_put15b _ _ _ _ _ _ _ _ _ _ _ _ _ _ _ HB2.out em.out)) HC_a.out p.out).mono ?_); rintro e w3 ⟨rfl, nd_, hq_⟩; have rr3 := amd (dm_dr hq_ (dm_far15 _ _ _ _ _ _ _ _ _ _ _ _ _ _ _ rr2.out (Ne.symm ng.out))); have mm3 := amd (dm_dr hq_ (dm_put15 _ _ _ _ _ _ _ _ _ _ _ _ _ _ _ mm2.out)); have HB3 := amd (dm_drb hq_ (dm_put15b _ _ _ _ _ _ _ _ _ _ _ _ _ _ _ HB2.out em.out)); clear HB2 rr2 mm2 cr2 fr2 cm2 fm2; have cr3 := Mine.cells15 rr3.out; have fr3 := blk_frozen rr3.out; have cm3 := Mine.cells15 mm3.out; have fm3 := blk_frozen mm3.out; clear hq_ nd_) | (go_at_call 29; (with_reducible refine (fairleadref02_Take.calls k _ _ L_b 8 i1 i2 _ (Kd.C_below HR_b.out (below_set (g := gm) (j := 1) (v := .int .u64 p1) HB3.out em.out)) HC_b.out i.out).mono ?_); rintro e w4 ⟨rfl, nd_, hq_⟩; have rr4 := amd (dm_dr hq_ (blk_far (p := ⟨gm, 1, none⟩) rr3.out (Ne.symm ng.out) (.int .u64 p1))); have mm4 := amd (dm_dr hq_ (blk_put (cs' := M15 (wrap64 (rd l0 0)) p1 0 0 0 0 0 0 0 0 0 0 0 0 ⟨#[]⟩) mm3.out 1 (.int .u64 p1) rfl)); have HB4 := amd (dm_drb hq_ (below_set (g := gm) (j := 1) (v := .int .u64 p1) HB3.out em.out)); clear HB3 rr3 mm3 cr3 fr3 cm3 fm3; have cr4 := Mine.cells15 rr4.out; have fr4 := blk_frozen rr4.out; have cm4 := Mine.cells15 mm4.out; have fm4 := blk_frozen mm4.out; clear hq_ nd_; have x17 := (HB4.out.cell (World.block_lt_of_cell? w ⟨ad.block, ad.off + 17, none⟩ x17_)).trans x17_; have na_ : gm ≠ ad.block := Nat.ne_of_gt (Nat.lt_of_lt_of_le (World.block_lt_of_cell? w ⟨ad.block, ad.off + 17, none⟩ x17_) em.out); have nb_ := Ne.symm na_) | (go_at_call 30; (with_reducible refine (fairleadref04_Of.calls k _ _ L_d d1 d2 d3 d4 d5 d6 d7 d8 d9 d10 _ (Kd.C_below HR_d.out (below_set (g := gm) (j := 3) (v := .int .i64 (wrap64 (rd l0 17))) (below_set (g := gm) (j := 2) (v := .int .u64 i1) HB4.out em.out) em.out)) HC_d.out d.out).mono ?_); rintro e w5 ⟨rfl, hb⟩; have rr5 := amd (blk_below (blk_far (p := ⟨gm, 3, none⟩) (blk_far (p := ⟨gm, 2, none⟩) rr4.out (Ne.symm ng.out) (.int .u64 i1)) (Ne.symm ng.out) (.int .i64 (wrap64 (rd l0 17)))) hb); have mm5 := amd (blk_below (blk_put (cs' := M15 (wrap64 (rd l0 0)) p1 i1 (wrap64 (rd l0 17)) 0 0 0 0 0 0 0 0 0 0 ⟨#[]⟩) (blk_put (cs' := M15 (wrap64 (rd l0 0)) p1 i1 0 0 0 0 0 0 0 0 0 0 0 ⟨#[]⟩) mm4.out 2 (.int .u64 i1) rfl) 3 (.int .i64 (wrap64 (rd l0 17))) rfl) hb); have HB5 := amd (below_step (below_set (g := gm) (j := 3) (v := .int .i64 (wrap64 (rd l0 17))) (below_set (g := gm) (j := 2) (v := .int .u64 i1) HB4.out em.out) em.out) hb); clear HB4 rr4 mm4 cr4 fr4 cm4 fm4 x17 na_ nb_; have cr5 := Mine.cells15 rr5.out; have fr5 := blk_frozen rr5.out; have cm5 := Mine.cells15 mm5.out; have fm5 := blk_frozen mm5.out; clear hb) | ((with_reducible refine gate_dst (N := 10) rfl ?_); refine box_event ?hg (N := 10) ?hd (cs := #[.int .u32 0, .int .u32 0, .int .u64 0, .int .u64 0, .int .u64 0, .int .u64 0, .int .u64 0, .int .u64 0, .int .u64 0]) (t := 26) ?hr ?_; (case hd => rfl); (case hg => rfl); (case hr => first | (go_simp; done) | (go_simp; rfl)); intro gd hg w6 hbox hb; have nq := amd (show gd ≠ gr from by rw [hg]; exact Nat.ne_of_gt (blk_lt rr5.out)); have nd := amd (show gd ≠ gm from by rw [hg]; exact Nat.ne_of_gt (blk_lt mm5.out)); have ed := amd (show w.heap.size ≤ gd from by rw [hg]; exact Below.size HB5.out); have rr6 := amd (blk_below rr5.out hb); have mm6 := amd (blk_below mm5.out hb); have HB6 := amd (below_step HB5.out hb); have dd6 := amd hbox; clear HB5 rr5 mm5 cr5 fr5 cm5 fm5; have cr6 := Mine.cells15 rr6.out; have fr6 := blk_frozen rr6.out; have cm6 := Mine.cells15 mm6.out; have fm6 := blk_frozen mm6.out; have cd6 := Mine.cells9 dd6.out; have fd6 := blk_frozen dd6.out; have n_gd_gr := nq.out; have n_gd_gm := nd.out; have n_gr_gd := Ne.symm nq.out; have n_gm_gd := Ne.symm nd.out; clear hbox hb hg) | (go_at_call 31; (with_reducible refine (fairleadref02_TakeText.calls k _ _ L_t t1 t2 t3 _ (Kd.C_below HR_t.out (below_set (g := gm) (j := 13) (v := .int .u64 d9) (below_set (g := gm) (j := 12) (v := .int .u64 d8) (below_set (g := gm) (j := 11) (v := .int .u64 d7) (below_set (g := gm) (j := 10) (v := .int .u64 d6) (below_set (g := gm) (j := 9) (v := .int .u64 d5) (below_set (g := gm) (j := 8) (v := .int .u64 d4) (below_set (g := gm) (j := 7) (v := .int .u64 d3) (below_set (g := gm) (j := 6) (v := .int .u32 d2) (below_set (g := gm) (j := 5) (v := .int .u32 d1) (below_set (g := gd) (j := 8) (v := .int .u64 d9) (below_set (g := gd) (j := 7) (v := .int .u64 d8) (below_set (g := gd) (j := 6) (v := .int .u64 d7) (below_set (g := gd) (j := 5) (v := .int .u64 d6) (below_set (g := gd) (j := 4) (v := .int .u64 d5) (below_set (g := gd) (j := 3) (v := .int .u64 d4) (below_set (g := gd) (j := 2) (v := .int .u64 d3) (below_set (g := gd) (j := 1) (v := .int .u32 d2) (below_set (g := gd) (j := 0) (v := .int .u32 d1) HB6.out ed.out) ed.out) ed.out) ed.out) ed.out) ed.out) ed.out) ed.out) ed.out) em.out) em.out) em.out) em.out) em.out) em.out) em.out) em.out) em.out)) HC_t.out t.out).mono ?_); rintro e w7 ⟨rfl, nd_, hq_⟩; have rr7 := amd (dm_dr hq_ (blk_far (p := ⟨gm, 13, none⟩) (blk_far (p := ⟨gm, 12, none⟩) (blk_far (p := ⟨gm, 11, none⟩) (blk_far (p := ⟨gm, 10, none⟩) (blk_far (p := ⟨gm, 9, none⟩) (blk_far (p := ⟨gm, 8, none⟩) (blk_far (p := ⟨gm, 7, none⟩) (blk_far (p := ⟨gm, 6, none⟩) (blk_far (p := ⟨gm, 5, none⟩) (blk_far (p := ⟨gd, 8, none⟩) (blk_far (p := ⟨gd, 7, none⟩) (blk_far (p := ⟨gd, 6, none⟩) (blk_far (p := ⟨gd, 5, none⟩) (blk_far (p := ⟨gd, 4, none⟩) (blk_far (p := ⟨gd, 3, none⟩) (blk_far (p := ⟨gd, 2, none⟩) (blk_far (p := ⟨gd, 1, none⟩) (blk_far (p := ⟨gd, 0, none⟩) rr6.out (Ne.symm nq.out) (.int .u32 d1)) (Ne.symm nq.out) (.int .u32 d2)) (Ne.symm nq.out) (.int .u64 d3)) (Ne.symm nq.out) (.int .u64 d4)) (Ne.symm nq.out) (.int .u64 d5)) (Ne.symm nq.out) (.int .u64 d6)) (Ne.symm nq.out) (.int .u64 d7)) (Ne.symm nq.out) (.int .u64 d8)) (Ne.symm nq.out) (.int .u64 d9)) (Ne.symm ng.out) (.int .u32 d1)) (Ne.symm ng.out) (.int .u32 d2)) (Ne.symm ng.out) (.int .u64 d3)) (Ne.symm ng.out) (.int .u64 d4)) (Ne.symm ng.out) (.int .u64 d5)) (Ne.symm ng.out) (.int .u64 d6)) (Ne.symm ng.out) (.int .u64 d7)) (Ne.symm ng.out) (.int .u64 d8)) (Ne.symm ng.out) (.int .u64 d9))); have mm7 := amd (dm_dr hq_ (blk_put (cs' := M15 (wrap64 (rd l0 0)) p1 i1 (wrap64 (rd l0 17)) 0 d1 d2 d3 d4 d5 d6 d7 d8 d9 ⟨#[]⟩) (blk_put (cs' := M15 (wrap64 (rd l0 0)) p1 i1 (wrap64 (rd l0 17)) 0 d1 d2 d3 d4 d5 d6 d7 d8 0 ⟨#[]⟩) (blk_put (cs' := M15 (wrap64 (rd l0 0)) p1 i1 (wrap64 (rd l0 17)) 0 d1 d2 d3 d4 d5 d6 d7 0 0 ⟨#[]⟩) (blk_put (cs' := M15 (wrap64 (rd l0 0)) p1 i1 (wrap64 (rd l0 17)) 0 d1 d2 d3 d4 d5 d6 0 0 0 ⟨#[]⟩) (blk_put (cs' := M15 (wrap64 (rd l0 0)) p1 i1 (wrap64 (rd l0 17)) 0 d1 d2 d3 d4 d5 0 0 0 0 ⟨#[]⟩) (blk_put (cs' := M15 (wrap64 (rd l0 0)) p1 i1 (wrap64 (rd l0 17)) 0 d1 d2 d3 d4 0 0 0 0 0 ⟨#[]⟩) (blk_put (cs' := M15 (wrap64 (rd l0 0)) p1 i1 (wrap64 (rd l0 17)) 0 d1 d2 d3 0 0 0 0 0 0 ⟨#[]⟩) (blk_put (cs' := M15 (wrap64 (rd l0 0)) p1 i1 (wrap64 (rd l0 17)) 0 d1 d2 0 0 0 0 0 0 0 ⟨#[]⟩) (blk_put (cs' := M15 (wrap64 (rd l0 0)) p1 i1 (wrap64 (rd l0 17)) 0 d1 0 0 0 0 0 0 0 0 ⟨#[]⟩) (blk_far (p := ⟨gd, 8, none⟩) (blk_far (p := ⟨gd, 7, none⟩) (blk_far (p := ⟨gd, 6, none⟩) (blk_far (p := ⟨gd, 5, none⟩) (blk_far (p := ⟨gd, 4, none⟩) (blk_far (p := ⟨gd, 3, none⟩) (blk_far (p := ⟨gd, 2, none⟩) (blk_far (p := ⟨gd, 1, none⟩) (blk_far (p := ⟨gd, 0, none⟩) mm6.out (Ne.symm nd.out) (.int .u32 d1)) (Ne.symm nd.out) (.int .u32 d2)) (Ne.symm nd.out) (.int .u64 d3)) (Ne.symm nd.out) (.int .u64 d4)) (Ne.symm nd.out) (.int .u64 d5)) (Ne.symm nd.out) (.int .u64 d6)) (Ne.symm nd.out) (.int .u64 d7)) (Ne.symm nd.out) (.int .u64 d8)) (Ne.symm nd.out) (.int .u64 d9)) 5 (.int .u32 d1) rfl) 6 (.int .u32 d2) rfl) 7 (.int .u64 d3) rfl) 8 (.int .u64 d4) rfl) 9 (.int .u64 d5) rfl) 10 (.int .u64 d6) rfl) 11 (.int .u64 d7) rfl) 12 (.int .u64 d8) rfl) 13 (.int .u64 d9) rfl)); have dd7 := amd (dm_dr hq_ (blk_far (p := ⟨gm, 13, none⟩) (blk_far (p := ⟨gm, 12, none⟩) (blk_far (p := ⟨gm, 11, none⟩) (blk_far (p := ⟨gm, 10, none⟩) (blk_far (p := ⟨gm, 9, none⟩) (blk_far (p := ⟨gm, 8, none⟩) (blk_far (p := ⟨gm, 7, none⟩) (blk_far (p := ⟨gm, 6, none⟩) (blk_far (p := ⟨gm, 5, none⟩) (blk_put (cs' := #[.int .u32 d1, .int .u32 d2, .int .u64 d3, .int .u64 d4, .int .u64 d5, .int .u64 d6, .int .u64 d7, .int .u64 d8, .int .u64 d9]) (blk_put (cs' := #[.int .u32 d1, .int .u32 d2, .int .u64 d3, .int .u64 d4, .int .u64 d5, .int .u64 d6, .int .u64 d7, .int .u64 d8, .int .u64 0]) (blk_put (cs' := #[.int .u32 d1, .int .u32 d2, .int .u64 d3, .int .u64 d4, .int .u64 d5, .int .u64 d6, .int .u64 d7, .int .u64 0, .int .u64 0]) (blk_put (cs' := #[.int .u32 d1, .int .u32 d2, .int .u64 d3, .int .u64 d4, .int .u64 d5, .int .u64 d6, .int .u64 0, .int .u64 0, .int .u64 0]) (blk_put (cs' := #[.int .u32 d1, .int .u32 d2, .int .u64 d3, .int .u64 d4, .int .u64 d5, .int .u64 0, .int .u64 0, .int .u64 0, .int .u64 0]) (blk_put (cs' := #[.int .u32 d1, .int .u32 d2, .int .u64 d3, .int .u64 d4, .int .u64 0, .int .u64 0, .int .u64 0, .int .u64 0, .int .u64 0]) (blk_put (cs' := #[.int .u32 d1, .int .u32 d2, .int .u64 d3, .int .u64 0, .int .u64 0, .int .u64 0, .int .u64 0, .int .u64 0, .int .u64 0]) (blk_put (cs' := #[.int .u32 d1, .int .u32 d2, .int .u64 0, .int .u64 0, .int .u64 0, .int .u64 0, .int .u64 0, .int .u64 0, .int .u64 0]) (blk_put (cs' := #[.int .u32 d1, .int .u32 0, .int .u64 0, .int .u64 0, .int .u64 0, .int .u64 0, .int .u64 0, .int .u64 0, .int .u64 0]) dd6.out 0 (.int .u32 d1) rfl) 1 (.int .u32 d2) rfl) 2 (.int .u64 d3) rfl) 3 (.int .u64 d4) rfl) 4 (.int .u64 d5) rfl) 5 (.int .u64 d6) rfl) 6 (.int .u64 d7) rfl) 7 (.int .u64 d8) rfl) 8 (.int .u64 d9) rfl) nd.out (.int .u32 d1)) nd.out (.int .u32 d2)) nd.out (.int .u64 d3)) nd.out (.int .u64 d4)) nd.out (.int .u64 d5)) nd.out (.int .u64 d6)) nd.out (.int .u64 d7)) nd.out (.int .u64 d8)) nd.out (.int .u64 d9))); have HB7 := amd (dm_drb hq_ (below_set (g := gm) (j := 13) (v := .int .u64 d9) (below_set (g := gm) (j := 12) (v := .int .u64 d8) (below_set (g := gm) (j := 11) (v := .int .u64 d7) (below_set (g := gm) (j := 10) (v := .int .u64 d6) (below_set (g := gm) (j := 9) (v := .int .u64 d5) (below_set (g := gm) (j := 8) (v := .int .u64 d4) (below_set (g := gm) (j := 7) (v := .int .u64 d3) (below_set (g := gm) (j := 6) (v := .int .u32 d2) (below_set (g := gm) (j := 5) (v := .int .u32 d1) (below_set (g := gd) (j := 8) (v := .int .u64 d9) (below_set (g := gd) (j := 7) (v := .int .u64 d8) (below_set (g := gd) (j := 6) (v := .int .u64 d7) (below_set (g := gd) (j := 5) (v := .int .u64 d6) (below_set (g := gd) (j := 4) (v := .int .u64 d5) (below_set (g := gd) (j := 3) (v := .int .u64 d4) (below_set (g := gd) (j := 2) (v := .int .u64 d3) (below_set (g := gd) (j := 1) (v := .int .u32 d2) (below_set (g := gd) (j := 0) (v := .int .u32 d1) HB6.out ed.out) ed.out) ed.out) ed.out) ed.out) ed.out) ed.out) ed.out) ed.out) em.out) em.out) em.out) em.out) em.out) em.out) em.out) em.out) em.out)); clear HB6 rr6 mm6 dd6 cr6 fr6 cm6 fm6 cd6 fd6; have cr7 := Mine.cells15 rr7.out; have fr7 := blk_frozen rr7.out; have cm7 := Mine.cells15 mm7.out; have fm7 := blk_frozen mm7.out; have cd7 := Mine.cells9 dd7.out; have fd7 := blk_frozen dd7.out; clear hq_ nd_) | (go_at_call 12; (with_reducible refine (fairleadref17_Right.calls k ((wrap64 (rd l0 0))) (p1) (i1) ((wrap64 (rd l0 17))) (0) (d1) (d2) (d3) (d4) (d5) (d6) (d7) (d8) (d9) (t1) false _ HRt.out).mono ?_); rintro e w8 ⟨rfl, hb⟩; have rr8 := amd (blk_below (blk_far (p := ⟨gm, 14, none⟩) rr7.out (Ne.symm ng.out) (.string t1)) hb); have mm8 := amd (blk_below (blk_put (cs' := M15 (wrap64 (rd l0 0)) p1 i1 (wrap64 (rd l0 17)) 0 d1 d2 d3 d4 d5 d6 d7 d8 d9 t1) mm7.out 14 (.string t1) rfl) hb); have dd8 := amd (blk_below (blk_far (p := ⟨gm, 14, none⟩) dd7.out nd.out (.string t1)) hb); have HB8 := amd (below_step (below_set (g := gm) (j := 14) (v := .string t1) HB7.out em.out) hb); clear HB7 rr7 mm7 dd7 cr7 fr7 cm7 fm7 cd7 fd7; have cr8 := Mine.cells15 rr8.out; have fr8 := blk_frozen rr8.out; have cm8 := Mine.cells15 mm8.out; have fm8 := blk_frozen mm8.out; have cd8 := Mine.cells9 dd8.out; have fd8 := blk_frozen dd8.out; clear hb))
  (repeat (go_step3; (try go_wp2)))
  refine bodyPost_ret (results_ct rfl _ _ gr 28 (M15 0 0 0 0 0 0 0 0 0 0 0 0 0 0 ⟨#[]⟩) (0, 0) _ rfl (dm_put15 _ _ _ _ _ _ _ _ _ _ _ _ _ _ _ rr8.out) hu28 rfl (by kernel_rfl)) rfl ?_
  exact ⟨rfl, (dm_put15b _ _ _ _ _ _ _ _ _ _ _ _ _ _ _ HB8.out er.out)⟩
set_option maxHeartbeats 8000000 in
set_option maxRecDepth 100000 in
theorem fairleadref17_Decode.m2K (k : Nat) (ad : Addr) (c0 : Nat) (l0 : List Int) (w : World) (hr0 : Kd.C (Kd.int .u8) w (some ad) l0.length l0) (hl : 0 < l0.length) (klo : decide ((wrap64 (rd l0 0)) < 1) = false) (khi : decide (7 < (wrap64 (rd l0 0))) = false) (kq1 : ((wrap64 (rd l0 0)) == 1) = false) (kq2 : ((wrap64 (rd l0 0)) == 2) = true) (kq4 : ((wrap64 (rd l0 0)) == 4) = false) (kq5 : ((wrap64 (rd l0 0)) == 5) = false) (kq7 : ((wrap64 (rd l0 0)) == 7) = false) (kg : decide (1 < (wrap64 (rd l0 0))) = true) (hc0 : l0.length ≤ c0) (hs : decide ((l0.length : Int) < 84) = false) (p1 p2 : Int) (hp : fairleadref02_Take.f k (l0.drop 1) 8 = some (p1, p2)) (i1 i2 : Int) (hi : fairleadref02_Take.f k (l0.drop 9) 8 = some (i1, i2)) (d1 d2 d3 d4 d5 d6 d7 d8 d9 d10 : Int) (hd : fairleadref04_Of.f k ((l0.take 82).drop 18) = some (d1, d2, d3, d4, d5, d6, d7, d8, d9, d10)) (t1 : ByteArray) (t2 t3 : Int) (ht : fairleadref02_TakeText.f k (l0.drop 82) = some (t1, t2, t3)) (he : (t3 == 0) = true) (he2 : (t3 != 0) = false) (hL : decide ((wrap64 (82 + t2)) < (l0.length : Int)) = false) (hR : fairleadref17_Right.f k ((wrap64 (rd l0 0))) (p1) (i1) ((wrap64 (rd l0 17))) (0) (d1) (d2) (d3) (d4) (d5) (d6) (d7) (d8) (d9) (t1) = some true) :
    Calls Try.prog 14 #[.slice (some ad) l0.length c0] w (fun e w' => e = .returned (.tuple #[.agg #[.int .i64 (wrap64 (rd l0 0)), .int .u64 p1, .int .u64 i1, .int .i64 (wrap64 (rd l0 17)), .int .i64 0, .int .u32 d1, .int .u32 d2, .int .u64 d3, .int .u64 d4, .int .u64 d5, .int .u64 d6, .int .u64 d7, .int .u64 d8, .int .u64 d9, .string t1], .int .i64 0]) ∧ Below w.heap.size w w') := by
  have hu28 := Try.underlying28
  have hu26 := Try.underlying26
  have hfd := fun (cs_ : Array Value) (j_ : Nat) (w_ : World) => Mine.run_field (P := Try.prog) Try.underlying26 cs_ j_ w_
  have HR0 := amd hr0
  have HB := amd (Below.refl w.heap.size w)
  have qi0 : (0 < l0.length) = True := eq_true hl
  have qj0 : ((0 : Int) < (l0.length : Int)) = True := eq_true (by omega)
  have qe0 : ((l0.length : Int) == 0) = false := bfq (by omega)
  obtain ⟨ad0, e0_, x0_⟩ := Kd.at_int HR0.out 0 (by omega) (by omega)
  cases e0_
  (try rw [show ((0 : Int)).toNat = 0 from rfl] at x0_)
  (try rw [Addr.add_zero'] at x0_)
  clear hr0
  have HC0 := amd hc0
  have hln := amd (of_decide_eq_false hs)
  obtain ⟨i0_a, hi_a, _, hsz_a, _⟩ := info_parts info5
  obtain ⟨A_a, hcut_a, hA_a, hC_a⟩ := print_drop_of (P := Try.prog) (Value.int .u8) 0 30 5 .i64 Try.underlying30 hi_a hsz_a (some ad) c0 l0 1 (by omega) (by have := hln.out; omega) HC0.out
  have HR_a : Aside0 (Kd.C (Kd.int .u8) w A_a (l0.drop (1 : Int).toNat).length (l0.drop (1 : Int).toNat)) := amd (Kd.C_of_reads (h1 := fun _ => rfl) (hA_a _ (Kd.reads_of_C HR0.out)))
  have HC_a := amd hC_a
  (try simp only [show (1 : Int).toNat = 1 from rfl] at hcut_a HR_a HC_a)
  clear hA_a hC_a hi_a hsz_a
  generalize (l0.drop 1) = L_a at hcut_a HR_a HC_a hp
  have p := amd hp
  clear hp
  obtain ⟨i0_b, hi_b, _, hsz_b, _⟩ := info_parts info5
  obtain ⟨A_b, hcut_b, hA_b, hC_b⟩ := print_drop_of (P := Try.prog) (Value.int .u8) 0 30 5 .i64 Try.underlying30 hi_b hsz_b (some ad) c0 l0 9 (by omega) (by have := hln.out; omega) HC0.out
  have HR_b : Aside0 (Kd.C (Kd.int .u8) w A_b (l0.drop (9 : Int).toNat).length (l0.drop (9 : Int).toNat)) := amd (Kd.C_of_reads (h1 := fun _ => rfl) (hA_b _ (Kd.reads_of_C HR0.out)))
  have HC_b := amd hC_b
  (try simp only [show (9 : Int).toNat = 9 from rfl] at hcut_b HR_b HC_b)
  clear hA_b hC_b hi_b hsz_b
  generalize (l0.drop 9) = L_b at hcut_b HR_b HC_b hi
  have i := amd hi
  clear hi
  obtain ⟨ad17_, e17_, x17_⟩ := Kd.at_int HR0.out 17 (by omega) (by have := hln.out; omega)
  cases e17_
  (try simp only [show (17 : Int).toNat = 17 from rfl, Nat.reduceMul, Nat.reduceEqDiff, Go.Addr.add, ↓reduceIte] at x17_)
  have qi17 : (17 < l0.length) = True := eq_true (by have := hln.out; omega)
  have qj17 : ((17 : Int) < (l0.length : Int)) = True := eq_true (by have := hln.out; omega)
  obtain ⟨i0_d, hi_d, _, hsz_d, _⟩ := info_parts info5
  obtain ⟨A_d, hcut_d, hA_d, hC_d⟩ := print_mid_of (P := Try.prog) (Value.int .u8) 0 30 5 .i64 .i64 Try.underlying30 hi_d hsz_d (some ad) c0 l0 18 82 (by omega) (by omega) (by have := hln.out; omega) HC0.out
  have HR_d : Aside0 (Kd.C (Kd.int .u8) w A_d ((l0.take (82 : Int).toNat).drop (18 : Int).toNat).length ((l0.take (82 : Int).toNat).drop (18 : Int).toNat)) := amd (Kd.C_of_reads (h1 := fun _ => rfl) (hA_d _ (Kd.reads_of_C HR0.out)))
  have HC_d := amd hC_d
  (try simp only [show (18 : Int).toNat = 18 from rfl] at hcut_d HR_d HC_d)
  (try simp only [show (82 : Int).toNat = 82 from rfl] at hcut_d HR_d HC_d)
  clear hA_d hC_d hi_d hsz_d
  generalize ((l0.take 82).drop 18) = L_d at hcut_d HR_d HC_d hd
  have d := amd hd
  clear hd
  obtain ⟨i0_t, hi_t, _, hsz_t, _⟩ := info_parts info5
  obtain ⟨A_t, hcut_t, hA_t, hC_t⟩ := print_drop_of (P := Try.prog) (Value.int .u8) 0 30 5 .i64 Try.underlying30 hi_t hsz_t (some ad) c0 l0 82 (by omega) (by have := hln.out; omega) HC0.out
  have HR_t : Aside0 (Kd.C (Kd.int .u8) w A_t (l0.drop (82 : Int).toNat).length (l0.drop (82 : Int).toNat)) := amd (Kd.C_of_reads (h1 := fun _ => rfl) (hA_t _ (Kd.reads_of_C HR0.out)))
  have HC_t := amd hC_t
  (try simp only [show (82 : Int).toNat = 82 from rfl] at hcut_t HR_t HC_t)
  clear hA_t hC_t hi_t hsz_t
  generalize (l0.drop 82) = L_t at hcut_t HR_t HC_t ht
  have t := amd ht
  clear ht
  have HRt := amd hR
  go_enter Try.func14, Try.ntmps14
  go_wp2_with (first | ((with_reducible refine gate_dst (N := 2) rfl ?_); refine box_event ?hg (N := 2) ?hd (cs := #[.int .i64 0, .int .u64 0, .int .u64 0, .int .i64 0, .int .i64 0, .int .u32 0, .int .u32 0, .int .u64 0, .int .u64 0, .int .u64 0, .int .u64 0, .int .u64 0, .int .u64 0, .int .u64 0, .string ⟨#[]⟩]) (t := 28) ?hr ?_; (case hd => rfl); (case hg => rfl); (case hr => first | (go_simp; done) | (go_simp; rfl)); intro gr hg w1 hbox hb; have er := amd (show w.heap.size ≤ gr from by rw [hg]; exact Below.size HB.out); have HB1 := amd (below_step HB.out hb); have rr1 := amd hbox; have cr1 := Mine.cells15 rr1.out; have fr1 := blk_frozen rr1.out; clear hbox hb hg; have x0 := (HB1.out.cell (World.block_lt_of_cell? w _ x0_)).trans x0_) | ((with_reducible refine gate_dst (N := 4) rfl ?_); refine box_event ?hg (N := 4) ?hd (cs := #[.int .i64 0, .int .u64 0, .int .u64 0, .int .i64 0, .int .i64 0, .int .u32 0, .int .u32 0, .int .u64 0, .int .u64 0, .int .u64 0, .int .u64 0, .int .u64 0, .int .u64 0, .int .u64 0, .string ⟨#[]⟩]) (t := 28) ?hr ?_; (case hd => rfl); (case hg => rfl); (case hr => first | (go_simp; done) | (go_simp; rfl)); intro gm hg w2 hbox hb; have ng := amd (show gm ≠ gr from by rw [hg]; exact Nat.ne_of_gt (blk_lt rr1.out)); have em := amd (show w.heap.size ≤ gm from by rw [hg]; exact Below.size HB1.out); have rr2 := amd (blk_below rr1.out hb); have HB2 := amd (below_step HB1.out hb); have mm2 := amd hbox; clear HB1 rr1 cr1 fr1 x0; have cr2 := Mine.cells15 rr2.out; have fr2 := blk_frozen rr2.out; have cm2 := Mine.cells15 mm2.out; have fm2 := blk_frozen mm2.out; have n_gm_gr := ng.out; have n_gr_gm := Ne.symm ng.out; clear hbox hb hg) | (go_at_call 29; (with_reducible refine (fairleadref02_Take.calls k _ _ L_a 8 p1 p2 _ (Kd.C_below HR_a.out (dm_put15b _ _ _ _ _ _ _ _ _ _ _ _ _ _ _ HB2.out em.out)) HC_a.out p.out).mono ?_); rintro e w3 ⟨rfl, nd_, hq_⟩; have rr3 := amd (dm_dr hq_ (dm_far15 _ _ _ _ _ _ _ _ _ _ _ _ _ _ _ rr2.out (Ne.symm ng.out))); have mm3 := amd (dm_dr hq_ (dm_put15 _ _ _ _ _ _ _ _ _ _ _ _ _ _ _ mm2.out)); have HB3 := amd (dm_drb hq_ (dm_put15b _ _ _ _ _ _ _ _ _ _ _ _ _ _ _ HB2.out em.out)); clear HB2 rr2 mm2 cr2 fr2 cm2 fm2; have cr3 := Mine.cells15 rr3.out; have fr3 := blk_frozen rr3.out; have cm3 := Mine.cells15 mm3.out; have fm3 := blk_frozen mm3.out; clear hq_ nd_) | (go_at_call 29; (with_reducible refine (fairleadref02_Take.calls k _ _ L_b 8 i1 i2 _ (Kd.C_below HR_b.out (below_set (g := gm) (j := 1) (v := .int .u64 p1) HB3.out em.out)) HC_b.out i.out).mono ?_); rintro e w4 ⟨rfl, nd_, hq_⟩; have rr4 := amd (dm_dr hq_ (blk_far (p := ⟨gm, 1, none⟩) rr3.out (Ne.symm ng.out) (.int .u64 p1))); have mm4 := amd (dm_dr hq_ (blk_put (cs' := M15 (wrap64 (rd l0 0)) p1 0 0 0 0 0 0 0 0 0 0 0 0 ⟨#[]⟩) mm3.out 1 (.int .u64 p1) rfl)); have HB4 := amd (dm_drb hq_ (below_set (g := gm) (j := 1) (v := .int .u64 p1) HB3.out em.out)); clear HB3 rr3 mm3 cr3 fr3 cm3 fm3; have cr4 := Mine.cells15 rr4.out; have fr4 := blk_frozen rr4.out; have cm4 := Mine.cells15 mm4.out; have fm4 := blk_frozen mm4.out; clear hq_ nd_; have x17 := (HB4.out.cell (World.block_lt_of_cell? w ⟨ad.block, ad.off + 17, none⟩ x17_)).trans x17_; have na_ : gm ≠ ad.block := Nat.ne_of_gt (Nat.lt_of_lt_of_le (World.block_lt_of_cell? w ⟨ad.block, ad.off + 17, none⟩ x17_) em.out); have nb_ := Ne.symm na_) | (go_at_call 30; (with_reducible refine (fairleadref04_Of.calls k _ _ L_d d1 d2 d3 d4 d5 d6 d7 d8 d9 d10 _ (Kd.C_below HR_d.out (below_set (g := gm) (j := 3) (v := .int .i64 (wrap64 (rd l0 17))) (below_set (g := gm) (j := 2) (v := .int .u64 i1) HB4.out em.out) em.out)) HC_d.out d.out).mono ?_); rintro e w5 ⟨rfl, hb⟩; have rr5 := amd (blk_below (blk_far (p := ⟨gm, 3, none⟩) (blk_far (p := ⟨gm, 2, none⟩) rr4.out (Ne.symm ng.out) (.int .u64 i1)) (Ne.symm ng.out) (.int .i64 (wrap64 (rd l0 17)))) hb); have mm5 := amd (blk_below (blk_put (cs' := M15 (wrap64 (rd l0 0)) p1 i1 (wrap64 (rd l0 17)) 0 0 0 0 0 0 0 0 0 0 ⟨#[]⟩) (blk_put (cs' := M15 (wrap64 (rd l0 0)) p1 i1 0 0 0 0 0 0 0 0 0 0 0 ⟨#[]⟩) mm4.out 2 (.int .u64 i1) rfl) 3 (.int .i64 (wrap64 (rd l0 17))) rfl) hb); have HB5 := amd (below_step (below_set (g := gm) (j := 3) (v := .int .i64 (wrap64 (rd l0 17))) (below_set (g := gm) (j := 2) (v := .int .u64 i1) HB4.out em.out) em.out) hb); clear HB4 rr4 mm4 cr4 fr4 cm4 fm4 x17 na_ nb_; have cr5 := Mine.cells15 rr5.out; have fr5 := blk_frozen rr5.out; have cm5 := Mine.cells15 mm5.out; have fm5 := blk_frozen mm5.out; clear hb) | ((with_reducible refine gate_dst (N := 10) rfl ?_); refine box_event ?hg (N := 10) ?hd (cs := #[.int .u32 0, .int .u32 0, .int .u64 0, .int .u64 0, .int .u64 0, .int .u64 0, .int .u64 0, .int .u64 0, .int .u64 0]) (t := 26) ?hr ?_; (case hd => rfl); (case hg => rfl); (case hr => first | (go_simp; done) | (go_simp; rfl)); intro gd hg w6 hbox hb; have nq := amd (show gd ≠ gr from by rw [hg]; exact Nat.ne_of_gt (blk_lt rr5.out)); have nd := amd (show gd ≠ gm from by rw [hg]; exact Nat.ne_of_gt (blk_lt mm5.out)); have ed := amd (show w.heap.size ≤ gd from by rw [hg]; exact Below.size HB5.out); have rr6 := amd (blk_below rr5.out hb); have mm6 := amd (blk_below mm5.out hb); have HB6 := amd (below_step HB5.out hb); have dd6 := amd hbox; clear HB5 rr5 mm5 cr5 fr5 cm5 fm5; have cr6 := Mine.cells15 rr6.out; have fr6 := blk_frozen rr6.out; have cm6 := Mine.cells15 mm6.out; have fm6 := blk_frozen mm6.out; have cd6 := Mine.cells9 dd6.out; have fd6 := blk_frozen dd6.out; have n_gd_gr := nq.out; have n_gd_gm := nd.out; have n_gr_gd := Ne.symm nq.out; have n_gm_gd := Ne.symm nd.out; clear hbox hb hg) | (go_at_call 31; (with_reducible refine (fairleadref02_TakeText.calls k _ _ L_t t1 t2 t3 _ (Kd.C_below HR_t.out (below_set (g := gm) (j := 13) (v := .int .u64 d9) (below_set (g := gm) (j := 12) (v := .int .u64 d8) (below_set (g := gm) (j := 11) (v := .int .u64 d7) (below_set (g := gm) (j := 10) (v := .int .u64 d6) (below_set (g := gm) (j := 9) (v := .int .u64 d5) (below_set (g := gm) (j := 8) (v := .int .u64 d4) (below_set (g := gm) (j := 7) (v := .int .u64 d3) (below_set (g := gm) (j := 6) (v := .int .u32 d2) (below_set (g := gm) (j := 5) (v := .int .u32 d1) (below_set (g := gd) (j := 8) (v := .int .u64 d9) (below_set (g := gd) (j := 7) (v := .int .u64 d8) (below_set (g := gd) (j := 6) (v := .int .u64 d7) (below_set (g := gd) (j := 5) (v := .int .u64 d6) (below_set (g := gd) (j := 4) (v := .int .u64 d5) (below_set (g := gd) (j := 3) (v := .int .u64 d4) (below_set (g := gd) (j := 2) (v := .int .u64 d3) (below_set (g := gd) (j := 1) (v := .int .u32 d2) (below_set (g := gd) (j := 0) (v := .int .u32 d1) HB6.out ed.out) ed.out) ed.out) ed.out) ed.out) ed.out) ed.out) ed.out) ed.out) em.out) em.out) em.out) em.out) em.out) em.out) em.out) em.out) em.out)) HC_t.out t.out).mono ?_); rintro e w7 ⟨rfl, nd_, hq_⟩; have rr7 := amd (dm_dr hq_ (blk_far (p := ⟨gm, 13, none⟩) (blk_far (p := ⟨gm, 12, none⟩) (blk_far (p := ⟨gm, 11, none⟩) (blk_far (p := ⟨gm, 10, none⟩) (blk_far (p := ⟨gm, 9, none⟩) (blk_far (p := ⟨gm, 8, none⟩) (blk_far (p := ⟨gm, 7, none⟩) (blk_far (p := ⟨gm, 6, none⟩) (blk_far (p := ⟨gm, 5, none⟩) (blk_far (p := ⟨gd, 8, none⟩) (blk_far (p := ⟨gd, 7, none⟩) (blk_far (p := ⟨gd, 6, none⟩) (blk_far (p := ⟨gd, 5, none⟩) (blk_far (p := ⟨gd, 4, none⟩) (blk_far (p := ⟨gd, 3, none⟩) (blk_far (p := ⟨gd, 2, none⟩) (blk_far (p := ⟨gd, 1, none⟩) (blk_far (p := ⟨gd, 0, none⟩) rr6.out (Ne.symm nq.out) (.int .u32 d1)) (Ne.symm nq.out) (.int .u32 d2)) (Ne.symm nq.out) (.int .u64 d3)) (Ne.symm nq.out) (.int .u64 d4)) (Ne.symm nq.out) (.int .u64 d5)) (Ne.symm nq.out) (.int .u64 d6)) (Ne.symm nq.out) (.int .u64 d7)) (Ne.symm nq.out) (.int .u64 d8)) (Ne.symm nq.out) (.int .u64 d9)) (Ne.symm ng.out) (.int .u32 d1)) (Ne.symm ng.out) (.int .u32 d2)) (Ne.symm ng.out) (.int .u64 d3)) (Ne.symm ng.out) (.int .u64 d4)) (Ne.symm ng.out) (.int .u64 d5)) (Ne.symm ng.out) (.int .u64 d6)) (Ne.symm ng.out) (.int .u64 d7)) (Ne.symm ng.out) (.int .u64 d8)) (Ne.symm ng.out) (.int .u64 d9))); have mm7 := amd (dm_dr hq_ (blk_put (cs' := M15 (wrap64 (rd l0 0)) p1 i1 (wrap64 (rd l0 17)) 0 d1 d2 d3 d4 d5 d6 d7 d8 d9 ⟨#[]⟩) (blk_put (cs' := M15 (wrap64 (rd l0 0)) p1 i1 (wrap64 (rd l0 17)) 0 d1 d2 d3 d4 d5 d6 d7 d8 0 ⟨#[]⟩) (blk_put (cs' := M15 (wrap64 (rd l0 0)) p1 i1 (wrap64 (rd l0 17)) 0 d1 d2 d3 d4 d5 d6 d7 0 0 ⟨#[]⟩) (blk_put (cs' := M15 (wrap64 (rd l0 0)) p1 i1 (wrap64 (rd l0 17)) 0 d1 d2 d3 d4 d5 d6 0 0 0 ⟨#[]⟩) (blk_put (cs' := M15 (wrap64 (rd l0 0)) p1 i1 (wrap64 (rd l0 17)) 0 d1 d2 d3 d4 d5 0 0 0 0 ⟨#[]⟩) (blk_put (cs' := M15 (wrap64 (rd l0 0)) p1 i1 (wrap64 (rd l0 17)) 0 d1 d2 d3 d4 0 0 0 0 0 ⟨#[]⟩) (blk_put (cs' := M15 (wrap64 (rd l0 0)) p1 i1 (wrap64 (rd l0 17)) 0 d1 d2 d3 0 0 0 0 0 0 ⟨#[]⟩) (blk_put (cs' := M15 (wrap64 (rd l0 0)) p1 i1 (wrap64 (rd l0 17)) 0 d1 d2 0 0 0 0 0 0 0 ⟨#[]⟩) (blk_put (cs' := M15 (wrap64 (rd l0 0)) p1 i1 (wrap64 (rd l0 17)) 0 d1 0 0 0 0 0 0 0 0 ⟨#[]⟩) (blk_far (p := ⟨gd, 8, none⟩) (blk_far (p := ⟨gd, 7, none⟩) (blk_far (p := ⟨gd, 6, none⟩) (blk_far (p := ⟨gd, 5, none⟩) (blk_far (p := ⟨gd, 4, none⟩) (blk_far (p := ⟨gd, 3, none⟩) (blk_far (p := ⟨gd, 2, none⟩) (blk_far (p := ⟨gd, 1, none⟩) (blk_far (p := ⟨gd, 0, none⟩) mm6.out (Ne.symm nd.out) (.int .u32 d1)) (Ne.symm nd.out) (.int .u32 d2)) (Ne.symm nd.out) (.int .u64 d3)) (Ne.symm nd.out) (.int .u64 d4)) (Ne.symm nd.out) (.int .u64 d5)) (Ne.symm nd.out) (.int .u64 d6)) (Ne.symm nd.out) (.int .u64 d7)) (Ne.symm nd.out) (.int .u64 d8)) (Ne.symm nd.out) (.int .u64 d9)) 5 (.int .u32 d1) rfl) 6 (.int .u32 d2) rfl) 7 (.int .u64 d3) rfl) 8 (.int .u64 d4) rfl) 9 (.int .u64 d5) rfl) 10 (.int .u64 d6) rfl) 11 (.int .u64 d7) rfl) 12 (.int .u64 d8) rfl) 13 (.int .u64 d9) rfl)); have dd7 := amd (dm_dr hq_ (blk_far (p := ⟨gm, 13, none⟩) (blk_far (p := ⟨gm, 12, none⟩) (blk_far (p := ⟨gm, 11, none⟩) (blk_far (p := ⟨gm, 10, none⟩) (blk_far (p := ⟨gm, 9, none⟩) (blk_far (p := ⟨gm, 8, none⟩) (blk_far (p := ⟨gm, 7, none⟩) (blk_far (p := ⟨gm, 6, none⟩) (blk_far (p := ⟨gm, 5, none⟩) (blk_put (cs' := #[.int .u32 d1, .int .u32 d2, .int .u64 d3, .int .u64 d4, .int .u64 d5, .int .u64 d6, .int .u64 d7, .int .u64 d8, .int .u64 d9]) (blk_put (cs' := #[.int .u32 d1, .int .u32 d2, .int .u64 d3, .int .u64 d4, .int .u64 d5, .int .u64 d6, .int .u64 d7, .int .u64 d8, .int .u64 0]) (blk_put (cs' := #[.int .u32 d1, .int .u32 d2, .int .u64 d3, .int .u64 d4, .int .u64 d5, .int .u64 d6, .int .u64 d7, .int .u64 0, .int .u64 0]) (blk_put (cs' := #[.int .u32 d1, .int .u32 d2, .int .u64 d3, .int .u64 d4, .int .u64 d5, .int .u64 d6, .int .u64 0, .int .u64 0, .int .u64 0]) (blk_put (cs' := #[.int .u32 d1, .int .u32 d2, .int .u64 d3, .int .u64 d4, .int .u64 d5, .int .u64 0, .int .u64 0, .int .u64 0, .int .u64 0]) (blk_put (cs' := #[.int .u32 d1, .int .u32 d2, .int .u64 d3, .int .u64 d4, .int .u64 0, .int .u64 0, .int .u64 0, .int .u64 0, .int .u64 0]) (blk_put (cs' := #[.int .u32 d1, .int .u32 d2, .int .u64 d3, .int .u64 0, .int .u64 0, .int .u64 0, .int .u64 0, .int .u64 0, .int .u64 0]) (blk_put (cs' := #[.int .u32 d1, .int .u32 d2, .int .u64 0, .int .u64 0, .int .u64 0, .int .u64 0, .int .u64 0, .int .u64 0, .int .u64 0]) (blk_put (cs' := #[.int .u32 d1, .int .u32 0, .int .u64 0, .int .u64 0, .int .u64 0, .int .u64 0, .int .u64 0, .int .u64 0, .int .u64 0]) dd6.out 0 (.int .u32 d1) rfl) 1 (.int .u32 d2) rfl) 2 (.int .u64 d3) rfl) 3 (.int .u64 d4) rfl) 4 (.int .u64 d5) rfl) 5 (.int .u64 d6) rfl) 6 (.int .u64 d7) rfl) 7 (.int .u64 d8) rfl) 8 (.int .u64 d9) rfl) nd.out (.int .u32 d1)) nd.out (.int .u32 d2)) nd.out (.int .u64 d3)) nd.out (.int .u64 d4)) nd.out (.int .u64 d5)) nd.out (.int .u64 d6)) nd.out (.int .u64 d7)) nd.out (.int .u64 d8)) nd.out (.int .u64 d9))); have HB7 := amd (dm_drb hq_ (below_set (g := gm) (j := 13) (v := .int .u64 d9) (below_set (g := gm) (j := 12) (v := .int .u64 d8) (below_set (g := gm) (j := 11) (v := .int .u64 d7) (below_set (g := gm) (j := 10) (v := .int .u64 d6) (below_set (g := gm) (j := 9) (v := .int .u64 d5) (below_set (g := gm) (j := 8) (v := .int .u64 d4) (below_set (g := gm) (j := 7) (v := .int .u64 d3) (below_set (g := gm) (j := 6) (v := .int .u32 d2) (below_set (g := gm) (j := 5) (v := .int .u32 d1) (below_set (g := gd) (j := 8) (v := .int .u64 d9) (below_set (g := gd) (j := 7) (v := .int .u64 d8) (below_set (g := gd) (j := 6) (v := .int .u64 d7) (below_set (g := gd) (j := 5) (v := .int .u64 d6) (below_set (g := gd) (j := 4) (v := .int .u64 d5) (below_set (g := gd) (j := 3) (v := .int .u64 d4) (below_set (g := gd) (j := 2) (v := .int .u64 d3) (below_set (g := gd) (j := 1) (v := .int .u32 d2) (below_set (g := gd) (j := 0) (v := .int .u32 d1) HB6.out ed.out) ed.out) ed.out) ed.out) ed.out) ed.out) ed.out) ed.out) ed.out) em.out) em.out) em.out) em.out) em.out) em.out) em.out) em.out) em.out)); clear HB6 rr6 mm6 dd6 cr6 fr6 cm6 fm6 cd6 fd6; have cr7 := Mine.cells15 rr7.out; have fr7 := blk_frozen rr7.out; have cm7 := Mine.cells15 mm7.out; have fm7 := blk_frozen mm7.out; have cd7 := Mine.cells9 dd7.out; have fd7 := blk_frozen dd7.out; clear hq_ nd_) | (go_at_call 12; (with_reducible refine (fairleadref17_Right.calls k ((wrap64 (rd l0 0))) (p1) (i1) ((wrap64 (rd l0 17))) (0) (d1) (d2) (d3) (d4) (d5) (d6) (d7) (d8) (d9) (t1) true _ HRt.out).mono ?_); rintro e w8 ⟨rfl, hb⟩; have rr8 := amd (blk_below (blk_far (p := ⟨gm, 14, none⟩) rr7.out (Ne.symm ng.out) (.string t1)) hb); have mm8 := amd (blk_below (blk_put (cs' := M15 (wrap64 (rd l0 0)) p1 i1 (wrap64 (rd l0 17)) 0 d1 d2 d3 d4 d5 d6 d7 d8 d9 t1) mm7.out 14 (.string t1) rfl) hb); have dd8 := amd (blk_below (blk_far (p := ⟨gm, 14, none⟩) dd7.out nd.out (.string t1)) hb); have HB8 := amd (below_step (below_set (g := gm) (j := 14) (v := .string t1) HB7.out em.out) hb); clear HB7 rr7 mm7 dd7 cr7 fr7 cm7 fm7 cd7 fd7; have cr8 := Mine.cells15 rr8.out; have fr8 := blk_frozen rr8.out; have cm8 := Mine.cells15 mm8.out; have fm8 := blk_frozen mm8.out; have cd8 := Mine.cells9 dd8.out; have fd8 := blk_frozen dd8.out; clear hb))
  (repeat (go_step3; (try go_wp2)))
  refine bodyPost_ret (results_ct rfl _ _ gr 28 (M15 (wrap64 (rd l0 0)) p1 i1 (wrap64 (rd l0 17)) 0 d1 d2 d3 d4 d5 d6 d7 d8 d9 t1) (0, 0) _ rfl (dm_put15 _ _ _ _ _ _ _ _ _ _ _ _ _ _ _ rr8.out) hu28 rfl (by kernel_rfl)) rfl ?_
  exact ⟨rfl, (dm_put15b _ _ _ _ _ _ _ _ _ _ _ _ _ _ _ HB8.out er.out)⟩
set_option maxHeartbeats 8000000 in
set_option maxRecDepth 100000 in
theorem fairleadref17_Decode.m2T (k : Nat) (ad : Addr) (c0 : Nat) (l0 : List Int) (w : World) (hr0 : Kd.C (Kd.int .u8) w (some ad) l0.length l0) (hl : 0 < l0.length) (klo : decide ((wrap64 (rd l0 0)) < 1) = false) (khi : decide (7 < (wrap64 (rd l0 0))) = false) (kq1 : ((wrap64 (rd l0 0)) == 1) = false) (kq2 : ((wrap64 (rd l0 0)) == 2) = true) (kq4 : ((wrap64 (rd l0 0)) == 4) = false) (kq5 : ((wrap64 (rd l0 0)) == 5) = false) (kq7 : ((wrap64 (rd l0 0)) == 7) = false) (kg : decide (1 < (wrap64 (rd l0 0))) = true) (hc0 : l0.length ≤ c0) (hs : decide ((l0.length : Int) < 84) = false) (p1 p2 : Int) (hp : fairleadref02_Take.f k (l0.drop 1) 8 = some (p1, p2)) (i1 i2 : Int) (hi : fairleadref02_Take.f k (l0.drop 9) 8 = some (i1, i2)) (d1 d2 d3 d4 d5 d6 d7 d8 d9 d10 : Int) (hd : fairleadref04_Of.f k ((l0.take 82).drop 18) = some (d1, d2, d3, d4, d5, d6, d7, d8, d9, d10)) (t1 : ByteArray) (t2 t3 : Int) (ht : fairleadref02_TakeText.f k (l0.drop 82) = some (t1, t2, t3)) (he : (t3 == 0) = false) (he2 : (t3 != 0) = true) :
    Calls Try.prog 14 #[.slice (some ad) l0.length c0] w (fun e w' => e = .returned (.tuple #[.agg #[.int .i64 0, .int .u64 0, .int .u64 0, .int .i64 0, .int .i64 0, .int .u32 0, .int .u32 0, .int .u64 0, .int .u64 0, .int .u64 0, .int .u64 0, .int .u64 0, .int .u64 0, .int .u64 0, .string (⟨#[]⟩ : ByteArray)], .int .i64 2]) ∧ Below w.heap.size w w') := by
  have hu28 := Try.underlying28
  have hu26 := Try.underlying26
  have hfd := fun (cs_ : Array Value) (j_ : Nat) (w_ : World) => Mine.run_field (P := Try.prog) Try.underlying26 cs_ j_ w_
  have HR0 := amd hr0
  have HB := amd (Below.refl w.heap.size w)
  have qi0 : (0 < l0.length) = True := eq_true hl
  have qj0 : ((0 : Int) < (l0.length : Int)) = True := eq_true (by omega)
  have qe0 : ((l0.length : Int) == 0) = false := bfq (by omega)
  obtain ⟨ad0, e0_, x0_⟩ := Kd.at_int HR0.out 0 (by omega) (by omega)
  cases e0_
  (try rw [show ((0 : Int)).toNat = 0 from rfl] at x0_)
  (try rw [Addr.add_zero'] at x0_)
  clear hr0
  have HC0 := amd hc0
  have hln := amd (of_decide_eq_false hs)
  obtain ⟨i0_a, hi_a, _, hsz_a, _⟩ := info_parts info5
  obtain ⟨A_a, hcut_a, hA_a, hC_a⟩ := print_drop_of (P := Try.prog) (Value.int .u8) 0 30 5 .i64 Try.underlying30 hi_a hsz_a (some ad) c0 l0 1 (by omega) (by have := hln.out; omega) HC0.out
  have HR_a : Aside0 (Kd.C (Kd.int .u8) w A_a (l0.drop (1 : Int).toNat).length (l0.drop (1 : Int).toNat)) := amd (Kd.C_of_reads (h1 := fun _ => rfl) (hA_a _ (Kd.reads_of_C HR0.out)))
  have HC_a := amd hC_a
  (try simp only [show (1 : Int).toNat = 1 from rfl] at hcut_a HR_a HC_a)
  clear hA_a hC_a hi_a hsz_a
  generalize (l0.drop 1) = L_a at hcut_a HR_a HC_a hp
  have p := amd hp
  clear hp
  obtain ⟨i0_b, hi_b, _, hsz_b, _⟩ := info_parts info5
  obtain ⟨A_b, hcut_b, hA_b, hC_b⟩ := print_drop_of (P := Try.prog) (Value.int .u8) 0 30 5 .i64 Try.underlying30 hi_b hsz_b (some ad) c0 l0 9 (by omega) (by have := hln.out; omega) HC0.out
  have HR_b : Aside0 (Kd.C (Kd.int .u8) w A_b (l0.drop (9 : Int).toNat).length (l0.drop (9 : Int).toNat)) := amd (Kd.C_of_reads (h1 := fun _ => rfl) (hA_b _ (Kd.reads_of_C HR0.out)))
  have HC_b := amd hC_b
  (try simp only [show (9 : Int).toNat = 9 from rfl] at hcut_b HR_b HC_b)
  clear hA_b hC_b hi_b hsz_b
  generalize (l0.drop 9) = L_b at hcut_b HR_b HC_b hi
  have i := amd hi
  clear hi
  obtain ⟨ad17_, e17_, x17_⟩ := Kd.at_int HR0.out 17 (by omega) (by have := hln.out; omega)
  cases e17_
  (try simp only [show (17 : Int).toNat = 17 from rfl, Nat.reduceMul, Nat.reduceEqDiff, Go.Addr.add, ↓reduceIte] at x17_)
  have qi17 : (17 < l0.length) = True := eq_true (by have := hln.out; omega)
  have qj17 : ((17 : Int) < (l0.length : Int)) = True := eq_true (by have := hln.out; omega)
  obtain ⟨i0_d, hi_d, _, hsz_d, _⟩ := info_parts info5
  obtain ⟨A_d, hcut_d, hA_d, hC_d⟩ := print_mid_of (P := Try.prog) (Value.int .u8) 0 30 5 .i64 .i64 Try.underlying30 hi_d hsz_d (some ad) c0 l0 18 82 (by omega) (by omega) (by have := hln.out; omega) HC0.out
  have HR_d : Aside0 (Kd.C (Kd.int .u8) w A_d ((l0.take (82 : Int).toNat).drop (18 : Int).toNat).length ((l0.take (82 : Int).toNat).drop (18 : Int).toNat)) := amd (Kd.C_of_reads (h1 := fun _ => rfl) (hA_d _ (Kd.reads_of_C HR0.out)))
  have HC_d := amd hC_d
  (try simp only [show (18 : Int).toNat = 18 from rfl] at hcut_d HR_d HC_d)
  (try simp only [show (82 : Int).toNat = 82 from rfl] at hcut_d HR_d HC_d)
  clear hA_d hC_d hi_d hsz_d
  generalize ((l0.take 82).drop 18) = L_d at hcut_d HR_d HC_d hd
  have d := amd hd
  clear hd
  obtain ⟨i0_t, hi_t, _, hsz_t, _⟩ := info_parts info5
  obtain ⟨A_t, hcut_t, hA_t, hC_t⟩ := print_drop_of (P := Try.prog) (Value.int .u8) 0 30 5 .i64 Try.underlying30 hi_t hsz_t (some ad) c0 l0 82 (by omega) (by have := hln.out; omega) HC0.out
  have HR_t : Aside0 (Kd.C (Kd.int .u8) w A_t (l0.drop (82 : Int).toNat).length (l0.drop (82 : Int).toNat)) := amd (Kd.C_of_reads (h1 := fun _ => rfl) (hA_t _ (Kd.reads_of_C HR0.out)))
  have HC_t := amd hC_t
  (try simp only [show (82 : Int).toNat = 82 from rfl] at hcut_t HR_t HC_t)
  clear hA_t hC_t hi_t hsz_t
  generalize (l0.drop 82) = L_t at hcut_t HR_t HC_t ht
  have t := amd ht
  clear ht
  go_enter Try.func14, Try.ntmps14
  go_wp2_with (first | ((with_reducible refine gate_dst (N := 2) rfl ?_); refine box_event ?hg (N := 2) ?hd (cs := #[.int .i64 0, .int .u64 0, .int .u64 0, .int .i64 0, .int .i64 0, .int .u32 0, .int .u32 0, .int .u64 0, .int .u64 0, .int .u64 0, .int .u64 0, .int .u64 0, .int .u64 0, .int .u64 0, .string ⟨#[]⟩]) (t := 28) ?hr ?_; (case hd => rfl); (case hg => rfl); (case hr => first | (go_simp; done) | (go_simp; rfl)); intro gr hg w1 hbox hb; have er := amd (show w.heap.size ≤ gr from by rw [hg]; exact Below.size HB.out); have HB1 := amd (below_step HB.out hb); have rr1 := amd hbox; have cr1 := Mine.cells15 rr1.out; have fr1 := blk_frozen rr1.out; clear hbox hb hg; have x0 := (HB1.out.cell (World.block_lt_of_cell? w _ x0_)).trans x0_) | ((with_reducible refine gate_dst (N := 4) rfl ?_); refine box_event ?hg (N := 4) ?hd (cs := #[.int .i64 0, .int .u64 0, .int .u64 0, .int .i64 0, .int .i64 0, .int .u32 0, .int .u32 0, .int .u64 0, .int .u64 0, .int .u64 0, .int .u64 0, .int .u64 0, .int .u64 0, .int .u64 0, .string ⟨#[]⟩]) (t := 28) ?hr ?_; (case hd => rfl); (case hg => rfl); (case hr => first | (go_simp; done) | (go_simp; rfl)); intro gm hg w2 hbox hb; have ng := amd (show gm ≠ gr from by rw [hg]; exact Nat.ne_of_gt (blk_lt rr1.out)); have em := amd (show w.heap.size ≤ gm from by rw [hg]; exact Below.size HB1.out); have rr2 := amd (blk_below rr1.out hb); have HB2 := amd (below_step HB1.out hb); have mm2 := amd hbox; clear HB1 rr1 cr1 fr1 x0; have cr2 := Mine.cells15 rr2.out; have fr2 := blk_frozen rr2.out; have cm2 := Mine.cells15 mm2.out; have fm2 := blk_frozen mm2.out; have n_gm_gr := ng.out; have n_gr_gm := Ne.symm ng.out; clear hbox hb hg) | (go_at_call 29; (with_reducible refine (fairleadref02_Take.calls k _ _ L_a 8 p1 p2 _ (Kd.C_below HR_a.out (dm_put15b _ _ _ _ _ _ _ _ _ _ _ _ _ _ _ HB2.out em.out)) HC_a.out p.out).mono ?_); rintro e w3 ⟨rfl, nd_, hq_⟩; have rr3 := amd (dm_dr hq_ (dm_far15 _ _ _ _ _ _ _ _ _ _ _ _ _ _ _ rr2.out (Ne.symm ng.out))); have mm3 := amd (dm_dr hq_ (dm_put15 _ _ _ _ _ _ _ _ _ _ _ _ _ _ _ mm2.out)); have HB3 := amd (dm_drb hq_ (dm_put15b _ _ _ _ _ _ _ _ _ _ _ _ _ _ _ HB2.out em.out)); clear HB2 rr2 mm2 cr2 fr2 cm2 fm2; have cr3 := Mine.cells15 rr3.out; have fr3 := blk_frozen rr3.out; have cm3 := Mine.cells15 mm3.out; have fm3 := blk_frozen mm3.out; clear hq_ nd_) | (go_at_call 29; (with_reducible refine (fairleadref02_Take.calls k _ _ L_b 8 i1 i2 _ (Kd.C_below HR_b.out (below_set (g := gm) (j := 1) (v := .int .u64 p1) HB3.out em.out)) HC_b.out i.out).mono ?_); rintro e w4 ⟨rfl, nd_, hq_⟩; have rr4 := amd (dm_dr hq_ (blk_far (p := ⟨gm, 1, none⟩) rr3.out (Ne.symm ng.out) (.int .u64 p1))); have mm4 := amd (dm_dr hq_ (blk_put (cs' := M15 (wrap64 (rd l0 0)) p1 0 0 0 0 0 0 0 0 0 0 0 0 ⟨#[]⟩) mm3.out 1 (.int .u64 p1) rfl)); have HB4 := amd (dm_drb hq_ (below_set (g := gm) (j := 1) (v := .int .u64 p1) HB3.out em.out)); clear HB3 rr3 mm3 cr3 fr3 cm3 fm3; have cr4 := Mine.cells15 rr4.out; have fr4 := blk_frozen rr4.out; have cm4 := Mine.cells15 mm4.out; have fm4 := blk_frozen mm4.out; clear hq_ nd_; have x17 := (HB4.out.cell (World.block_lt_of_cell? w ⟨ad.block, ad.off + 17, none⟩ x17_)).trans x17_; have na_ : gm ≠ ad.block := Nat.ne_of_gt (Nat.lt_of_lt_of_le (World.block_lt_of_cell? w ⟨ad.block, ad.off + 17, none⟩ x17_) em.out); have nb_ := Ne.symm na_) | (go_at_call 30; (with_reducible refine (fairleadref04_Of.calls k _ _ L_d d1 d2 d3 d4 d5 d6 d7 d8 d9 d10 _ (Kd.C_below HR_d.out (below_set (g := gm) (j := 3) (v := .int .i64 (wrap64 (rd l0 17))) (below_set (g := gm) (j := 2) (v := .int .u64 i1) HB4.out em.out) em.out)) HC_d.out d.out).mono ?_); rintro e w5 ⟨rfl, hb⟩; have rr5 := amd (blk_below (blk_far (p := ⟨gm, 3, none⟩) (blk_far (p := ⟨gm, 2, none⟩) rr4.out (Ne.symm ng.out) (.int .u64 i1)) (Ne.symm ng.out) (.int .i64 (wrap64 (rd l0 17)))) hb); have mm5 := amd (blk_below (blk_put (cs' := M15 (wrap64 (rd l0 0)) p1 i1 (wrap64 (rd l0 17)) 0 0 0 0 0 0 0 0 0 0 ⟨#[]⟩) (blk_put (cs' := M15 (wrap64 (rd l0 0)) p1 i1 0 0 0 0 0 0 0 0 0 0 0 ⟨#[]⟩) mm4.out 2 (.int .u64 i1) rfl) 3 (.int .i64 (wrap64 (rd l0 17))) rfl) hb); have HB5 := amd (below_step (below_set (g := gm) (j := 3) (v := .int .i64 (wrap64 (rd l0 17))) (below_set (g := gm) (j := 2) (v := .int .u64 i1) HB4.out em.out) em.out) hb); clear HB4 rr4 mm4 cr4 fr4 cm4 fm4 x17 na_ nb_; have cr5 := Mine.cells15 rr5.out; have fr5 := blk_frozen rr5.out; have cm5 := Mine.cells15 mm5.out; have fm5 := blk_frozen mm5.out; clear hb) | ((with_reducible refine gate_dst (N := 10) rfl ?_); refine box_event ?hg (N := 10) ?hd (cs := #[.int .u32 0, .int .u32 0, .int .u64 0, .int .u64 0, .int .u64 0, .int .u64 0, .int .u64 0, .int .u64 0, .int .u64 0]) (t := 26) ?hr ?_; (case hd => rfl); (case hg => rfl); (case hr => first | (go_simp; done) | (go_simp; rfl)); intro gd hg w6 hbox hb; have nq := amd (show gd ≠ gr from by rw [hg]; exact Nat.ne_of_gt (blk_lt rr5.out)); have nd := amd (show gd ≠ gm from by rw [hg]; exact Nat.ne_of_gt (blk_lt mm5.out)); have ed := amd (show w.heap.size ≤ gd from by rw [hg]; exact Below.size HB5.out); have rr6 := amd (blk_below rr5.out hb); have mm6 := amd (blk_below mm5.out hb); have HB6 := amd (below_step HB5.out hb); have dd6 := amd hbox; clear HB5 rr5 mm5 cr5 fr5 cm5 fm5; have cr6 := Mine.cells15 rr6.out; have fr6 := blk_frozen rr6.out; have cm6 := Mine.cells15 mm6.out; have fm6 := blk_frozen mm6.out; have cd6 := Mine.cells9 dd6.out; have fd6 := blk_frozen dd6.out; have n_gd_gr := nq.out; have n_gd_gm := nd.out; have n_gr_gd := Ne.symm nq.out; have n_gm_gd := Ne.symm nd.out; clear hbox hb hg) | (go_at_call 31; (with_reducible refine (fairleadref02_TakeText.calls k _ _ L_t t1 t2 t3 _ (Kd.C_below HR_t.out (below_set (g := gm) (j := 13) (v := .int .u64 d9) (below_set (g := gm) (j := 12) (v := .int .u64 d8) (below_set (g := gm) (j := 11) (v := .int .u64 d7) (below_set (g := gm) (j := 10) (v := .int .u64 d6) (below_set (g := gm) (j := 9) (v := .int .u64 d5) (below_set (g := gm) (j := 8) (v := .int .u64 d4) (below_set (g := gm) (j := 7) (v := .int .u64 d3) (below_set (g := gm) (j := 6) (v := .int .u32 d2) (below_set (g := gm) (j := 5) (v := .int .u32 d1) (below_set (g := gd) (j := 8) (v := .int .u64 d9) (below_set (g := gd) (j := 7) (v := .int .u64 d8) (below_set (g := gd) (j := 6) (v := .int .u64 d7) (below_set (g := gd) (j := 5) (v := .int .u64 d6) (below_set (g := gd) (j := 4) (v := .int .u64 d5) (below_set (g := gd) (j := 3) (v := .int .u64 d4) (below_set (g := gd) (j := 2) (v := .int .u64 d3) (below_set (g := gd) (j := 1) (v := .int .u32 d2) (below_set (g := gd) (j := 0) (v := .int .u32 d1) HB6.out ed.out) ed.out) ed.out) ed.out) ed.out) ed.out) ed.out) ed.out) ed.out) em.out) em.out) em.out) em.out) em.out) em.out) em.out) em.out) em.out)) HC_t.out t.out).mono ?_); rintro e w7 ⟨rfl, nd_, hq_⟩; have rr7 := amd (dm_dr hq_ (blk_far (p := ⟨gm, 13, none⟩) (blk_far (p := ⟨gm, 12, none⟩) (blk_far (p := ⟨gm, 11, none⟩) (blk_far (p := ⟨gm, 10, none⟩) (blk_far (p := ⟨gm, 9, none⟩) (blk_far (p := ⟨gm, 8, none⟩) (blk_far (p := ⟨gm, 7, none⟩) (blk_far (p := ⟨gm, 6, none⟩) (blk_far (p := ⟨gm, 5, none⟩) (blk_far (p := ⟨gd, 8, none⟩) (blk_far (p := ⟨gd, 7, none⟩) (blk_far (p := ⟨gd, 6, none⟩) (blk_far (p := ⟨gd, 5, none⟩) (blk_far (p := ⟨gd, 4, none⟩) (blk_far (p := ⟨gd, 3, none⟩) (blk_far (p := ⟨gd, 2, none⟩) (blk_far (p := ⟨gd, 1, none⟩) (blk_far (p := ⟨gd, 0, none⟩) rr6.out (Ne.symm nq.out) (.int .u32 d1)) (Ne.symm nq.out) (.int .u32 d2)) (Ne.symm nq.out) (.int .u64 d3)) (Ne.symm nq.out) (.int .u64 d4)) (Ne.symm nq.out) (.int .u64 d5)) (Ne.symm nq.out) (.int .u64 d6)) (Ne.symm nq.out) (.int .u64 d7)) (Ne.symm nq.out) (.int .u64 d8)) (Ne.symm nq.out) (.int .u64 d9)) (Ne.symm ng.out) (.int .u32 d1)) (Ne.symm ng.out) (.int .u32 d2)) (Ne.symm ng.out) (.int .u64 d3)) (Ne.symm ng.out) (.int .u64 d4)) (Ne.symm ng.out) (.int .u64 d5)) (Ne.symm ng.out) (.int .u64 d6)) (Ne.symm ng.out) (.int .u64 d7)) (Ne.symm ng.out) (.int .u64 d8)) (Ne.symm ng.out) (.int .u64 d9))); have mm7 := amd (dm_dr hq_ (blk_put (cs' := M15 (wrap64 (rd l0 0)) p1 i1 (wrap64 (rd l0 17)) 0 d1 d2 d3 d4 d5 d6 d7 d8 d9 ⟨#[]⟩) (blk_put (cs' := M15 (wrap64 (rd l0 0)) p1 i1 (wrap64 (rd l0 17)) 0 d1 d2 d3 d4 d5 d6 d7 d8 0 ⟨#[]⟩) (blk_put (cs' := M15 (wrap64 (rd l0 0)) p1 i1 (wrap64 (rd l0 17)) 0 d1 d2 d3 d4 d5 d6 d7 0 0 ⟨#[]⟩) (blk_put (cs' := M15 (wrap64 (rd l0 0)) p1 i1 (wrap64 (rd l0 17)) 0 d1 d2 d3 d4 d5 d6 0 0 0 ⟨#[]⟩) (blk_put (cs' := M15 (wrap64 (rd l0 0)) p1 i1 (wrap64 (rd l0 17)) 0 d1 d2 d3 d4 d5 0 0 0 0 ⟨#[]⟩) (blk_put (cs' := M15 (wrap64 (rd l0 0)) p1 i1 (wrap64 (rd l0 17)) 0 d1 d2 d3 d4 0 0 0 0 0 ⟨#[]⟩) (blk_put (cs' := M15 (wrap64 (rd l0 0)) p1 i1 (wrap64 (rd l0 17)) 0 d1 d2 d3 0 0 0 0 0 0 ⟨#[]⟩) (blk_put (cs' := M15 (wrap64 (rd l0 0)) p1 i1 (wrap64 (rd l0 17)) 0 d1 d2 0 0 0 0 0 0 0 ⟨#[]⟩) (blk_put (cs' := M15 (wrap64 (rd l0 0)) p1 i1 (wrap64 (rd l0 17)) 0 d1 0 0 0 0 0 0 0 0 ⟨#[]⟩) (blk_far (p := ⟨gd, 8, none⟩) (blk_far (p := ⟨gd, 7, none⟩) (blk_far (p := ⟨gd, 6, none⟩) (blk_far (p := ⟨gd, 5, none⟩) (blk_far (p := ⟨gd, 4, none⟩) (blk_far (p := ⟨gd, 3, none⟩) (blk_far (p := ⟨gd, 2, none⟩) (blk_far (p := ⟨gd, 1, none⟩) (blk_far (p := ⟨gd, 0, none⟩) mm6.out (Ne.symm nd.out) (.int .u32 d1)) (Ne.symm nd.out) (.int .u32 d2)) (Ne.symm nd.out) (.int .u64 d3)) (Ne.symm nd.out) (.int .u64 d4)) (Ne.symm nd.out) (.int .u64 d5)) (Ne.symm nd.out) (.int .u64 d6)) (Ne.symm nd.out) (.int .u64 d7)) (Ne.symm nd.out) (.int .u64 d8)) (Ne.symm nd.out) (.int .u64 d9)) 5 (.int .u32 d1) rfl) 6 (.int .u32 d2) rfl) 7 (.int .u64 d3) rfl) 8 (.int .u64 d4) rfl) 9 (.int .u64 d5) rfl) 10 (.int .u64 d6) rfl) 11 (.int .u64 d7) rfl) 12 (.int .u64 d8) rfl) 13 (.int .u64 d9) rfl)); have dd7 := amd (dm_dr hq_ (blk_far (p := ⟨gm, 13, none⟩) (blk_far (p := ⟨gm, 12, none⟩) (blk_far (p := ⟨gm, 11, none⟩) (blk_far (p := ⟨gm, 10, none⟩) (blk_far (p := ⟨gm, 9, none⟩) (blk_far (p := ⟨gm, 8, none⟩) (blk_far (p := ⟨gm, 7, none⟩) (blk_far (p := ⟨gm, 6, none⟩) (blk_far (p := ⟨gm, 5, none⟩) (blk_put (cs' := #[.int .u32 d1, .int .u32 d2, .int .u64 d3, .int .u64 d4, .int .u64 d5, .int .u64 d6, .int .u64 d7, .int .u64 d8, .int .u64 d9]) (blk_put (cs' := #[.int .u32 d1, .int .u32 d2, .int .u64 d3, .int .u64 d4, .int .u64 d5, .int .u64 d6, .int .u64 d7, .int .u64 d8, .int .u64 0]) (blk_put (cs' := #[.int .u32 d1, .int .u32 d2, .int .u64 d3, .int .u64 d4, .int .u64 d5, .int .u64 d6, .int .u64 d7, .int .u64 0, .int .u64 0]) (blk_put (cs' := #[.int .u32 d1, .int .u32 d2, .int .u64 d3, .int .u64 d4, .int .u64 d5, .int .u64 d6, .int .u64 0, .int .u64 0, .int .u64 0]) (blk_put (cs' := #[.int .u32 d1, .int .u32 d2, .int .u64 d3, .int .u64 d4, .int .u64 d5, .int .u64 0, .int .u64 0, .int .u64 0, .int .u64 0]) (blk_put (cs' := #[.int .u32 d1, .int .u32 d2, .int .u64 d3, .int .u64 d4, .int .u64 0, .int .u64 0, .int .u64 0, .int .u64 0, .int .u64 0]) (blk_put (cs' := #[.int .u32 d1, .int .u32 d2, .int .u64 d3, .int .u64 0, .int .u64 0, .int .u64 0, .int .u64 0, .int .u64 0, .int .u64 0]) (blk_put (cs' := #[.int .u32 d1, .int .u32 d2, .int .u64 0, .int .u64 0, .int .u64 0, .int .u64 0, .int .u64 0, .int .u64 0, .int .u64 0]) (blk_put (cs' := #[.int .u32 d1, .int .u32 0, .int .u64 0, .int .u64 0, .int .u64 0, .int .u64 0, .int .u64 0, .int .u64 0, .int .u64 0]) dd6.out 0 (.int .u32 d1) rfl) 1 (.int .u32 d2) rfl) 2 (.int .u64 d3) rfl) 3 (.int .u64 d4) rfl) 4 (.int .u64 d5) rfl) 5 (.int .u64 d6) rfl) 6 (.int .u64 d7) rfl) 7 (.int .u64 d8) rfl) 8 (.int .u64 d9) rfl) nd.out (.int .u32 d1)) nd.out (.int .u32 d2)) nd.out (.int .u64 d3)) nd.out (.int .u64 d4)) nd.out (.int .u64 d5)) nd.out (.int .u64 d6)) nd.out (.int .u64 d7)) nd.out (.int .u64 d8)) nd.out (.int .u64 d9))); have HB7 := amd (dm_drb hq_ (below_set (g := gm) (j := 13) (v := .int .u64 d9) (below_set (g := gm) (j := 12) (v := .int .u64 d8) (below_set (g := gm) (j := 11) (v := .int .u64 d7) (below_set (g := gm) (j := 10) (v := .int .u64 d6) (below_set (g := gm) (j := 9) (v := .int .u64 d5) (below_set (g := gm) (j := 8) (v := .int .u64 d4) (below_set (g := gm) (j := 7) (v := .int .u64 d3) (below_set (g := gm) (j := 6) (v := .int .u32 d2) (below_set (g := gm) (j := 5) (v := .int .u32 d1) (below_set (g := gd) (j := 8) (v := .int .u64 d9) (below_set (g := gd) (j := 7) (v := .int .u64 d8) (below_set (g := gd) (j := 6) (v := .int .u64 d7) (below_set (g := gd) (j := 5) (v := .int .u64 d6) (below_set (g := gd) (j := 4) (v := .int .u64 d5) (below_set (g := gd) (j := 3) (v := .int .u64 d4) (below_set (g := gd) (j := 2) (v := .int .u64 d3) (below_set (g := gd) (j := 1) (v := .int .u32 d2) (below_set (g := gd) (j := 0) (v := .int .u32 d1) HB6.out ed.out) ed.out) ed.out) ed.out) ed.out) ed.out) ed.out) ed.out) ed.out) em.out) em.out) em.out) em.out) em.out) em.out) em.out) em.out) em.out)); clear HB6 rr6 mm6 dd6 cr6 fr6 cm6 fm6 cd6 fd6; have cr7 := Mine.cells15 rr7.out; have fr7 := blk_frozen rr7.out; have cm7 := Mine.cells15 mm7.out; have fm7 := blk_frozen mm7.out; have cd7 := Mine.cells9 dd7.out; have fd7 := blk_frozen dd7.out; clear hq_ nd_))
  (repeat (go_step3; (try go_wp2)))
  refine bodyPost_ret (results_ct rfl _ _ gr 28 (M15 0 0 0 0 0 0 0 0 0 0 0 0 0 0 ⟨#[]⟩) (0, 0) _ rfl (dm_put15 _ _ _ _ _ _ _ _ _ _ _ _ _ _ _ rr7.out) hu28 rfl (by kernel_rfl)) rfl ?_
  exact ⟨rfl, (dm_put15b _ _ _ _ _ _ _ _ _ _ _ _ _ _ _ HB7.out er.out)⟩
set_option maxHeartbeats 8000000 in
set_option maxRecDepth 100000 in
theorem fairleadref17_Decode.calls (k : Nat) (A0 : Option Addr) (c0 : Nat) (l0 : List Int) (r1 : Int) (r2 : Int) (r3 : Int) (r4 : Int) (r5 : Int) (r6 : Int) (r7 : Int) (r8 : Int) (r9 : Int) (r10 : Int) (r11 : Int) (r12 : Int) (r13 : Int) (r14 : Int) (r15 : ByteArray) (r16 : Int) (w : World) (hr0 : Kd.C (Kd.int .u8) w A0 l0.length l0) (hc0 : l0.length ≤ c0) (h : fairleadref17_Decode.f k l0 = some (r1, r2, r3, r4, r5, r6, r7, r8, r9, r10, r11, r12, r13, r14, r15, r16)) :
    Calls Try.prog 14 #[.slice A0 l0.length c0] w fun e w' => e = .returned (.tuple #[.agg #[.int .i64 r1, .int .u64 r2, .int .u64 r3, .int .i64 r4, .int .i64 r5, .int .u32 r6, .int .u32 r7, .int .u64 r8, .int .u64 r9, .int .u64 r10, .int .u64 r11, .int .u64 r12, .int .u64 r13, .int .u64 r14, .string r15], .int .i64 r16]) ∧ Below w.heap.size w w' := by
  unfold fairleadref17_Decode.f at h
  by_cases hl : l0.length = 0
  · rw [if_pos hl] at h
    simp only [Option.some.injEq, Prod.mk.injEq] at h
    obtain ⟨rfl, rfl, rfl, rfl, rfl, rfl, rfl, rfl, rfl, rfl, rfl, rfl, rfl, rfl, rfl, rfl⟩ := h
    exact fairleadref17_Decode.w0 A0 c0 l0 w hl
  rw [if_neg hl] at h
  have hlp : 0 < l0.length := Nat.pos_of_ne_zero hl
  obtain ⟨ad, e_, x_⟩ := Kd.at_int hr0 0 (by omega) (by omega)
  cases e_
  clear x_
  by_cases hk : (wrap64 (rd l0 0)) < 1 ∨ 7 < (wrap64 (rd l0 0))
  · rw [if_pos hk] at h
    simp only [Option.some.injEq, Prod.mk.injEq] at h
    obtain ⟨rfl, rfl, rfl, rfl, rfl, rfl, rfl, rfl, rfl, rfl, rfl, rfl, rfl, rfl, rfl, rfl⟩ := h
    refine fairleadref17_Decode.wk k ad c0 l0 w hr0 hlp ?_
    by_cases h1 : (wrap64 (rd l0 0)) < 1
    · exact Or.inl (decide_eq_true h1)
    · exact Or.inr ⟨decide_eq_false h1, decide_eq_true (by omega)⟩
  rw [if_neg hk] at h
  have klo : decide ((wrap64 (rd l0 0)) < 1) = false := decide_eq_false (by omega)
  have khi : decide (7 < (wrap64 (rd l0 0))) = false := decide_eq_false (by omega)
  by_cases q1 : (wrap64 (rd l0 0)) = 1
  · skip
    simp only [if_pos q1] at h
    by_cases hs : (l0.length : Int) < 9
    · rw [if_pos hs] at h
      simp only [Option.some.injEq, Prod.mk.injEq] at h
      obtain ⟨rfl, rfl, rfl, rfl, rfl, rfl, rfl, rfl, rfl, rfl, rfl, rfl, rfl, rfl, rfl, rfl⟩ := h
      exact fairleadref17_Decode.s1 k ad c0 l0 w hr0 hlp klo khi (beq_iff_eq.2 q1) (bfq (by omega)) (bfq (by omega)) (bfq (by omega)) (bfq (by omega)) (decide_eq_false (by omega)) (decide_eq_true hs)
    rw [if_neg hs] at h
    obtain ⟨⟨p1, p2⟩, hp, h⟩ := Option.bind_eq_some_iff.1 h
    unfold fairleadref17_Decode.fin at h
    (try dsimp only at h)
    by_cases hL : 9 < (l0.length : Int)
    · rw [if_pos hL] at h
      simp only [Option.some.injEq, Prod.mk.injEq] at h
      obtain ⟨rfl, rfl, rfl, rfl, rfl, rfl, rfl, rfl, rfl, rfl, rfl, rfl, rfl, rfl, rfl, rfl⟩ := h
      exact fairleadref17_Decode.m1L k ad c0 l0 w hr0 hlp klo khi (beq_iff_eq.2 q1) (bfq (by omega)) (bfq (by omega)) (bfq (by omega)) (bfq (by omega)) (decide_eq_false (by omega)) hc0 (decide_eq_false hs) p1 p2 hp (decide_eq_true hL)
    rw [if_neg hL] at h
    obtain ⟨b, hb, h⟩ := Option.bind_eq_some_iff.1 h
    cases b
    · rw [if_neg (by decide)] at h
      simp only [Option.some.injEq, Prod.mk.injEq] at h
      obtain ⟨rfl, rfl, rfl, rfl, rfl, rfl, rfl, rfl, rfl, rfl, rfl, rfl, rfl, rfl, rfl, rfl⟩ := h
      exact fairleadref17_Decode.m1W k ad c0 l0 w hr0 hlp klo khi (beq_iff_eq.2 q1) (bfq (by omega)) (bfq (by omega)) (bfq (by omega)) (bfq (by omega)) (decide_eq_false (by omega)) hc0 (decide_eq_false hs) p1 p2 hp (decide_eq_false hL) hb
    · rw [if_pos rfl] at h
      simp only [Option.some.injEq, Prod.mk.injEq] at h
      obtain ⟨rfl, rfl, rfl, rfl, rfl, rfl, rfl, rfl, rfl, rfl, rfl, rfl, rfl, rfl, rfl, rfl⟩ := h
      exact fairleadref17_Decode.m1K k ad c0 l0 w hr0 hlp klo khi (beq_iff_eq.2 q1) (bfq (by omega)) (bfq (by omega)) (bfq (by omega)) (bfq (by omega)) (decide_eq_false (by omega)) hc0 (decide_eq_false hs) p1 p2 hp (decide_eq_false hL) hb
  by_cases q2 : (wrap64 (rd l0 0)) = 2
  · skip
    simp only [if_neg q1, if_pos q2] at h
    by_cases hs : (l0.length : Int) < 84
    · rw [if_pos hs] at h
      simp only [Option.some.injEq, Prod.mk.injEq] at h
      obtain ⟨rfl, rfl, rfl, rfl, rfl, rfl, rfl, rfl, rfl, rfl, rfl, rfl, rfl, rfl, rfl, rfl⟩ := h
      exact fairleadref17_Decode.s2 k ad c0 l0 w hr0 hlp klo khi (bfq (by omega)) (beq_iff_eq.2 q2) (bfq (by omega)) (bfq (by omega)) (bfq (by omega)) (decide_eq_true (by omega)) (decide_eq_true hs)
    rw [if_neg hs] at h
    obtain ⟨⟨p1, p2⟩, hp, h⟩ := Option.bind_eq_some_iff.1 h
    obtain ⟨⟨i1, i2⟩, hi, h⟩ := Option.bind_eq_some_iff.1 h
    obtain ⟨⟨d1, d2, d3, d4, d5, d6, d7, d8, d9, d10⟩, hd, h⟩ := Option.bind_eq_some_iff.1 h
    obtain ⟨⟨t1, t2, t3⟩, ht, h⟩ := Option.bind_eq_some_iff.1 h
    dsimp only at h
    by_cases he : t3 = 0
    rotate_left
    · rw [if_neg he] at h
      simp only [Option.some.injEq, Prod.mk.injEq] at h
      obtain ⟨rfl, rfl, rfl, rfl, rfl, rfl, rfl, rfl, rfl, rfl, rfl, rfl, rfl, rfl, rfl, rfl⟩ := h
      exact fairleadref17_Decode.m2T k ad c0 l0 w hr0 hlp klo khi (bfq (by omega)) (beq_iff_eq.2 q2) (bfq (by omega)) (bfq (by omega)) (bfq (by omega)) (decide_eq_true (by omega)) hc0 (decide_eq_false hs) p1 p2 hp i1 i2 hi d1 d2 d3 d4 d5 d6 d7 d8 d9 d10 hd t1 t2 t3 ht (bfq he) (bne_iff_ne.2 he)
    rw [if_pos he] at h
    unfold fairleadref17_Decode.fin at h
    (try dsimp only at h)
    by_cases hL : (wrap64 (82 + t2)) < (l0.length : Int)
    · rw [if_pos hL] at h
      simp only [Option.some.injEq, Prod.mk.injEq] at h
      obtain ⟨rfl, rfl, rfl, rfl, rfl, rfl, rfl, rfl, rfl, rfl, rfl, rfl, rfl, rfl, rfl, rfl⟩ := h
      exact fairleadref17_Decode.m2L k ad c0 l0 w hr0 hlp klo khi (bfq (by omega)) (beq_iff_eq.2 q2) (bfq (by omega)) (bfq (by omega)) (bfq (by omega)) (decide_eq_true (by omega)) hc0 (decide_eq_false hs) p1 p2 hp i1 i2 hi d1 d2 d3 d4 d5 d6 d7 d8 d9 d10 hd t1 t2 t3 ht (beq_iff_eq.2 he) (by simp [he]) (decide_eq_true hL)
    rw [if_neg hL] at h
    obtain ⟨b, hb, h⟩ := Option.bind_eq_some_iff.1 h
    cases b
    · rw [if_neg (by decide)] at h
      simp only [Option.some.injEq, Prod.mk.injEq] at h
      obtain ⟨rfl, rfl, rfl, rfl, rfl, rfl, rfl, rfl, rfl, rfl, rfl, rfl, rfl, rfl, rfl, rfl⟩ := h
      exact fairleadref17_Decode.m2W k ad c0 l0 w hr0 hlp klo khi (bfq (by omega)) (beq_iff_eq.2 q2) (bfq (by omega)) (bfq (by omega)) (bfq (by omega)) (decide_eq_true (by omega)) hc0 (decide_eq_false hs) p1 p2 hp i1 i2 hi d1 d2 d3 d4 d5 d6 d7 d8 d9 d10 hd t1 t2 t3 ht (beq_iff_eq.2 he) (by simp [he]) (decide_eq_false hL) hb
    · rw [if_pos rfl] at h
      simp only [Option.some.injEq, Prod.mk.injEq] at h
      obtain ⟨rfl, rfl, rfl, rfl, rfl, rfl, rfl, rfl, rfl, rfl, rfl, rfl, rfl, rfl, rfl, rfl⟩ := h
      exact fairleadref17_Decode.m2K k ad c0 l0 w hr0 hlp klo khi (bfq (by omega)) (beq_iff_eq.2 q2) (bfq (by omega)) (bfq (by omega)) (bfq (by omega)) (decide_eq_true (by omega)) hc0 (decide_eq_false hs) p1 p2 hp i1 i2 hi d1 d2 d3 d4 d5 d6 d7 d8 d9 d10 hd t1 t2 t3 ht (beq_iff_eq.2 he) (by simp [he]) (decide_eq_false hL) hb
  by_cases q4 : (wrap64 (rd l0 0)) = 4
  · have qn : (wrap64 (rd l0 0)) = 4 ∨ (wrap64 (rd l0 0)) = 5 ∨ (wrap64 (rd l0 0)) = 7 := Or.inl q4
    simp only [if_neg q1, if_neg q2, if_pos qn] at h
    by_cases hs : (l0.length : Int) < 19
    · rw [if_pos hs] at h
      simp only [Option.some.injEq, Prod.mk.injEq] at h
      obtain ⟨rfl, rfl, rfl, rfl, rfl, rfl, rfl, rfl, rfl, rfl, rfl, rfl, rfl, rfl, rfl, rfl⟩ := h
      exact fairleadref17_Decode.s4 k ad c0 l0 w hr0 hlp klo khi (bfq (by omega)) (bfq (by omega)) (beq_iff_eq.2 q4) (decide_eq_true (by omega)) (decide_eq_true hs)
    rw [if_neg hs] at h
    obtain ⟨⟨p1, p2⟩, hp, h⟩ := Option.bind_eq_some_iff.1 h
    obtain ⟨⟨i1, i2⟩, hi, h⟩ := Option.bind_eq_some_iff.1 h
    unfold fairleadref17_Decode.fin at h
    (try dsimp only at h)
    by_cases hL : 19 < (l0.length : Int)
    · rw [if_pos hL] at h
      simp only [Option.some.injEq, Prod.mk.injEq] at h
      obtain ⟨rfl, rfl, rfl, rfl, rfl, rfl, rfl, rfl, rfl, rfl, rfl, rfl, rfl, rfl, rfl, rfl⟩ := h
      exact fairleadref17_Decode.m4L k ad c0 l0 w hr0 hlp klo khi (bfq (by omega)) (bfq (by omega)) (beq_iff_eq.2 q4) (decide_eq_true (by omega)) hc0 (decide_eq_false hs) p1 p2 hp i1 i2 hi (decide_eq_true hL)
    rw [if_neg hL] at h
    obtain ⟨b, hb, h⟩ := Option.bind_eq_some_iff.1 h
    cases b
    · rw [if_neg (by decide)] at h
      simp only [Option.some.injEq, Prod.mk.injEq] at h
      obtain ⟨rfl, rfl, rfl, rfl, rfl, rfl, rfl, rfl, rfl, rfl, rfl, rfl, rfl, rfl, rfl, rfl⟩ := h
      exact fairleadref17_Decode.m4W k ad c0 l0 w hr0 hlp klo khi (bfq (by omega)) (bfq (by omega)) (beq_iff_eq.2 q4) (decide_eq_true (by omega)) hc0 (decide_eq_false hs) p1 p2 hp i1 i2 hi (decide_eq_false hL) hb
    · rw [if_pos rfl] at h
      simp only [Option.some.injEq, Prod.mk.injEq] at h
      obtain ⟨rfl, rfl, rfl, rfl, rfl, rfl, rfl, rfl, rfl, rfl, rfl, rfl, rfl, rfl, rfl, rfl⟩ := h
      exact fairleadref17_Decode.m4K k ad c0 l0 w hr0 hlp klo khi (bfq (by omega)) (bfq (by omega)) (beq_iff_eq.2 q4) (decide_eq_true (by omega)) hc0 (decide_eq_false hs) p1 p2 hp i1 i2 hi (decide_eq_false hL) hb
  by_cases q5 : (wrap64 (rd l0 0)) = 5
  · have qn : (wrap64 (rd l0 0)) = 4 ∨ (wrap64 (rd l0 0)) = 5 ∨ (wrap64 (rd l0 0)) = 7 := Or.inr (Or.inl q5)
    simp only [if_neg q1, if_neg q2, if_pos qn] at h
    by_cases hs : (l0.length : Int) < 19
    · rw [if_pos hs] at h
      simp only [Option.some.injEq, Prod.mk.injEq] at h
      obtain ⟨rfl, rfl, rfl, rfl, rfl, rfl, rfl, rfl, rfl, rfl, rfl, rfl, rfl, rfl, rfl, rfl⟩ := h
      exact fairleadref17_Decode.s5 k ad c0 l0 w hr0 hlp klo khi (bfq (by omega)) (bfq (by omega)) (bfq (by omega)) (beq_iff_eq.2 q5) (decide_eq_true (by omega)) (decide_eq_true hs)
    rw [if_neg hs] at h
    obtain ⟨⟨p1, p2⟩, hp, h⟩ := Option.bind_eq_some_iff.1 h
    obtain ⟨⟨i1, i2⟩, hi, h⟩ := Option.bind_eq_some_iff.1 h
    unfold fairleadref17_Decode.fin at h
    (try dsimp only at h)
    by_cases hL : 19 < (l0.length : Int)
    · rw [if_pos hL] at h
      simp only [Option.some.injEq, Prod.mk.injEq] at h
      obtain ⟨rfl, rfl, rfl, rfl, rfl, rfl, rfl, rfl, rfl, rfl, rfl, rfl, rfl, rfl, rfl, rfl⟩ := h
      exact fairleadref17_Decode.m5L k ad c0 l0 w hr0 hlp klo khi (bfq (by omega)) (bfq (by omega)) (bfq (by omega)) (beq_iff_eq.2 q5) (decide_eq_true (by omega)) hc0 (decide_eq_false hs) p1 p2 hp i1 i2 hi (decide_eq_true hL)
    rw [if_neg hL] at h
    obtain ⟨b, hb, h⟩ := Option.bind_eq_some_iff.1 h
    cases b
    · rw [if_neg (by decide)] at h
      simp only [Option.some.injEq, Prod.mk.injEq] at h
      obtain ⟨rfl, rfl, rfl, rfl, rfl, rfl, rfl, rfl, rfl, rfl, rfl, rfl, rfl, rfl, rfl, rfl⟩ := h
      exact fairleadref17_Decode.m5W k ad c0 l0 w hr0 hlp klo khi (bfq (by omega)) (bfq (by omega)) (bfq (by omega)) (beq_iff_eq.2 q5) (decide_eq_true (by omega)) hc0 (decide_eq_false hs) p1 p2 hp i1 i2 hi (decide_eq_false hL) hb
    · rw [if_pos rfl] at h
      simp only [Option.some.injEq, Prod.mk.injEq] at h
      obtain ⟨rfl, rfl, rfl, rfl, rfl, rfl, rfl, rfl, rfl, rfl, rfl, rfl, rfl, rfl, rfl, rfl⟩ := h
      exact fairleadref17_Decode.m5K k ad c0 l0 w hr0 hlp klo khi (bfq (by omega)) (bfq (by omega)) (bfq (by omega)) (beq_iff_eq.2 q5) (decide_eq_true (by omega)) hc0 (decide_eq_false hs) p1 p2 hp i1 i2 hi (decide_eq_false hL) hb
  by_cases q7 : (wrap64 (rd l0 0)) = 7
  · have qn : (wrap64 (rd l0 0)) = 4 ∨ (wrap64 (rd l0 0)) = 5 ∨ (wrap64 (rd l0 0)) = 7 := Or.inr (Or.inr q7)
    simp only [if_neg q1, if_neg q2, if_pos qn] at h
    by_cases hs : (l0.length : Int) < 19
    · rw [if_pos hs] at h
      simp only [Option.some.injEq, Prod.mk.injEq] at h
      obtain ⟨rfl, rfl, rfl, rfl, rfl, rfl, rfl, rfl, rfl, rfl, rfl, rfl, rfl, rfl, rfl, rfl⟩ := h
      exact fairleadref17_Decode.s7 k ad c0 l0 w hr0 hlp klo khi (bfq (by omega)) (bfq (by omega)) (bfq (by omega)) (bfq (by omega)) (beq_iff_eq.2 q7) (decide_eq_true (by omega)) (decide_eq_true hs)
    rw [if_neg hs] at h
    obtain ⟨⟨p1, p2⟩, hp, h⟩ := Option.bind_eq_some_iff.1 h
    obtain ⟨⟨i1, i2⟩, hi, h⟩ := Option.bind_eq_some_iff.1 h
    unfold fairleadref17_Decode.fin at h
    (try dsimp only at h)
    by_cases hL : 19 < (l0.length : Int)
    · rw [if_pos hL] at h
      simp only [Option.some.injEq, Prod.mk.injEq] at h
      obtain ⟨rfl, rfl, rfl, rfl, rfl, rfl, rfl, rfl, rfl, rfl, rfl, rfl, rfl, rfl, rfl, rfl⟩ := h
      exact fairleadref17_Decode.m7L k ad c0 l0 w hr0 hlp klo khi (bfq (by omega)) (bfq (by omega)) (bfq (by omega)) (bfq (by omega)) (beq_iff_eq.2 q7) (decide_eq_true (by omega)) hc0 (decide_eq_false hs) p1 p2 hp i1 i2 hi (decide_eq_true hL)
    rw [if_neg hL] at h
    obtain ⟨b, hb, h⟩ := Option.bind_eq_some_iff.1 h
    cases b
    · rw [if_neg (by decide)] at h
      simp only [Option.some.injEq, Prod.mk.injEq] at h
      obtain ⟨rfl, rfl, rfl, rfl, rfl, rfl, rfl, rfl, rfl, rfl, rfl, rfl, rfl, rfl, rfl, rfl⟩ := h
      exact fairleadref17_Decode.m7W k ad c0 l0 w hr0 hlp klo khi (bfq (by omega)) (bfq (by omega)) (bfq (by omega)) (bfq (by omega)) (beq_iff_eq.2 q7) (decide_eq_true (by omega)) hc0 (decide_eq_false hs) p1 p2 hp i1 i2 hi (decide_eq_false hL) hb
    · rw [if_pos rfl] at h
      simp only [Option.some.injEq, Prod.mk.injEq] at h
      obtain ⟨rfl, rfl, rfl, rfl, rfl, rfl, rfl, rfl, rfl, rfl, rfl, rfl, rfl, rfl, rfl, rfl⟩ := h
      exact fairleadref17_Decode.m7K k ad c0 l0 w hr0 hlp klo khi (bfq (by omega)) (bfq (by omega)) (bfq (by omega)) (bfq (by omega)) (beq_iff_eq.2 q7) (decide_eq_true (by omega)) hc0 (decide_eq_false hs) p1 p2 hp i1 i2 hi (decide_eq_false hL) hb
  have qn : ¬ ((wrap64 (rd l0 0)) = 4 ∨ (wrap64 (rd l0 0)) = 5 ∨ (wrap64 (rd l0 0)) = 7) := by omega
  simp only [if_neg q1, if_neg q2, if_neg qn] at h
  by_cases hs : (l0.length : Int) < 17
  · rw [if_pos hs] at h
    simp only [Option.some.injEq, Prod.mk.injEq] at h
    obtain ⟨rfl, rfl, rfl, rfl, rfl, rfl, rfl, rfl, rfl, rfl, rfl, rfl, rfl, rfl, rfl, rfl⟩ := h
    exact fairleadref17_Decode.s3 k ad c0 l0 w hr0 hlp klo khi (bfq (by omega)) (bfq (by omega)) (bfq (by omega)) (bfq (by omega)) (bfq (by omega)) (decide_eq_true (by omega)) (decide_eq_true hs)
  rw [if_neg hs] at h
  obtain ⟨⟨p1, p2⟩, hp, h⟩ := Option.bind_eq_some_iff.1 h
  obtain ⟨⟨i1, i2⟩, hi, h⟩ := Option.bind_eq_some_iff.1 h
  unfold fairleadref17_Decode.fin at h
  (try dsimp only at h)
  by_cases hL : 17 < (l0.length : Int)
  · rw [if_pos hL] at h
    simp only [Option.some.injEq, Prod.mk.injEq] at h
    obtain ⟨rfl, rfl, rfl, rfl, rfl, rfl, rfl, rfl, rfl, rfl, rfl, rfl, rfl, rfl, rfl, rfl⟩ := h
    exact fairleadref17_Decode.m3L k ad c0 l0 w hr0 hlp klo khi (bfq (by omega)) (bfq (by omega)) (bfq (by omega)) (bfq (by omega)) (bfq (by omega)) (decide_eq_true (by omega)) hc0 (decide_eq_false hs) p1 p2 hp i1 i2 hi (decide_eq_true hL)
  rw [if_neg hL] at h
  obtain ⟨b, hb, h⟩ := Option.bind_eq_some_iff.1 h
  cases b
  · rw [if_neg (by decide)] at h
    simp only [Option.some.injEq, Prod.mk.injEq] at h
    obtain ⟨rfl, rfl, rfl, rfl, rfl, rfl, rfl, rfl, rfl, rfl, rfl, rfl, rfl, rfl, rfl, rfl⟩ := h
    exact fairleadref17_Decode.m3W k ad c0 l0 w hr0 hlp klo khi (bfq (by omega)) (bfq (by omega)) (bfq (by omega)) (bfq (by omega)) (bfq (by omega)) (decide_eq_true (by omega)) hc0 (decide_eq_false hs) p1 p2 hp i1 i2 hi (decide_eq_false hL) hb
  · rw [if_pos rfl] at h
    simp only [Option.some.injEq, Prod.mk.injEq] at h
    obtain ⟨rfl, rfl, rfl, rfl, rfl, rfl, rfl, rfl, rfl, rfl, rfl, rfl, rfl, rfl, rfl, rfl⟩ := h
    exact fairleadref17_Decode.m3K k ad c0 l0 w hr0 hlp klo khi (bfq (by omega)) (bfq (by omega)) (bfq (by omega)) (bfq (by omega)) (bfq (by omega)) (decide_eq_true (by omega)) hc0 (decide_eq_false hs) p1 p2 hp i1 i2 hi (decide_eq_false hL) hb
end Go.Proofs.Ytadglbmghldnfaa.M
