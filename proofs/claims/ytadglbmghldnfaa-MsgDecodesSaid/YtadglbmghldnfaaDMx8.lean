-- Laid by a program (wip/tools/myprint.py) out of the loaded program's own print: for each Go function a Lean function and the proof of its contract.
import Derived.Test.YtadglbmghldnfaaDMx0
import Derived.Test.YtadglbmghldnfaaDMx3
import Derived.Test.YtadglbmghldnfaaDMx5
import Derived.Test.YtadglbmghldnfaaDMx7
namespace Go.Proofs.Ytadglbmghldnfaa.M
open Go.RowKit Go.Proofs.YtadglbmghldnfaaW.PrintWords Go.Proofs.YtadglbmghldnfaaW.PrintLast Go.Proofs.YtadglbmghldnfaaW.PrintMore
attribute [local go_sem] max2_int min2_int max_two min_two max_three min_three max_four min_four   -- for this text's walks alone
set_option linter.unusedVariables false
set_option linter.unusedSimpArgs false
attribute [local go_sem high] eqA68
mutual
def data_Of.l0 : Nat → List Int → Int → Int → Int → Int → Int → Int → Int → Int → Int → Int → Int → Int → Int → Int → Int → Int → Int → Option (Int × Int × Int × Int × Int × Int × Int × Int × Int × Int)
 | 0, _, _, _, _, _, _, _, _, _, _, _, _, _, _, _, _, _, _ => none
 | k + 1, x0, x17, Z0, Z1, Z2, Z3, Z4, Z5, Z6, Z7, Z8, Z9, Za, Zb, Zc, Zd, Ze, Zf => if x17 < 16 then (data_Of.l1 k x0 x17 x17 0 Z0 Z1 Z2 Z3 Z4 Z5 Z6 Z7 Z8 Z9 Za Zb Zc Zd Ze Zf) else ((data_joined.f Z2 Z3).bind fun t166 => (data_Of.l2 k 0 Z0 Z1 Z2 Z3 Z4 Z5 Z6 Z7 Z8 Z9 Za Zb Zc Zd Ze Zf Z0 Z1 t166 0 0 0 0 0 0))
def data_Of.l1 : Nat → List Int → Int → Int → Int → Int → Int → Int → Int → Int → Int → Int → Int → Int → Int → Int → Int → Int → Int → Int → Int → Option (Int × Int × Int × Int × Int × Int × Int × Int × Int × Int)
 | 0, _, _, _, _, _, _, _, _, _, _, _, _, _, _, _, _, _, _, _, _ => none
 | k + 1, x0, x5, x17, x20, Z0, Z1, Z2, Z3, Z4, Z5, Z6, Z7, Z8, Z9, Za, Zb, Zc, Zd, Ze, Zf => if x20 < 4 then (if 0 ≤ x5 then (if x5 < 16 then (if 0 ≤ (wrap64 ((wrap64 (4 * x5)) + x20)) then (if (wrap64 ((wrap64 (4 * x5)) + x20)) < (x0.length : Int) then (if 0 ≤ (wrap64 (8 * x20)) then (data_Of.l1 k x0 x5 x17 (wrap64 (x20 + 1)) (if x5 = 0 then Go.bits .or .u32 (rd ([Z0, Z1, Z2, Z3, Z4, Z5, Z6, Z7, Z8, Z9, Za, Zb, Zc, Zd, Ze, Zf] : List Int) x5) (shl .u32 ((rd x0 (wrap64 ((wrap64 (4 * x5)) + x20))) % 4294967296) (wrap64 (8 * x20))) else Z0) (if x5 = 1 then Go.bits .or .u32 (rd ([Z0, Z1, Z2, Z3, Z4, Z5, Z6, Z7, Z8, Z9, Za, Zb, Zc, Zd, Ze, Zf] : List Int) x5) (shl .u32 ((rd x0 (wrap64 ((wrap64 (4 * x5)) + x20))) % 4294967296) (wrap64 (8 * x20))) else Z1) (if x5 = 2 then Go.bits .or .u32 (rd ([Z0, Z1, Z2, Z3, Z4, Z5, Z6, Z7, Z8, Z9, Za, Zb, Zc, Zd, Ze, Zf] : List Int) x5) (shl .u32 ((rd x0 (wrap64 ((wrap64 (4 * x5)) + x20))) % 4294967296) (wrap64 (8 * x20))) else Z2) (if x5 = 3 then Go.bits .or .u32 (rd ([Z0, Z1, Z2, Z3, Z4, Z5, Z6, Z7, Z8, Z9, Za, Zb, Zc, Zd, Ze, Zf] : List Int) x5) (shl .u32 ((rd x0 (wrap64 ((wrap64 (4 * x5)) + x20))) % 4294967296) (wrap64 (8 * x20))) else Z3) (if x5 = 4 then Go.bits .or .u32 (rd ([Z0, Z1, Z2, Z3, Z4, Z5, Z6, Z7, Z8, Z9, Za, Zb, Zc, Zd, Ze, Zf] : List Int) x5) (shl .u32 ((rd x0 (wrap64 ((wrap64 (4 * x5)) + x20))) % 4294967296) (wrap64 (8 * x20))) else Z4) (if x5 = 5 then Go.bits .or .u32 (rd ([Z0, Z1, Z2, Z3, Z4, Z5, Z6, Z7, Z8, Z9, Za, Zb, Zc, Zd, Ze, Zf] : List Int) x5) (shl .u32 ((rd x0 (wrap64 ((wrap64 (4 * x5)) + x20))) % 4294967296) (wrap64 (8 * x20))) else Z5) (if x5 = 6 then Go.bits .or .u32 (rd ([Z0, Z1, Z2, Z3, Z4, Z5, Z6, Z7, Z8, Z9, Za, Zb, Zc, Zd, Ze, Zf] : List Int) x5) (shl .u32 ((rd x0 (wrap64 ((wrap64 (4 * x5)) + x20))) % 4294967296) (wrap64 (8 * x20))) else Z6) (if x5 = 7 then Go.bits .or .u32 (rd ([Z0, Z1, Z2, Z3, Z4, Z5, Z6, Z7, Z8, Z9, Za, Zb, Zc, Zd, Ze, Zf] : List Int) x5) (shl .u32 ((rd x0 (wrap64 ((wrap64 (4 * x5)) + x20))) % 4294967296) (wrap64 (8 * x20))) else Z7) (if x5 = 8 then Go.bits .or .u32 (rd ([Z0, Z1, Z2, Z3, Z4, Z5, Z6, Z7, Z8, Z9, Za, Zb, Zc, Zd, Ze, Zf] : List Int) x5) (shl .u32 ((rd x0 (wrap64 ((wrap64 (4 * x5)) + x20))) % 4294967296) (wrap64 (8 * x20))) else Z8) (if x5 = 9 then Go.bits .or .u32 (rd ([Z0, Z1, Z2, Z3, Z4, Z5, Z6, Z7, Z8, Z9, Za, Zb, Zc, Zd, Ze, Zf] : List Int) x5) (shl .u32 ((rd x0 (wrap64 ((wrap64 (4 * x5)) + x20))) % 4294967296) (wrap64 (8 * x20))) else Z9) (if x5 = 10 then Go.bits .or .u32 (rd ([Z0, Z1, Z2, Z3, Z4, Z5, Z6, Z7, Z8, Z9, Za, Zb, Zc, Zd, Ze, Zf] : List Int) x5) (shl .u32 ((rd x0 (wrap64 ((wrap64 (4 * x5)) + x20))) % 4294967296) (wrap64 (8 * x20))) else Za) (if x5 = 11 then Go.bits .or .u32 (rd ([Z0, Z1, Z2, Z3, Z4, Z5, Z6, Z7, Z8, Z9, Za, Zb, Zc, Zd, Ze, Zf] : List Int) x5) (shl .u32 ((rd x0 (wrap64 ((wrap64 (4 * x5)) + x20))) % 4294967296) (wrap64 (8 * x20))) else Zb) (if x5 = 12 then Go.bits .or .u32 (rd ([Z0, Z1, Z2, Z3, Z4, Z5, Z6, Z7, Z8, Z9, Za, Zb, Zc, Zd, Ze, Zf] : List Int) x5) (shl .u32 ((rd x0 (wrap64 ((wrap64 (4 * x5)) + x20))) % 4294967296) (wrap64 (8 * x20))) else Zc) (if x5 = 13 then Go.bits .or .u32 (rd ([Z0, Z1, Z2, Z3, Z4, Z5, Z6, Z7, Z8, Z9, Za, Zb, Zc, Zd, Ze, Zf] : List Int) x5) (shl .u32 ((rd x0 (wrap64 ((wrap64 (4 * x5)) + x20))) % 4294967296) (wrap64 (8 * x20))) else Zd) (if x5 = 14 then Go.bits .or .u32 (rd ([Z0, Z1, Z2, Z3, Z4, Z5, Z6, Z7, Z8, Z9, Za, Zb, Zc, Zd, Ze, Zf] : List Int) x5) (shl .u32 ((rd x0 (wrap64 ((wrap64 (4 * x5)) + x20))) % 4294967296) (wrap64 (8 * x20))) else Ze) (if x5 = 15 then Go.bits .or .u32 (rd ([Z0, Z1, Z2, Z3, Z4, Z5, Z6, Z7, Z8, Z9, Za, Zb, Zc, Zd, Ze, Zf] : List Int) x5) (shl .u32 ((rd x0 (wrap64 ((wrap64 (4 * x5)) + x20))) % 4294967296) (wrap64 (8 * x20))) else Zf)) else (none)) else (none)) else (none)) else (none)) else (none)) else (data_Of.l0 k x0 (wrap64 (x17 + 1)) Z0 Z1 Z2 Z3 Z4 Z5 Z6 Z7 Z8 Z9 Za Zb Zc Zd Ze Zf)
def data_Of.l2 : Nat → Int → Int → Int → Int → Int → Int → Int → Int → Int → Int → Int → Int → Int → Int → Int → Int → Int → Int → Int → Int → Int → Int → Int → Int → Int → Int → Option (Int × Int × Int × Int × Int × Int × Int × Int × Int × Int)
 | 0, _, _, _, _, _, _, _, _, _, _, _, _, _, _, _, _, _, _, _, _, _, _, _, _, _, _ => none
 | k + 1, x51, Z0, Z1, Z2, Z3, Z4, Z5, Z6, Z7, Z8, Z9, Za, Zb, Zc, Zd, Ze, Zf, Zg, Zh, Zi, Zj, Zk, Zl, Zm, Zn, Zo => if x51 < 6 then (if x51 = 0 then ((data_joined.f Z4 Z5).bind fun t168 => (data_Of.l2 k 1 Z0 Z1 Z2 Z3 Z4 Z5 Z6 Z7 Z8 Z9 Za Zb Zc Zd Ze Zf Zg Zh Zi t168 Zk Zl Zm Zn Zo)) else (if x51 = 1 then ((data_joined.f Z6 Z7).bind fun t169 => (data_Of.l2 k 2 Z0 Z1 Z2 Z3 Z4 Z5 Z6 Z7 Z8 Z9 Za Zb Zc Zd Ze Zf Zg Zh Zi Zj t169 Zl Zm Zn Zo)) else (if x51 = 2 then ((data_joined.f Z8 Z9).bind fun t170 => (data_Of.l2 k 3 Z0 Z1 Z2 Z3 Z4 Z5 Z6 Z7 Z8 Z9 Za Zb Zc Zd Ze Zf Zg Zh Zi Zj Zk t170 Zm Zn Zo)) else (if x51 = 3 then ((data_joined.f Za Zb).bind fun t171 => (data_Of.l2 k 4 Z0 Z1 Z2 Z3 Z4 Z5 Z6 Z7 Z8 Z9 Za Zb Zc Zd Ze Zf Zg Zh Zi Zj Zk Zl t171 Zn Zo)) else (if x51 = 4 then ((data_joined.f Zc Zd).bind fun t172 => (data_Of.l2 k 5 Z0 Z1 Z2 Z3 Z4 Z5 Z6 Z7 Z8 Z9 Za Zb Zc Zd Ze Zf Zg Zh Zi Zj Zk Zl Zm t172 Zo)) else (if x51 = 5 then ((data_joined.f Ze Zf).bind fun t173 => (data_Of.l2 k 6 Z0 Z1 Z2 Z3 Z4 Z5 Z6 Z7 Z8 Z9 Za Zb Zc Zd Ze Zf Zg Zh Zi Zj Zk Zl Zm Zn t173)) else (none))))))) else ((data_laid.f k Zg Zh Zi Zj Zk Zl Zm Zn Zo).bind fun bt174 => (if (!(bt174.1 == Z0) || (!(bt174.2.1 == Z1) || (!(bt174.2.2.1 == Z2) || (!(bt174.2.2.2.1 == Z3) || (!(bt174.2.2.2.2.1 == Z4) || (!(bt174.2.2.2.2.2.1 == Z5) || (!(bt174.2.2.2.2.2.2.1 == Z6) || (!(bt174.2.2.2.2.2.2.2.1 == Z7) || (!(bt174.2.2.2.2.2.2.2.2.1 == Z8) || (!(bt174.2.2.2.2.2.2.2.2.2.1 == Z9) || (!(bt174.2.2.2.2.2.2.2.2.2.2.1 == Za) || (!(bt174.2.2.2.2.2.2.2.2.2.2.2.1 == Zb) || (!(bt174.2.2.2.2.2.2.2.2.2.2.2.2.1 == Zc) || (!(bt174.2.2.2.2.2.2.2.2.2.2.2.2.2.1 == Zd) || (!(bt174.2.2.2.2.2.2.2.2.2.2.2.2.2.2.1 == Ze) || (!(bt174.2.2.2.2.2.2.2.2.2.2.2.2.2.2.2 == Zf))))))))))))))))) = true then (some (0, 0, 0, 0, 0, 0, 0, 0, 0, 3)) else (some (Zg, Zh, Zi, Zj, Zk, Zl, Zm, Zn, Zo, 0))))
end
def data_Of.f (k : Nat) (l0 : List Int) : Option (Int × Int × Int × Int × Int × Int × Int × Int × Int × Int) := if (l0.length : Int) < 64 then (some (0, 0, 0, 0, 0, 0, 0, 0, 0, 2)) else (if (l0.length : Int) > 64 then (some (0, 0, 0, 0, 0, 0, 0, 0, 0, 3)) else (data_Of.l0 k l0 0 0 0 0 0 0 0 0 0 0 0 0 0 0 0 0 0))
def data_Of.T12 : Bool × List (List Nat × List Nat) := (true, [([], []), ([0], [0]), ([1], [1]), ([], []), ([], []), ([4], [4]), ([], []), ([5, 6], [5, 6]), ([3, 7], [3, 7]), ([8], [8]), ([9], [9]), ([], []), ([11], [11]), ([10, 12], [10, 12]), ([2, 13], [2, 13]), ([0, 0, 1, 2, 3, 4, 5, 6, 7, 8, 9, 10, 11, 12, 13, 14], [0]), ([15, 14, 0, 1, 2, 3, 4, 5, 6, 7, 8, 9, 10, 11, 12, 13, 14], [14, 15])])
def data_Of.B12 : List Nat := [0, 1, 3, 0, 0, 16, 0, 112, 248, 504, 1016, 0, 2048, 8184, 16383, 32767, 65535]
theorem data_Of.tab12 : rtab .any (opsOf Try.f26 12) = data_Of.T12 := by kernel_rfl
theorem data_Of.bits12 : waitsOk data_Of.T12.2 data_Of.B12 = true := by kernel_rfl
def data_Of.T15 : Bool × List (List Nat × List Nat) := (true, [([], []), ([0], [0]), ([], []), ([2], [2]), ([], []), ([4], [4]), ([], []), ([6], [6]), ([5, 7], [5, 7]), ([1, 3, 8], [1, 3, 8]), ([], []), ([10, 9, 8, 0, 1, 2, 3, 4, 5, 6, 7, 8, 9, 10], [9, 10])])
def data_Of.B15 : List Nat := [0, 1, 0, 4, 0, 16, 0, 64, 240, 511, 0, 2047]
theorem data_Of.tab15 : rtab .any (opsOf Try.f26 15) = data_Of.T15 := by kernel_rfl
theorem data_Of.bits15 : waitsOk data_Of.T15.2 data_Of.B15 = true := by kernel_rfl
def data_Of.T19 : Bool × List (List Nat × List Nat) := (true, [([], []), ([], []), ([1], [1]), ([2], [2]), ([3], [3]), ([4], [4]), ([], []), ([6], [6]), ([7], [7]), ([8], [8]), ([9], [9]), ([10], [10]), ([5, 11], [5, 11]), ([], []), ([13, 0, 0, 1, 2, 3, 4, 5, 6, 7, 8, 9, 10, 11, 12], [0, 13]), ([14, 12, 12, 0, 1, 2, 3, 4, 5, 6, 7, 8, 9, 10, 11, 12], [12, 14])])
def data_Of.B19 : List Nat := [0, 0, 2, 6, 14, 30, 0, 64, 192, 448, 960, 1984, 4094, 0, 16383, 32767]
theorem data_Of.tab19 : rtab .any (opsOf Try.f26 19) = data_Of.T19 := by kernel_rfl
theorem data_Of.bits19 : waitsOk data_Of.T19.2 data_Of.B19 = true := by kernel_rfl
theorem set_at16 (i : Int) (h0 : 0 ≤ i) (h1 : i < 16) (v : Int) (c0 c1 c2 c3 c4 c5 c6 c7 c8 c9 c10 c11 c12 c13 c14 c15 : Int) : (#[.int .u32 c0, .int .u32 c1, .int .u32 c2, .int .u32 c3, .int .u32 c4, .int .u32 c5, .int .u32 c6, .int .u32 c7, .int .u32 c8, .int .u32 c9, .int .u32 c10, .int .u32 c11, .int .u32 c12, .int .u32 c13, .int .u32 c14, .int .u32 c15] : Array Value).setIfInBounds i.toNat (.int .u32 v) = #[.int .u32 (if i = 0 then v else c0), .int .u32 (if i = 1 then v else c1), .int .u32 (if i = 2 then v else c2), .int .u32 (if i = 3 then v else c3), .int .u32 (if i = 4 then v else c4), .int .u32 (if i = 5 then v else c5), .int .u32 (if i = 6 then v else c6), .int .u32 (if i = 7 then v else c7), .int .u32 (if i = 8 then v else c8), .int .u32 (if i = 9 then v else c9), .int .u32 (if i = 10 then v else c10), .int .u32 (if i = 11 then v else c11), .int .u32 (if i = 12 then v else c12), .int .u32 (if i = 13 then v else c13), .int .u32 (if i = 14 then v else c14), .int .u32 (if i = 15 then v else c15)] := by
 obtain ⟨j, rfl⟩ := Int.eq_ofNat_of_zero_le h0
 have hj : j < 16 := by omega
 clear h0 h1
 rcases (by omega : j = 0 ∨ j = 1 ∨ j = 2 ∨ j = 3 ∨ j = 4 ∨ j = 5 ∨ j = 6 ∨ j = 7 ∨ j = 8 ∨ j = 9 ∨ j = 10 ∨ j = 11 ∨ j = 12 ∨ j = 13 ∨ j = 14 ∨ j = 15) with rfl | rfl | rfl | rfl | rfl | rfl | rfl | rfl | rfl | rfl | rfl | rfl | rfl | rfl | rfl | rfl <;> rfl
set_option maxHeartbeats 8000000 in
set_option maxRecDepth 100000 in
theorem data_Of.calls (k : Nat) (A0 : Option Addr) (c0 : Nat) (l0 : List Int) (r1 : Int) (r2 : Int) (r3 : Int) (r4 : Int) (r5 : Int) (r6 : Int) (r7 : Int) (r8 : Int) (r9 : Int) (r10 : Int) (w : World) (hr0 : Kd.C (Kd.int .u8) w A0 l0.length l0) (hc0 : l0.length ≤ c0) (h : data_Of.f k l0 = some (r1, r2, r3, r4, r5, r6, r7, r8, r9, r10)) :
  Calls Try.prog 26 #[.slice A0 l0.length c0] w fun e w' => e = .returned (.tuple #[.agg #[.int .u32 r1, .int .u32 r2, .int .u64 r3, .int .u64 r4, .int .u64 r5, .int .u64 r6, .int .u64 r7, .int .u64 r8, .int .u64 r9], .int .i64 r10]) ∧ Below w.heap.size w w' := by
 have hu26 := Try.underlying26
 have hu68 := Try.underlying68
 have HR0 := Aside0.mk hr0
 have HC0 := Aside0.mk hc0
 clear hr0 hc0
 have HB := Aside0.mk (Below.refl w.heap.size w)
 have H : (if (l0.length : Int) < 64 then (some (0, 0, 0, 0, 0, 0, 0, 0, 0, 2)) else (if (l0.length : Int) > 64 then (some (0, 0, 0, 0, 0, 0, 0, 0, 0, 3)) else (data_Of.l0 k l0 0 0 0 0 0 0 0 0 0 0 0 0 0 0 0 0 0))) = some (r1, r2, r3, r4, r5, r6, r7, r8, r9, r10) := h
 clear h
 by_cases c2 : (l0.length : Int) < 64
 ·rw [if_pos c2] at H
  have c2b0 : decide ((l0.length : Int) < 64) = true := decide_eq_true c2
  have c2b1 : decide (l0.length < 64) = true := decide_eq_true (by omega)
  clear c2
  simp only [Option.some.injEq, Prod.mk.injEq] at H
  obtain ⟨rfl, rfl, rfl, rfl, rfl, rfl, rfl, rfl, rfl, rfl⟩ := H
  go_enter Try.func26, Try.ntmps26
  go_wp2_with (first | ((with_reducible refine gate_dst (N := 2) rfl ?_); refine box_event ?hg (N := 2) ?hd (cs := #[.int .u32 0, .int .u32 0, .int .u64 0, .int .u64 0, .int .u64 0, .int .u64 0, .int .u64 0, .int .u64 0, .int .u64 0]) (t := 26) ?hr ?_; (case hd => rfl); (case hg => rfl); (case hr => first | (go_simp; done) | (go_simp; rfl)); intro gb148 hg w3 hbox hb; have n0_ := Aside0.mk (below_step (by repeat (first | (with_reducible first | exact HB.out | apply below_alloc | apply pw_below_drewN | apply below_drew1) | exact HB.out)) hb); have n1_ := Aside0.mk (hbox); have n2_ := Aside0.mk ((by rw [hg]; exact (below_size (by repeat (first | (with_reducible first | exact HB.out | apply below_alloc | apply pw_below_drewN | apply below_drew1) | exact HB.out))) : w.heap.size ≤ gb148)); have n3_ := Aside0.mk ((by rw [hg]; exact (below_size (by repeat (first | (with_reducible first | exact HB.out | apply below_alloc | apply pw_below_drewN | apply below_drew1) | exact HB.out))) : w.heap.size ≤ gb148)); clear HB; have HB := n0_; have BK148 := n1_; have GW148 := n2_; have GE148 := n3_; clear n0_ n1_ n2_ n3_; clear hb hbox hg; have hcz4 := Mine.cells9 BK148.out; have hfz4_0 := blk_frozen BK148.out))
  refine bodyPost_ret (results_ct rfl _ _ gb148 26 #[.int .u32 0, .int .u32 0, .int .u64 0, .int .u64 0, .int .u64 0, .int .u64 0, .int .u64 0, .int .u64 0, .int .u64 0] (0, 0) _ rfl (by (with_reducible repeat (first | refine blk_drewN ?_ _ | refine blk_drew ?_ | refine blk_alloc ?_ _)); refine blk_put (cs := #[.int .u32 0, .int .u32 0, .int .u64 0, .int .u64 0, .int .u64 0, .int .u64 0, .int .u64 0, .int .u64 0, .int .u64 0]) ?_ 8 _ rfl; (with_reducible repeat (first | refine blk_drewN ?_ _ | refine blk_drew ?_ | refine blk_alloc ?_ _)); refine blk_put (cs := #[.int .u32 0, .int .u32 0, .int .u64 0, .int .u64 0, .int .u64 0, .int .u64 0, .int .u64 0, .int .u64 0, .int .u64 0]) ?_ 7 _ rfl; (with_reducible repeat (first | refine blk_drewN ?_ _ | refine blk_drew ?_ | refine blk_alloc ?_ _)); refine blk_put (cs := #[.int .u32 0, .int .u32 0, .int .u64 0, .int .u64 0, .int .u64 0, .int .u64 0, .int .u64 0, .int .u64 0, .int .u64 0]) ?_ 6 _ rfl; (with_reducible repeat (first | refine blk_drewN ?_ _ | refine blk_drew ?_ | refine blk_alloc ?_ _)); refine blk_put (cs := #[.int .u32 0, .int .u32 0, .int .u64 0, .int .u64 0, .int .u64 0, .int .u64 0, .int .u64 0, .int .u64 0, .int .u64 0]) ?_ 5 _ rfl; (with_reducible repeat (first | refine blk_drewN ?_ _ | refine blk_drew ?_ | refine blk_alloc ?_ _)); refine blk_put (cs := #[.int .u32 0, .int .u32 0, .int .u64 0, .int .u64 0, .int .u64 0, .int .u64 0, .int .u64 0, .int .u64 0, .int .u64 0]) ?_ 4 _ rfl; (with_reducible repeat (first | refine blk_drewN ?_ _ | refine blk_drew ?_ | refine blk_alloc ?_ _)); refine blk_put (cs := #[.int .u32 0, .int .u32 0, .int .u64 0, .int .u64 0, .int .u64 0, .int .u64 0, .int .u64 0, .int .u64 0, .int .u64 0]) ?_ 3 _ rfl; (with_reducible repeat (first | refine blk_drewN ?_ _ | refine blk_drew ?_ | refine blk_alloc ?_ _)); refine blk_put (cs := #[.int .u32 0, .int .u32 0, .int .u64 0, .int .u64 0, .int .u64 0, .int .u64 0, .int .u64 0, .int .u64 0, .int .u64 0]) ?_ 2 _ rfl; (with_reducible repeat (first | refine blk_drewN ?_ _ | refine blk_drew ?_ | refine blk_alloc ?_ _)); refine blk_put (cs := #[.int .u32 0, .int .u32 0, .int .u64 0, .int .u64 0, .int .u64 0, .int .u64 0, .int .u64 0, .int .u64 0, .int .u64 0]) ?_ 1 _ rfl; (with_reducible repeat (first | refine blk_drewN ?_ _ | refine blk_drew ?_ | refine blk_alloc ?_ _)); refine blk_put (cs := #[.int .u32 0, .int .u32 0, .int .u64 0, .int .u64 0, .int .u64 0, .int .u64 0, .int .u64 0, .int .u64 0, .int .u64 0]) ?_ 0 _ rfl; (with_reducible repeat (first | refine blk_drewN ?_ _ | refine blk_drew ?_ | refine blk_alloc ?_ _)); exact BK148.out) Try.underlying26 rfl (by kernel_rfl)) rfl ?_
  exact ⟨by first | rfl | (simp [errW_none, errW_some] <;> rfl) | (simp [*, errW_none, errW_some] <;> rfl), by repeat (first | (with_reducible first | exact HB.out | apply below_alloc | apply pw_below_drewN | apply below_drew1 | refine below_set ?_ GE148.out) | exact HB.out)⟩
 ·rw [if_neg c2] at H
  have c2b0 : decide ((l0.length : Int) < 64) = false := decide_eq_false c2
  have c2b1 : decide (l0.length < 64) = false := decide_eq_false (by omega)
  clear c2
  by_cases c5 : (l0.length : Int) > 64
  ·rw [if_pos c5] at H
   have c5b0 : decide (64 < (l0.length : Int)) = true := decide_eq_true c5
   have c5b1 : decide (64 < l0.length) = true := decide_eq_true (by omega)
   clear c5
   simp only [Option.some.injEq, Prod.mk.injEq] at H
   obtain ⟨rfl, rfl, rfl, rfl, rfl, rfl, rfl, rfl, rfl, rfl⟩ := H
   go_enter Try.func26, Try.ntmps26
   go_wp2_with (first | ((with_reducible refine gate_dst (N := 2) rfl ?_); refine box_event ?hg (N := 2) ?hd (cs := #[.int .u32 0, .int .u32 0, .int .u64 0, .int .u64 0, .int .u64 0, .int .u64 0, .int .u64 0, .int .u64 0, .int .u64 0]) (t := 26) ?hr ?_; (case hd => rfl); (case hg => rfl); (case hr => first | (go_simp; done) | (go_simp; rfl)); intro gb148 hg w6 hbox hb; have n0_ := Aside0.mk (below_step (by repeat (first | (with_reducible first | exact HB.out | apply below_alloc | apply pw_below_drewN | apply below_drew1) | exact HB.out)) hb); have n1_ := Aside0.mk (hbox); have n2_ := Aside0.mk ((by rw [hg]; exact (below_size (by repeat (first | (with_reducible first | exact HB.out | apply below_alloc | apply pw_below_drewN | apply below_drew1) | exact HB.out))) : w.heap.size ≤ gb148)); have n3_ := Aside0.mk ((by rw [hg]; exact (below_size (by repeat (first | (with_reducible first | exact HB.out | apply below_alloc | apply pw_below_drewN | apply below_drew1) | exact HB.out))) : w.heap.size ≤ gb148)); clear HB; have HB := n0_; have BK148 := n1_; have GW148 := n2_; have GE148 := n3_; clear n0_ n1_ n2_ n3_; clear hb hbox hg; have hcz7 := Mine.cells9 BK148.out; have hfz7_0 := blk_frozen BK148.out))
   refine bodyPost_ret (results_ct rfl _ _ gb148 26 #[.int .u32 0, .int .u32 0, .int .u64 0, .int .u64 0, .int .u64 0, .int .u64 0, .int .u64 0, .int .u64 0, .int .u64 0] (0, 0) _ rfl (by (with_reducible repeat (first | refine blk_drewN ?_ _ | refine blk_drew ?_ | refine blk_alloc ?_ _)); refine blk_put (cs := #[.int .u32 0, .int .u32 0, .int .u64 0, .int .u64 0, .int .u64 0, .int .u64 0, .int .u64 0, .int .u64 0, .int .u64 0]) ?_ 8 _ rfl; (with_reducible repeat (first | refine blk_drewN ?_ _ | refine blk_drew ?_ | refine blk_alloc ?_ _)); refine blk_put (cs := #[.int .u32 0, .int .u32 0, .int .u64 0, .int .u64 0, .int .u64 0, .int .u64 0, .int .u64 0, .int .u64 0, .int .u64 0]) ?_ 7 _ rfl; (with_reducible repeat (first | refine blk_drewN ?_ _ | refine blk_drew ?_ | refine blk_alloc ?_ _)); refine blk_put (cs := #[.int .u32 0, .int .u32 0, .int .u64 0, .int .u64 0, .int .u64 0, .int .u64 0, .int .u64 0, .int .u64 0, .int .u64 0]) ?_ 6 _ rfl; (with_reducible repeat (first | refine blk_drewN ?_ _ | refine blk_drew ?_ | refine blk_alloc ?_ _)); refine blk_put (cs := #[.int .u32 0, .int .u32 0, .int .u64 0, .int .u64 0, .int .u64 0, .int .u64 0, .int .u64 0, .int .u64 0, .int .u64 0]) ?_ 5 _ rfl; (with_reducible repeat (first | refine blk_drewN ?_ _ | refine blk_drew ?_ | refine blk_alloc ?_ _)); refine blk_put (cs := #[.int .u32 0, .int .u32 0, .int .u64 0, .int .u64 0, .int .u64 0, .int .u64 0, .int .u64 0, .int .u64 0, .int .u64 0]) ?_ 4 _ rfl; (with_reducible repeat (first | refine blk_drewN ?_ _ | refine blk_drew ?_ | refine blk_alloc ?_ _)); refine blk_put (cs := #[.int .u32 0, .int .u32 0, .int .u64 0, .int .u64 0, .int .u64 0, .int .u64 0, .int .u64 0, .int .u64 0, .int .u64 0]) ?_ 3 _ rfl; (with_reducible repeat (first | refine blk_drewN ?_ _ | refine blk_drew ?_ | refine blk_alloc ?_ _)); refine blk_put (cs := #[.int .u32 0, .int .u32 0, .int .u64 0, .int .u64 0, .int .u64 0, .int .u64 0, .int .u64 0, .int .u64 0, .int .u64 0]) ?_ 2 _ rfl; (with_reducible repeat (first | refine blk_drewN ?_ _ | refine blk_drew ?_ | refine blk_alloc ?_ _)); refine blk_put (cs := #[.int .u32 0, .int .u32 0, .int .u64 0, .int .u64 0, .int .u64 0, .int .u64 0, .int .u64 0, .int .u64 0, .int .u64 0]) ?_ 1 _ rfl; (with_reducible repeat (first | refine blk_drewN ?_ _ | refine blk_drew ?_ | refine blk_alloc ?_ _)); refine blk_put (cs := #[.int .u32 0, .int .u32 0, .int .u64 0, .int .u64 0, .int .u64 0, .int .u64 0, .int .u64 0, .int .u64 0, .int .u64 0]) ?_ 0 _ rfl; (with_reducible repeat (first | refine blk_drewN ?_ _ | refine blk_drew ?_ | refine blk_alloc ?_ _)); exact BK148.out) Try.underlying26 rfl (by kernel_rfl)) rfl ?_
   exact ⟨by first | rfl | (simp [errW_none, errW_some] <;> rfl) | (simp [*, errW_none, errW_some] <;> rfl), by repeat (first | (with_reducible first | exact HB.out | apply below_alloc | apply pw_below_drewN | apply below_drew1 | refine below_set ?_ GE148.out) | exact HB.out)⟩
  ·rw [if_neg c5] at H
   have c5b0 : decide (64 < (l0.length : Int)) = false := decide_eq_false c5
   have c5b1 : decide (64 < l0.length) = false := decide_eq_false (by omega)
   clear c5
   have H' := Aside0.mk H
   clear H
   go_enter Try.func26, Try.ntmps26
   go_wp2_with (first | ((with_reducible refine gate_dst (N := 2) rfl ?_); refine box_event ?hg (N := 2) ?hd (cs := #[.int .u32 0, .int .u32 0, .int .u64 0, .int .u64 0, .int .u64 0, .int .u64 0, .int .u64 0, .int .u64 0, .int .u64 0]) (t := 26) ?hr ?_; (case hd => rfl); (case hg => rfl); (case hr => first | (go_simp; done) | (go_simp; rfl)); intro gb148 hg w8 hbox hb; have n0_ := Aside0.mk (below_step (by repeat (first | (with_reducible first | exact HB.out | apply below_alloc | apply pw_below_drewN | apply below_drew1) | exact HB.out)) hb); have n1_ := Aside0.mk (hbox); have n2_ := Aside0.mk ((by rw [hg]; exact (below_size (by repeat (first | (with_reducible first | exact HB.out | apply below_alloc | apply pw_below_drewN | apply below_drew1) | exact HB.out))) : w.heap.size ≤ gb148)); have n3_ := Aside0.mk ((by rw [hg]; exact (below_size (by repeat (first | (with_reducible first | exact HB.out | apply below_alloc | apply pw_below_drewN | apply below_drew1) | exact HB.out))) : w.heap.size ≤ gb148)); clear HB; have HB := n0_; have BK148 := n1_; have GW148 := n2_; have GE148 := n3_; clear n0_ n1_ n2_ n3_; clear hb hbox hg) | ((with_reducible refine gate_dst (N := 4) rfl ?_); refine box_event ?hg (N := 4) ?hd (cs := #[.int .u32 0, .int .u32 0, .int .u32 0, .int .u32 0, .int .u32 0, .int .u32 0, .int .u32 0, .int .u32 0, .int .u32 0, .int .u32 0, .int .u32 0, .int .u32 0, .int .u32 0, .int .u32 0, .int .u32 0, .int .u32 0]) (t := 68) ?hr ?_; (case hd => rfl); (case hg => rfl); (case hr => first | (go_simp; done) | (go_simp; rfl)); intro gb149 hg w9 hbox hb; have n0_ := Aside0.mk (blk_below (g := gb148) (o := .cells #[.int .u32 0, .int .u32 0, .int .u64 0, .int .u64 0, .int .u64 0, .int .u64 0, .int .u64 0, .int .u64 0, .int .u64 0] 26 (0, 0)) (by (with_reducible repeat (first | refine blk_drewN ?_ _ | refine blk_drew ?_ | refine blk_alloc ?_ _)); exact BK148.out) hb); have n1_ := Aside0.mk (below_step (by repeat (first | (with_reducible first | exact HB.out | apply below_alloc | apply pw_below_drewN | apply below_drew1 | refine below_set ?_ GE148.out) | exact HB.out)) hb); have n2_ := Aside0.mk (hbox); have n3_ := Aside0.mk ((by rw [hg]; exact (below_size (by repeat (first | (with_reducible first | exact HB.out | apply below_alloc | apply pw_below_drewN | apply below_drew1 | refine below_set ?_ GE148.out) | exact HB.out))) : w.heap.size ≤ gb149)); have n4_ := Aside0.mk ((by rw [hg]; exact (below_size (by repeat (first | (with_reducible first | exact HB.out | apply below_alloc | apply pw_below_drewN | apply below_drew1 | refine below_set ?_ GE148.out) | exact HB.out))) : w.heap.size ≤ gb149)); have n5_ := Aside0.mk ((by rw [hg]; exact Nat.ne_of_lt (blk_lt (g := gb148) (o := .cells #[.int .u32 0, .int .u32 0, .int .u64 0, .int .u64 0, .int .u64 0, .int .u64 0, .int .u64 0, .int .u64 0, .int .u64 0] 26 (0, 0)) (by (with_reducible repeat (first | refine blk_drewN ?_ _ | refine blk_drew ?_ | refine blk_alloc ?_ _)); exact BK148.out)) : gb148 ≠ gb149)); have n6_ := Aside0.mk ((by rw [hg]; exact Nat.ne_of_gt (blk_lt (g := gb148) (o := .cells #[.int .u32 0, .int .u32 0, .int .u64 0, .int .u64 0, .int .u64 0, .int .u64 0, .int .u64 0, .int .u64 0, .int .u64 0] 26 (0, 0)) (by (with_reducible repeat (first | refine blk_drewN ?_ _ | refine blk_drew ?_ | refine blk_alloc ?_ _)); exact BK148.out)) : gb149 ≠ gb148)); clear BK148; clear HB; have BK148 := n0_; have HB := n1_; have BK149 := n2_; have GW149 := n3_; have GE149 := n4_; have NB148_149 := n5_; have NB149_148 := n6_; clear n0_ n1_ n2_ n3_ n4_ n5_ n6_; clear hb hbox hg))
   go_loopg [17] k (fun kq v17 w' => ∃ (x17_1 : Int) (Zp : Int) (Zq : Int) (Zr : Int) (Zs : Int) (Zt : Int) (Zu : Int) (Zv : Int) (Zw : Int) (Zx : Int) (Zy : Int) (Zz : Int) (Z10 : Int) (Z11 : Int) (Z12 : Int) (Z13 : Int) (Z14 : Int), v17 = .int .i64 x17_1 ∧ Aside0 (data_Of.l0 kq l0 x17_1 Zp Zq Zr Zs Zt Zu Zv Zw Zx Zy Zz Z10 Z11 Z12 Z13 Z14 = some (r1, r2, r3, r4, r5, r6, r7, r8, r9, r10)) ∧ Aside0 (kq ≤ k) ∧ Aside0 (w'.heap[gb148]? = some (.cells #[.int .u32 0, .int .u32 0, .int .u64 0, .int .u64 0, .int .u64 0, .int .u64 0, .int .u64 0, .int .u64 0, .int .u64 0] 26 (0, 0))) ∧ Aside0 (w'.heap[gb149]? = some (.cells #[.int .u32 Zp, .int .u32 Zq, .int .u32 Zr, .int .u32 Zs, .int .u32 Zt, .int .u32 Zu, .int .u32 Zv, .int .u32 Zw, .int .u32 Zx, .int .u32 Zy, .int .u32 Zz, .int .u32 Z10, .int .u32 Z11, .int .u32 Z12, .int .u32 Z13, .int .u32 Z14] 68 (0, 0))) ∧ Aside0 (Below w.heap.size w w'))
   case atStart => exact ⟨(0), (0), (0), (0), (0), (0), (0), (0), (0), (0), (0), (0), (0), (0), (0), (0), (0), (by first | rfl | (simp; done) | (simp [*]; done)), H', ⟨Nat.le_refl _⟩, ⟨by (with_reducible repeat (first | refine blk_drewN ?_ _ | refine blk_drew ?_ | refine blk_alloc ?_ _)); exact BK148.out⟩, ⟨by (with_reducible repeat (first | refine blk_drewN ?_ _ | refine blk_drew ?_ | refine blk_alloc ?_ _)); exact BK149.out⟩, ⟨by repeat (first | (with_reducible first | exact HB.out | apply below_alloc | apply pw_below_drewN | apply below_drew1 | refine below_set ?_ GE148.out | refine below_set ?_ GE149.out) | exact HB.out)⟩⟩
   case round =>
    clear H'
    try clear c2
    try clear c2b0
    try clear c2b1
    try clear p2
    try clear c5
    try clear c5b0
    try clear c5b1
    try clear hcz4
    try clear hcz7
    try clear hfz4_0
    try clear hfz7_0
    obtain ⟨x17_1, Zp, Zq, Zr, Zs, Zt, Zu, Zv, Zw, Zx, Zy, Zz, Z10, Z11, Z12, Z13, Z14, rfl, HA, HK1, BK148, BK149, HB⟩ := hrel
    cases gk with
    | zero => exact absurd HA.out (by simp [data_Of.l0])
    | succ k1 =>
     have H := HA.out
     clear HA
     simp only [data_Of.l0] at H
     by_cases c10 : x17_1 < 16
     ·rw [if_pos c10] at H
      have c10b0 : decide (x17_1 < 16) = true := decide_eq_true c10
      clear c10
      have H' := Aside0.mk H
      clear H
      go_wp2
      go_loopg [20] k1 (fun kq v20 w' => ∃ (x20_2 : Int) (Z15 : Int) (Z16 : Int) (Z17 : Int) (Z18 : Int) (Z19 : Int) (Z1a : Int) (Z1b : Int) (Z1c : Int) (Z1d : Int) (Z1e : Int) (Z1f : Int) (Z1g : Int) (Z1h : Int) (Z1i : Int) (Z1j : Int) (Z1k : Int), v20 = .int .i64 x20_2 ∧ Aside0 (data_Of.l1 kq l0 x17_1 x17_1 x20_2 Z15 Z16 Z17 Z18 Z19 Z1a Z1b Z1c Z1d Z1e Z1f Z1g Z1h Z1i Z1j Z1k = some (r1, r2, r3, r4, r5, r6, r7, r8, r9, r10)) ∧ Aside0 (kq ≤ k1) ∧ Aside0 (w'.heap[gb148]? = some (.cells #[.int .u32 0, .int .u32 0, .int .u64 0, .int .u64 0, .int .u64 0, .int .u64 0, .int .u64 0, .int .u64 0, .int .u64 0] 26 (0, 0))) ∧ Aside0 (w'.heap[gb149]? = some (.cells #[.int .u32 Z15, .int .u32 Z16, .int .u32 Z17, .int .u32 Z18, .int .u32 Z19, .int .u32 Z1a, .int .u32 Z1b, .int .u32 Z1c, .int .u32 Z1d, .int .u32 Z1e, .int .u32 Z1f, .int .u32 Z1g, .int .u32 Z1h, .int .u32 Z1i, .int .u32 Z1j, .int .u32 Z1k] 68 (0, 0))) ∧ Aside0 (Below w.heap.size w w'))
      case atStart => exact ⟨(0), (Zp), (Zq), (Zr), (Zs), (Zt), (Zu), (Zv), (Zw), (Zx), (Zy), (Zz), (Z10), (Z11), (Z12), (Z13), (Z14), (by first | rfl | (simp; done) | (simp [*]; done)), H', ⟨Nat.le_refl _⟩, ⟨by (with_reducible repeat (first | refine blk_drewN ?_ _ | refine blk_drew ?_ | refine blk_alloc ?_ _)); exact BK148.out⟩, ⟨by (with_reducible repeat (first | refine blk_drewN ?_ _ | refine blk_drew ?_ | refine blk_alloc ?_ _)); exact BK149.out⟩, ⟨by repeat (first | (with_reducible first | exact HB.out | apply below_alloc | apply pw_below_drewN | apply below_drew1 | refine below_set ?_ GE148.out | refine below_set ?_ GE149.out) | exact HB.out)⟩⟩
      case round =>
       clear H'
       try clear c1
       try clear c2
       try clear c2b0
       try clear c2b1
       try clear p2
       try clear c5
       try clear c5b0
       try clear c5b1
       try clear c10
       try clear c10b0
       try clear hcz4
       try clear hcz7
       try clear hfz4_0
       try clear hfz7_0
       try clear p2
       obtain ⟨x20_2, Z15, Z16, Z17, Z18, Z19, Z1a, Z1b, Z1c, Z1d, Z1e, Z1f, Z1g, Z1h, Z1i, Z1j, Z1k, rfl, HA, HK2, BK148, BK149, HB⟩ := hrel
       cases gk with
       | zero => exact absurd HA.out (by simp [data_Of.l1])
       | succ k2 =>
        have H := HA.out
        clear HA
        simp only [data_Of.l1] at H
        by_cases c11 : x20_2 < 4
        ·rw [if_pos c11] at H
         have c11b0 : decide (x20_2 < 4) = true := decide_eq_true c11
         clear c11
         by_cases cA : 0 ≤ x17_1
         ·rw [if_pos cA] at H
          have cAb0 := eq_true cA
          have cAb1 := decide_eq_true cA
          by_cases cB : x17_1 < 16
          ·rw [if_pos cB] at H
           have cBb0 := eq_true cB
           have cBb1 := decide_eq_true cB
           obtain ⟨ji13, hji13⟩ : ∃ j_ : Int, (wrap64 ((wrap64 (4 * x17_1)) + x20_2)) = j_ := ⟨_, rfl⟩
           replace H : (if 0 ≤ (ji13) then (if (ji13) < (l0.length : Int) then (if 0 ≤ (wrap64 (8 * x20_2)) then (data_Of.l1 k2 l0 x17_1 x17_1 (wrap64 (x20_2 + 1)) (if x17_1 = 0 then Go.bits .or .u32 (rd ([Z15, Z16, Z17, Z18, Z19, Z1a, Z1b, Z1c, Z1d, Z1e, Z1f, Z1g, Z1h, Z1i, Z1j, Z1k] : List Int) x17_1) (shl .u32 ((rd l0 (ji13)) % 4294967296) (wrap64 (8 * x20_2))) else Z15) (if x17_1 = 1 then Go.bits .or .u32 (rd ([Z15, Z16, Z17, Z18, Z19, Z1a, Z1b, Z1c, Z1d, Z1e, Z1f, Z1g, Z1h, Z1i, Z1j, Z1k] : List Int) x17_1) (shl .u32 ((rd l0 (ji13)) % 4294967296) (wrap64 (8 * x20_2))) else Z16) (if x17_1 = 2 then Go.bits .or .u32 (rd ([Z15, Z16, Z17, Z18, Z19, Z1a, Z1b, Z1c, Z1d, Z1e, Z1f, Z1g, Z1h, Z1i, Z1j, Z1k] : List Int) x17_1) (shl .u32 ((rd l0 (ji13)) % 4294967296) (wrap64 (8 * x20_2))) else Z17) (if x17_1 = 3 then Go.bits .or .u32 (rd ([Z15, Z16, Z17, Z18, Z19, Z1a, Z1b, Z1c, Z1d, Z1e, Z1f, Z1g, Z1h, Z1i, Z1j, Z1k] : List Int) x17_1) (shl .u32 ((rd l0 (ji13)) % 4294967296) (wrap64 (8 * x20_2))) else Z18) (if x17_1 = 4 then Go.bits .or .u32 (rd ([Z15, Z16, Z17, Z18, Z19, Z1a, Z1b, Z1c, Z1d, Z1e, Z1f, Z1g, Z1h, Z1i, Z1j, Z1k] : List Int) x17_1) (shl .u32 ((rd l0 (ji13)) % 4294967296) (wrap64 (8 * x20_2))) else Z19) (if x17_1 = 5 then Go.bits .or .u32 (rd ([Z15, Z16, Z17, Z18, Z19, Z1a, Z1b, Z1c, Z1d, Z1e, Z1f, Z1g, Z1h, Z1i, Z1j, Z1k] : List Int) x17_1) (shl .u32 ((rd l0 (ji13)) % 4294967296) (wrap64 (8 * x20_2))) else Z1a) (if x17_1 = 6 then Go.bits .or .u32 (rd ([Z15, Z16, Z17, Z18, Z19, Z1a, Z1b, Z1c, Z1d, Z1e, Z1f, Z1g, Z1h, Z1i, Z1j, Z1k] : List Int) x17_1) (shl .u32 ((rd l0 (ji13)) % 4294967296) (wrap64 (8 * x20_2))) else Z1b) (if x17_1 = 7 then Go.bits .or .u32 (rd ([Z15, Z16, Z17, Z18, Z19, Z1a, Z1b, Z1c, Z1d, Z1e, Z1f, Z1g, Z1h, Z1i, Z1j, Z1k] : List Int) x17_1) (shl .u32 ((rd l0 (ji13)) % 4294967296) (wrap64 (8 * x20_2))) else Z1c) (if x17_1 = 8 then Go.bits .or .u32 (rd ([Z15, Z16, Z17, Z18, Z19, Z1a, Z1b, Z1c, Z1d, Z1e, Z1f, Z1g, Z1h, Z1i, Z1j, Z1k] : List Int) x17_1) (shl .u32 ((rd l0 (ji13)) % 4294967296) (wrap64 (8 * x20_2))) else Z1d) (if x17_1 = 9 then Go.bits .or .u32 (rd ([Z15, Z16, Z17, Z18, Z19, Z1a, Z1b, Z1c, Z1d, Z1e, Z1f, Z1g, Z1h, Z1i, Z1j, Z1k] : List Int) x17_1) (shl .u32 ((rd l0 (ji13)) % 4294967296) (wrap64 (8 * x20_2))) else Z1e) (if x17_1 = 10 then Go.bits .or .u32 (rd ([Z15, Z16, Z17, Z18, Z19, Z1a, Z1b, Z1c, Z1d, Z1e, Z1f, Z1g, Z1h, Z1i, Z1j, Z1k] : List Int) x17_1) (shl .u32 ((rd l0 (ji13)) % 4294967296) (wrap64 (8 * x20_2))) else Z1f) (if x17_1 = 11 then Go.bits .or .u32 (rd ([Z15, Z16, Z17, Z18, Z19, Z1a, Z1b, Z1c, Z1d, Z1e, Z1f, Z1g, Z1h, Z1i, Z1j, Z1k] : List Int) x17_1) (shl .u32 ((rd l0 (ji13)) % 4294967296) (wrap64 (8 * x20_2))) else Z1g) (if x17_1 = 12 then Go.bits .or .u32 (rd ([Z15, Z16, Z17, Z18, Z19, Z1a, Z1b, Z1c, Z1d, Z1e, Z1f, Z1g, Z1h, Z1i, Z1j, Z1k] : List Int) x17_1) (shl .u32 ((rd l0 (ji13)) % 4294967296) (wrap64 (8 * x20_2))) else Z1h) (if x17_1 = 13 then Go.bits .or .u32 (rd ([Z15, Z16, Z17, Z18, Z19, Z1a, Z1b, Z1c, Z1d, Z1e, Z1f, Z1g, Z1h, Z1i, Z1j, Z1k] : List Int) x17_1) (shl .u32 ((rd l0 (ji13)) % 4294967296) (wrap64 (8 * x20_2))) else Z1i) (if x17_1 = 14 then Go.bits .or .u32 (rd ([Z15, Z16, Z17, Z18, Z19, Z1a, Z1b, Z1c, Z1d, Z1e, Z1f, Z1g, Z1h, Z1i, Z1j, Z1k] : List Int) x17_1) (shl .u32 ((rd l0 (ji13)) % 4294967296) (wrap64 (8 * x20_2))) else Z1j) (if x17_1 = 15 then Go.bits .or .u32 (rd ([Z15, Z16, Z17, Z18, Z19, Z1a, Z1b, Z1c, Z1d, Z1e, Z1f, Z1g, Z1h, Z1i, Z1j, Z1k] : List Int) x17_1) (shl .u32 ((rd l0 (ji13)) % 4294967296) (wrap64 (8 * x20_2))) else Z1k)) else (none)) else (none)) else (none)) = some (r1, r2, r3, r4, r5, r6, r7, r8, r9, r10) := by first | (rw [hji13] at H; exact H) | (simp only [hji13] at H ⊢; exact H)
           have hji13w : (IntKind.i64.wrap ((IntKind.i64.wrap (4 * x17_1)) + x20_2)) = ji13 := by rw [i64_w, i64_w]; exact hji13
           by_cases c14 : 0 ≤ (ji13)
           ·rw [if_pos c14] at H
            have c14b0 : decide (0 ≤ (ji13)) = true := decide_eq_true c14
            clear c14
            by_cases c15 : (ji13) < (l0.length : Int)
            ·rw [if_pos c15] at H
             have c15b0 : decide ((ji13) < (l0.length : Int)) = true := decide_eq_true c15
             clear c15
             obtain ⟨ji16, hji16⟩ : ∃ j_ : Int, (wrap64 (8 * x20_2)) = j_ := ⟨_, rfl⟩
             replace H : (if 0 ≤ (ji16) then (data_Of.l1 k2 l0 x17_1 x17_1 (wrap64 (x20_2 + 1)) (if x17_1 = 0 then Go.bits .or .u32 (rd ([Z15, Z16, Z17, Z18, Z19, Z1a, Z1b, Z1c, Z1d, Z1e, Z1f, Z1g, Z1h, Z1i, Z1j, Z1k] : List Int) x17_1) (shl .u32 ((rd l0 (ji13)) % 4294967296) (ji16)) else Z15) (if x17_1 = 1 then Go.bits .or .u32 (rd ([Z15, Z16, Z17, Z18, Z19, Z1a, Z1b, Z1c, Z1d, Z1e, Z1f, Z1g, Z1h, Z1i, Z1j, Z1k] : List Int) x17_1) (shl .u32 ((rd l0 (ji13)) % 4294967296) (ji16)) else Z16) (if x17_1 = 2 then Go.bits .or .u32 (rd ([Z15, Z16, Z17, Z18, Z19, Z1a, Z1b, Z1c, Z1d, Z1e, Z1f, Z1g, Z1h, Z1i, Z1j, Z1k] : List Int) x17_1) (shl .u32 ((rd l0 (ji13)) % 4294967296) (ji16)) else Z17) (if x17_1 = 3 then Go.bits .or .u32 (rd ([Z15, Z16, Z17, Z18, Z19, Z1a, Z1b, Z1c, Z1d, Z1e, Z1f, Z1g, Z1h, Z1i, Z1j, Z1k] : List Int) x17_1) (shl .u32 ((rd l0 (ji13)) % 4294967296) (ji16)) else Z18) (if x17_1 = 4 then Go.bits .or .u32 (rd ([Z15, Z16, Z17, Z18, Z19, Z1a, Z1b, Z1c, Z1d, Z1e, Z1f, Z1g, Z1h, Z1i, Z1j, Z1k] : List Int) x17_1) (shl .u32 ((rd l0 (ji13)) % 4294967296) (ji16)) else Z19) (if x17_1 = 5 then Go.bits .or .u32 (rd ([Z15, Z16, Z17, Z18, Z19, Z1a, Z1b, Z1c, Z1d, Z1e, Z1f, Z1g, Z1h, Z1i, Z1j, Z1k] : List Int) x17_1) (shl .u32 ((rd l0 (ji13)) % 4294967296) (ji16)) else Z1a) (if x17_1 = 6 then Go.bits .or .u32 (rd ([Z15, Z16, Z17, Z18, Z19, Z1a, Z1b, Z1c, Z1d, Z1e, Z1f, Z1g, Z1h, Z1i, Z1j, Z1k] : List Int) x17_1) (shl .u32 ((rd l0 (ji13)) % 4294967296) (ji16)) else Z1b) (if x17_1 = 7 then Go.bits .or .u32 (rd ([Z15, Z16, Z17, Z18, Z19, Z1a, Z1b, Z1c, Z1d, Z1e, Z1f, Z1g, Z1h, Z1i, Z1j, Z1k] : List Int) x17_1) (shl .u32 ((rd l0 (ji13)) % 4294967296) (ji16)) else Z1c) (if x17_1 = 8 then Go.bits .or .u32 (rd ([Z15, Z16, Z17, Z18, Z19, Z1a, Z1b, Z1c, Z1d, Z1e, Z1f, Z1g, Z1h, Z1i, Z1j, Z1k] : List Int) x17_1) (shl .u32 ((rd l0 (ji13)) % 4294967296) (ji16)) else Z1d) (if x17_1 = 9 then Go.bits .or .u32 (rd ([Z15, Z16, Z17, Z18, Z19, Z1a, Z1b, Z1c, Z1d, Z1e, Z1f, Z1g, Z1h, Z1i, Z1j, Z1k] : List Int) x17_1) (shl .u32 ((rd l0 (ji13)) % 4294967296) (ji16)) else Z1e) (if x17_1 = 10 then Go.bits .or .u32 (rd ([Z15, Z16, Z17, Z18, Z19, Z1a, Z1b, Z1c, Z1d, Z1e, Z1f, Z1g, Z1h, Z1i, Z1j, Z1k] : List Int) x17_1) (shl .u32 ((rd l0 (ji13)) % 4294967296) (ji16)) else Z1f) (if x17_1 = 11 then Go.bits .or .u32 (rd ([Z15, Z16, Z17, Z18, Z19, Z1a, Z1b, Z1c, Z1d, Z1e, Z1f, Z1g, Z1h, Z1i, Z1j, Z1k] : List Int) x17_1) (shl .u32 ((rd l0 (ji13)) % 4294967296) (ji16)) else Z1g) (if x17_1 = 12 then Go.bits .or .u32 (rd ([Z15, Z16, Z17, Z18, Z19, Z1a, Z1b, Z1c, Z1d, Z1e, Z1f, Z1g, Z1h, Z1i, Z1j, Z1k] : List Int) x17_1) (shl .u32 ((rd l0 (ji13)) % 4294967296) (ji16)) else Z1h) (if x17_1 = 13 then Go.bits .or .u32 (rd ([Z15, Z16, Z17, Z18, Z19, Z1a, Z1b, Z1c, Z1d, Z1e, Z1f, Z1g, Z1h, Z1i, Z1j, Z1k] : List Int) x17_1) (shl .u32 ((rd l0 (ji13)) % 4294967296) (ji16)) else Z1i) (if x17_1 = 14 then Go.bits .or .u32 (rd ([Z15, Z16, Z17, Z18, Z19, Z1a, Z1b, Z1c, Z1d, Z1e, Z1f, Z1g, Z1h, Z1i, Z1j, Z1k] : List Int) x17_1) (shl .u32 ((rd l0 (ji13)) % 4294967296) (ji16)) else Z1j) (if x17_1 = 15 then Go.bits .or .u32 (rd ([Z15, Z16, Z17, Z18, Z19, Z1a, Z1b, Z1c, Z1d, Z1e, Z1f, Z1g, Z1h, Z1i, Z1j, Z1k] : List Int) x17_1) (shl .u32 ((rd l0 (ji13)) % 4294967296) (ji16)) else Z1k)) else (none)) = some (r1, r2, r3, r4, r5, r6, r7, r8, r9, r10) := by first | (rw [hji16] at H; exact H) | (simp only [hji16] at H ⊢; exact H)
             have hji16w : (IntKind.i64.wrap (8 * x20_2)) = ji16 := (i64_w _).trans hji16
             by_cases c17 : 0 ≤ (ji16)
             ·rw [if_pos c17] at H
              have c17b0 := eq_true c17
              have c17b1 : decide (0 ≤ (ji16)) = true := decide_eq_true c17
              clear c17
              obtain ⟨ji18, hji18⟩ : ∃ j_ : Int, (shl .u32 ((rd l0 (ji13)) % 4294967296) (ji16)) = j_ := ⟨_, rfl⟩
              replace H : (data_Of.l1 k2 l0 x17_1 x17_1 (wrap64 (x20_2 + 1)) (if x17_1 = 0 then Go.bits .or .u32 (rd ([Z15, Z16, Z17, Z18, Z19, Z1a, Z1b, Z1c, Z1d, Z1e, Z1f, Z1g, Z1h, Z1i, Z1j, Z1k] : List Int) x17_1) (ji18) else Z15) (if x17_1 = 1 then Go.bits .or .u32 (rd ([Z15, Z16, Z17, Z18, Z19, Z1a, Z1b, Z1c, Z1d, Z1e, Z1f, Z1g, Z1h, Z1i, Z1j, Z1k] : List Int) x17_1) (ji18) else Z16) (if x17_1 = 2 then Go.bits .or .u32 (rd ([Z15, Z16, Z17, Z18, Z19, Z1a, Z1b, Z1c, Z1d, Z1e, Z1f, Z1g, Z1h, Z1i, Z1j, Z1k] : List Int) x17_1) (ji18) else Z17) (if x17_1 = 3 then Go.bits .or .u32 (rd ([Z15, Z16, Z17, Z18, Z19, Z1a, Z1b, Z1c, Z1d, Z1e, Z1f, Z1g, Z1h, Z1i, Z1j, Z1k] : List Int) x17_1) (ji18) else Z18) (if x17_1 = 4 then Go.bits .or .u32 (rd ([Z15, Z16, Z17, Z18, Z19, Z1a, Z1b, Z1c, Z1d, Z1e, Z1f, Z1g, Z1h, Z1i, Z1j, Z1k] : List Int) x17_1) (ji18) else Z19) (if x17_1 = 5 then Go.bits .or .u32 (rd ([Z15, Z16, Z17, Z18, Z19, Z1a, Z1b, Z1c, Z1d, Z1e, Z1f, Z1g, Z1h, Z1i, Z1j, Z1k] : List Int) x17_1) (ji18) else Z1a) (if x17_1 = 6 then Go.bits .or .u32 (rd ([Z15, Z16, Z17, Z18, Z19, Z1a, Z1b, Z1c, Z1d, Z1e, Z1f, Z1g, Z1h, Z1i, Z1j, Z1k] : List Int) x17_1) (ji18) else Z1b) (if x17_1 = 7 then Go.bits .or .u32 (rd ([Z15, Z16, Z17, Z18, Z19, Z1a, Z1b, Z1c, Z1d, Z1e, Z1f, Z1g, Z1h, Z1i, Z1j, Z1k] : List Int) x17_1) (ji18) else Z1c) (if x17_1 = 8 then Go.bits .or .u32 (rd ([Z15, Z16, Z17, Z18, Z19, Z1a, Z1b, Z1c, Z1d, Z1e, Z1f, Z1g, Z1h, Z1i, Z1j, Z1k] : List Int) x17_1) (ji18) else Z1d) (if x17_1 = 9 then Go.bits .or .u32 (rd ([Z15, Z16, Z17, Z18, Z19, Z1a, Z1b, Z1c, Z1d, Z1e, Z1f, Z1g, Z1h, Z1i, Z1j, Z1k] : List Int) x17_1) (ji18) else Z1e) (if x17_1 = 10 then Go.bits .or .u32 (rd ([Z15, Z16, Z17, Z18, Z19, Z1a, Z1b, Z1c, Z1d, Z1e, Z1f, Z1g, Z1h, Z1i, Z1j, Z1k] : List Int) x17_1) (ji18) else Z1f) (if x17_1 = 11 then Go.bits .or .u32 (rd ([Z15, Z16, Z17, Z18, Z19, Z1a, Z1b, Z1c, Z1d, Z1e, Z1f, Z1g, Z1h, Z1i, Z1j, Z1k] : List Int) x17_1) (ji18) else Z1g) (if x17_1 = 12 then Go.bits .or .u32 (rd ([Z15, Z16, Z17, Z18, Z19, Z1a, Z1b, Z1c, Z1d, Z1e, Z1f, Z1g, Z1h, Z1i, Z1j, Z1k] : List Int) x17_1) (ji18) else Z1h) (if x17_1 = 13 then Go.bits .or .u32 (rd ([Z15, Z16, Z17, Z18, Z19, Z1a, Z1b, Z1c, Z1d, Z1e, Z1f, Z1g, Z1h, Z1i, Z1j, Z1k] : List Int) x17_1) (ji18) else Z1i) (if x17_1 = 14 then Go.bits .or .u32 (rd ([Z15, Z16, Z17, Z18, Z19, Z1a, Z1b, Z1c, Z1d, Z1e, Z1f, Z1g, Z1h, Z1i, Z1j, Z1k] : List Int) x17_1) (ji18) else Z1j) (if x17_1 = 15 then Go.bits .or .u32 (rd ([Z15, Z16, Z17, Z18, Z19, Z1a, Z1b, Z1c, Z1d, Z1e, Z1f, Z1g, Z1h, Z1i, Z1j, Z1k] : List Int) x17_1) (ji18) else Z1k)) = some (r1, r2, r3, r4, r5, r6, r7, r8, r9, r10) := by first | (rw [hji18] at H; exact H) | (simp only [hji18] at H ⊢; exact H)
              have hji18_ : (IntKind.u32.wrap (((rd l0 (ji13)) % 4294967296) * 2 ^ min (ji16).toNat 32)) = ji18 := hji18
              have hji18z : (ji16) ≤ 32 → (IntKind.u32.wrap (((rd l0 (ji13)) % 4294967296) * 2 ^ (ji16).toNat)) = ji18 := shl_small hji18
              have hji18m : (((rd l0 (ji13)) % 4294967296) * 2 ^ min (ji16).toNat 32) % 4294967296 = ji18 := (IntKind.wrap_u32 _).symm.trans hji18_
              have hji18mz : (ji16) ≤ 32 → (((rd l0 (ji13)) % 4294967296) * 2 ^ (ji16).toNat) % 4294967296 = ji18 := fun h_ => (IntKind.wrap_u32 _).symm.trans (hji18z h_)
              have H' := Aside0.mk H
              clear H
              try go_wp2
              have n0_ := Aside0.mk (blk_drew BK148.out)
              have n1_ := Aside0.mk (blk_drew BK149.out)
              have n2_ := Aside0.mk (below_drew1 HB.out)
              clear BK148
              clear BK149
              clear HB
              have BK148 := n0_
              have BK149 := n1_
              have HB := n2_
              clear n0_ n1_ n2_
              have p150 : 0 ≤ ((ji13) : Int) := of_decide_eq_true (by first | (with_reducible assumption) | assumption)
              have q150 : (ji13) < (l0.length : Int) := of_decide_eq_true (by first | (with_reducible assumption) | assumption)
              obtain ⟨ad150, e150, hx150_0⟩ := Kd.at_int HR0.out (ji13) p150 q150
              have hw150_0 := hx150_0
              cases e150
              replace hx150_0 := (HB.out.cell (World.block_lt_of_cell? w _ hx150_0)).trans hx150_0
              replace p150 := eq_true p150
              replace q150 := eq_true q150
              have hrd_ := Mine.blk_at BK149.out 0 .u32 ([Z15, Z16, Z17, Z18, Z19, Z1a, Z1b, Z1c, Z1d, Z1e, Z1f, Z1g, Z1h, Z1i, Z1j, Z1k] : List Int) rfl (x17_1) cA cB
              rw [Nat.zero_add] at hrd_
              refine start_ (n := 17) (S := fun w' => w'.cell? ⟨gb149, (x17_1).toNat, none⟩ = some (.int .u32 (rd ([Z15, Z16, Z17, Z18, Z19, Z1a, Z1b, Z1c, Z1d, Z1e, Z1f, Z1g, Z1h, Z1i, Z1j, Z1k] : List Int) x17_1)) ∧ w'.cell? (ad150.add ((ji13)).toNat) = some (.int .u8 (rd l0 (ji13)))) (ds := [16]) #[false, false, false, false, false, false, false, false, false, false, false, false, false, false, false, false, false] (by kernel_rfl) rfl rfl ⟨hrd_, ((HB.out.cell (World.block_lt_of_cell? w _ hw150_0)).trans hw150_0)⟩ (fun hHeld => ?_); refine with_tabW data_Of.tab12 data_Of.bits12 (fun HT_ HW_ => ?_)
              generalize wr.drew = w19 at BK148 BK149 HB hx150_0 hHeld ⊢
              refine Mine.pS 0 (some 23) ?_ (hc := any_of HT_.out (by kernel_rfl)); refine Mine.pS 1 (some 24) ?_ (hc := any_of HT_.out (by kernel_rfl)); refine Mine.pS 3 (some 26) ?_ (hc := any_of HT_.out (by kernel_rfl)); refine Mine.pS 4 (some 27) ?_ (hc := any_of HT_.out (by kernel_rfl)); refine Mine.pS 5 (some 28) ?_ (hc := any_of HT_.out (by kernel_rfl)); refine Mine.pS 6 (some 29) ?_ (hc := any_of HT_.out (by kernel_rfl)); refine Mine.pS 7 (some 30) ?_ (hc := any_of HT_.out (by kernel_rfl)); refine Mine.pS 8 (some 31) ?_ (hc := any_of HT_.out (by kernel_rfl)); refine Mine.pS 11 (some 34) ?_ (hc := any_of HT_.out (by kernel_rfl)); refine Mine.pS 12 (some 35) ?_ (hc := any_of HT_.out (by kernel_rfl)); refine Mine.tS 2 (some 25) hHeld ?_ (hc := take_ofW HT_.out HW_.out (by kernel_rfl)); refine Mine.tS 9 (some 32) hHeld ?_ (hc := take_ofW HT_.out HW_.out (by kernel_rfl)); refine Mine.pS 10 (some 33) ?_ (hc := any_of HT_.out (by kernel_rfl)); refine Mine.pS 13 (some 36) ?_ (hc := any_of HT_.out (by kernel_rfl)); refine Mine.pS 14 (some 37) ?_ (hc := any_of HT_.out (by kernel_rfl)); refine Mine.pS 15 (some 38) ?_ (hc := any_of HT_.out (by kernel_rfl))
              refine last_ (i := 16) (N := none) #[true, true, true, true, true, true, true, true, true, true, true, true, true, true, true, true, true] rfl rfl (one_of HT_.out (by kernel_rfl)) (by decide) (fun K hK => ?_)
              have hs20 := Mine.blk_at BK149.out 0 .u32 ([Z15, Z16, Z17, Z18, Z19, Z1a, Z1b, Z1c, Z1d, Z1e, Z1f, Z1g, Z1h, Z1i, Z1j, Z1k] : List Int) rfl (x17_1) cA cB
              rw [Nat.zero_add] at hs20
              have hfs20 := blk_frozen BK149.out ((x17_1).toNat)
              have hns20_0 := NB148_149.out
              have hms20_0 := NB149_148.out
              refine skip_ (w1 := ?_) (by rfl) rfl ?_ ?_
              rotate_left
              ·go_simp
               rfl
              refine hK.out _ _ ?_
              clear hK K
              refine done_ (done_of HT_.out (by kernel_rfl)) ?_
              try go_wp2
              go_roundg k2
              case measure => have := HK1.out; have := HK2.out; omega
              case rel => exact ⟨(wrap64 (x20_2 + 1)), (if x17_1 = 0 then Go.bits .or .u32 (rd ([Z15, Z16, Z17, Z18, Z19, Z1a, Z1b, Z1c, Z1d, Z1e, Z1f, Z1g, Z1h, Z1i, Z1j, Z1k] : List Int) x17_1) (ji18) else Z15), (if x17_1 = 1 then Go.bits .or .u32 (rd ([Z15, Z16, Z17, Z18, Z19, Z1a, Z1b, Z1c, Z1d, Z1e, Z1f, Z1g, Z1h, Z1i, Z1j, Z1k] : List Int) x17_1) (ji18) else Z16), (if x17_1 = 2 then Go.bits .or .u32 (rd ([Z15, Z16, Z17, Z18, Z19, Z1a, Z1b, Z1c, Z1d, Z1e, Z1f, Z1g, Z1h, Z1i, Z1j, Z1k] : List Int) x17_1) (ji18) else Z17), (if x17_1 = 3 then Go.bits .or .u32 (rd ([Z15, Z16, Z17, Z18, Z19, Z1a, Z1b, Z1c, Z1d, Z1e, Z1f, Z1g, Z1h, Z1i, Z1j, Z1k] : List Int) x17_1) (ji18) else Z18), (if x17_1 = 4 then Go.bits .or .u32 (rd ([Z15, Z16, Z17, Z18, Z19, Z1a, Z1b, Z1c, Z1d, Z1e, Z1f, Z1g, Z1h, Z1i, Z1j, Z1k] : List Int) x17_1) (ji18) else Z19), (if x17_1 = 5 then Go.bits .or .u32 (rd ([Z15, Z16, Z17, Z18, Z19, Z1a, Z1b, Z1c, Z1d, Z1e, Z1f, Z1g, Z1h, Z1i, Z1j, Z1k] : List Int) x17_1) (ji18) else Z1a), (if x17_1 = 6 then Go.bits .or .u32 (rd ([Z15, Z16, Z17, Z18, Z19, Z1a, Z1b, Z1c, Z1d, Z1e, Z1f, Z1g, Z1h, Z1i, Z1j, Z1k] : List Int) x17_1) (ji18) else Z1b), (if x17_1 = 7 then Go.bits .or .u32 (rd ([Z15, Z16, Z17, Z18, Z19, Z1a, Z1b, Z1c, Z1d, Z1e, Z1f, Z1g, Z1h, Z1i, Z1j, Z1k] : List Int) x17_1) (ji18) else Z1c), (if x17_1 = 8 then Go.bits .or .u32 (rd ([Z15, Z16, Z17, Z18, Z19, Z1a, Z1b, Z1c, Z1d, Z1e, Z1f, Z1g, Z1h, Z1i, Z1j, Z1k] : List Int) x17_1) (ji18) else Z1d), (if x17_1 = 9 then Go.bits .or .u32 (rd ([Z15, Z16, Z17, Z18, Z19, Z1a, Z1b, Z1c, Z1d, Z1e, Z1f, Z1g, Z1h, Z1i, Z1j, Z1k] : List Int) x17_1) (ji18) else Z1e), (if x17_1 = 10 then Go.bits .or .u32 (rd ([Z15, Z16, Z17, Z18, Z19, Z1a, Z1b, Z1c, Z1d, Z1e, Z1f, Z1g, Z1h, Z1i, Z1j, Z1k] : List Int) x17_1) (ji18) else Z1f), (if x17_1 = 11 then Go.bits .or .u32 (rd ([Z15, Z16, Z17, Z18, Z19, Z1a, Z1b, Z1c, Z1d, Z1e, Z1f, Z1g, Z1h, Z1i, Z1j, Z1k] : List Int) x17_1) (ji18) else Z1g), (if x17_1 = 12 then Go.bits .or .u32 (rd ([Z15, Z16, Z17, Z18, Z19, Z1a, Z1b, Z1c, Z1d, Z1e, Z1f, Z1g, Z1h, Z1i, Z1j, Z1k] : List Int) x17_1) (ji18) else Z1h), (if x17_1 = 13 then Go.bits .or .u32 (rd ([Z15, Z16, Z17, Z18, Z19, Z1a, Z1b, Z1c, Z1d, Z1e, Z1f, Z1g, Z1h, Z1i, Z1j, Z1k] : List Int) x17_1) (ji18) else Z1i), (if x17_1 = 14 then Go.bits .or .u32 (rd ([Z15, Z16, Z17, Z18, Z19, Z1a, Z1b, Z1c, Z1d, Z1e, Z1f, Z1g, Z1h, Z1i, Z1j, Z1k] : List Int) x17_1) (ji18) else Z1j), (if x17_1 = 15 then Go.bits .or .u32 (rd ([Z15, Z16, Z17, Z18, Z19, Z1a, Z1b, Z1c, Z1d, Z1e, Z1f, Z1g, Z1h, Z1i, Z1j, Z1k] : List Int) x17_1) (ji18) else Z1k), (by first | rfl | (simp; done) | (simp [*]; done)), H', ⟨by have := HK1.out; have := HK2.out; omega⟩, ⟨by (with_reducible repeat (first | refine blk_drewN ?_ _ | refine blk_drew ?_ | refine blk_alloc ?_ _)); refine blk_far ?_ NB148_149.out _; (with_reducible repeat (first | refine blk_drewN ?_ _ | refine blk_drew ?_ | refine blk_alloc ?_ _)); exact BK148.out⟩, ⟨by (with_reducible repeat (first | refine blk_drewN ?_ _ | refine blk_drew ?_ | refine blk_alloc ?_ _)); refine blk_put (cs := #[.int .u32 Z15, .int .u32 Z16, .int .u32 Z17, .int .u32 Z18, .int .u32 Z19, .int .u32 Z1a, .int .u32 Z1b, .int .u32 Z1c, .int .u32 Z1d, .int .u32 Z1e, .int .u32 Z1f, .int .u32 Z1g, .int .u32 Z1h, .int .u32 Z1i, .int .u32 Z1j, .int .u32 Z1k]) ?_ (x17_1).toNat _ (by rw [hji18m]; exact set_at16 x17_1 cA cB _ Z15 Z16 Z17 Z18 Z19 Z1a Z1b Z1c Z1d Z1e Z1f Z1g Z1h Z1i Z1j Z1k); (with_reducible repeat (first | refine blk_drewN ?_ _ | refine blk_drew ?_ | refine blk_alloc ?_ _)); exact BK149.out⟩, ⟨by repeat (first | (with_reducible first | exact HB.out | apply below_alloc | apply pw_below_drewN | apply below_drew1 | refine below_set ?_ GE148.out | refine below_set ?_ GE149.out) | exact HB.out)⟩⟩
             ·rw [if_neg c17] at H
              exact absurd H (by simp)
            ·rw [if_neg c15] at H
             exact absurd H (by simp)
           ·rw [if_neg c14] at H
            exact absurd H (by simp)
          ·rw [if_neg cB] at H
           exact absurd H (by simp)
         ·rw [if_neg cA] at H
          exact absurd H (by simp)
        ·rw [if_neg c11] at H
         have c11b0 : decide (x20_2 < 4) = false := decide_eq_false c11
         clear c11
         have H' := Aside0.mk H
         clear H
         go_wp2
         go_roundg k2
         case measure => have := HK1.out; have := HK2.out; omega
         case rel => exact ⟨(wrap64 (x17_1 + 1)), (Z15), (Z16), (Z17), (Z18), (Z19), (Z1a), (Z1b), (Z1c), (Z1d), (Z1e), (Z1f), (Z1g), (Z1h), (Z1i), (Z1j), (Z1k), (by first | rfl | (simp; done) | (simp [*]; done)), H', ⟨by have := HK1.out; have := HK2.out; omega⟩, ⟨by (with_reducible repeat (first | refine blk_drewN ?_ _ | refine blk_drew ?_ | refine blk_alloc ?_ _)); exact BK148.out⟩, ⟨by (with_reducible repeat (first | refine blk_drewN ?_ _ | refine blk_drew ?_ | refine blk_alloc ?_ _)); exact BK149.out⟩, ⟨by repeat (first | (with_reducible first | exact HB.out | apply below_alloc | apply pw_below_drewN | apply below_drew1 | refine below_set ?_ GE148.out | refine below_set ?_ GE149.out) | exact HB.out)⟩⟩
     ·rw [if_neg c10] at H
      have c10b0 : decide (x17_1 < 16) = false := decide_eq_false c10
      clear c10
      replace H := Option.bind_eq_some_iff.mp H
      obtain ⟨t166, A1560, H⟩ := H
      replace H : (data_Of.l2 k1 0 Zp Zq Zr Zs Zt Zu Zv Zw Zx Zy Zz Z10 Z11 Z12 Z13 Z14 Zp Zq t166 0 0 0 0 0 0) = some (r1, r2, r3, r4, r5, r6, r7, r8, r9, r10) := H
      have A156 := Aside0.mk A1560
      clear A1560
      have H' := Aside0.mk H
      clear H
      try go_wp2
      have n0_ := Aside0.mk (blk_drew BK148.out)
      have n1_ := Aside0.mk (blk_drew BK149.out)
      have n2_ := Aside0.mk (below_drew1 HB.out)
      clear BK148
      clear BK149
      clear HB
      have BK148 := n0_
      have BK149 := n1_
      have HB := n2_
      clear n0_ n1_ n2_
      refine start_ (n := 12) (S := fun w' => w'.cell? ⟨gb149, 0, none⟩ = some (.int .u32 Zp) ∧ w'.cell? ⟨gb149, 1, none⟩ = some (.int .u32 Zq) ∧ w'.cell? ⟨gb149, 2, none⟩ = some (.int .u32 Zr) ∧ w'.cell? ⟨gb149, 3, none⟩ = some (.int .u32 Zs) ∧ w'.cell? ⟨gb149, 4, none⟩ = some (.int .u32 Zt) ∧ w'.cell? ⟨gb149, 5, none⟩ = some (.int .u32 Zu) ∧ w'.cell? ⟨gb149, 6, none⟩ = some (.int .u32 Zv) ∧ w'.cell? ⟨gb149, 7, none⟩ = some (.int .u32 Zw) ∧ w'.cell? ⟨gb149, 8, none⟩ = some (.int .u32 Zx) ∧ w'.cell? ⟨gb149, 9, none⟩ = some (.int .u32 Zy) ∧ w'.cell? ⟨gb149, 10, none⟩ = some (.int .u32 Zz) ∧ w'.cell? ⟨gb149, 11, none⟩ = some (.int .u32 Z10) ∧ w'.cell? ⟨gb149, 12, none⟩ = some (.int .u32 Z11) ∧ w'.cell? ⟨gb149, 13, none⟩ = some (.int .u32 Z12) ∧ w'.cell? ⟨gb149, 14, none⟩ = some (.int .u32 Z13) ∧ w'.cell? ⟨gb149, 15, none⟩ = some (.int .u32 Z14)) (ds := []) #[false, false, false, false, false, false, false, false, false, false, false, false] (by kernel_rfl) rfl rfl ⟨(blk_cell BK149.out 0).trans rfl, (blk_cell BK149.out 1).trans rfl, (blk_cell BK149.out 2).trans rfl, (blk_cell BK149.out 3).trans rfl, (blk_cell BK149.out 4).trans rfl, (blk_cell BK149.out 5).trans rfl, (blk_cell BK149.out 6).trans rfl, (blk_cell BK149.out 7).trans rfl, (blk_cell BK149.out 8).trans rfl, (blk_cell BK149.out 9).trans rfl, (blk_cell BK149.out 10).trans rfl, (blk_cell BK149.out 11).trans rfl, (blk_cell BK149.out 12).trans rfl, (blk_cell BK149.out 13).trans rfl, (blk_cell BK149.out 14).trans rfl, (blk_cell BK149.out 15).trans rfl⟩ (fun hHeld => ?_); refine with_tabW data_Of.tab15 data_Of.bits15 (fun HT_ HW_ => ?_)
      generalize wr.drew = w157 at BK148 BK149 HB hHeld ⊢
      refine Mine.pS 0 (some 41) ?_ (hc := any_of HT_.out (by kernel_rfl)); refine Mine.pS 2 (some 43) ?_ (hc := any_of HT_.out (by kernel_rfl)); refine Mine.pS 4 (some 45) ?_ (hc := any_of HT_.out (by kernel_rfl)); refine Mine.pS 6 (some 47) ?_ (hc := any_of HT_.out (by kernel_rfl)); refine Mine.tS 1 (some 42) hHeld ?_ (hc := take_ofW HT_.out HW_.out (by kernel_rfl)); refine Mine.tS 3 (some 44) hHeld ?_ (hc := take_ofW HT_.out HW_.out (by kernel_rfl)); refine Mine.tS 5 (some 46) hHeld ?_ (hc := take_ofW HT_.out HW_.out (by kernel_rfl)); refine Mine.tS 7 (some 48) hHeld ?_ (hc := take_ofW HT_.out HW_.out (by kernel_rfl))
      refine join_ (σ := Nat) 1 #[true, true, true, true, true, true, true, true, true, true, true, false] (fun s_ => [(49, .int .u64 t166), (7, .pointer (some ⟨s_, 0, none⟩)), (50, .agg #[.int .u32 Zp, .int .u32 Zq, .int .u64 t166, .int .u64 0, .int .u64 0, .int .u64 0, .int .u64 0, .int .u64 0, .int .u64 0])]) (fun s_ w' => (w'.cell? ⟨gb149, 0, none⟩ = some (.int .u32 Zp) ∧ w'.cell? ⟨gb149, 1, none⟩ = some (.int .u32 Zq) ∧ w'.cell? ⟨gb149, 2, none⟩ = some (.int .u32 Zr) ∧ w'.cell? ⟨gb149, 3, none⟩ = some (.int .u32 Zs) ∧ w'.cell? ⟨gb149, 4, none⟩ = some (.int .u32 Zt) ∧ w'.cell? ⟨gb149, 5, none⟩ = some (.int .u32 Zu) ∧ w'.cell? ⟨gb149, 6, none⟩ = some (.int .u32 Zv) ∧ w'.cell? ⟨gb149, 7, none⟩ = some (.int .u32 Zw) ∧ w'.cell? ⟨gb149, 8, none⟩ = some (.int .u32 Zx) ∧ w'.cell? ⟨gb149, 9, none⟩ = some (.int .u32 Zy) ∧ w'.cell? ⟨gb149, 10, none⟩ = some (.int .u32 Zz) ∧ w'.cell? ⟨gb149, 11, none⟩ = some (.int .u32 Z10) ∧ w'.cell? ⟨gb149, 12, none⟩ = some (.int .u32 Z11) ∧ w'.cell? ⟨gb149, 13, none⟩ = some (.int .u32 Z12) ∧ w'.cell? ⟨gb149, 14, none⟩ = some (.int .u32 Z13) ∧ w'.cell? ⟨gb149, 15, none⟩ = some (.int .u32 Z14)) ∧ (w'.heap[gb148]? = some (.cells #[.int .u32 0, .int .u32 0, .int .u64 0, .int .u64 0, .int .u64 0, .int .u64 0, .int .u64 0, .int .u64 0, .int .u64 0] 26 (0, 0))) ∧ (w'.heap[gb149]? = some (.cells #[.int .u32 Zp, .int .u32 Zq, .int .u32 Zr, .int .u32 Zs, .int .u32 Zt, .int .u32 Zu, .int .u32 Zv, .int .u32 Zw, .int .u32 Zx, .int .u32 Zy, .int .u32 Zz, .int .u32 Z10, .int .u32 Z11, .int .u32 Z12, .int .u32 Z13, .int .u32 Z14] 68 (0, 0))) ∧ (w'.heap[s_]? = some (.cells #[.int .u32 0, .int .u32 0, .int .u64 0, .int .u64 0, .int .u64 0, .int .u64 0, .int .u64 0, .int .u64 0, .int .u64 0] 26 (0, 0))) ∧ (w.heap.size ≤ s_) ∧ (w.heap.size ≤ s_) ∧ (gb148 ≠ s_) ∧ (s_ ≠ gb148) ∧ (gb149 ≠ s_) ∧ (s_ ≠ gb149) ∧ (Below w.heap.size w w')) ?_ ?_
      rotate_left
      ·intro hCont
       refine two_ (i := 8) (j := 10) (Ni := some 49) (Nj := some 7) #[true, true, true, true, true, true, true, true, true, false, false, false] #[true, true, true, true, true, true, true, true, false, false, true, false] rfl rfl rfl rfl (two_of HT_.out (by kernel_rfl)) (by decide) (by decide) (fun K hK => ?_) (fun K hK => ?_)
       ·skip
        refine goes_ Try.func37 (by kernel_rfl) rfl #[.int .u32 Zr, .int .u32 Zs] (by rfl) rfl rfl (by (try simp only [List.map_toArray, List.map_cons, List.map_nil]); first | done | rfl | (simp only [List.length_drop, List.length_take]; rfl)) ?_
        with_reducible refine (data_joined.calls Zr Zs t166 _ A156.out).mono ?_
        rintro e w' ⟨rfl, ⟨nd, rfl⟩⟩
        refine ⟨_, rfl, ?_⟩
        refine hK.out _ _ ⟨(blk_cell BK149.out 0).trans rfl, (blk_cell BK149.out 1).trans rfl, (blk_cell BK149.out 2).trans rfl, (blk_cell BK149.out 3).trans rfl, (blk_cell BK149.out 4).trans rfl, (blk_cell BK149.out 5).trans rfl, (blk_cell BK149.out 6).trans rfl, (blk_cell BK149.out 7).trans rfl, (blk_cell BK149.out 8).trans rfl, (blk_cell BK149.out 9).trans rfl, (blk_cell BK149.out 10).trans rfl, (blk_cell BK149.out 11).trans rfl, (blk_cell BK149.out 12).trans rfl, (blk_cell BK149.out 13).trans rfl, (blk_cell BK149.out 14).trans rfl, (blk_cell BK149.out 15).trans rfl⟩ (fun hHeld => ?_)
        clear hK K
        refine norm_ (a' := ?_) ?_ ?_
        rotate_left
        ·show Act.put _ (some 49) _ = _
         simp only [Act.put, List.setIfInBounds_toArray, List.set_cons_zero, List.set_cons_succ, i64_w, i32_w]
         rfl
        refine Mine.pS 9 (some 50) ?_ (hc := any_of HT_.out (by kernel_rfl))
        refine one_ (i := 10) (N := some 7) #[true, true, true, true, true, true, true, true, true, true, true, false] rfl rfl (one_of HT_.out (by kernel_rfl)) (by decide) (fun K hK => ?_)
        refine box_step ?hg (N := 7) ?hd (cs := #[.int .u32 0, .int .u32 0, .int .u64 0, .int .u64 0, .int .u64 0, .int .u64 0, .int .u64 0, .int .u64 0, .int .u64 0]) (t := 26) ?hr ?_; (case hd => rfl); (case hg => rfl); (case hr => first | (go_simp; done) | (go_simp; rfl))
        intro gb167 hg w158 hbox hb
        have n0_ := Aside0.mk (blk_below (g := gb148) (o := .cells #[.int .u32 0, .int .u32 0, .int .u64 0, .int .u64 0, .int .u64 0, .int .u64 0, .int .u64 0, .int .u64 0, .int .u64 0] 26 (0, 0)) (by (with_reducible repeat (first | refine blk_drewN ?_ _ | refine blk_drew ?_ | refine blk_alloc ?_ _)); exact BK148.out) hb)
        have n1_ := Aside0.mk (blk_below (g := gb149) (o := .cells #[.int .u32 Zp, .int .u32 Zq, .int .u32 Zr, .int .u32 Zs, .int .u32 Zt, .int .u32 Zu, .int .u32 Zv, .int .u32 Zw, .int .u32 Zx, .int .u32 Zy, .int .u32 Zz, .int .u32 Z10, .int .u32 Z11, .int .u32 Z12, .int .u32 Z13, .int .u32 Z14] 68 (0, 0)) (by (with_reducible repeat (first | refine blk_drewN ?_ _ | refine blk_drew ?_ | refine blk_alloc ?_ _)); exact BK149.out) hb)
        have n2_ := Aside0.mk (below_step (by repeat (first | (with_reducible first | exact HB.out | apply below_alloc | apply pw_below_drewN | apply below_drew1 | refine below_set ?_ GE148.out | refine below_set ?_ GE149.out) | exact HB.out)) hb)
        have n3_ := Aside0.mk (hbox)
        have n4_ := Aside0.mk ((by rw [hg]; exact (below_size (by repeat (first | (with_reducible first | exact HB.out | apply below_alloc | apply pw_below_drewN | apply below_drew1 | refine below_set ?_ GE148.out | refine below_set ?_ GE149.out) | exact HB.out))) : w.heap.size ≤ gb167))
        have n5_ := Aside0.mk ((by rw [hg]; exact (below_size (by repeat (first | (with_reducible first | exact HB.out | apply below_alloc | apply pw_below_drewN | apply below_drew1 | refine below_set ?_ GE148.out | refine below_set ?_ GE149.out) | exact HB.out))) : w.heap.size ≤ gb167))
        have n6_ := Aside0.mk ((by rw [hg]; exact Nat.ne_of_lt (blk_lt (g := gb148) (o := .cells #[.int .u32 0, .int .u32 0, .int .u64 0, .int .u64 0, .int .u64 0, .int .u64 0, .int .u64 0, .int .u64 0, .int .u64 0] 26 (0, 0)) (by (with_reducible repeat (first | refine blk_drewN ?_ _ | refine blk_drew ?_ | refine blk_alloc ?_ _)); exact BK148.out)) : gb148 ≠ gb167))
        have n7_ := Aside0.mk ((by rw [hg]; exact Nat.ne_of_gt (blk_lt (g := gb148) (o := .cells #[.int .u32 0, .int .u32 0, .int .u64 0, .int .u64 0, .int .u64 0, .int .u64 0, .int .u64 0, .int .u64 0, .int .u64 0] 26 (0, 0)) (by (with_reducible repeat (first | refine blk_drewN ?_ _ | refine blk_drew ?_ | refine blk_alloc ?_ _)); exact BK148.out)) : gb167 ≠ gb148))
        have n8_ := Aside0.mk ((by rw [hg]; exact Nat.ne_of_lt (blk_lt (g := gb149) (o := .cells #[.int .u32 Zp, .int .u32 Zq, .int .u32 Zr, .int .u32 Zs, .int .u32 Zt, .int .u32 Zu, .int .u32 Zv, .int .u32 Zw, .int .u32 Zx, .int .u32 Zy, .int .u32 Zz, .int .u32 Z10, .int .u32 Z11, .int .u32 Z12, .int .u32 Z13, .int .u32 Z14] 68 (0, 0)) (by (with_reducible repeat (first | refine blk_drewN ?_ _ | refine blk_drew ?_ | refine blk_alloc ?_ _)); exact BK149.out)) : gb149 ≠ gb167))
        have n9_ := Aside0.mk ((by rw [hg]; exact Nat.ne_of_gt (blk_lt (g := gb149) (o := .cells #[.int .u32 Zp, .int .u32 Zq, .int .u32 Zr, .int .u32 Zs, .int .u32 Zt, .int .u32 Zu, .int .u32 Zv, .int .u32 Zw, .int .u32 Zx, .int .u32 Zy, .int .u32 Zz, .int .u32 Z10, .int .u32 Z11, .int .u32 Z12, .int .u32 Z13, .int .u32 Z14] 68 (0, 0)) (by (with_reducible repeat (first | refine blk_drewN ?_ _ | refine blk_drew ?_ | refine blk_alloc ?_ _)); exact BK149.out)) : gb167 ≠ gb149))
        clear BK148
        clear BK149
        clear HB
        have BK148 := n0_
        have BK149 := n1_
        have HB := n2_
        have BK167 := n3_
        have GW167 := n4_
        have GE167 := n5_
        have NB148_167 := n6_
        have NB167_148 := n7_
        have NB149_167 := n8_
        have NB167_149 := n9_
        clear n0_ n1_ n2_ n3_ n4_ n5_ n6_ n7_ n8_ n9_
        clear hb hbox hg
        refine hK.out _ _ ⟨(blk_cell BK149.out 0).trans rfl, (blk_cell BK149.out 1).trans rfl, (blk_cell BK149.out 2).trans rfl, (blk_cell BK149.out 3).trans rfl, (blk_cell BK149.out 4).trans rfl, (blk_cell BK149.out 5).trans rfl, (blk_cell BK149.out 6).trans rfl, (blk_cell BK149.out 7).trans rfl, (blk_cell BK149.out 8).trans rfl, (blk_cell BK149.out 9).trans rfl, (blk_cell BK149.out 10).trans rfl, (blk_cell BK149.out 11).trans rfl, (blk_cell BK149.out 12).trans rfl, (blk_cell BK149.out 13).trans rfl, (blk_cell BK149.out 14).trans rfl, (blk_cell BK149.out 15).trans rfl⟩ (fun hHeld => ?_)
        clear hK K
        refine norm_ (a' := ?_) ?_ ?_
        rotate_left
        ·show Act.put _ (some 7) _ = _
         simp only [Act.put, List.setIfInBounds_toArray, List.set_cons_zero, List.set_cons_succ, i64_w, i32_w]
         rfl
        exact norm_ (by simp only [putAll, Act.put, List.setIfInBounds_toArray, List.set_cons_zero, List.set_cons_succ] <;> (try simp only [IntKind.wrap_u32])) (hCont (gb167) _ ⟨hHeld, (by (with_reducible repeat (first | refine blk_drewN ?_ _ | refine blk_drew ?_ | refine blk_alloc ?_ _)); exact BK148.out), (by (with_reducible repeat (first | refine blk_drewN ?_ _ | refine blk_drew ?_ | refine blk_alloc ?_ _)); exact BK149.out), (by (with_reducible repeat (first | refine blk_drewN ?_ _ | refine blk_drew ?_ | refine blk_alloc ?_ _)); exact BK167.out), GW167.out, GE167.out, NB148_167.out, NB167_148.out, NB149_167.out, NB167_149.out, (by repeat (first | (with_reducible first | exact HB.out | apply below_alloc | apply pw_below_drewN | apply below_drew1 | refine below_set ?_ GE148.out | refine below_set ?_ GE149.out | refine below_set ?_ GE167.out) | exact HB.out))⟩)
       ·skip
        refine box_step ?hg (N := 7) ?hd (cs := #[.int .u32 0, .int .u32 0, .int .u64 0, .int .u64 0, .int .u64 0, .int .u64 0, .int .u64 0, .int .u64 0, .int .u64 0]) (t := 26) ?hr ?_; (case hd => rfl); (case hg => rfl); (case hr => first | (go_simp; done) | (go_simp; rfl))
        intro gb167 hg w158 hbox hb
        have n0_ := Aside0.mk (blk_below (g := gb148) (o := .cells #[.int .u32 0, .int .u32 0, .int .u64 0, .int .u64 0, .int .u64 0, .int .u64 0, .int .u64 0, .int .u64 0, .int .u64 0] 26 (0, 0)) (by (with_reducible repeat (first | refine blk_drewN ?_ _ | refine blk_drew ?_ | refine blk_alloc ?_ _)); exact BK148.out) hb)
        have n1_ := Aside0.mk (blk_below (g := gb149) (o := .cells #[.int .u32 Zp, .int .u32 Zq, .int .u32 Zr, .int .u32 Zs, .int .u32 Zt, .int .u32 Zu, .int .u32 Zv, .int .u32 Zw, .int .u32 Zx, .int .u32 Zy, .int .u32 Zz, .int .u32 Z10, .int .u32 Z11, .int .u32 Z12, .int .u32 Z13, .int .u32 Z14] 68 (0, 0)) (by (with_reducible repeat (first | refine blk_drewN ?_ _ | refine blk_drew ?_ | refine blk_alloc ?_ _)); exact BK149.out) hb)
        have n2_ := Aside0.mk (below_step (by repeat (first | (with_reducible first | exact HB.out | apply below_alloc | apply pw_below_drewN | apply below_drew1 | refine below_set ?_ GE148.out | refine below_set ?_ GE149.out) | exact HB.out)) hb)
        have n3_ := Aside0.mk (hbox)
        have n4_ := Aside0.mk ((by rw [hg]; exact (below_size (by repeat (first | (with_reducible first | exact HB.out | apply below_alloc | apply pw_below_drewN | apply below_drew1 | refine below_set ?_ GE148.out | refine below_set ?_ GE149.out) | exact HB.out))) : w.heap.size ≤ gb167))
        have n5_ := Aside0.mk ((by rw [hg]; exact (below_size (by repeat (first | (with_reducible first | exact HB.out | apply below_alloc | apply pw_below_drewN | apply below_drew1 | refine below_set ?_ GE148.out | refine below_set ?_ GE149.out) | exact HB.out))) : w.heap.size ≤ gb167))
        have n6_ := Aside0.mk ((by rw [hg]; exact Nat.ne_of_lt (blk_lt (g := gb148) (o := .cells #[.int .u32 0, .int .u32 0, .int .u64 0, .int .u64 0, .int .u64 0, .int .u64 0, .int .u64 0, .int .u64 0, .int .u64 0] 26 (0, 0)) (by (with_reducible repeat (first | refine blk_drewN ?_ _ | refine blk_drew ?_ | refine blk_alloc ?_ _)); exact BK148.out)) : gb148 ≠ gb167))
        have n7_ := Aside0.mk ((by rw [hg]; exact Nat.ne_of_gt (blk_lt (g := gb148) (o := .cells #[.int .u32 0, .int .u32 0, .int .u64 0, .int .u64 0, .int .u64 0, .int .u64 0, .int .u64 0, .int .u64 0, .int .u64 0] 26 (0, 0)) (by (with_reducible repeat (first | refine blk_drewN ?_ _ | refine blk_drew ?_ | refine blk_alloc ?_ _)); exact BK148.out)) : gb167 ≠ gb148))
        have n8_ := Aside0.mk ((by rw [hg]; exact Nat.ne_of_lt (blk_lt (g := gb149) (o := .cells #[.int .u32 Zp, .int .u32 Zq, .int .u32 Zr, .int .u32 Zs, .int .u32 Zt, .int .u32 Zu, .int .u32 Zv, .int .u32 Zw, .int .u32 Zx, .int .u32 Zy, .int .u32 Zz, .int .u32 Z10, .int .u32 Z11, .int .u32 Z12, .int .u32 Z13, .int .u32 Z14] 68 (0, 0)) (by (with_reducible repeat (first | refine blk_drewN ?_ _ | refine blk_drew ?_ | refine blk_alloc ?_ _)); exact BK149.out)) : gb149 ≠ gb167))
        have n9_ := Aside0.mk ((by rw [hg]; exact Nat.ne_of_gt (blk_lt (g := gb149) (o := .cells #[.int .u32 Zp, .int .u32 Zq, .int .u32 Zr, .int .u32 Zs, .int .u32 Zt, .int .u32 Zu, .int .u32 Zv, .int .u32 Zw, .int .u32 Zx, .int .u32 Zy, .int .u32 Zz, .int .u32 Z10, .int .u32 Z11, .int .u32 Z12, .int .u32 Z13, .int .u32 Z14] 68 (0, 0)) (by (with_reducible repeat (first | refine blk_drewN ?_ _ | refine blk_drew ?_ | refine blk_alloc ?_ _)); exact BK149.out)) : gb167 ≠ gb149))
        clear BK148
        clear BK149
        clear HB
        have BK148 := n0_
        have BK149 := n1_
        have HB := n2_
        have BK167 := n3_
        have GW167 := n4_
        have GE167 := n5_
        have NB148_167 := n6_
        have NB167_148 := n7_
        have NB149_167 := n8_
        have NB167_149 := n9_
        clear n0_ n1_ n2_ n3_ n4_ n5_ n6_ n7_ n8_ n9_
        clear hb hbox hg
        refine hK.out _ _ ⟨(blk_cell BK149.out 0).trans rfl, (blk_cell BK149.out 1).trans rfl, (blk_cell BK149.out 2).trans rfl, (blk_cell BK149.out 3).trans rfl, (blk_cell BK149.out 4).trans rfl, (blk_cell BK149.out 5).trans rfl, (blk_cell BK149.out 6).trans rfl, (blk_cell BK149.out 7).trans rfl, (blk_cell BK149.out 8).trans rfl, (blk_cell BK149.out 9).trans rfl, (blk_cell BK149.out 10).trans rfl, (blk_cell BK149.out 11).trans rfl, (blk_cell BK149.out 12).trans rfl, (blk_cell BK149.out 13).trans rfl, (blk_cell BK149.out 14).trans rfl, (blk_cell BK149.out 15).trans rfl⟩ (fun hHeld => ?_)
        clear hK K
        refine norm_ (a' := ?_) ?_ ?_
        rotate_left
        ·show Act.put _ (some 7) _ = _
         simp only [Act.put, List.setIfInBounds_toArray, List.set_cons_zero, List.set_cons_succ, i64_w, i32_w]
         rfl
        refine one_ (i := 8) (N := some 49) #[true, true, true, true, true, true, true, true, true, false, true, false] rfl rfl (one_of HT_.out (by kernel_rfl)) (by decide) (fun K hK => ?_)
        refine goes_ Try.func37 (by kernel_rfl) rfl #[.int .u32 Zr, .int .u32 Zs] (by rfl) rfl rfl (by (try simp only [List.map_toArray, List.map_cons, List.map_nil]); first | done | rfl | (simp only [List.length_drop, List.length_take]; rfl)) ?_
        with_reducible refine (data_joined.calls Zr Zs t166 _ A156.out).mono ?_
        rintro e w' ⟨rfl, ⟨nd, rfl⟩⟩
        refine ⟨_, rfl, ?_⟩
        refine hK.out _ _ ⟨(blk_cell BK149.out 0).trans rfl, (blk_cell BK149.out 1).trans rfl, (blk_cell BK149.out 2).trans rfl, (blk_cell BK149.out 3).trans rfl, (blk_cell BK149.out 4).trans rfl, (blk_cell BK149.out 5).trans rfl, (blk_cell BK149.out 6).trans rfl, (blk_cell BK149.out 7).trans rfl, (blk_cell BK149.out 8).trans rfl, (blk_cell BK149.out 9).trans rfl, (blk_cell BK149.out 10).trans rfl, (blk_cell BK149.out 11).trans rfl, (blk_cell BK149.out 12).trans rfl, (blk_cell BK149.out 13).trans rfl, (blk_cell BK149.out 14).trans rfl, (blk_cell BK149.out 15).trans rfl⟩ (fun hHeld => ?_)
        clear hK K
        refine norm_ (a' := ?_) ?_ ?_
        rotate_left
        ·show Act.put _ (some 49) _ = _
         simp only [Act.put, List.setIfInBounds_toArray, List.set_cons_zero, List.set_cons_succ, i64_w, i32_w]
         rfl
        refine Mine.pS 9 (some 50) ?_ (hc := any_of HT_.out (by kernel_rfl))
        exact norm_ (by simp only [putAll, Act.put, List.setIfInBounds_toArray, List.set_cons_zero, List.set_cons_succ] <;> (try simp only [IntKind.wrap_u32])) (hCont (gb167) _ ⟨hHeld, (by (with_reducible repeat (first | refine blk_drewN ?_ _ | refine blk_drew ?_ | refine blk_alloc ?_ _)); exact BK148.out), (by (with_reducible repeat (first | refine blk_drewN ?_ _ | refine blk_drew ?_ | refine blk_alloc ?_ _)); exact BK149.out), (by (with_reducible repeat (first | refine blk_drewN ?_ _ | refine blk_drew ?_ | refine blk_alloc ?_ _)); exact BK167.out), GW167.out, GE167.out, NB148_167.out, NB167_148.out, NB149_167.out, NB167_149.out, (by repeat (first | (with_reducible first | exact HB.out | apply below_alloc | apply pw_below_drewN | apply below_drew1 | refine below_set ?_ GE148.out | refine below_set ?_ GE149.out | refine below_set ?_ GE167.out) | exact HB.out))⟩)
      rintro gb167 w159 ⟨hS_, h0_, h1_, h2_, h3_, h4_, h5_, h6_, h7_, h8_, h9_⟩
      have n0_ : Aside0 (w159.heap[gb148]? = some (.cells #[.int .u32 0, .int .u32 0, .int .u64 0, .int .u64 0, .int .u64 0, .int .u64 0, .int .u64 0, .int .u64 0, .int .u64 0] 26 (0, 0))) := ⟨h0_⟩
      have n1_ : Aside0 (w159.heap[gb149]? = some (.cells #[.int .u32 Zp, .int .u32 Zq, .int .u32 Zr, .int .u32 Zs, .int .u32 Zt, .int .u32 Zu, .int .u32 Zv, .int .u32 Zw, .int .u32 Zx, .int .u32 Zy, .int .u32 Zz, .int .u32 Z10, .int .u32 Z11, .int .u32 Z12, .int .u32 Z13, .int .u32 Z14] 68 (0, 0))) := ⟨h1_⟩
      have n2_ : Aside0 (w159.heap[gb167]? = some (.cells #[.int .u32 0, .int .u32 0, .int .u64 0, .int .u64 0, .int .u64 0, .int .u64 0, .int .u64 0, .int .u64 0, .int .u64 0] 26 (0, 0))) := ⟨h2_⟩
      have n3_ : Aside0 (w.heap.size ≤ gb167) := ⟨h3_⟩
      have n4_ : Aside0 (w.heap.size ≤ gb167) := ⟨h4_⟩
      have n5_ : Aside0 (gb148 ≠ gb167) := ⟨h5_⟩
      have n6_ : Aside0 (gb167 ≠ gb148) := ⟨h6_⟩
      have n7_ : Aside0 (gb149 ≠ gb167) := ⟨h7_⟩
      have n8_ : Aside0 (gb167 ≠ gb149) := ⟨h8_⟩
      have n9_ : Aside0 (Below w.heap.size w w159) := ⟨h9_⟩
      clear BK148
      clear BK149
      clear HB
      clear h0_ h1_ h2_ h3_ h4_ h5_ h6_ h7_ h8_ h9_
      have BK148 := n0_
      have BK149 := n1_
      have BK167 := n2_
      have GW167 := n3_
      have GE167 := n4_
      have NB148_167 := n5_
      have NB167_148 := n6_
      have NB149_167 := n7_
      have NB167_149 := n8_
      have HB := n9_
      clear n0_ n1_ n2_ n3_ n4_ n5_ n6_ n7_ n8_ n9_
      have hHeld : w159.cell? ⟨gb149, 0, none⟩ = some (.int .u32 Zp) ∧ w159.cell? ⟨gb149, 1, none⟩ = some (.int .u32 Zq) ∧ w159.cell? ⟨gb149, 2, none⟩ = some (.int .u32 Zr) ∧ w159.cell? ⟨gb149, 3, none⟩ = some (.int .u32 Zs) ∧ w159.cell? ⟨gb149, 4, none⟩ = some (.int .u32 Zt) ∧ w159.cell? ⟨gb149, 5, none⟩ = some (.int .u32 Zu) ∧ w159.cell? ⟨gb149, 6, none⟩ = some (.int .u32 Zv) ∧ w159.cell? ⟨gb149, 7, none⟩ = some (.int .u32 Zw) ∧ w159.cell? ⟨gb149, 8, none⟩ = some (.int .u32 Zx) ∧ w159.cell? ⟨gb149, 9, none⟩ = some (.int .u32 Zy) ∧ w159.cell? ⟨gb149, 10, none⟩ = some (.int .u32 Zz) ∧ w159.cell? ⟨gb149, 11, none⟩ = some (.int .u32 Z10) ∧ w159.cell? ⟨gb149, 12, none⟩ = some (.int .u32 Z11) ∧ w159.cell? ⟨gb149, 13, none⟩ = some (.int .u32 Z12) ∧ w159.cell? ⟨gb149, 14, none⟩ = some (.int .u32 Z13) ∧ w159.cell? ⟨gb149, 15, none⟩ = some (.int .u32 Z14) := hS_
      refine norm_ (a' := ?_) ?_ ?_
      rotate_left
      ·simp only [putAll, Act.put, List.setIfInBounds_toArray, List.set_cons_zero, List.set_cons_succ]
       rfl
      refine one_ (i := 11) (N := none) #[true, true, true, true, true, true, true, true, true, true, true, true] rfl rfl (one_of HT_.out (by kernel_rfl)) (by decide) (fun K hK => ?_)
      have hs160 : w159.cell? ⟨gb167, 0, none⟩ = some (.int .u32 0) := (blk_cell BK167.out 0).trans rfl
      have hfs160 := blk_frozen BK167.out 0
      have hns160_0 := NB148_167.out
      have hns160_1 := NB149_167.out
      have hms160_0 := NB167_148.out
      have hms160_1 := NB167_149.out
      have hs161 : w159.cell? ⟨gb167, 1, none⟩ = some (.int .u32 0) := (blk_cell BK167.out 1).trans rfl
      have hfs161 := blk_frozen BK167.out 1
      have hns161_0 := NB148_167.out
      have hns161_1 := NB149_167.out
      have hms161_0 := NB167_148.out
      have hms161_1 := NB167_149.out
      have hs162 : w159.cell? ⟨gb167, 2, none⟩ = some (.int .u64 0) := (blk_cell BK167.out 2).trans rfl
      have hfs162 := blk_frozen BK167.out 2
      have hns162_0 := NB148_167.out
      have hns162_1 := NB149_167.out
      have hms162_0 := NB167_148.out
      have hms162_1 := NB167_149.out
      have hs163 : w159.cell? ⟨gb167, 3, none⟩ = some (.int .u64 0) := (blk_cell BK167.out 3).trans rfl
      have hfs163 := blk_frozen BK167.out 3
      have hns163_0 := NB148_167.out
      have hns163_1 := NB149_167.out
      have hms163_0 := NB167_148.out
      have hms163_1 := NB167_149.out
      have hs164 : w159.cell? ⟨gb167, 4, none⟩ = some (.int .u64 0) := (blk_cell BK167.out 4).trans rfl
      have hfs164 := blk_frozen BK167.out 4
      have hns164_0 := NB148_167.out
      have hns164_1 := NB149_167.out
      have hms164_0 := NB167_148.out
      have hms164_1 := NB167_149.out
      have hs165 : w159.cell? ⟨gb167, 5, none⟩ = some (.int .u64 0) := (blk_cell BK167.out 5).trans rfl
      have hfs165 := blk_frozen BK167.out 5
      have hns165_0 := NB148_167.out
      have hns165_1 := NB149_167.out
      have hms165_0 := NB167_148.out
      have hms165_1 := NB167_149.out
      have hs166 : w159.cell? ⟨gb167, 6, none⟩ = some (.int .u64 0) := (blk_cell BK167.out 6).trans rfl
      have hfs166 := blk_frozen BK167.out 6
      have hns166_0 := NB148_167.out
      have hns166_1 := NB149_167.out
      have hms166_0 := NB167_148.out
      have hms166_1 := NB167_149.out
      have hs167 : w159.cell? ⟨gb167, 7, none⟩ = some (.int .u64 0) := (blk_cell BK167.out 7).trans rfl
      have hfs167 := blk_frozen BK167.out 7
      have hns167_0 := NB148_167.out
      have hns167_1 := NB149_167.out
      have hms167_0 := NB167_148.out
      have hms167_1 := NB167_149.out
      have hs168 : w159.cell? ⟨gb167, 8, none⟩ = some (.int .u64 0) := (blk_cell BK167.out 8).trans rfl
      have hfs168 := blk_frozen BK167.out 8
      have hns168_0 := NB148_167.out
      have hns168_1 := NB149_167.out
      have hms168_0 := NB167_148.out
      have hms168_1 := NB167_149.out
      refine skip_ (w1 := ?_) (by rfl) rfl ?_ ?_
      rotate_left
      ·go_simp
       rfl
      refine hK.out _ _ ⟨((cell_far (p := ⟨gb167, _, none⟩) NB149_167.out _).trans (((cell_far (p := ⟨gb167, _, none⟩) NB149_167.out _).trans (((cell_far (p := ⟨gb167, _, none⟩) NB149_167.out _).trans (((cell_far (p := ⟨gb167, _, none⟩) NB149_167.out _).trans (((cell_far (p := ⟨gb167, _, none⟩) NB149_167.out _).trans (((cell_far (p := ⟨gb167, _, none⟩) NB149_167.out _).trans (((cell_far (p := ⟨gb167, _, none⟩) NB149_167.out _).trans (((cell_far (p := ⟨gb167, _, none⟩) NB149_167.out _).trans (((cell_far (p := ⟨gb167, _, none⟩) NB149_167.out _).trans (hHeld.1)))))))))))))))))), ((cell_far (p := ⟨gb167, _, none⟩) NB149_167.out _).trans (((cell_far (p := ⟨gb167, _, none⟩) NB149_167.out _).trans (((cell_far (p := ⟨gb167, _, none⟩) NB149_167.out _).trans (((cell_far (p := ⟨gb167, _, none⟩) NB149_167.out _).trans (((cell_far (p := ⟨gb167, _, none⟩) NB149_167.out _).trans (((cell_far (p := ⟨gb167, _, none⟩) NB149_167.out _).trans (((cell_far (p := ⟨gb167, _, none⟩) NB149_167.out _).trans (((cell_far (p := ⟨gb167, _, none⟩) NB149_167.out _).trans (((cell_far (p := ⟨gb167, _, none⟩) NB149_167.out _).trans (hHeld.2.1)))))))))))))))))), ((cell_far (p := ⟨gb167, _, none⟩) NB149_167.out _).trans (((cell_far (p := ⟨gb167, _, none⟩) NB149_167.out _).trans (((cell_far (p := ⟨gb167, _, none⟩) NB149_167.out _).trans (((cell_far (p := ⟨gb167, _, none⟩) NB149_167.out _).trans (((cell_far (p := ⟨gb167, _, none⟩) NB149_167.out _).trans (((cell_far (p := ⟨gb167, _, none⟩) NB149_167.out _).trans (((cell_far (p := ⟨gb167, _, none⟩) NB149_167.out _).trans (((cell_far (p := ⟨gb167, _, none⟩) NB149_167.out _).trans (((cell_far (p := ⟨gb167, _, none⟩) NB149_167.out _).trans (hHeld.2.2.1)))))))))))))))))), ((cell_far (p := ⟨gb167, _, none⟩) NB149_167.out _).trans (((cell_far (p := ⟨gb167, _, none⟩) NB149_167.out _).trans (((cell_far (p := ⟨gb167, _, none⟩) NB149_167.out _).trans (((cell_far (p := ⟨gb167, _, none⟩) NB149_167.out _).trans (((cell_far (p := ⟨gb167, _, none⟩) NB149_167.out _).trans (((cell_far (p := ⟨gb167, _, none⟩) NB149_167.out _).trans (((cell_far (p := ⟨gb167, _, none⟩) NB149_167.out _).trans (((cell_far (p := ⟨gb167, _, none⟩) NB149_167.out _).trans (((cell_far (p := ⟨gb167, _, none⟩) NB149_167.out _).trans (hHeld.2.2.2.1)))))))))))))))))), ((cell_far (p := ⟨gb167, _, none⟩) NB149_167.out _).trans (((cell_far (p := ⟨gb167, _, none⟩) NB149_167.out _).trans (((cell_far (p := ⟨gb167, _, none⟩) NB149_167.out _).trans (((cell_far (p := ⟨gb167, _, none⟩) NB149_167.out _).trans (((cell_far (p := ⟨gb167, _, none⟩) NB149_167.out _).trans (((cell_far (p := ⟨gb167, _, none⟩) NB149_167.out _).trans (((cell_far (p := ⟨gb167, _, none⟩) NB149_167.out _).trans (((cell_far (p := ⟨gb167, _, none⟩) NB149_167.out _).trans (((cell_far (p := ⟨gb167, _, none⟩) NB149_167.out _).trans (hHeld.2.2.2.2.1)))))))))))))))))), ((cell_far (p := ⟨gb167, _, none⟩) NB149_167.out _).trans (((cell_far (p := ⟨gb167, _, none⟩) NB149_167.out _).trans (((cell_far (p := ⟨gb167, _, none⟩) NB149_167.out _).trans (((cell_far (p := ⟨gb167, _, none⟩) NB149_167.out _).trans (((cell_far (p := ⟨gb167, _, none⟩) NB149_167.out _).trans (((cell_far (p := ⟨gb167, _, none⟩) NB149_167.out _).trans (((cell_far (p := ⟨gb167, _, none⟩) NB149_167.out _).trans (((cell_far (p := ⟨gb167, _, none⟩) NB149_167.out _).trans (((cell_far (p := ⟨gb167, _, none⟩) NB149_167.out _).trans (hHeld.2.2.2.2.2.1)))))))))))))))))), ((cell_far (p := ⟨gb167, _, none⟩) NB149_167.out _).trans (((cell_far (p := ⟨gb167, _, none⟩) NB149_167.out _).trans (((cell_far (p := ⟨gb167, _, none⟩) NB149_167.out _).trans (((cell_far (p := ⟨gb167, _, none⟩) NB149_167.out _).trans (((cell_far (p := ⟨gb167, _, none⟩) NB149_167.out _).trans (((cell_far (p := ⟨gb167, _, none⟩) NB149_167.out _).trans (((cell_far (p := ⟨gb167, _, none⟩) NB149_167.out _).trans (((cell_far (p := ⟨gb167, _, none⟩) NB149_167.out _).trans (((cell_far (p := ⟨gb167, _, none⟩) NB149_167.out _).trans (hHeld.2.2.2.2.2.2.1)))))))))))))))))), ((cell_far (p := ⟨gb167, _, none⟩) NB149_167.out _).trans (((cell_far (p := ⟨gb167, _, none⟩) NB149_167.out _).trans (((cell_far (p := ⟨gb167, _, none⟩) NB149_167.out _).trans (((cell_far (p := ⟨gb167, _, none⟩) NB149_167.out _).trans (((cell_far (p := ⟨gb167, _, none⟩) NB149_167.out _).trans (((cell_far (p := ⟨gb167, _, none⟩) NB149_167.out _).trans (((cell_far (p := ⟨gb167, _, none⟩) NB149_167.out _).trans (((cell_far (p := ⟨gb167, _, none⟩) NB149_167.out _).trans (((cell_far (p := ⟨gb167, _, none⟩) NB149_167.out _).trans (hHeld.2.2.2.2.2.2.2.1)))))))))))))))))), ((cell_far (p := ⟨gb167, _, none⟩) NB149_167.out _).trans (((cell_far (p := ⟨gb167, _, none⟩) NB149_167.out _).trans (((cell_far (p := ⟨gb167, _, none⟩) NB149_167.out _).trans (((cell_far (p := ⟨gb167, _, none⟩) NB149_167.out _).trans (((cell_far (p := ⟨gb167, _, none⟩) NB149_167.out _).trans (((cell_far (p := ⟨gb167, _, none⟩) NB149_167.out _).trans (((cell_far (p := ⟨gb167, _, none⟩) NB149_167.out _).trans (((cell_far (p := ⟨gb167, _, none⟩) NB149_167.out _).trans (((cell_far (p := ⟨gb167, _, none⟩) NB149_167.out _).trans (hHeld.2.2.2.2.2.2.2.2.1)))))))))))))))))), ((cell_far (p := ⟨gb167, _, none⟩) NB149_167.out _).trans (((cell_far (p := ⟨gb167, _, none⟩) NB149_167.out _).trans (((cell_far (p := ⟨gb167, _, none⟩) NB149_167.out _).trans (((cell_far (p := ⟨gb167, _, none⟩) NB149_167.out _).trans (((cell_far (p := ⟨gb167, _, none⟩) NB149_167.out _).trans (((cell_far (p := ⟨gb167, _, none⟩) NB149_167.out _).trans (((cell_far (p := ⟨gb167, _, none⟩) NB149_167.out _).trans (((cell_far (p := ⟨gb167, _, none⟩) NB149_167.out _).trans (((cell_far (p := ⟨gb167, _, none⟩) NB149_167.out _).trans (hHeld.2.2.2.2.2.2.2.2.2.1)))))))))))))))))), ((cell_far (p := ⟨gb167, _, none⟩) NB149_167.out _).trans (((cell_far (p := ⟨gb167, _, none⟩) NB149_167.out _).trans (((cell_far (p := ⟨gb167, _, none⟩) NB149_167.out _).trans (((cell_far (p := ⟨gb167, _, none⟩) NB149_167.out _).trans (((cell_far (p := ⟨gb167, _, none⟩) NB149_167.out _).trans (((cell_far (p := ⟨gb167, _, none⟩) NB149_167.out _).trans (((cell_far (p := ⟨gb167, _, none⟩) NB149_167.out _).trans (((cell_far (p := ⟨gb167, _, none⟩) NB149_167.out _).trans (((cell_far (p := ⟨gb167, _, none⟩) NB149_167.out _).trans (hHeld.2.2.2.2.2.2.2.2.2.2.1)))))))))))))))))), ((cell_far (p := ⟨gb167, _, none⟩) NB149_167.out _).trans (((cell_far (p := ⟨gb167, _, none⟩) NB149_167.out _).trans (((cell_far (p := ⟨gb167, _, none⟩) NB149_167.out _).trans (((cell_far (p := ⟨gb167, _, none⟩) NB149_167.out _).trans (((cell_far (p := ⟨gb167, _, none⟩) NB149_167.out _).trans (((cell_far (p := ⟨gb167, _, none⟩) NB149_167.out _).trans (((cell_far (p := ⟨gb167, _, none⟩) NB149_167.out _).trans (((cell_far (p := ⟨gb167, _, none⟩) NB149_167.out _).trans (((cell_far (p := ⟨gb167, _, none⟩) NB149_167.out _).trans (hHeld.2.2.2.2.2.2.2.2.2.2.2.1)))))))))))))))))), ((cell_far (p := ⟨gb167, _, none⟩) NB149_167.out _).trans (((cell_far (p := ⟨gb167, _, none⟩) NB149_167.out _).trans (((cell_far (p := ⟨gb167, _, none⟩) NB149_167.out _).trans (((cell_far (p := ⟨gb167, _, none⟩) NB149_167.out _).trans (((cell_far (p := ⟨gb167, _, none⟩) NB149_167.out _).trans (((cell_far (p := ⟨gb167, _, none⟩) NB149_167.out _).trans (((cell_far (p := ⟨gb167, _, none⟩) NB149_167.out _).trans (((cell_far (p := ⟨gb167, _, none⟩) NB149_167.out _).trans (((cell_far (p := ⟨gb167, _, none⟩) NB149_167.out _).trans (hHeld.2.2.2.2.2.2.2.2.2.2.2.2.1)))))))))))))))))), ((cell_far (p := ⟨gb167, _, none⟩) NB149_167.out _).trans (((cell_far (p := ⟨gb167, _, none⟩) NB149_167.out _).trans (((cell_far (p := ⟨gb167, _, none⟩) NB149_167.out _).trans (((cell_far (p := ⟨gb167, _, none⟩) NB149_167.out _).trans (((cell_far (p := ⟨gb167, _, none⟩) NB149_167.out _).trans (((cell_far (p := ⟨gb167, _, none⟩) NB149_167.out _).trans (((cell_far (p := ⟨gb167, _, none⟩) NB149_167.out _).trans (((cell_far (p := ⟨gb167, _, none⟩) NB149_167.out _).trans (((cell_far (p := ⟨gb167, _, none⟩) NB149_167.out _).trans (hHeld.2.2.2.2.2.2.2.2.2.2.2.2.2.1)))))))))))))))))), ((cell_far (p := ⟨gb167, _, none⟩) NB149_167.out _).trans (((cell_far (p := ⟨gb167, _, none⟩) NB149_167.out _).trans (((cell_far (p := ⟨gb167, _, none⟩) NB149_167.out _).trans (((cell_far (p := ⟨gb167, _, none⟩) NB149_167.out _).trans (((cell_far (p := ⟨gb167, _, none⟩) NB149_167.out _).trans (((cell_far (p := ⟨gb167, _, none⟩) NB149_167.out _).trans (((cell_far (p := ⟨gb167, _, none⟩) NB149_167.out _).trans (((cell_far (p := ⟨gb167, _, none⟩) NB149_167.out _).trans (((cell_far (p := ⟨gb167, _, none⟩) NB149_167.out _).trans (hHeld.2.2.2.2.2.2.2.2.2.2.2.2.2.2.1)))))))))))))))))), ((cell_far (p := ⟨gb167, _, none⟩) NB149_167.out _).trans (((cell_far (p := ⟨gb167, _, none⟩) NB149_167.out _).trans (((cell_far (p := ⟨gb167, _, none⟩) NB149_167.out _).trans (((cell_far (p := ⟨gb167, _, none⟩) NB149_167.out _).trans (((cell_far (p := ⟨gb167, _, none⟩) NB149_167.out _).trans (((cell_far (p := ⟨gb167, _, none⟩) NB149_167.out _).trans (((cell_far (p := ⟨gb167, _, none⟩) NB149_167.out _).trans (((cell_far (p := ⟨gb167, _, none⟩) NB149_167.out _).trans (((cell_far (p := ⟨gb167, _, none⟩) NB149_167.out _).trans (hHeld.2.2.2.2.2.2.2.2.2.2.2.2.2.2.2))))))))))))))))))⟩ (fun hHeld => ?_)
      clear hK K
      refine done_ (done_of HT_.out (by kernel_rfl)) ?_
      try go_wp2
      go_loopg [51] k1 (fun kq v51 w' => ∃ (x51_2 : Int) (Z1l : Int) (Z1m : Int) (Z1n : Int) (Z1o : Int) (Z1p : Int) (Z1q : Int), v51 = .int .i64 x51_2 ∧ Aside0 (data_Of.l2 kq x51_2 Zp Zq Zr Zs Zt Zu Zv Zw Zx Zy Zz Z10 Z11 Z12 Z13 Z14 Zp Zq t166 Z1l Z1m Z1n Z1o Z1p Z1q = some (r1, r2, r3, r4, r5, r6, r7, r8, r9, r10)) ∧ Aside0 (kq ≤ k1) ∧ Aside0 (w'.heap[gb148]? = some (.cells #[.int .u32 0, .int .u32 0, .int .u64 0, .int .u64 0, .int .u64 0, .int .u64 0, .int .u64 0, .int .u64 0, .int .u64 0] 26 (0, 0))) ∧ Aside0 (w'.heap[gb149]? = some (.cells #[.int .u32 Zp, .int .u32 Zq, .int .u32 Zr, .int .u32 Zs, .int .u32 Zt, .int .u32 Zu, .int .u32 Zv, .int .u32 Zw, .int .u32 Zx, .int .u32 Zy, .int .u32 Zz, .int .u32 Z10, .int .u32 Z11, .int .u32 Z12, .int .u32 Z13, .int .u32 Z14] 68 (0, 0))) ∧ Aside0 (w'.heap[gb167]? = some (.cells #[.int .u32 Zp, .int .u32 Zq, .int .u64 t166, .int .u64 Z1l, .int .u64 Z1m, .int .u64 Z1n, .int .u64 Z1o, .int .u64 Z1p, .int .u64 Z1q] 26 (0, 0))) ∧ Aside0 (Below w.heap.size w w'))
      case atStart => exact ⟨(0), (0), (0), (0), (0), (0), (0), (by first | rfl | (simp; done) | (simp [*]; done)), H', ⟨Nat.le_refl _⟩, ⟨by (with_reducible repeat (first | refine blk_drewN ?_ _ | refine blk_drew ?_ | refine blk_alloc ?_ _)); refine blk_far ?_ NB148_167.out _; (with_reducible repeat (first | refine blk_drewN ?_ _ | refine blk_drew ?_ | refine blk_alloc ?_ _)); refine blk_far ?_ NB148_167.out _; (with_reducible repeat (first | refine blk_drewN ?_ _ | refine blk_drew ?_ | refine blk_alloc ?_ _)); refine blk_far ?_ NB148_167.out _; (with_reducible repeat (first | refine blk_drewN ?_ _ | refine blk_drew ?_ | refine blk_alloc ?_ _)); refine blk_far ?_ NB148_167.out _; (with_reducible repeat (first | refine blk_drewN ?_ _ | refine blk_drew ?_ | refine blk_alloc ?_ _)); refine blk_far ?_ NB148_167.out _; (with_reducible repeat (first | refine blk_drewN ?_ _ | refine blk_drew ?_ | refine blk_alloc ?_ _)); refine blk_far ?_ NB148_167.out _; (with_reducible repeat (first | refine blk_drewN ?_ _ | refine blk_drew ?_ | refine blk_alloc ?_ _)); refine blk_far ?_ NB148_167.out _; (with_reducible repeat (first | refine blk_drewN ?_ _ | refine blk_drew ?_ | refine blk_alloc ?_ _)); refine blk_far ?_ NB148_167.out _; (with_reducible repeat (first | refine blk_drewN ?_ _ | refine blk_drew ?_ | refine blk_alloc ?_ _)); refine blk_far ?_ NB148_167.out _; (with_reducible repeat (first | refine blk_drewN ?_ _ | refine blk_drew ?_ | refine blk_alloc ?_ _)); exact BK148.out⟩, ⟨by (with_reducible repeat (first | refine blk_drewN ?_ _ | refine blk_drew ?_ | refine blk_alloc ?_ _)); refine blk_far ?_ NB149_167.out _; (with_reducible repeat (first | refine blk_drewN ?_ _ | refine blk_drew ?_ | refine blk_alloc ?_ _)); refine blk_far ?_ NB149_167.out _; (with_reducible repeat (first | refine blk_drewN ?_ _ | refine blk_drew ?_ | refine blk_alloc ?_ _)); refine blk_far ?_ NB149_167.out _; (with_reducible repeat (first | refine blk_drewN ?_ _ | refine blk_drew ?_ | refine blk_alloc ?_ _)); refine blk_far ?_ NB149_167.out _; (with_reducible repeat (first | refine blk_drewN ?_ _ | refine blk_drew ?_ | refine blk_alloc ?_ _)); refine blk_far ?_ NB149_167.out _; (with_reducible repeat (first | refine blk_drewN ?_ _ | refine blk_drew ?_ | refine blk_alloc ?_ _)); refine blk_far ?_ NB149_167.out _; (with_reducible repeat (first | refine blk_drewN ?_ _ | refine blk_drew ?_ | refine blk_alloc ?_ _)); refine blk_far ?_ NB149_167.out _; (with_reducible repeat (first | refine blk_drewN ?_ _ | refine blk_drew ?_ | refine blk_alloc ?_ _)); refine blk_far ?_ NB149_167.out _; (with_reducible repeat (first | refine blk_drewN ?_ _ | refine blk_drew ?_ | refine blk_alloc ?_ _)); refine blk_far ?_ NB149_167.out _; (with_reducible repeat (first | refine blk_drewN ?_ _ | refine blk_drew ?_ | refine blk_alloc ?_ _)); exact BK149.out⟩, ⟨by (with_reducible repeat (first | refine blk_drewN ?_ _ | refine blk_drew ?_ | refine blk_alloc ?_ _)); refine blk_put (cs := #[.int .u32 Zp, .int .u32 Zq, .int .u64 t166, .int .u64 0, .int .u64 0, .int .u64 0, .int .u64 0, .int .u64 0, .int .u64 0]) ?_ 8 _ rfl; (with_reducible repeat (first | refine blk_drewN ?_ _ | refine blk_drew ?_ | refine blk_alloc ?_ _)); refine blk_put (cs := #[.int .u32 Zp, .int .u32 Zq, .int .u64 t166, .int .u64 0, .int .u64 0, .int .u64 0, .int .u64 0, .int .u64 0, .int .u64 0]) ?_ 7 _ rfl; (with_reducible repeat (first | refine blk_drewN ?_ _ | refine blk_drew ?_ | refine blk_alloc ?_ _)); refine blk_put (cs := #[.int .u32 Zp, .int .u32 Zq, .int .u64 t166, .int .u64 0, .int .u64 0, .int .u64 0, .int .u64 0, .int .u64 0, .int .u64 0]) ?_ 6 _ rfl; (with_reducible repeat (first | refine blk_drewN ?_ _ | refine blk_drew ?_ | refine blk_alloc ?_ _)); refine blk_put (cs := #[.int .u32 Zp, .int .u32 Zq, .int .u64 t166, .int .u64 0, .int .u64 0, .int .u64 0, .int .u64 0, .int .u64 0, .int .u64 0]) ?_ 5 _ rfl; (with_reducible repeat (first | refine blk_drewN ?_ _ | refine blk_drew ?_ | refine blk_alloc ?_ _)); refine blk_put (cs := #[.int .u32 Zp, .int .u32 Zq, .int .u64 t166, .int .u64 0, .int .u64 0, .int .u64 0, .int .u64 0, .int .u64 0, .int .u64 0]) ?_ 4 _ rfl; (with_reducible repeat (first | refine blk_drewN ?_ _ | refine blk_drew ?_ | refine blk_alloc ?_ _)); refine blk_put (cs := #[.int .u32 Zp, .int .u32 Zq, .int .u64 t166, .int .u64 0, .int .u64 0, .int .u64 0, .int .u64 0, .int .u64 0, .int .u64 0]) ?_ 3 _ rfl; (with_reducible repeat (first | refine blk_drewN ?_ _ | refine blk_drew ?_ | refine blk_alloc ?_ _)); refine blk_put (cs := #[.int .u32 Zp, .int .u32 Zq, .int .u64 0, .int .u64 0, .int .u64 0, .int .u64 0, .int .u64 0, .int .u64 0, .int .u64 0]) ?_ 2 _ rfl; (with_reducible repeat (first | refine blk_drewN ?_ _ | refine blk_drew ?_ | refine blk_alloc ?_ _)); refine blk_put (cs := #[.int .u32 Zp, .int .u32 0, .int .u64 0, .int .u64 0, .int .u64 0, .int .u64 0, .int .u64 0, .int .u64 0, .int .u64 0]) ?_ 1 _ rfl; (with_reducible repeat (first | refine blk_drewN ?_ _ | refine blk_drew ?_ | refine blk_alloc ?_ _)); refine blk_put (cs := #[.int .u32 0, .int .u32 0, .int .u64 0, .int .u64 0, .int .u64 0, .int .u64 0, .int .u64 0, .int .u64 0, .int .u64 0]) ?_ 0 _ rfl; (with_reducible repeat (first | refine blk_drewN ?_ _ | refine blk_drew ?_ | refine blk_alloc ?_ _)); exact BK167.out⟩, ⟨by repeat (first | (with_reducible first | exact HB.out | apply below_alloc | apply pw_below_drewN | apply below_drew1 | refine below_set ?_ GE148.out | refine below_set ?_ GE149.out | refine below_set ?_ GE167.out) | exact HB.out)⟩⟩
      case round =>
       clear H'
       try clear c1
       try clear p1
       try clear q1
       try clear hx1
       try clear p2
       try clear c3
       try clear p6
       try clear c10
       try clear c10b0
       try clear c11
       try clear c11b0
       try clear c13
       try clear c14
       try clear c15
       try clear p16
       try clear q16
       try clear hx16
       try clear c37
       try clear p64
       try clear c138
       try clear c140
       try clear c141
       try clear c143
       try clear c147
       try clear c149
       try clear c149b0
       try clear c150
       try clear c150b0
       try clear c152
       try clear c152b0
       try clear c152b1
       try clear p165
       try clear q165
       try clear hx165
       try clear hx165_0
       try clear p165
       try clear q165
       obtain ⟨x51_2, Z1l, Z1m, Z1n, Z1o, Z1p, Z1q, rfl, HA, HK2, BK148, BK149, BK167, HB⟩ := hrel
       cases gk with
       | zero => exact absurd HA.out (by simp [data_Of.l2])
       | succ k2 =>
        have H := HA.out
        clear HA
        simp only [data_Of.l2] at H
        by_cases c169 : x51_2 < 6
        ·rw [if_pos c169] at H
         have c169b0 : decide (x51_2 < 6) = true := decide_eq_true c169
         clear c169
         by_cases c170 : x51_2 = 0
         ·rw [if_pos c170] at H
          subst c170
          have wz_ : wrap64 0 = 0 ∧ wrap64 4 = 4 ∧ wrap64 5 = 5 := by simp [wrap64]
          obtain ⟨wz_, wz4_, wz5_⟩ := wz_
          replace H := Option.bind_eq_some_iff.mp H
          obtain ⟨t168, A1710, H⟩ := H
          replace H : (data_Of.l2 k2 1 Zp Zq Zr Zs Zt Zu Zv Zw Zx Zy Zz Z10 Z11 Z12 Z13 Z14 Zp Zq t166 t168 Z1m Z1n Z1o Z1p Z1q) = some (r1, r2, r3, r4, r5, r6, r7, r8, r9, r10) := H
          have A171 := Aside0.mk A1710
          clear A1710
          have H' := Aside0.mk H
          clear H
          try go_wp2
          have n0_ := Aside0.mk (blk_drew BK148.out)
          have n1_ := Aside0.mk (blk_drew BK149.out)
          have n2_ := Aside0.mk (blk_drew BK167.out)
          have n3_ := Aside0.mk (below_drew1 HB.out)
          clear BK148
          clear BK149
          clear BK167
          clear HB
          have BK148 := n0_
          have BK149 := n1_
          have BK167 := n2_
          have HB := n3_
          clear n0_ n1_ n2_ n3_
          refine start_ (n := 16) (S := fun w' => w'.cell? ⟨gb149, 0, none⟩ = some (.int .u32 Zp) ∧ w'.cell? ⟨gb149, 1, none⟩ = some (.int .u32 Zq) ∧ w'.cell? ⟨gb149, 2, none⟩ = some (.int .u32 Zr) ∧ w'.cell? ⟨gb149, 3, none⟩ = some (.int .u32 Zs) ∧ w'.cell? ⟨gb149, 4, none⟩ = some (.int .u32 Zt) ∧ w'.cell? ⟨gb149, 5, none⟩ = some (.int .u32 Zu) ∧ w'.cell? ⟨gb149, 6, none⟩ = some (.int .u32 Zv) ∧ w'.cell? ⟨gb149, 7, none⟩ = some (.int .u32 Zw) ∧ w'.cell? ⟨gb149, 8, none⟩ = some (.int .u32 Zx) ∧ w'.cell? ⟨gb149, 9, none⟩ = some (.int .u32 Zy) ∧ w'.cell? ⟨gb149, 10, none⟩ = some (.int .u32 Zz) ∧ w'.cell? ⟨gb149, 11, none⟩ = some (.int .u32 Z10) ∧ w'.cell? ⟨gb149, 12, none⟩ = some (.int .u32 Z11) ∧ w'.cell? ⟨gb149, 13, none⟩ = some (.int .u32 Z12) ∧ w'.cell? ⟨gb149, 14, none⟩ = some (.int .u32 Z13) ∧ w'.cell? ⟨gb149, 15, none⟩ = some (.int .u32 Z14)) (ds := []) #[false, false, false, false, false, false, false, false, false, false, false, false, false, false, false, false] (by kernel_rfl) rfl rfl ⟨(blk_cell BK149.out 0).trans rfl, (blk_cell BK149.out 1).trans rfl, (blk_cell BK149.out 2).trans rfl, (blk_cell BK149.out 3).trans rfl, (blk_cell BK149.out 4).trans rfl, (blk_cell BK149.out 5).trans rfl, (blk_cell BK149.out 6).trans rfl, (blk_cell BK149.out 7).trans rfl, (blk_cell BK149.out 8).trans rfl, (blk_cell BK149.out 9).trans rfl, (blk_cell BK149.out 10).trans rfl, (blk_cell BK149.out 11).trans rfl, (blk_cell BK149.out 12).trans rfl, (blk_cell BK149.out 13).trans rfl, (blk_cell BK149.out 14).trans rfl, (blk_cell BK149.out 15).trans rfl⟩ (fun hHeld => ?_); refine with_tabW data_Of.tab19 data_Of.bits19 (fun HT_ HW_ => ?_)
          generalize wr.drew = w172 at BK148 BK149 BK167 HB hHeld ⊢
          refine Mine.pS 0 (some 54) ?_ (hc := any_of HT_.out (by kernel_rfl)); refine Mine.pS 1 (some 55) ?_ (hc := any_of HT_.out (by kernel_rfl)); refine Mine.pS 2 (some 56) ?_ (hc := any_of HT_.out (by kernel_rfl)); refine Mine.pS 3 (some 57) ?_ (hc := any_of HT_.out (by kernel_rfl)); refine Mine.pS 4 (some 58) ?_ (hc := any_of HT_.out (by kernel_rfl)); refine Mine.pS 6 (some 60) ?_ (hc := any_of HT_.out (by kernel_rfl)); refine Mine.pS 7 (some 61) ?_ (hc := any_of HT_.out (by kernel_rfl)); refine Mine.pS 8 (some 62) ?_ (hc := any_of HT_.out (by kernel_rfl)); refine Mine.pS 9 (some 63) ?_ (hc := any_of HT_.out (by kernel_rfl)); refine Mine.pS 10 (some 64) ?_ (hc := any_of HT_.out (by kernel_rfl)); refine Mine.pS 13 (some 67) ?_ (hc := any_of HT_.out (by kernel_rfl)); refine Mine.tS 5 (some 59) hHeld ?_ (hc := take_ofW HT_.out HW_.out (by kernel_rfl)); refine Mine.tS 11 (some 65) hHeld ?_ (hc := take_ofW HT_.out HW_.out (by kernel_rfl))
          refine one_ (i := 12) (N := some 66) #[true, true, true, true, true, true, true, true, true, true, true, true, true, true, false, false] rfl rfl (one_of HT_.out (by kernel_rfl)) (by decide) (fun K hK => ?_)
          refine goes_ Try.func37 (by kernel_rfl) rfl #[.int .u32 Zt, .int .u32 Zu] (by rfl) rfl rfl (by (try simp only [List.map_toArray, List.map_cons, List.map_nil]); first | done | rfl | (simp only [List.length_drop, List.length_take]; rfl)) ?_
          with_reducible refine (data_joined.calls Zt Zu t168 _ A171.out).mono ?_
          rintro e w' ⟨rfl, ⟨nd, rfl⟩⟩
          refine ⟨_, rfl, ?_⟩
          refine hK.out _ _ ⟨(blk_cell BK149.out 0).trans rfl, (blk_cell BK149.out 1).trans rfl, (blk_cell BK149.out 2).trans rfl, (blk_cell BK149.out 3).trans rfl, (blk_cell BK149.out 4).trans rfl, (blk_cell BK149.out 5).trans rfl, (blk_cell BK149.out 6).trans rfl, (blk_cell BK149.out 7).trans rfl, (blk_cell BK149.out 8).trans rfl, (blk_cell BK149.out 9).trans rfl, (blk_cell BK149.out 10).trans rfl, (blk_cell BK149.out 11).trans rfl, (blk_cell BK149.out 12).trans rfl, (blk_cell BK149.out 13).trans rfl, (blk_cell BK149.out 14).trans rfl, (blk_cell BK149.out 15).trans rfl⟩ (fun hHeld => ?_)
          clear hK K
          refine norm_ (a' := ?_) ?_ ?_
          rotate_left
          ·show Act.put _ (some 66) _ = _
           simp only [Act.put, List.setIfInBounds_toArray, List.set_cons_zero, List.set_cons_succ, i64_w, i32_w]
           rfl
          refine Mine.pS 14 (some 68) ?_ (hc := any_of HT_.out (by kernel_rfl))
          refine one_ (i := 15) (N := none) #[true, true, true, true, true, true, true, true, true, true, true, true, true, true, true, true] rfl rfl (one_of HT_.out (by kernel_rfl)) (by decide) (fun K hK => ?_)
          have hs173 : w172.cell? ⟨gb167, 3, none⟩ = some (.int .u64 Z1l) := (blk_cell BK167.out 3).trans rfl
          have hfs173 := blk_frozen BK167.out 3
          have hns173_0 := NB148_167.out
          have hns173_1 := NB149_167.out
          have hms173_0 := NB167_148.out
          have hms173_1 := NB167_149.out
          refine skip_ (w1 := ?_) (by rfl) rfl ?_ ?_
          rotate_left
          ·go_simp
           rfl
          refine hK.out _ _ ⟨((cell_far (p := ⟨gb167, _, none⟩) NB149_167.out _).trans (hHeld.1)), ((cell_far (p := ⟨gb167, _, none⟩) NB149_167.out _).trans (hHeld.2.1)), ((cell_far (p := ⟨gb167, _, none⟩) NB149_167.out _).trans (hHeld.2.2.1)), ((cell_far (p := ⟨gb167, _, none⟩) NB149_167.out _).trans (hHeld.2.2.2.1)), ((cell_far (p := ⟨gb167, _, none⟩) NB149_167.out _).trans (hHeld.2.2.2.2.1)), ((cell_far (p := ⟨gb167, _, none⟩) NB149_167.out _).trans (hHeld.2.2.2.2.2.1)), ((cell_far (p := ⟨gb167, _, none⟩) NB149_167.out _).trans (hHeld.2.2.2.2.2.2.1)), ((cell_far (p := ⟨gb167, _, none⟩) NB149_167.out _).trans (hHeld.2.2.2.2.2.2.2.1)), ((cell_far (p := ⟨gb167, _, none⟩) NB149_167.out _).trans (hHeld.2.2.2.2.2.2.2.2.1)), ((cell_far (p := ⟨gb167, _, none⟩) NB149_167.out _).trans (hHeld.2.2.2.2.2.2.2.2.2.1)), ((cell_far (p := ⟨gb167, _, none⟩) NB149_167.out _).trans (hHeld.2.2.2.2.2.2.2.2.2.2.1)), ((cell_far (p := ⟨gb167, _, none⟩) NB149_167.out _).trans (hHeld.2.2.2.2.2.2.2.2.2.2.2.1)), ((cell_far (p := ⟨gb167, _, none⟩) NB149_167.out _).trans (hHeld.2.2.2.2.2.2.2.2.2.2.2.2.1)), ((cell_far (p := ⟨gb167, _, none⟩) NB149_167.out _).trans (hHeld.2.2.2.2.2.2.2.2.2.2.2.2.2.1)), ((cell_far (p := ⟨gb167, _, none⟩) NB149_167.out _).trans (hHeld.2.2.2.2.2.2.2.2.2.2.2.2.2.2.1)), ((cell_far (p := ⟨gb167, _, none⟩) NB149_167.out _).trans (hHeld.2.2.2.2.2.2.2.2.2.2.2.2.2.2.2))⟩ (fun hHeld => ?_)
          clear hK K
          refine done_ (done_of HT_.out (by kernel_rfl)) ?_
          try go_wp2
          go_roundg k2
          case measure => have := HK1.out; have := HK2.out; omega
          case rel => exact ⟨(1), (t168), (Z1m), (Z1n), (Z1o), (Z1p), (Z1q), (by first | rfl | (simp; done) | (simp [*]; done)), H', ⟨by have := HK1.out; have := HK2.out; omega⟩, ⟨by (with_reducible repeat (first | refine blk_drewN ?_ _ | refine blk_drew ?_ | refine blk_alloc ?_ _)); refine blk_far ?_ NB148_167.out _; (with_reducible repeat (first | refine blk_drewN ?_ _ | refine blk_drew ?_ | refine blk_alloc ?_ _)); exact BK148.out⟩, ⟨by (with_reducible repeat (first | refine blk_drewN ?_ _ | refine blk_drew ?_ | refine blk_alloc ?_ _)); refine blk_far ?_ NB149_167.out _; (with_reducible repeat (first | refine blk_drewN ?_ _ | refine blk_drew ?_ | refine blk_alloc ?_ _)); exact BK149.out⟩, ⟨by (with_reducible repeat (first | refine blk_drewN ?_ _ | refine blk_drew ?_ | refine blk_alloc ?_ _)); refine blk_put (cs := #[.int .u32 Zp, .int .u32 Zq, .int .u64 t166, .int .u64 Z1l, .int .u64 Z1m, .int .u64 Z1n, .int .u64 Z1o, .int .u64 Z1p, .int .u64 Z1q]) ?_ 3 _ rfl; (with_reducible repeat (first | refine blk_drewN ?_ _ | refine blk_drew ?_ | refine blk_alloc ?_ _)); exact BK167.out⟩, ⟨by repeat (first | (with_reducible first | exact HB.out | apply below_alloc | apply pw_below_drewN | apply below_drew1 | refine below_set ?_ GE148.out | refine below_set ?_ GE149.out | refine below_set ?_ GE167.out) | exact HB.out)⟩⟩
         ·rw [if_neg c170] at H
          clear c170
          by_cases c174 : x51_2 = 1
          ·rw [if_pos c174] at H
           subst c174
           have wz_ : wrap64 2 = 2 ∧ wrap64 6 = 6 ∧ wrap64 7 = 7 := by simp [wrap64]
           obtain ⟨wz_, wz4_, wz5_⟩ := wz_
           replace H := Option.bind_eq_some_iff.mp H
           obtain ⟨t169, A1750, H⟩ := H
           replace H : (data_Of.l2 k2 2 Zp Zq Zr Zs Zt Zu Zv Zw Zx Zy Zz Z10 Z11 Z12 Z13 Z14 Zp Zq t166 Z1l t169 Z1n Z1o Z1p Z1q) = some (r1, r2, r3, r4, r5, r6, r7, r8, r9, r10) := H
           have A175 := Aside0.mk A1750
           clear A1750
           have H' := Aside0.mk H
           clear H
           try go_wp2
           have n0_ := Aside0.mk (blk_drew BK148.out)
           have n1_ := Aside0.mk (blk_drew BK149.out)
           have n2_ := Aside0.mk (blk_drew BK167.out)
           have n3_ := Aside0.mk (below_drew1 HB.out)
           clear BK148
           clear BK149
           clear BK167
           clear HB
           have BK148 := n0_
           have BK149 := n1_
           have BK167 := n2_
           have HB := n3_
           clear n0_ n1_ n2_ n3_
           refine start_ (n := 16) (S := fun w' => w'.cell? ⟨gb149, 0, none⟩ = some (.int .u32 Zp) ∧ w'.cell? ⟨gb149, 1, none⟩ = some (.int .u32 Zq) ∧ w'.cell? ⟨gb149, 2, none⟩ = some (.int .u32 Zr) ∧ w'.cell? ⟨gb149, 3, none⟩ = some (.int .u32 Zs) ∧ w'.cell? ⟨gb149, 4, none⟩ = some (.int .u32 Zt) ∧ w'.cell? ⟨gb149, 5, none⟩ = some (.int .u32 Zu) ∧ w'.cell? ⟨gb149, 6, none⟩ = some (.int .u32 Zv) ∧ w'.cell? ⟨gb149, 7, none⟩ = some (.int .u32 Zw) ∧ w'.cell? ⟨gb149, 8, none⟩ = some (.int .u32 Zx) ∧ w'.cell? ⟨gb149, 9, none⟩ = some (.int .u32 Zy) ∧ w'.cell? ⟨gb149, 10, none⟩ = some (.int .u32 Zz) ∧ w'.cell? ⟨gb149, 11, none⟩ = some (.int .u32 Z10) ∧ w'.cell? ⟨gb149, 12, none⟩ = some (.int .u32 Z11) ∧ w'.cell? ⟨gb149, 13, none⟩ = some (.int .u32 Z12) ∧ w'.cell? ⟨gb149, 14, none⟩ = some (.int .u32 Z13) ∧ w'.cell? ⟨gb149, 15, none⟩ = some (.int .u32 Z14)) (ds := []) #[false, false, false, false, false, false, false, false, false, false, false, false, false, false, false, false] (by kernel_rfl) rfl rfl ⟨(blk_cell BK149.out 0).trans rfl, (blk_cell BK149.out 1).trans rfl, (blk_cell BK149.out 2).trans rfl, (blk_cell BK149.out 3).trans rfl, (blk_cell BK149.out 4).trans rfl, (blk_cell BK149.out 5).trans rfl, (blk_cell BK149.out 6).trans rfl, (blk_cell BK149.out 7).trans rfl, (blk_cell BK149.out 8).trans rfl, (blk_cell BK149.out 9).trans rfl, (blk_cell BK149.out 10).trans rfl, (blk_cell BK149.out 11).trans rfl, (blk_cell BK149.out 12).trans rfl, (blk_cell BK149.out 13).trans rfl, (blk_cell BK149.out 14).trans rfl, (blk_cell BK149.out 15).trans rfl⟩ (fun hHeld => ?_); refine with_tabW data_Of.tab19 data_Of.bits19 (fun HT_ HW_ => ?_)
           generalize wr.drew = w176 at BK148 BK149 BK167 HB hHeld ⊢
           refine Mine.pS 0 (some 54) ?_ (hc := any_of HT_.out (by kernel_rfl)); refine Mine.pS 1 (some 55) ?_ (hc := any_of HT_.out (by kernel_rfl)); refine Mine.pS 2 (some 56) ?_ (hc := any_of HT_.out (by kernel_rfl)); refine Mine.pS 3 (some 57) ?_ (hc := any_of HT_.out (by kernel_rfl)); refine Mine.pS 4 (some 58) ?_ (hc := any_of HT_.out (by kernel_rfl)); refine Mine.pS 6 (some 60) ?_ (hc := any_of HT_.out (by kernel_rfl)); refine Mine.pS 7 (some 61) ?_ (hc := any_of HT_.out (by kernel_rfl)); refine Mine.pS 8 (some 62) ?_ (hc := any_of HT_.out (by kernel_rfl)); refine Mine.pS 9 (some 63) ?_ (hc := any_of HT_.out (by kernel_rfl)); refine Mine.pS 10 (some 64) ?_ (hc := any_of HT_.out (by kernel_rfl)); refine Mine.pS 13 (some 67) ?_ (hc := any_of HT_.out (by kernel_rfl)); refine Mine.tS 5 (some 59) hHeld ?_ (hc := take_ofW HT_.out HW_.out (by kernel_rfl)); refine Mine.tS 11 (some 65) hHeld ?_ (hc := take_ofW HT_.out HW_.out (by kernel_rfl))
           refine one_ (i := 12) (N := some 66) #[true, true, true, true, true, true, true, true, true, true, true, true, true, true, false, false] rfl rfl (one_of HT_.out (by kernel_rfl)) (by decide) (fun K hK => ?_)
           refine goes_ Try.func37 (by kernel_rfl) rfl #[.int .u32 Zv, .int .u32 Zw] (by rfl) rfl rfl (by (try simp only [List.map_toArray, List.map_cons, List.map_nil]); first | done | rfl | (simp only [List.length_drop, List.length_take]; rfl)) ?_
           with_reducible refine (data_joined.calls Zv Zw t169 _ A175.out).mono ?_
           rintro e w' ⟨rfl, ⟨nd, rfl⟩⟩
           refine ⟨_, rfl, ?_⟩
           refine hK.out _ _ ⟨(blk_cell BK149.out 0).trans rfl, (blk_cell BK149.out 1).trans rfl, (blk_cell BK149.out 2).trans rfl, (blk_cell BK149.out 3).trans rfl, (blk_cell BK149.out 4).trans rfl, (blk_cell BK149.out 5).trans rfl, (blk_cell BK149.out 6).trans rfl, (blk_cell BK149.out 7).trans rfl, (blk_cell BK149.out 8).trans rfl, (blk_cell BK149.out 9).trans rfl, (blk_cell BK149.out 10).trans rfl, (blk_cell BK149.out 11).trans rfl, (blk_cell BK149.out 12).trans rfl, (blk_cell BK149.out 13).trans rfl, (blk_cell BK149.out 14).trans rfl, (blk_cell BK149.out 15).trans rfl⟩ (fun hHeld => ?_)
           clear hK K
           refine norm_ (a' := ?_) ?_ ?_
           rotate_left
           ·show Act.put _ (some 66) _ = _
            simp only [Act.put, List.setIfInBounds_toArray, List.set_cons_zero, List.set_cons_succ, i64_w, i32_w]
            rfl
           refine Mine.pS 14 (some 68) ?_ (hc := any_of HT_.out (by kernel_rfl))
           refine one_ (i := 15) (N := none) #[true, true, true, true, true, true, true, true, true, true, true, true, true, true, true, true] rfl rfl (one_of HT_.out (by kernel_rfl)) (by decide) (fun K hK => ?_)
           have hs177 : w176.cell? ⟨gb167, 4, none⟩ = some (.int .u64 Z1m) := (blk_cell BK167.out 4).trans rfl
           have hfs177 := blk_frozen BK167.out 4
           have hns177_0 := NB148_167.out
           have hns177_1 := NB149_167.out
           have hms177_0 := NB167_148.out
           have hms177_1 := NB167_149.out
           refine skip_ (w1 := ?_) (by rfl) rfl ?_ ?_
           rotate_left
           ·go_simp
            rfl
           refine hK.out _ _ ⟨((cell_far (p := ⟨gb167, _, none⟩) NB149_167.out _).trans (hHeld.1)), ((cell_far (p := ⟨gb167, _, none⟩) NB149_167.out _).trans (hHeld.2.1)), ((cell_far (p := ⟨gb167, _, none⟩) NB149_167.out _).trans (hHeld.2.2.1)), ((cell_far (p := ⟨gb167, _, none⟩) NB149_167.out _).trans (hHeld.2.2.2.1)), ((cell_far (p := ⟨gb167, _, none⟩) NB149_167.out _).trans (hHeld.2.2.2.2.1)), ((cell_far (p := ⟨gb167, _, none⟩) NB149_167.out _).trans (hHeld.2.2.2.2.2.1)), ((cell_far (p := ⟨gb167, _, none⟩) NB149_167.out _).trans (hHeld.2.2.2.2.2.2.1)), ((cell_far (p := ⟨gb167, _, none⟩) NB149_167.out _).trans (hHeld.2.2.2.2.2.2.2.1)), ((cell_far (p := ⟨gb167, _, none⟩) NB149_167.out _).trans (hHeld.2.2.2.2.2.2.2.2.1)), ((cell_far (p := ⟨gb167, _, none⟩) NB149_167.out _).trans (hHeld.2.2.2.2.2.2.2.2.2.1)), ((cell_far (p := ⟨gb167, _, none⟩) NB149_167.out _).trans (hHeld.2.2.2.2.2.2.2.2.2.2.1)), ((cell_far (p := ⟨gb167, _, none⟩) NB149_167.out _).trans (hHeld.2.2.2.2.2.2.2.2.2.2.2.1)), ((cell_far (p := ⟨gb167, _, none⟩) NB149_167.out _).trans (hHeld.2.2.2.2.2.2.2.2.2.2.2.2.1)), ((cell_far (p := ⟨gb167, _, none⟩) NB149_167.out _).trans (hHeld.2.2.2.2.2.2.2.2.2.2.2.2.2.1)), ((cell_far (p := ⟨gb167, _, none⟩) NB149_167.out _).trans (hHeld.2.2.2.2.2.2.2.2.2.2.2.2.2.2.1)), ((cell_far (p := ⟨gb167, _, none⟩) NB149_167.out _).trans (hHeld.2.2.2.2.2.2.2.2.2.2.2.2.2.2.2))⟩ (fun hHeld => ?_)
           clear hK K
           refine done_ (done_of HT_.out (by kernel_rfl)) ?_
           try go_wp2
           go_roundg k2
           case measure => have := HK1.out; have := HK2.out; omega
           case rel => exact ⟨(2), (Z1l), (t169), (Z1n), (Z1o), (Z1p), (Z1q), (by first | rfl | (simp; done) | (simp [*]; done)), H', ⟨by have := HK1.out; have := HK2.out; omega⟩, ⟨by (with_reducible repeat (first | refine blk_drewN ?_ _ | refine blk_drew ?_ | refine blk_alloc ?_ _)); refine blk_far ?_ NB148_167.out _; (with_reducible repeat (first | refine blk_drewN ?_ _ | refine blk_drew ?_ | refine blk_alloc ?_ _)); exact BK148.out⟩, ⟨by (with_reducible repeat (first | refine blk_drewN ?_ _ | refine blk_drew ?_ | refine blk_alloc ?_ _)); refine blk_far ?_ NB149_167.out _; (with_reducible repeat (first | refine blk_drewN ?_ _ | refine blk_drew ?_ | refine blk_alloc ?_ _)); exact BK149.out⟩, ⟨by (with_reducible repeat (first | refine blk_drewN ?_ _ | refine blk_drew ?_ | refine blk_alloc ?_ _)); refine blk_put (cs := #[.int .u32 Zp, .int .u32 Zq, .int .u64 t166, .int .u64 Z1l, .int .u64 Z1m, .int .u64 Z1n, .int .u64 Z1o, .int .u64 Z1p, .int .u64 Z1q]) ?_ 4 _ rfl; (with_reducible repeat (first | refine blk_drewN ?_ _ | refine blk_drew ?_ | refine blk_alloc ?_ _)); exact BK167.out⟩, ⟨by repeat (first | (with_reducible first | exact HB.out | apply below_alloc | apply pw_below_drewN | apply below_drew1 | refine below_set ?_ GE148.out | refine below_set ?_ GE149.out | refine below_set ?_ GE167.out) | exact HB.out)⟩⟩
          ·rw [if_neg c174] at H
           clear c174
           by_cases c178 : x51_2 = 2
           ·rw [if_pos c178] at H
            subst c178
            have wz_ : wrap64 4 = 4 ∧ wrap64 8 = 8 ∧ wrap64 9 = 9 := by simp [wrap64]
            obtain ⟨wz_, wz4_, wz5_⟩ := wz_
            replace H := Option.bind_eq_some_iff.mp H
            obtain ⟨t170, A1790, H⟩ := H
            replace H : (data_Of.l2 k2 3 Zp Zq Zr Zs Zt Zu Zv Zw Zx Zy Zz Z10 Z11 Z12 Z13 Z14 Zp Zq t166 Z1l Z1m t170 Z1o Z1p Z1q) = some (r1, r2, r3, r4, r5, r6, r7, r8, r9, r10) := H
            have A179 := Aside0.mk A1790
            clear A1790
            have H' := Aside0.mk H
            clear H
            try go_wp2
            have n0_ := Aside0.mk (blk_drew BK148.out)
            have n1_ := Aside0.mk (blk_drew BK149.out)
            have n2_ := Aside0.mk (blk_drew BK167.out)
            have n3_ := Aside0.mk (below_drew1 HB.out)
            clear BK148
            clear BK149
            clear BK167
            clear HB
            have BK148 := n0_
            have BK149 := n1_
            have BK167 := n2_
            have HB := n3_
            clear n0_ n1_ n2_ n3_
            refine start_ (n := 16) (S := fun w' => w'.cell? ⟨gb149, 0, none⟩ = some (.int .u32 Zp) ∧ w'.cell? ⟨gb149, 1, none⟩ = some (.int .u32 Zq) ∧ w'.cell? ⟨gb149, 2, none⟩ = some (.int .u32 Zr) ∧ w'.cell? ⟨gb149, 3, none⟩ = some (.int .u32 Zs) ∧ w'.cell? ⟨gb149, 4, none⟩ = some (.int .u32 Zt) ∧ w'.cell? ⟨gb149, 5, none⟩ = some (.int .u32 Zu) ∧ w'.cell? ⟨gb149, 6, none⟩ = some (.int .u32 Zv) ∧ w'.cell? ⟨gb149, 7, none⟩ = some (.int .u32 Zw) ∧ w'.cell? ⟨gb149, 8, none⟩ = some (.int .u32 Zx) ∧ w'.cell? ⟨gb149, 9, none⟩ = some (.int .u32 Zy) ∧ w'.cell? ⟨gb149, 10, none⟩ = some (.int .u32 Zz) ∧ w'.cell? ⟨gb149, 11, none⟩ = some (.int .u32 Z10) ∧ w'.cell? ⟨gb149, 12, none⟩ = some (.int .u32 Z11) ∧ w'.cell? ⟨gb149, 13, none⟩ = some (.int .u32 Z12) ∧ w'.cell? ⟨gb149, 14, none⟩ = some (.int .u32 Z13) ∧ w'.cell? ⟨gb149, 15, none⟩ = some (.int .u32 Z14)) (ds := []) #[false, false, false, false, false, false, false, false, false, false, false, false, false, false, false, false] (by kernel_rfl) rfl rfl ⟨(blk_cell BK149.out 0).trans rfl, (blk_cell BK149.out 1).trans rfl, (blk_cell BK149.out 2).trans rfl, (blk_cell BK149.out 3).trans rfl, (blk_cell BK149.out 4).trans rfl, (blk_cell BK149.out 5).trans rfl, (blk_cell BK149.out 6).trans rfl, (blk_cell BK149.out 7).trans rfl, (blk_cell BK149.out 8).trans rfl, (blk_cell BK149.out 9).trans rfl, (blk_cell BK149.out 10).trans rfl, (blk_cell BK149.out 11).trans rfl, (blk_cell BK149.out 12).trans rfl, (blk_cell BK149.out 13).trans rfl, (blk_cell BK149.out 14).trans rfl, (blk_cell BK149.out 15).trans rfl⟩ (fun hHeld => ?_); refine with_tabW data_Of.tab19 data_Of.bits19 (fun HT_ HW_ => ?_)
            generalize wr.drew = w180 at BK148 BK149 BK167 HB hHeld ⊢
            refine Mine.pS 0 (some 54) ?_ (hc := any_of HT_.out (by kernel_rfl)); refine Mine.pS 1 (some 55) ?_ (hc := any_of HT_.out (by kernel_rfl)); refine Mine.pS 2 (some 56) ?_ (hc := any_of HT_.out (by kernel_rfl)); refine Mine.pS 3 (some 57) ?_ (hc := any_of HT_.out (by kernel_rfl)); refine Mine.pS 4 (some 58) ?_ (hc := any_of HT_.out (by kernel_rfl)); refine Mine.pS 6 (some 60) ?_ (hc := any_of HT_.out (by kernel_rfl)); refine Mine.pS 7 (some 61) ?_ (hc := any_of HT_.out (by kernel_rfl)); refine Mine.pS 8 (some 62) ?_ (hc := any_of HT_.out (by kernel_rfl)); refine Mine.pS 9 (some 63) ?_ (hc := any_of HT_.out (by kernel_rfl)); refine Mine.pS 10 (some 64) ?_ (hc := any_of HT_.out (by kernel_rfl)); refine Mine.pS 13 (some 67) ?_ (hc := any_of HT_.out (by kernel_rfl)); refine Mine.tS 5 (some 59) hHeld ?_ (hc := take_ofW HT_.out HW_.out (by kernel_rfl)); refine Mine.tS 11 (some 65) hHeld ?_ (hc := take_ofW HT_.out HW_.out (by kernel_rfl))
            refine one_ (i := 12) (N := some 66) #[true, true, true, true, true, true, true, true, true, true, true, true, true, true, false, false] rfl rfl (one_of HT_.out (by kernel_rfl)) (by decide) (fun K hK => ?_)
            refine goes_ Try.func37 (by kernel_rfl) rfl #[.int .u32 Zx, .int .u32 Zy] (by rfl) rfl rfl (by (try simp only [List.map_toArray, List.map_cons, List.map_nil]); first | done | rfl | (simp only [List.length_drop, List.length_take]; rfl)) ?_
            with_reducible refine (data_joined.calls Zx Zy t170 _ A179.out).mono ?_
            rintro e w' ⟨rfl, ⟨nd, rfl⟩⟩
            refine ⟨_, rfl, ?_⟩
            refine hK.out _ _ ⟨(blk_cell BK149.out 0).trans rfl, (blk_cell BK149.out 1).trans rfl, (blk_cell BK149.out 2).trans rfl, (blk_cell BK149.out 3).trans rfl, (blk_cell BK149.out 4).trans rfl, (blk_cell BK149.out 5).trans rfl, (blk_cell BK149.out 6).trans rfl, (blk_cell BK149.out 7).trans rfl, (blk_cell BK149.out 8).trans rfl, (blk_cell BK149.out 9).trans rfl, (blk_cell BK149.out 10).trans rfl, (blk_cell BK149.out 11).trans rfl, (blk_cell BK149.out 12).trans rfl, (blk_cell BK149.out 13).trans rfl, (blk_cell BK149.out 14).trans rfl, (blk_cell BK149.out 15).trans rfl⟩ (fun hHeld => ?_)
            clear hK K
            refine norm_ (a' := ?_) ?_ ?_
            rotate_left
            ·show Act.put _ (some 66) _ = _
             simp only [Act.put, List.setIfInBounds_toArray, List.set_cons_zero, List.set_cons_succ, i64_w, i32_w]
             rfl
            refine Mine.pS 14 (some 68) ?_ (hc := any_of HT_.out (by kernel_rfl))
            refine one_ (i := 15) (N := none) #[true, true, true, true, true, true, true, true, true, true, true, true, true, true, true, true] rfl rfl (one_of HT_.out (by kernel_rfl)) (by decide) (fun K hK => ?_)
            have hs181 : w180.cell? ⟨gb167, 5, none⟩ = some (.int .u64 Z1n) := (blk_cell BK167.out 5).trans rfl
            have hfs181 := blk_frozen BK167.out 5
            have hns181_0 := NB148_167.out
            have hns181_1 := NB149_167.out
            have hms181_0 := NB167_148.out
            have hms181_1 := NB167_149.out
            refine skip_ (w1 := ?_) (by rfl) rfl ?_ ?_
            rotate_left
            ·go_simp
             rfl
            refine hK.out _ _ ⟨((cell_far (p := ⟨gb167, _, none⟩) NB149_167.out _).trans (hHeld.1)), ((cell_far (p := ⟨gb167, _, none⟩) NB149_167.out _).trans (hHeld.2.1)), ((cell_far (p := ⟨gb167, _, none⟩) NB149_167.out _).trans (hHeld.2.2.1)), ((cell_far (p := ⟨gb167, _, none⟩) NB149_167.out _).trans (hHeld.2.2.2.1)), ((cell_far (p := ⟨gb167, _, none⟩) NB149_167.out _).trans (hHeld.2.2.2.2.1)), ((cell_far (p := ⟨gb167, _, none⟩) NB149_167.out _).trans (hHeld.2.2.2.2.2.1)), ((cell_far (p := ⟨gb167, _, none⟩) NB149_167.out _).trans (hHeld.2.2.2.2.2.2.1)), ((cell_far (p := ⟨gb167, _, none⟩) NB149_167.out _).trans (hHeld.2.2.2.2.2.2.2.1)), ((cell_far (p := ⟨gb167, _, none⟩) NB149_167.out _).trans (hHeld.2.2.2.2.2.2.2.2.1)), ((cell_far (p := ⟨gb167, _, none⟩) NB149_167.out _).trans (hHeld.2.2.2.2.2.2.2.2.2.1)), ((cell_far (p := ⟨gb167, _, none⟩) NB149_167.out _).trans (hHeld.2.2.2.2.2.2.2.2.2.2.1)), ((cell_far (p := ⟨gb167, _, none⟩) NB149_167.out _).trans (hHeld.2.2.2.2.2.2.2.2.2.2.2.1)), ((cell_far (p := ⟨gb167, _, none⟩) NB149_167.out _).trans (hHeld.2.2.2.2.2.2.2.2.2.2.2.2.1)), ((cell_far (p := ⟨gb167, _, none⟩) NB149_167.out _).trans (hHeld.2.2.2.2.2.2.2.2.2.2.2.2.2.1)), ((cell_far (p := ⟨gb167, _, none⟩) NB149_167.out _).trans (hHeld.2.2.2.2.2.2.2.2.2.2.2.2.2.2.1)), ((cell_far (p := ⟨gb167, _, none⟩) NB149_167.out _).trans (hHeld.2.2.2.2.2.2.2.2.2.2.2.2.2.2.2))⟩ (fun hHeld => ?_)
            clear hK K
            refine done_ (done_of HT_.out (by kernel_rfl)) ?_
            try go_wp2
            go_roundg k2
            case measure => have := HK1.out; have := HK2.out; omega
            case rel => exact ⟨(3), (Z1l), (Z1m), (t170), (Z1o), (Z1p), (Z1q), (by first | rfl | (simp; done) | (simp [*]; done)), H', ⟨by have := HK1.out; have := HK2.out; omega⟩, ⟨by (with_reducible repeat (first | refine blk_drewN ?_ _ | refine blk_drew ?_ | refine blk_alloc ?_ _)); refine blk_far ?_ NB148_167.out _; (with_reducible repeat (first | refine blk_drewN ?_ _ | refine blk_drew ?_ | refine blk_alloc ?_ _)); exact BK148.out⟩, ⟨by (with_reducible repeat (first | refine blk_drewN ?_ _ | refine blk_drew ?_ | refine blk_alloc ?_ _)); refine blk_far ?_ NB149_167.out _; (with_reducible repeat (first | refine blk_drewN ?_ _ | refine blk_drew ?_ | refine blk_alloc ?_ _)); exact BK149.out⟩, ⟨by (with_reducible repeat (first | refine blk_drewN ?_ _ | refine blk_drew ?_ | refine blk_alloc ?_ _)); refine blk_put (cs := #[.int .u32 Zp, .int .u32 Zq, .int .u64 t166, .int .u64 Z1l, .int .u64 Z1m, .int .u64 Z1n, .int .u64 Z1o, .int .u64 Z1p, .int .u64 Z1q]) ?_ 5 _ rfl; (with_reducible repeat (first | refine blk_drewN ?_ _ | refine blk_drew ?_ | refine blk_alloc ?_ _)); exact BK167.out⟩, ⟨by repeat (first | (with_reducible first | exact HB.out | apply below_alloc | apply pw_below_drewN | apply below_drew1 | refine below_set ?_ GE148.out | refine below_set ?_ GE149.out | refine below_set ?_ GE167.out) | exact HB.out)⟩⟩
           ·rw [if_neg c178] at H
            clear c178
            by_cases c182 : x51_2 = 3
            ·rw [if_pos c182] at H
             subst c182
             have wz_ : wrap64 6 = 6 ∧ wrap64 10 = 10 ∧ wrap64 11 = 11 := by simp [wrap64]
             obtain ⟨wz_, wz4_, wz5_⟩ := wz_
             replace H := Option.bind_eq_some_iff.mp H
             obtain ⟨t171, A1830, H⟩ := H
             replace H : (data_Of.l2 k2 4 Zp Zq Zr Zs Zt Zu Zv Zw Zx Zy Zz Z10 Z11 Z12 Z13 Z14 Zp Zq t166 Z1l Z1m Z1n t171 Z1p Z1q) = some (r1, r2, r3, r4, r5, r6, r7, r8, r9, r10) := H
             have A183 := Aside0.mk A1830
             clear A1830
             have H' := Aside0.mk H
             clear H
             try go_wp2
             have n0_ := Aside0.mk (blk_drew BK148.out)
             have n1_ := Aside0.mk (blk_drew BK149.out)
             have n2_ := Aside0.mk (blk_drew BK167.out)
             have n3_ := Aside0.mk (below_drew1 HB.out)
             clear BK148
             clear BK149
             clear BK167
             clear HB
             have BK148 := n0_
             have BK149 := n1_
             have BK167 := n2_
             have HB := n3_
             clear n0_ n1_ n2_ n3_
             refine start_ (n := 16) (S := fun w' => w'.cell? ⟨gb149, 0, none⟩ = some (.int .u32 Zp) ∧ w'.cell? ⟨gb149, 1, none⟩ = some (.int .u32 Zq) ∧ w'.cell? ⟨gb149, 2, none⟩ = some (.int .u32 Zr) ∧ w'.cell? ⟨gb149, 3, none⟩ = some (.int .u32 Zs) ∧ w'.cell? ⟨gb149, 4, none⟩ = some (.int .u32 Zt) ∧ w'.cell? ⟨gb149, 5, none⟩ = some (.int .u32 Zu) ∧ w'.cell? ⟨gb149, 6, none⟩ = some (.int .u32 Zv) ∧ w'.cell? ⟨gb149, 7, none⟩ = some (.int .u32 Zw) ∧ w'.cell? ⟨gb149, 8, none⟩ = some (.int .u32 Zx) ∧ w'.cell? ⟨gb149, 9, none⟩ = some (.int .u32 Zy) ∧ w'.cell? ⟨gb149, 10, none⟩ = some (.int .u32 Zz) ∧ w'.cell? ⟨gb149, 11, none⟩ = some (.int .u32 Z10) ∧ w'.cell? ⟨gb149, 12, none⟩ = some (.int .u32 Z11) ∧ w'.cell? ⟨gb149, 13, none⟩ = some (.int .u32 Z12) ∧ w'.cell? ⟨gb149, 14, none⟩ = some (.int .u32 Z13) ∧ w'.cell? ⟨gb149, 15, none⟩ = some (.int .u32 Z14)) (ds := []) #[false, false, false, false, false, false, false, false, false, false, false, false, false, false, false, false] (by kernel_rfl) rfl rfl ⟨(blk_cell BK149.out 0).trans rfl, (blk_cell BK149.out 1).trans rfl, (blk_cell BK149.out 2).trans rfl, (blk_cell BK149.out 3).trans rfl, (blk_cell BK149.out 4).trans rfl, (blk_cell BK149.out 5).trans rfl, (blk_cell BK149.out 6).trans rfl, (blk_cell BK149.out 7).trans rfl, (blk_cell BK149.out 8).trans rfl, (blk_cell BK149.out 9).trans rfl, (blk_cell BK149.out 10).trans rfl, (blk_cell BK149.out 11).trans rfl, (blk_cell BK149.out 12).trans rfl, (blk_cell BK149.out 13).trans rfl, (blk_cell BK149.out 14).trans rfl, (blk_cell BK149.out 15).trans rfl⟩ (fun hHeld => ?_); refine with_tabW data_Of.tab19 data_Of.bits19 (fun HT_ HW_ => ?_)
             generalize wr.drew = w184 at BK148 BK149 BK167 HB hHeld ⊢
             refine Mine.pS 0 (some 54) ?_ (hc := any_of HT_.out (by kernel_rfl)); refine Mine.pS 1 (some 55) ?_ (hc := any_of HT_.out (by kernel_rfl)); refine Mine.pS 2 (some 56) ?_ (hc := any_of HT_.out (by kernel_rfl)); refine Mine.pS 3 (some 57) ?_ (hc := any_of HT_.out (by kernel_rfl)); refine Mine.pS 4 (some 58) ?_ (hc := any_of HT_.out (by kernel_rfl)); refine Mine.pS 6 (some 60) ?_ (hc := any_of HT_.out (by kernel_rfl)); refine Mine.pS 7 (some 61) ?_ (hc := any_of HT_.out (by kernel_rfl)); refine Mine.pS 8 (some 62) ?_ (hc := any_of HT_.out (by kernel_rfl)); refine Mine.pS 9 (some 63) ?_ (hc := any_of HT_.out (by kernel_rfl)); refine Mine.pS 10 (some 64) ?_ (hc := any_of HT_.out (by kernel_rfl)); refine Mine.pS 13 (some 67) ?_ (hc := any_of HT_.out (by kernel_rfl)); refine Mine.tS 5 (some 59) hHeld ?_ (hc := take_ofW HT_.out HW_.out (by kernel_rfl)); refine Mine.tS 11 (some 65) hHeld ?_ (hc := take_ofW HT_.out HW_.out (by kernel_rfl))
             refine one_ (i := 12) (N := some 66) #[true, true, true, true, true, true, true, true, true, true, true, true, true, true, false, false] rfl rfl (one_of HT_.out (by kernel_rfl)) (by decide) (fun K hK => ?_)
             refine goes_ Try.func37 (by kernel_rfl) rfl #[.int .u32 Zz, .int .u32 Z10] (by rfl) rfl rfl (by (try simp only [List.map_toArray, List.map_cons, List.map_nil]); first | done | rfl | (simp only [List.length_drop, List.length_take]; rfl)) ?_
             with_reducible refine (data_joined.calls Zz Z10 t171 _ A183.out).mono ?_
             rintro e w' ⟨rfl, ⟨nd, rfl⟩⟩
             refine ⟨_, rfl, ?_⟩
             refine hK.out _ _ ⟨(blk_cell BK149.out 0).trans rfl, (blk_cell BK149.out 1).trans rfl, (blk_cell BK149.out 2).trans rfl, (blk_cell BK149.out 3).trans rfl, (blk_cell BK149.out 4).trans rfl, (blk_cell BK149.out 5).trans rfl, (blk_cell BK149.out 6).trans rfl, (blk_cell BK149.out 7).trans rfl, (blk_cell BK149.out 8).trans rfl, (blk_cell BK149.out 9).trans rfl, (blk_cell BK149.out 10).trans rfl, (blk_cell BK149.out 11).trans rfl, (blk_cell BK149.out 12).trans rfl, (blk_cell BK149.out 13).trans rfl, (blk_cell BK149.out 14).trans rfl, (blk_cell BK149.out 15).trans rfl⟩ (fun hHeld => ?_)
             clear hK K
             refine norm_ (a' := ?_) ?_ ?_
             rotate_left
             ·show Act.put _ (some 66) _ = _
              simp only [Act.put, List.setIfInBounds_toArray, List.set_cons_zero, List.set_cons_succ, i64_w, i32_w]
              rfl
             refine Mine.pS 14 (some 68) ?_ (hc := any_of HT_.out (by kernel_rfl))
             refine one_ (i := 15) (N := none) #[true, true, true, true, true, true, true, true, true, true, true, true, true, true, true, true] rfl rfl (one_of HT_.out (by kernel_rfl)) (by decide) (fun K hK => ?_)
             have hs185 : w184.cell? ⟨gb167, 6, none⟩ = some (.int .u64 Z1o) := (blk_cell BK167.out 6).trans rfl
             have hfs185 := blk_frozen BK167.out 6
             have hns185_0 := NB148_167.out
             have hns185_1 := NB149_167.out
             have hms185_0 := NB167_148.out
             have hms185_1 := NB167_149.out
             refine skip_ (w1 := ?_) (by rfl) rfl ?_ ?_
             rotate_left
             ·go_simp
              rfl
             refine hK.out _ _ ⟨((cell_far (p := ⟨gb167, _, none⟩) NB149_167.out _).trans (hHeld.1)), ((cell_far (p := ⟨gb167, _, none⟩) NB149_167.out _).trans (hHeld.2.1)), ((cell_far (p := ⟨gb167, _, none⟩) NB149_167.out _).trans (hHeld.2.2.1)), ((cell_far (p := ⟨gb167, _, none⟩) NB149_167.out _).trans (hHeld.2.2.2.1)), ((cell_far (p := ⟨gb167, _, none⟩) NB149_167.out _).trans (hHeld.2.2.2.2.1)), ((cell_far (p := ⟨gb167, _, none⟩) NB149_167.out _).trans (hHeld.2.2.2.2.2.1)), ((cell_far (p := ⟨gb167, _, none⟩) NB149_167.out _).trans (hHeld.2.2.2.2.2.2.1)), ((cell_far (p := ⟨gb167, _, none⟩) NB149_167.out _).trans (hHeld.2.2.2.2.2.2.2.1)), ((cell_far (p := ⟨gb167, _, none⟩) NB149_167.out _).trans (hHeld.2.2.2.2.2.2.2.2.1)), ((cell_far (p := ⟨gb167, _, none⟩) NB149_167.out _).trans (hHeld.2.2.2.2.2.2.2.2.2.1)), ((cell_far (p := ⟨gb167, _, none⟩) NB149_167.out _).trans (hHeld.2.2.2.2.2.2.2.2.2.2.1)), ((cell_far (p := ⟨gb167, _, none⟩) NB149_167.out _).trans (hHeld.2.2.2.2.2.2.2.2.2.2.2.1)), ((cell_far (p := ⟨gb167, _, none⟩) NB149_167.out _).trans (hHeld.2.2.2.2.2.2.2.2.2.2.2.2.1)), ((cell_far (p := ⟨gb167, _, none⟩) NB149_167.out _).trans (hHeld.2.2.2.2.2.2.2.2.2.2.2.2.2.1)), ((cell_far (p := ⟨gb167, _, none⟩) NB149_167.out _).trans (hHeld.2.2.2.2.2.2.2.2.2.2.2.2.2.2.1)), ((cell_far (p := ⟨gb167, _, none⟩) NB149_167.out _).trans (hHeld.2.2.2.2.2.2.2.2.2.2.2.2.2.2.2))⟩ (fun hHeld => ?_)
             clear hK K
             refine done_ (done_of HT_.out (by kernel_rfl)) ?_
             try go_wp2
             go_roundg k2
             case measure => have := HK1.out; have := HK2.out; omega
             case rel => exact ⟨(4), (Z1l), (Z1m), (Z1n), (t171), (Z1p), (Z1q), (by first | rfl | (simp; done) | (simp [*]; done)), H', ⟨by have := HK1.out; have := HK2.out; omega⟩, ⟨by (with_reducible repeat (first | refine blk_drewN ?_ _ | refine blk_drew ?_ | refine blk_alloc ?_ _)); refine blk_far ?_ NB148_167.out _; (with_reducible repeat (first | refine blk_drewN ?_ _ | refine blk_drew ?_ | refine blk_alloc ?_ _)); exact BK148.out⟩, ⟨by (with_reducible repeat (first | refine blk_drewN ?_ _ | refine blk_drew ?_ | refine blk_alloc ?_ _)); refine blk_far ?_ NB149_167.out _; (with_reducible repeat (first | refine blk_drewN ?_ _ | refine blk_drew ?_ | refine blk_alloc ?_ _)); exact BK149.out⟩, ⟨by (with_reducible repeat (first | refine blk_drewN ?_ _ | refine blk_drew ?_ | refine blk_alloc ?_ _)); refine blk_put (cs := #[.int .u32 Zp, .int .u32 Zq, .int .u64 t166, .int .u64 Z1l, .int .u64 Z1m, .int .u64 Z1n, .int .u64 Z1o, .int .u64 Z1p, .int .u64 Z1q]) ?_ 6 _ rfl; (with_reducible repeat (first | refine blk_drewN ?_ _ | refine blk_drew ?_ | refine blk_alloc ?_ _)); exact BK167.out⟩, ⟨by repeat (first | (with_reducible first | exact HB.out | apply below_alloc | apply pw_below_drewN | apply below_drew1 | refine below_set ?_ GE148.out | refine below_set ?_ GE149.out | refine below_set ?_ GE167.out) | exact HB.out)⟩⟩
            ·rw [if_neg c182] at H
             clear c182
             by_cases c186 : x51_2 = 4
             ·rw [if_pos c186] at H
              subst c186
              have wz_ : wrap64 8 = 8 ∧ wrap64 12 = 12 ∧ wrap64 13 = 13 := by simp [wrap64]
              obtain ⟨wz_, wz4_, wz5_⟩ := wz_
              replace H := Option.bind_eq_some_iff.mp H
              obtain ⟨t172, A1870, H⟩ := H
              replace H : (data_Of.l2 k2 5 Zp Zq Zr Zs Zt Zu Zv Zw Zx Zy Zz Z10 Z11 Z12 Z13 Z14 Zp Zq t166 Z1l Z1m Z1n Z1o t172 Z1q) = some (r1, r2, r3, r4, r5, r6, r7, r8, r9, r10) := H
              have A187 := Aside0.mk A1870
              clear A1870
              have H' := Aside0.mk H
              clear H
              try go_wp2
              have n0_ := Aside0.mk (blk_drew BK148.out)
              have n1_ := Aside0.mk (blk_drew BK149.out)
              have n2_ := Aside0.mk (blk_drew BK167.out)
              have n3_ := Aside0.mk (below_drew1 HB.out)
              clear BK148
              clear BK149
              clear BK167
              clear HB
              have BK148 := n0_
              have BK149 := n1_
              have BK167 := n2_
              have HB := n3_
              clear n0_ n1_ n2_ n3_
              refine start_ (n := 16) (S := fun w' => w'.cell? ⟨gb149, 0, none⟩ = some (.int .u32 Zp) ∧ w'.cell? ⟨gb149, 1, none⟩ = some (.int .u32 Zq) ∧ w'.cell? ⟨gb149, 2, none⟩ = some (.int .u32 Zr) ∧ w'.cell? ⟨gb149, 3, none⟩ = some (.int .u32 Zs) ∧ w'.cell? ⟨gb149, 4, none⟩ = some (.int .u32 Zt) ∧ w'.cell? ⟨gb149, 5, none⟩ = some (.int .u32 Zu) ∧ w'.cell? ⟨gb149, 6, none⟩ = some (.int .u32 Zv) ∧ w'.cell? ⟨gb149, 7, none⟩ = some (.int .u32 Zw) ∧ w'.cell? ⟨gb149, 8, none⟩ = some (.int .u32 Zx) ∧ w'.cell? ⟨gb149, 9, none⟩ = some (.int .u32 Zy) ∧ w'.cell? ⟨gb149, 10, none⟩ = some (.int .u32 Zz) ∧ w'.cell? ⟨gb149, 11, none⟩ = some (.int .u32 Z10) ∧ w'.cell? ⟨gb149, 12, none⟩ = some (.int .u32 Z11) ∧ w'.cell? ⟨gb149, 13, none⟩ = some (.int .u32 Z12) ∧ w'.cell? ⟨gb149, 14, none⟩ = some (.int .u32 Z13) ∧ w'.cell? ⟨gb149, 15, none⟩ = some (.int .u32 Z14)) (ds := []) #[false, false, false, false, false, false, false, false, false, false, false, false, false, false, false, false] (by kernel_rfl) rfl rfl ⟨(blk_cell BK149.out 0).trans rfl, (blk_cell BK149.out 1).trans rfl, (blk_cell BK149.out 2).trans rfl, (blk_cell BK149.out 3).trans rfl, (blk_cell BK149.out 4).trans rfl, (blk_cell BK149.out 5).trans rfl, (blk_cell BK149.out 6).trans rfl, (blk_cell BK149.out 7).trans rfl, (blk_cell BK149.out 8).trans rfl, (blk_cell BK149.out 9).trans rfl, (blk_cell BK149.out 10).trans rfl, (blk_cell BK149.out 11).trans rfl, (blk_cell BK149.out 12).trans rfl, (blk_cell BK149.out 13).trans rfl, (blk_cell BK149.out 14).trans rfl, (blk_cell BK149.out 15).trans rfl⟩ (fun hHeld => ?_); refine with_tabW data_Of.tab19 data_Of.bits19 (fun HT_ HW_ => ?_)
              generalize wr.drew = w188 at BK148 BK149 BK167 HB hHeld ⊢
              refine Mine.pS 0 (some 54) ?_ (hc := any_of HT_.out (by kernel_rfl)); refine Mine.pS 1 (some 55) ?_ (hc := any_of HT_.out (by kernel_rfl)); refine Mine.pS 2 (some 56) ?_ (hc := any_of HT_.out (by kernel_rfl)); refine Mine.pS 3 (some 57) ?_ (hc := any_of HT_.out (by kernel_rfl)); refine Mine.pS 4 (some 58) ?_ (hc := any_of HT_.out (by kernel_rfl)); refine Mine.pS 6 (some 60) ?_ (hc := any_of HT_.out (by kernel_rfl)); refine Mine.pS 7 (some 61) ?_ (hc := any_of HT_.out (by kernel_rfl)); refine Mine.pS 8 (some 62) ?_ (hc := any_of HT_.out (by kernel_rfl)); refine Mine.pS 9 (some 63) ?_ (hc := any_of HT_.out (by kernel_rfl)); refine Mine.pS 10 (some 64) ?_ (hc := any_of HT_.out (by kernel_rfl)); refine Mine.pS 13 (some 67) ?_ (hc := any_of HT_.out (by kernel_rfl)); refine Mine.tS 5 (some 59) hHeld ?_ (hc := take_ofW HT_.out HW_.out (by kernel_rfl)); refine Mine.tS 11 (some 65) hHeld ?_ (hc := take_ofW HT_.out HW_.out (by kernel_rfl))
              refine one_ (i := 12) (N := some 66) #[true, true, true, true, true, true, true, true, true, true, true, true, true, true, false, false] rfl rfl (one_of HT_.out (by kernel_rfl)) (by decide) (fun K hK => ?_)
              refine goes_ Try.func37 (by kernel_rfl) rfl #[.int .u32 Z11, .int .u32 Z12] (by rfl) rfl rfl (by (try simp only [List.map_toArray, List.map_cons, List.map_nil]); first | done | rfl | (simp only [List.length_drop, List.length_take]; rfl)) ?_
              with_reducible refine (data_joined.calls Z11 Z12 t172 _ A187.out).mono ?_
              rintro e w' ⟨rfl, ⟨nd, rfl⟩⟩
              refine ⟨_, rfl, ?_⟩
              refine hK.out _ _ ⟨(blk_cell BK149.out 0).trans rfl, (blk_cell BK149.out 1).trans rfl, (blk_cell BK149.out 2).trans rfl, (blk_cell BK149.out 3).trans rfl, (blk_cell BK149.out 4).trans rfl, (blk_cell BK149.out 5).trans rfl, (blk_cell BK149.out 6).trans rfl, (blk_cell BK149.out 7).trans rfl, (blk_cell BK149.out 8).trans rfl, (blk_cell BK149.out 9).trans rfl, (blk_cell BK149.out 10).trans rfl, (blk_cell BK149.out 11).trans rfl, (blk_cell BK149.out 12).trans rfl, (blk_cell BK149.out 13).trans rfl, (blk_cell BK149.out 14).trans rfl, (blk_cell BK149.out 15).trans rfl⟩ (fun hHeld => ?_)
              clear hK K
              refine norm_ (a' := ?_) ?_ ?_
              rotate_left
              ·show Act.put _ (some 66) _ = _
               simp only [Act.put, List.setIfInBounds_toArray, List.set_cons_zero, List.set_cons_succ, i64_w, i32_w]
               rfl
              refine Mine.pS 14 (some 68) ?_ (hc := any_of HT_.out (by kernel_rfl))
              refine one_ (i := 15) (N := none) #[true, true, true, true, true, true, true, true, true, true, true, true, true, true, true, true] rfl rfl (one_of HT_.out (by kernel_rfl)) (by decide) (fun K hK => ?_)
              have hs189 : w188.cell? ⟨gb167, 7, none⟩ = some (.int .u64 Z1p) := (blk_cell BK167.out 7).trans rfl
              have hfs189 := blk_frozen BK167.out 7
              have hns189_0 := NB148_167.out
              have hns189_1 := NB149_167.out
              have hms189_0 := NB167_148.out
              have hms189_1 := NB167_149.out
              refine skip_ (w1 := ?_) (by rfl) rfl ?_ ?_
              rotate_left
              ·go_simp
               rfl
              refine hK.out _ _ ⟨((cell_far (p := ⟨gb167, _, none⟩) NB149_167.out _).trans (hHeld.1)), ((cell_far (p := ⟨gb167, _, none⟩) NB149_167.out _).trans (hHeld.2.1)), ((cell_far (p := ⟨gb167, _, none⟩) NB149_167.out _).trans (hHeld.2.2.1)), ((cell_far (p := ⟨gb167, _, none⟩) NB149_167.out _).trans (hHeld.2.2.2.1)), ((cell_far (p := ⟨gb167, _, none⟩) NB149_167.out _).trans (hHeld.2.2.2.2.1)), ((cell_far (p := ⟨gb167, _, none⟩) NB149_167.out _).trans (hHeld.2.2.2.2.2.1)), ((cell_far (p := ⟨gb167, _, none⟩) NB149_167.out _).trans (hHeld.2.2.2.2.2.2.1)), ((cell_far (p := ⟨gb167, _, none⟩) NB149_167.out _).trans (hHeld.2.2.2.2.2.2.2.1)), ((cell_far (p := ⟨gb167, _, none⟩) NB149_167.out _).trans (hHeld.2.2.2.2.2.2.2.2.1)), ((cell_far (p := ⟨gb167, _, none⟩) NB149_167.out _).trans (hHeld.2.2.2.2.2.2.2.2.2.1)), ((cell_far (p := ⟨gb167, _, none⟩) NB149_167.out _).trans (hHeld.2.2.2.2.2.2.2.2.2.2.1)), ((cell_far (p := ⟨gb167, _, none⟩) NB149_167.out _).trans (hHeld.2.2.2.2.2.2.2.2.2.2.2.1)), ((cell_far (p := ⟨gb167, _, none⟩) NB149_167.out _).trans (hHeld.2.2.2.2.2.2.2.2.2.2.2.2.1)), ((cell_far (p := ⟨gb167, _, none⟩) NB149_167.out _).trans (hHeld.2.2.2.2.2.2.2.2.2.2.2.2.2.1)), ((cell_far (p := ⟨gb167, _, none⟩) NB149_167.out _).trans (hHeld.2.2.2.2.2.2.2.2.2.2.2.2.2.2.1)), ((cell_far (p := ⟨gb167, _, none⟩) NB149_167.out _).trans (hHeld.2.2.2.2.2.2.2.2.2.2.2.2.2.2.2))⟩ (fun hHeld => ?_)
              clear hK K
              refine done_ (done_of HT_.out (by kernel_rfl)) ?_
              try go_wp2
              go_roundg k2
              case measure => have := HK1.out; have := HK2.out; omega
              case rel => exact ⟨(5), (Z1l), (Z1m), (Z1n), (Z1o), (t172), (Z1q), (by first | rfl | (simp; done) | (simp [*]; done)), H', ⟨by have := HK1.out; have := HK2.out; omega⟩, ⟨by (with_reducible repeat (first | refine blk_drewN ?_ _ | refine blk_drew ?_ | refine blk_alloc ?_ _)); refine blk_far ?_ NB148_167.out _; (with_reducible repeat (first | refine blk_drewN ?_ _ | refine blk_drew ?_ | refine blk_alloc ?_ _)); exact BK148.out⟩, ⟨by (with_reducible repeat (first | refine blk_drewN ?_ _ | refine blk_drew ?_ | refine blk_alloc ?_ _)); refine blk_far ?_ NB149_167.out _; (with_reducible repeat (first | refine blk_drewN ?_ _ | refine blk_drew ?_ | refine blk_alloc ?_ _)); exact BK149.out⟩, ⟨by (with_reducible repeat (first | refine blk_drewN ?_ _ | refine blk_drew ?_ | refine blk_alloc ?_ _)); refine blk_put (cs := #[.int .u32 Zp, .int .u32 Zq, .int .u64 t166, .int .u64 Z1l, .int .u64 Z1m, .int .u64 Z1n, .int .u64 Z1o, .int .u64 Z1p, .int .u64 Z1q]) ?_ 7 _ rfl; (with_reducible repeat (first | refine blk_drewN ?_ _ | refine blk_drew ?_ | refine blk_alloc ?_ _)); exact BK167.out⟩, ⟨by repeat (first | (with_reducible first | exact HB.out | apply below_alloc | apply pw_below_drewN | apply below_drew1 | refine below_set ?_ GE148.out | refine below_set ?_ GE149.out | refine below_set ?_ GE167.out) | exact HB.out)⟩⟩
             ·rw [if_neg c186] at H
              clear c186
              by_cases c190 : x51_2 = 5
              ·rw [if_pos c190] at H
               subst c190
               have wz_ : wrap64 10 = 10 ∧ wrap64 14 = 14 ∧ wrap64 15 = 15 := by simp [wrap64]
               obtain ⟨wz_, wz4_, wz5_⟩ := wz_
               replace H := Option.bind_eq_some_iff.mp H
               obtain ⟨t173, A1910, H⟩ := H
               replace H : (data_Of.l2 k2 6 Zp Zq Zr Zs Zt Zu Zv Zw Zx Zy Zz Z10 Z11 Z12 Z13 Z14 Zp Zq t166 Z1l Z1m Z1n Z1o Z1p t173) = some (r1, r2, r3, r4, r5, r6, r7, r8, r9, r10) := H
               have A191 := Aside0.mk A1910
               clear A1910
               have H' := Aside0.mk H
               clear H
               try go_wp2
               have n0_ := Aside0.mk (blk_drew BK148.out)
               have n1_ := Aside0.mk (blk_drew BK149.out)
               have n2_ := Aside0.mk (blk_drew BK167.out)
               have n3_ := Aside0.mk (below_drew1 HB.out)
               clear BK148
               clear BK149
               clear BK167
               clear HB
               have BK148 := n0_
               have BK149 := n1_
               have BK167 := n2_
               have HB := n3_
               clear n0_ n1_ n2_ n3_
               refine start_ (n := 16) (S := fun w' => w'.cell? ⟨gb149, 0, none⟩ = some (.int .u32 Zp) ∧ w'.cell? ⟨gb149, 1, none⟩ = some (.int .u32 Zq) ∧ w'.cell? ⟨gb149, 2, none⟩ = some (.int .u32 Zr) ∧ w'.cell? ⟨gb149, 3, none⟩ = some (.int .u32 Zs) ∧ w'.cell? ⟨gb149, 4, none⟩ = some (.int .u32 Zt) ∧ w'.cell? ⟨gb149, 5, none⟩ = some (.int .u32 Zu) ∧ w'.cell? ⟨gb149, 6, none⟩ = some (.int .u32 Zv) ∧ w'.cell? ⟨gb149, 7, none⟩ = some (.int .u32 Zw) ∧ w'.cell? ⟨gb149, 8, none⟩ = some (.int .u32 Zx) ∧ w'.cell? ⟨gb149, 9, none⟩ = some (.int .u32 Zy) ∧ w'.cell? ⟨gb149, 10, none⟩ = some (.int .u32 Zz) ∧ w'.cell? ⟨gb149, 11, none⟩ = some (.int .u32 Z10) ∧ w'.cell? ⟨gb149, 12, none⟩ = some (.int .u32 Z11) ∧ w'.cell? ⟨gb149, 13, none⟩ = some (.int .u32 Z12) ∧ w'.cell? ⟨gb149, 14, none⟩ = some (.int .u32 Z13) ∧ w'.cell? ⟨gb149, 15, none⟩ = some (.int .u32 Z14)) (ds := []) #[false, false, false, false, false, false, false, false, false, false, false, false, false, false, false, false] (by kernel_rfl) rfl rfl ⟨(blk_cell BK149.out 0).trans rfl, (blk_cell BK149.out 1).trans rfl, (blk_cell BK149.out 2).trans rfl, (blk_cell BK149.out 3).trans rfl, (blk_cell BK149.out 4).trans rfl, (blk_cell BK149.out 5).trans rfl, (blk_cell BK149.out 6).trans rfl, (blk_cell BK149.out 7).trans rfl, (blk_cell BK149.out 8).trans rfl, (blk_cell BK149.out 9).trans rfl, (blk_cell BK149.out 10).trans rfl, (blk_cell BK149.out 11).trans rfl, (blk_cell BK149.out 12).trans rfl, (blk_cell BK149.out 13).trans rfl, (blk_cell BK149.out 14).trans rfl, (blk_cell BK149.out 15).trans rfl⟩ (fun hHeld => ?_); refine with_tabW data_Of.tab19 data_Of.bits19 (fun HT_ HW_ => ?_)
               generalize wr.drew = w192 at BK148 BK149 BK167 HB hHeld ⊢
               refine Mine.pS 0 (some 54) ?_ (hc := any_of HT_.out (by kernel_rfl)); refine Mine.pS 1 (some 55) ?_ (hc := any_of HT_.out (by kernel_rfl)); refine Mine.pS 2 (some 56) ?_ (hc := any_of HT_.out (by kernel_rfl)); refine Mine.pS 3 (some 57) ?_ (hc := any_of HT_.out (by kernel_rfl)); refine Mine.pS 4 (some 58) ?_ (hc := any_of HT_.out (by kernel_rfl)); refine Mine.pS 6 (some 60) ?_ (hc := any_of HT_.out (by kernel_rfl)); refine Mine.pS 7 (some 61) ?_ (hc := any_of HT_.out (by kernel_rfl)); refine Mine.pS 8 (some 62) ?_ (hc := any_of HT_.out (by kernel_rfl)); refine Mine.pS 9 (some 63) ?_ (hc := any_of HT_.out (by kernel_rfl)); refine Mine.pS 10 (some 64) ?_ (hc := any_of HT_.out (by kernel_rfl)); refine Mine.pS 13 (some 67) ?_ (hc := any_of HT_.out (by kernel_rfl)); refine Mine.tS 5 (some 59) hHeld ?_ (hc := take_ofW HT_.out HW_.out (by kernel_rfl)); refine Mine.tS 11 (some 65) hHeld ?_ (hc := take_ofW HT_.out HW_.out (by kernel_rfl))
               refine one_ (i := 12) (N := some 66) #[true, true, true, true, true, true, true, true, true, true, true, true, true, true, false, false] rfl rfl (one_of HT_.out (by kernel_rfl)) (by decide) (fun K hK => ?_)
               refine goes_ Try.func37 (by kernel_rfl) rfl #[.int .u32 Z13, .int .u32 Z14] (by rfl) rfl rfl (by (try simp only [List.map_toArray, List.map_cons, List.map_nil]); first | done | rfl | (simp only [List.length_drop, List.length_take]; rfl)) ?_
               with_reducible refine (data_joined.calls Z13 Z14 t173 _ A191.out).mono ?_
               rintro e w' ⟨rfl, ⟨nd, rfl⟩⟩
               refine ⟨_, rfl, ?_⟩
               refine hK.out _ _ ⟨(blk_cell BK149.out 0).trans rfl, (blk_cell BK149.out 1).trans rfl, (blk_cell BK149.out 2).trans rfl, (blk_cell BK149.out 3).trans rfl, (blk_cell BK149.out 4).trans rfl, (blk_cell BK149.out 5).trans rfl, (blk_cell BK149.out 6).trans rfl, (blk_cell BK149.out 7).trans rfl, (blk_cell BK149.out 8).trans rfl, (blk_cell BK149.out 9).trans rfl, (blk_cell BK149.out 10).trans rfl, (blk_cell BK149.out 11).trans rfl, (blk_cell BK149.out 12).trans rfl, (blk_cell BK149.out 13).trans rfl, (blk_cell BK149.out 14).trans rfl, (blk_cell BK149.out 15).trans rfl⟩ (fun hHeld => ?_)
               clear hK K
               refine norm_ (a' := ?_) ?_ ?_
               rotate_left
               ·show Act.put _ (some 66) _ = _
                simp only [Act.put, List.setIfInBounds_toArray, List.set_cons_zero, List.set_cons_succ, i64_w, i32_w]
                rfl
               refine Mine.pS 14 (some 68) ?_ (hc := any_of HT_.out (by kernel_rfl))
               refine one_ (i := 15) (N := none) #[true, true, true, true, true, true, true, true, true, true, true, true, true, true, true, true] rfl rfl (one_of HT_.out (by kernel_rfl)) (by decide) (fun K hK => ?_)
               have hs193 : w192.cell? ⟨gb167, 8, none⟩ = some (.int .u64 Z1q) := (blk_cell BK167.out 8).trans rfl
               have hfs193 := blk_frozen BK167.out 8
               have hns193_0 := NB148_167.out
               have hns193_1 := NB149_167.out
               have hms193_0 := NB167_148.out
               have hms193_1 := NB167_149.out
               refine skip_ (w1 := ?_) (by rfl) rfl ?_ ?_
               rotate_left
               ·go_simp
                rfl
               refine hK.out _ _ ⟨((cell_far (p := ⟨gb167, _, none⟩) NB149_167.out _).trans (hHeld.1)), ((cell_far (p := ⟨gb167, _, none⟩) NB149_167.out _).trans (hHeld.2.1)), ((cell_far (p := ⟨gb167, _, none⟩) NB149_167.out _).trans (hHeld.2.2.1)), ((cell_far (p := ⟨gb167, _, none⟩) NB149_167.out _).trans (hHeld.2.2.2.1)), ((cell_far (p := ⟨gb167, _, none⟩) NB149_167.out _).trans (hHeld.2.2.2.2.1)), ((cell_far (p := ⟨gb167, _, none⟩) NB149_167.out _).trans (hHeld.2.2.2.2.2.1)), ((cell_far (p := ⟨gb167, _, none⟩) NB149_167.out _).trans (hHeld.2.2.2.2.2.2.1)), ((cell_far (p := ⟨gb167, _, none⟩) NB149_167.out _).trans (hHeld.2.2.2.2.2.2.2.1)), ((cell_far (p := ⟨gb167, _, none⟩) NB149_167.out _).trans (hHeld.2.2.2.2.2.2.2.2.1)), ((cell_far (p := ⟨gb167, _, none⟩) NB149_167.out _).trans (hHeld.2.2.2.2.2.2.2.2.2.1)), ((cell_far (p := ⟨gb167, _, none⟩) NB149_167.out _).trans (hHeld.2.2.2.2.2.2.2.2.2.2.1)), ((cell_far (p := ⟨gb167, _, none⟩) NB149_167.out _).trans (hHeld.2.2.2.2.2.2.2.2.2.2.2.1)), ((cell_far (p := ⟨gb167, _, none⟩) NB149_167.out _).trans (hHeld.2.2.2.2.2.2.2.2.2.2.2.2.1)), ((cell_far (p := ⟨gb167, _, none⟩) NB149_167.out _).trans (hHeld.2.2.2.2.2.2.2.2.2.2.2.2.2.1)), ((cell_far (p := ⟨gb167, _, none⟩) NB149_167.out _).trans (hHeld.2.2.2.2.2.2.2.2.2.2.2.2.2.2.1)), ((cell_far (p := ⟨gb167, _, none⟩) NB149_167.out _).trans (hHeld.2.2.2.2.2.2.2.2.2.2.2.2.2.2.2))⟩ (fun hHeld => ?_)
               clear hK K
               refine done_ (done_of HT_.out (by kernel_rfl)) ?_
               try go_wp2
               go_roundg k2
               case measure => have := HK1.out; have := HK2.out; omega
               case rel => exact ⟨(6), (Z1l), (Z1m), (Z1n), (Z1o), (Z1p), (t173), (by first | rfl | (simp; done) | (simp [*]; done)), H', ⟨by have := HK1.out; have := HK2.out; omega⟩, ⟨by (with_reducible repeat (first | refine blk_drewN ?_ _ | refine blk_drew ?_ | refine blk_alloc ?_ _)); refine blk_far ?_ NB148_167.out _; (with_reducible repeat (first | refine blk_drewN ?_ _ | refine blk_drew ?_ | refine blk_alloc ?_ _)); exact BK148.out⟩, ⟨by (with_reducible repeat (first | refine blk_drewN ?_ _ | refine blk_drew ?_ | refine blk_alloc ?_ _)); refine blk_far ?_ NB149_167.out _; (with_reducible repeat (first | refine blk_drewN ?_ _ | refine blk_drew ?_ | refine blk_alloc ?_ _)); exact BK149.out⟩, ⟨by (with_reducible repeat (first | refine blk_drewN ?_ _ | refine blk_drew ?_ | refine blk_alloc ?_ _)); refine blk_put (cs := #[.int .u32 Zp, .int .u32 Zq, .int .u64 t166, .int .u64 Z1l, .int .u64 Z1m, .int .u64 Z1n, .int .u64 Z1o, .int .u64 Z1p, .int .u64 Z1q]) ?_ 8 _ rfl; (with_reducible repeat (first | refine blk_drewN ?_ _ | refine blk_drew ?_ | refine blk_alloc ?_ _)); exact BK167.out⟩, ⟨by repeat (first | (with_reducible first | exact HB.out | apply below_alloc | apply pw_below_drewN | apply below_drew1 | refine below_set ?_ GE148.out | refine below_set ?_ GE149.out | refine below_set ?_ GE167.out) | exact HB.out)⟩⟩
              ·rw [if_neg c190] at H
               exact absurd H (by simp)
        ·rw [if_neg c169] at H
         have c169b0 : decide (x51_2 < 6) = false := decide_eq_false c169
         clear c169
         replace H := Option.bind_eq_some_iff.mp H
         obtain ⟨⟨t174, t175, t176, t177, t178, t179, t180, t181, t182, t183, t184, t185, t186, t187, t188, t189⟩, A1940, H⟩ := H
         replace H : (if (!(t174 == Zp) || (!(t175 == Zq) || (!(t176 == Zr) || (!(t177 == Zs) || (!(t178 == Zt) || (!(t179 == Zu) || (!(t180 == Zv) || (!(t181 == Zw) || (!(t182 == Zx) || (!(t183 == Zy) || (!(t184 == Zz) || (!(t185 == Z10) || (!(t186 == Z11) || (!(t187 == Z12) || (!(t188 == Z13) || (!(t189 == Z14))))))))))))))))) = true then (some (0, 0, 0, 0, 0, 0, 0, 0, 0, 3)) else (some (Zp, Zq, t166, Z1l, Z1m, Z1n, Z1o, Z1p, Z1q, 0))) = some (r1, r2, r3, r4, r5, r6, r7, r8, r9, r10) := H
         have A194 := Aside0.mk A1940
         clear A1940
         by_cases c195 : (!(t174 == Zp) || (!(t175 == Zq) || (!(t176 == Zr) || (!(t177 == Zs) || (!(t178 == Zt) || (!(t179 == Zu) || (!(t180 == Zv) || (!(t181 == Zw) || (!(t182 == Zx) || (!(t183 == Zy) || (!(t184 == Zz) || (!(t185 == Z10) || (!(t186 == Z11) || (!(t187 == Z12) || (!(t188 == Z13) || (!(t189 == Z14))))))))))))))))) = true
         ·rw [if_pos c195] at H
          have c195b0 : (!(t174 == Zp) || (!(t175 == Zq) || (!(t176 == Zr) || (!(t177 == Zs) || (!(t178 == Zt) || (!(t179 == Zu) || (!(t180 == Zv) || (!(t181 == Zw) || (!(t182 == Zx) || (!(t183 == Zy) || (!(t184 == Zz) || (!(t185 == Z10) || (!(t186 == Z11) || (!(t187 == Z12) || (!(t188 == Z13) || (!(t189 == Z14))))))))))))))))) = true := c195
          clear c195
          simp only [Option.some.injEq, Prod.mk.injEq] at H
          obtain ⟨rfl, rfl, rfl, rfl, rfl, rfl, rfl, rfl, rfl, rfl⟩ := H
          try go_wp2
          have n0_ := Aside0.mk (blk_drew BK148.out)
          have n1_ := Aside0.mk (blk_drew BK149.out)
          have n2_ := Aside0.mk (blk_drew BK167.out)
          have n3_ := Aside0.mk (below_drew1 HB.out)
          clear BK148
          clear BK149
          clear BK167
          clear HB
          have BK148 := n0_
          have BK149 := n1_
          have BK167 := n2_
          have HB := n3_
          clear n0_ n1_ n2_ n3_
          refine start_ (n := 4) (S := fun w' => w'.cell? ⟨gb167, 0, none⟩ = some (.int .u32 Zp) ∧ w'.cell? ⟨gb167, 1, none⟩ = some (.int .u32 Zq) ∧ w'.cell? ⟨gb167, 2, none⟩ = some (.int .u64 t166) ∧ w'.cell? ⟨gb167, 3, none⟩ = some (.int .u64 Z1l) ∧ w'.cell? ⟨gb167, 4, none⟩ = some (.int .u64 Z1m) ∧ w'.cell? ⟨gb167, 5, none⟩ = some (.int .u64 Z1n) ∧ w'.cell? ⟨gb167, 6, none⟩ = some (.int .u64 Z1o) ∧ w'.cell? ⟨gb167, 7, none⟩ = some (.int .u64 Z1p) ∧ w'.cell? ⟨gb167, 8, none⟩ = some (.int .u64 Z1q) ∧ w'.cell? ⟨gb149, 0, none⟩ = some (.int .u32 Zp) ∧ w'.cell? ⟨gb149, 1, none⟩ = some (.int .u32 Zq) ∧ w'.cell? ⟨gb149, 2, none⟩ = some (.int .u32 Zr) ∧ w'.cell? ⟨gb149, 3, none⟩ = some (.int .u32 Zs) ∧ w'.cell? ⟨gb149, 4, none⟩ = some (.int .u32 Zt) ∧ w'.cell? ⟨gb149, 5, none⟩ = some (.int .u32 Zu) ∧ w'.cell? ⟨gb149, 6, none⟩ = some (.int .u32 Zv) ∧ w'.cell? ⟨gb149, 7, none⟩ = some (.int .u32 Zw) ∧ w'.cell? ⟨gb149, 8, none⟩ = some (.int .u32 Zx) ∧ w'.cell? ⟨gb149, 9, none⟩ = some (.int .u32 Zy) ∧ w'.cell? ⟨gb149, 10, none⟩ = some (.int .u32 Zz) ∧ w'.cell? ⟨gb149, 11, none⟩ = some (.int .u32 Z10) ∧ w'.cell? ⟨gb149, 12, none⟩ = some (.int .u32 Z11) ∧ w'.cell? ⟨gb149, 13, none⟩ = some (.int .u32 Z12) ∧ w'.cell? ⟨gb149, 14, none⟩ = some (.int .u32 Z13) ∧ w'.cell? ⟨gb149, 15, none⟩ = some (.int .u32 Z14)) (ds := []) #[false, false, false, false] (by kernel_rfl) rfl rfl ⟨(blk_cell BK167.out 0).trans rfl, (blk_cell BK167.out 1).trans rfl, (blk_cell BK167.out 2).trans rfl, (blk_cell BK167.out 3).trans rfl, (blk_cell BK167.out 4).trans rfl, (blk_cell BK167.out 5).trans rfl, (blk_cell BK167.out 6).trans rfl, (blk_cell BK167.out 7).trans rfl, (blk_cell BK167.out 8).trans rfl, (blk_cell BK149.out 0).trans rfl, (blk_cell BK149.out 1).trans rfl, (blk_cell BK149.out 2).trans rfl, (blk_cell BK149.out 3).trans rfl, (blk_cell BK149.out 4).trans rfl, (blk_cell BK149.out 5).trans rfl, (blk_cell BK149.out 6).trans rfl, (blk_cell BK149.out 7).trans rfl, (blk_cell BK149.out 8).trans rfl, (blk_cell BK149.out 9).trans rfl, (blk_cell BK149.out 10).trans rfl, (blk_cell BK149.out 11).trans rfl, (blk_cell BK149.out 12).trans rfl, (blk_cell BK149.out 13).trans rfl, (blk_cell BK149.out 14).trans rfl, (blk_cell BK149.out 15).trans rfl⟩ (fun hHeld => ?_)
          generalize wr.drew = w196 at BK148 BK149 BK167 HB hHeld ⊢
          refine Mine.tS 0 (some 70) hHeld ?_; refine Mine.tS 2 (some 72) hHeld ?_
          refine one_ (i := 1) (N := some 71) #[true, true, true, false] rfl rfl (by kernel_rfl) (by decide) (fun K hK => ?_)
          refine goes_ Try.func33 (by kernel_rfl) rfl #[.agg #[.int .u32 Zp, .int .u32 Zq, .int .u64 t166, .int .u64 Z1l, .int .u64 Z1m, .int .u64 Z1n, .int .u64 Z1o, .int .u64 Z1p, .int .u64 Z1q]] (by rfl) rfl rfl (by (try simp only [List.map_toArray, List.map_cons, List.map_nil]); first | done | rfl | (simp only [List.length_drop, List.length_take]; rfl)) ?_
          with_reducible refine (data_laid.calls k2 Zp Zq t166 Z1l Z1m Z1n Z1o Z1p Z1q t174 t175 t176 t177 t178 t179 t180 t181 t182 t183 t184 t185 t186 t187 t188 t189 _ A194.out).mono ?_
          rintro e w197 ⟨rfl, hb⟩
          refine ⟨_, rfl, ?_⟩
          have n0_ := Aside0.mk (blk_below (g := gb148) (o := .cells #[.int .u32 0, .int .u32 0, .int .u64 0, .int .u64 0, .int .u64 0, .int .u64 0, .int .u64 0, .int .u64 0, .int .u64 0] 26 (0, 0)) (by (with_reducible repeat (first | refine blk_drewN ?_ _ | refine blk_drew ?_ | refine blk_alloc ?_ _)); exact BK148.out) hb)
          have n1_ := Aside0.mk (blk_below (g := gb149) (o := .cells #[.int .u32 Zp, .int .u32 Zq, .int .u32 Zr, .int .u32 Zs, .int .u32 Zt, .int .u32 Zu, .int .u32 Zv, .int .u32 Zw, .int .u32 Zx, .int .u32 Zy, .int .u32 Zz, .int .u32 Z10, .int .u32 Z11, .int .u32 Z12, .int .u32 Z13, .int .u32 Z14] 68 (0, 0)) (by (with_reducible repeat (first | refine blk_drewN ?_ _ | refine blk_drew ?_ | refine blk_alloc ?_ _)); exact BK149.out) hb)
          have n2_ := Aside0.mk (blk_below (g := gb167) (o := .cells #[.int .u32 Zp, .int .u32 Zq, .int .u64 t166, .int .u64 Z1l, .int .u64 Z1m, .int .u64 Z1n, .int .u64 Z1o, .int .u64 Z1p, .int .u64 Z1q] 26 (0, 0)) (by (with_reducible repeat (first | refine blk_drewN ?_ _ | refine blk_drew ?_ | refine blk_alloc ?_ _)); exact BK167.out) hb)
          have n3_ := Aside0.mk (below_step (by repeat (first | (with_reducible first | exact HB.out | apply below_alloc | apply pw_below_drewN | apply below_drew1 | refine below_set ?_ GE148.out | refine below_set ?_ GE149.out | refine below_set ?_ GE167.out) | exact HB.out)) hb)
          clear BK148
          clear BK149
          clear BK167
          clear HB
          have BK148 := n0_
          have BK149 := n1_
          have BK167 := n2_
          have HB := n3_
          clear n0_ n1_ n2_ n3_
          (try clear hb)
          (try clear hb2)
          (try clear hk)
          (try clear hi)
          refine hK.out _ _ ⟨(blk_cell BK167.out 0).trans rfl, (blk_cell BK167.out 1).trans rfl, (blk_cell BK167.out 2).trans rfl, (blk_cell BK167.out 3).trans rfl, (blk_cell BK167.out 4).trans rfl, (blk_cell BK167.out 5).trans rfl, (blk_cell BK167.out 6).trans rfl, (blk_cell BK167.out 7).trans rfl, (blk_cell BK167.out 8).trans rfl, (blk_cell BK149.out 0).trans rfl, (blk_cell BK149.out 1).trans rfl, (blk_cell BK149.out 2).trans rfl, (blk_cell BK149.out 3).trans rfl, (blk_cell BK149.out 4).trans rfl, (blk_cell BK149.out 5).trans rfl, (blk_cell BK149.out 6).trans rfl, (blk_cell BK149.out 7).trans rfl, (blk_cell BK149.out 8).trans rfl, (blk_cell BK149.out 9).trans rfl, (blk_cell BK149.out 10).trans rfl, (blk_cell BK149.out 11).trans rfl, (blk_cell BK149.out 12).trans rfl, (blk_cell BK149.out 13).trans rfl, (blk_cell BK149.out 14).trans rfl, (blk_cell BK149.out 15).trans rfl⟩ (fun hHeld => ?_)
          clear hK K
          refine norm_ (a' := ?_) ?_ ?_
          rotate_left
          ·show Act.put _ (some 71) _ = _
           simp only [Act.put, List.setIfInBounds_toArray, List.set_cons_zero, List.set_cons_succ, i64_w, i32_w]
           rfl
          refine Mine.pS 3 (some 73) ?_
          refine done_ (by kernel_rfl) ?_
          have hnb198 := NB148_149.out
          have hnc198 := NB149_148.out
          have hnb199 := NB148_167.out
          have hnc199 := NB167_148.out
          have hcz200 := Mine.cells9 BK148.out
          have hfz200_0 := blk_frozen BK148.out
          try go_wp2
          refine bodyPost_ret (results_ct rfl _ _ gb148 26 #[.int .u32 0, .int .u32 0, .int .u64 0, .int .u64 0, .int .u64 0, .int .u64 0, .int .u64 0, .int .u64 0, .int .u64 0] (0, 0) _ rfl (by (with_reducible repeat (first | refine blk_drewN ?_ _ | refine blk_drew ?_ | refine blk_alloc ?_ _)); refine blk_put (cs := #[.int .u32 0, .int .u32 0, .int .u64 0, .int .u64 0, .int .u64 0, .int .u64 0, .int .u64 0, .int .u64 0, .int .u64 0]) ?_ 8 _ rfl; (with_reducible repeat (first | refine blk_drewN ?_ _ | refine blk_drew ?_ | refine blk_alloc ?_ _)); refine blk_put (cs := #[.int .u32 0, .int .u32 0, .int .u64 0, .int .u64 0, .int .u64 0, .int .u64 0, .int .u64 0, .int .u64 0, .int .u64 0]) ?_ 7 _ rfl; (with_reducible repeat (first | refine blk_drewN ?_ _ | refine blk_drew ?_ | refine blk_alloc ?_ _)); refine blk_put (cs := #[.int .u32 0, .int .u32 0, .int .u64 0, .int .u64 0, .int .u64 0, .int .u64 0, .int .u64 0, .int .u64 0, .int .u64 0]) ?_ 6 _ rfl; (with_reducible repeat (first | refine blk_drewN ?_ _ | refine blk_drew ?_ | refine blk_alloc ?_ _)); refine blk_put (cs := #[.int .u32 0, .int .u32 0, .int .u64 0, .int .u64 0, .int .u64 0, .int .u64 0, .int .u64 0, .int .u64 0, .int .u64 0]) ?_ 5 _ rfl; (with_reducible repeat (first | refine blk_drewN ?_ _ | refine blk_drew ?_ | refine blk_alloc ?_ _)); refine blk_put (cs := #[.int .u32 0, .int .u32 0, .int .u64 0, .int .u64 0, .int .u64 0, .int .u64 0, .int .u64 0, .int .u64 0, .int .u64 0]) ?_ 4 _ rfl; (with_reducible repeat (first | refine blk_drewN ?_ _ | refine blk_drew ?_ | refine blk_alloc ?_ _)); refine blk_put (cs := #[.int .u32 0, .int .u32 0, .int .u64 0, .int .u64 0, .int .u64 0, .int .u64 0, .int .u64 0, .int .u64 0, .int .u64 0]) ?_ 3 _ rfl; (with_reducible repeat (first | refine blk_drewN ?_ _ | refine blk_drew ?_ | refine blk_alloc ?_ _)); refine blk_put (cs := #[.int .u32 0, .int .u32 0, .int .u64 0, .int .u64 0, .int .u64 0, .int .u64 0, .int .u64 0, .int .u64 0, .int .u64 0]) ?_ 2 _ rfl; (with_reducible repeat (first | refine blk_drewN ?_ _ | refine blk_drew ?_ | refine blk_alloc ?_ _)); refine blk_put (cs := #[.int .u32 0, .int .u32 0, .int .u64 0, .int .u64 0, .int .u64 0, .int .u64 0, .int .u64 0, .int .u64 0, .int .u64 0]) ?_ 1 _ rfl; (with_reducible repeat (first | refine blk_drewN ?_ _ | refine blk_drew ?_ | refine blk_alloc ?_ _)); refine blk_put (cs := #[.int .u32 0, .int .u32 0, .int .u64 0, .int .u64 0, .int .u64 0, .int .u64 0, .int .u64 0, .int .u64 0, .int .u64 0]) ?_ 0 _ rfl; (with_reducible repeat (first | refine blk_drewN ?_ _ | refine blk_drew ?_ | refine blk_alloc ?_ _)); exact BK148.out) Try.underlying26 rfl (by kernel_rfl)) rfl ?_
          exact ⟨by first | rfl | (simp [errW_none, errW_some] <;> rfl) | (simp [*, errW_none, errW_some] <;> rfl), by repeat (first | (with_reducible first | exact HB.out | apply below_alloc | apply pw_below_drewN | apply below_drew1 | refine below_set ?_ GE148.out | refine below_set ?_ GE149.out | refine below_set ?_ GE167.out) | exact HB.out)⟩
         ·rw [if_neg c195] at H
          have c195b0 : (!(t174 == Zp) || (!(t175 == Zq) || (!(t176 == Zr) || (!(t177 == Zs) || (!(t178 == Zt) || (!(t179 == Zu) || (!(t180 == Zv) || (!(t181 == Zw) || (!(t182 == Zx) || (!(t183 == Zy) || (!(t184 == Zz) || (!(t185 == Z10) || (!(t186 == Z11) || (!(t187 == Z12) || (!(t188 == Z13) || (!(t189 == Z14))))))))))))))))) = false := by simpa using c195
          clear c195
          simp only [Option.some.injEq, Prod.mk.injEq] at H
          obtain ⟨rfl, rfl, rfl, rfl, rfl, rfl, rfl, rfl, rfl, rfl⟩ := H
          try go_wp2
          have n0_ := Aside0.mk (blk_drew BK148.out)
          have n1_ := Aside0.mk (blk_drew BK149.out)
          have n2_ := Aside0.mk (blk_drew BK167.out)
          have n3_ := Aside0.mk (below_drew1 HB.out)
          clear BK148
          clear BK149
          clear BK167
          clear HB
          have BK148 := n0_
          have BK149 := n1_
          have BK167 := n2_
          have HB := n3_
          clear n0_ n1_ n2_ n3_
          refine start_ (n := 4) (S := fun w' => w'.cell? ⟨gb167, 0, none⟩ = some (.int .u32 Zp) ∧ w'.cell? ⟨gb167, 1, none⟩ = some (.int .u32 Zq) ∧ w'.cell? ⟨gb167, 2, none⟩ = some (.int .u64 t166) ∧ w'.cell? ⟨gb167, 3, none⟩ = some (.int .u64 Z1l) ∧ w'.cell? ⟨gb167, 4, none⟩ = some (.int .u64 Z1m) ∧ w'.cell? ⟨gb167, 5, none⟩ = some (.int .u64 Z1n) ∧ w'.cell? ⟨gb167, 6, none⟩ = some (.int .u64 Z1o) ∧ w'.cell? ⟨gb167, 7, none⟩ = some (.int .u64 Z1p) ∧ w'.cell? ⟨gb167, 8, none⟩ = some (.int .u64 Z1q) ∧ w'.cell? ⟨gb149, 0, none⟩ = some (.int .u32 Zp) ∧ w'.cell? ⟨gb149, 1, none⟩ = some (.int .u32 Zq) ∧ w'.cell? ⟨gb149, 2, none⟩ = some (.int .u32 Zr) ∧ w'.cell? ⟨gb149, 3, none⟩ = some (.int .u32 Zs) ∧ w'.cell? ⟨gb149, 4, none⟩ = some (.int .u32 Zt) ∧ w'.cell? ⟨gb149, 5, none⟩ = some (.int .u32 Zu) ∧ w'.cell? ⟨gb149, 6, none⟩ = some (.int .u32 Zv) ∧ w'.cell? ⟨gb149, 7, none⟩ = some (.int .u32 Zw) ∧ w'.cell? ⟨gb149, 8, none⟩ = some (.int .u32 Zx) ∧ w'.cell? ⟨gb149, 9, none⟩ = some (.int .u32 Zy) ∧ w'.cell? ⟨gb149, 10, none⟩ = some (.int .u32 Zz) ∧ w'.cell? ⟨gb149, 11, none⟩ = some (.int .u32 Z10) ∧ w'.cell? ⟨gb149, 12, none⟩ = some (.int .u32 Z11) ∧ w'.cell? ⟨gb149, 13, none⟩ = some (.int .u32 Z12) ∧ w'.cell? ⟨gb149, 14, none⟩ = some (.int .u32 Z13) ∧ w'.cell? ⟨gb149, 15, none⟩ = some (.int .u32 Z14)) (ds := []) #[false, false, false, false] (by kernel_rfl) rfl rfl ⟨(blk_cell BK167.out 0).trans rfl, (blk_cell BK167.out 1).trans rfl, (blk_cell BK167.out 2).trans rfl, (blk_cell BK167.out 3).trans rfl, (blk_cell BK167.out 4).trans rfl, (blk_cell BK167.out 5).trans rfl, (blk_cell BK167.out 6).trans rfl, (blk_cell BK167.out 7).trans rfl, (blk_cell BK167.out 8).trans rfl, (blk_cell BK149.out 0).trans rfl, (blk_cell BK149.out 1).trans rfl, (blk_cell BK149.out 2).trans rfl, (blk_cell BK149.out 3).trans rfl, (blk_cell BK149.out 4).trans rfl, (blk_cell BK149.out 5).trans rfl, (blk_cell BK149.out 6).trans rfl, (blk_cell BK149.out 7).trans rfl, (blk_cell BK149.out 8).trans rfl, (blk_cell BK149.out 9).trans rfl, (blk_cell BK149.out 10).trans rfl, (blk_cell BK149.out 11).trans rfl, (blk_cell BK149.out 12).trans rfl, (blk_cell BK149.out 13).trans rfl, (blk_cell BK149.out 14).trans rfl, (blk_cell BK149.out 15).trans rfl⟩ (fun hHeld => ?_)
          generalize wr.drew = w201 at BK148 BK149 BK167 HB hHeld ⊢
          refine Mine.tS 0 (some 70) hHeld ?_; refine Mine.tS 2 (some 72) hHeld ?_
          refine one_ (i := 1) (N := some 71) #[true, true, true, false] rfl rfl (by kernel_rfl) (by decide) (fun K hK => ?_)
          refine goes_ Try.func33 (by kernel_rfl) rfl #[.agg #[.int .u32 Zp, .int .u32 Zq, .int .u64 t166, .int .u64 Z1l, .int .u64 Z1m, .int .u64 Z1n, .int .u64 Z1o, .int .u64 Z1p, .int .u64 Z1q]] (by rfl) rfl rfl (by (try simp only [List.map_toArray, List.map_cons, List.map_nil]); first | done | rfl | (simp only [List.length_drop, List.length_take]; rfl)) ?_
          with_reducible refine (data_laid.calls k2 Zp Zq t166 Z1l Z1m Z1n Z1o Z1p Z1q t174 t175 t176 t177 t178 t179 t180 t181 t182 t183 t184 t185 t186 t187 t188 t189 _ A194.out).mono ?_
          rintro e w202 ⟨rfl, hb⟩
          refine ⟨_, rfl, ?_⟩
          have n0_ := Aside0.mk (blk_below (g := gb148) (o := .cells #[.int .u32 0, .int .u32 0, .int .u64 0, .int .u64 0, .int .u64 0, .int .u64 0, .int .u64 0, .int .u64 0, .int .u64 0] 26 (0, 0)) (by (with_reducible repeat (first | refine blk_drewN ?_ _ | refine blk_drew ?_ | refine blk_alloc ?_ _)); exact BK148.out) hb)
          have n1_ := Aside0.mk (blk_below (g := gb149) (o := .cells #[.int .u32 Zp, .int .u32 Zq, .int .u32 Zr, .int .u32 Zs, .int .u32 Zt, .int .u32 Zu, .int .u32 Zv, .int .u32 Zw, .int .u32 Zx, .int .u32 Zy, .int .u32 Zz, .int .u32 Z10, .int .u32 Z11, .int .u32 Z12, .int .u32 Z13, .int .u32 Z14] 68 (0, 0)) (by (with_reducible repeat (first | refine blk_drewN ?_ _ | refine blk_drew ?_ | refine blk_alloc ?_ _)); exact BK149.out) hb)
          have n2_ := Aside0.mk (blk_below (g := gb167) (o := .cells #[.int .u32 Zp, .int .u32 Zq, .int .u64 t166, .int .u64 Z1l, .int .u64 Z1m, .int .u64 Z1n, .int .u64 Z1o, .int .u64 Z1p, .int .u64 Z1q] 26 (0, 0)) (by (with_reducible repeat (first | refine blk_drewN ?_ _ | refine blk_drew ?_ | refine blk_alloc ?_ _)); exact BK167.out) hb)
          have n3_ := Aside0.mk (below_step (by repeat (first | (with_reducible first | exact HB.out | apply below_alloc | apply pw_below_drewN | apply below_drew1 | refine below_set ?_ GE148.out | refine below_set ?_ GE149.out | refine below_set ?_ GE167.out) | exact HB.out)) hb)
          clear BK148
          clear BK149
          clear BK167
          clear HB
          have BK148 := n0_
          have BK149 := n1_
          have BK167 := n2_
          have HB := n3_
          clear n0_ n1_ n2_ n3_
          (try clear hb)
          (try clear hb2)
          (try clear hk)
          (try clear hi)
          refine hK.out _ _ ⟨(blk_cell BK167.out 0).trans rfl, (blk_cell BK167.out 1).trans rfl, (blk_cell BK167.out 2).trans rfl, (blk_cell BK167.out 3).trans rfl, (blk_cell BK167.out 4).trans rfl, (blk_cell BK167.out 5).trans rfl, (blk_cell BK167.out 6).trans rfl, (blk_cell BK167.out 7).trans rfl, (blk_cell BK167.out 8).trans rfl, (blk_cell BK149.out 0).trans rfl, (blk_cell BK149.out 1).trans rfl, (blk_cell BK149.out 2).trans rfl, (blk_cell BK149.out 3).trans rfl, (blk_cell BK149.out 4).trans rfl, (blk_cell BK149.out 5).trans rfl, (blk_cell BK149.out 6).trans rfl, (blk_cell BK149.out 7).trans rfl, (blk_cell BK149.out 8).trans rfl, (blk_cell BK149.out 9).trans rfl, (blk_cell BK149.out 10).trans rfl, (blk_cell BK149.out 11).trans rfl, (blk_cell BK149.out 12).trans rfl, (blk_cell BK149.out 13).trans rfl, (blk_cell BK149.out 14).trans rfl, (blk_cell BK149.out 15).trans rfl⟩ (fun hHeld => ?_)
          clear hK K
          refine norm_ (a' := ?_) ?_ ?_
          rotate_left
          ·show Act.put _ (some 71) _ = _
           simp only [Act.put, List.setIfInBounds_toArray, List.set_cons_zero, List.set_cons_succ, i64_w, i32_w]
           rfl
          refine Mine.pS 3 (some 73) ?_
          refine done_ (by kernel_rfl) ?_
          have hnb203 := NB167_148.out
          have hnc203 := NB148_167.out
          have hnb204 := NB167_149.out
          have hnc204 := NB149_167.out
          have hcz205 := Mine.cells9 BK167.out
          have hfz205_0 := blk_frozen BK167.out
          have hnb206 := NB148_149.out
          have hnc206 := NB149_148.out
          have hcz207 := Mine.cells9 BK148.out
          have hfz207_0 := blk_frozen BK148.out
          try go_wp2
          refine bodyPost_ret (results_ct rfl _ _ gb148 26 #[.int .u32 Zp, .int .u32 Zq, .int .u64 t166, .int .u64 Z1l, .int .u64 Z1m, .int .u64 Z1n, .int .u64 Z1o, .int .u64 Z1p, .int .u64 Z1q] (0, 0) _ rfl (by (with_reducible repeat (first | refine blk_drewN ?_ _ | refine blk_drew ?_ | refine blk_alloc ?_ _)); refine blk_put (cs := #[.int .u32 Zp, .int .u32 Zq, .int .u64 t166, .int .u64 Z1l, .int .u64 Z1m, .int .u64 Z1n, .int .u64 Z1o, .int .u64 Z1p, .int .u64 0]) ?_ 8 _ rfl; (with_reducible repeat (first | refine blk_drewN ?_ _ | refine blk_drew ?_ | refine blk_alloc ?_ _)); refine blk_put (cs := #[.int .u32 Zp, .int .u32 Zq, .int .u64 t166, .int .u64 Z1l, .int .u64 Z1m, .int .u64 Z1n, .int .u64 Z1o, .int .u64 0, .int .u64 0]) ?_ 7 _ rfl; (with_reducible repeat (first | refine blk_drewN ?_ _ | refine blk_drew ?_ | refine blk_alloc ?_ _)); refine blk_put (cs := #[.int .u32 Zp, .int .u32 Zq, .int .u64 t166, .int .u64 Z1l, .int .u64 Z1m, .int .u64 Z1n, .int .u64 0, .int .u64 0, .int .u64 0]) ?_ 6 _ rfl; (with_reducible repeat (first | refine blk_drewN ?_ _ | refine blk_drew ?_ | refine blk_alloc ?_ _)); refine blk_put (cs := #[.int .u32 Zp, .int .u32 Zq, .int .u64 t166, .int .u64 Z1l, .int .u64 Z1m, .int .u64 0, .int .u64 0, .int .u64 0, .int .u64 0]) ?_ 5 _ rfl; (with_reducible repeat (first | refine blk_drewN ?_ _ | refine blk_drew ?_ | refine blk_alloc ?_ _)); refine blk_put (cs := #[.int .u32 Zp, .int .u32 Zq, .int .u64 t166, .int .u64 Z1l, .int .u64 0, .int .u64 0, .int .u64 0, .int .u64 0, .int .u64 0]) ?_ 4 _ rfl; (with_reducible repeat (first | refine blk_drewN ?_ _ | refine blk_drew ?_ | refine blk_alloc ?_ _)); refine blk_put (cs := #[.int .u32 Zp, .int .u32 Zq, .int .u64 t166, .int .u64 0, .int .u64 0, .int .u64 0, .int .u64 0, .int .u64 0, .int .u64 0]) ?_ 3 _ rfl; (with_reducible repeat (first | refine blk_drewN ?_ _ | refine blk_drew ?_ | refine blk_alloc ?_ _)); refine blk_put (cs := #[.int .u32 Zp, .int .u32 Zq, .int .u64 0, .int .u64 0, .int .u64 0, .int .u64 0, .int .u64 0, .int .u64 0, .int .u64 0]) ?_ 2 _ rfl; (with_reducible repeat (first | refine blk_drewN ?_ _ | refine blk_drew ?_ | refine blk_alloc ?_ _)); refine blk_put (cs := #[.int .u32 Zp, .int .u32 0, .int .u64 0, .int .u64 0, .int .u64 0, .int .u64 0, .int .u64 0, .int .u64 0, .int .u64 0]) ?_ 1 _ rfl; (with_reducible repeat (first | refine blk_drewN ?_ _ | refine blk_drew ?_ | refine blk_alloc ?_ _)); refine blk_put (cs := #[.int .u32 0, .int .u32 0, .int .u64 0, .int .u64 0, .int .u64 0, .int .u64 0, .int .u64 0, .int .u64 0, .int .u64 0]) ?_ 0 _ rfl; (with_reducible repeat (first | refine blk_drewN ?_ _ | refine blk_drew ?_ | refine blk_alloc ?_ _)); exact BK148.out) Try.underlying26 rfl (by kernel_rfl)) rfl ?_
          exact ⟨by first | rfl | (simp [errW_none, errW_some] <;> rfl) | (simp [*, errW_none, errW_some] <;> rfl), by repeat (first | (with_reducible first | exact HB.out | apply below_alloc | apply pw_below_drewN | apply below_drew1 | refine below_set ?_ GE148.out | refine below_set ?_ GE149.out | refine below_set ?_ GE167.out) | exact HB.out)⟩
end Go.Proofs.Ytadglbmghldnfaa.M
