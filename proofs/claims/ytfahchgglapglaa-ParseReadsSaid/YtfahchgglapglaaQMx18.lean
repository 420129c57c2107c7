-- Laid by a program (wip/tools/myprint.py) out of the loaded program's own print: for each Go function a Lean function and the proof of its contract.
import Derived.Test.YtfahchgglapglaaQMx0
import Derived.Test.YtfahchgglapglaaQMx14
import Derived.Test.YtfahchgglapglaaQMx15
import Derived.Test.YtfahchgglapglaaQMx16
import Derived.Test.YtfahchgglapglaaQMx17
namespace Go.Proofs.Ytfahchgglapglaa.M
open Go.RowKit Go.Proofs.YtfahchgglapglaaW.PrintWords Go.Proofs.YtfahchgglapglaaW.PrintLast Go.Proofs.YtfahchgglapglaaW.PrintMore
attribute [local go_sem] max2_int min2_int max_two min_two max_three min_three max_four min_four   -- for this text's walks alone
set_option linter.unusedVariables false
set_option linter.unusedSimpArgs false
-- HAND rounds=True making=True
open Mine
theorem pl_sign (g : Nat) (L : List S39) (n e a : Int) (s : ByteArray) (n1 e1 a1 : Int) (w0 w : World) (h : IsPl w0 w g L n e a) (H : fairleadref10_Place_sign.f L n e a s = some (n1, e1, a1)) :
  Calls Try.prog 25 #[.pointer (some ⟨g, 0, none⟩), .string s] w fun en w' => en = .returned (.tuple #[]) ∧ IsPl w0 w' g L n1 e1 a1 ∧ One g w w' :=
 (fairleadref10_Place_sign.calls g L n e a s n1 e1 a1 w0 w h.s h.bw H).mono (fun en w' ⟨he, hI, hB, hK⟩ => ⟨he, .of hI hB, One.ofKeep h hB hK⟩)
theorem pl_act (k : Nat) (g : Nat) (L : List S39) (n e a kd ar n1 e1 a1 : Int) (w0 w : World) (h : IsPl w0 w g L n e a) (H : fairleadref10_Place_act.f k L n e a = some (kd, ar, n1, e1, a1)) :
  Calls Try.prog 24 #[.pointer (some ⟨g, 0, none⟩)] w fun en w' => en = .returned (.agg #[.int .i64 kd, .int .i64 ar]) ∧ IsPl w0 w' g L n1 e1 a1 ∧ One g w w' :=
 (fairleadref10_Place_act.calls k g L n e a kd ar n1 e1 a1 w0 w h.s h.bw H).mono (fun en w' ⟨he, hI, hB, hK⟩ => ⟨he, .of hI hB, One.ofKeep h hB hK⟩)
theorem pl_kind (k : Nat) (s : ByteArray) (v : Int) (g : Nat) (L : List S39) (n e a : Int) (w0 w : World) (h : IsPl w0 w g L n e a) (H : fairleadref10_kind.f k s = some v) :
  Calls Try.prog 37 #[.string s] w fun en w' => en = .returned (.int .i64 v) ∧ IsPl w0 w' g L n e a ∧ One g w w' :=
 (fairleadref10_kind.calls k s v w H).mono (fun en w' ⟨he, hb⟩ => ⟨he, h.below hb, (One.refl g w).below hb⟩)
/-- A rule's end. -/
def fairleadref10_Place_rule.e (L : List S39) (n a kd ar : Int) (ns : List ByteArray) (cs : List S46) : Option (S44 × Int × Int × Int) := (fairleadref10_Place_sign.f L n 0 a ⟨#[59]⟩).bind fun r => some (⟨⟨kd, ar⟩, ns, cs⟩, r.1, r.2.1, r.2.2)
/-- A rule's conditions, behind the first. -/
def fairleadref10_Place_rule.l1 : Nat → List S39 → Int → Int → Int → Int → Int → List ByteArray → List S46 → Option (S44 × Int × Int × Int)
 | 0, _, _, _, _, _, _, _, _ => none
 | k + 1, L, n, e, a, kd, ar, ns, cs => if e = 0 then (if 0 ≤ n ∧ n < (L.length : Int) then
   (if ((rd_T39 L n).f0 = 1 ∧ (rd_T39 L n).f2.toList = (⟨#[97, 110, 100]⟩ : ByteArray).toList) then (if cs.length < 1000 then (fairleadref10_Place_cond.f k L (wrap64 (n + 1)) 0 a (wrap64 ((cs.length : Int) + 1))).bind fun c => fairleadref10_Place_rule.l1 k L c.2.2.2.2.1 c.2.2.2.2.2.1 c.2.2.2.2.2.2 kd ar ns (cs ++ [⟨c.1, c.2.1, c.2.2.1, c.2.2.2.1⟩]) else none)
   else fairleadref10_Place_rule.e L n a kd ar ns cs) else none) else some (⟨⟨kd, ar⟩, ns, cs⟩, n, e, a)
/-- Behind a rule's names. -/
def fairleadref10_Place_rule.g (k : Nat) (L : List S39) (n a kd ar : Int) (ns : List ByteArray) : Option (S44 × Int × Int × Int) :=
 if 0 ≤ n ∧ n < (L.length : Int) then (if ((rd_T39 L n).f0 = 1 ∧ (rd_T39 L n).f2.toList = (⟨#[119, 104, 101, 110]⟩ : ByteArray).toList) then (fairleadref10_Place_cond.f k L (wrap64 (n + 1)) 0 a 1).bind fun c => fairleadref10_Place_rule.l1 k L c.2.2.2.2.1 c.2.2.2.2.2.1 c.2.2.2.2.2.2 kd ar ns [⟨c.1, c.2.1, c.2.2.1, c.2.2.2.1⟩] else fairleadref10_Place_rule.e L n a kd ar ns []) else none
/-- A rule's names. -/
def fairleadref10_Place_rule.l0 : Nat → List S39 → Int → Int → Int → Int → List ByteArray → Option (S44 × Int × Int × Int)
 | 0, _, _, _, _, _, _ => none
 | k + 1, L, n, a, kd, ar, ns => if 0 ≤ n ∧ n < (L.length : Int) then
   (if (rd_T39 L n).f0 = 1 then (if ns.length = 16 then (fairleadref10_Place_fail.f L n 0 a 4).bind fun r => some (⟨⟨kd, ar⟩, ns, []⟩, r.1, r.2.1, r.2.2) else if ns.length < 1000 ∧ 0 ≤ (wrap64 (n + 1)) ∧ (wrap64 (n + 1)) < (L.length : Int) then
     (if ((rd_T39 L (wrap64 (n + 1))).f0 = 3 ∧ (rd_T39 L (wrap64 (n + 1))).f2.toList = (⟨#[44]⟩ : ByteArray).toList) then fairleadref10_Place_rule.l0 k L (wrap64 ((wrap64 (n + 1)) + 1)) a kd ar (ns ++ [(rd_T39 L n).f2]) else fairleadref10_Place_rule.g k L (wrap64 (n + 1)) a kd ar (ns ++ [(rd_T39 L n).f2])) else none)
    else (fairleadref10_Place_fail.f L n 0 a 7).bind fun r => some (⟨⟨kd, ar⟩, ns, []⟩, r.1, r.2.1, r.2.2)) else none
def fairleadref10_Place_rule.f (k : Nat) (L : List S39) (n e a c : Int) : Option (S44 × Int × Int × Int) := if e = 0 ∧ 0 ≤ n ∧ n < (L.length : Int) then (fairleadref10_kind.f k (rd_T39 L n).f2).bind fun K =>
  if 64 < c ∧ (rd_T39 L n).f0 = 1 ∧ 0 < K then (fairleadref10_Place_fail.f L n 0 a 4).bind fun r => some (⟨⟨0, 0⟩, [], []⟩, r.1, r.2.1, r.2.2)
  else (fairleadref10_Place_act.f k L n 0 a).bind fun v => if v.2.2.2.1 = 0 then fairleadref10_Place_rule.l0 k L v.2.2.1 v.2.2.2.2 v.1 v.2.1 [] else some (⟨⟨v.1, v.2.1⟩, [], []⟩, v.2.2.1, v.2.2.2.1, v.2.2.2.2)
 else none
/-- How a rule's reading ends. -/
def plRule (w0 w : World) (g : Nat) (L : List S39) (res : (S44 × Int × Int × Int)) (e : Ending) (w' : World) : Prop := One g w w' ∧ ∃ vn vc, e = .returned (.agg #[.int .i64 res.1.f0.f0, .int .i64 res.1.f0.f1, vn, vc]) ∧ Kd.R Kd.string 9 w' w0.heap.size (fun k => k ≠ g ∧ w.heap.size ≤ k) vn res.1.f1 ∧ k46.R 46 w' w0.heap.size (fun k => k ≠ g ∧ w.heap.size ≤ k) vc res.1.f2 ∧ IsPl w0 w' g L res.2.1 res.2.2.1 res.2.2.2
set_option maxHeartbeats 8000000 in
set_option maxRecDepth 100000 in
theorem fairleadref10_Place_rule.w4 (k : Nat) (g : Nat) (L : List S39) (n a c KD : Int) (w0 w : World) (h : IsPl w0 w g L n 0 a) (h0 : Aside0 (0 ≤ n)) (h1 : Aside0 (n < (L.length : Int))) (HKD : Aside0 (fairleadref10_kind.f k (rd_T39 L n).f2 = some KD)) (hc : 64 < c ∧ (rd_T39 L n).f0 = 1 ∧ 0 < KD) (p1 p2 p3 : Int) (H1 : Aside0 (fairleadref10_Place_fail.f L n 0 a 4 = some (p1, p2, p3))) :
  Calls Try.prog 26 #[.pointer (some ⟨g, 0, none⟩), .int .i64 c] w (plRule w0 w g L (⟨⟨0, 0⟩, [], []⟩, p1, p2, p3)) := by
 have hu := Try.underlying39
 have hu44 := Try.underlying44
 have hu46 := Try.underlying46
 have hu60 := Try.underlying60
 have hL := amp h
 have HO := amp (One.refl g w)
 clear h
 have NG_gr := amp (Nat.ne_of_gt (IsPl.lt hL.out))
 have GT_gr := amp (One.size HO.out)
 have GW_gr := amp (Below.size (IsPl.bw hL.out))
 have m1_gr := NG_gr.out
 have m2_gr := Ne.symm NG_gr.out
 have qa_gr := (IsPl.alloc hL.out (Obj.cells #[.int .i64 0, .int .i64 0, .slice none 0 0, .slice none 0 0] 44)).c1
 have wra_gr := (IsPl.alloc hL.out (Obj.cells #[.int .i64 0, .int .i64 0, .slice none 0 0, .slice none 0 0] 44)).c2
 have ra_gr := (IsPl.alloc hL.out (Obj.cells #[.int .i64 0, .int .i64 0, .slice none 0 0, .slice none 0 0] 44)).fr 1
 go_enter Try.func26, Try.ntmps26
 go_wp2
 have B1_gr := amp (blk_new w (Obj.cells #[.int .i64 0, .int .i64 0, .slice none 0 0, .slice none 0 0] 44))
 have L1 := amp (IsPl.alloc hL.out (Obj.cells #[.int .i64 0, .int .i64 0, .slice none 0 0, .slice none 0 0] 44))
 have O1 := amp (One.alloc HO.out (Obj.cells #[.int .i64 0, .int .i64 0, .slice none 0 0, .slice none 0 0] 44))
 generalize (w.alloc (Obj.cells #[.int .i64 0, .int .i64 0, .slice none 0 0, .slice none 0 0] 44)) = w1 at B1_gr L1 O1 ⊢
 generalize hgen_ : w.heap.size = gr at B1_gr NG_gr GW_gr m1_gr m2_gr ⊢
 clear GT_gr
 have GT_gr := amp (Nat.le_of_eq hgen_)
 clear hgen_
 clear hL HO qa_gr wra_gr ra_gr
 obtain ⟨c1_gr_0, c1_gr_1, c1_gr_2, c1_gr_3⟩ := cl4p B1_gr
 have f1_gr := fun j => blk_frozen B1_gr.out j
 have q1 := L1.out.c1
 have wr1 := L1.out.c2
 have r1 := L1.out.fr 1
 have B2_gr := amp (blk_drew B1_gr.out)
 have L2 := amp (IsPl.drew L1.out)
 have O2 := amp (One.drew O1.out)
 clear L1 O1 B1_gr c1_gr_0 c1_gr_1 c1_gr_2 c1_gr_3 f1_gr q1 wr1 r1
 obtain ⟨ad_, c_, z0_, hne_, x0_, x1_, x2_, x3_⟩ := L2.out.at h0.out h1.out
 have z1_ := L2.out.c1
 have e0_ := eq_true h0.out
 have e1_ := eq_true h1.out
 clear hne_
 refine start_ (n := 13) (S := fun w' => w'.cell? ⟨g, 0, none⟩ = some (.slice (some ad_) L.length c_) ∧ w'.cell? ⟨g, 1, none⟩ = some (.int .i64 n) ∧ w'.cell? ⟨(ad_.add (n.toNat * 4)).block, (ad_.add (n.toNat * 4)).off + 2, none⟩ = some (.string (rd_T39 L n).f2)) (ds := [11]) #[false, false, false, false, false, false, false, false, false, false, false, false, false] (by kernel_rfl) rfl rfl ⟨z0_, z1_, x2_⟩ (fun hHeld => ?_)
 refine Mine.pS 0 (some 8) ?_; refine Mine.pS 1 (some 9) ?_; refine Mine.pS 2 (some 10) ?_; refine Mine.pS 4 (some 12) ?_; refine Mine.pS 5 (some 13) ?_; refine Mine.pS 6 (some 14) ?_; refine Mine.tS 3 (some 11) hHeld ?_; refine Mine.tS 7 (some 15) hHeld ?_; refine Mine.pS 8 (some 16) ?_; refine Mine.pS 9 (some 17) ?_; refine Mine.tS 10 (some 18) hHeld ?_
 refine last_ (i := 11) (N := some 19) #[true, true, true, true, true, true, true, true, true, true, true, true, false] rfl rfl (by kernel_rfl) (by decide) (fun K hK => ?_)
 refine goes_ Try.func37 (by kernel_rfl) rfl #[.string (rd_T39 L n).f2] (by rfl) rfl rfl (by simp only [List.map_toArray, List.map_cons, List.map_nil]; rfl) ?_
 refine (pl_kind k (rd_T39 L n).f2 KD g L n 0 a w0 _ L2.out HKD.out).mono ?_
 rintro e_ w3 ⟨rfl, hR_, hO_⟩
 refine ⟨_, rfl, ?_⟩
 have B3_gr := amp (One.blk hO_ B2_gr.out NG_gr.out)
 have L3 := amp (hR_)
 have O3 := amp (One.trans O2.out hO_)
 try clear L2 O2 B2_gr
 obtain ⟨c3_gr_0, c3_gr_1, c3_gr_2, c3_gr_3⟩ := cl4p B3_gr
 have f3_gr := fun j => blk_frozen B3_gr.out j
 have q3 := L3.out.c1
 have wr3 := L3.out.c2
 have r3 := L3.out.fr 1
 try clear hO_ hR_
 refine hK.out _ _ ?_
 clear hK K
 refine norm_ (a' := ?_) ?_ ?_
 rotate_left
 ·show Act.put _ (some 19) _ = _
  simp only [Act.put, List.setIfInBounds_toArray, List.set_cons_zero, List.set_cons_succ, i64_w, i32_w]
  rfl
 refine Mine.pS 12 (some 5) ?_
 refine done_ (by kernel_rfl) ?_
 clear z0_ z1_ x0_ x1_ x2_ x3_ e0_ e1_
 go_wp2
 have b1 := decide_eq_true hc.1
 have b2 := beq_iff_eq.2 hc.2.1
 have b3 := decide_eq_true hc.2.2
 clear hc
 have B4_gr := amp (blk_drew B3_gr.out)
 have L4 := amp (IsPl.drew L3.out)
 have O4 := amp (One.drew O3.out)
 clear L3 O3 B3_gr c3_gr_0 c3_gr_1 c3_gr_2 c3_gr_3 f3_gr q3 wr3 r3
 obtain ⟨ad_, c_, z0_, hne_, x0_, x1_, x2_, x3_⟩ := L4.out.at h0.out h1.out
 have z1_ := L4.out.c1
 have e0_ := eq_true h0.out
 have e1_ := eq_true h1.out
 clear hne_
 refine start_ (n := 20) (S := fun w' => w'.cell? ⟨g, 0, none⟩ = some (.slice (some ad_) L.length c_) ∧ w'.cell? ⟨g, 1, none⟩ = some (.int .i64 n) ∧ w'.cell? (ad_.add (n.toNat * 4)) = some (.int .i64 (rd_T39 L n).f0)) (ds := []) #[false, false, false, false, false, false, false, false, false, false, false, false, false, false, false, false, false, false, false, false] (by kernel_rfl) rfl rfl ⟨z0_, z1_, x0_⟩ (fun hHeld => ?_)
 refine Mine.pS 0 (some 20) ?_; refine Mine.pS 1 (some 21) ?_; refine Mine.pS 2 (some 22) ?_; refine Mine.pS 3 (some 23) ?_; refine Mine.pS 4 (some 24) ?_; refine Mine.pS 5 (some 25) ?_; refine Mine.pS 7 (some 27) ?_; refine Mine.pS 8 (some 28) ?_; refine Mine.pS 9 (some 29) ?_; refine Mine.tS 6 (some 26) hHeld ?_; refine Mine.tS 10 (some 30) hHeld ?_; refine Mine.pS 11 (some 31) ?_; refine Mine.pS 12 (some 32) ?_; refine Mine.tS 13 (some 33) hHeld ?_; refine Mine.pS 14 (some 34) ?_; refine Mine.pS 15 (some 35) ?_; refine Mine.pS 16 (some 36) ?_; refine Mine.pS 17 (some 37) ?_; refine Mine.pS 18 (some 38) ?_; refine Mine.pS 19 (some 39) ?_
 refine done_ (by kernel_rfl) ?_
 clear z0_ z1_ x0_ x1_ x2_ x3_ e0_ e1_
 go_wp2_with (first | (go_at_call 23; (with_reducible refine (pl_fail g L n 0 a 4 p1 p2 p3 w0 _ L4.out H1.out).mono ?_); rintro e_ w5 ⟨rfl, hR_, hO_⟩; have B5_gr := amp (One.blk hO_ B4_gr.out NG_gr.out); have L5 := amp (hR_); have O5 := amp (One.trans O4.out hO_); try clear L4 O4 B4_gr; obtain ⟨c5_gr_0, c5_gr_1, c5_gr_2, c5_gr_3⟩ := cl4p B5_gr; have f5_gr := fun j => blk_frozen B5_gr.out j; have q5 := L5.out.c1; have wr5 := L5.out.c2; have r5 := L5.out.fr 1; try clear hO_ hR_))
 (repeat (go_step3; (try go_wp2)))
 refine bodyPost_ret (results_cell_row rfl _ _ gr 44 (#[.int .i64 0, .int .i64 0, .slice none 0 0, .slice none 0 0]) (0, 0) _ rfl (blk_put4 B5_gr.out _ _ _ _) hu44 rfl (by kernel_rfl)) rfl ?_
 exact ⟨(One.put4 O5.out GT_gr.out _ _ _ _), _, _, rfl, Kd.R_nil _ _ _ _ _, Kd.R_nil _ _ _ _ _, (IsPl.far4 L5.out NG_gr.out GW_gr.out _ _ _ _)⟩
set_option maxHeartbeats 8000000 in
set_option maxRecDepth 100000 in
theorem fairleadref10_Place_rule.wa (k : Nat) (g : Nat) (L : List S39) (n a c KD : Int) (w0 w : World) (h : IsPl w0 w g L n 0 a) (h0 : Aside0 (0 ≤ n)) (h1 : Aside0 (n < (L.length : Int))) (HKD : Aside0 (fairleadref10_kind.f k (rd_T39 L n).f2 = some KD)) (hc : ¬ (64 < c ∧ (rd_T39 L n).f0 = 1 ∧ 0 < KD)) (kd ar n1 e1 a1 : Int) (he : e1 ≠ 0) (HA : Aside0 (fairleadref10_Place_act.f k L n 0 a = some (kd, ar, n1, e1, a1))) :
  Calls Try.prog 26 #[.pointer (some ⟨g, 0, none⟩), .int .i64 c] w (plRule w0 w g L (⟨⟨kd, ar⟩, [], []⟩, n1, e1, a1)) := by
 have hu := Try.underlying39
 have hu44 := Try.underlying44
 have hu46 := Try.underlying46
 have hu60 := Try.underlying60
 have hL := amp h
 have HO := amp (One.refl g w)
 clear h
 have NG_gr := amp (Nat.ne_of_gt (IsPl.lt hL.out))
 have GT_gr := amp (One.size HO.out)
 have GW_gr := amp (Below.size (IsPl.bw hL.out))
 have m1_gr := NG_gr.out
 have m2_gr := Ne.symm NG_gr.out
 have qa_gr := (IsPl.alloc hL.out (Obj.cells #[.int .i64 0, .int .i64 0, .slice none 0 0, .slice none 0 0] 44)).c1
 have wra_gr := (IsPl.alloc hL.out (Obj.cells #[.int .i64 0, .int .i64 0, .slice none 0 0, .slice none 0 0] 44)).c2
 have ra_gr := (IsPl.alloc hL.out (Obj.cells #[.int .i64 0, .int .i64 0, .slice none 0 0, .slice none 0 0] 44)).fr 1
 go_enter Try.func26, Try.ntmps26
 go_wp2
 have B1_gr := amp (blk_new w (Obj.cells #[.int .i64 0, .int .i64 0, .slice none 0 0, .slice none 0 0] 44))
 have L1 := amp (IsPl.alloc hL.out (Obj.cells #[.int .i64 0, .int .i64 0, .slice none 0 0, .slice none 0 0] 44))
 have O1 := amp (One.alloc HO.out (Obj.cells #[.int .i64 0, .int .i64 0, .slice none 0 0, .slice none 0 0] 44))
 generalize (w.alloc (Obj.cells #[.int .i64 0, .int .i64 0, .slice none 0 0, .slice none 0 0] 44)) = w1 at B1_gr L1 O1 ⊢
 generalize hgen_ : w.heap.size = gr at B1_gr NG_gr GW_gr m1_gr m2_gr ⊢
 clear GT_gr
 have GT_gr := amp (Nat.le_of_eq hgen_)
 clear hgen_
 clear hL HO qa_gr wra_gr ra_gr
 obtain ⟨c1_gr_0, c1_gr_1, c1_gr_2, c1_gr_3⟩ := cl4p B1_gr
 have f1_gr := fun j => blk_frozen B1_gr.out j
 have q1 := L1.out.c1
 have wr1 := L1.out.c2
 have r1 := L1.out.fr 1
 have B2_gr := amp (blk_drew B1_gr.out)
 have L2 := amp (IsPl.drew L1.out)
 have O2 := amp (One.drew O1.out)
 clear L1 O1 B1_gr c1_gr_0 c1_gr_1 c1_gr_2 c1_gr_3 f1_gr q1 wr1 r1
 obtain ⟨ad_, c_, z0_, hne_, x0_, x1_, x2_, x3_⟩ := L2.out.at h0.out h1.out
 have z1_ := L2.out.c1
 have e0_ := eq_true h0.out
 have e1_ := eq_true h1.out
 clear hne_
 refine start_ (n := 13) (S := fun w' => w'.cell? ⟨g, 0, none⟩ = some (.slice (some ad_) L.length c_) ∧ w'.cell? ⟨g, 1, none⟩ = some (.int .i64 n) ∧ w'.cell? ⟨(ad_.add (n.toNat * 4)).block, (ad_.add (n.toNat * 4)).off + 2, none⟩ = some (.string (rd_T39 L n).f2)) (ds := [11]) #[false, false, false, false, false, false, false, false, false, false, false, false, false] (by kernel_rfl) rfl rfl ⟨z0_, z1_, x2_⟩ (fun hHeld => ?_)
 refine Mine.pS 0 (some 8) ?_; refine Mine.pS 1 (some 9) ?_; refine Mine.pS 2 (some 10) ?_; refine Mine.pS 4 (some 12) ?_; refine Mine.pS 5 (some 13) ?_; refine Mine.pS 6 (some 14) ?_; refine Mine.tS 3 (some 11) hHeld ?_; refine Mine.tS 7 (some 15) hHeld ?_; refine Mine.pS 8 (some 16) ?_; refine Mine.pS 9 (some 17) ?_; refine Mine.tS 10 (some 18) hHeld ?_
 refine last_ (i := 11) (N := some 19) #[true, true, true, true, true, true, true, true, true, true, true, true, false] rfl rfl (by kernel_rfl) (by decide) (fun K hK => ?_)
 refine goes_ Try.func37 (by kernel_rfl) rfl #[.string (rd_T39 L n).f2] (by rfl) rfl rfl (by simp only [List.map_toArray, List.map_cons, List.map_nil]; rfl) ?_
 refine (pl_kind k (rd_T39 L n).f2 KD g L n 0 a w0 _ L2.out HKD.out).mono ?_
 rintro e_ w3 ⟨rfl, hR_, hO_⟩
 refine ⟨_, rfl, ?_⟩
 have B3_gr := amp (One.blk hO_ B2_gr.out NG_gr.out)
 have L3 := amp (hR_)
 have O3 := amp (One.trans O2.out hO_)
 try clear L2 O2 B2_gr
 obtain ⟨c3_gr_0, c3_gr_1, c3_gr_2, c3_gr_3⟩ := cl4p B3_gr
 have f3_gr := fun j => blk_frozen B3_gr.out j
 have q3 := L3.out.c1
 have wr3 := L3.out.c2
 have r3 := L3.out.fr 1
 try clear hO_ hR_
 refine hK.out _ _ ?_
 clear hK K
 refine norm_ (a' := ?_) ?_ ?_
 rotate_left
 ·show Act.put _ (some 19) _ = _
  simp only [Act.put, List.setIfInBounds_toArray, List.set_cons_zero, List.set_cons_succ, i64_w, i32_w]
  rfl
 refine Mine.pS 12 (some 5) ?_
 refine done_ (by kernel_rfl) ?_
 clear z0_ z1_ x0_ x1_ x2_ x3_ e0_ e1_
 go_wp2
 go_cut [39] from 8 (fun v39 w' => v39 = .bool false ∧ Aside0 (IsPl w0 w' g L n 0 a) ∧ Aside0 (One g w w') ∧ Aside0 (w'.heap[gr]? = some (.cells #[.int .i64 0, .int .i64 0, .slice none 0 0, .slice none 0 0] 44 (0, 0))))
 case first =>
  rcases (show (decide (64 < c) = false) ∨ (decide (64 < c) = true ∧ ((rd_T39 L n).f0 == 1) = false) ∨ (decide (64 < c) = true ∧ ((rd_T39 L n).f0 == 1) = true ∧ decide (0 < KD) = false) from by
    by_cases q1 : 64 < c
    ·refine .inr ?_
     by_cases q2 : (rd_T39 L n).f0 = 1
     ·exact .inr ⟨decide_eq_true q1, beq_iff_eq.2 q2, decide_eq_false (fun q3 => hc ⟨q1, q2, q3⟩)⟩
     ·exact .inl ⟨decide_eq_true q1, beq_eq_false_iff_ne.2 q2⟩
    ·exact .inl (decide_eq_false q1)) with b1 | ⟨b1, b2⟩ | ⟨b1, b2, b3⟩
  ·clear hc
   have B4_gr := amp (blk_drew B3_gr.out)
   have L4 := amp (IsPl.drew L3.out)
   have O4 := amp (One.drew O3.out)
   clear L3 O3 B3_gr c3_gr_0 c3_gr_1 c3_gr_2 c3_gr_3 f3_gr q3 wr3 r3
   obtain ⟨ad_, c_, z0_, hne_, x0_, x1_, x2_, x3_⟩ := L4.out.at h0.out h1.out
   have z1_ := L4.out.c1
   have e0_ := eq_true h0.out
   have e1_ := eq_true h1.out
   clear hne_
   refine start_ (n := 20) (S := fun w' => w'.cell? ⟨g, 0, none⟩ = some (.slice (some ad_) L.length c_) ∧ w'.cell? ⟨g, 1, none⟩ = some (.int .i64 n) ∧ w'.cell? (ad_.add (n.toNat * 4)) = some (.int .i64 (rd_T39 L n).f0)) (ds := []) #[false, false, false, false, false, false, false, false, false, false, false, false, false, false, false, false, false, false, false, false] (by kernel_rfl) rfl rfl ⟨z0_, z1_, x0_⟩ (fun hHeld => ?_)
   refine Mine.pS 0 (some 20) ?_; refine Mine.pS 1 (some 21) ?_; refine Mine.pS 2 (some 22) ?_; refine Mine.pO 3 (some 23) ?_; refine Mine.pO 4 (some 24) ?_; refine Mine.pO 5 (some 25) ?_; refine Mine.pO 6 (some 26) ?_; refine Mine.pO 7 (some 27) ?_; refine Mine.pO 8 (some 28) ?_; refine Mine.pO 9 (some 29) ?_; refine Mine.pO 10 (some 30) ?_; refine Mine.pO 11 (some 31) ?_; refine Mine.pO 12 (some 32) ?_; refine Mine.pO 13 (some 33) ?_; refine Mine.pO 14 (some 34) ?_; refine Mine.pS 15 (some 35) ?_; refine Mine.pS 16 (some 36) ?_; refine Mine.pO 17 (some 37) ?_; refine Mine.pO 18 (some 38) ?_; refine Mine.pS 19 (some 39) ?_
   refine done_ (by kernel_rfl) ?_
   clear z0_ z1_ x0_ x1_ x2_ x3_ e0_ e1_
   go_wp2
   go_meet
   case rel => exact ⟨rfl, ⟨L4.out⟩, ⟨O4.out⟩, ⟨B4_gr.out⟩⟩
  ·clear hc
   have B4_gr := amp (blk_drew B3_gr.out)
   have L4 := amp (IsPl.drew L3.out)
   have O4 := amp (One.drew O3.out)
   clear L3 O3 B3_gr c3_gr_0 c3_gr_1 c3_gr_2 c3_gr_3 f3_gr q3 wr3 r3
   obtain ⟨ad_, c_, z0_, hne_, x0_, x1_, x2_, x3_⟩ := L4.out.at h0.out h1.out
   have z1_ := L4.out.c1
   have e0_ := eq_true h0.out
   have e1_ := eq_true h1.out
   clear hne_
   refine start_ (n := 20) (S := fun w' => w'.cell? ⟨g, 0, none⟩ = some (.slice (some ad_) L.length c_) ∧ w'.cell? ⟨g, 1, none⟩ = some (.int .i64 n) ∧ w'.cell? (ad_.add (n.toNat * 4)) = some (.int .i64 (rd_T39 L n).f0)) (ds := []) #[false, false, false, false, false, false, false, false, false, false, false, false, false, false, false, false, false, false, false, false] (by kernel_rfl) rfl rfl ⟨z0_, z1_, x0_⟩ (fun hHeld => ?_)
   refine Mine.pS 0 (some 20) ?_; refine Mine.pS 1 (some 21) ?_; refine Mine.pS 2 (some 22) ?_; refine Mine.pS 3 (some 23) ?_; refine Mine.pS 4 (some 24) ?_; refine Mine.pS 5 (some 25) ?_; refine Mine.pS 7 (some 27) ?_; refine Mine.pS 8 (some 28) ?_; refine Mine.pS 9 (some 29) ?_; refine Mine.tS 6 (some 26) hHeld ?_; refine Mine.tS 10 (some 30) hHeld ?_; refine Mine.pS 11 (some 31) ?_; refine Mine.pS 12 (some 32) ?_; refine Mine.tS 13 (some 33) hHeld ?_; refine Mine.pS 14 (some 34) ?_; refine Mine.pS 15 (some 35) ?_; refine Mine.pS 16 (some 36) ?_; refine Mine.pO 17 (some 37) ?_; refine Mine.pO 18 (some 38) ?_; refine Mine.pS 19 (some 39) ?_
   refine done_ (by kernel_rfl) ?_
   clear z0_ z1_ x0_ x1_ x2_ x3_ e0_ e1_
   go_wp2
   go_meet
   case rel => exact ⟨rfl, ⟨L4.out⟩, ⟨O4.out⟩, ⟨B4_gr.out⟩⟩
  ·clear hc
   have B4_gr := amp (blk_drew B3_gr.out)
   have L4 := amp (IsPl.drew L3.out)
   have O4 := amp (One.drew O3.out)
   clear L3 O3 B3_gr c3_gr_0 c3_gr_1 c3_gr_2 c3_gr_3 f3_gr q3 wr3 r3
   obtain ⟨ad_, c_, z0_, hne_, x0_, x1_, x2_, x3_⟩ := L4.out.at h0.out h1.out
   have z1_ := L4.out.c1
   have e0_ := eq_true h0.out
   have e1_ := eq_true h1.out
   clear hne_
   refine start_ (n := 20) (S := fun w' => w'.cell? ⟨g, 0, none⟩ = some (.slice (some ad_) L.length c_) ∧ w'.cell? ⟨g, 1, none⟩ = some (.int .i64 n) ∧ w'.cell? (ad_.add (n.toNat * 4)) = some (.int .i64 (rd_T39 L n).f0)) (ds := []) #[false, false, false, false, false, false, false, false, false, false, false, false, false, false, false, false, false, false, false, false] (by kernel_rfl) rfl rfl ⟨z0_, z1_, x0_⟩ (fun hHeld => ?_)
   refine Mine.pS 0 (some 20) ?_; refine Mine.pS 1 (some 21) ?_; refine Mine.pS 2 (some 22) ?_; refine Mine.pS 3 (some 23) ?_; refine Mine.pS 4 (some 24) ?_; refine Mine.pS 5 (some 25) ?_; refine Mine.pS 7 (some 27) ?_; refine Mine.pS 8 (some 28) ?_; refine Mine.pS 9 (some 29) ?_; refine Mine.tS 6 (some 26) hHeld ?_; refine Mine.tS 10 (some 30) hHeld ?_; refine Mine.pS 11 (some 31) ?_; refine Mine.pS 12 (some 32) ?_; refine Mine.tS 13 (some 33) hHeld ?_; refine Mine.pS 14 (some 34) ?_; refine Mine.pS 15 (some 35) ?_; refine Mine.pS 16 (some 36) ?_; refine Mine.pS 17 (some 37) ?_; refine Mine.pS 18 (some 38) ?_; refine Mine.pS 19 (some 39) ?_
   refine done_ (by kernel_rfl) ?_
   clear z0_ z1_ x0_ x1_ x2_ x3_ e0_ e1_
   go_wp2
   go_meet
   case rel => exact ⟨rfl, ⟨L4.out⟩, ⟨O4.out⟩, ⟨B4_gr.out⟩⟩
 case rest =>
  clear L3 O3 B3_gr c3_gr_0 c3_gr_1 c3_gr_2 c3_gr_3 f3_gr q3 wr3 r3
  obtain ⟨rfl, Lc, Oc, Bc⟩ := hcut
  obtain ⟨c_c0, c_c1, c_c2, c_c3⟩ := cl4p Bc
  have f_c := fun j => blk_frozen Bc.out j
  have q_c := Lc.out.c1
  have wr_c := Lc.out.c2
  have r_c := Lc.out.fr 1
  have y1 := beq_eq_false_iff_ne.2 he
  go_wp2_with (first | (go_at_call 24; (with_reducible refine (pl_act k g L n 0 a kd ar n1 e1 a1 w0 _ Lc.out HA.out).mono ?_); rintro e_ w6 ⟨rfl, hR_, hO_⟩; have B6_gr := amp (One.blk hO_ Bc.out NG_gr.out); have L6 := amp (hR_); have O6 := amp (One.trans Oc.out hO_); try clear Lc Oc Bc c_c0 c_c1 c_c2 c_c3 f_c q_c wr_c r_c; obtain ⟨c6_gr_0, c6_gr_1, c6_gr_2, c6_gr_3⟩ := cl4p B6_gr; have f6_gr := fun j => blk_frozen B6_gr.out j; have q6 := L6.out.c1; have wr6 := L6.out.c2; have r6 := L6.out.fr 1; try clear hO_ hR_; have NG_gx := amp (Nat.ne_of_gt (IsPl.lt L6.out)); have GT_gx := amp (One.size O6.out); have GW_gx := amp (Below.size (IsPl.bw L6.out)); have NE_gx_gr := amp (Nat.ne_of_gt (blk_lt B6_gr.out)); have m1_gx := NG_gx.out; have m2_gx := Ne.symm NG_gx.out; have m3_gx_gr := NE_gx_gr.out; have m4_gx_gr := Ne.symm NE_gx_gr.out; have qa_gx := (IsPl.alloc L6.out (Obj.cells #[.int .i64 kd, .int .i64 ar, .slice none 0 0, .slice none 0 0] 44)).c1; have wra_gx := (IsPl.alloc L6.out (Obj.cells #[.int .i64 kd, .int .i64 ar, .slice none 0 0, .slice none 0 0] 44)).c2; have ra_gx := (IsPl.alloc L6.out (Obj.cells #[.int .i64 kd, .int .i64 ar, .slice none 0 0, .slice none 0 0] 44)).fr 1))
  have B7_gr := amp (blk_alloc B6_gr.out (Obj.cells #[.int .i64 kd, .int .i64 ar, .slice none 0 0, .slice none 0 0] 44))
  have B7_gx := amp (blk_new w6 (Obj.cells #[.int .i64 kd, .int .i64 ar, .slice none 0 0, .slice none 0 0] 44))
  have L7 := amp (IsPl.alloc L6.out (Obj.cells #[.int .i64 kd, .int .i64 ar, .slice none 0 0, .slice none 0 0] 44))
  have O7 := amp (One.alloc O6.out (Obj.cells #[.int .i64 kd, .int .i64 ar, .slice none 0 0, .slice none 0 0] 44))
  generalize (w6.alloc (Obj.cells #[.int .i64 kd, .int .i64 ar, .slice none 0 0, .slice none 0 0] 44)) = w7 at B7_gr B7_gx L7 O7 ⊢
  generalize hgen_ : w6.heap.size = gx at B7_gx NG_gx GT_gx GW_gx NE_gx_gr m1_gx m2_gx m3_gx_gr m4_gx_gr ⊢
  clear hgen_
  clear L6 O6 B6_gr c6_gr_0 c6_gr_1 c6_gr_2 c6_gr_3 f6_gr q6 wr6 r6 qa_gx wra_gx ra_gx
  obtain ⟨c7_gr_0, c7_gr_1, c7_gr_2, c7_gr_3⟩ := cl4p B7_gr
  have f7_gr := fun j => blk_frozen B7_gr.out j
  obtain ⟨c7_gx_0, c7_gx_1, c7_gx_2, c7_gx_3⟩ := cl4p B7_gx
  have f7_gx := fun j => blk_frozen B7_gx.out j
  have q7 := L7.out.c1
  have wr7 := L7.out.c2
  have r7 := L7.out.fr 1
  go_loopg [] 0 (fun kq w' => Aside0 (IsPl w0 w' g L n1 e1 a1) ∧ Aside0 (One g w w') ∧ Aside0 (w'.heap[gr]? = some (.cells #[.int .i64 0, .int .i64 0, .slice none 0 0, .slice none 0 0] 44 (0, 0))) ∧ Aside0 (w'.heap[gx]? = some (.cells #[.int .i64 kd, .int .i64 ar, .slice none 0 0, .slice none 0 0] 44 (0, 0))))
  case atStart => exact ⟨⟨L7.out⟩, ⟨O7.out⟩, ⟨B7_gr.out⟩, ⟨B7_gx.out⟩⟩
  case round =>
   clear c7_gr_0 c7_gr_1 c7_gr_2 c7_gr_3 f7_gr c7_gx_0 c7_gx_1 c7_gx_2 c7_gx_3 f7_gx q7 wr7 r7 L7 O7 B7_gr B7_gx
   obtain ⟨yL, yO, yBr, yBx⟩ := hrel
   obtain ⟨yc0, yc1, yc2, yc3⟩ := cl4p yBr
   obtain ⟨yd0, yd1, yd2, yd3⟩ := cl4p yBx
   have yf := fun j => blk_frozen yBr.out j
   have yh := fun j => blk_frozen yBx.out j
   have yq := yL.out.c1
   have ywr := yL.out.c2
   have yr := yL.out.fr 1
   go_wp2
   (repeat (go_step3; (try go_wp2)))
   refine bodyPost_ret (results_cell_row rfl _ _ gr 44 (#[.int .i64 kd, .int .i64 ar, .slice none 0 0, .slice none 0 0]) (0, 0) _ rfl (blk_put4 yBr.out _ _ _ _) hu44 rfl (by kernel_rfl)) rfl ?_
   exact ⟨(One.put4 yO.out GT_gr.out _ _ _ _), _, _, rfl, Kd.R_nil _ _ _ _ _, Kd.R_nil _ _ _ _ _, (IsPl.far4 yL.out NG_gr.out GW_gr.out _ _ _ _)⟩
set_option maxHeartbeats 60000000 in
set_option maxRecDepth 100000 in
theorem fairleadref10_Place_rule.wn (k : Nat) (g : Nat) (L : List S39) (n a c KD : Int) (w0 w : World) (h : IsPl w0 w g L n 0 a) (h0 : Aside0 (0 ≤ n)) (h1 : Aside0 (n < (L.length : Int))) (HKD : Aside0 (fairleadref10_kind.f k (rd_T39 L n).f2 = some KD)) (hc : ¬ (64 < c ∧ (rd_T39 L n).f0 = 1 ∧ 0 < KD)) (kd ar n1 a1 : Int) (res : (S44 × Int × Int × Int)) (HA : Aside0 (fairleadref10_Place_act.f k L n 0 a = some (kd, ar, n1, 0, a1))) (HL0 : Aside0 (fairleadref10_Place_rule.l0 k L n1 a1 kd ar [] = some res)) :
  Calls Try.prog 26 #[.pointer (some ⟨g, 0, none⟩), .int .i64 c] w (plRule w0 w g L res) := by
 have hu := Try.underlying39
 have hu44 := Try.underlying44
 have hu46 := Try.underlying46
 have hu60 := Try.underlying60
 have hL := amp h
 have HO := amp (One.refl g w)
 clear h
 have NG_gr := amp (Nat.ne_of_gt (IsPl.lt hL.out))
 have GT_gr := amp (One.size HO.out)
 have GW_gr := amp (Below.size (IsPl.bw hL.out))
 have m1_gr := NG_gr.out
 have m2_gr := Ne.symm NG_gr.out
 have qa_gr := (IsPl.alloc hL.out (Obj.cells #[.int .i64 0, .int .i64 0, .slice none 0 0, .slice none 0 0] 44)).c1
 have wra_gr := (IsPl.alloc hL.out (Obj.cells #[.int .i64 0, .int .i64 0, .slice none 0 0, .slice none 0 0] 44)).c2
 have ra_gr := (IsPl.alloc hL.out (Obj.cells #[.int .i64 0, .int .i64 0, .slice none 0 0, .slice none 0 0] 44)).fr 1
 go_enter Try.func26, Try.ntmps26
 go_wp2
 have B1_gr := amp (blk_new w (Obj.cells #[.int .i64 0, .int .i64 0, .slice none 0 0, .slice none 0 0] 44))
 have L1 := amp (IsPl.alloc hL.out (Obj.cells #[.int .i64 0, .int .i64 0, .slice none 0 0, .slice none 0 0] 44))
 have O1 := amp (One.alloc HO.out (Obj.cells #[.int .i64 0, .int .i64 0, .slice none 0 0, .slice none 0 0] 44))
 generalize (w.alloc (Obj.cells #[.int .i64 0, .int .i64 0, .slice none 0 0, .slice none 0 0] 44)) = w1 at B1_gr L1 O1 ⊢
 generalize hgen_ : w.heap.size = gr at B1_gr NG_gr GW_gr m1_gr m2_gr ⊢
 clear GT_gr
 have GT_gr := amp (Nat.le_of_eq hgen_)
 clear hgen_
 clear hL HO qa_gr wra_gr ra_gr
 obtain ⟨c1_gr_0, c1_gr_1, c1_gr_2, c1_gr_3⟩ := cl4p B1_gr
 have f1_gr := fun j => blk_frozen B1_gr.out j
 have q1 := L1.out.c1
 have wr1 := L1.out.c2
 have r1 := L1.out.fr 1
 have B2_gr := amp (blk_drew B1_gr.out)
 have L2 := amp (IsPl.drew L1.out)
 have O2 := amp (One.drew O1.out)
 clear L1 O1 B1_gr c1_gr_0 c1_gr_1 c1_gr_2 c1_gr_3 f1_gr q1 wr1 r1
 obtain ⟨ad_, c_, z0_, hne_, x0_, x1_, x2_, x3_⟩ := L2.out.at h0.out h1.out
 have z1_ := L2.out.c1
 have e0_ := eq_true h0.out
 have e1_ := eq_true h1.out
 clear hne_
 refine start_ (n := 13) (S := fun w' => w'.cell? ⟨g, 0, none⟩ = some (.slice (some ad_) L.length c_) ∧ w'.cell? ⟨g, 1, none⟩ = some (.int .i64 n) ∧ w'.cell? ⟨(ad_.add (n.toNat * 4)).block, (ad_.add (n.toNat * 4)).off + 2, none⟩ = some (.string (rd_T39 L n).f2)) (ds := [11]) #[false, false, false, false, false, false, false, false, false, false, false, false, false] (by kernel_rfl) rfl rfl ⟨z0_, z1_, x2_⟩ (fun hHeld => ?_)
 refine Mine.pS 0 (some 8) ?_; refine Mine.pS 1 (some 9) ?_; refine Mine.pS 2 (some 10) ?_; refine Mine.pS 4 (some 12) ?_; refine Mine.pS 5 (some 13) ?_; refine Mine.pS 6 (some 14) ?_; refine Mine.tS 3 (some 11) hHeld ?_; refine Mine.tS 7 (some 15) hHeld ?_; refine Mine.pS 8 (some 16) ?_; refine Mine.pS 9 (some 17) ?_; refine Mine.tS 10 (some 18) hHeld ?_
 refine last_ (i := 11) (N := some 19) #[true, true, true, true, true, true, true, true, true, true, true, true, false] rfl rfl (by kernel_rfl) (by decide) (fun K hK => ?_)
 refine goes_ Try.func37 (by kernel_rfl) rfl #[.string (rd_T39 L n).f2] (by rfl) rfl rfl (by simp only [List.map_toArray, List.map_cons, List.map_nil]; rfl) ?_
 refine (pl_kind k (rd_T39 L n).f2 KD g L n 0 a w0 _ L2.out HKD.out).mono ?_
 rintro e_ w3 ⟨rfl, hR_, hO_⟩
 refine ⟨_, rfl, ?_⟩
 have B3_gr := amp (One.blk hO_ B2_gr.out NG_gr.out)
 have L3 := amp (hR_)
 have O3 := amp (One.trans O2.out hO_)
 try clear L2 O2 B2_gr
 obtain ⟨c3_gr_0, c3_gr_1, c3_gr_2, c3_gr_3⟩ := cl4p B3_gr
 have f3_gr := fun j => blk_frozen B3_gr.out j
 have q3 := L3.out.c1
 have wr3 := L3.out.c2
 have r3 := L3.out.fr 1
 try clear hO_ hR_
 refine hK.out _ _ ?_
 clear hK K
 refine norm_ (a' := ?_) ?_ ?_
 rotate_left
 ·show Act.put _ (some 19) _ = _
  simp only [Act.put, List.setIfInBounds_toArray, List.set_cons_zero, List.set_cons_succ, i64_w, i32_w]
  rfl
 refine Mine.pS 12 (some 5) ?_
 refine done_ (by kernel_rfl) ?_
 clear z0_ z1_ x0_ x1_ x2_ x3_ e0_ e1_
 go_wp2
 go_cut [39] from 8 (fun v39 w' => v39 = .bool false ∧ Aside0 (IsPl w0 w' g L n 0 a) ∧ Aside0 (One g w w') ∧ Aside0 (w'.heap[gr]? = some (.cells #[.int .i64 0, .int .i64 0, .slice none 0 0, .slice none 0 0] 44 (0, 0))))
 case first =>
  rcases (show (decide (64 < c) = false) ∨ (decide (64 < c) = true ∧ ((rd_T39 L n).f0 == 1) = false) ∨ (decide (64 < c) = true ∧ ((rd_T39 L n).f0 == 1) = true ∧ decide (0 < KD) = false) from by
    by_cases q1 : 64 < c
    ·refine .inr ?_
     by_cases q2 : (rd_T39 L n).f0 = 1
     ·exact .inr ⟨decide_eq_true q1, beq_iff_eq.2 q2, decide_eq_false (fun q3 => hc ⟨q1, q2, q3⟩)⟩
     ·exact .inl ⟨decide_eq_true q1, beq_eq_false_iff_ne.2 q2⟩
    ·exact .inl (decide_eq_false q1)) with b1 | ⟨b1, b2⟩ | ⟨b1, b2, b3⟩
  ·clear hc
   have B4_gr := amp (blk_drew B3_gr.out)
   have L4 := amp (IsPl.drew L3.out)
   have O4 := amp (One.drew O3.out)
   clear L3 O3 B3_gr c3_gr_0 c3_gr_1 c3_gr_2 c3_gr_3 f3_gr q3 wr3 r3
   obtain ⟨ad_, c_, z0_, hne_, x0_, x1_, x2_, x3_⟩ := L4.out.at h0.out h1.out
   have z1_ := L4.out.c1
   have e0_ := eq_true h0.out
   have e1_ := eq_true h1.out
   clear hne_
   refine start_ (n := 20) (S := fun w' => w'.cell? ⟨g, 0, none⟩ = some (.slice (some ad_) L.length c_) ∧ w'.cell? ⟨g, 1, none⟩ = some (.int .i64 n) ∧ w'.cell? (ad_.add (n.toNat * 4)) = some (.int .i64 (rd_T39 L n).f0)) (ds := []) #[false, false, false, false, false, false, false, false, false, false, false, false, false, false, false, false, false, false, false, false] (by kernel_rfl) rfl rfl ⟨z0_, z1_, x0_⟩ (fun hHeld => ?_)
   refine Mine.pS 0 (some 20) ?_; refine Mine.pS 1 (some 21) ?_; refine Mine.pS 2 (some 22) ?_; refine Mine.pO 3 (some 23) ?_; refine Mine.pO 4 (some 24) ?_; refine Mine.pO 5 (some 25) ?_; refine Mine.pO 6 (some 26) ?_; refine Mine.pO 7 (some 27) ?_; refine Mine.pO 8 (some 28) ?_; refine Mine.pO 9 (some 29) ?_; refine Mine.pO 10 (some 30) ?_; refine Mine.pO 11 (some 31) ?_; refine Mine.pO 12 (some 32) ?_; refine Mine.pO 13 (some 33) ?_; refine Mine.pO 14 (some 34) ?_; refine Mine.pS 15 (some 35) ?_; refine Mine.pS 16 (some 36) ?_; refine Mine.pO 17 (some 37) ?_; refine Mine.pO 18 (some 38) ?_; refine Mine.pS 19 (some 39) ?_
   refine done_ (by kernel_rfl) ?_
   clear z0_ z1_ x0_ x1_ x2_ x3_ e0_ e1_
   go_wp2
   go_meet
   case rel => exact ⟨rfl, ⟨L4.out⟩, ⟨O4.out⟩, ⟨B4_gr.out⟩⟩
  ·clear hc
   have B4_gr := amp (blk_drew B3_gr.out)
   have L4 := amp (IsPl.drew L3.out)
   have O4 := amp (One.drew O3.out)
   clear L3 O3 B3_gr c3_gr_0 c3_gr_1 c3_gr_2 c3_gr_3 f3_gr q3 wr3 r3
   obtain ⟨ad_, c_, z0_, hne_, x0_, x1_, x2_, x3_⟩ := L4.out.at h0.out h1.out
   have z1_ := L4.out.c1
   have e0_ := eq_true h0.out
   have e1_ := eq_true h1.out
   clear hne_
   refine start_ (n := 20) (S := fun w' => w'.cell? ⟨g, 0, none⟩ = some (.slice (some ad_) L.length c_) ∧ w'.cell? ⟨g, 1, none⟩ = some (.int .i64 n) ∧ w'.cell? (ad_.add (n.toNat * 4)) = some (.int .i64 (rd_T39 L n).f0)) (ds := []) #[false, false, false, false, false, false, false, false, false, false, false, false, false, false, false, false, false, false, false, false] (by kernel_rfl) rfl rfl ⟨z0_, z1_, x0_⟩ (fun hHeld => ?_)
   refine Mine.pS 0 (some 20) ?_; refine Mine.pS 1 (some 21) ?_; refine Mine.pS 2 (some 22) ?_; refine Mine.pS 3 (some 23) ?_; refine Mine.pS 4 (some 24) ?_; refine Mine.pS 5 (some 25) ?_; refine Mine.pS 7 (some 27) ?_; refine Mine.pS 8 (some 28) ?_; refine Mine.pS 9 (some 29) ?_; refine Mine.tS 6 (some 26) hHeld ?_; refine Mine.tS 10 (some 30) hHeld ?_; refine Mine.pS 11 (some 31) ?_; refine Mine.pS 12 (some 32) ?_; refine Mine.tS 13 (some 33) hHeld ?_; refine Mine.pS 14 (some 34) ?_; refine Mine.pS 15 (some 35) ?_; refine Mine.pS 16 (some 36) ?_; refine Mine.pO 17 (some 37) ?_; refine Mine.pO 18 (some 38) ?_; refine Mine.pS 19 (some 39) ?_
   refine done_ (by kernel_rfl) ?_
   clear z0_ z1_ x0_ x1_ x2_ x3_ e0_ e1_
   go_wp2
   go_meet
   case rel => exact ⟨rfl, ⟨L4.out⟩, ⟨O4.out⟩, ⟨B4_gr.out⟩⟩
  ·clear hc
   have B4_gr := amp (blk_drew B3_gr.out)
   have L4 := amp (IsPl.drew L3.out)
   have O4 := amp (One.drew O3.out)
   clear L3 O3 B3_gr c3_gr_0 c3_gr_1 c3_gr_2 c3_gr_3 f3_gr q3 wr3 r3
   obtain ⟨ad_, c_, z0_, hne_, x0_, x1_, x2_, x3_⟩ := L4.out.at h0.out h1.out
   have z1_ := L4.out.c1
   have e0_ := eq_true h0.out
   have e1_ := eq_true h1.out
   clear hne_
   refine start_ (n := 20) (S := fun w' => w'.cell? ⟨g, 0, none⟩ = some (.slice (some ad_) L.length c_) ∧ w'.cell? ⟨g, 1, none⟩ = some (.int .i64 n) ∧ w'.cell? (ad_.add (n.toNat * 4)) = some (.int .i64 (rd_T39 L n).f0)) (ds := []) #[false, false, false, false, false, false, false, false, false, false, false, false, false, false, false, false, false, false, false, false] (by kernel_rfl) rfl rfl ⟨z0_, z1_, x0_⟩ (fun hHeld => ?_)
   refine Mine.pS 0 (some 20) ?_; refine Mine.pS 1 (some 21) ?_; refine Mine.pS 2 (some 22) ?_; refine Mine.pS 3 (some 23) ?_; refine Mine.pS 4 (some 24) ?_; refine Mine.pS 5 (some 25) ?_; refine Mine.pS 7 (some 27) ?_; refine Mine.pS 8 (some 28) ?_; refine Mine.pS 9 (some 29) ?_; refine Mine.tS 6 (some 26) hHeld ?_; refine Mine.tS 10 (some 30) hHeld ?_; refine Mine.pS 11 (some 31) ?_; refine Mine.pS 12 (some 32) ?_; refine Mine.tS 13 (some 33) hHeld ?_; refine Mine.pS 14 (some 34) ?_; refine Mine.pS 15 (some 35) ?_; refine Mine.pS 16 (some 36) ?_; refine Mine.pS 17 (some 37) ?_; refine Mine.pS 18 (some 38) ?_; refine Mine.pS 19 (some 39) ?_
   refine done_ (by kernel_rfl) ?_
   clear z0_ z1_ x0_ x1_ x2_ x3_ e0_ e1_
   go_wp2
   go_meet
   case rel => exact ⟨rfl, ⟨L4.out⟩, ⟨O4.out⟩, ⟨B4_gr.out⟩⟩
 case rest =>
  clear L3 O3 B3_gr c3_gr_0 c3_gr_1 c3_gr_2 c3_gr_3 f3_gr q3 wr3 r3
  obtain ⟨rfl, Lc, Oc, Bc⟩ := hcut
  obtain ⟨c_c0, c_c1, c_c2, c_c3⟩ := cl4p Bc
  have f_c := fun j => blk_frozen Bc.out j
  have q_c := Lc.out.c1
  have wr_c := Lc.out.c2
  have r_c := Lc.out.fr 1
  go_wp2_with (first | (go_at_call 24; (with_reducible refine (pl_act k g L n 0 a kd ar n1 0 a1 w0 _ Lc.out HA.out).mono ?_); rintro e_ w6 ⟨rfl, hR_, hO_⟩; have B6_gr := amp (One.blk hO_ Bc.out NG_gr.out); have L6 := amp (hR_); have O6 := amp (One.trans Oc.out hO_); try clear Lc Oc Bc c_c0 c_c1 c_c2 c_c3 f_c q_c wr_c r_c; obtain ⟨c6_gr_0, c6_gr_1, c6_gr_2, c6_gr_3⟩ := cl4p B6_gr; have f6_gr := fun j => blk_frozen B6_gr.out j; have q6 := L6.out.c1; have wr6 := L6.out.c2; have r6 := L6.out.fr 1; try clear hO_ hR_; have NG_gx := amp (Nat.ne_of_gt (IsPl.lt L6.out)); have GT_gx := amp (One.size O6.out); have GW_gx := amp (Below.size (IsPl.bw L6.out)); have NE_gx_gr := amp (Nat.ne_of_gt (blk_lt B6_gr.out)); have m1_gx := NG_gx.out; have m2_gx := Ne.symm NG_gx.out; have m3_gx_gr := NE_gx_gr.out; have m4_gx_gr := Ne.symm NE_gx_gr.out; have qa_gx := (IsPl.alloc L6.out (Obj.cells #[.int .i64 kd, .int .i64 ar, .slice none 0 0, .slice none 0 0] 44)).c1; have wra_gx := (IsPl.alloc L6.out (Obj.cells #[.int .i64 kd, .int .i64 ar, .slice none 0 0, .slice none 0 0] 44)).c2; have ra_gx := (IsPl.alloc L6.out (Obj.cells #[.int .i64 kd, .int .i64 ar, .slice none 0 0, .slice none 0 0] 44)).fr 1))
  have B7_gr := amp (blk_alloc B6_gr.out (Obj.cells #[.int .i64 kd, .int .i64 ar, .slice none 0 0, .slice none 0 0] 44))
  have B7_gx := amp (blk_new w6 (Obj.cells #[.int .i64 kd, .int .i64 ar, .slice none 0 0, .slice none 0 0] 44))
  have L7 := amp (IsPl.alloc L6.out (Obj.cells #[.int .i64 kd, .int .i64 ar, .slice none 0 0, .slice none 0 0] 44))
  have O7 := amp (One.alloc O6.out (Obj.cells #[.int .i64 kd, .int .i64 ar, .slice none 0 0, .slice none 0 0] 44))
  generalize (w6.alloc (Obj.cells #[.int .i64 kd, .int .i64 ar, .slice none 0 0, .slice none 0 0] 44)) = w7 at B7_gr B7_gx L7 O7 ⊢
  generalize hgen_ : w6.heap.size = gx at B7_gx NG_gx GT_gx GW_gx NE_gx_gr m1_gx m2_gx m3_gx_gr m4_gx_gr ⊢
  clear hgen_
  clear L6 O6 B6_gr c6_gr_0 c6_gr_1 c6_gr_2 c6_gr_3 f6_gr q6 wr6 r6 qa_gx wra_gx ra_gx
  obtain ⟨c7_gr_0, c7_gr_1, c7_gr_2, c7_gr_3⟩ := cl4p B7_gr
  have f7_gr := fun j => blk_frozen B7_gr.out j
  obtain ⟨c7_gx_0, c7_gx_1, c7_gx_2, c7_gx_3⟩ := cl4p B7_gx
  have f7_gx := fun j => blk_frozen B7_gx.out j
  have q7 := L7.out.c1
  have wr7 := L7.out.c2
  have r7 := L7.out.fr 1
  go_loopg [] k (fun kq w' => ∃ (m : Int) (acc : List ByteArray) (vn : Value), Aside0 (fairleadref10_Place_rule.l0 kq L m a1 kd ar acc = some res) ∧ Aside0 (IsPl w0 w' g L m 0 a1) ∧ Aside0 (One g w w') ∧ Aside0 (w'.heap[gr]? = some (.cells #[.int .i64 0, .int .i64 0, .slice none 0 0, .slice none 0 0] 44 (0, 0))) ∧ Aside0 (w'.heap[gx]? = some (.cells #[.int .i64 kd, .int .i64 ar, vn, .slice none 0 0] 44 (0, 0))) ∧ Aside0 (Kd.R Kd.string 9 w' w0.heap.size (fun k => k ≠ g ∧ k ≠ gr ∧ k ≠ gx ∧ w.heap.size ≤ k) vn acc))
  case atStart => exact ⟨n1, [], .slice none 0 0, HL0, ⟨L7.out⟩, ⟨O7.out⟩, ⟨B7_gr.out⟩, ⟨B7_gx.out⟩, ⟨Kd.R_nil _ _ _ _ _⟩⟩
  case round =>
   try clear HL0 c7_gr_0 c7_gr_1 c7_gr_2 c7_gr_3 f7_gr c7_gx_0 c7_gx_1 c7_gx_2 c7_gx_3 f7_gx q7 wr7 r7 L7 O7 B7_gr B7_gx
   obtain ⟨m, acc, vn, HA1, yL, yO, yBr, yBx, yN⟩ := hrel
   obtain ⟨Av, cv, rfl⟩ := Kd.R_slice yN.out
   cases gk with
   | zero => exact absurd HA1.out (by simp [fairleadref10_Place_rule.l0])
   | succ k1 =>
    have H := HA1.out
    clear HA1
    rw [fairleadref10_Place_rule.l0.eq_2] at H
    by_cases hm : 0 ≤ m ∧ m < (L.length : Int)
    ·rw [if_pos hm] at H
     have i0 := amp hm.1
     have i1 := amp hm.2
     have H_ := amp H
     clear hm H
     obtain ⟨yc0, yc1, yc2, yc3⟩ := cl4p yBr
     obtain ⟨yd0, yd1, yd2, yd3⟩ := cl4p yBx
     have yf := fun j => blk_frozen yBr.out j
     have yh := fun j => blk_frozen yBx.out j
     have yq := yL.out.c1
     have ywr := yL.out.c2
     have yr := yL.out.fr 1
     go_wp2
     have LD_ := amp (IsPl.drew yL.out)
     obtain ⟨ad_, c_, z0_, hne_, x0_, x1_, x2_, x3_⟩ := LD_.out.at i0.out i1.out
     have z1_ := LD_.out.c1
     have e0_ := eq_true i0.out
     have e1_ := eq_true i1.out
     clear hne_ yc0 yc1 yc2 yc3 yd0 yd1 yd2 yd3 yf yh yq ywr yr
     refine start_ (n := 12) (S := fun w' => w'.cell? ⟨g, 0, none⟩ = some (.slice (some ad_) L.length c_) ∧ w'.cell? ⟨g, 1, none⟩ = some (.int .i64 m) ∧ w'.cell? (ad_.add ((m).toNat * 4)) = some (.int .i64 (rd_T39 L m).f0) ∧ w'.cell? ⟨(ad_.add ((m).toNat * 4)).block, (ad_.add ((m).toNat * 4)).off + 1, none⟩ = some (.int .i64 (rd_T39 L m).f1) ∧ w'.cell? ⟨(ad_.add ((m).toNat * 4)).block, (ad_.add ((m).toNat * 4)).off + 2, none⟩ = some (.string (rd_T39 L m).f2) ∧ w'.cell? ⟨(ad_.add ((m).toNat * 4)).block, (ad_.add ((m).toNat * 4)).off + 3, none⟩ = some (.int .u64 (rd_T39 L m).f3)) (ds := [11]) #[false, false, false, false, false, false, false, false, false, false, false, false] (by kernel_rfl) rfl rfl ⟨z0_, z1_, x0_, x1_, x2_, x3_⟩ (fun hHeld => ?_)
     refine Mine.pS 0 (some 51) ?_; refine Mine.pS 1 (some 52) ?_; refine Mine.pS 2 (some 53) ?_; refine Mine.pS 4 (some 55) ?_; refine Mine.pS 5 (some 56) ?_; refine Mine.pS 6 (some 57) ?_; refine Mine.tS 3 (some 54) hHeld ?_; refine Mine.tS 7 (some 58) hHeld ?_; refine Mine.pS 8 (some 59) ?_; refine Mine.tS 9 (some 60) hHeld ?_
     refine one_ (i := 10) (N := some 7) #[true, true, true, true, true, true, true, true, true, true, true, false] rfl rfl (by kernel_rfl) (by decide) (fun K hK => ?_)
     refine value_ (w1 := ?_) (v := ?_) (by rfl) rfl ?_ ?_
     rotate_left 2
     ·go_simp
      constructor
      ·rfl
      ·rfl
     refine hK.out _ _ ⟨(cell_alloc_ z0_ _), (cell_alloc_ z1_ _), (cell_alloc_ x0_ _), (cell_alloc_ x1_ _), (cell_alloc_ x2_ _), (cell_alloc_ x3_ _)⟩ (fun hHeld => ?_)
     clear hK K
     refine norm_ (a' := ?_) ?_ ?_
     rotate_left
     ·show Act.put _ (some 7) _ = _
      simp only [Act.put, List.setIfInBounds_toArray, List.set_cons_zero, List.set_cons_succ, i64_w, i32_w]
      rfl
     refine last_ (i := 11) (N := none) #[true, true, true, true, true, true, true, true, true, true, true, true] rfl rfl (by kernel_rfl) (by decide) (fun K hK => ?_)
     refine skip_ (w1 := ?_) (by rfl) rfl ?_ ?_
     rotate_left
     ·go_simp
      rfl
     refine hK.out _ _ ?_
     clear hK K
     refine done_ (by kernel_rfl) ?_
     clear LD_ z0_ z1_ x0_ x1_ x2_ x3_ e0_ e1_
     have B21_gr := amp (blk_drew (blk_alloc yBr.out (Obj.cells #[.int .i64 (rd_T39 L m).f0, .int .i64 (rd_T39 L m).f1, .string (rd_T39 L m).f2, .int .u64 (rd_T39 L m).f3] 39)))
     have B21_gx := amp (blk_drew (blk_alloc yBx.out (Obj.cells #[.int .i64 (rd_T39 L m).f0, .int .i64 (rd_T39 L m).f1, .string (rd_T39 L m).f2, .int .u64 (rd_T39 L m).f3] 39)))
     have L21 := amp (IsPl.drew (IsPl.alloc yL.out (Obj.cells #[.int .i64 (rd_T39 L m).f0, .int .i64 (rd_T39 L m).f1, .string (rd_T39 L m).f2, .int .u64 (rd_T39 L m).f3] 39)))
     have O21 := amp (One.drew (One.alloc yO.out (Obj.cells #[.int .i64 (rd_T39 L m).f0, .int .i64 (rd_T39 L m).f1, .string (rd_T39 L m).f2, .int .u64 (rd_T39 L m).f3] 39)))
     have B21_gt := amp (blk_drew (blk_new wr (Obj.cells #[.int .i64 (rd_T39 L m).f0, .int .i64 (rd_T39 L m).f1, .string (rd_T39 L m).f2, .int .u64 (rd_T39 L m).f3] 39)))
     have R21_ns := amp (Kd.R_drew (Kd.R_below yN.out (below_alloc (Below.refl _ _) (Obj.cells #[.int .i64 (rd_T39 L m).f0, .int .i64 (rd_T39 L m).f1, .string (rd_T39 L m).f2, .int .u64 (rd_T39 L m).f3] 39))))
     have NG_gt := amp (Nat.ne_of_gt (IsPl.lt yL.out))
     have GT_gt := amp (One.size yO.out)
     have GW_gt := amp (Below.size (IsPl.bw yL.out))
     have NE_gt_gr := amp (Nat.ne_of_gt (blk_lt yBr.out))
     have NE_gt_gx := amp (Nat.ne_of_gt (blk_lt yBx.out))
     generalize ((wr.alloc (Obj.cells #[.int .i64 (rd_T39 L m).f0, .int .i64 (rd_T39 L m).f1, .string (rd_T39 L m).f2, .int .u64 (rd_T39 L m).f3] 39)).drew) = w21 at B21_gr B21_gx L21 O21 B21_gt R21_ns ⊢
     generalize wr.heap.size = gt at B21_gt NG_gt GT_gt GW_gt NE_gt_gr NE_gt_gx ⊢
     clear yL yO yBr yBx yN
     obtain ⟨c21_gr_0, c21_gr_1, c21_gr_2, c21_gr_3⟩ := cl4p B21_gr
     have f21_gr := fun j => blk_frozen B21_gr.out j
     obtain ⟨c21_gx_0, c21_gx_1, c21_gx_2, c21_gx_3⟩ := cl4p B21_gx
     have f21_gx := fun j => blk_frozen B21_gx.out j
     obtain ⟨c21_gt_0, c21_gt_1, c21_gt_2, c21_gt_3⟩ := cl4p B21_gt
     have f21_gt := fun j => blk_frozen B21_gt.out j
     have q21 := L21.out.c1
     have wr21 := L21.out.c2
     have r21 := L21.out.fr 1
     have m1_gt := NG_gt.out
     have m2_gt := Ne.symm NG_gt.out
     have m3_gt_gr := NE_gt_gr.out
     have m3_gt_gx := NE_gt_gx.out
     have m4_gt_gr := Ne.symm NE_gt_gr.out
     have m4_gt_gx := Ne.symm NE_gt_gx.out
     have H := H_.out
     clear H_
     by_cases hk : (rd_T39 L m).f0 = 1
     ·rw [if_pos hk] at H
      have fa := bne_eq_false_iff_eq.mpr hk
      clear hk
      by_cases h16 : acc.length = 16
      ·rw [if_pos h16] at H
       have fb : ((acc.length : Int) == 16) = true := beq_iff_eq.mpr (by omega)
       clear h16
       obtain ⟨⟨p1, p2, p3⟩, H1, H⟩ := Option.bind_eq_some_iff.mp H
       have H1 := amp H1
       obtain rfl := Option.some.inj H
       clear H
       go_wp2_with (first | (go_at_call 23; (with_reducible refine (pl_fail g L m 0 a1 4 p1 p2 p3 w0 _ L21.out H1.out).mono ?_); rintro e_ w22 ⟨rfl, hR_, hO_⟩; have B22_gr := amp (One.blk hO_ B21_gr.out NG_gr.out); have B22_gx := amp (One.blk hO_ B21_gx.out NG_gx.out); have B22_gt := amp (One.blk hO_ B21_gt.out NG_gt.out); have L22 := amp (hR_); have O22 := amp (One.trans O21.out hO_); have R22_ns := amp (Kd.R_step R21_ns.out (fun k_ ok_ hlt_ => One.block hO_ k_ hlt_ ok_.1)); try clear L21 O21 B21_gr B21_gx B21_gt c21_gr_0 c21_gr_1 c21_gr_2 c21_gr_3 f21_gr c21_gx_0 c21_gx_1 c21_gx_2 c21_gx_3 f21_gx c21_gt_0 c21_gt_1 c21_gt_2 c21_gt_3 f21_gt q21 wr21 r21 R21_ns; obtain ⟨c22_gr_0, c22_gr_1, c22_gr_2, c22_gr_3⟩ := cl4p B22_gr; have f22_gr := fun j => blk_frozen B22_gr.out j; obtain ⟨c22_gx_0, c22_gx_1, c22_gx_2, c22_gx_3⟩ := cl4p B22_gx; have f22_gx := fun j => blk_frozen B22_gx.out j; obtain ⟨c22_gt_0, c22_gt_1, c22_gt_2, c22_gt_3⟩ := cl4p B22_gt; have f22_gt := fun j => blk_frozen B22_gt.out j; have q22 := L22.out.c1; have wr22 := L22.out.c2; have r22 := L22.out.fr 1; try clear hO_ hR_))
       (repeat (go_step3; (try go_wp2)))
       refine bodyPost_ret (results_cell_row rfl _ _ gr 44 (#[.int .i64 kd, .int .i64 ar, .slice Av acc.length cv, .slice none 0 0]) (0, 0) _ rfl (blk_put4 B22_gr.out _ _ _ _) hu44 rfl (by kernel_rfl)) rfl ?_
       exact ⟨(One.put4 O22.out GT_gr.out _ _ _ _), _, _, rfl, Kd.R_mono (Kd.R_far (p := ⟨gr, 3, none⟩) (Kd.R_far (p := ⟨gr, 2, none⟩) (Kd.R_far (p := ⟨gr, 1, none⟩) (Kd.R_far (p := ⟨gr, 0, none⟩) R22_ns.out (fun _ ok_ => ok_.2.1) _) (fun _ ok_ => ok_.2.1) _) (fun _ ok_ => ok_.2.1) _) (fun _ ok_ => ok_.2.1) _) (fun k_ h_ => ⟨h_.1, h_.2.2.2⟩), Kd.R_nil _ _ _ _ _, (IsPl.far4 L22.out NG_gr.out GW_gr.out _ _ _ _)⟩
      ·rw [if_neg h16] at H
       have fb : ((acc.length : Int) == 16) = false := beq_eq_false_iff_ne.mpr (by omega)
       clear h16
       by_cases hl : acc.length < 1000 ∧ 0 ≤ (wrap64 (m + 1)) ∧ (wrap64 (m + 1)) < (L.length : Int)
       ·rw [if_pos hl] at H
        have hlen := amp hl.1
        have j0 := amp hl.2.1
        have j1 := amp hl.2.2
        clear hl
        by_cases hc2 : ((rd_T39 L (wrap64 (m + 1))).f0 = 3 ∧ (rd_T39 L (wrap64 (m + 1))).f2.toList = (⟨#[44]⟩ : ByteArray).toList)
        ·rw [if_pos hc2] at H
         have H' := amp H
         have A3 : Aside0 (true = decide ((rd_T39 L (wrap64 (m + 1))).f0 = 3 ∧ (rd_T39 L (wrap64 (m + 1))).f2.toList = (⟨#[44]⟩ : ByteArray).toList)) := ⟨(decide_eq_true hc2).symm⟩
         clear H hc2
         go_wp2_with (first | ((with_reducible refine gate_builtin (b := .append) (xs := #[(.tmp 82), (.tmp 85)]) rfl ?_); at_builtin; refine Kd.R_append Kd.string (w0 := w0) w0.heap.size rfl (.tmp 82) (.tmp 85) 41 9 (.string ⟨#[]⟩) 16 rfl Try.underlying41 info9 rfl (by decide) (by omega) (.slice Av acc.length cv) acc ((rd_T39 L m).f2) [.string (rd_T39 L m).f2] (fun k => k ≠ g ∧ k ≠ gr ∧ k ≠ gx ∧ w.heap.size ≤ k) (fun _ => False) rfl (by first | rfl | (go_simp; done) | (go_simp; rfl)) ?aP (fun _ hk => hk.elim) ?aF ?aO ?aB ?aS ?aL ?_; (case aP => exact rfl); (case aB => exact IsPl.bw (IsPl.set L21.out (wrap64 (m + 1)))); (case aF => exact (fun k_ hk_ => ⟨Nat.ne_of_gt (Nat.lt_of_lt_of_le (IsPl.lt (IsPl.set L21.out (wrap64 (m + 1)))) hk_), Nat.ne_of_gt (Nat.lt_of_lt_of_le (blk_lt (blk_far B21_gr.out NG_gr.out _)) hk_), Nat.ne_of_gt (Nat.lt_of_lt_of_le (blk_lt (blk_far B21_gx.out NG_gx.out _)) hk_), Nat.le_trans (One.size (One.setCell O21.out 1 _)) hk_⟩)); (case aO => exact (Kd.R_far (p := ⟨g, 1, none⟩) R21_ns.out (fun _ ok_ => ok_.1) (.int .i64 (wrap64 (m + 1))))); (case aS => exact Below.size (IsPl.bw (IsPl.set L21.out (wrap64 (m + 1))))); (case aL => (have := hlen.out; omega)); intro v22 w22 ho_ hb_ hg_ hat_; obtain ⟨A22_, c22_, rfl⟩ := Kd.R_slice ho_; rw [show (acc ++ [(rd_T39 L m).f2]).length = acc.length + 1 from by simp] at ho_; have B22_gr := amp (blk_grown (blk_far B21_gr.out NG_gr.out _) hg_ (fun e_ => (R21_ns.out.1 gr e_.symm).2.1 rfl)); have B22_gx := amp (blk_grown (blk_far B21_gx.out NG_gx.out _) hg_ (fun e_ => (R21_ns.out.1 gx e_.symm).2.2.1 rfl)); have L22 := amp (IsPl.grown (IsPl.set L21.out (wrap64 (m + 1))) hg_ (fun e_ => (R21_ns.out.1 g e_.symm).1 rfl) hb_); have O22 := amp (One.grown (One.setCell O21.out 1 _) hg_ (fun k_ e_ => (R21_ns.out.1 k_ e_).2.2.2)); have R22_ns := amp ho_; try clear L21 O21 B21_gr B21_gx B21_gt R21_ns c21_gr_0 c21_gr_1 c21_gr_2 c21_gr_3 f21_gr c21_gx_0 c21_gx_1 c21_gx_2 c21_gx_3 f21_gx c21_gt_0 c21_gt_1 c21_gt_2 c21_gt_3 f21_gt q21 wr21 r21; obtain ⟨c22_gr_0, c22_gr_1, c22_gr_2, c22_gr_3⟩ := cl4p B22_gr; have f22_gr := fun j => blk_frozen B22_gr.out j; obtain ⟨c22_gx_0, c22_gx_1, c22_gx_2, c22_gx_3⟩ := cl4p B22_gx; have f22_gx := fun j => blk_frozen B22_gx.out j; have q22 := L22.out.c1; have wr22 := L22.out.c2; have r22 := L22.out.fr 1; try clear ho_ hb_ hg_ hat_) | (go_at_call 22; (with_reducible refine (pl_is g L (wrap64 (m + 1)) 0 a1 3 ⟨#[44]⟩ true w0 _ (IsPl.far (p := ⟨gx, 2, none⟩) L22.out NG_gx.out GW_gx.out _) j0.out j1.out A3.out).mono ?_); rintro e_ w23 ⟨rfl, hR_, hO_⟩; have B23_gr := amp (One.blk hO_ (blk_far B22_gr.out (Ne.symm NE_gx_gr.out) _) NG_gr.out); have B23_gx := amp (One.blk hO_ (blk_put (cs' := #[.int .i64 kd, .int .i64 ar, (.slice A22_ (acc.length + 1) c22_), .slice none 0 0]) B22_gx.out 2 ((.slice A22_ (acc.length + 1) c22_)) rfl) NG_gx.out); have L23 := amp (hR_); have O23 := amp (One.trans (One.put (p := ⟨gx, 2, none⟩) O22.out GT_gx.out _) hO_); have R23_ns := amp (Kd.R_step (Kd.R_far (p := ⟨gx, 2, none⟩) R22_ns.out (fun _ ok_ => ok_.2.2.1) _) (fun k_ ok_ hlt_ => One.block hO_ k_ hlt_ ok_.1)); try clear L22 O22 B22_gr B22_gx c22_gr_0 c22_gr_1 c22_gr_2 c22_gr_3 f22_gr c22_gx_0 c22_gx_1 c22_gx_2 c22_gx_3 f22_gx q22 wr22 r22 R22_ns; obtain ⟨c23_gr_0, c23_gr_1, c23_gr_2, c23_gr_3⟩ := cl4p B23_gr; have f23_gr := fun j => blk_frozen B23_gr.out j; obtain ⟨c23_gx_0, c23_gx_1, c23_gx_2, c23_gx_3⟩ := cl4p B23_gx; have f23_gx := fun j => blk_frozen B23_gx.out j; have q23 := L23.out.c1; have wr23 := L23.out.c2; have r23 := L23.out.fr 1; try clear hO_ hR_))
         go_roundg k1
         case measure => omega
         case rel => exact ⟨(wrap64 ((wrap64 (m + 1)) + 1)), (acc ++ [(rd_T39 L m).f2]), (.slice A22_ (acc.length + 1) c22_), H', ⟨(IsPl.set L23.out (wrap64 ((wrap64 (m + 1)) + 1)))⟩, ⟨(One.setCell O23.out 1 (.int .i64 (wrap64 ((wrap64 (m + 1)) + 1))))⟩, ⟨(blk_far (p := ⟨g, 1, none⟩) B23_gr.out NG_gr.out (.int .i64 (wrap64 ((wrap64 (m + 1)) + 1))))⟩, ⟨(blk_far (p := ⟨g, 1, none⟩) B23_gx.out NG_gx.out (.int .i64 (wrap64 ((wrap64 (m + 1)) + 1))))⟩, ⟨(Kd.R_far (p := ⟨g, 1, none⟩) R23_ns.out (fun _ ok_ => ok_.1) (.int .i64 (wrap64 ((wrap64 (m + 1)) + 1))))⟩⟩
        ·rw [if_neg hc2] at H
         have A3 : Aside0 (false = decide ((rd_T39 L (wrap64 (m + 1))).f0 = 3 ∧ (rd_T39 L (wrap64 (m + 1))).f2.toList = (⟨#[44]⟩ : ByteArray).toList)) := ⟨(decide_eq_false hc2).symm⟩
         clear hc2
         unfold fairleadref10_Place_rule.g at H
         rw [if_pos (show 0 ≤ (wrap64 (m + 1)) ∧ (wrap64 (m + 1)) < (L.length : Int) from ⟨j0.out, j1.out⟩)] at H
         by_cases hw : ((rd_T39 L (wrap64 (m + 1))).f0 = 1 ∧ (rd_T39 L (wrap64 (m + 1))).f2.toList = (⟨#[119, 104, 101, 110]⟩ : ByteArray).toList)
         ·rw [if_pos hw] at H
          have A4 : Aside0 (true = decide ((rd_T39 L (wrap64 (m + 1))).f0 = 1 ∧ (rd_T39 L (wrap64 (m + 1))).f2.toList = (⟨#[119, 104, 101, 110]⟩ : ByteArray).toList)) := ⟨(decide_eq_true hw).symm⟩
          clear hw
          obtain ⟨⟨b0, b1, b2, b3, n5, e5, a5⟩, HC, H⟩ := Option.bind_eq_some_iff.mp H
          have HC := amp HC
          have H' := amp H
          clear H
          go_wp2_with (first | ((with_reducible refine gate_builtin (b := .append) (xs := #[(.tmp 82), (.tmp 85)]) rfl ?_); at_builtin; refine Kd.R_append Kd.string (w0 := w0) w0.heap.size rfl (.tmp 82) (.tmp 85) 41 9 (.string ⟨#[]⟩) 16 rfl Try.underlying41 info9 rfl (by decide) (by omega) (.slice Av acc.length cv) acc ((rd_T39 L m).f2) [.string (rd_T39 L m).f2] (fun k => k ≠ g ∧ k ≠ gr ∧ k ≠ gx ∧ w.heap.size ≤ k) (fun _ => False) rfl (by first | rfl | (go_simp; done) | (go_simp; rfl)) ?aP (fun _ hk => hk.elim) ?aF ?aO ?aB ?aS ?aL ?_; (case aP => exact rfl); (case aB => exact IsPl.bw (IsPl.set L21.out (wrap64 (m + 1)))); (case aF => exact (fun k_ hk_ => ⟨Nat.ne_of_gt (Nat.lt_of_lt_of_le (IsPl.lt (IsPl.set L21.out (wrap64 (m + 1)))) hk_), Nat.ne_of_gt (Nat.lt_of_lt_of_le (blk_lt (blk_far B21_gr.out NG_gr.out _)) hk_), Nat.ne_of_gt (Nat.lt_of_lt_of_le (blk_lt (blk_far B21_gx.out NG_gx.out _)) hk_), Nat.le_trans (One.size (One.setCell O21.out 1 _)) hk_⟩)); (case aO => exact (Kd.R_far (p := ⟨g, 1, none⟩) R21_ns.out (fun _ ok_ => ok_.1) (.int .i64 (wrap64 (m + 1))))); (case aS => exact Below.size (IsPl.bw (IsPl.set L21.out (wrap64 (m + 1))))); (case aL => (have := hlen.out; omega)); intro v22 w22 ho_ hb_ hg_ hat_; obtain ⟨A22_, c22_, rfl⟩ := Kd.R_slice ho_; rw [show (acc ++ [(rd_T39 L m).f2]).length = acc.length + 1 from by simp] at ho_; have B22_gr := amp (blk_grown (blk_far B21_gr.out NG_gr.out _) hg_ (fun e_ => (R21_ns.out.1 gr e_.symm).2.1 rfl)); have B22_gx := amp (blk_grown (blk_far B21_gx.out NG_gx.out _) hg_ (fun e_ => (R21_ns.out.1 gx e_.symm).2.2.1 rfl)); have L22 := amp (IsPl.grown (IsPl.set L21.out (wrap64 (m + 1))) hg_ (fun e_ => (R21_ns.out.1 g e_.symm).1 rfl) hb_); have O22 := amp (One.grown (One.setCell O21.out 1 _) hg_ (fun k_ e_ => (R21_ns.out.1 k_ e_).2.2.2)); have R22_ns := amp ho_; try clear L21 O21 B21_gr B21_gx B21_gt R21_ns c21_gr_0 c21_gr_1 c21_gr_2 c21_gr_3 f21_gr c21_gx_0 c21_gx_1 c21_gx_2 c21_gx_3 f21_gx c21_gt_0 c21_gt_1 c21_gt_2 c21_gt_3 f21_gt q21 wr21 r21; obtain ⟨c22_gr_0, c22_gr_1, c22_gr_2, c22_gr_3⟩ := cl4p B22_gr; have f22_gr := fun j => blk_frozen B22_gr.out j; obtain ⟨c22_gx_0, c22_gx_1, c22_gx_2, c22_gx_3⟩ := cl4p B22_gx; have f22_gx := fun j => blk_frozen B22_gx.out j; have q22 := L22.out.c1; have wr22 := L22.out.c2; have r22 := L22.out.fr 1; try clear ho_ hb_ hg_ hat_) | (go_at_call 22; (with_reducible refine (pl_is g L (wrap64 (m + 1)) 0 a1 3 ⟨#[44]⟩ false w0 _ (IsPl.far (p := ⟨gx, 2, none⟩) L22.out NG_gx.out GW_gx.out _) j0.out j1.out A3.out).mono ?_); rintro e_ w23 ⟨rfl, hR_, hO_⟩; have B23_gr := amp (One.blk hO_ (blk_far B22_gr.out (Ne.symm NE_gx_gr.out) _) NG_gr.out); have B23_gx := amp (One.blk hO_ (blk_put (cs' := #[.int .i64 kd, .int .i64 ar, (.slice A22_ (acc.length + 1) c22_), .slice none 0 0]) B22_gx.out 2 ((.slice A22_ (acc.length + 1) c22_)) rfl) NG_gx.out); have L23 := amp (hR_); have O23 := amp (One.trans (One.put (p := ⟨gx, 2, none⟩) O22.out GT_gx.out _) hO_); have R23_ns := amp (Kd.R_step (Kd.R_far (p := ⟨gx, 2, none⟩) R22_ns.out (fun _ ok_ => ok_.2.2.1) _) (fun k_ ok_ hlt_ => One.block hO_ k_ hlt_ ok_.1)); try clear L22 O22 B22_gr B22_gx c22_gr_0 c22_gr_1 c22_gr_2 c22_gr_3 f22_gr c22_gx_0 c22_gx_1 c22_gx_2 c22_gx_3 f22_gx q22 wr22 r22 R22_ns; obtain ⟨c23_gr_0, c23_gr_1, c23_gr_2, c23_gr_3⟩ := cl4p B23_gr; have f23_gr := fun j => blk_frozen B23_gr.out j; obtain ⟨c23_gx_0, c23_gx_1, c23_gx_2, c23_gx_3⟩ := cl4p B23_gx; have f23_gx := fun j => blk_frozen B23_gx.out j; have q23 := L23.out.c1; have wr23 := L23.out.c2; have r23 := L23.out.fr 1; try clear hO_ hR_) | (go_at_call 22; (with_reducible refine (pl_is g L (wrap64 (m + 1)) 0 a1 1 ⟨#[119, 104, 101, 110]⟩ true w0 _ L23.out j0.out j1.out A4.out).mono ?_); rintro e_ w24 ⟨rfl, hR_, hO_⟩; have B24_gr := amp (One.blk hO_ B23_gr.out NG_gr.out); have B24_gx := amp (One.blk hO_ B23_gx.out NG_gx.out); have L24 := amp (hR_); have O24 := amp (One.trans O23.out hO_); have R24_ns := amp (Kd.R_step R23_ns.out (fun k_ ok_ hlt_ => One.block hO_ k_ hlt_ ok_.1)); try clear L23 O23 B23_gr B23_gx c23_gr_0 c23_gr_1 c23_gr_2 c23_gr_3 f23_gr c23_gx_0 c23_gx_1 c23_gx_2 c23_gx_3 f23_gx q23 wr23 r23 R23_ns; obtain ⟨c24_gr_0, c24_gr_1, c24_gr_2, c24_gr_3⟩ := cl4p B24_gr; have f24_gr := fun j => blk_frozen B24_gr.out j; obtain ⟨c24_gx_0, c24_gx_1, c24_gx_2, c24_gx_3⟩ := cl4p B24_gx; have f24_gx := fun j => blk_frozen B24_gx.out j; have q24 := L24.out.c1; have wr24 := L24.out.c2; have r24 := L24.out.fr 1; try clear hO_ hR_))
          have B25_gr := amp (blk_far (p := ⟨g, 1, none⟩) B24_gr.out NG_gr.out (.int .i64 (wrap64 ((wrap64 (m + 1)) + 1))))
          have B25_gx := amp (blk_far (p := ⟨g, 1, none⟩) B24_gx.out NG_gx.out (.int .i64 (wrap64 ((wrap64 (m + 1)) + 1))))
          have L25 := amp (IsPl.set L24.out (wrap64 ((wrap64 (m + 1)) + 1)))
          have O25 := amp (One.setCell O24.out 1 (.int .i64 (wrap64 ((wrap64 (m + 1)) + 1))))
          have R25_ns := amp (Kd.R_far (p := ⟨g, 1, none⟩) R24_ns.out (fun _ ok_ => ok_.1) (.int .i64 (wrap64 ((wrap64 (m + 1)) + 1))))
          generalize (w24.setCell ⟨g, 1, none⟩ (.int .i64 (wrap64 ((wrap64 (m + 1)) + 1)))) = w25 at B25_gr B25_gx L25 O25 R25_ns ⊢
          clear L24 O24 B24_gr B24_gx R24_ns c24_gr_0 c24_gr_1 c24_gr_2 c24_gr_3 f24_gr c24_gx_0 c24_gx_1 c24_gx_2 c24_gx_3 f24_gx q24 wr24 r24
          obtain ⟨c25_gr_0, c25_gr_1, c25_gr_2, c25_gr_3⟩ := cl4p B25_gr
          have f25_gr := fun j => blk_frozen B25_gr.out j
          obtain ⟨c25_gx_0, c25_gx_1, c25_gx_2, c25_gx_3⟩ := cl4p B25_gx
          have f25_gx := fun j => blk_frozen B25_gx.out j
          have q25 := L25.out.c1
          have wr25 := L25.out.c2
          have r25 := L25.out.fr 1
          have RC_ := amp (show k46.R 46 w25 w0.heap.size (fun k => k ≠ g ∧ k ≠ gr ∧ k ≠ gx ∧ w.heap.size ≤ k) (.slice none 0 0) ([] : List S46) from Kd.R_nil _ _ _ _ _)
          have B26_gr := amp (blk_drew B25_gr.out)
          have B26_gx := amp (blk_drew B25_gx.out)
          have L26 := amp (IsPl.drew L25.out)
          have O26 := amp (One.drew O25.out)
          have R26_ns := amp (Kd.R_drew R25_ns.out)
          have R26_cs := amp (Kd.R_drew RC_.out)
          clear L25 O25 B25_gr B25_gx R25_ns RC_ c25_gr_0 c25_gr_1 c25_gr_2 c25_gr_3 f25_gr c25_gx_0 c25_gx_1 c25_gx_2 c25_gx_3 f25_gx q25 wr25 r25
          refine start_ (n := 8) (S := fun w' => w'.cell? ⟨gx, 3, none⟩ = some (.slice none 0 0)) (ds := [7]) #[false, false, false, false, false, false, false, false] (by kernel_rfl) rfl rfl (((blk_cell B26_gx.out 3).trans (show _ = some (.slice none 0 0 : Value) from rfl))) (fun hHeld => ?_)
          refine Mine.pS 0 (some 114) ?_; refine Mine.pS 2 (some 116) ?_; refine Mine.tS 1 (some 115) hHeld ?_
          refine one_ (i := 3) (N := some 117) #[true, true, true, true, false, false, false, false] rfl rfl (by kernel_rfl) (by decide) (fun K hK => ?_)
          refine goes_ Try.func39 (by kernel_rfl) rfl #[.pointer (some ⟨g, 0, none⟩), .int .i64 1] (by rfl) rfl rfl (by simp only [List.map_toArray, List.map_cons, List.map_nil]; rfl) ?_
          refine (pl_cond k1 g L (wrap64 ((wrap64 (m + 1)) + 1)) 0 a1 1 b0 b1 b2 b3 n5 e5 a5 w0 _ L26.out HC.out).mono ?_
          rintro e_ w27 ⟨rfl, hR_, hO_⟩
          refine ⟨_, rfl, ?_⟩
          have B27_gr := amp (One.blk hO_ B26_gr.out NG_gr.out)
          have B27_gx := amp (One.blk hO_ B26_gx.out NG_gx.out)
          have L27 := amp (hR_)
          have O27 := amp (One.trans O26.out hO_)
          have R27_ns := amp (Kd.R_step R26_ns.out (fun k_ ok_ hlt_ => One.block hO_ k_ hlt_ ok_.1))
          have R27_cs := amp (Kd.R_step R26_cs.out (fun k_ ok_ hlt_ => One.block hO_ k_ hlt_ ok_.1))
          try clear L26 O26 B26_gr B26_gx R26_ns R26_cs
          obtain ⟨c27_gr_0, c27_gr_1, c27_gr_2, c27_gr_3⟩ := cl4p B27_gr
          have f27_gr := fun j => blk_frozen B27_gr.out j
          obtain ⟨c27_gx_0, c27_gx_1, c27_gx_2, c27_gx_3⟩ := cl4p B27_gx
          have f27_gx := fun j => blk_frozen B27_gx.out j
          have q27 := L27.out.c1
          have wr27 := L27.out.c2
          have r27 := L27.out.fr 1
          try clear hO_ hR_
          refine hK.out _ _ (((blk_cell B27_gx.out 3).trans (show _ = some (.slice none 0 0 : Value) from rfl))) (fun hHeld => ?_)
          clear hK K
          refine norm_ (a' := ?_) ?_ ?_
          rotate_left
          ·show Act.put _ (some 117) _ = _
           simp only [Act.put, List.setIfInBounds_toArray, List.set_cons_zero, List.set_cons_succ, i64_w, i32_w]
           rfl
          refine one_ (i := 4) (N := some 118) #[true, true, true, true, true, false, false, false] rfl rfl (by kernel_rfl) (by decide) (fun K hK => ?_)
          refine value_ (w1 := ?_) (v := ?_) (by rfl) rfl ?_ ?_
          rotate_left 2
          ·go_simp
           constructor
           ·rfl
           ·rfl
          refine hK.out _ _ (((blk_cell (blk_alloc B27_gx.out _) 3).trans (show _ = some (.slice none 0 0 : Value) from rfl))) (fun hHeld => ?_)
          clear hK K
          refine norm_ (a' := ?_) ?_ ?_
          rotate_left
          ·show Act.put _ (some 118) _ = _
           simp only [Act.put, List.setIfInBounds_toArray, List.set_cons_zero, List.set_cons_succ, i64_w, i32_w]
           rfl
          refine one_ (i := 5) (N := some 119) #[true, true, true, true, true, true, false, false] rfl rfl (by kernel_rfl) (by decide) (fun K hK => ?_)
          refine Kd.R_append_step k46 (w0 := w0) w0.heap.size (by rfl) (.tmp 115) (.tmp 118) 42 46 (.agg #[.int .i64 0, .int .i64 0, .int .u64 0, .int .u64 0]) 32 rfl Try.underlying42 info46 rfl (by decide) (by omega) (.slice none 0 0) ([] : List S46) ((⟨b0, b1, b2, b3⟩ : S46)) [.int .i64 b0, .int .i64 b1, .int .u64 b2, .int .u64 b3] (fun k => k ≠ g ∧ k ≠ gr ∧ k ≠ gx ∧ w.heap.size ≤ k) (fun _ => False) (by rfl) (by first | (go_simp; done) | (go_simp; rfl)) ?aP (fun _ hk => hk.elim) ?aF R27_cs.out (IsPl.bw L27.out) (Below.size (IsPl.bw L27.out)) (by simp) ?_
          (case aP => exact k46_mkM _ _ _ (⟨b0, b1, b2, b3⟩ : S46))
          (case aF => exact (fun k_ hk_ => ⟨Nat.ne_of_gt (Nat.lt_of_lt_of_le (IsPl.lt L27.out) hk_), Nat.ne_of_gt (Nat.lt_of_lt_of_le (blk_lt B27_gr.out) hk_), Nat.ne_of_gt (Nat.lt_of_lt_of_le (blk_lt B27_gx.out) hk_), Nat.le_trans (One.size O27.out) hk_⟩))
          intro v28 w28 ho_ hb_ hg_ hat_
          obtain ⟨A28_, c28_, rfl⟩ := Kd.R_slice ho_
          simp only [List.nil_append, List.length_cons, List.length_nil, Nat.zero_add] at ho_
          have B28_gr := amp (blk_grown B27_gr.out hg_ (fun e_ => (R27_cs.out.1 gr e_.symm).2.1 rfl))
          have B28_gx := amp (blk_grown B27_gx.out hg_ (fun e_ => (R27_cs.out.1 gx e_.symm).2.2.1 rfl))
          have L28 := amp (IsPl.grown L27.out hg_ (fun e_ => (R27_cs.out.1 g e_.symm).1 rfl) hb_)
          have O28 := amp (One.grown O27.out hg_ (fun k_ e_ => (R27_cs.out.1 k_ e_).2.2.2))
          have R28_ns := amp (Kd.R_mono (Kd.R_grown (Kd.R_apartR R27_ns.out R27_cs.out (by decide)) hg_ (fun _ h_ => h_.2)) (fun _ h_ => h_.1))
          have R28_cs := amp ho_
          try clear L27 O27 B27_gr B27_gx R27_ns R27_cs c27_gr_0 c27_gr_1 c27_gr_2 c27_gr_3 f27_gr c27_gx_0 c27_gx_1 c27_gx_2 c27_gx_3 f27_gx q27 wr27 r27
          obtain ⟨c28_gr_0, c28_gr_1, c28_gr_2, c28_gr_3⟩ := cl4p B28_gr
          have f28_gr := fun j => blk_frozen B28_gr.out j
          obtain ⟨c28_gx_0, c28_gx_1, c28_gx_2, c28_gx_3⟩ := cl4p B28_gx
          have f28_gx := fun j => blk_frozen B28_gx.out j
          have q28 := L28.out.c1
          have wr28 := L28.out.c2
          have r28 := L28.out.fr 1
          try clear ho_ hb_ hg_ hat_
          refine hK.out _ _ (((blk_cell B28_gx.out 3).trans (show _ = some (.slice none 0 0 : Value) from rfl))) (fun hHeld => ?_)
          clear hK K
          refine norm_ (a' := ?_) ?_ ?_
          rotate_left
          ·show Act.put _ (some 119) _ = _
           simp only [Act.put, List.setIfInBounds_toArray, List.set_cons_zero, List.set_cons_succ, i64_w, i32_w]
           rfl
          refine Mine.pS 6 (some 120) ?_
          refine last_ (i := 7) (N := none) #[true, true, true, true, true, true, true, true] rfl rfl (by kernel_rfl) (by decide) (fun K hK => ?_)
          refine skip_ (w1 := ?_) (by rfl) rfl ?_ ?_
          rotate_left
          ·go_simp
           rfl
          refine hK.out _ _ ?_
          clear hK K
          refine done_ (by kernel_rfl) ?_
          go_wp2
          go_loopg [] k1 (fun kq w' => ∃ (p e2 a2 : Int) (cs : List S46) (vc : Value), Aside0 (fairleadref10_Place_rule.l1 kq L p e2 a2 kd ar (acc ++ [(rd_T39 L m).f2]) cs = some res) ∧ Aside0 (IsPl w0 w' g L p e2 a2) ∧ Aside0 (One g w w') ∧ Aside0 (w'.heap[gr]? = some (.cells #[.int .i64 0, .int .i64 0, .slice none 0 0, .slice none 0 0] 44 (0, 0))) ∧ Aside0 (w'.heap[gx]? = some (.cells #[.int .i64 kd, .int .i64 ar, (.slice A22_ (acc.length + 1) c22_), vc] 44 (0, 0))) ∧ Aside0 (Kd.R Kd.string 9 w' w0.heap.size (fun k => k ≠ g ∧ k ≠ gr ∧ k ≠ gx ∧ w.heap.size ≤ k) (.slice A22_ (acc.length + 1) c22_) (acc ++ [(rd_T39 L m).f2])) ∧ Aside0 (k46.R 46 w' w0.heap.size (fun k => k ≠ g ∧ k ≠ gr ∧ k ≠ gx ∧ w.heap.size ≤ k) vc cs))
          case atStart => exact ⟨n5, e5, a5, [(⟨b0, b1, b2, b3⟩ : S46)], (.slice A28_ 1 c28_), H', ⟨(IsPl.far (p := ⟨gx, 3, none⟩) L28.out NG_gx.out GW_gx.out _)⟩, ⟨(One.put (p := ⟨gx, 3, none⟩) O28.out GT_gx.out _)⟩, ⟨(blk_far B28_gr.out (Ne.symm NE_gx_gr.out) _)⟩, ⟨(blk_put (cs' := #[.int .i64 kd, .int .i64 ar, (.slice A22_ (acc.length + 1) c22_), (.slice A28_ 1 c28_)]) B28_gx.out 3 ((.slice A28_ 1 c28_)) rfl)⟩, ⟨(Kd.R_far (p := ⟨gx, 3, none⟩) R28_ns.out (fun _ ok_ => ok_.2.2.1) _)⟩, ⟨(Kd.R_far (p := ⟨gx, 3, none⟩) R28_cs.out (fun _ ok_ => ok_.2.2.1) _)⟩⟩
          case round =>
           try clear H' HC c28_gr_0 c28_gr_1 c28_gr_2 c28_gr_3 f28_gr c28_gx_0 c28_gx_1 c28_gx_2 c28_gx_3 f28_gx q28 wr28 r28 L28 O28 B28_gr B28_gx R28_ns R28_cs
           obtain ⟨p, e2, a2, cs, vc, HA2, zL, zO, zBr, zBx, zN, zC⟩ := hrel
           obtain ⟨Ac, cc, rfl⟩ := Kd.R_slice zC.out
           cases gk with
           | zero => exact absurd HA2.out (by simp [fairleadref10_Place_rule.l1])
           | succ k2 =>
            have H := HA2.out
            clear HA2
            rw [fairleadref10_Place_rule.l1.eq_2] at H
            by_cases he2 : e2 = 0
            ·subst he2
             rw [if_pos rfl] at H
             by_cases hb2 : 0 ≤ p ∧ p < (L.length : Int)
             ·rw [if_pos hb2] at H
              have i2 := amp hb2.1
              have i3 := amp hb2.2
              clear hb2
              by_cases ha2 : ((rd_T39 L p).f0 = 1 ∧ (rd_T39 L p).f2.toList = (⟨#[97, 110, 100]⟩ : ByteArray).toList)
              ·rw [if_pos ha2] at H
               have A5 : Aside0 (true = decide ((rd_T39 L p).f0 = 1 ∧ (rd_T39 L p).f2.toList = (⟨#[97, 110, 100]⟩ : ByteArray).toList)) := ⟨(decide_eq_true ha2).symm⟩
               clear ha2
               by_cases hl2 : cs.length < 1000
               ·rw [if_pos hl2] at H
                have hlen := amp hl2
                clear hl2
                obtain ⟨⟨b0, b1, b2, b3, n5, e5, a5⟩, HC, H⟩ := Option.bind_eq_some_iff.mp H
                have HC := amp HC
                have H' := amp H
                clear H
                obtain ⟨zc0, zc1, zc2, zc3⟩ := cl4p zBr
                obtain ⟨zd0, zd1, zd2, zd3⟩ := cl4p zBx
                have zf := fun j => blk_frozen zBr.out j
                have zh := fun j => blk_frozen zBx.out j
                have zq := zL.out.c1
                have zwr := zL.out.c2
                have zr := zL.out.fr 1
                go_wp2_with (first | (go_at_call 22; (with_reducible refine (pl_is g L p 0 a2 1 ⟨#[97, 110, 100]⟩ true w0 _ zL.out i2.out i3.out A5.out).mono ?_); rintro e_ w61 ⟨rfl, hR_, hO_⟩; have B61_gr := amp (One.blk hO_ zBr.out NG_gr.out); have B61_gx := amp (One.blk hO_ zBx.out NG_gx.out); have L61 := amp (hR_); have O61 := amp (One.trans zO.out hO_); have R61_ns := amp (Kd.R_step zN.out (fun k_ ok_ hlt_ => One.block hO_ k_ hlt_ ok_.1)); have R61_cs := amp (Kd.R_step zC.out (fun k_ ok_ hlt_ => One.block hO_ k_ hlt_ ok_.1)); try clear zL zO zBr zBx zc0 zc1 zc2 zc3 zd0 zd1 zd2 zd3 zf zh zq zwr zr zN zC; obtain ⟨c61_gr_0, c61_gr_1, c61_gr_2, c61_gr_3⟩ := cl4p B61_gr; have f61_gr := fun j => blk_frozen B61_gr.out j; obtain ⟨c61_gx_0, c61_gx_1, c61_gx_2, c61_gx_3⟩ := cl4p B61_gx; have f61_gx := fun j => blk_frozen B61_gx.out j; have q61 := L61.out.c1; have wr61 := L61.out.c2; have r61 := L61.out.fr 1; try clear hO_ hR_))
                have B62_gr := amp (blk_far (p := ⟨g, 1, none⟩) B61_gr.out NG_gr.out (.int .i64 (wrap64 (p + 1))))
                have B62_gx := amp (blk_far (p := ⟨g, 1, none⟩) B61_gx.out NG_gx.out (.int .i64 (wrap64 (p + 1))))
                have L62 := amp (IsPl.set L61.out (wrap64 (p + 1)))
                have O62 := amp (One.setCell O61.out 1 (.int .i64 (wrap64 (p + 1))))
                have R62_ns := amp (Kd.R_far (p := ⟨g, 1, none⟩) R61_ns.out (fun _ ok_ => ok_.1) (.int .i64 (wrap64 (p + 1))))
                have R62_cs := amp (Kd.R_far (p := ⟨g, 1, none⟩) R61_cs.out (fun _ ok_ => ok_.1) (.int .i64 (wrap64 (p + 1))))
                generalize (w61.setCell ⟨g, 1, none⟩ (.int .i64 (wrap64 (p + 1)))) = w62 at B62_gr B62_gx L62 O62 R62_ns R62_cs ⊢
                clear L61 O61 B61_gr B61_gx R61_ns R61_cs c61_gr_0 c61_gr_1 c61_gr_2 c61_gr_3 f61_gr c61_gx_0 c61_gx_1 c61_gx_2 c61_gx_3 f61_gx q61 wr61 r61
                obtain ⟨c62_gr_0, c62_gr_1, c62_gr_2, c62_gr_3⟩ := cl4p B62_gr
                have f62_gr := fun j => blk_frozen B62_gr.out j
                obtain ⟨c62_gx_0, c62_gx_1, c62_gx_2, c62_gx_3⟩ := cl4p B62_gx
                have f62_gx := fun j => blk_frozen B62_gx.out j
                have q62 := L62.out.c1
                have wr62 := L62.out.c2
                have r62 := L62.out.fr 1
                have B63_gr := amp (blk_drew B62_gr.out)
                have B63_gx := amp (blk_drew B62_gx.out)
                have L63 := amp (IsPl.drew L62.out)
                have O63 := amp (One.drew O62.out)
                have R63_ns := amp (Kd.R_drew R62_ns.out)
                have R63_cs := amp (Kd.R_drew R62_cs.out)
                clear L62 O62 B62_gr B62_gx R62_ns R62_cs c62_gr_0 c62_gr_1 c62_gr_2 c62_gr_3 f62_gr c62_gx_0 c62_gx_1 c62_gx_2 c62_gx_3 f62_gx q62 wr62 r62
                refine start_ (n := 12) (S := fun w' => w'.cell? ⟨gx, 3, none⟩ = some (.slice Ac cs.length cc)) (ds := [11]) #[false, false, false, false, false, false, false, false, false, false, false, false] (by kernel_rfl) rfl rfl (((blk_cell B63_gx.out 3).trans (show _ = some (.slice Ac cs.length cc : Value) from rfl))) (fun hHeld => ?_)
                refine Mine.pS 0 (some 137) ?_; refine Mine.pS 2 (some 139) ?_; refine Mine.pS 3 (some 140) ?_; refine Mine.tS 1 (some 138) hHeld ?_; refine Mine.tS 4 (some 141) hHeld ?_; refine Mine.pS 5 (some 142) ?_; refine Mine.pS 6 (some 143) ?_
                refine one_ (i := 7) (N := some 144) #[true, true, true, true, true, true, true, true, false, false, false, false] rfl rfl (by kernel_rfl) (by decide) (fun K hK => ?_)
                refine goes_ Try.func39 (by kernel_rfl) rfl #[.pointer (some ⟨g, 0, none⟩), .int .i64 (wrap64 ((cs.length : Int) + 1))] (by rfl) rfl rfl (by simp only [List.map_toArray, List.map_cons, List.map_nil]; rfl) ?_
                refine (pl_cond k2 g L (wrap64 (p + 1)) 0 a2 (wrap64 ((cs.length : Int) + 1)) b0 b1 b2 b3 n5 e5 a5 w0 _ L63.out HC.out).mono ?_
                rintro e_ w64 ⟨rfl, hR_, hO_⟩
                refine ⟨_, rfl, ?_⟩
                have B64_gr := amp (One.blk hO_ B63_gr.out NG_gr.out)
                have B64_gx := amp (One.blk hO_ B63_gx.out NG_gx.out)
                have L64 := amp (hR_)
                have O64 := amp (One.trans O63.out hO_)
                have R64_ns := amp (Kd.R_step R63_ns.out (fun k_ ok_ hlt_ => One.block hO_ k_ hlt_ ok_.1))
                have R64_cs := amp (Kd.R_step R63_cs.out (fun k_ ok_ hlt_ => One.block hO_ k_ hlt_ ok_.1))
                try clear L63 O63 B63_gr B63_gx R63_ns R63_cs
                obtain ⟨c64_gr_0, c64_gr_1, c64_gr_2, c64_gr_3⟩ := cl4p B64_gr
                have f64_gr := fun j => blk_frozen B64_gr.out j
                obtain ⟨c64_gx_0, c64_gx_1, c64_gx_2, c64_gx_3⟩ := cl4p B64_gx
                have f64_gx := fun j => blk_frozen B64_gx.out j
                have q64 := L64.out.c1
                have wr64 := L64.out.c2
                have r64 := L64.out.fr 1
                try clear hO_ hR_
                refine hK.out _ _ (((blk_cell B64_gx.out 3).trans (show _ = some (.slice Ac cs.length cc : Value) from rfl))) (fun hHeld => ?_)
                clear hK K
                refine norm_ (a' := ?_) ?_ ?_
                rotate_left
                ·show Act.put _ (some 144) _ = _
                 simp only [Act.put, List.setIfInBounds_toArray, List.set_cons_zero, List.set_cons_succ, i64_w, i32_w]
                 rfl
                refine one_ (i := 8) (N := some 145) #[true, true, true, true, true, true, true, true, true, false, false, false] rfl rfl (by kernel_rfl) (by decide) (fun K hK => ?_)
                refine value_ (w1 := ?_) (v := ?_) (by rfl) rfl ?_ ?_
                rotate_left 2
                ·go_simp
                 constructor
                 ·rfl
                 ·rfl
                refine hK.out _ _ (((blk_cell (blk_alloc B64_gx.out _) 3).trans (show _ = some (.slice Ac cs.length cc : Value) from rfl))) (fun hHeld => ?_)
                clear hK K
                refine norm_ (a' := ?_) ?_ ?_
                rotate_left
                ·show Act.put _ (some 145) _ = _
                 simp only [Act.put, List.setIfInBounds_toArray, List.set_cons_zero, List.set_cons_succ, i64_w, i32_w]
                 rfl
                refine one_ (i := 9) (N := some 146) #[true, true, true, true, true, true, true, true, true, true, false, false] rfl rfl (by kernel_rfl) (by decide) (fun K hK => ?_)
                refine Kd.R_append_step k46 (w0 := w0) w0.heap.size (by rfl) (.tmp 138) (.tmp 145) 42 46 (.agg #[.int .i64 0, .int .i64 0, .int .u64 0, .int .u64 0]) 32 rfl Try.underlying42 info46 rfl (by decide) (by omega) (.slice Ac cs.length cc) cs ((⟨b0, b1, b2, b3⟩ : S46)) [.int .i64 b0, .int .i64 b1, .int .u64 b2, .int .u64 b3] (fun k => k ≠ g ∧ k ≠ gr ∧ k ≠ gx ∧ w.heap.size ≤ k) (fun _ => False) (by rfl) (by first | (go_simp; done) | (go_simp; rfl)) ?aP (fun _ hk => hk.elim) ?aF R64_cs.out (IsPl.bw L64.out) (Below.size (IsPl.bw L64.out)) (by have := hlen.out; omega) ?_
                (case aP => exact k46_mkM _ _ _ (⟨b0, b1, b2, b3⟩ : S46))
                (case aF => exact (fun k_ hk_ => ⟨Nat.ne_of_gt (Nat.lt_of_lt_of_le (IsPl.lt L64.out) hk_), Nat.ne_of_gt (Nat.lt_of_lt_of_le (blk_lt B64_gr.out) hk_), Nat.ne_of_gt (Nat.lt_of_lt_of_le (blk_lt B64_gx.out) hk_), Nat.le_trans (One.size O64.out) hk_⟩))
                intro v65 w65 ho_ hb_ hg_ hat_
                obtain ⟨A65_, c65_, rfl⟩ := Kd.R_slice ho_
                rw [show (cs ++ [(⟨b0, b1, b2, b3⟩ : S46)]).length = cs.length + 1 from by simp] at ho_
                have B65_gr := amp (blk_grown B64_gr.out hg_ (fun e_ => (R64_cs.out.1 gr e_.symm).2.1 rfl))
                have B65_gx := amp (blk_grown B64_gx.out hg_ (fun e_ => (R64_cs.out.1 gx e_.symm).2.2.1 rfl))
                have L65 := amp (IsPl.grown L64.out hg_ (fun e_ => (R64_cs.out.1 g e_.symm).1 rfl) hb_)
                have O65 := amp (One.grown O64.out hg_ (fun k_ e_ => (R64_cs.out.1 k_ e_).2.2.2))
                have R65_ns := amp (Kd.R_mono (Kd.R_grown (Kd.R_apartR R64_ns.out R64_cs.out (by decide)) hg_ (fun _ h_ => h_.2)) (fun _ h_ => h_.1))
                have R65_cs := amp ho_
                try clear L64 O64 B64_gr B64_gx R64_ns R64_cs c64_gr_0 c64_gr_1 c64_gr_2 c64_gr_3 f64_gr c64_gx_0 c64_gx_1 c64_gx_2 c64_gx_3 f64_gx q64 wr64 r64
                obtain ⟨c65_gr_0, c65_gr_1, c65_gr_2, c65_gr_3⟩ := cl4p B65_gr
                have f65_gr := fun j => blk_frozen B65_gr.out j
                obtain ⟨c65_gx_0, c65_gx_1, c65_gx_2, c65_gx_3⟩ := cl4p B65_gx
                have f65_gx := fun j => blk_frozen B65_gx.out j
                have q65 := L65.out.c1
                have wr65 := L65.out.c2
                have r65 := L65.out.fr 1
                try clear ho_ hb_ hg_ hat_
                refine hK.out _ _ (((blk_cell B65_gx.out 3).trans (show _ = some (.slice Ac cs.length cc : Value) from rfl))) (fun hHeld => ?_)
                clear hK K
                refine norm_ (a' := ?_) ?_ ?_
                rotate_left
                ·show Act.put _ (some 146) _ = _
                 simp only [Act.put, List.setIfInBounds_toArray, List.set_cons_zero, List.set_cons_succ, i64_w, i32_w]
                 rfl
                refine Mine.pS 10 (some 147) ?_
                refine last_ (i := 11) (N := none) #[true, true, true, true, true, true, true, true, true, true, true, true] rfl rfl (by kernel_rfl) (by decide) (fun K hK => ?_)
                refine skip_ (w1 := ?_) (by rfl) rfl ?_ ?_
                rotate_left
                ·go_simp
                 rfl
                refine hK.out _ _ ?_
                clear hK K
                refine done_ (by kernel_rfl) ?_
                go_wp2
                go_roundg k2
                case measure => omega
                case rel => exact ⟨n5, e5, a5, cs ++ [(⟨b0, b1, b2, b3⟩ : S46)], (.slice A65_ (cs.length + 1) c65_), H', ⟨(IsPl.far (p := ⟨gx, 3, none⟩) L65.out NG_gx.out GW_gx.out _)⟩, ⟨(One.put (p := ⟨gx, 3, none⟩) O65.out GT_gx.out _)⟩, ⟨(blk_far B65_gr.out (Ne.symm NE_gx_gr.out) _)⟩, ⟨(blk_put (cs' := #[.int .i64 kd, .int .i64 ar, (.slice A22_ (acc.length + 1) c22_), (.slice A65_ (cs.length + 1) c65_)]) B65_gx.out 3 ((.slice A65_ (cs.length + 1) c65_)) rfl)⟩, ⟨(Kd.R_far (p := ⟨gx, 3, none⟩) R65_ns.out (fun _ ok_ => ok_.2.2.1) _)⟩, ⟨(Kd.R_far (p := ⟨gx, 3, none⟩) R65_cs.out (fun _ ok_ => ok_.2.2.1) _)⟩⟩
               ·rw [if_neg hl2] at H; cases H
              ·rw [if_neg ha2] at H
               have A5 : Aside0 (false = decide ((rd_T39 L p).f0 = 1 ∧ (rd_T39 L p).f2.toList = (⟨#[97, 110, 100]⟩ : ByteArray).toList)) := ⟨(decide_eq_false ha2).symm⟩
               clear ha2
               unfold fairleadref10_Place_rule.e at H
               obtain ⟨⟨s1, s2, s3⟩, HS, H⟩ := Option.bind_eq_some_iff.mp H
               have HS := amp HS
               obtain rfl := Option.some.inj H
               clear H
               obtain ⟨zc0, zc1, zc2, zc3⟩ := cl4p zBr
               obtain ⟨zd0, zd1, zd2, zd3⟩ := cl4p zBx
               have zf := fun j => blk_frozen zBr.out j
               have zh := fun j => blk_frozen zBx.out j
               have zq := zL.out.c1
               have zwr := zL.out.c2
               have zr := zL.out.fr 1
               go_wp2_with (first | (go_at_call 22; (with_reducible refine (pl_is g L p 0 a2 1 ⟨#[97, 110, 100]⟩ false w0 _ zL.out i2.out i3.out A5.out).mono ?_); rintro e_ w61 ⟨rfl, hR_, hO_⟩; have B61_gr := amp (One.blk hO_ zBr.out NG_gr.out); have B61_gx := amp (One.blk hO_ zBx.out NG_gx.out); have L61 := amp (hR_); have O61 := amp (One.trans zO.out hO_); have R61_ns := amp (Kd.R_step zN.out (fun k_ ok_ hlt_ => One.block hO_ k_ hlt_ ok_.1)); have R61_cs := amp (Kd.R_step zC.out (fun k_ ok_ hlt_ => One.block hO_ k_ hlt_ ok_.1)); try clear zL zO zBr zBx zc0 zc1 zc2 zc3 zd0 zd1 zd2 zd3 zf zh zq zwr zr zN zC; obtain ⟨c61_gr_0, c61_gr_1, c61_gr_2, c61_gr_3⟩ := cl4p B61_gr; have f61_gr := fun j => blk_frozen B61_gr.out j; obtain ⟨c61_gx_0, c61_gx_1, c61_gx_2, c61_gx_3⟩ := cl4p B61_gx; have f61_gx := fun j => blk_frozen B61_gx.out j; have q61 := L61.out.c1; have wr61 := L61.out.c2; have r61 := L61.out.fr 1; try clear hO_ hR_) | (go_at_call 25; (with_reducible refine (pl_sign g L p 0 a2 ⟨#[59]⟩ s1 s2 s3 w0 _ L61.out HS.out).mono ?_); rintro e_ w62 ⟨rfl, hR_, hO_⟩; have B62_gr := amp (One.blk hO_ B61_gr.out NG_gr.out); have B62_gx := amp (One.blk hO_ B61_gx.out NG_gx.out); have L62 := amp (hR_); have O62 := amp (One.trans O61.out hO_); have R62_ns := amp (Kd.R_step R61_ns.out (fun k_ ok_ hlt_ => One.block hO_ k_ hlt_ ok_.1)); have R62_cs := amp (Kd.R_step R61_cs.out (fun k_ ok_ hlt_ => One.block hO_ k_ hlt_ ok_.1)); try clear L61 O61 B61_gr B61_gx c61_gr_0 c61_gr_1 c61_gr_2 c61_gr_3 f61_gr c61_gx_0 c61_gx_1 c61_gx_2 c61_gx_3 f61_gx q61 wr61 r61 R61_ns R61_cs; obtain ⟨c62_gr_0, c62_gr_1, c62_gr_2, c62_gr_3⟩ := cl4p B62_gr; have f62_gr := fun j => blk_frozen B62_gr.out j; obtain ⟨c62_gx_0, c62_gx_1, c62_gx_2, c62_gx_3⟩ := cl4p B62_gx; have f62_gx := fun j => blk_frozen B62_gx.out j; have q62 := L62.out.c1; have wr62 := L62.out.c2; have r62 := L62.out.fr 1; try clear hO_ hR_))
               (repeat (go_step3; (try go_wp2)))
               refine bodyPost_ret (results_cell_row rfl _ _ gr 44 (#[.int .i64 kd, .int .i64 ar, (.slice A22_ (acc.length + 1) c22_), .slice Ac cs.length cc]) (0, 0) _ rfl (blk_put4 B62_gr.out _ _ _ _) hu44 rfl (by kernel_rfl)) rfl ?_
               exact ⟨(One.put4 O62.out GT_gr.out _ _ _ _), _, _, rfl, Kd.R_mono (Kd.R_far (p := ⟨gr, 3, none⟩) (Kd.R_far (p := ⟨gr, 2, none⟩) (Kd.R_far (p := ⟨gr, 1, none⟩) (Kd.R_far (p := ⟨gr, 0, none⟩) R62_ns.out (fun _ ok_ => ok_.2.1) _) (fun _ ok_ => ok_.2.1) _) (fun _ ok_ => ok_.2.1) _) (fun _ ok_ => ok_.2.1) _) (fun k_ h_ => ⟨h_.1, h_.2.2.2⟩), Kd.R_mono (Kd.R_far (p := ⟨gr, 3, none⟩) (Kd.R_far (p := ⟨gr, 2, none⟩) (Kd.R_far (p := ⟨gr, 1, none⟩) (Kd.R_far (p := ⟨gr, 0, none⟩) R62_cs.out (fun _ ok_ => ok_.2.1) _) (fun _ ok_ => ok_.2.1) _) (fun _ ok_ => ok_.2.1) _) (fun _ ok_ => ok_.2.1) _) (fun k_ h_ => ⟨h_.1, h_.2.2.2⟩), (IsPl.far4 L62.out NG_gr.out GW_gr.out _ _ _ _)⟩
             ·rw [if_neg hb2] at H; cases H
            ·rw [if_neg he2] at H
             obtain rfl := Option.some.inj H
             have y2 := beq_eq_false_iff_ne.2 he2
             clear H he2
             obtain ⟨zc0, zc1, zc2, zc3⟩ := cl4p zBr
             obtain ⟨zd0, zd1, zd2, zd3⟩ := cl4p zBx
             have zf := fun j => blk_frozen zBr.out j
             have zh := fun j => blk_frozen zBx.out j
             have zq := zL.out.c1
             have zwr := zL.out.c2
             have zr := zL.out.fr 1
             go_wp2
             (repeat (go_step3; (try go_wp2)))
             refine bodyPost_ret (results_cell_row rfl _ _ gr 44 (#[.int .i64 kd, .int .i64 ar, (.slice A22_ (acc.length + 1) c22_), .slice Ac cs.length cc]) (0, 0) _ rfl (blk_put4 zBr.out _ _ _ _) hu44 rfl (by kernel_rfl)) rfl ?_
             exact ⟨(One.put4 zO.out GT_gr.out _ _ _ _), _, _, rfl, Kd.R_mono (Kd.R_far (p := ⟨gr, 3, none⟩) (Kd.R_far (p := ⟨gr, 2, none⟩) (Kd.R_far (p := ⟨gr, 1, none⟩) (Kd.R_far (p := ⟨gr, 0, none⟩) zN.out (fun _ ok_ => ok_.2.1) _) (fun _ ok_ => ok_.2.1) _) (fun _ ok_ => ok_.2.1) _) (fun _ ok_ => ok_.2.1) _) (fun k_ h_ => ⟨h_.1, h_.2.2.2⟩), Kd.R_mono (Kd.R_far (p := ⟨gr, 3, none⟩) (Kd.R_far (p := ⟨gr, 2, none⟩) (Kd.R_far (p := ⟨gr, 1, none⟩) (Kd.R_far (p := ⟨gr, 0, none⟩) zC.out (fun _ ok_ => ok_.2.1) _) (fun _ ok_ => ok_.2.1) _) (fun _ ok_ => ok_.2.1) _) (fun _ ok_ => ok_.2.1) _) (fun k_ h_ => ⟨h_.1, h_.2.2.2⟩), (IsPl.far4 zL.out NG_gr.out GW_gr.out _ _ _ _)⟩
         ·rw [if_neg hw] at H
          have A4 : Aside0 (false = decide ((rd_T39 L (wrap64 (m + 1))).f0 = 1 ∧ (rd_T39 L (wrap64 (m + 1))).f2.toList = (⟨#[119, 104, 101, 110]⟩ : ByteArray).toList)) := ⟨(decide_eq_false hw).symm⟩
          clear hw
          unfold fairleadref10_Place_rule.e at H
          obtain ⟨⟨s1, s2, s3⟩, HS, H⟩ := Option.bind_eq_some_iff.mp H
          have HS := amp HS
          obtain rfl := Option.some.inj H
          clear H
          go_wp2_with (first | ((with_reducible refine gate_builtin (b := .append) (xs := #[(.tmp 82), (.tmp 85)]) rfl ?_); at_builtin; refine Kd.R_append Kd.string (w0 := w0) w0.heap.size rfl (.tmp 82) (.tmp 85) 41 9 (.string ⟨#[]⟩) 16 rfl Try.underlying41 info9 rfl (by decide) (by omega) (.slice Av acc.length cv) acc ((rd_T39 L m).f2) [.string (rd_T39 L m).f2] (fun k => k ≠ g ∧ k ≠ gr ∧ k ≠ gx ∧ w.heap.size ≤ k) (fun _ => False) rfl (by first | rfl | (go_simp; done) | (go_simp; rfl)) ?aP (fun _ hk => hk.elim) ?aF ?aO ?aB ?aS ?aL ?_; (case aP => exact rfl); (case aB => exact IsPl.bw (IsPl.set L21.out (wrap64 (m + 1)))); (case aF => exact (fun k_ hk_ => ⟨Nat.ne_of_gt (Nat.lt_of_lt_of_le (IsPl.lt (IsPl.set L21.out (wrap64 (m + 1)))) hk_), Nat.ne_of_gt (Nat.lt_of_lt_of_le (blk_lt (blk_far B21_gr.out NG_gr.out _)) hk_), Nat.ne_of_gt (Nat.lt_of_lt_of_le (blk_lt (blk_far B21_gx.out NG_gx.out _)) hk_), Nat.le_trans (One.size (One.setCell O21.out 1 _)) hk_⟩)); (case aO => exact (Kd.R_far (p := ⟨g, 1, none⟩) R21_ns.out (fun _ ok_ => ok_.1) (.int .i64 (wrap64 (m + 1))))); (case aS => exact Below.size (IsPl.bw (IsPl.set L21.out (wrap64 (m + 1))))); (case aL => (have := hlen.out; omega)); intro v22 w22 ho_ hb_ hg_ hat_; obtain ⟨A22_, c22_, rfl⟩ := Kd.R_slice ho_; rw [show (acc ++ [(rd_T39 L m).f2]).length = acc.length + 1 from by simp] at ho_; have B22_gr := amp (blk_grown (blk_far B21_gr.out NG_gr.out _) hg_ (fun e_ => (R21_ns.out.1 gr e_.symm).2.1 rfl)); have B22_gx := amp (blk_grown (blk_far B21_gx.out NG_gx.out _) hg_ (fun e_ => (R21_ns.out.1 gx e_.symm).2.2.1 rfl)); have L22 := amp (IsPl.grown (IsPl.set L21.out (wrap64 (m + 1))) hg_ (fun e_ => (R21_ns.out.1 g e_.symm).1 rfl) hb_); have O22 := amp (One.grown (One.setCell O21.out 1 _) hg_ (fun k_ e_ => (R21_ns.out.1 k_ e_).2.2.2)); have R22_ns := amp ho_; try clear L21 O21 B21_gr B21_gx B21_gt R21_ns c21_gr_0 c21_gr_1 c21_gr_2 c21_gr_3 f21_gr c21_gx_0 c21_gx_1 c21_gx_2 c21_gx_3 f21_gx c21_gt_0 c21_gt_1 c21_gt_2 c21_gt_3 f21_gt q21 wr21 r21; obtain ⟨c22_gr_0, c22_gr_1, c22_gr_2, c22_gr_3⟩ := cl4p B22_gr; have f22_gr := fun j => blk_frozen B22_gr.out j; obtain ⟨c22_gx_0, c22_gx_1, c22_gx_2, c22_gx_3⟩ := cl4p B22_gx; have f22_gx := fun j => blk_frozen B22_gx.out j; have q22 := L22.out.c1; have wr22 := L22.out.c2; have r22 := L22.out.fr 1; try clear ho_ hb_ hg_ hat_) | (go_at_call 22; (with_reducible refine (pl_is g L (wrap64 (m + 1)) 0 a1 3 ⟨#[44]⟩ false w0 _ (IsPl.far (p := ⟨gx, 2, none⟩) L22.out NG_gx.out GW_gx.out _) j0.out j1.out A3.out).mono ?_); rintro e_ w23 ⟨rfl, hR_, hO_⟩; have B23_gr := amp (One.blk hO_ (blk_far B22_gr.out (Ne.symm NE_gx_gr.out) _) NG_gr.out); have B23_gx := amp (One.blk hO_ (blk_put (cs' := #[.int .i64 kd, .int .i64 ar, (.slice A22_ (acc.length + 1) c22_), .slice none 0 0]) B22_gx.out 2 ((.slice A22_ (acc.length + 1) c22_)) rfl) NG_gx.out); have L23 := amp (hR_); have O23 := amp (One.trans (One.put (p := ⟨gx, 2, none⟩) O22.out GT_gx.out _) hO_); have R23_ns := amp (Kd.R_step (Kd.R_far (p := ⟨gx, 2, none⟩) R22_ns.out (fun _ ok_ => ok_.2.2.1) _) (fun k_ ok_ hlt_ => One.block hO_ k_ hlt_ ok_.1)); try clear L22 O22 B22_gr B22_gx c22_gr_0 c22_gr_1 c22_gr_2 c22_gr_3 f22_gr c22_gx_0 c22_gx_1 c22_gx_2 c22_gx_3 f22_gx q22 wr22 r22 R22_ns; obtain ⟨c23_gr_0, c23_gr_1, c23_gr_2, c23_gr_3⟩ := cl4p B23_gr; have f23_gr := fun j => blk_frozen B23_gr.out j; obtain ⟨c23_gx_0, c23_gx_1, c23_gx_2, c23_gx_3⟩ := cl4p B23_gx; have f23_gx := fun j => blk_frozen B23_gx.out j; have q23 := L23.out.c1; have wr23 := L23.out.c2; have r23 := L23.out.fr 1; try clear hO_ hR_) | (go_at_call 22; (with_reducible refine (pl_is g L (wrap64 (m + 1)) 0 a1 1 ⟨#[119, 104, 101, 110]⟩ false w0 _ L23.out j0.out j1.out A4.out).mono ?_); rintro e_ w24 ⟨rfl, hR_, hO_⟩; have B24_gr := amp (One.blk hO_ B23_gr.out NG_gr.out); have B24_gx := amp (One.blk hO_ B23_gx.out NG_gx.out); have L24 := amp (hR_); have O24 := amp (One.trans O23.out hO_); have R24_ns := amp (Kd.R_step R23_ns.out (fun k_ ok_ hlt_ => One.block hO_ k_ hlt_ ok_.1)); try clear L23 O23 B23_gr B23_gx c23_gr_0 c23_gr_1 c23_gr_2 c23_gr_3 f23_gr c23_gx_0 c23_gx_1 c23_gx_2 c23_gx_3 f23_gx q23 wr23 r23 R23_ns; obtain ⟨c24_gr_0, c24_gr_1, c24_gr_2, c24_gr_3⟩ := cl4p B24_gr; have f24_gr := fun j => blk_frozen B24_gr.out j; obtain ⟨c24_gx_0, c24_gx_1, c24_gx_2, c24_gx_3⟩ := cl4p B24_gx; have f24_gx := fun j => blk_frozen B24_gx.out j; have q24 := L24.out.c1; have wr24 := L24.out.c2; have r24 := L24.out.fr 1; try clear hO_ hR_) | (go_at_call 25; (with_reducible refine (pl_sign g L (wrap64 (m + 1)) 0 a1 ⟨#[59]⟩ s1 s2 s3 w0 _ L24.out HS.out).mono ?_); rintro e_ w25 ⟨rfl, hR_, hO_⟩; have B25_gr := amp (One.blk hO_ B24_gr.out NG_gr.out); have B25_gx := amp (One.blk hO_ B24_gx.out NG_gx.out); have L25 := amp (hR_); have O25 := amp (One.trans O24.out hO_); have R25_ns := amp (Kd.R_step R24_ns.out (fun k_ ok_ hlt_ => One.block hO_ k_ hlt_ ok_.1)); try clear L24 O24 B24_gr B24_gx c24_gr_0 c24_gr_1 c24_gr_2 c24_gr_3 f24_gr c24_gx_0 c24_gx_1 c24_gx_2 c24_gx_3 f24_gx q24 wr24 r24 R24_ns; obtain ⟨c25_gr_0, c25_gr_1, c25_gr_2, c25_gr_3⟩ := cl4p B25_gr; have f25_gr := fun j => blk_frozen B25_gr.out j; obtain ⟨c25_gx_0, c25_gx_1, c25_gx_2, c25_gx_3⟩ := cl4p B25_gx; have f25_gx := fun j => blk_frozen B25_gx.out j; have q25 := L25.out.c1; have wr25 := L25.out.c2; have r25 := L25.out.fr 1; try clear hO_ hR_))
          (repeat (go_step3; (try go_wp2)))
          refine bodyPost_ret (results_cell_row rfl _ _ gr 44 (#[.int .i64 kd, .int .i64 ar, (.slice A22_ (acc.length + 1) c22_), .slice none 0 0]) (0, 0) _ rfl (blk_put4 B25_gr.out _ _ _ _) hu44 rfl (by kernel_rfl)) rfl ?_
          exact ⟨(One.put4 O25.out GT_gr.out _ _ _ _), _, _, rfl, Kd.R_mono (Kd.R_far (p := ⟨gr, 3, none⟩) (Kd.R_far (p := ⟨gr, 2, none⟩) (Kd.R_far (p := ⟨gr, 1, none⟩) (Kd.R_far (p := ⟨gr, 0, none⟩) R25_ns.out (fun _ ok_ => ok_.2.1) _) (fun _ ok_ => ok_.2.1) _) (fun _ ok_ => ok_.2.1) _) (fun _ ok_ => ok_.2.1) _) (fun k_ h_ => ⟨h_.1, h_.2.2.2⟩), Kd.R_nil _ _ _ _ _, (IsPl.far4 L25.out NG_gr.out GW_gr.out _ _ _ _)⟩
       ·rw [if_neg hl] at H; cases H
     ·rw [if_neg hk] at H
      have fa := bne_iff_ne.mpr hk
      clear hk
      obtain ⟨⟨p1, p2, p3⟩, H1, H⟩ := Option.bind_eq_some_iff.mp H
      have H1 := amp H1
      obtain rfl := Option.some.inj H
      clear H
      go_wp2_with (first | (go_at_call 23; (with_reducible refine (pl_fail g L m 0 a1 7 p1 p2 p3 w0 _ L21.out H1.out).mono ?_); rintro e_ w22 ⟨rfl, hR_, hO_⟩; have B22_gr := amp (One.blk hO_ B21_gr.out NG_gr.out); have B22_gx := amp (One.blk hO_ B21_gx.out NG_gx.out); have B22_gt := amp (One.blk hO_ B21_gt.out NG_gt.out); have L22 := amp (hR_); have O22 := amp (One.trans O21.out hO_); have R22_ns := amp (Kd.R_step R21_ns.out (fun k_ ok_ hlt_ => One.block hO_ k_ hlt_ ok_.1)); try clear L21 O21 B21_gr B21_gx B21_gt c21_gr_0 c21_gr_1 c21_gr_2 c21_gr_3 f21_gr c21_gx_0 c21_gx_1 c21_gx_2 c21_gx_3 f21_gx c21_gt_0 c21_gt_1 c21_gt_2 c21_gt_3 f21_gt q21 wr21 r21 R21_ns; obtain ⟨c22_gr_0, c22_gr_1, c22_gr_2, c22_gr_3⟩ := cl4p B22_gr; have f22_gr := fun j => blk_frozen B22_gr.out j; obtain ⟨c22_gx_0, c22_gx_1, c22_gx_2, c22_gx_3⟩ := cl4p B22_gx; have f22_gx := fun j => blk_frozen B22_gx.out j; obtain ⟨c22_gt_0, c22_gt_1, c22_gt_2, c22_gt_3⟩ := cl4p B22_gt; have f22_gt := fun j => blk_frozen B22_gt.out j; have q22 := L22.out.c1; have wr22 := L22.out.c2; have r22 := L22.out.fr 1; try clear hO_ hR_))
      (repeat (go_step3; (try go_wp2)))
      refine bodyPost_ret (results_cell_row rfl _ _ gr 44 (#[.int .i64 kd, .int .i64 ar, .slice Av acc.length cv, .slice none 0 0]) (0, 0) _ rfl (blk_put4 B22_gr.out _ _ _ _) hu44 rfl (by kernel_rfl)) rfl ?_
      exact ⟨(One.put4 O22.out GT_gr.out _ _ _ _), _, _, rfl, Kd.R_mono (Kd.R_far (p := ⟨gr, 3, none⟩) (Kd.R_far (p := ⟨gr, 2, none⟩) (Kd.R_far (p := ⟨gr, 1, none⟩) (Kd.R_far (p := ⟨gr, 0, none⟩) R22_ns.out (fun _ ok_ => ok_.2.1) _) (fun _ ok_ => ok_.2.1) _) (fun _ ok_ => ok_.2.1) _) (fun _ ok_ => ok_.2.1) _) (fun k_ h_ => ⟨h_.1, h_.2.2.2⟩), Kd.R_nil _ _ _ _ _, (IsPl.far4 L22.out NG_gr.out GW_gr.out _ _ _ _)⟩
    ·rw [if_neg hm] at H; cases H
theorem fairleadref10_Place_rule.calls (k : Nat) (g : Nat) (L : List S39) (n e a c : Int) (res : (S44 × Int × Int × Int)) (w0 w : World) (h : IsPl w0 w g L n e a) (H : fairleadref10_Place_rule.f k L n e a c = some res) :
  Calls Try.prog 26 #[.pointer (some ⟨g, 0, none⟩), .int .i64 c] w (plRule w0 w g L res) := by
 unfold fairleadref10_Place_rule.f at H
 by_cases hn : e = 0 ∧ 0 ≤ n ∧ n < (L.length : Int)
 ·rw [if_pos hn] at H
  obtain ⟨rfl, h0, h1⟩ := hn
  obtain ⟨KD, HK, H⟩ := Option.bind_eq_some_iff.mp H
  by_cases hc : 64 < c ∧ (rd_T39 L n).f0 = 1 ∧ 0 < KD
  ·rw [if_pos hc] at H
   obtain ⟨⟨p1, p2, p3⟩, H1, H⟩ := Option.bind_eq_some_iff.mp H
   cases H
   exact fairleadref10_Place_rule.w4 k g L n a c KD w0 w h (amp h0) (amp h1) (amp HK) hc _ _ _ (amp H1)
  ·rw [if_neg hc] at H
   obtain ⟨⟨kd, ar, n1, e1, a1⟩, HA, H⟩ := Option.bind_eq_some_iff.mp H
   by_cases he : e1 = 0
   ·subst he
    rw [if_pos rfl] at H
    exact fairleadref10_Place_rule.wn k g L n a c KD w0 w h (amp h0) (amp h1) (amp HK) hc kd ar n1 a1 res (amp HA) (amp H)
   ·rw [if_neg he] at H
    cases H
    exact fairleadref10_Place_rule.wa k g L n a c KD w0 w h (amp h0) (amp h1) (amp HK) hc kd ar n1 e1 a1 he (amp HA)
 ·rw [if_neg hn] at H; cases H
end Go.Proofs.Ytfahchgglapglaa.M
