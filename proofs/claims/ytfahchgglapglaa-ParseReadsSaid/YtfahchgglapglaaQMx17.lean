-- Laid by a program (wip/tools/myprint.py) out of the loaded program's own print: for each Go function a Lean function and the proof of its contract.
import Derived.Test.YtfahchgglapglaaQMx0
import Derived.Test.YtfahchgglapglaaQMx14
import Derived.Test.YtfahchgglapglaaQMx16
namespace Go.Proofs.Ytfahchgglapglaa.M
open Go.RowKit Go.Proofs.YtfahchgglapglaaW.PrintWords Go.Proofs.YtfahchgglapglaaW.PrintLast Go.Proofs.YtfahchgglapglaaW.PrintMore
attribute [local go_sem] max2_int min2_int max_two min_two max_three min_three max_four min_four   -- for this text's walks alone
set_option linter.unusedVariables false
set_option linter.unusedSimpArgs false
-- HAND rounds=True making=True
open Mine
theorem amp {p : Prop} (h : p) : Aside0 p := ⟨h⟩
/-- The document's place among tokens: its block, and what its row of tokens holds. -/
def IsPl (w0 w : World) (g : Nat) (L : List S39) (n e a : Int) : Prop := ∃ A0 c0, w.heap[g]? = some (.cells #[.slice A0 L.length c0, .int .i64 n, .int .i64 e, .int .i64 a] 60 (0, 0)) ∧ w0.heap.size ≤ g ∧ Kd.C k39 w0 A0 L.length L ∧ Below w0.heap.size w0 w
section
variable {w0 w w1 : World} {g : Nat} {L : List S39} {n e a : Int}
theorem IsPl.s (h : IsPl w0 w g L n e a) : IsS60 w0 w g L n e a := by
 obtain ⟨A0, c0, h1, h2, h3, h4⟩ := h
 exact ⟨A0, c0, h1, h2, h3⟩
theorem IsPl.bw (h : IsPl w0 w g L n e a) : Below w0.heap.size w0 w := by
 obtain ⟨A0, c0, h1, h2, h3, h4⟩ := h
 exact h4
theorem IsPl.of (h : IsS60 w0 w g L n e a) (hb : Below w0.heap.size w0 w) : IsPl w0 w g L n e a := by
 obtain ⟨A0, c0, h1, h2, h3⟩ := h
 exact ⟨A0, c0, h1, h2, h3, hb⟩
theorem IsPl.below (h : IsPl w0 w g L n e a) (hb : Below w.heap.size w w1) : IsPl w0 w1 g L n e a := .of (h.s.below hb) (below_step h.bw hb)
theorem IsPl.alloc (h : IsPl w0 w g L n e a) (o : Obj) : IsPl w0 (w.alloc o) g L n e a := h.below (below_alloc (Below.refl _ _) o)
theorem IsPl.drew (h : IsPl w0 w g L n e a) : IsPl w0 w.drew g L n e a := .of h.s.drew h.bw.drew
theorem IsPl.lt (h : IsPl w0 w g L n e a) : g < w.heap.size := h.s.lt
theorem IsPl.ge (h : IsPl w0 w g L n e a) : w0.heap.size ≤ g := h.s.ge
theorem IsPl.c1 (h : IsPl w0 w g L n e a) : w.cell? ⟨g, 1, none⟩ = some (.int .i64 n) := by
 obtain ⟨A0, c0, h1, _⟩ := h
 exact (blk_cell h1 1).trans rfl
theorem IsPl.c2 (h : IsPl w0 w g L n e a) : w.cell? ⟨g, 2, none⟩ = some (.int .i64 e) := by
 obtain ⟨A0, c0, h1, _⟩ := h
 exact (blk_cell h1 2).trans rfl
theorem IsPl.c3 (h : IsPl w0 w g L n e a) : w.cell? ⟨g, 3, none⟩ = some (.int .i64 a) := by
 obtain ⟨A0, c0, h1, _⟩ := h
 exact (blk_cell h1 3).trans rfl
theorem IsPl.fr (h : IsPl w0 w g L n e a) (j : Nat) : w.frozen? ⟨g, j, none⟩ = false := by
 obtain ⟨A0, c0, h1, _⟩ := h
 exact blk_frozen h1 j
theorem IsPl.set (h : IsPl w0 w g L n e a) (m : Int) : IsPl w0 (w.setCell ⟨g, 1, none⟩ (.int .i64 m)) g L m e a := by
 obtain ⟨A0, c0, h1, h2, h3, h4⟩ := h
 exact ⟨A0, c0, blk_put h1 1 _ rfl, h2, h3, below_set h4 h2⟩
/-- A store into a block that is not the place's. -/
theorem IsPl.far (h : IsPl w0 w g L n e a) {p : Addr} (h1 : p.block ≠ g) (h2 : w0.heap.size ≤ p.block) (v : Value) : IsPl w0 (w.setCell p v) g L n e a := .of (h.s.far (Ne.symm h1) v) (h.bw.setCell h2 _)
theorem IsPl.far4 (h : IsPl w0 w g L n e a) {b : Nat} (h1 : b ≠ g) (h2 : w0.heap.size ≤ b) (v0 v1 v2 v3 : Value) : IsPl w0 ((((w.setCell ⟨b, 0, none⟩ v0).setCell ⟨b, 1, none⟩ v1).setCell ⟨b, 2, none⟩ v2).setCell ⟨b, 3, none⟩ v3) g L n e a :=
 (((h.far (p := ⟨b, 0, none⟩) h1 h2 v0).far (p := ⟨b, 1, none⟩) h1 h2 v1).far (p := ⟨b, 2, none⟩) h1 h2 v2).far (p := ⟨b, 3, none⟩) h1 h2 v3
theorem IsPl.far2 (h : IsPl w0 w g L n e a) {b : Nat} (h1 : b ≠ g) (h2 : w0.heap.size ≤ b) (v0 v1 : Value) : IsPl w0 ((w.setCell ⟨b, 0, none⟩ v0).setCell ⟨b, 1, none⟩ v1) g L n e a := (h.far (p := ⟨b, 0, none⟩) h1 h2 v0).far (p := ⟨b, 1, none⟩) h1 h2 v1
theorem IsPl.grown (h : IsPl w0 w g L n e a) {row : Option Nat} (hg : w.grownBy w1 row) (hne : some g ≠ row) (hb : Below w0.heap.size w0 w1) : IsPl w0 w1 g L n e a := .of (h.s.grown hg hne) hb
/-- The token that is read: its cells. -/
theorem IsPl.at (h : IsPl w0 w g L n e a) {m : Int} (h0 : 0 ≤ m) (h1 : m < (L.length : Int)) : ∃ ad c0, w.cell? ⟨g, 0, none⟩ = some (.slice (some ad) L.length c0) ∧ ad.block < w0.heap.size ∧ w.cell? (ad.add (m.toNat * 4)) = some (.int .i64 (rd_T39 L m).f0) ∧ w.cell? ⟨(ad.add (m.toNat * 4)).block, (ad.add (m.toNat * 4)).off + 1, none⟩ = some (.int .i64 (rd_T39 L m).f1) ∧ w.cell? ⟨(ad.add (m.toNat * 4)).block, (ad.add (m.toNat * 4)).off + 2, none⟩ = some (.string (rd_T39 L m).f2) ∧ w.cell? ⟨(ad.add (m.toNat * 4)).block, (ad.add (m.toNat * 4)).off + 3, none⟩ = some (.int .u64 (rd_T39 L m).f3) := by
 obtain ⟨A0, c0, h3, h4, h5, h6⟩ := h
 obtain ⟨ad, rfl, x0, x1, x2, x3⟩ := at_T39 h5 m h0 h1
 exact ⟨ad, c0, (blk_cell h3 0).trans rfl, by have := World.block_lt_of_cell? w0 _ x0; rwa [add_block] at this, pw_cell_below h6 x0, pw_cell_below h6 x1, pw_cell_below h6 x2, pw_cell_below h6 x3⟩
theorem One.ofKeep (h : IsPl w0 w g L n e a) (hb : Below w0.heap.size w0 w1) (hk : KeepBut w w1 g none) : One g w w1 := ⟨hb.os.trans h.bw.os.symm, hb.tape.trans h.bw.tape.symm, hb.output.trans h.bw.output.symm, hk.1, fun k hk1 hk2 => hk.2 k hk1 hk2 (by simp)⟩
end
theorem cl4p {W : World} {g t : Nat} {v0 v1 v2 v3 : Value} (h : Aside0 (W.heap[g]? = some (.cells #[v0, v1, v2, v3] t (0, 0)))) : W.cell? ⟨g, 0, none⟩ = some v0 ∧ W.cell? ⟨g, 1, none⟩ = some v1 ∧ W.cell? ⟨g, 2, none⟩ = some v2 ∧ W.cell? ⟨g, 3, none⟩ = some v3 := ⟨(blk_cell h.out 0).trans rfl, (blk_cell h.out 1).trans rfl, (blk_cell h.out 2).trans rfl, (blk_cell h.out 3).trans rfl⟩
theorem cell_alloc_ {w : World} {a : Addr} {v : Value} (h : w.cell? a = some v) (o : Obj) : (w.alloc o).cell? a = some v := pw_cell_below (below_alloc (Below.refl _ _) o) h
theorem pl_is (g : Nat) (L : List S39) (n e a kd : Int) (s : ByteArray) (b : Bool) (w0 w : World) (h : IsPl w0 w g L n e a) (h0 : 0 ≤ n) (h1 : n < (L.length : Int)) (hb : b = decide ((rd_T39 L n).f0 = kd ∧ (rd_T39 L n).f2.toList = s.toList)) :
  Calls Try.prog 22 #[.pointer (some ⟨g, 0, none⟩), .int .i64 kd, .string s] w fun en w' => en = .returned (.bool b) ∧ IsPl w0 w' g L n e a ∧ One g w w' :=
 (fairleadref10_Place_is.calls g L n e a kd s b n e a w0 w h.s h.bw (by
  unfold fairleadref10_Place_is.f
  rw [if_pos h0, if_pos h1, hb]
  by_cases hk : (rd_T39 L n).f0 = kd
  ·rw [if_pos hk]
   by_cases ht : (rd_T39 L n).f2.toList = s.toList
   ·rw [decide_eq_true ⟨hk, ht⟩, beq_iff_eq.2 ht]
   ·rw [decide_eq_false (fun e => ht e.2), beq_eq_false_iff_ne.2 ht]
  ·rw [if_neg hk, decide_eq_false (fun e => hk e.1)])).mono (fun en w' ⟨he, hI, hB, hK⟩ => ⟨he, .of hI hB, One.ofKeep h hB hK⟩)
theorem pl_fail (g : Nat) (L : List S39) (n e a er n1 e1 a1 : Int) (w0 w : World) (h : IsPl w0 w g L n e a) (H : fairleadref10_Place_fail.f L n e a er = some (n1, e1, a1)) :
  Calls Try.prog 23 #[.pointer (some ⟨g, 0, none⟩), .int .i64 er] w fun en w' => en = .returned (.tuple #[]) ∧ IsPl w0 w' g L n1 e1 a1 ∧ One g w w' :=
 (fairleadref10_Place_fail.calls g L n e a er n1 e1 a1 w0 w h.s h.bw H).mono (fun en w' ⟨he, hI, hB, hK⟩ => ⟨he, .of hI hB, One.ofKeep h hB hK⟩)
theorem pl_number (g : Nat) (L : List S39) (n e a v n1 e1 a1 : Int) (w0 w : World) (h : IsPl w0 w g L n e a) (H : fairleadref10_Place_number.f L n e a = some (v, n1, e1, a1)) :
  Calls Try.prog 38 #[.pointer (some ⟨g, 0, none⟩)] w fun en w' => en = .returned (.int .u64 v) ∧ IsPl w0 w' g L n1 e1 a1 ∧ One g w w' :=
 (fairleadref10_Place_number.calls g L n e a v n1 e1 a1 w0 w h.s h.bw H).mono (fun en w' ⟨he, hI, hB, hK⟩ => ⟨he, .of hI hB, One.ofKeep h hB hK⟩)
theorem pl_op (k : Nat) (g : Nat) (L : List S39) (n e a v n1 e1 a1 : Int) (w0 w : World) (h : IsPl w0 w g L n e a) (H : fairleadref10_Place_op.f k L n e a = some (v, n1, e1, a1)) :
  Calls Try.prog 49 #[.pointer (some ⟨g, 0, none⟩)] w fun en w' => en = .returned (.int .i64 v) ∧ IsPl w0 w' g L n1 e1 a1 ∧ One g w w' :=
 (fairleadref10_Place_op.calls k g L n e a v n1 e1 a1 w0 w h.s h.bw H).mono (fun en w' ⟨he, hI, hB, hK⟩ => ⟨he, .of hI hB, One.ofKeep h hB hK⟩)
def fairleadref10_Place_cond.rest (k : Nat) (L : List S39) (n a arg m : Int) : Option (Int × Int × Int × Int × Int × Int × Int) := (fairleadref10_Place_op.f k L n 0 a).bind fun r => if r.2.2.1 = 0 then (fairleadref10_Place_number.f L r.2.1 0 r.2.2.2).bind fun v => some (arg, r.1, m, v.1, v.2.1, v.2.2.1, v.2.2.2) else some (arg, r.1, m, 0, r.2.1, r.2.2.1, r.2.2.2)
def fairleadref10_Place_cond.f (k : Nat) (L : List S39) (n e a c : Int) : Option (Int × Int × Int × Int × Int × Int × Int) :=
 if e = 0 ∧ 0 ≤ n ∧ n < (L.length : Int) then
  if ((rd_T39 L n).f0 = 1 ∧ (rd_T39 L n).f2.size = 4 ∧ ((rd_T39 L n).f2.extract 0 3).toList = [97, 114, 103] ∧ 48 ≤ bt (rd_T39 L n).f2 3 ∧ bt (rd_T39 L n).f2 3 ≤ 53) then (if 8 < c then (fairleadref10_Place_fail.f L n 0 a 4).bind fun r => some (0, 0, 0, 0, r.1, r.2.1, r.2.2)
   else if 0 ≤ (wrap64 (n + 1)) ∧ (wrap64 (n + 1)) < (L.length : Int) then
    (if (rd_T39 L (wrap64 (n + 1))).f0 = 3 ∧ (rd_T39 L (wrap64 (n + 1))).f2.toList = (⟨#[38]⟩ : ByteArray).toList then (fairleadref10_Place_number.f L (wrap64 ((wrap64 (n + 1)) + 1)) 0 a).bind fun v => if v.2.2.1 = 0 then fairleadref10_Place_cond.rest k L v.2.1 v.2.2.2 (bt (rd_T39 L n).f2 3 - 48) v.1 else some (bt (rd_T39 L n).f2 3 - 48, 0, v.1, 0, v.2.1, v.2.2.1, v.2.2.2)
    else fairleadref10_Place_cond.rest k L (wrap64 (n + 1)) a (bt (rd_T39 L n).f2 3 - 48) 18446744073709551615)
   else none)
  else (fairleadref10_Place_fail.f L n 0 a 7).bind fun r => some (0, 0, 0, 0, r.1, r.2.1, r.2.2)
 else none
set_option maxHeartbeats 8000000 in
set_option maxRecDepth 100000 in
theorem fairleadref10_Place_cond.w7 (k : Nat) (g : Nat) (L : List S39) (n a c : Int) (w0 w : World) (h : IsPl w0 w g L n 0 a) (h0 : Aside0 (0 ≤ n)) (h1 : Aside0 (n < (L.length : Int))) (ha : ¬ ((rd_T39 L n).f0 = 1 ∧ (rd_T39 L n).f2.size = 4 ∧ ((rd_T39 L n).f2.extract 0 3).toList = [97, 114, 103] ∧ 48 ≤ bt (rd_T39 L n).f2 3 ∧ bt (rd_T39 L n).f2 3 ≤ 53)) (p1 p2 p3 : Int) (H1 : Aside0 (fairleadref10_Place_fail.f L n 0 a 7 = some (p1, p2, p3))) :
  Calls Try.prog 39 #[.pointer (some ⟨g, 0, none⟩), .int .i64 c] w (fun en w' => en = .returned (.agg #[.int .i64 0, .int .i64 0, .int .u64 0, .int .u64 0]) ∧ IsPl w0 w' g L p1 p2 p3 ∧ One g w w') := by
 have hu := Try.underlying39
 have hu46 := Try.underlying46
 have hu60 := Try.underlying60
 have hfd := fun (cs_ : Array Value) (j_ : Nat) (w_ : World) => Mine.run_field (P := Try.prog) Try.underlying39 cs_ j_ w_
 have hL := amp h
 have HO := amp (One.refl g w)
 clear h
 have hx : ∀ h_ : 3 < (rd_T39 L n).f2.size, (((rd_T39 L n).f2[3]'h_).toNat : Int) = bt (rd_T39 L n).f2 3 := bt_at (rd_T39 L n).f2 3
 have J : (((rd_T39 L n).f0 != 1) = true) ∨ (((rd_T39 L n).f0 != 1) = false ∧ ((((rd_T39 L n).f2.size : Int)) != 4) = true) ∨ (((rd_T39 L n).f0 != 1) = false ∧ ((((rd_T39 L n).f2.size : Int)) != 4) = false ∧ ((3 : Int) ≤ ((rd_T39 L n).f2.size : Int)) = True ∧ (3 ≤ (rd_T39 L n).f2.size) = True ∧ ((3 : Int) < ((rd_T39 L n).f2.size : Int)) = True ∧ (3 < (rd_T39 L n).f2.size) = True ∧ ((((rd_T39 L n).f2.extract 0 3).toList == [97, 114, 103]) = false ∨ ((((rd_T39 L n).f2.extract 0 3).toList == [97, 114, 103]) = true ∧ (decide (bt (rd_T39 L n).f2 3 < 48) = true ∨ (decide (bt (rd_T39 L n).f2 3 < 48) = false ∧ decide (53 < bt (rd_T39 L n).f2 3) = true))))) := by
  by_cases e1 : (rd_T39 L n).f0 = 1
  ·refine .inr ?_
   have e1' := bne_eq_false_iff_eq.mpr e1
   by_cases e2 : (rd_T39 L n).f2.size = 4
   ·refine .inr ⟨e1', bne_eq_false_iff_eq.mpr (by omega), eq_true (by omega), eq_true (by omega), eq_true (by omega), eq_true (by omega), ?_⟩
    by_cases e3 : ((rd_T39 L n).f2.extract 0 3).toList = [97, 114, 103]
    ·refine .inr ⟨beq_iff_eq.mpr e3, ?_⟩
     by_cases e4 : bt (rd_T39 L n).f2 3 < 48
     ·exact .inl (decide_eq_true e4)
     ·exact .inr ⟨decide_eq_false e4, decide_eq_true (Int.not_le.mp fun e5 => ha ⟨e1, e2, e3, Int.not_lt.mp e4, e5⟩)⟩
    ·exact .inl (beq_eq_false_iff_ne.mpr e3)
   ·exact .inl ⟨e1', bne_iff_ne.mpr (by omega)⟩
  ·exact .inl (bne_iff_ne.mpr e1)
 clear ha
 rcases J with b1 | ⟨b1, b2⟩ | ⟨b1, b2, z1, z4, z2, z3, b3 | ⟨b3, b4 | ⟨b4, b5⟩⟩⟩
 all_goals
  go_enter Try.func39, Try.ntmps39
  have NG_gr := amp (Nat.ne_of_gt (IsPl.lt hL.out))
  have GT_gr := amp (One.size HO.out)
  have GW_gr := amp (Below.size (IsPl.bw hL.out))
  have m1_gr := NG_gr.out
  have m2_gr := Ne.symm NG_gr.out
  have qa_gr := (IsPl.alloc hL.out (Obj.cells #[.int .i64 0, .int .i64 0, .int .u64 0, .int .u64 0] 46)).c1
  have wra_gr := (IsPl.alloc hL.out (Obj.cells #[.int .i64 0, .int .i64 0, .int .u64 0, .int .u64 0] 46)).c2
  have ra_gr := (IsPl.alloc hL.out (Obj.cells #[.int .i64 0, .int .i64 0, .int .u64 0, .int .u64 0] 46)).fr 1
  go_wp2
  have B1_gr := amp (blk_new w (Obj.cells #[.int .i64 0, .int .i64 0, .int .u64 0, .int .u64 0] 46))
  have L1 := amp (IsPl.alloc hL.out (Obj.cells #[.int .i64 0, .int .i64 0, .int .u64 0, .int .u64 0] 46))
  have O1 := amp (One.alloc HO.out (Obj.cells #[.int .i64 0, .int .i64 0, .int .u64 0, .int .u64 0] 46))
  generalize (w.alloc (Obj.cells #[.int .i64 0, .int .i64 0, .int .u64 0, .int .u64 0] 46)) = w1 at B1_gr L1 O1 ⊢
  generalize hgen_ : w.heap.size = gr at B1_gr NG_gr GW_gr m1_gr m2_gr ⊢
  clear GT_gr
  have GT_gr := amp (Nat.le_of_eq hgen_)
  clear hgen_
  clear hL HO qa_gr wra_gr ra_gr
  obtain ⟨c1_gr_0, c1_gr_1, c1_gr_2, c1_gr_3⟩ := cl4p B1_gr
  have f1_gr := fun j => blk_frozen B1_gr.out j
  have q1 := L1.out.c1
  have wr1 := L1.out.c2
  have r1 := L1.out.fr 1
  have LD_ := amp (IsPl.drew L1.out)
  obtain ⟨ad_, c_, z0_, hne_, x0_, x1_, x2_, x3_⟩ := LD_.out.at h0.out h1.out
  have z1_ := LD_.out.c1
  have e0_ := eq_true h0.out
  have e1_ := eq_true h1.out
  clear hne_ c1_gr_0 c1_gr_1 c1_gr_2 c1_gr_3 f1_gr q1 wr1 r1
  refine start_ (n := 12) (S := fun w' => w'.cell? ⟨g, 0, none⟩ = some (.slice (some ad_) L.length c_) ∧ w'.cell? ⟨g, 1, none⟩ = some (.int .i64 n) ∧ w'.cell? (ad_.add ((n).toNat * 4)) = some (.int .i64 (rd_T39 L n).f0) ∧ w'.cell? ⟨(ad_.add ((n).toNat * 4)).block, (ad_.add ((n).toNat * 4)).off + 1, none⟩ = some (.int .i64 (rd_T39 L n).f1) ∧ w'.cell? ⟨(ad_.add ((n).toNat * 4)).block, (ad_.add ((n).toNat * 4)).off + 2, none⟩ = some (.string (rd_T39 L n).f2) ∧ w'.cell? ⟨(ad_.add ((n).toNat * 4)).block, (ad_.add ((n).toNat * 4)).off + 3, none⟩ = some (.int .u64 (rd_T39 L n).f3)) (ds := [11]) #[false, false, false, false, false, false, false, false, false, false, false, false] (by kernel_rfl) rfl rfl ⟨z0_, z1_, x0_, x1_, x2_, x3_⟩ (fun hHeld => ?_)
  refine Mine.pS 0 (some 7) ?_; refine Mine.pS 1 (some 8) ?_; refine Mine.pS 2 (some 9) ?_; refine Mine.pS 4 (some 11) ?_; refine Mine.pS 5 (some 12) ?_; refine Mine.pS 6 (some 13) ?_; refine Mine.tS 3 (some 10) hHeld ?_; refine Mine.tS 7 (some 14) hHeld ?_; refine Mine.pS 8 (some 15) ?_; refine Mine.tS 9 (some 16) hHeld ?_
  refine one_ (i := 10) (N := some 5) #[true, true, true, true, true, true, true, true, true, true, true, false] rfl rfl (by kernel_rfl) (by decide) (fun K hK => ?_)
  refine value_ (w1 := ?_) (v := ?_) (by rfl) rfl ?_ ?_
  rotate_left 2
  ·go_simp
   constructor
   ·rfl
   ·rfl
  refine hK.out _ _ ⟨(cell_alloc_ z0_ _), (cell_alloc_ z1_ _), (cell_alloc_ x0_ _), (cell_alloc_ x1_ _), (cell_alloc_ x2_ _), (cell_alloc_ x3_ _)⟩ (fun hHeld => ?_)
  clear hK K
  refine norm_ (a' := ?_) ?_ ?_
  rotate_left
  ·show Act.put _ (some 5) _ = _
   simp only [Act.put, List.setIfInBounds_toArray, List.set_cons_zero, List.set_cons_succ, i64_w, i32_w]
   rfl
  refine last_ (i := 11) (N := none) #[true, true, true, true, true, true, true, true, true, true, true, true] rfl rfl (by kernel_rfl) (by decide) (fun K hK => ?_)
  refine skip_ (w1 := ?_) (by rfl) rfl ?_ ?_
  rotate_left
  ·go_simp
   rfl
  refine hK.out _ _ ?_
  clear hK K
  refine done_ (by kernel_rfl) ?_
  clear LD_ z0_ z1_ x0_ x1_ x2_ x3_ e0_ e1_
  have B2_gr := amp (blk_drew (blk_alloc B1_gr.out (Obj.cells #[.int .i64 (rd_T39 L n).f0, .int .i64 (rd_T39 L n).f1, .string (rd_T39 L n).f2, .int .u64 (rd_T39 L n).f3] 39)))
  have L2 := amp (IsPl.drew (IsPl.alloc L1.out (Obj.cells #[.int .i64 (rd_T39 L n).f0, .int .i64 (rd_T39 L n).f1, .string (rd_T39 L n).f2, .int .u64 (rd_T39 L n).f3] 39)))
  have O2 := amp (One.drew (One.alloc O1.out (Obj.cells #[.int .i64 (rd_T39 L n).f0, .int .i64 (rd_T39 L n).f1, .string (rd_T39 L n).f2, .int .u64 (rd_T39 L n).f3] 39)))
  have B2_gt := amp (blk_drew (blk_new w1 (Obj.cells #[.int .i64 (rd_T39 L n).f0, .int .i64 (rd_T39 L n).f1, .string (rd_T39 L n).f2, .int .u64 (rd_T39 L n).f3] 39)))
  have NG_gt := amp (Nat.ne_of_gt (IsPl.lt L1.out))
  have GT_gt := amp (One.size O1.out)
  have GW_gt := amp (Below.size (IsPl.bw L1.out))
  have NE_gt_gr := amp (Nat.ne_of_gt (blk_lt B1_gr.out))
  generalize ((w1.alloc (Obj.cells #[.int .i64 (rd_T39 L n).f0, .int .i64 (rd_T39 L n).f1, .string (rd_T39 L n).f2, .int .u64 (rd_T39 L n).f3] 39)).drew) = w2 at B2_gr L2 O2 B2_gt ⊢
  generalize w1.heap.size = gt at B2_gt NG_gt GT_gt GW_gt NE_gt_gr ⊢
  clear L1 O1 B1_gr
  obtain ⟨c2_gr_0, c2_gr_1, c2_gr_2, c2_gr_3⟩ := cl4p B2_gr
  have f2_gr := fun j => blk_frozen B2_gr.out j
  obtain ⟨c2_gt_0, c2_gt_1, c2_gt_2, c2_gt_3⟩ := cl4p B2_gt
  have f2_gt := fun j => blk_frozen B2_gt.out j
  have q2 := L2.out.c1
  have wr2 := L2.out.c2
  have r2 := L2.out.fr 1
  have m1_gt := NG_gt.out
  have m2_gt := Ne.symm NG_gt.out
  have m3_gt_gr := NE_gt_gr.out
  have m4_gt_gr := Ne.symm NE_gt_gr.out
  go_wp2_with (first | (go_at_call 23; (with_reducible refine (pl_fail g L n 0 a 7 p1 p2 p3 w0 _ L2.out H1.out).mono ?_); rintro e_ w3 ⟨rfl, hR_, hO_⟩; have B3_gr := amp (One.blk hO_ B2_gr.out NG_gr.out); have B3_gt := amp (One.blk hO_ B2_gt.out NG_gt.out); have L3 := amp (hR_); have O3 := amp (One.trans O2.out hO_); try clear L2 O2 B2_gr B2_gt c2_gr_0 c2_gr_1 c2_gr_2 c2_gr_3 f2_gr c2_gt_0 c2_gt_1 c2_gt_2 c2_gt_3 f2_gt q2 wr2 r2; obtain ⟨c3_gr_0, c3_gr_1, c3_gr_2, c3_gr_3⟩ := cl4p B3_gr; have f3_gr := fun j => blk_frozen B3_gr.out j; obtain ⟨c3_gt_0, c3_gt_1, c3_gt_2, c3_gt_3⟩ := cl4p B3_gt; have f3_gt := fun j => blk_frozen B3_gt.out j; have q3 := L3.out.c1; have wr3 := L3.out.c2; have r3 := L3.out.fr 1; try clear hO_ hR_))
  (repeat (go_step3; (try go_wp2)))
  refine bodyPost_ret (results_cell_row rfl _ _ gr 46 (#[.int .i64 0, .int .i64 0, .int .u64 0, .int .u64 0]) (0, 0) _ rfl (blk_put4 B3_gr.out _ _ _ _) hu46 rfl (by kernel_rfl)) rfl ?_
  exact ⟨rfl, (IsPl.far4 L3.out NG_gr.out GW_gr.out _ _ _ _), (One.put4 O3.out GT_gr.out _ _ _ _)⟩
set_option maxHeartbeats 60000000 in
set_option maxRecDepth 100000 in
theorem fairleadref10_Place_cond.good (k : Nat) (g : Nat) (L : List S39) (n a c r0 r1 r2 r3 n' e' a' : Int) (w0 w : World) (h : IsPl w0 w g L n 0 a) (h0 : Aside0 (0 ≤ n)) (h1 : Aside0 (n < (L.length : Int))) (ha : ((rd_T39 L n).f0 = 1 ∧ (rd_T39 L n).f2.size = 4 ∧ ((rd_T39 L n).f2.extract 0 3).toList = [97, 114, 103] ∧ 48 ≤ bt (rd_T39 L n).f2 3 ∧ bt (rd_T39 L n).f2 3 ≤ 53)) (H_ : Aside0 ((if 8 < c then (fairleadref10_Place_fail.f L n 0 a 4).bind fun r => some (0, 0, 0, 0, r.1, r.2.1, r.2.2)
   else if 0 ≤ (wrap64 (n + 1)) ∧ (wrap64 (n + 1)) < (L.length : Int) then
    (if (rd_T39 L (wrap64 (n + 1))).f0 = 3 ∧ (rd_T39 L (wrap64 (n + 1))).f2.toList = (⟨#[38]⟩ : ByteArray).toList then (fairleadref10_Place_number.f L (wrap64 ((wrap64 (n + 1)) + 1)) 0 a).bind fun v => if v.2.2.1 = 0 then fairleadref10_Place_cond.rest k L v.2.1 v.2.2.2 (bt (rd_T39 L n).f2 3 - 48) v.1 else some (bt (rd_T39 L n).f2 3 - 48, 0, v.1, 0, v.2.1, v.2.2.1, v.2.2.2)
    else fairleadref10_Place_cond.rest k L (wrap64 (n + 1)) a (bt (rd_T39 L n).f2 3 - 48) 18446744073709551615)
   else none) = some (r0, r1, r2, r3, n', e', a'))) :
  Calls Try.prog 39 #[.pointer (some ⟨g, 0, none⟩), .int .i64 c] w (fun en w' => en = .returned (.agg #[.int .i64 r0, .int .i64 r1, .int .u64 r2, .int .u64 r3]) ∧ IsPl w0 w' g L n' e' a' ∧ One g w w') := by
 have hu := Try.underlying39
 have hu46 := Try.underlying46
 have hu60 := Try.underlying60
 have hfd := fun (cs_ : Array Value) (j_ : Nat) (w_ : World) => Mine.run_field (P := Try.prog) Try.underlying39 cs_ j_ w_
 have hL := amp h
 have HO := amp (One.refl g w)
 clear h
 obtain ⟨a1, a2, a3, a4, a5⟩ := ha
 have b1 := bne_eq_false_iff_eq.mpr a1
 have b2 : ((((rd_T39 L n).f2.size : Int)) != 4) = false := bne_eq_false_iff_eq.mpr (by omega)
 have b3 := beq_iff_eq.mpr a3
 have b4 := decide_eq_false (Int.not_lt.mpr a4)
 have b5 := decide_eq_false (Int.not_lt.mpr a5)
 have z1 : ((3 : Int) ≤ ((rd_T39 L n).f2.size : Int)) = True := eq_true (by omega)
 have z2 : ((3 : Int) < ((rd_T39 L n).f2.size : Int)) = True := eq_true (by omega)
 have z3 : (3 < (rd_T39 L n).f2.size) = True := eq_true (by omega)
 have z4 : (3 ≤ (rd_T39 L n).f2.size) = True := eq_true (by omega)
 have hx : ∀ h_ : 3 < (rd_T39 L n).f2.size, (((rd_T39 L n).f2[3]'h_).toNat : Int) = bt (rd_T39 L n).f2 3 := bt_at (rd_T39 L n).f2 3
 have z5 : (bt (rd_T39 L n).f2 3 - 48) % 256 = bt (rd_T39 L n).f2 3 - 48 := by omega
 have z6 : wrap64 (bt (rd_T39 L n).f2 3 - 48) = bt (rd_T39 L n).f2 3 - 48 := by have := bt_range (rd_T39 L n).f2 3; unfold wrap64; omega
 clear a1 a2 a3 a4 a5
 go_enter Try.func39, Try.ntmps39
 have NG_gr := amp (Nat.ne_of_gt (IsPl.lt hL.out))
 have GT_gr := amp (One.size HO.out)
 have GW_gr := amp (Below.size (IsPl.bw hL.out))
 have m1_gr := NG_gr.out
 have m2_gr := Ne.symm NG_gr.out
 have qa_gr := (IsPl.alloc hL.out (Obj.cells #[.int .i64 0, .int .i64 0, .int .u64 0, .int .u64 0] 46)).c1
 have wra_gr := (IsPl.alloc hL.out (Obj.cells #[.int .i64 0, .int .i64 0, .int .u64 0, .int .u64 0] 46)).c2
 have ra_gr := (IsPl.alloc hL.out (Obj.cells #[.int .i64 0, .int .i64 0, .int .u64 0, .int .u64 0] 46)).fr 1
 go_wp2
 have B1_gr := amp (blk_new w (Obj.cells #[.int .i64 0, .int .i64 0, .int .u64 0, .int .u64 0] 46))
 have L1 := amp (IsPl.alloc hL.out (Obj.cells #[.int .i64 0, .int .i64 0, .int .u64 0, .int .u64 0] 46))
 have O1 := amp (One.alloc HO.out (Obj.cells #[.int .i64 0, .int .i64 0, .int .u64 0, .int .u64 0] 46))
 generalize (w.alloc (Obj.cells #[.int .i64 0, .int .i64 0, .int .u64 0, .int .u64 0] 46)) = w1 at B1_gr L1 O1 ⊢
 generalize hgen_ : w.heap.size = gr at B1_gr NG_gr GW_gr m1_gr m2_gr ⊢
 clear GT_gr
 have GT_gr := amp (Nat.le_of_eq hgen_)
 clear hgen_
 clear hL HO qa_gr wra_gr ra_gr
 obtain ⟨c1_gr_0, c1_gr_1, c1_gr_2, c1_gr_3⟩ := cl4p B1_gr
 have f1_gr := fun j => blk_frozen B1_gr.out j
 have q1 := L1.out.c1
 have wr1 := L1.out.c2
 have r1 := L1.out.fr 1
 have LD_ := amp (IsPl.drew L1.out)
 obtain ⟨ad_, c_, z0_, hne_, x0_, x1_, x2_, x3_⟩ := LD_.out.at h0.out h1.out
 have z1_ := LD_.out.c1
 have e0_ := eq_true h0.out
 have e1_ := eq_true h1.out
 clear hne_ c1_gr_0 c1_gr_1 c1_gr_2 c1_gr_3 f1_gr q1 wr1 r1
 refine start_ (n := 12) (S := fun w' => w'.cell? ⟨g, 0, none⟩ = some (.slice (some ad_) L.length c_) ∧ w'.cell? ⟨g, 1, none⟩ = some (.int .i64 n) ∧ w'.cell? (ad_.add ((n).toNat * 4)) = some (.int .i64 (rd_T39 L n).f0) ∧ w'.cell? ⟨(ad_.add ((n).toNat * 4)).block, (ad_.add ((n).toNat * 4)).off + 1, none⟩ = some (.int .i64 (rd_T39 L n).f1) ∧ w'.cell? ⟨(ad_.add ((n).toNat * 4)).block, (ad_.add ((n).toNat * 4)).off + 2, none⟩ = some (.string (rd_T39 L n).f2) ∧ w'.cell? ⟨(ad_.add ((n).toNat * 4)).block, (ad_.add ((n).toNat * 4)).off + 3, none⟩ = some (.int .u64 (rd_T39 L n).f3)) (ds := [11]) #[false, false, false, false, false, false, false, false, false, false, false, false] (by kernel_rfl) rfl rfl ⟨z0_, z1_, x0_, x1_, x2_, x3_⟩ (fun hHeld => ?_)
 refine Mine.pS 0 (some 7) ?_; refine Mine.pS 1 (some 8) ?_; refine Mine.pS 2 (some 9) ?_; refine Mine.pS 4 (some 11) ?_; refine Mine.pS 5 (some 12) ?_; refine Mine.pS 6 (some 13) ?_; refine Mine.tS 3 (some 10) hHeld ?_; refine Mine.tS 7 (some 14) hHeld ?_; refine Mine.pS 8 (some 15) ?_; refine Mine.tS 9 (some 16) hHeld ?_
 refine one_ (i := 10) (N := some 5) #[true, true, true, true, true, true, true, true, true, true, true, false] rfl rfl (by kernel_rfl) (by decide) (fun K hK => ?_)
 refine value_ (w1 := ?_) (v := ?_) (by rfl) rfl ?_ ?_
 rotate_left 2
 ·go_simp
  constructor
  ·rfl
  ·rfl
 refine hK.out _ _ ⟨(cell_alloc_ z0_ _), (cell_alloc_ z1_ _), (cell_alloc_ x0_ _), (cell_alloc_ x1_ _), (cell_alloc_ x2_ _), (cell_alloc_ x3_ _)⟩ (fun hHeld => ?_)
 clear hK K
 refine norm_ (a' := ?_) ?_ ?_
 rotate_left
 ·show Act.put _ (some 5) _ = _
  simp only [Act.put, List.setIfInBounds_toArray, List.set_cons_zero, List.set_cons_succ, i64_w, i32_w]
  rfl
 refine last_ (i := 11) (N := none) #[true, true, true, true, true, true, true, true, true, true, true, true] rfl rfl (by kernel_rfl) (by decide) (fun K hK => ?_)
 refine skip_ (w1 := ?_) (by rfl) rfl ?_ ?_
 rotate_left
 ·go_simp
  rfl
 refine hK.out _ _ ?_
 clear hK K
 refine done_ (by kernel_rfl) ?_
 clear LD_ z0_ z1_ x0_ x1_ x2_ x3_ e0_ e1_
 have B2_gr := amp (blk_drew (blk_alloc B1_gr.out (Obj.cells #[.int .i64 (rd_T39 L n).f0, .int .i64 (rd_T39 L n).f1, .string (rd_T39 L n).f2, .int .u64 (rd_T39 L n).f3] 39)))
 have L2 := amp (IsPl.drew (IsPl.alloc L1.out (Obj.cells #[.int .i64 (rd_T39 L n).f0, .int .i64 (rd_T39 L n).f1, .string (rd_T39 L n).f2, .int .u64 (rd_T39 L n).f3] 39)))
 have O2 := amp (One.drew (One.alloc O1.out (Obj.cells #[.int .i64 (rd_T39 L n).f0, .int .i64 (rd_T39 L n).f1, .string (rd_T39 L n).f2, .int .u64 (rd_T39 L n).f3] 39)))
 have B2_gt := amp (blk_drew (blk_new w1 (Obj.cells #[.int .i64 (rd_T39 L n).f0, .int .i64 (rd_T39 L n).f1, .string (rd_T39 L n).f2, .int .u64 (rd_T39 L n).f3] 39)))
 have NG_gt := amp (Nat.ne_of_gt (IsPl.lt L1.out))
 have GT_gt := amp (One.size O1.out)
 have GW_gt := amp (Below.size (IsPl.bw L1.out))
 have NE_gt_gr := amp (Nat.ne_of_gt (blk_lt B1_gr.out))
 generalize ((w1.alloc (Obj.cells #[.int .i64 (rd_T39 L n).f0, .int .i64 (rd_T39 L n).f1, .string (rd_T39 L n).f2, .int .u64 (rd_T39 L n).f3] 39)).drew) = w2 at B2_gr L2 O2 B2_gt ⊢
 generalize w1.heap.size = gt at B2_gt NG_gt GT_gt GW_gt NE_gt_gr ⊢
 clear L1 O1 B1_gr
 obtain ⟨c2_gr_0, c2_gr_1, c2_gr_2, c2_gr_3⟩ := cl4p B2_gr
 have f2_gr := fun j => blk_frozen B2_gr.out j
 obtain ⟨c2_gt_0, c2_gt_1, c2_gt_2, c2_gt_3⟩ := cl4p B2_gt
 have f2_gt := fun j => blk_frozen B2_gt.out j
 have q2 := L2.out.c1
 have wr2 := L2.out.c2
 have r2 := L2.out.fr 1
 have m1_gt := NG_gt.out
 have m2_gt := Ne.symm NG_gt.out
 have m3_gt_gr := NE_gt_gr.out
 have m4_gt_gr := Ne.symm NE_gt_gr.out
 have H := H_.out
 clear H_
 by_cases hc : 8 < c
 ·rw [if_pos hc] at H
  have c8 := decide_eq_true hc
  obtain ⟨⟨p1, p2, p3⟩, H1, H⟩ := Option.bind_eq_some_iff.mp H
  have H1 := amp H1
  simp only [Option.some.injEq, Prod.mk.injEq] at H
  obtain ⟨rfl, rfl, rfl, rfl, rfl, rfl, rfl⟩ := H
  clear hc
  go_wp2_with (first | (go_at_call 23; (with_reducible refine (pl_fail g L n 0 a 4 p1 p2 p3 w0 _ L2.out H1.out).mono ?_); rintro e_ w3 ⟨rfl, hR_, hO_⟩; have B3_gr := amp (One.blk hO_ B2_gr.out NG_gr.out); have B3_gt := amp (One.blk hO_ B2_gt.out NG_gt.out); have L3 := amp (hR_); have O3 := amp (One.trans O2.out hO_); try clear L2 O2 B2_gr B2_gt c2_gr_0 c2_gr_1 c2_gr_2 c2_gr_3 f2_gr c2_gt_0 c2_gt_1 c2_gt_2 c2_gt_3 f2_gt q2 wr2 r2; obtain ⟨c3_gr_0, c3_gr_1, c3_gr_2, c3_gr_3⟩ := cl4p B3_gr; have f3_gr := fun j => blk_frozen B3_gr.out j; obtain ⟨c3_gt_0, c3_gt_1, c3_gt_2, c3_gt_3⟩ := cl4p B3_gt; have f3_gt := fun j => blk_frozen B3_gt.out j; have q3 := L3.out.c1; have wr3 := L3.out.c2; have r3 := L3.out.fr 1; try clear hO_ hR_))
  (repeat (go_step3; (try go_wp2)))
  refine bodyPost_ret (results_cell_row rfl _ _ gr 46 (#[.int .i64 0, .int .i64 0, .int .u64 0, .int .u64 0]) (0, 0) _ rfl (blk_put4 B3_gr.out _ _ _ _) hu46 rfl (by kernel_rfl)) rfl ?_
  exact ⟨rfl, (IsPl.far4 L3.out NG_gr.out GW_gr.out _ _ _ _), (One.put4 O3.out GT_gr.out _ _ _ _)⟩
 ·rw [if_neg hc] at H
  have c8 := decide_eq_false hc
  clear hc
  by_cases hm : 0 ≤ (wrap64 (n + 1)) ∧ (wrap64 (n + 1)) < (L.length : Int)
  ·rw [if_pos hm] at H
   have h2 := amp hm.1
   have h3 := amp hm.2
   clear hm
   by_cases hq : (rd_T39 L (wrap64 (n + 1))).f0 = 3 ∧ (rd_T39 L (wrap64 (n + 1))).f2.toList = (⟨#[38]⟩ : ByteArray).toList
   ·rw [if_pos hq] at H
    have A2 := amp (decide_eq_true hq).symm
    clear hq
    obtain ⟨⟨m, n1, e1, a1⟩, H1, H⟩ := Option.bind_eq_some_iff.mp H
    have H1 := amp H1
    by_cases he1 : e1 = 0
    ·subst he1
     rw [if_pos rfl] at H
     obtain ⟨⟨o, n3, e3, a3⟩, H2, H⟩ := Option.bind_eq_some_iff.mp H
     have H2 := amp H2
     by_cases he3 : e3 = 0
     ·subst he3
      rw [if_pos rfl] at H
      obtain ⟨⟨v, n4, e4, a4⟩, H3, H⟩ := Option.bind_eq_some_iff.mp H
      have H3 := amp H3
      simp only [Option.some.injEq, Prod.mk.injEq] at H
      obtain ⟨rfl, rfl, rfl, rfl, rfl, rfl, rfl⟩ := H
      have NG_gx := amp (Nat.ne_of_gt (IsPl.lt L2.out))
      have GT_gx := amp (One.size O2.out)
      have GW_gx := amp (Below.size (IsPl.bw L2.out))
      have NE_gx_gr := amp (Nat.ne_of_gt (blk_lt B2_gr.out))
      have NE_gx_gt := amp (Nat.ne_of_gt (blk_lt B2_gt.out))
      have m1_gx := NG_gx.out
      have m2_gx := Ne.symm NG_gx.out
      have m3_gx_gr := NE_gx_gr.out
      have m3_gx_gt := NE_gx_gt.out
      have m4_gx_gr := Ne.symm NE_gx_gr.out
      have m4_gx_gt := Ne.symm NE_gx_gt.out
      have qa_gx := (IsPl.alloc L2.out (Obj.cells #[.int .i64 (bt (rd_T39 L n).f2 3 - 48), .int .i64 0, .int .u64 18446744073709551615, .int .u64 0] 46)).c1
      have wra_gx := (IsPl.alloc L2.out (Obj.cells #[.int .i64 (bt (rd_T39 L n).f2 3 - 48), .int .i64 0, .int .u64 18446744073709551615, .int .u64 0] 46)).c2
      have ra_gx := (IsPl.alloc L2.out (Obj.cells #[.int .i64 (bt (rd_T39 L n).f2 3 - 48), .int .i64 0, .int .u64 18446744073709551615, .int .u64 0] 46)).fr 1
      go_wp2_with (first | (go_at_call 22; (with_reducible refine (pl_is g L (wrap64 (n + 1)) 0 a 3 ⟨#[38]⟩ true w0 _ (IsPl.set (IsPl.alloc L2.out _) (wrap64 (n + 1))) h2.out h3.out A2.out).mono ?_); rintro e_ w3 ⟨rfl, hR_, hO_⟩; have B3_gr := amp (One.blk hO_ (blk_far (blk_alloc B2_gr.out _) NG_gr.out _) NG_gr.out); have B3_gt := amp (One.blk hO_ (blk_far (blk_alloc B2_gt.out _) NG_gt.out _) NG_gt.out); have B3_gx := amp (One.blk hO_ (blk_far (blk_new w2 _) NG_gx.out _) NG_gx.out); have L3 := amp (hR_); have O3 := amp (One.trans (One.setCell (One.alloc O2.out _) 1 _) hO_); clear hO_ hR_; generalize hgen_ : w2.heap.size = gx at B3_gx NG_gx GT_gx GW_gx NE_gx_gr NE_gx_gt m1_gx m2_gx m3_gx_gr m4_gx_gr m3_gx_gt m4_gx_gt ⊢; clear hgen_; try clear L2 O2 B2_gr B2_gt c2_gr_0 c2_gr_1 c2_gr_2 c2_gr_3 f2_gr c2_gt_0 c2_gt_1 c2_gt_2 c2_gt_3 f2_gt q2 wr2 r2 qa_gx wra_gx ra_gx; obtain ⟨c3_gr_0, c3_gr_1, c3_gr_2, c3_gr_3⟩ := cl4p B3_gr; have f3_gr := fun j => blk_frozen B3_gr.out j; obtain ⟨c3_gt_0, c3_gt_1, c3_gt_2, c3_gt_3⟩ := cl4p B3_gt; have f3_gt := fun j => blk_frozen B3_gt.out j; obtain ⟨c3_gx_0, c3_gx_1, c3_gx_2, c3_gx_3⟩ := cl4p B3_gx; have f3_gx := fun j => blk_frozen B3_gx.out j; have q3 := L3.out.c1; have wr3 := L3.out.c2; have r3 := L3.out.fr 1; try clear hO_ hR_) | (go_at_call 38; (with_reducible refine (pl_number g L (wrap64 ((wrap64 (n + 1)) + 1)) 0 a m n1 0 a1 w0 _ (IsPl.set L3.out (wrap64 ((wrap64 (n + 1)) + 1))) H1.out).mono ?_); rintro e_ w4 ⟨rfl, hR_, hO_⟩; have B4_gr := amp (One.blk hO_ (blk_far B3_gr.out NG_gr.out (.int .i64 (wrap64 ((wrap64 (n + 1)) + 1)))) NG_gr.out); have B4_gt := amp (One.blk hO_ (blk_far B3_gt.out NG_gt.out (.int .i64 (wrap64 ((wrap64 (n + 1)) + 1)))) NG_gt.out); have B4_gx := amp (One.blk hO_ (blk_far B3_gx.out NG_gx.out (.int .i64 (wrap64 ((wrap64 (n + 1)) + 1)))) NG_gx.out); have L4 := amp (hR_); have O4 := amp (One.trans (One.setCell O3.out 1 (.int .i64 (wrap64 ((wrap64 (n + 1)) + 1)))) hO_); try clear L3 O3 B3_gr B3_gt B3_gx c3_gr_0 c3_gr_1 c3_gr_2 c3_gr_3 f3_gr c3_gt_0 c3_gt_1 c3_gt_2 c3_gt_3 f3_gt c3_gx_0 c3_gx_1 c3_gx_2 c3_gx_3 f3_gx q3 wr3 r3; obtain ⟨c4_gr_0, c4_gr_1, c4_gr_2, c4_gr_3⟩ := cl4p B4_gr; have f4_gr := fun j => blk_frozen B4_gr.out j; obtain ⟨c4_gt_0, c4_gt_1, c4_gt_2, c4_gt_3⟩ := cl4p B4_gt; have f4_gt := fun j => blk_frozen B4_gt.out j; obtain ⟨c4_gx_0, c4_gx_1, c4_gx_2, c4_gx_3⟩ := cl4p B4_gx; have f4_gx := fun j => blk_frozen B4_gx.out j; have q4 := L4.out.c1; have wr4 := L4.out.c2; have r4 := L4.out.fr 1; try clear hO_ hR_) | (go_at_call 49; (with_reducible refine (pl_op k g L n1 0 a1 o n3 0 a3 w0 _ (IsPl.far (p := ⟨gx, 2, none⟩) L4.out NG_gx.out GW_gx.out _) H2.out).mono ?_); rintro e_ w5 ⟨rfl, hR_, hO_⟩; have B5_gr := amp (One.blk hO_ (blk_far B4_gr.out (Ne.symm NE_gx_gr.out) _) NG_gr.out); have B5_gt := amp (One.blk hO_ (blk_far B4_gt.out (Ne.symm NE_gx_gt.out) _) NG_gt.out); have B5_gx := amp (One.blk hO_ (blk_put (cs' := #[.int .i64 (bt (rd_T39 L n).f2 3 - 48), .int .i64 0, .int .u64 m, .int .u64 0]) B4_gx.out 2 (.int .u64 m) rfl) NG_gx.out); have L5 := amp (hR_); have O5 := amp (One.trans (One.put (p := ⟨gx, 2, none⟩) O4.out GT_gx.out _) hO_); try clear L4 O4 B4_gr B4_gt B4_gx c4_gr_0 c4_gr_1 c4_gr_2 c4_gr_3 f4_gr c4_gt_0 c4_gt_1 c4_gt_2 c4_gt_3 f4_gt c4_gx_0 c4_gx_1 c4_gx_2 c4_gx_3 f4_gx q4 wr4 r4; obtain ⟨c5_gr_0, c5_gr_1, c5_gr_2, c5_gr_3⟩ := cl4p B5_gr; have f5_gr := fun j => blk_frozen B5_gr.out j; obtain ⟨c5_gt_0, c5_gt_1, c5_gt_2, c5_gt_3⟩ := cl4p B5_gt; have f5_gt := fun j => blk_frozen B5_gt.out j; obtain ⟨c5_gx_0, c5_gx_1, c5_gx_2, c5_gx_3⟩ := cl4p B5_gx; have f5_gx := fun j => blk_frozen B5_gx.out j; have q5 := L5.out.c1; have wr5 := L5.out.c2; have r5 := L5.out.fr 1; try clear hO_ hR_) | (go_at_call 38; (with_reducible refine (pl_number g L n3 0 a3 v n4 e4 a4 w0 _ (IsPl.far (p := ⟨gx, 1, none⟩) L5.out NG_gx.out GW_gx.out _) H3.out).mono ?_); rintro e_ w6 ⟨rfl, hR_, hO_⟩; have B6_gr := amp (One.blk hO_ (blk_far B5_gr.out (Ne.symm NE_gx_gr.out) _) NG_gr.out); have B6_gt := amp (One.blk hO_ (blk_far B5_gt.out (Ne.symm NE_gx_gt.out) _) NG_gt.out); have B6_gx := amp (One.blk hO_ (blk_put (cs' := #[.int .i64 (bt (rd_T39 L n).f2 3 - 48), .int .i64 o, .int .u64 m, .int .u64 0]) B5_gx.out 1 (.int .i64 o) rfl) NG_gx.out); have L6 := amp (hR_); have O6 := amp (One.trans (One.put (p := ⟨gx, 1, none⟩) O5.out GT_gx.out _) hO_); try clear L5 O5 B5_gr B5_gt B5_gx c5_gr_0 c5_gr_1 c5_gr_2 c5_gr_3 f5_gr c5_gt_0 c5_gt_1 c5_gt_2 c5_gt_3 f5_gt c5_gx_0 c5_gx_1 c5_gx_2 c5_gx_3 f5_gx q5 wr5 r5; obtain ⟨c6_gr_0, c6_gr_1, c6_gr_2, c6_gr_3⟩ := cl4p B6_gr; have f6_gr := fun j => blk_frozen B6_gr.out j; obtain ⟨c6_gt_0, c6_gt_1, c6_gt_2, c6_gt_3⟩ := cl4p B6_gt; have f6_gt := fun j => blk_frozen B6_gt.out j; obtain ⟨c6_gx_0, c6_gx_1, c6_gx_2, c6_gx_3⟩ := cl4p B6_gx; have f6_gx := fun j => blk_frozen B6_gx.out j; have q6 := L6.out.c1; have wr6 := L6.out.c2; have r6 := L6.out.fr 1; try clear hO_ hR_))
      (repeat (go_step3; (try go_wp2)))
      refine bodyPost_ret (results_cell_row rfl _ _ gr 46 (#[.int .i64 (bt (rd_T39 L n).f2 3 - 48), .int .i64 o, .int .u64 m, .int .u64 v]) (0, 0) _ rfl (blk_put4 (blk_far B6_gr.out (Ne.symm NE_gx_gr.out) _) _ _ _ _) hu46 rfl (by kernel_rfl)) rfl ?_
      exact ⟨rfl, (IsPl.far4 (IsPl.far (p := ⟨gx, 3, none⟩) L6.out NG_gx.out GW_gx.out _) NG_gr.out GW_gr.out _ _ _ _), (One.put4 (One.put (p := ⟨gx, 3, none⟩) O6.out GT_gx.out _) GT_gr.out _ _ _ _)⟩
     ·rw [if_neg he3] at H
      have y3 := beq_eq_false_iff_ne.2 he3
      clear he3
      simp only [Option.some.injEq, Prod.mk.injEq] at H
      obtain ⟨rfl, rfl, rfl, rfl, rfl, rfl, rfl⟩ := H
      have NG_gx := amp (Nat.ne_of_gt (IsPl.lt L2.out))
      have GT_gx := amp (One.size O2.out)
      have GW_gx := amp (Below.size (IsPl.bw L2.out))
      have NE_gx_gr := amp (Nat.ne_of_gt (blk_lt B2_gr.out))
      have NE_gx_gt := amp (Nat.ne_of_gt (blk_lt B2_gt.out))
      have m1_gx := NG_gx.out
      have m2_gx := Ne.symm NG_gx.out
      have m3_gx_gr := NE_gx_gr.out
      have m3_gx_gt := NE_gx_gt.out
      have m4_gx_gr := Ne.symm NE_gx_gr.out
      have m4_gx_gt := Ne.symm NE_gx_gt.out
      have qa_gx := (IsPl.alloc L2.out (Obj.cells #[.int .i64 (bt (rd_T39 L n).f2 3 - 48), .int .i64 0, .int .u64 18446744073709551615, .int .u64 0] 46)).c1
      have wra_gx := (IsPl.alloc L2.out (Obj.cells #[.int .i64 (bt (rd_T39 L n).f2 3 - 48), .int .i64 0, .int .u64 18446744073709551615, .int .u64 0] 46)).c2
      have ra_gx := (IsPl.alloc L2.out (Obj.cells #[.int .i64 (bt (rd_T39 L n).f2 3 - 48), .int .i64 0, .int .u64 18446744073709551615, .int .u64 0] 46)).fr 1
      go_wp2_with (first | (go_at_call 22; (with_reducible refine (pl_is g L (wrap64 (n + 1)) 0 a 3 ⟨#[38]⟩ true w0 _ (IsPl.set (IsPl.alloc L2.out _) (wrap64 (n + 1))) h2.out h3.out A2.out).mono ?_); rintro e_ w3 ⟨rfl, hR_, hO_⟩; have B3_gr := amp (One.blk hO_ (blk_far (blk_alloc B2_gr.out _) NG_gr.out _) NG_gr.out); have B3_gt := amp (One.blk hO_ (blk_far (blk_alloc B2_gt.out _) NG_gt.out _) NG_gt.out); have B3_gx := amp (One.blk hO_ (blk_far (blk_new w2 _) NG_gx.out _) NG_gx.out); have L3 := amp (hR_); have O3 := amp (One.trans (One.setCell (One.alloc O2.out _) 1 _) hO_); clear hO_ hR_; generalize hgen_ : w2.heap.size = gx at B3_gx NG_gx GT_gx GW_gx NE_gx_gr NE_gx_gt m1_gx m2_gx m3_gx_gr m4_gx_gr m3_gx_gt m4_gx_gt ⊢; clear hgen_; try clear L2 O2 B2_gr B2_gt c2_gr_0 c2_gr_1 c2_gr_2 c2_gr_3 f2_gr c2_gt_0 c2_gt_1 c2_gt_2 c2_gt_3 f2_gt q2 wr2 r2 qa_gx wra_gx ra_gx; obtain ⟨c3_gr_0, c3_gr_1, c3_gr_2, c3_gr_3⟩ := cl4p B3_gr; have f3_gr := fun j => blk_frozen B3_gr.out j; obtain ⟨c3_gt_0, c3_gt_1, c3_gt_2, c3_gt_3⟩ := cl4p B3_gt; have f3_gt := fun j => blk_frozen B3_gt.out j; obtain ⟨c3_gx_0, c3_gx_1, c3_gx_2, c3_gx_3⟩ := cl4p B3_gx; have f3_gx := fun j => blk_frozen B3_gx.out j; have q3 := L3.out.c1; have wr3 := L3.out.c2; have r3 := L3.out.fr 1; try clear hO_ hR_) | (go_at_call 38; (with_reducible refine (pl_number g L (wrap64 ((wrap64 (n + 1)) + 1)) 0 a m n1 0 a1 w0 _ (IsPl.set L3.out (wrap64 ((wrap64 (n + 1)) + 1))) H1.out).mono ?_); rintro e_ w4 ⟨rfl, hR_, hO_⟩; have B4_gr := amp (One.blk hO_ (blk_far B3_gr.out NG_gr.out (.int .i64 (wrap64 ((wrap64 (n + 1)) + 1)))) NG_gr.out); have B4_gt := amp (One.blk hO_ (blk_far B3_gt.out NG_gt.out (.int .i64 (wrap64 ((wrap64 (n + 1)) + 1)))) NG_gt.out); have B4_gx := amp (One.blk hO_ (blk_far B3_gx.out NG_gx.out (.int .i64 (wrap64 ((wrap64 (n + 1)) + 1)))) NG_gx.out); have L4 := amp (hR_); have O4 := amp (One.trans (One.setCell O3.out 1 (.int .i64 (wrap64 ((wrap64 (n + 1)) + 1)))) hO_); try clear L3 O3 B3_gr B3_gt B3_gx c3_gr_0 c3_gr_1 c3_gr_2 c3_gr_3 f3_gr c3_gt_0 c3_gt_1 c3_gt_2 c3_gt_3 f3_gt c3_gx_0 c3_gx_1 c3_gx_2 c3_gx_3 f3_gx q3 wr3 r3; obtain ⟨c4_gr_0, c4_gr_1, c4_gr_2, c4_gr_3⟩ := cl4p B4_gr; have f4_gr := fun j => blk_frozen B4_gr.out j; obtain ⟨c4_gt_0, c4_gt_1, c4_gt_2, c4_gt_3⟩ := cl4p B4_gt; have f4_gt := fun j => blk_frozen B4_gt.out j; obtain ⟨c4_gx_0, c4_gx_1, c4_gx_2, c4_gx_3⟩ := cl4p B4_gx; have f4_gx := fun j => blk_frozen B4_gx.out j; have q4 := L4.out.c1; have wr4 := L4.out.c2; have r4 := L4.out.fr 1; try clear hO_ hR_) | (go_at_call 49; (with_reducible refine (pl_op k g L n1 0 a1 o n3 e3 a3 w0 _ (IsPl.far (p := ⟨gx, 2, none⟩) L4.out NG_gx.out GW_gx.out _) H2.out).mono ?_); rintro e_ w5 ⟨rfl, hR_, hO_⟩; have B5_gr := amp (One.blk hO_ (blk_far B4_gr.out (Ne.symm NE_gx_gr.out) _) NG_gr.out); have B5_gt := amp (One.blk hO_ (blk_far B4_gt.out (Ne.symm NE_gx_gt.out) _) NG_gt.out); have B5_gx := amp (One.blk hO_ (blk_put (cs' := #[.int .i64 (bt (rd_T39 L n).f2 3 - 48), .int .i64 0, .int .u64 m, .int .u64 0]) B4_gx.out 2 (.int .u64 m) rfl) NG_gx.out); have L5 := amp (hR_); have O5 := amp (One.trans (One.put (p := ⟨gx, 2, none⟩) O4.out GT_gx.out _) hO_); try clear L4 O4 B4_gr B4_gt B4_gx c4_gr_0 c4_gr_1 c4_gr_2 c4_gr_3 f4_gr c4_gt_0 c4_gt_1 c4_gt_2 c4_gt_3 f4_gt c4_gx_0 c4_gx_1 c4_gx_2 c4_gx_3 f4_gx q4 wr4 r4; obtain ⟨c5_gr_0, c5_gr_1, c5_gr_2, c5_gr_3⟩ := cl4p B5_gr; have f5_gr := fun j => blk_frozen B5_gr.out j; obtain ⟨c5_gt_0, c5_gt_1, c5_gt_2, c5_gt_3⟩ := cl4p B5_gt; have f5_gt := fun j => blk_frozen B5_gt.out j; obtain ⟨c5_gx_0, c5_gx_1, c5_gx_2, c5_gx_3⟩ := cl4p B5_gx; have f5_gx := fun j => blk_frozen B5_gx.out j; have q5 := L5.out.c1; have wr5 := L5.out.c2; have r5 := L5.out.fr 1; try clear hO_ hR_))
      (repeat (go_step3; (try go_wp2)))
      refine bodyPost_ret (results_cell_row rfl _ _ gr 46 (#[.int .i64 (bt (rd_T39 L n).f2 3 - 48), .int .i64 o, .int .u64 m, .int .u64 0]) (0, 0) _ rfl (blk_put4 (blk_far B5_gr.out (Ne.symm NE_gx_gr.out) _) _ _ _ _) hu46 rfl (by kernel_rfl)) rfl ?_
      exact ⟨rfl, (IsPl.far4 (IsPl.far (p := ⟨gx, 1, none⟩) L5.out NG_gx.out GW_gx.out _) NG_gr.out GW_gr.out _ _ _ _), (One.put4 (One.put (p := ⟨gx, 1, none⟩) O5.out GT_gx.out _) GT_gr.out _ _ _ _)⟩
    ·rw [if_neg he1] at H
     have y1 := beq_eq_false_iff_ne.2 he1
     clear he1
     simp only [Option.some.injEq, Prod.mk.injEq] at H
     obtain ⟨rfl, rfl, rfl, rfl, rfl, rfl, rfl⟩ := H
     have NG_gx := amp (Nat.ne_of_gt (IsPl.lt L2.out))
     have GT_gx := amp (One.size O2.out)
     have GW_gx := amp (Below.size (IsPl.bw L2.out))
     have NE_gx_gr := amp (Nat.ne_of_gt (blk_lt B2_gr.out))
     have NE_gx_gt := amp (Nat.ne_of_gt (blk_lt B2_gt.out))
     have m1_gx := NG_gx.out
     have m2_gx := Ne.symm NG_gx.out
     have m3_gx_gr := NE_gx_gr.out
     have m3_gx_gt := NE_gx_gt.out
     have m4_gx_gr := Ne.symm NE_gx_gr.out
     have m4_gx_gt := Ne.symm NE_gx_gt.out
     have qa_gx := (IsPl.alloc L2.out (Obj.cells #[.int .i64 (bt (rd_T39 L n).f2 3 - 48), .int .i64 0, .int .u64 18446744073709551615, .int .u64 0] 46)).c1
     have wra_gx := (IsPl.alloc L2.out (Obj.cells #[.int .i64 (bt (rd_T39 L n).f2 3 - 48), .int .i64 0, .int .u64 18446744073709551615, .int .u64 0] 46)).c2
     have ra_gx := (IsPl.alloc L2.out (Obj.cells #[.int .i64 (bt (rd_T39 L n).f2 3 - 48), .int .i64 0, .int .u64 18446744073709551615, .int .u64 0] 46)).fr 1
     go_wp2_with (first | (go_at_call 22; (with_reducible refine (pl_is g L (wrap64 (n + 1)) 0 a 3 ⟨#[38]⟩ true w0 _ (IsPl.set (IsPl.alloc L2.out _) (wrap64 (n + 1))) h2.out h3.out A2.out).mono ?_); rintro e_ w3 ⟨rfl, hR_, hO_⟩; have B3_gr := amp (One.blk hO_ (blk_far (blk_alloc B2_gr.out _) NG_gr.out _) NG_gr.out); have B3_gt := amp (One.blk hO_ (blk_far (blk_alloc B2_gt.out _) NG_gt.out _) NG_gt.out); have B3_gx := amp (One.blk hO_ (blk_far (blk_new w2 _) NG_gx.out _) NG_gx.out); have L3 := amp (hR_); have O3 := amp (One.trans (One.setCell (One.alloc O2.out _) 1 _) hO_); clear hO_ hR_; generalize hgen_ : w2.heap.size = gx at B3_gx NG_gx GT_gx GW_gx NE_gx_gr NE_gx_gt m1_gx m2_gx m3_gx_gr m4_gx_gr m3_gx_gt m4_gx_gt ⊢; clear hgen_; try clear L2 O2 B2_gr B2_gt c2_gr_0 c2_gr_1 c2_gr_2 c2_gr_3 f2_gr c2_gt_0 c2_gt_1 c2_gt_2 c2_gt_3 f2_gt q2 wr2 r2 qa_gx wra_gx ra_gx; obtain ⟨c3_gr_0, c3_gr_1, c3_gr_2, c3_gr_3⟩ := cl4p B3_gr; have f3_gr := fun j => blk_frozen B3_gr.out j; obtain ⟨c3_gt_0, c3_gt_1, c3_gt_2, c3_gt_3⟩ := cl4p B3_gt; have f3_gt := fun j => blk_frozen B3_gt.out j; obtain ⟨c3_gx_0, c3_gx_1, c3_gx_2, c3_gx_3⟩ := cl4p B3_gx; have f3_gx := fun j => blk_frozen B3_gx.out j; have q3 := L3.out.c1; have wr3 := L3.out.c2; have r3 := L3.out.fr 1; try clear hO_ hR_) | (go_at_call 38; (with_reducible refine (pl_number g L (wrap64 ((wrap64 (n + 1)) + 1)) 0 a m n1 e1 a1 w0 _ (IsPl.set L3.out (wrap64 ((wrap64 (n + 1)) + 1))) H1.out).mono ?_); rintro e_ w4 ⟨rfl, hR_, hO_⟩; have B4_gr := amp (One.blk hO_ (blk_far B3_gr.out NG_gr.out (.int .i64 (wrap64 ((wrap64 (n + 1)) + 1)))) NG_gr.out); have B4_gt := amp (One.blk hO_ (blk_far B3_gt.out NG_gt.out (.int .i64 (wrap64 ((wrap64 (n + 1)) + 1)))) NG_gt.out); have B4_gx := amp (One.blk hO_ (blk_far B3_gx.out NG_gx.out (.int .i64 (wrap64 ((wrap64 (n + 1)) + 1)))) NG_gx.out); have L4 := amp (hR_); have O4 := amp (One.trans (One.setCell O3.out 1 (.int .i64 (wrap64 ((wrap64 (n + 1)) + 1)))) hO_); try clear L3 O3 B3_gr B3_gt B3_gx c3_gr_0 c3_gr_1 c3_gr_2 c3_gr_3 f3_gr c3_gt_0 c3_gt_1 c3_gt_2 c3_gt_3 f3_gt c3_gx_0 c3_gx_1 c3_gx_2 c3_gx_3 f3_gx q3 wr3 r3; obtain ⟨c4_gr_0, c4_gr_1, c4_gr_2, c4_gr_3⟩ := cl4p B4_gr; have f4_gr := fun j => blk_frozen B4_gr.out j; obtain ⟨c4_gt_0, c4_gt_1, c4_gt_2, c4_gt_3⟩ := cl4p B4_gt; have f4_gt := fun j => blk_frozen B4_gt.out j; obtain ⟨c4_gx_0, c4_gx_1, c4_gx_2, c4_gx_3⟩ := cl4p B4_gx; have f4_gx := fun j => blk_frozen B4_gx.out j; have q4 := L4.out.c1; have wr4 := L4.out.c2; have r4 := L4.out.fr 1; try clear hO_ hR_))
     (repeat (go_step3; (try go_wp2)))
     refine bodyPost_ret (results_cell_row rfl _ _ gr 46 (#[.int .i64 (bt (rd_T39 L n).f2 3 - 48), .int .i64 0, .int .u64 m, .int .u64 0]) (0, 0) _ rfl (blk_put4 (blk_far B4_gr.out (Ne.symm NE_gx_gr.out) _) _ _ _ _) hu46 rfl (by kernel_rfl)) rfl ?_
     exact ⟨rfl, (IsPl.far4 (IsPl.far (p := ⟨gx, 2, none⟩) L4.out NG_gx.out GW_gx.out _) NG_gr.out GW_gr.out _ _ _ _), (One.put4 (One.put (p := ⟨gx, 2, none⟩) O4.out GT_gx.out _) GT_gr.out _ _ _ _)⟩
   ·rw [if_neg hq] at H
    have A2 := amp (decide_eq_false hq).symm
    clear hq
    obtain ⟨⟨o, n3, e3, a3⟩, H2, H⟩ := Option.bind_eq_some_iff.mp H
    have H2 := amp H2
    by_cases he3 : e3 = 0
    ·subst he3
     rw [if_pos rfl] at H
     obtain ⟨⟨v, n4, e4, a4⟩, H3, H⟩ := Option.bind_eq_some_iff.mp H
     have H3 := amp H3
     simp only [Option.some.injEq, Prod.mk.injEq] at H
     obtain ⟨rfl, rfl, rfl, rfl, rfl, rfl, rfl⟩ := H
     have NG_gx := amp (Nat.ne_of_gt (IsPl.lt L2.out))
     have GT_gx := amp (One.size O2.out)
     have GW_gx := amp (Below.size (IsPl.bw L2.out))
     have NE_gx_gr := amp (Nat.ne_of_gt (blk_lt B2_gr.out))
     have NE_gx_gt := amp (Nat.ne_of_gt (blk_lt B2_gt.out))
     have m1_gx := NG_gx.out
     have m2_gx := Ne.symm NG_gx.out
     have m3_gx_gr := NE_gx_gr.out
     have m3_gx_gt := NE_gx_gt.out
     have m4_gx_gr := Ne.symm NE_gx_gr.out
     have m4_gx_gt := Ne.symm NE_gx_gt.out
     have qa_gx := (IsPl.alloc L2.out (Obj.cells #[.int .i64 (bt (rd_T39 L n).f2 3 - 48), .int .i64 0, .int .u64 18446744073709551615, .int .u64 0] 46)).c1
     have wra_gx := (IsPl.alloc L2.out (Obj.cells #[.int .i64 (bt (rd_T39 L n).f2 3 - 48), .int .i64 0, .int .u64 18446744073709551615, .int .u64 0] 46)).c2
     have ra_gx := (IsPl.alloc L2.out (Obj.cells #[.int .i64 (bt (rd_T39 L n).f2 3 - 48), .int .i64 0, .int .u64 18446744073709551615, .int .u64 0] 46)).fr 1
     go_wp2_with (first | (go_at_call 22; (with_reducible refine (pl_is g L (wrap64 (n + 1)) 0 a 3 ⟨#[38]⟩ false w0 _ (IsPl.set (IsPl.alloc L2.out _) (wrap64 (n + 1))) h2.out h3.out A2.out).mono ?_); rintro e_ w3 ⟨rfl, hR_, hO_⟩; have B3_gr := amp (One.blk hO_ (blk_far (blk_alloc B2_gr.out _) NG_gr.out _) NG_gr.out); have B3_gt := amp (One.blk hO_ (blk_far (blk_alloc B2_gt.out _) NG_gt.out _) NG_gt.out); have B3_gx := amp (One.blk hO_ (blk_far (blk_new w2 _) NG_gx.out _) NG_gx.out); have L3 := amp (hR_); have O3 := amp (One.trans (One.setCell (One.alloc O2.out _) 1 _) hO_); clear hO_ hR_; generalize hgen_ : w2.heap.size = gx at B3_gx NG_gx GT_gx GW_gx NE_gx_gr NE_gx_gt m1_gx m2_gx m3_gx_gr m4_gx_gr m3_gx_gt m4_gx_gt ⊢; clear hgen_; try clear L2 O2 B2_gr B2_gt c2_gr_0 c2_gr_1 c2_gr_2 c2_gr_3 f2_gr c2_gt_0 c2_gt_1 c2_gt_2 c2_gt_3 f2_gt q2 wr2 r2 qa_gx wra_gx ra_gx; obtain ⟨c3_gr_0, c3_gr_1, c3_gr_2, c3_gr_3⟩ := cl4p B3_gr; have f3_gr := fun j => blk_frozen B3_gr.out j; obtain ⟨c3_gt_0, c3_gt_1, c3_gt_2, c3_gt_3⟩ := cl4p B3_gt; have f3_gt := fun j => blk_frozen B3_gt.out j; obtain ⟨c3_gx_0, c3_gx_1, c3_gx_2, c3_gx_3⟩ := cl4p B3_gx; have f3_gx := fun j => blk_frozen B3_gx.out j; have q3 := L3.out.c1; have wr3 := L3.out.c2; have r3 := L3.out.fr 1; try clear hO_ hR_) | (go_at_call 49; (with_reducible refine (pl_op k g L (wrap64 (n + 1)) 0 a o n3 0 a3 w0 _ L3.out H2.out).mono ?_); rintro e_ w4 ⟨rfl, hR_, hO_⟩; have B4_gr := amp (One.blk hO_ B3_gr.out NG_gr.out); have B4_gt := amp (One.blk hO_ B3_gt.out NG_gt.out); have B4_gx := amp (One.blk hO_ B3_gx.out NG_gx.out); have L4 := amp (hR_); have O4 := amp (One.trans O3.out hO_); try clear L3 O3 B3_gr B3_gt B3_gx c3_gr_0 c3_gr_1 c3_gr_2 c3_gr_3 f3_gr c3_gt_0 c3_gt_1 c3_gt_2 c3_gt_3 f3_gt c3_gx_0 c3_gx_1 c3_gx_2 c3_gx_3 f3_gx q3 wr3 r3; obtain ⟨c4_gr_0, c4_gr_1, c4_gr_2, c4_gr_3⟩ := cl4p B4_gr; have f4_gr := fun j => blk_frozen B4_gr.out j; obtain ⟨c4_gt_0, c4_gt_1, c4_gt_2, c4_gt_3⟩ := cl4p B4_gt; have f4_gt := fun j => blk_frozen B4_gt.out j; obtain ⟨c4_gx_0, c4_gx_1, c4_gx_2, c4_gx_3⟩ := cl4p B4_gx; have f4_gx := fun j => blk_frozen B4_gx.out j; have q4 := L4.out.c1; have wr4 := L4.out.c2; have r4 := L4.out.fr 1; try clear hO_ hR_) | (go_at_call 38; (with_reducible refine (pl_number g L n3 0 a3 v n4 e4 a4 w0 _ (IsPl.far (p := ⟨gx, 1, none⟩) L4.out NG_gx.out GW_gx.out _) H3.out).mono ?_); rintro e_ w5 ⟨rfl, hR_, hO_⟩; have B5_gr := amp (One.blk hO_ (blk_far B4_gr.out (Ne.symm NE_gx_gr.out) _) NG_gr.out); have B5_gt := amp (One.blk hO_ (blk_far B4_gt.out (Ne.symm NE_gx_gt.out) _) NG_gt.out); have B5_gx := amp (One.blk hO_ (blk_put (cs' := #[.int .i64 (bt (rd_T39 L n).f2 3 - 48), .int .i64 o, .int .u64 18446744073709551615, .int .u64 0]) B4_gx.out 1 (.int .i64 o) rfl) NG_gx.out); have L5 := amp (hR_); have O5 := amp (One.trans (One.put (p := ⟨gx, 1, none⟩) O4.out GT_gx.out _) hO_); try clear L4 O4 B4_gr B4_gt B4_gx c4_gr_0 c4_gr_1 c4_gr_2 c4_gr_3 f4_gr c4_gt_0 c4_gt_1 c4_gt_2 c4_gt_3 f4_gt c4_gx_0 c4_gx_1 c4_gx_2 c4_gx_3 f4_gx q4 wr4 r4; obtain ⟨c5_gr_0, c5_gr_1, c5_gr_2, c5_gr_3⟩ := cl4p B5_gr; have f5_gr := fun j => blk_frozen B5_gr.out j; obtain ⟨c5_gt_0, c5_gt_1, c5_gt_2, c5_gt_3⟩ := cl4p B5_gt; have f5_gt := fun j => blk_frozen B5_gt.out j; obtain ⟨c5_gx_0, c5_gx_1, c5_gx_2, c5_gx_3⟩ := cl4p B5_gx; have f5_gx := fun j => blk_frozen B5_gx.out j; have q5 := L5.out.c1; have wr5 := L5.out.c2; have r5 := L5.out.fr 1; try clear hO_ hR_))
     (repeat (go_step3; (try go_wp2)))
     refine bodyPost_ret (results_cell_row rfl _ _ gr 46 (#[.int .i64 (bt (rd_T39 L n).f2 3 - 48), .int .i64 o, .int .u64 18446744073709551615, .int .u64 v]) (0, 0) _ rfl (blk_put4 (blk_far B5_gr.out (Ne.symm NE_gx_gr.out) _) _ _ _ _) hu46 rfl (by kernel_rfl)) rfl ?_
     exact ⟨rfl, (IsPl.far4 (IsPl.far (p := ⟨gx, 3, none⟩) L5.out NG_gx.out GW_gx.out _) NG_gr.out GW_gr.out _ _ _ _), (One.put4 (One.put (p := ⟨gx, 3, none⟩) O5.out GT_gx.out _) GT_gr.out _ _ _ _)⟩
    ·rw [if_neg he3] at H
     have y3 := beq_eq_false_iff_ne.2 he3
     clear he3
     simp only [Option.some.injEq, Prod.mk.injEq] at H
     obtain ⟨rfl, rfl, rfl, rfl, rfl, rfl, rfl⟩ := H
     have NG_gx := amp (Nat.ne_of_gt (IsPl.lt L2.out))
     have GT_gx := amp (One.size O2.out)
     have GW_gx := amp (Below.size (IsPl.bw L2.out))
     have NE_gx_gr := amp (Nat.ne_of_gt (blk_lt B2_gr.out))
     have NE_gx_gt := amp (Nat.ne_of_gt (blk_lt B2_gt.out))
     have m1_gx := NG_gx.out
     have m2_gx := Ne.symm NG_gx.out
     have m3_gx_gr := NE_gx_gr.out
     have m3_gx_gt := NE_gx_gt.out
     have m4_gx_gr := Ne.symm NE_gx_gr.out
     have m4_gx_gt := Ne.symm NE_gx_gt.out
     have qa_gx := (IsPl.alloc L2.out (Obj.cells #[.int .i64 (bt (rd_T39 L n).f2 3 - 48), .int .i64 0, .int .u64 18446744073709551615, .int .u64 0] 46)).c1
     have wra_gx := (IsPl.alloc L2.out (Obj.cells #[.int .i64 (bt (rd_T39 L n).f2 3 - 48), .int .i64 0, .int .u64 18446744073709551615, .int .u64 0] 46)).c2
     have ra_gx := (IsPl.alloc L2.out (Obj.cells #[.int .i64 (bt (rd_T39 L n).f2 3 - 48), .int .i64 0, .int .u64 18446744073709551615, .int .u64 0] 46)).fr 1
     go_wp2_with (first | (go_at_call 22; (with_reducible refine (pl_is g L (wrap64 (n + 1)) 0 a 3 ⟨#[38]⟩ false w0 _ (IsPl.set (IsPl.alloc L2.out _) (wrap64 (n + 1))) h2.out h3.out A2.out).mono ?_); rintro e_ w3 ⟨rfl, hR_, hO_⟩; have B3_gr := amp (One.blk hO_ (blk_far (blk_alloc B2_gr.out _) NG_gr.out _) NG_gr.out); have B3_gt := amp (One.blk hO_ (blk_far (blk_alloc B2_gt.out _) NG_gt.out _) NG_gt.out); have B3_gx := amp (One.blk hO_ (blk_far (blk_new w2 _) NG_gx.out _) NG_gx.out); have L3 := amp (hR_); have O3 := amp (One.trans (One.setCell (One.alloc O2.out _) 1 _) hO_); clear hO_ hR_; generalize hgen_ : w2.heap.size = gx at B3_gx NG_gx GT_gx GW_gx NE_gx_gr NE_gx_gt m1_gx m2_gx m3_gx_gr m4_gx_gr m3_gx_gt m4_gx_gt ⊢; clear hgen_; try clear L2 O2 B2_gr B2_gt c2_gr_0 c2_gr_1 c2_gr_2 c2_gr_3 f2_gr c2_gt_0 c2_gt_1 c2_gt_2 c2_gt_3 f2_gt q2 wr2 r2 qa_gx wra_gx ra_gx; obtain ⟨c3_gr_0, c3_gr_1, c3_gr_2, c3_gr_3⟩ := cl4p B3_gr; have f3_gr := fun j => blk_frozen B3_gr.out j; obtain ⟨c3_gt_0, c3_gt_1, c3_gt_2, c3_gt_3⟩ := cl4p B3_gt; have f3_gt := fun j => blk_frozen B3_gt.out j; obtain ⟨c3_gx_0, c3_gx_1, c3_gx_2, c3_gx_3⟩ := cl4p B3_gx; have f3_gx := fun j => blk_frozen B3_gx.out j; have q3 := L3.out.c1; have wr3 := L3.out.c2; have r3 := L3.out.fr 1; try clear hO_ hR_) | (go_at_call 49; (with_reducible refine (pl_op k g L (wrap64 (n + 1)) 0 a o n3 e3 a3 w0 _ L3.out H2.out).mono ?_); rintro e_ w4 ⟨rfl, hR_, hO_⟩; have B4_gr := amp (One.blk hO_ B3_gr.out NG_gr.out); have B4_gt := amp (One.blk hO_ B3_gt.out NG_gt.out); have B4_gx := amp (One.blk hO_ B3_gx.out NG_gx.out); have L4 := amp (hR_); have O4 := amp (One.trans O3.out hO_); try clear L3 O3 B3_gr B3_gt B3_gx c3_gr_0 c3_gr_1 c3_gr_2 c3_gr_3 f3_gr c3_gt_0 c3_gt_1 c3_gt_2 c3_gt_3 f3_gt c3_gx_0 c3_gx_1 c3_gx_2 c3_gx_3 f3_gx q3 wr3 r3; obtain ⟨c4_gr_0, c4_gr_1, c4_gr_2, c4_gr_3⟩ := cl4p B4_gr; have f4_gr := fun j => blk_frozen B4_gr.out j; obtain ⟨c4_gt_0, c4_gt_1, c4_gt_2, c4_gt_3⟩ := cl4p B4_gt; have f4_gt := fun j => blk_frozen B4_gt.out j; obtain ⟨c4_gx_0, c4_gx_1, c4_gx_2, c4_gx_3⟩ := cl4p B4_gx; have f4_gx := fun j => blk_frozen B4_gx.out j; have q4 := L4.out.c1; have wr4 := L4.out.c2; have r4 := L4.out.fr 1; try clear hO_ hR_))
     (repeat (go_step3; (try go_wp2)))
     refine bodyPost_ret (results_cell_row rfl _ _ gr 46 (#[.int .i64 (bt (rd_T39 L n).f2 3 - 48), .int .i64 o, .int .u64 18446744073709551615, .int .u64 0]) (0, 0) _ rfl (blk_put4 (blk_far B4_gr.out (Ne.symm NE_gx_gr.out) _) _ _ _ _) hu46 rfl (by kernel_rfl)) rfl ?_
     exact ⟨rfl, (IsPl.far4 (IsPl.far (p := ⟨gx, 1, none⟩) L4.out NG_gx.out GW_gx.out _) NG_gr.out GW_gr.out _ _ _ _), (One.put4 (One.put (p := ⟨gx, 1, none⟩) O4.out GT_gx.out _) GT_gr.out _ _ _ _)⟩
  ·rw [if_neg hm] at H; cases H
theorem pl_cond (k : Nat) (g : Nat) (L : List S39) (n e a c r0 r1 r2 r3 n' e' a' : Int) (w0 w : World) (h : IsPl w0 w g L n e a) (H : fairleadref10_Place_cond.f k L n e a c = some (r0, r1, r2, r3, n', e', a')) :
  Calls Try.prog 39 #[.pointer (some ⟨g, 0, none⟩), .int .i64 c] w (fun en w' => en = .returned (.agg #[.int .i64 r0, .int .i64 r1, .int .u64 r2, .int .u64 r3]) ∧ IsPl w0 w' g L n' e' a' ∧ One g w w') := by
 unfold fairleadref10_Place_cond.f at H
 by_cases hn : e = 0 ∧ 0 ≤ n ∧ n < (L.length : Int)
 ·rw [if_pos hn] at H
  obtain ⟨rfl, h0, h1⟩ := hn
  by_cases ha : ((rd_T39 L n).f0 = 1 ∧ (rd_T39 L n).f2.size = 4 ∧ ((rd_T39 L n).f2.extract 0 3).toList = [97, 114, 103] ∧ 48 ≤ bt (rd_T39 L n).f2 3 ∧ bt (rd_T39 L n).f2 3 ≤ 53)
  ·rw [if_pos ha] at H
   exact fairleadref10_Place_cond.good k g L n a c r0 r1 r2 r3 n' e' a' w0 w h (amp h0) (amp h1) ha (amp H)
  ·rw [if_neg ha] at H
   obtain ⟨⟨p1, p2, p3⟩, H1, H⟩ := Option.bind_eq_some_iff.mp H
   cases H
   exact fairleadref10_Place_cond.w7 k g L n a c w0 w h (amp h0) (amp h1) ha _ _ _ (amp H1)
 ·rw [if_neg hn] at H; cases H
end Go.Proofs.Ytfahchgglapglaa.M
