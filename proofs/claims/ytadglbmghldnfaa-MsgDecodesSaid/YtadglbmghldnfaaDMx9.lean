-- Laid by a program (wip/tools/myprint.py) out of the loaded program's own print: for each Go function a Lean function and the proof of its contract.
import Derived.Test.YtadglbmghldnfaaDMx0
import Derived.Test.YtadglbmghldnfaaDMx7
namespace Go.Proofs.Ytadglbmghldnfaa.M
open Go.RowKit Go.Proofs.YtadglbmghldnfaaW.PrintWords Go.Proofs.YtadglbmghldnfaaW.PrintLast Go.Proofs.YtadglbmghldnfaaW.PrintMore
attribute [local go_sem] max2_int min2_int max_two min_two max_three min_three max_four min_four   -- for this text's walks alone
set_option linter.unusedVariables false
set_option linter.unusedSimpArgs false
-- HAND rounds=False making=True
/-- What a text's taking gives, and leaves. -/
def pack_rtext (s : List Int × Int) : ByteArray × List Int × Int := (strOfNums (pack_taken (pack_rnum s 2).2 (wrap64 (pack_rnum s 2).1)), if (pack_left (pack_rnum s 2).2 (wrap64 (pack_rnum s 2).1)).2 = 0 then (pack_left (pack_rnum s 2).2 (wrap64 (pack_rnum s 2).1)).1 else s.1, (pack_left (pack_rnum s 2).2 (wrap64 (pack_rnum s 2).1)).2)
def pack_Reader_Text.f (s0_0 : List Int) (s0_1 : Int) : Option (ByteArray × List Int × Int) := if 0 ≤ wrap64 (pack_rnum (s0_0, s0_1) 2).1 then some (pack_rtext (s0_0, s0_1)) else none
set_option maxHeartbeats 8000000 in
set_option maxRecDepth 100000 in
theorem pkr_Text.calls (g : Nat) (L : List Int) (e : Int) (w0 w : World) (hI : Mine.IsR 73 5 w0 w g L e) (hn : 0 ≤ wrap64 (pack_rnum (L, e) 2).1) :
    Calls Try.prog 27 #[.pointer (some ⟨g, 0, none⟩)] w fun r w' => r = .returned (.string (pack_rtext (L, e)).1) ∧ Mine.IsR 73 5 w0 w' g (pack_rtext (L, e)).2.1 (pack_rtext (L, e)).2.2 ∧ Mine.Bar (fun k => k = g) w w' := by
  have HI := Aside0.mk hI
  have hlt := hI.lt
  obtain ⟨A0, c0, hg, hge, hL⟩ := hI
  have x0 : w.cell? ⟨g, 0, none⟩ = some (.slice A0 L.length c0) := (blk_cell hg 0).trans rfl
  have HG := Aside0.mk hg
  have HL := Aside0.mk hL
  clear hg hL
  unfold pack_rtext
  generalize hq : pack_rnum (L, e) 2 = q at *
  obtain ⟨q0, q1, q2⟩ := q
  simp only at *
  generalize hnn : wrap64 q0 = nn at *
  have z1 : IntKind.i64.wrap q0 = nn := by rw [i64_w]; exact hnn
  generalize hl2 : pack_left (q1, q2) nn = l2
  generalize htk : pack_taken (q1, q2) nn = tk
  obtain ⟨l0, e3⟩ := l2
  simp only
  by_cases he : e3 = 0
  all_goals
    first
      | (rw [if_pos he]; have b1 : (e3 != 0) = false := bne_eq_false_iff_eq.2 he; have b2 := Aside0.mk he)
      | (rw [if_neg he]; have b1 : (e3 != 0) = true := bne_iff_ne.2 he; have b2 := Aside0.mk he)
    clear he
    go_enter Try.func27, Try.ntmps27
    go_wp2_with (first | ((with_reducible refine gate_dst (N := 4) rfl ?_); refine box_event ?hg (N := 4) ?hd (cs := #[.string ⟨#[]⟩]) (t := 9) ?hr ?_; (case hd => rfl); (case hg => rfl); (case hr => first | (go_simp; done) | (go_simp; rfl)); intro gb GE wb hbk hbb; have y0 : wb.cell? ⟨gb, 0, none⟩ = some (.string ⟨#[]⟩) := (blk_cell hbk 0).trans rfl; have fy := blk_frozen hbk 0; have GE2 := Aside0.mk GE; have HBK := Aside0.mk (show (wb.setCell ⟨gb, 0, none⟩ (.string ⟨#[]⟩)).heap[gb]? = _ from blk_put hbk 0 _ rfl); have HBar := Aside0.mk ((Mine.Bar.of_below (S := fun k => k = gb) hbb).setCell rfl 0 (.string ⟨#[]⟩)); clear GE hbk hbb) | (go_at_call 25; (refine (pkr_Num.calls g L e 2 w0 _ (HI.out.bar HBar.out (by have := GE2.out; omega) (fun k cs hk hc => by have := blk_lt hc; have := GE2.out; omega))).mono ?_); rintro r w1 ⟨rfl, hI1, hBar1⟩; rw [hq] at hI1 ⊢; simp only at hI1 ⊢; have HBK1 := Aside0.mk (hBar1.blk HBK.out (by have := GE2.out; omega)); have HI1 := Aside0.mk hI1; have HBar1 := Aside0.mk hBar1; clear hI1 hBar1) | (go_at_call 35; (refine (pkr_taketext.calls gb g q1 q2 nn w0 _ HI1.out hn HBK1.out).mono ?_); rintro r w2 ⟨rfl, hI2, hb2, hBar2⟩; rw [hl2] at hI2; rw [htk] at hb2; simp only at hI2; obtain ⟨A3, c3, hg3, hge3, hL3⟩ := hI2; have x13 : w2.cell? ⟨g, 1, none⟩ = some (.int .i64 e3) := (blk_cell hg3 1).trans rfl; have f03 := blk_frozen hg3 0; have x03 : w2.cell? ⟨g, 0, none⟩ = some (.slice A3 l0.length c3) := (blk_cell hg3 0).trans rfl; have hgn : g ≠ gb := (fun e_ => by have := GE2.out; omega); have z0 : w2.cell? ⟨gb, 0, none⟩ = some (.string (strOfNums tk)) := (blk_cell hb2 0).trans rfl; have HB3 := Aside0.mk hb2; have HG3 := Aside0.mk hg3; have HL3 := Aside0.mk hL3; have HBar2 := Aside0.mk hBar2; clear hg3 hL3 hb2 hBar2))
    go_ret
    first
      | exact ⟨rfl, ⟨A3, c3, HG3.out, hge3, HL3.out⟩, (((HBar.out.mono (S' := fun k => k = g ∨ k = gb) (fun k hk => Or.inr hk)).trans (HBar1.out.mono (S' := fun k => k = g ∨ k = gb) (fun k hk => Or.inl hk))).trans HBar2.out).fresh (fun k hk h2 => by rcases h2 with h2 | h2; exact h2; have := GE2.out; omega)⟩
      | (have HF := ((((HBar.out.mono (S' := fun k => k = g ∨ k = gb) (fun k hk => Or.inr hk)).trans (HBar1.out.mono (S' := fun k => k = g ∨ k = gb) (fun k hk => Or.inl hk))).trans HBar2.out).setCell (g := g) (Or.inl rfl) 0 (.slice A0 L.length c0)).fresh (S' := fun k => k = g) (fun k hk h2 => by rcases h2 with h2 | h2; exact h2; have := GE2.out; omega)
         exact ⟨rfl, ⟨A0, c0, blk_put HG3.out 0 _ rfl, hge, HL.out.bar HF (fun k cs hk hc => by subst hk; exact Mine.two_types HG.out hc (by decide))⟩, HF⟩)
theorem pack_Reader_Text.calls (g : Nat) (s0_0 : List Int) (s0_1 : Int) (r1 : ByteArray) (r2 : List Int) (r3 : Int) (w0 w : World) (hI : IsS73 w0 w g s0_0 s0_1) (hB : Below w0.heap.size w0 w) (h : pack_Reader_Text.f s0_0 s0_1 = some (r1, r2, r3)) :
    Calls Try.prog 27 #[.pointer (some ⟨g, 0, none⟩)] w fun e w' => e = .returned (.string r1) ∧ IsS73 w0 w' g r2 r3 ∧ Below w0.heap.size w0 w' ∧ KeepBut w w' g none := by
  unfold pack_Reader_Text.f at h
  by_cases hn : 0 ≤ wrap64 (pack_rnum (s0_0, s0_1) 2).1
  · rw [if_pos hn] at h
    obtain h := Option.some.inj h
    refine (pkr_Text.calls g s0_0 s0_1 w0 w hI hn).mono (fun e w' hp => ?_)
    rw [h] at hp
    exact ⟨hp.1, hp.2.1, hB.trans (hp.2.2.below (fun k hk h2 => by have := Mine.IsR.ge hI; omega) hB.size), hp.2.2.keep (fun k hk h2 => h2)⟩
  · rw [if_neg hn] at h
    cases h
-- HAND rounds=False making=True
def pack_Reader_End.f (s0_0 : List Int) (s0_1 : Int) : Option (Int × List Int × Int) := some (if s0_1 = 0 then (if s0_0.length = 0 then 0 else 3) else s0_1, s0_0, s0_1)
set_option maxHeartbeats 8000000 in
set_option maxRecDepth 100000 in
theorem pkr_End.calls (g : Nat) (L : List Int) (e : Int) (w0 w : World) (hI : Mine.IsR 73 5 w0 w g L e) :
    Calls Try.prog 28 #[.pointer (some ⟨g, 0, none⟩)] w fun r w' => r = .returned (.int .i64 (if e = 0 then (if L.length = 0 then 0 else 3) else e)) ∧ Mine.IsR 73 5 w0 w' g L e ∧ Mine.Bar (fun k => k = g) w w' := by
  have HI := Aside0.mk hI
  obtain ⟨A0, c0, hg, hge, hL⟩ := hI
  have x0 : w.cell? ⟨g, 0, none⟩ = some (.slice A0 L.length c0) := (blk_cell hg 0).trans rfl
  have x1 : w.cell? ⟨g, 1, none⟩ = some (.int .i64 e) := (blk_cell hg 1).trans rfl
  clear hg hL
  by_cases he : e = 0
  · subst he
    by_cases hl : L.length = 0
    · rw [if_pos rfl, if_pos hl]
      have b0 : decide (0 < (L.length : Int)) = false := decide_eq_false (by omega)
      have b1 : decide (0 < L.length) = false := decide_eq_false (by omega)
      clear hl
      go_enter Try.func28, Try.ntmps28
      go_wp2
      (repeat (go_step3; (try go_wp2)))
      go_ret
      exact ⟨rfl, HI.out, Mine.Bar.refl _ _⟩
    · rw [if_pos rfl, if_neg hl]
      have b0 : decide (0 < (L.length : Int)) = true := decide_eq_true (by omega)
      have b1 : decide (0 < L.length) = true := decide_eq_true (by omega)
      clear hl
      go_enter Try.func28, Try.ntmps28
      go_wp2
      (repeat (go_step3; (try go_wp2)))
      go_ret
      exact ⟨rfl, HI.out, Mine.Bar.refl _ _⟩
  · rw [if_neg he]
    have b0 : (e == 0) = false := beq_eq_false_iff_ne.2 he
    go_enter Try.func28, Try.ntmps28
    go_wp2
    (repeat (go_step3; (try go_wp2)))
    go_ret
    exact ⟨rfl, HI.out, Mine.Bar.refl _ _⟩
theorem pack_Reader_End.calls (g : Nat) (s0_0 : List Int) (s0_1 : Int) (r1 : Int) (r2 : List Int) (r3 : Int) (w0 w : World) (hI : IsS73 w0 w g s0_0 s0_1) (hB : Below w0.heap.size w0 w) (h : pack_Reader_End.f s0_0 s0_1 = some (r1, r2, r3)) :
    Calls Try.prog 28 #[.pointer (some ⟨g, 0, none⟩)] w fun e w' => e = .returned (.int .i64 r1) ∧ IsS73 w0 w' g r2 r3 ∧ Below w0.heap.size w0 w' ∧ KeepBut w w' g none := by
  unfold pack_Reader_End.f at h
  obtain ⟨h1, h2⟩ := Prod.mk.inj (Option.some.inj h)
  obtain ⟨h2, h3⟩ := Prod.mk.inj h2
  subst h1 h2 h3
  refine (pkr_End.calls g s0_0 s0_1 w0 w hI).mono (fun e w' hp => ?_)
  exact ⟨hp.1, hp.2.1, hB.trans (hp.2.2.below (fun k hk h2 => by have := Mine.IsR.ge hI; omega) hB.size), hp.2.2.keep (fun k hk h2 => h2)⟩
end Go.Proofs.Ytadglbmghldnfaa.M
