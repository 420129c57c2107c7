-- Laid by a program (wip/tools/myprint.py) out of the loaded program's own print: for each Go function a Lean function and the proof of its contract.
import Derived.Test.YteojfjlklikaoaaP3Mx0
import Derived.Test.YteojfjlklikaoaaP3Mx3
namespace Go.Proofs.Yteojfjlklikaoaa.M
open Go.RowKit Go.Proofs.YteojfjlklikaoaaW.PrintWords Go.Proofs.YteojfjlklikaoaaW.PrintLast Go.Proofs.YteojfjlklikaoaaW.PrintMore
attribute [local go_sem] max2_int min2_int max_two min_two max_three min_three max_four min_four   -- for this text's walks alone
set_option linter.unusedVariables false
set_option linter.unusedSimpArgs false
-- HAND rounds=False making=True
theorem sk_inner {α : Type} {d : Kd α} {e : Nat} {w : World} {ok : Nat → Prop} {A : Option Addr} {n c : Nat} {L : List α} (h : d.R e w 0 ok (.slice A n c) L) : ∃ inner, Reps (d.M w 0 ok) d.sz L inner ∧ (0 < n → ∃ ad, A = some ad ∧ ∀ j u, inner[j]? = some u → w.cell? (ad.add j) = some u) := by
  obtain ⟨_, inner, ho, hr⟩ := h
  refine ⟨inner, hr.imp_ (fun _ _ hp => d.M_mono (fun _ hk => hk.1) hp), fun hp => ?_⟩
  rcases ho.2 with ⟨h1, h2⟩ | ⟨g, cap, cur, h1, _, hg, _, _, _, htk⟩
  · injection h1 with _ h1 _
    omega
  · injection h1 with h1 _ _
    subst h1
    refine ⟨_, rfl, fun j u hj => ?_⟩
    rw [Addr.add_lit, blk_cell hg, Nat.zero_add]
    rw [← htk, List.getElem?_take] at hj
    split at hj
    · simpa using hj
    · cases hj
def ForkPost (ok : Nat → Prop) (L : List (List S53)) (cost : Int) (w : World) (e : Ending) (w' : World) : Prop := ∃ gf, e = .returned (.pointer (some ⟨gf, 0, none⟩)) ∧ w.heap.size ≤ gf ∧ Below w.heap.size w w' ∧ SkS (fun k => (ok k ∧ k < w.heap.size) ∨ (w.heap.size ≤ k ∧ k ≠ gf)) w' gf L cost
set_option maxHeartbeats 8000000 in
set_option maxRecDepth 100000 in
theorem stack_Stack_Fork.sk (g : Nat) (L : List (List S53)) (cost : Int) (ok : Nat → Prop) (w : World) (hs : SkS ok w g L cost) (hL : L.length ≤ 40) :
    Calls Try.prog 21 #[.pointer (some ⟨g, 0, none⟩)] w (ForkPost ok L cost w) := by
  obtain ⟨A, c, hb, hl, hR, hC⟩ := hs.open_
  have z0 := (blk_cell hb 0).trans (show _ = some (.slice A L.length c : Value) from rfl)
  have z1 := (blk_cell hb 1).trans (show _ = some (.int .i64 cost : Value) from rfl)
  have HBk := Aside0.mk hb
  have HRow := Aside0.mk (Mine.R_more hR (ok' := fun k => ok k ∧ k < w.heap.size) (fun k hk h => ⟨h, hk⟩))
  have b4 : 0 ≤ (L.length : Int) := by omega
  have b5 : (L.length : Int) ≤ 40 := by omega
  clear hs hb hl hR hC
  go_enter Try.func21, Try.ntmps21
  go_wp2_with (first | ((with_reducible refine gate_dst (N := 9) rfl ?_); refine Kd.R_make (Kd.slice 53 k53) w.heap.size 38 rfl (N := 9) rfl 22 _ _ rfl (L.length : Int) rfl rfl Try.underlying22 (.slice none 0 0) 24 sk_info38 rfl (by decide) (by decide) [] (ok := fun k => w.heap.size ≤ k ∨ (ok k ∧ k < w.heap.size)) (okp := fun _ => False) (Kd.M_row (Kd.R_nil _ _ _ _ _)) (fun _ h => h.elim) (Or.inl (Nat.le_refl _)) (by omega) (by omega) (Below.refl _ _) (Nat.le_refl _) ?_; intro v2 w2 hR2 hB2 hg2 hn2; clear hg2; obtain ⟨b, hb2, hbw⟩ := hn2; obtain ⟨cap, hv2⟩ := Mine.R_form0 hR2 hb2; rw [List.length_replicate, Int.toNat_natCast] at hv2; subst hv2; have HR2 := Aside0.mk (Kd.R_lower hR2 (Nat.zero_le _)); have HBB := Aside0.mk hbw; have HB2 := Aside0.mk hB2; obtain ⟨inner, hrep, hsrc⟩ := sk_inner (Kd.R_below HRow.out hB2); have HRep := Aside0.mk hrep; have HSrc := Aside0.mk hsrc; have zz0 := pw_cell_below hB2 z0; have zz1 := pw_cell_below hB2 z1; clear hR2 hB2 hb2 hbw hrep hsrc) | ((with_reducible refine gate_dst (N := 15) rfl ?_); refine Mine.copy_event (Kd.slice 53 k53) rfl (.tmp 10) (.tmp 14) 22 rfl Try.underlying22 sk_size38 rfl rfl HR2.out (by rw [List.length_replicate, Int.toNat_natCast]) rfl HRep.out (fun k h => ⟨Or.inr h, fun e => by have := h.2; have := HBB.out; omega⟩) HSrc.out ?_; intro w3 hR3 hB3; have hB3' := HB2.out.trans (hB3.below (B := w.heap.size) (fun k hk e => by have := HBB.out; omega) HB2.out.size); clear HR2 HRep HSrc zz0 zz1; have y0 := pw_cell_below hB3' z0; have y1 := pw_cell_below hB3' z1; have HR3 := Aside0.mk hR3; have HB3 := Aside0.mk hB3'; clear hR3 hB3 hB3') | ((with_reducible refine gate_dst (N := 22) rfl ?_); refine box_event ?hg (N := 22) ?hd (cs := #[.slice (some ⟨b, 0, none⟩) L.length cap, .int .i64 cost]) (t := 32) ?hr ?_; (case hd => rfl); (case hg => rfl); (case hr => first | (go_simp; done) | (go_simp; rfl)); intro gf hg w4 hbox hb; have GF := Aside0.mk hg; have BX := Aside0.mk hbox; have W4 := Aside0.mk hb; clear hg hbox hb))
  go_ret
  refine ⟨gf, rfl, by rw [GF.out]; exact HB3.out.size, below_step HB3.out W4.out, ⟨_, BX.out, Kd.R_below (Mine.R_more HR3.out (fun k hk h => h.elim (fun h => Or.inr ⟨h, fun e => by have := GF.out; omega⟩) Or.inl)) W4.out⟩, ?_⟩
  rintro (h | h)
  · have := HB3.out.size; have := GF.out; omega
  · exact h.2 rfl
end Go.Proofs.Yteojfjlklikaoaa.M
