-- Laid by a program (wip/tools/myprint.py) out of the loaded program's own print: for each Go function a Lean function and the proof of its contract.
import Derived.Test.YtfahchgglapglaaPbMx0
import Derived.Test.YtfahchgglapglaaPbMx1
import Derived.Test.YtfahchgglapglaaPbMx10
import Derived.Test.YtfahchgglapglaaPbMx11
import Derived.Test.YtfahchgglapglaaPbMx21
namespace Go.Proofs.Ytfahchgglapglaa.M
open Go.RowKit Go.Proofs.YtfahchgglapglaaW.PrintWords Go.Proofs.YtfahchgglapglaaW.PrintLast Go.Proofs.YtfahchgglapglaaW.PrintMore
attribute [local go_sem] max2_int min2_int max_two min_two max_three min_three max_four min_four   -- for this text's walks alone
set_option linter.unusedVariables false
set_option linter.unusedSimpArgs false
-- HAND rounds=True making=True
attribute [local go_sem high] eqA24
/-- A rule that may be. -/
def pbRule (k : Nat) (r : S44) : Prop := 1 ≤ r.f0.f0 ∧ r.f0.f0 ≤ 8 ∧ 0 ≤ r.f0.f1 ∧ r.f0.f1 ≤ 65535 ∧ 1 ≤ r.f1.length ∧ r.f1.length ≤ 16 ∧ r.f2.length ≤ 8 ∧ (∀ y : Int, 0 ≤ y → y < (r.f1.length : Int) → lex_Is.f k (rdOf ByteArray.empty r.f1 y) = some true) ∧ (∀ z : Int, 0 ≤ z → z < (r.f2.length : Int) → 0 ≤ (rd_T46 r.f2 z).f0 ∧ (rd_T46 r.f2 z).f0 ≤ 5 ∧ 1 ≤ (rd_T46 r.f2 z).f1 ∧ (rd_T46 r.f2 z).f1 ≤ 6)
set_option maxHeartbeats 8000000 in
set_option maxRecDepth 100000 in
theorem pb_ok (k : Nat) (a0 : ByteArray) (kd ar at_ : Int) (rs : List S44) (w : World) (hup : fairleadlaw10_awake.f k = some true) (s1 : ¬ (a0.size : Int) > 8192) (hp : parse_Parse.f k a0 = some (kd, ar, rs, 0, at_)) (h1 : 1 ≤ kd) (h8 : kd ≤ 8) (hl : rs.length ≤ 64) (hr : ∀ x : Int, 0 ≤ x → x < (rs.length : Int) → pbRule k (rd_T44 rs x)) :
    Calls Try.prog 8 #[.string a0] w fun e w' => e = .returned (.bool true) ∧ Below w.heap.size w w' := by
  have b1 : decide (8192 < (a0.size : Int)) = false := decide_eq_false (by omega)
  have b2 : decide (8192 < a0.size) = false := decide_eq_false (by omega)
  have b4 : decide (kd < 1) = false := decide_eq_false (by omega)
  have b5 : decide (8 < kd) = false := decide_eq_false (by omega)
  have b6 : decide (64 < (rs.length : Int)) = false := decide_eq_false (by omega)
  have b7 : decide (64 < rs.length) = false := decide_eq_false (by omega)
  have hu27 := Try.underlying27
  have hu24 := Try.underlying24
  have hu44 := Try.underlying44
  have hu46 := Try.underlying46
  have HUP := Aside0.mk hup
  have HP := Aside0.mk hp
  have HR := Aside0.mk hr
  have HL := Aside0.mk hl
  clear hup s1 hp h1 h8 hl hr
  go_enter Try.func8, Try.ntmps8
  go_wp2_with (first | (go_at_call 9; (refine (fairleadlaw10_awake.calls k true _ HUP.out).mono ?_); rintro e w1 ⟨rfl, hB1⟩; have HB1 := Aside0.mk hB1; clear hB1) | (go_at_call 10; (with_reducible refine (parse_Parse.calls k a0 kd ar rs 0 at_ _ HP.out).mono ?_); rintro e w2 ⟨v2_, rfl, hS, hB2⟩; have HB2 := Aside0.mk (HB1.out.trans (hB2.mono HB1.out.size)); obtain ⟨AV, cpv, ev, hcp, hC⟩ := Kd.S_reads hS; subst ev; have HC2 := Aside0.mk hC; have HS2 := Aside0.mk hS; clear hB2 hS hC) | ((with_reducible refine gate_dst (N := 4) rfl ?_); refine box_event ?hg (N := 4) ?hd (cs := #[.int .i64 0, .int .i64 0, .slice none 0 0]) (t := 27) ?hr ?_; (case hd => rfl); (case hg => rfl); (case hr => first | (go_simp; done) | (go_simp; rfl)); intro xb hg w3 hbox hb; have hf_xb := blk_frozen hbox; have xb_0 := (blk_cell hbox 0).trans (show _ = some (.int .i64 0 : Value) from rfl); have xb_1 := (blk_cell hbox 1).trans (show _ = some (.int .i64 0 : Value) from rfl); have xb_2 := (blk_cell hbox 2).trans (show _ = some (.slice none 0 0 : Value) from rfl); have HX := Aside0.mk hbox; have HG := Aside0.mk (show w.heap.size ≤ xb from by rw [hg]; exact HB2.out.size); have HG3 := Aside0.mk (show w2.heap.size ≤ xb from by rw [hg]; exact Nat.le_refl _); have HB32 := Aside0.mk hb; have HB3 := Aside0.mk (HB2.out.trans (hb.mono HB2.out.size)); have HC3 := Aside0.mk (Kd.C_below HC2.out hb); clear hbox hb hg))
  (repeat (go_step3; (try go_wp2)))
  clear b1 b2 b4 b5 b6 b7
  go_loopg [7] rs.length (fun kq v7 w' => ∃ x : Int, v7 = .int .i64 x ∧ Aside0 (0 ≤ x ∧ (kq : Int) + x = (rs.length : Int)) ∧ Aside0 (w'.heap[xb]? = some (.cells #[.int .i64 kd, .int .i64 ar, .slice AV rs.length cpv] 27 (0, 0))) ∧ Aside0 (Kd.C k44 w' AV rs.length rs) ∧ Aside0 (Below w.heap.size w w'))
  case atStart => exact ⟨0, rfl, ⟨⟨by omega, by omega⟩⟩, ⟨(blk_put (cs' := #[.int .i64 kd, .int .i64 ar, .slice AV rs.length cpv]) (blk_put (cs' := #[.int .i64 kd, .int .i64 ar, .slice none 0 0]) (blk_put (cs' := #[.int .i64 kd, .int .i64 0, .slice none 0 0]) HX.out 0 (.int .i64 kd) rfl) 1 (.int .i64 ar) rfl) 2 (.slice AV rs.length cpv) rfl)⟩, ⟨Kd.C_below HC2.out (below_set (g := xb) (j := 2) (v := .slice AV rs.length cpv) (below_set (g := xb) (j := 1) (v := .int .i64 ar) (below_set (g := xb) (j := 0) (v := .int .i64 kd) HB32.out HG3.out) HG3.out) HG3.out)⟩, ⟨(below_set (g := xb) (j := 2) (v := .slice AV rs.length cpv) (below_set (g := xb) (j := 1) (v := .int .i64 ar) (below_set (g := xb) (j := 0) (v := .int .i64 kd) HB3.out HG.out) HG.out) HG.out)⟩⟩
  case round =>
    obtain ⟨wo, hwo⟩ : ∃ z_, z_ = wr := ⟨wr, rfl⟩
    subst hwo
    obtain ⟨x, rfl, HI, HBX, HC, HB⟩ := hrel
    clear HX HC3 HB3 xb_0 xb_1 xb_2 hf_xb
    have hx0 := HI.out.1
    have t0 := (blk_cell HBX.out 0).trans (show _ = some (.int .i64 kd : Value) from rfl); have t1 := (blk_cell HBX.out 1).trans (show _ = some (.int .i64 ar : Value) from rfl); have t2 := (blk_cell HBX.out 2).trans (show _ = some (.slice AV rs.length cpv : Value) from rfl)
    have hft := blk_frozen HBX.out
    cases gk with
    | zero =>
      have d1 : decide (x < (rs.length : Int)) = false := decide_eq_false (by have := HI.out.2; omega)
      clear hx0
      go_wp2
      go_ret
      exact ⟨rfl, HB.out⟩
    | succ k1 =>
      have hx1 : x < (rs.length : Int) := by have := HI.out.2; omega
      have d1 : decide (x < (rs.length : Int)) = true := decide_eq_true hx1
      have pbR := Aside0.mk (HR.out x hx0 hx1)
      obtain ⟨g1, g2, g3, g4, g5, g6, g7, _, _⟩ := pbR.out
      have e1 : decide ((rd_T44 rs x).f0.f0 < 1) = false := decide_eq_false (by omega)
      have e2 : decide (8 < (rd_T44 rs x).f0.f0) = false := decide_eq_false (by omega)
      have e3 : decide ((rd_T44 rs x).f0.f1 < 0) = false := decide_eq_false (by omega)
      have e4 : decide (65535 < (rd_T44 rs x).f0.f1) = false := decide_eq_false (by omega)
      have e5 : decide (((rd_T44 rs x).f1.length : Int) < 1) = false := decide_eq_false (by omega)
      have e6 : decide (16 < ((rd_T44 rs x).f1.length : Int)) = false := decide_eq_false (by omega)
      have e7 : decide (16 < (rd_T44 rs x).f1.length) = false := decide_eq_false (by omega)
      have e8 : decide (8 < ((rd_T44 rs x).f2.length : Int)) = false := decide_eq_false (by omega)
      have e9 : decide (8 < (rd_T44 rs x).f2.length) = false := decide_eq_false (by omega)
      have e10 : ((rd_T44 rs x).f1.length == 0) = false := beq_eq_false_iff_ne.2 (by omega)
      have e11 : ¬ (rd_T44 rs x).f1.length = 0 := by omega
      have e12 : decide ((rd_T44 rs x).f1.length = 0) = false := decide_eq_false e11
      clear g1 g2 g3 g4 g5 g6 g7
      obtain ⟨ad, A2, c2, A3, c3, e_, r0, r1, r2, r3, l2_, i2_, l3_, i3_⟩ := at_T44 HC.out x hx0 hx1
      have HI2 := Aside0.mk i2_
      have HI3 := Aside0.mk i3_
      have HL2 := Aside0.mk l2_
      have HL3 := Aside0.mk l3_
      cases e_
      clear i2_ i3_ l2_ l3_
      replace hx0 := eq_true hx0
      replace hx1 := eq_true hx1
      go_wp2
      (repeat (go_step3; (try go_wp2)))
      clear e1 e2 e3 e4 e5 e6 e7 e8 e9 e10 e11 e12 d1 hx0 hx1 t0 t1 t2 hft
      go_loopg [9] (rd_T44 rs x).f1.length (fun kq v9 w' => ∃ y : Int, v9 = .int .i64 y ∧ Aside0 (0 ≤ y ∧ (kq : Int) + y = ((rd_T44 rs x).f1.length : Int)) ∧ Aside0 (w'.heap[(wo.heap.size)]? = some (.cells #[.int .i64 (rd_T44 rs x).f0.f0, .int .i64 (rd_T44 rs x).f0.f1, .slice A2 (rd_T44 rs x).f1.length c2, .slice A3 (rd_T44 rs x).f2.length c3] 44 (0, 0))) ∧ Aside0 (Below wo.heap.size wo w'))
      case atStart => exact ⟨0, rfl, ⟨⟨by omega, by omega⟩⟩, ⟨blk_new _ _⟩, ⟨below_alloc (Below.refl _ _) _⟩⟩
      case round =>
        obtain ⟨y, rfl, HY, HRB', HBo⟩ := hrel
        clear r0 r1 r2 r3
        have HRB := HRB'
        clear HRB'
        have hy0 := HY.out.1
        have t0 := (blk_cell HRB.out 0).trans (show _ = some (.int .i64 (rd_T44 rs x).f0.f0 : Value) from rfl); have t1 := (blk_cell HRB.out 1).trans (show _ = some (.int .i64 (rd_T44 rs x).f0.f1 : Value) from rfl); have t2 := (blk_cell HRB.out 2).trans (show _ = some (.slice A2 (rd_T44 rs x).f1.length c2 : Value) from rfl); have t3 := (blk_cell HRB.out 3).trans (show _ = some (.slice A3 (rd_T44 rs x).f2.length c3 : Value) from rfl)
        have hft := blk_frozen HRB.out
        cases gk with
        | zero =>
          have d1 : decide (y < ((rd_T44 rs x).f1.length : Int)) = false := decide_eq_false (by have := HY.out.2; omega)
          clear hy0
          go_wp2
          clear t0 t1 t2 t3 hft d1
          go_loopg [11] (rd_T44 rs x).f2.length (fun kq v11 w' => ∃ z : Int, v11 = .int .i64 z ∧ Aside0 (0 ≤ z ∧ (kq : Int) + z = ((rd_T44 rs x).f2.length : Int)) ∧ Aside0 (w'.heap[(wo.heap.size)]? = some (.cells #[.int .i64 (rd_T44 rs x).f0.f0, .int .i64 (rd_T44 rs x).f0.f1, .slice A2 (rd_T44 rs x).f1.length c2, .slice A3 (rd_T44 rs x).f2.length c3] 44 (0, 0))) ∧ Aside0 (Below wo.heap.size wo w'))
          case atStart => exact ⟨0, rfl, ⟨⟨by omega, by omega⟩⟩, ⟨by first | exact HRB.out | (go_simp; exact HRB.out)⟩, ⟨HBo.out⟩⟩
          case round =>
            obtain ⟨z, rfl, HZ, HRB', HBo'⟩ := hrel
            clear HRB HBo
            have HRB := HRB'
            have HBo := HBo'
            clear HRB' HBo'
            have hz0 := HZ.out.1
            have t0 := (blk_cell HRB.out 0).trans (show _ = some (.int .i64 (rd_T44 rs x).f0.f0 : Value) from rfl); have t1 := (blk_cell HRB.out 1).trans (show _ = some (.int .i64 (rd_T44 rs x).f0.f1 : Value) from rfl); have t2 := (blk_cell HRB.out 2).trans (show _ = some (.slice A2 (rd_T44 rs x).f1.length c2 : Value) from rfl); have t3 := (blk_cell HRB.out 3).trans (show _ = some (.slice A3 (rd_T44 rs x).f2.length c3 : Value) from rfl)
            have hft := blk_frozen HRB.out
            cases gk with
            | zero =>
              have d1 : decide (z < ((rd_T44 rs x).f2.length : Int)) = false := decide_eq_false (by have := HZ.out.2; omega)
              clear hz0
              go_wp2
              go_roundg k1
              case measure => omega
              case rel => exact ⟨wrap64 (x + 1), by first | rfl | (simp; done), ⟨by have h_ := HI.out; have hl_ := HL.out; unfold wrap64; omega⟩, ⟨blk_below HBX.out HBo.out⟩, ⟨Kd.C_below HC.out HBo.out⟩, ⟨HB.out.trans (HBo.out.mono HB.out.size)⟩⟩
            | succ k3 =>
              have hz1 : z < ((rd_T44 rs x).f2.length : Int) := by have := HZ.out.2; omega
              have d1 : decide (z < ((rd_T44 rs x).f2.length : Int)) = true := decide_eq_true hz1
              have hcc := (pbR.out.2.2.2.2.2.2.2.2 z hz0 hz1)
              have e1 : decide ((rd_T46 (rd_T44 rs x).f2 z).f0 < 0) = false := decide_eq_false (by omega)
              have e2 : decide (5 < (rd_T46 (rd_T44 rs x).f2 z).f0) = false := decide_eq_false (by omega)
              have e3 : decide ((rd_T46 (rd_T44 rs x).f2 z).f1 < 1) = false := decide_eq_false (by omega)
              have e4 : decide (6 < (rd_T46 (rd_T44 rs x).f2 z).f1) = false := decide_eq_false (by omega)
              clear hcc
              obtain ⟨ad3, e_, q0, q1, q2, q3⟩ := at_T46 HI3.out z hz0 hz1
              cases e_
              replace q0 := (HBo.out.cell (World.block_lt_of_cell? wo _ q0)).trans q0; replace q1 := (HBo.out.cell (World.block_lt_of_cell? wo _ q1)).trans q1; replace q2 := (HBo.out.cell (World.block_lt_of_cell? wo _ q2)).trans q2; replace q3 := (HBo.out.cell (World.block_lt_of_cell? wo _ q3)).trans q3
              replace hz0 := eq_true hz0
              replace hz1 := eq_true hz1
              go_wp2
              (repeat (go_step3; (try go_wp2)))
              go_roundg k3
              case measure => omega
              case rel => exact ⟨wrap64 (z + 1), by first | rfl | (simp; done), ⟨by have h_ := HZ.out; have hl_ := pbR.out.2.2.2.2.2.2.1; unfold wrap64; omega⟩, ⟨blk_alloc HRB.out _⟩, ⟨below_alloc HBo.out _⟩⟩
        | succ k2 =>
          have hy1 : y < ((rd_T44 rs x).f1.length : Int) := by have := HY.out.2; omega
          have d1 : decide (y < ((rd_T44 rs x).f1.length : Int)) = true := decide_eq_true hy1
          have HIS := Aside0.mk (pbR.out.2.2.2.2.2.2.2.1 y hy0 hy1)
          obtain ⟨ad2, e_, q0⟩ := Kd.at_string HI2.out y hy0 hy1
          cases e_
          replace q0 := (HBo.out.cell (World.block_lt_of_cell? wo _ q0)).trans q0
          replace hy0 := eq_true hy0
          replace hy1 := eq_true hy1
          go_wp2_with (first | (go_at_call 14; (with_reducible refine (lex_Is.calls k _ true _ HIS.out).mono ?_); rintro e w5 ⟨rfl, hb⟩; have HB5 := Aside0.mk (HBo.out.trans (hb.mono HBo.out.size)); have HRB5 := Aside0.mk (blk_below HRB.out hb); clear hb))
          (repeat (go_step3; (try go_wp2)))
          go_roundg k2
          case measure => omega
          case rel => exact ⟨wrap64 (y + 1), by first | rfl | (simp; done), ⟨by have h_ := HY.out; have hl_ := pbR.out.2.2.2.2.2.1; unfold wrap64; omega⟩, ⟨HRB5.out⟩, ⟨HB5.out⟩⟩
set_option maxHeartbeats 8000000 in
set_option maxRecDepth 100000 in
theorem pb_big (k : Nat) (a0 : ByteArray) (w : World) (hup : fairleadlaw10_awake.f k = some true) (s1 : (a0.size : Int) > 8192) :
    Calls Try.prog 8 #[.string a0] w fun e w' => e = .returned (.bool true) ∧ Below w.heap.size w w' := by
  have b1 : decide (8192 < (a0.size : Int)) = true := decide_eq_true s1
  have b2 : decide (8192 < a0.size) = true := decide_eq_true (by omega)
  have HUP := Aside0.mk hup
  clear hup s1
  go_enter Try.func8, Try.ntmps8
  go_wp2_with (first | (go_at_call 9; (refine (fairleadlaw10_awake.calls k true _ HUP.out).mono ?_); rintro e w1 ⟨rfl, hB1⟩; have HB1 := Aside0.mk hB1; clear hB1))
  (repeat (go_step3; (try go_wp2)))
  go_ret
  exact ⟨rfl, HB1.out⟩
set_option maxHeartbeats 8000000 in
set_option maxRecDepth 100000 in
theorem pb_err (k : Nat) (a0 : ByteArray) (e at_ : Int) (w : World) (hup : fairleadlaw10_awake.f k = some true) (s1 : ¬ (a0.size : Int) > 8192) (hp : parse_Parse.f k a0 = some (0, 0, [], e, at_)) (he : e ≠ 0) (h0 : 0 ≤ at_) (h1 : at_ ≤ (a0.size : Int)) :
    Calls Try.prog 8 #[.string a0] w fun e w' => e = .returned (.bool true) ∧ Below w.heap.size w w' := by
  have b1 : decide (8192 < (a0.size : Int)) = false := decide_eq_false (by omega)
  have b2 : decide (8192 < a0.size) = false := decide_eq_false (by omega)
  have b3 : (e != 0) = true := bne_iff_ne.2 he
  have b4 : decide (0 ≤ at_) = true := decide_eq_true h0
  have b5 : decide (at_ ≤ (a0.size : Int)) = true := decide_eq_true h1
  have hu27 := Try.underlying27
  have hu24 := Try.underlying24
  have HUP := Aside0.mk hup
  have HP := Aside0.mk hp
  clear hup s1 hp he h0 h1
  go_enter Try.func8, Try.ntmps8
  go_wp2_with (first | (go_at_call 9; (refine (fairleadlaw10_awake.calls k true _ HUP.out).mono ?_); rintro e w1 ⟨rfl, hB1⟩; have HB1 := Aside0.mk hB1; clear hB1) | (go_at_call 10; (with_reducible refine (parse_Parse.calls k a0 0 0 [] e at_ _ HP.out).mono ?_); rintro e w2 ⟨v2_, rfl, hS, hB2⟩; have HB2 := Aside0.mk (HB1.out.trans (hB2.mono HB1.out.size)); obtain ⟨AV, cpv, ev, hcp, hC⟩ := Kd.S_reads hS; subst ev; have HC2 := Aside0.mk hC; have HS2 := Aside0.mk hS; clear hB2 hS hC) | ((with_reducible refine gate_dst (N := 4) rfl ?_); refine box_event ?hg (N := 4) ?hd (cs := #[.int .i64 0, .int .i64 0, .slice none 0 0]) (t := 27) ?hr ?_; (case hd => rfl); (case hg => rfl); (case hr => first | (go_simp; done) | (go_simp; rfl)); intro xb hg w3 hbox hb; have HX := Aside0.mk hbox; have HG := Aside0.mk hg; have HB3 := Aside0.mk (HB2.out.trans (hb.mono HB2.out.size)); have hfx := blk_frozen hbox; have x0 := (blk_cell hbox 0).trans (show _ = some (.int .i64 0 : Value) from rfl); have x1 := (blk_cell hbox 1).trans (show _ = some (.int .i64 0 : Value) from rfl); have x2 := (blk_cell hbox 2).trans (show _ = some (.slice none 0 0 : Value) from rfl); have HC3 := Aside0.mk (Kd.C_below HC2.out hb); clear hbox hb hg))
  (repeat (go_step3; (try go_wp2)))
  go_ret
  exact ⟨rfl, (below_set (g := xb) (j := 2) (v := .slice AV 0 cpv) (below_set (g := xb) (j := 1) (v := .int .i64 0) (below_set (g := xb) (j := 0) (v := .int .i64 0) HB3.out (show w.heap.size ≤ xb from by rw [HG.out]; exact HB2.out.size)) (show w.heap.size ≤ xb from by rw [HG.out]; exact HB2.out.size)) (show w.heap.size ≤ xb from by rw [HG.out]; exact HB2.out.size))⟩
open Classical in
noncomputable def fairleadlaw10_ParseBounds.f (k : Nat) (a0 : ByteArray) : Option Bool := (fairleadlaw10_awake.f k).bind fun up => if up = true then (if (a0.size : Int) > 8192 then some true else ((parse_Parse.f k a0).bind fun x => if x.2.2.2.1 = 0 then (if 1 ≤ x.1 ∧ x.1 ≤ 8 ∧ x.2.2.1.length ≤ 64 ∧ (∀ j : Int, 0 ≤ j → j < (x.2.2.1.length : Int) → pbRule k (rd_T44 x.2.2.1 j)) then some true else none) else (if x.1 = 0 ∧ x.2.1 = 0 ∧ x.2.2.1 = [] ∧ 0 ≤ x.2.2.2.2 ∧ x.2.2.2.2 ≤ (a0.size : Int) then some true else none))) else none
theorem fairleadlaw10_ParseBounds.calls (k : Nat) (a0 : ByteArray) (r : Bool) (w : World) (h : fairleadlaw10_ParseBounds.f k a0 = some r) :
    Calls Try.prog 8 #[.string a0] w fun e w' => e = .returned (.bool r) ∧ Below w.heap.size w w' := by
  unfold fairleadlaw10_ParseBounds.f at h
  obtain ⟨up, hup, h⟩ := Option.bind_eq_some_iff.mp h
  cases up with
  | false => rw [if_neg (by decide)] at h; cases h
  | true =>
    rw [if_pos rfl] at h
    by_cases s1 : (a0.size : Int) > 8192
    · rw [if_pos s1] at h
      obtain rfl := Option.some.inj h
      exact pb_big k a0 w hup s1
    · rw [if_neg s1] at h
      obtain ⟨⟨kd, ar, rs, e, at_⟩, hp, h⟩ := Option.bind_eq_some_iff.mp h
      dsimp only at h
      by_cases he : e = 0
      · subst he
        rw [if_pos rfl] at h
        split at h
        · rename_i hc
          obtain rfl := Option.some.inj h
          exact pb_ok k a0 kd ar at_ rs w hup s1 hp hc.1 hc.2.1 hc.2.2.1 hc.2.2.2
        · cases h
      · rw [if_neg he] at h
        split at h
        · rename_i hc
          obtain rfl := Option.some.inj h
          obtain ⟨rfl, rfl, rfl, h0, h1⟩ := hc
          exact pb_err k a0 e at_ w hup s1 hp he h0 h1
        · cases h
def fairleadlaw10_ParseBounds.Pure : Prop := ∀ (a0 : ByteArray), (a0.size ≤ 9223372036854775807) → ∃ k, fairleadlaw10_ParseBounds.f k a0 = some true
end Go.Proofs.Ytfahchgglapglaa.M
