-- Laid by a program (wip/tools/myprint.py) out of the loaded program's own print: for each Go function a Lean function and the proof of its contract.
import Derived.Test.YtfahchgglapglaaQMx0
import Derived.Test.YtfahchgglapglaaQMx5
import Derived.Test.YtfahchgglapglaaQMx6
import Derived.Test.YtfahchgglapglaaQMx8
namespace Go.Proofs.Ytfahchgglapglaa.M
open Go.RowKit Go.Proofs.YtfahchgglapglaaW.PrintWords Go.Proofs.YtfahchgglapglaaW.PrintLast Go.Proofs.YtfahchgglapglaaW.PrintMore
attribute [local go_sem] max2_int min2_int max_two min_two max_three min_three max_four min_four   -- for this text's walks alone
set_option linter.unusedVariables false
set_option linter.unusedSimpArgs false
-- HAND rounds=True making=True
open Mine
theorem IsRd.grown {w0 w w1 : World} {g : Nat} {L : List S39} {n : Int} (h : IsRd w0 w g L n) {row : Option Nat} (hg : w.grownBy w1 row) (hne : some g ≠ row) (hb : Below w0.heap.size w0 w1) : IsRd w0 w1 g L n := by
 obtain ⟨A0, c0, h1, h2, h3, h4⟩ := h
 exact ⟨A0, c0, blk_grown h1 hg hne, h2, h3, hb⟩
/-- A rule's end. -/
def parse_rule.e (L : List S39) (n kd ar : Int) (ns : List ByteArray) (cs : List S46) : Option (PRes (S44 × Int)) :=
 if 0 ≤ n ∧ n < (L.length : Int) then (if ((rd_T39 L n).f0 = 3 ∧ (rd_T39 L n).f2.toList = (⟨#[59]⟩ : ByteArray).toList) then some (.ok (⟨⟨kd, ar⟩, ns, cs⟩, wrap64 (n + 1))) else some (.bad 7 (rd_T39 L n).f1)) else none
/-- A rule's conditions. -/
def parse_rule.l1 : Nat → List S39 → Bool → Int → Int → Int → List ByteArray → List S46 → Option (PRes (S44 × Int))
 | 0, _, _, _, _, _, _, _ => none
 | k + 1, L, b, n, kd, ar, ns, cs => if b = true then (if cs.length < 1000 then (parse_cond.f k L n (decide ((cs.length : Int) < 8))).bind fun r => match r with
   | .bad e p => some (.bad e p)
   | .ok (a, o, m, v, n1) => if 0 ≤ n1 ∧ n1 < (L.length : Int) then parse_rule.l1 k L (decide ((rd_T39 L n1).f0 = 1 ∧ (rd_T39 L n1).f2.toList = (⟨#[97, 110, 100]⟩ : ByteArray).toList)) (if ((rd_T39 L n1).f0 = 1 ∧ (rd_T39 L n1).f2.toList = (⟨#[97, 110, 100]⟩ : ByteArray).toList) then wrap64 (n1 + 1) else n1) kd ar ns (cs ++ [⟨a, o, m, v⟩]) else none
  else none) else parse_rule.e L n kd ar ns cs
/-- Behind a rule's names. -/
def parse_rule.g (k : Nat) (L : List S39) (n kd ar : Int) (ns : List ByteArray) : Option (PRes (S44 × Int)) :=
 if 0 ≤ n ∧ n < (L.length : Int) then (if ((rd_T39 L n).f0 = 1 ∧ (rd_T39 L n).f2.toList = (⟨#[119, 104, 101, 110]⟩ : ByteArray).toList) then parse_rule.l1 k L true (wrap64 (n + 1)) kd ar ns [] else parse_rule.e L n kd ar ns []) else none
/-- A rule's names. -/
def parse_rule.l0 : Nat → List S39 → Bool → Int → Int → Int → List ByteArray → Option (PRes (S44 × Int))
 | 0, _, _, _, _, _, _ => none
 | k + 1, L, b, n, kd, ar, ns => if b = true then (if 0 ≤ n ∧ n < (L.length : Int) then
   (if (rd_T39 L n).f0 = 1 then (if ns.length = 16 then some (.bad 4 (rd_T39 L n).f1) else if ns.length < 1000 ∧ 0 ≤ (wrap64 (n + 1)) ∧ (wrap64 (n + 1)) < (L.length : Int) then
     parse_rule.l0 k L (decide ((rd_T39 L (wrap64 (n + 1))).f0 = 3 ∧ (rd_T39 L (wrap64 (n + 1))).f2.toList = (⟨#[44]⟩ : ByteArray).toList)) (if ((rd_T39 L (wrap64 (n + 1))).f0 = 3 ∧ (rd_T39 L (wrap64 (n + 1))).f2.toList = (⟨#[44]⟩ : ByteArray).toList) then (wrap64 ((wrap64 (n + 1)) + 1)) else (wrap64 (n + 1))) kd ar (ns ++ [(rd_T39 L n).f2]) else none)
    else some (.bad 7 (rd_T39 L n).f1)) else none)
  else parse_rule.g k L n kd ar ns
def parse_rule.f (k : Nat) (L : List S39) (n : Int) (room : Bool) : Option (PRes (S44 × Int)) := (parse_act.f L n room).bind fun r => match r with
 | .bad e p => some (.bad e p)
 | .ok (kd, ar, n1) => parse_rule.l0 k L true n1 kd ar []
/-- How a rule's reading ends. -/
def prRule (w0 w : World) (g : Nat) (L : List S39) (res : PRes (S44 × Int)) (e : Ending) (w' : World) : Prop := One g w w' ∧ match res with
 | .ok v => ∃ vn vc, e = .returned (.agg #[.int .i64 v.1.f0.f0, .int .i64 v.1.f0.f1, vn, vc]) ∧ Kd.R Kd.string 9 w' w0.heap.size (fun k => k ≠ g ∧ w.heap.size ≤ k) vn v.1.f1 ∧ k46.R 46 w' w0.heap.size (fun k => k ≠ g ∧ w.heap.size ≤ k) vc v.1.f2 ∧ IsRd w0 w' g L v.2
 | .bad er at_ => e = prPanic er at_
set_option maxHeartbeats 60000000 in
set_option maxRecDepth 100000 in
theorem parse_reader_rule.calls (k : Nat) (g : Nat) (L : List S39) (n : Int) (room : Bool) (res : PRes (S44 × Int)) (w0 w : World) (h : IsRd w0 w g L n) (H : parse_rule.f k L n room = some res) :
  Calls Try.prog 20 #[.pointer (some ⟨g, 0, none⟩), .bool room] w (prRule w0 w g L res) := by
 have hu := Try.underlying39
 have hu44 := Try.underlying44
 have hu46 := Try.underlying46
 have hfd := fun (cs_ : Array Value) (j_ : Nat) (w_ : World) => Mine.run_field (P := Try.prog) Try.underlying39 cs_ j_ w_
 have hL := am h
 have HO := am (One.refl g w)
 clear h
 obtain ⟨r1, A1, H⟩ := Option.bind_eq_some_iff.mp H
 have A1 := am A1
 cases r1 with
 | bad er p =>
  obtain rfl := Option.some.inj H
  clear H
  go_enter Try.func20, Try.ntmps20
  go_wp2_with (first | ((with_reducible refine gate_dst (N := 4) rfl ?_); refine box_event rfl (N := 4) rfl (cs := #[.int .i64 0, .int .i64 0, .slice none 0 0, .slice none 0 0]) (t := 44) (by first | (go_simp; done) | (go_simp; rfl)) ?_; intro gr hg w1 hbox hb; have NG_gr := am (show gr ≠ g from by rw [hg]; exact Nat.ne_of_gt (IsRd.lt hL.out)); have GT_gr := am (show w.heap.size ≤ gr from by rw [hg]; exact (One.size HO.out)); have GW_gr := am (show w0.heap.size ≤ gr from by rw [hg]; exact (Below.size (IsRd.w0 hL.out))); have L1 := am (IsRd.below hL.out hb); have O1 := am (One.below HO.out hb); have B1_gr := am hbox; obtain ⟨c1_gr_0, c1_gr_1, c1_gr_2, c1_gr_3⟩ := cl4 B1_gr; have f1_gr := fun j => blk_frozen B1_gr.out j; have q1 := L1.out.c1; have r1 := L1.out.fr 1; have m1_gr := NG_gr.out; have m2_gr := Ne.symm NG_gr.out; clear hbox hb hg) | (go_at_call 18; (refine (parse_reader_act.calls g L n room _ w0 _ L1.out A1.out).mono ?_); rintro e w9 ⟨hO_, he⟩; obtain rfl : e = .panicked [{ v := .iface 48 (.agg #[.int .i64 er, .int .i64 p]), recovered := false }] := he; have HF := am (One.trans O1.out hO_); clear hO_))
  exact ⟨rfl, HF.out, rfl⟩
 | ok v1 =>
  obtain ⟨kd, ar, n1⟩ := v1
  have H' : Aside0 (parse_rule.l0 k L true n1 kd ar [] = some res) := ⟨H⟩
  clear H
  go_enter Try.func20, Try.ntmps20
  go_wp2_with (first | ((with_reducible refine gate_dst (N := 4) rfl ?_); refine box_event rfl (N := 4) rfl (cs := #[.int .i64 0, .int .i64 0, .slice none 0 0, .slice none 0 0]) (t := 44) (by first | (go_simp; done) | (go_simp; rfl)) ?_; intro gr hg w1 hbox hb; have NG_gr := am (show gr ≠ g from by rw [hg]; exact Nat.ne_of_gt (IsRd.lt hL.out)); have GT_gr := am (show w.heap.size ≤ gr from by rw [hg]; exact (One.size HO.out)); have GW_gr := am (show w0.heap.size ≤ gr from by rw [hg]; exact (Below.size (IsRd.w0 hL.out))); have L1 := am (IsRd.below hL.out hb); have O1 := am (One.below HO.out hb); have B1_gr := am hbox; obtain ⟨c1_gr_0, c1_gr_1, c1_gr_2, c1_gr_3⟩ := cl4 B1_gr; have f1_gr := fun j => blk_frozen B1_gr.out j; have q1 := L1.out.c1; have r1 := L1.out.fr 1; have m1_gr := NG_gr.out; have m2_gr := Ne.symm NG_gr.out; clear hbox hb hg) | (go_at_call 18; (refine (parse_reader_act.calls g L n room _ w0 _ L1.out A1.out).mono ?_); rintro e w2 ⟨hO_, he, hR_⟩; obtain rfl : e = .returned (.agg #[.int .i64 kd, .int .i64 ar]) := he; have B2_gr := am (One.blk hO_ B1_gr.out NG_gr.out); have L2 := am (hR_); have O2 := am (One.trans O1.out hO_); clear L1 O1 B1_gr c1_gr_0 c1_gr_1 c1_gr_2 c1_gr_3 f1_gr q1 r1; obtain ⟨c2_gr_0, c2_gr_1, c2_gr_2, c2_gr_3⟩ := cl4 B2_gr; have f2_gr := fun j => blk_frozen B2_gr.out j; have q2 := L2.out.c1; have r2 := L2.out.fr 1; clear hO_ hR_) | ((with_reducible refine gate_dst (N := 5) rfl ?_); refine box_event rfl (N := 5) rfl (cs := #[.int .i64 0, .int .i64 0, .slice none 0 0, .slice none 0 0]) (t := 44) (by first | (go_simp; done) | (go_simp; rfl)) ?_; intro gx hg w3 hbox hb; have NG_gx := am (show gx ≠ g from by rw [hg]; exact Nat.ne_of_gt (IsRd.lt L2.out)); have NE_gx_gr := am (show gx ≠ gr from by rw [hg]; exact Nat.ne_of_gt (blk_lt B2_gr.out)); have GT_gx := am (show w.heap.size ≤ gx from by rw [hg]; exact (One.size O2.out)); have GW_gx := am (show w0.heap.size ≤ gx from by rw [hg]; exact (Below.size (IsRd.w0 L2.out))); have B3_gr := am (blk_below B2_gr.out hb); have L3 := am (IsRd.below L2.out hb); have O3 := am (One.below O2.out hb); have B3_gx := am hbox; clear L2 O2 B2_gr c2_gr_0 c2_gr_1 c2_gr_2 c2_gr_3 f2_gr q2 r2; obtain ⟨c3_gr_0, c3_gr_1, c3_gr_2, c3_gr_3⟩ := cl4 B3_gr; have f3_gr := fun j => blk_frozen B3_gr.out j; obtain ⟨c3_gx_0, c3_gx_1, c3_gx_2, c3_gx_3⟩ := cl4 B3_gx; have f3_gx := fun j => blk_frozen B3_gx.out j; have q3 := L3.out.c1; have r3 := L3.out.fr 1; have m1_gx := NG_gx.out; have m2_gx := Ne.symm NG_gx.out; have m3_gx_gr := NE_gx_gr.out; have m4_gx_gr := Ne.symm NE_gx_gr.out; clear hbox hb hg))
  go_loopg [6] k (fun kq v6 w' => ∃ (b : Bool) (m : Int) (acc : List ByteArray) (vn : Value), v6 = .bool b ∧ Aside0 (parse_rule.l0 kq L b m kd ar acc = some res) ∧ Aside0 (IsRd w0 w' g L m) ∧ Aside0 (One g w w') ∧ Aside0 (w'.heap[gr]? = some (.cells #[.int .i64 0, .int .i64 0, .slice none 0 0, .slice none 0 0] 44 (0, 0))) ∧ Aside0 (w'.heap[gx]? = some (.cells #[.int .i64 kd, .int .i64 ar, vn, .slice none 0 0] 44 (0, 0))) ∧ Aside0 (Kd.R Kd.string 9 w' w0.heap.size (fun k => k ≠ g ∧ k ≠ gr ∧ k ≠ gx ∧ w.heap.size ≤ k) vn acc))
  case atStart => exact ⟨true, n1, [], .slice none 0 0, rfl, H', ⟨(IsRd.far4 L3.out NG_gx.out GW_gx.out _ _ _ _)⟩, ⟨(One.put4 O3.out GT_gx.out _ _ _ _)⟩, ⟨(blk_far4 B3_gr.out (Ne.symm NE_gx_gr.out) _ _ _ _)⟩, ⟨(blk_put4 B3_gx.out _ _ _ _)⟩, ⟨Kd.R_nil _ _ _ _ _⟩⟩
  case round =>
   clear H' A1
   try clear c3_gr_0 c3_gr_1 c3_gr_2 c3_gr_3 f3_gr c3_gx_0 c3_gx_1 c3_gx_2 c3_gx_3 f3_gx q3 r3 L3 O3 B3_gr B3_gx
   obtain ⟨b, m, acc, vn, rfl, HA, yL, yO, yBr, yBx, yN⟩ := hrel
   obtain ⟨Av, cv, rfl⟩ := Kd.R_slice yN.out
   cases gk with
   | zero => exact absurd HA.out (by simp [parse_rule.l0])
   | succ k1 =>
    have H := HA.out
    clear HA
    rw [parse_rule.l0.eq_2] at H
    have c20_gx_2 := (blk_cell yBx.out 2).trans (show _ = some (.slice Av acc.length cv : Value) from rfl)
    cases b with
    | true =>
     rw [if_pos rfl] at H
     by_cases hm : 0 ≤ m ∧ m < (L.length : Int)
     ·rw [if_pos hm] at H
      have h0 := hm.1
      have h1 := hm.2
      clear hm
      by_cases hk : (rd_T39 L m).f0 = 1
      ·rw [if_pos hk] at H
       have a1 := beq_iff_eq.mpr hk
       by_cases h16 : acc.length = 16
       ·rw [if_pos h16] at H
        obtain rfl := Option.some.inj H
        have a2 : ((acc.length : Int) == 16) = true := beq_iff_eq.mpr (by omega)
        clear H hk h16
        go_wp2_with (first | (go_at_call 19; (refine (parse_reader_now.calls g L m w0 _ yL.out h0 h1).mono ?_); rintro e w21 ⟨rfl, hb⟩; have B21_gr := am (blk_below yBr.out hb); have B21_gx := am (blk_below yBx.out hb); have L21 := am (IsRd.below yL.out hb); have O21 := am (One.below yO.out hb); have R21_ns := am (Kd.R_below yN.out hb); clear yL yO yBr yBx yN; obtain ⟨c21_gr_0, c21_gr_1, c21_gr_2, c21_gr_3⟩ := cl4 B21_gr; have f21_gr := fun j => blk_frozen B21_gr.out j; obtain ⟨c21_gx_0, c21_gx_1, c21_gx_2, c21_gx_3⟩ := cl4 B21_gx; have f21_gx := fun j => blk_frozen B21_gx.out j; have q21 := L21.out.c1; have r21 := L21.out.fr 1; clear hb) | (go_at_call 17; (refine (parse_reader_fail.calls g L m 4 w0 _ L21.out h0 h1).mono ?_); rintro e w9 ⟨he, hb⟩; obtain rfl : e = .panicked [{ v := .iface 48 (.agg #[.int .i64 4, .int .i64 (rd_T39 L m).f1]), recovered := false }] := he; have HF := am (One.below O21.out hb); clear hb))
        exact ⟨rfl, HF.out, rfl⟩
       ·rw [if_neg h16] at H
        have a2 : ((acc.length : Int) == 16) = false := beq_eq_false_iff_ne.mpr (by omega)
        by_cases hl : acc.length < 1000 ∧ 0 ≤ (wrap64 (m + 1)) ∧ (wrap64 (m + 1)) < (L.length : Int)
        ·rw [if_pos hl] at H
         have hlen := am hl.1
         have h2 := hl.2.1
         have h3 := hl.2.2
         have A2 : Aside0 (parse_must.f L m 1 = some (.ok ((rd_T39 L m), (wrap64 (m + 1))))) := ⟨by unfold parse_must.f; rw [if_pos ⟨h0, h1⟩, if_pos hk]⟩
         clear hl hk h16
         by_cases hc : ((rd_T39 L (wrap64 (m + 1))).f0 = 3 ∧ (rd_T39 L (wrap64 (m + 1))).f2.toList = (⟨#[44]⟩ : ByteArray).toList)
         ·rw [if_pos hc, decide_eq_true hc] at H
          have H' := am H
          have A3 : Aside0 (prTake L (wrap64 (m + 1)) 3 ⟨#[44]⟩ true) := ⟨.inl ⟨rfl, hc.1, hc.2⟩⟩
          clear H hc
          go_wp2_with (first | (go_at_call 19; (refine (parse_reader_now.calls g L m w0 _ yL.out h0 h1).mono ?_); rintro e w21 ⟨rfl, hb⟩; have B21_gr := am (blk_below yBr.out hb); have B21_gx := am (blk_below yBx.out hb); have L21 := am (IsRd.below yL.out hb); have O21 := am (One.below yO.out hb); have R21_ns := am (Kd.R_below yN.out hb); clear yL yO yBr yBx yN; obtain ⟨c21_gr_0, c21_gr_1, c21_gr_2, c21_gr_3⟩ := cl4 B21_gr; have f21_gr := fun j => blk_frozen B21_gr.out j; obtain ⟨c21_gx_0, c21_gx_1, c21_gx_2, c21_gx_3⟩ := cl4 B21_gx; have f21_gx := fun j => blk_frozen B21_gx.out j; have q21 := L21.out.c1; have r21 := L21.out.fr 1; clear hb))
          have B22_gr := am (blk_drew B21_gr.out)
          have B22_gx := am (blk_drew B21_gx.out)
          have L22 := am (IsRd.drew L21.out)
          have O22 := am (One.drew O21.out)
          have R22_ns := am (Kd.R_drew R21_ns.out)
          clear L21 O21 B21_gr B21_gx R21_ns c21_gr_0 c21_gr_1 c21_gr_2 c21_gr_3 f21_gr c21_gx_0 c21_gx_1 c21_gx_2 c21_gx_3 f21_gx q21 r21
          obtain ⟨c22_gr_0, c22_gr_1, c22_gr_2, c22_gr_3⟩ := cl4 B22_gr
          have f22_gr := fun j => blk_frozen B22_gr.out j
          obtain ⟨c22_gx_0, c22_gx_1, c22_gx_2, c22_gx_3⟩ := cl4 B22_gx
          have f22_gx := fun j => blk_frozen B22_gx.out j
          have q22 := L22.out.c1
          have r22 := L22.out.fr 1
          refine start_ (n := 9) (S := fun w' => w'.cell? ⟨gx, 2, none⟩ = some (.slice Av acc.length cv)) (ds := [8]) #[false, false, false, false, false, false, false, false, false] (by kernel_rfl) rfl rfl (((blk_cell B22_gx.out 2).trans (show _ = some (.slice Av acc.length cv : Value) from rfl))) (fun hHeld => ?_)
          refine Mine.pS 0 (some 27) ?_; refine Mine.pS 2 (some 29) ?_; refine Mine.tS 1 (some 28) hHeld ?_
          refine one_ (i := 3) (N := some 30) #[true, true, true, true, false, false, false, false, false] rfl rfl (by kernel_rfl) (by decide) (fun K hK => ?_)
          refine goes_ Try.func33 (by kernel_rfl) rfl #[.pointer (some ⟨g, 0, none⟩), .int .i64 1] (by rfl) rfl rfl (by simp only [List.map_toArray, List.map_cons, List.map_nil]; rfl) ?_
          refine (parse_reader_must.calls g L m 1 _ w0 _ L22.out A2.out).mono ?_
          rintro e w23 ⟨hO_, he, hR_⟩
          obtain rfl : e = .returned (.agg #[.int .i64 (rd_T39 L m).f0, .int .i64 (rd_T39 L m).f1, .string (rd_T39 L m).f2, .int .u64 (rd_T39 L m).f3]) := he
          refine ⟨_, rfl, ?_⟩
          have B23_gr := am (One.blk hO_ B22_gr.out NG_gr.out)
          have B23_gx := am (One.blk hO_ B22_gx.out NG_gx.out)
          have L23 := am (hR_)
          have O23 := am (One.trans O22.out hO_)
          have R23_ns := am (Kd.R_step R22_ns.out (fun k_ ok_ hlt_ => One.block hO_ k_ hlt_ ok_.1))
          clear L22 O22 B22_gr B22_gx c22_gr_0 c22_gr_1 c22_gr_2 c22_gr_3 f22_gr c22_gx_0 c22_gx_1 c22_gx_2 c22_gx_3 f22_gx q22 r22 R22_ns
          obtain ⟨c23_gr_0, c23_gr_1, c23_gr_2, c23_gr_3⟩ := cl4 B23_gr
          have f23_gr := fun j => blk_frozen B23_gr.out j
          obtain ⟨c23_gx_0, c23_gx_1, c23_gx_2, c23_gx_3⟩ := cl4 B23_gx
          have f23_gx := fun j => blk_frozen B23_gx.out j
          have q23 := L23.out.c1
          have r23 := L23.out.fr 1
          clear hO_ hR_
          refine hK.out _ _ (((blk_cell B23_gx.out 2).trans (show _ = some (.slice Av acc.length cv : Value) from rfl))) (fun hHeld => ?_)
          clear hK K
          refine norm_ (a' := ?_) ?_ ?_
          rotate_left
          ·show Act.put _ (some 30) _ = _
           simp only [Act.put, List.setIfInBounds_toArray, List.set_cons_zero, List.set_cons_succ, i64_w, i32_w]
           rfl
          refine Mine.pS 4 (some 31) ?_
          refine one_ (i := 5) (N := some 32) #[true, true, true, true, true, true, false, false, false] rfl rfl (by kernel_rfl) (by decide) (fun K hK => ?_)
          refine value_ (w1 := ?_) (v := ?_) (by rfl) rfl ?_ ?_
          rotate_left 2
          ·go_simp
           constructor
           ·rfl
           ·rfl
          refine hK.out _ _ (((blk_cell (blk_alloc B23_gx.out _) 2).trans (show _ = some (.slice Av acc.length cv : Value) from rfl))) (fun hHeld => ?_)
          clear hK K
          refine norm_ (a' := ?_) ?_ ?_
          rotate_left
          ·show Act.put _ (some 32) _ = _
           simp only [Act.put, List.setIfInBounds_toArray, List.set_cons_zero, List.set_cons_succ, i64_w, i32_w]
           rfl
          refine one_ (i := 6) (N := some 33) #[true, true, true, true, true, true, true, false, false] rfl rfl (by kernel_rfl) (by decide) (fun K hK => ?_)
          refine Kd.R_append_step Kd.string (w0 := w0) w0.heap.size (by rfl) (.tmp 28) (.tmp 32) 41 9 (.string ⟨#[]⟩) 16 rfl Try.underlying41 info9 rfl (by decide) (by omega) (.slice Av acc.length cv) acc ((rd_T39 L m).f2) [.string (rd_T39 L m).f2] (fun k => k ≠ g ∧ k ≠ gr ∧ k ≠ gx ∧ w.heap.size ≤ k) (fun _ => False) (by rfl) (by first | (go_simp; done) | (go_simp; rfl)) ?aP (fun _ hk => hk.elim) ?aF R23_ns.out (IsRd.w0 L23.out) (Below.size (IsRd.w0 L23.out)) (by have := hlen.out; omega) ?_
          (case aP => exact rfl)
          (case aF => exact (fun k_ hk_ => ⟨Nat.ne_of_gt (Nat.lt_of_lt_of_le (IsRd.lt L23.out) hk_), Nat.ne_of_gt (Nat.lt_of_lt_of_le (blk_lt B23_gr.out) hk_), Nat.ne_of_gt (Nat.lt_of_lt_of_le (blk_lt B23_gx.out) hk_), Nat.le_trans (One.size O23.out) hk_⟩))
          intro v24 w24 ho_ hb_ hg_ hat_
          obtain ⟨A24_, c24_, rfl⟩ := Kd.R_slice ho_
          rw [show (acc ++ [(rd_T39 L m).f2]).length = acc.length + 1 from by simp] at ho_
          have B24_gr := am (blk_grown B23_gr.out hg_ (fun e_ => (R23_ns.out.1 gr e_.symm).2.1 rfl))
          have B24_gx := am (blk_grown B23_gx.out hg_ (fun e_ => (R23_ns.out.1 gx e_.symm).2.2.1 rfl))
          have L24 := am (IsRd.grown L23.out hg_ (fun e_ => (R23_ns.out.1 g e_.symm).1 rfl) hb_)
          have O24 := am (One.grown O23.out hg_ (fun k_ e_ => (R23_ns.out.1 k_ e_).2.2.2))
          have R24_ns := am ho_
          clear L23 O23 B23_gr B23_gx R23_ns c23_gr_0 c23_gr_1 c23_gr_2 c23_gr_3 f23_gr c23_gx_0 c23_gx_1 c23_gx_2 c23_gx_3 f23_gx q23 r23
          obtain ⟨c24_gr_0, c24_gr_1, c24_gr_2, c24_gr_3⟩ := cl4 B24_gr
          have f24_gr := fun j => blk_frozen B24_gr.out j
          obtain ⟨c24_gx_0, c24_gx_1, c24_gx_2, c24_gx_3⟩ := cl4 B24_gx
          have f24_gx := fun j => blk_frozen B24_gx.out j
          have q24 := L24.out.c1
          have r24 := L24.out.fr 1
          clear ho_ hb_ hg_ hat_
          refine hK.out _ _ (((blk_cell B24_gx.out 2).trans (show _ = some (.slice Av acc.length cv : Value) from rfl))) (fun hHeld => ?_)
          clear hK K
          refine norm_ (a' := ?_) ?_ ?_
          rotate_left
          ·show Act.put _ (some 33) _ = _
           simp only [Act.put, List.setIfInBounds_toArray, List.set_cons_zero, List.set_cons_succ, i64_w, i32_w]
           rfl
          refine Mine.pS 7 (some 34) ?_
          refine last_ (i := 8) (N := none) #[true, true, true, true, true, true, true, true, true] rfl rfl (by kernel_rfl) (by decide) (fun K hK => ?_)
          refine skip_ (w1 := ?_) (by rfl) rfl ?_ ?_
          rotate_left
          ·go_simp
           rfl
          refine hK.out _ _ ?_
          clear hK K
          refine done_ (by kernel_rfl) ?_
          go_wp2_with (first | (go_at_call 16; (refine (parse_reader_take.calls g L (wrap64 (m + 1)) 3 ⟨#[44]⟩ true w0 _ (IsRd.far (p := ⟨gx, 2, none⟩) L24.out NG_gx.out GW_gx.out _) h2 h3 A3.out).mono ?_); rintro e w25 ⟨rfl, hR0_, hO_⟩; have hR_ : IsRd w0 w25 g L (wrap64 ((wrap64 (m + 1)) + 1)) := hR0_; clear hR0_; have B25_gr := am (One.blk hO_ (blk_far B24_gr.out (Ne.symm NE_gx_gr.out) _) NG_gr.out); have B25_gx := am (One.blk hO_ (blk_put (cs' := #[.int .i64 kd, .int .i64 ar, (.slice A24_ (acc.length + 1) c24_), .slice none 0 0]) B24_gx.out 2 ((.slice A24_ (acc.length + 1) c24_)) rfl) NG_gx.out); have L25 := am (hR_); have O25 := am (One.trans (One.put (p := ⟨gx, 2, none⟩) O24.out GT_gx.out _) hO_); have R25_ns := am (Kd.R_step (Kd.R_far (p := ⟨gx, 2, none⟩) R24_ns.out (fun _ ok_ => ok_.2.2.1) _) (fun k_ ok_ hlt_ => One.block hO_ k_ hlt_ ok_.1)); clear L24 O24 B24_gr B24_gx c24_gr_0 c24_gr_1 c24_gr_2 c24_gr_3 f24_gr c24_gx_0 c24_gx_1 c24_gx_2 c24_gx_3 f24_gx q24 r24 R24_ns; obtain ⟨c25_gr_0, c25_gr_1, c25_gr_2, c25_gr_3⟩ := cl4 B25_gr; have f25_gr := fun j => blk_frozen B25_gr.out j; obtain ⟨c25_gx_0, c25_gx_1, c25_gx_2, c25_gx_3⟩ := cl4 B25_gx; have f25_gx := fun j => blk_frozen B25_gx.out j; have q25 := L25.out.c1; have r25 := L25.out.fr 1; clear hO_ hR_))
          go_roundg k1
          case measure => omega
          case rel => exact ⟨true, (wrap64 ((wrap64 (m + 1)) + 1)), acc ++ [(rd_T39 L m).f2], (.slice A24_ (acc.length + 1) c24_), by first | rfl | simp, H', ⟨L25.out⟩, ⟨O25.out⟩, ⟨B25_gr.out⟩, ⟨B25_gx.out⟩, ⟨R25_ns.out⟩⟩
         ·rw [if_neg hc, decide_eq_false hc] at H
          have H' := am H
          have A3 : Aside0 (prTake L (wrap64 (m + 1)) 3 ⟨#[44]⟩ false) := ⟨.inr ⟨rfl, hc⟩⟩
          clear H hc
          go_wp2_with (first | (go_at_call 19; (refine (parse_reader_now.calls g L m w0 _ yL.out h0 h1).mono ?_); rintro e w21 ⟨rfl, hb⟩; have B21_gr := am (blk_below yBr.out hb); have B21_gx := am (blk_below yBx.out hb); have L21 := am (IsRd.below yL.out hb); have O21 := am (One.below yO.out hb); have R21_ns := am (Kd.R_below yN.out hb); clear yL yO yBr yBx yN; obtain ⟨c21_gr_0, c21_gr_1, c21_gr_2, c21_gr_3⟩ := cl4 B21_gr; have f21_gr := fun j => blk_frozen B21_gr.out j; obtain ⟨c21_gx_0, c21_gx_1, c21_gx_2, c21_gx_3⟩ := cl4 B21_gx; have f21_gx := fun j => blk_frozen B21_gx.out j; have q21 := L21.out.c1; have r21 := L21.out.fr 1; clear hb))
          have B22_gr := am (blk_drew B21_gr.out)
          have B22_gx := am (blk_drew B21_gx.out)
          have L22 := am (IsRd.drew L21.out)
          have O22 := am (One.drew O21.out)
          have R22_ns := am (Kd.R_drew R21_ns.out)
          clear L21 O21 B21_gr B21_gx R21_ns c21_gr_0 c21_gr_1 c21_gr_2 c21_gr_3 f21_gr c21_gx_0 c21_gx_1 c21_gx_2 c21_gx_3 f21_gx q21 r21
          obtain ⟨c22_gr_0, c22_gr_1, c22_gr_2, c22_gr_3⟩ := cl4 B22_gr
          have f22_gr := fun j => blk_frozen B22_gr.out j
          obtain ⟨c22_gx_0, c22_gx_1, c22_gx_2, c22_gx_3⟩ := cl4 B22_gx
          have f22_gx := fun j => blk_frozen B22_gx.out j
          have q22 := L22.out.c1
          have r22 := L22.out.fr 1
          refine start_ (n := 9) (S := fun w' => w'.cell? ⟨gx, 2, none⟩ = some (.slice Av acc.length cv)) (ds := [8]) #[false, false, false, false, false, false, false, false, false] (by kernel_rfl) rfl rfl (((blk_cell B22_gx.out 2).trans (show _ = some (.slice Av acc.length cv : Value) from rfl))) (fun hHeld => ?_)
          refine Mine.pS 0 (some 27) ?_; refine Mine.pS 2 (some 29) ?_; refine Mine.tS 1 (some 28) hHeld ?_
          refine one_ (i := 3) (N := some 30) #[true, true, true, true, false, false, false, false, false] rfl rfl (by kernel_rfl) (by decide) (fun K hK => ?_)
          refine goes_ Try.func33 (by kernel_rfl) rfl #[.pointer (some ⟨g, 0, none⟩), .int .i64 1] (by rfl) rfl rfl (by simp only [List.map_toArray, List.map_cons, List.map_nil]; rfl) ?_
          refine (parse_reader_must.calls g L m 1 _ w0 _ L22.out A2.out).mono ?_
          rintro e w23 ⟨hO_, he, hR_⟩
          obtain rfl : e = .returned (.agg #[.int .i64 (rd_T39 L m).f0, .int .i64 (rd_T39 L m).f1, .string (rd_T39 L m).f2, .int .u64 (rd_T39 L m).f3]) := he
          refine ⟨_, rfl, ?_⟩
          have B23_gr := am (One.blk hO_ B22_gr.out NG_gr.out)
          have B23_gx := am (One.blk hO_ B22_gx.out NG_gx.out)
          have L23 := am (hR_)
          have O23 := am (One.trans O22.out hO_)
          have R23_ns := am (Kd.R_step R22_ns.out (fun k_ ok_ hlt_ => One.block hO_ k_ hlt_ ok_.1))
          clear L22 O22 B22_gr B22_gx c22_gr_0 c22_gr_1 c22_gr_2 c22_gr_3 f22_gr c22_gx_0 c22_gx_1 c22_gx_2 c22_gx_3 f22_gx q22 r22 R22_ns
          obtain ⟨c23_gr_0, c23_gr_1, c23_gr_2, c23_gr_3⟩ := cl4 B23_gr
          have f23_gr := fun j => blk_frozen B23_gr.out j
          obtain ⟨c23_gx_0, c23_gx_1, c23_gx_2, c23_gx_3⟩ := cl4 B23_gx
          have f23_gx := fun j => blk_frozen B23_gx.out j
          have q23 := L23.out.c1
          have r23 := L23.out.fr 1
          clear hO_ hR_
          refine hK.out _ _ (((blk_cell B23_gx.out 2).trans (show _ = some (.slice Av acc.length cv : Value) from rfl))) (fun hHeld => ?_)
          clear hK K
          refine norm_ (a' := ?_) ?_ ?_
          rotate_left
          ·show Act.put _ (some 30) _ = _
           simp only [Act.put, List.setIfInBounds_toArray, List.set_cons_zero, List.set_cons_succ, i64_w, i32_w]
           rfl
          refine Mine.pS 4 (some 31) ?_
          refine one_ (i := 5) (N := some 32) #[true, true, true, true, true, true, false, false, false] rfl rfl (by kernel_rfl) (by decide) (fun K hK => ?_)
          refine value_ (w1 := ?_) (v := ?_) (by rfl) rfl ?_ ?_
          rotate_left 2
          ·go_simp
           constructor
           ·rfl
           ·rfl
          refine hK.out _ _ (((blk_cell (blk_alloc B23_gx.out _) 2).trans (show _ = some (.slice Av acc.length cv : Value) from rfl))) (fun hHeld => ?_)
          clear hK K
          refine norm_ (a' := ?_) ?_ ?_
          rotate_left
          ·show Act.put _ (some 32) _ = _
           simp only [Act.put, List.setIfInBounds_toArray, List.set_cons_zero, List.set_cons_succ, i64_w, i32_w]
           rfl
          refine one_ (i := 6) (N := some 33) #[true, true, true, true, true, true, true, false, false] rfl rfl (by kernel_rfl) (by decide) (fun K hK => ?_)
          refine Kd.R_append_step Kd.string (w0 := w0) w0.heap.size (by rfl) (.tmp 28) (.tmp 32) 41 9 (.string ⟨#[]⟩) 16 rfl Try.underlying41 info9 rfl (by decide) (by omega) (.slice Av acc.length cv) acc ((rd_T39 L m).f2) [.string (rd_T39 L m).f2] (fun k => k ≠ g ∧ k ≠ gr ∧ k ≠ gx ∧ w.heap.size ≤ k) (fun _ => False) (by rfl) (by first | (go_simp; done) | (go_simp; rfl)) ?aP (fun _ hk => hk.elim) ?aF R23_ns.out (IsRd.w0 L23.out) (Below.size (IsRd.w0 L23.out)) (by have := hlen.out; omega) ?_
          (case aP => exact rfl)
          (case aF => exact (fun k_ hk_ => ⟨Nat.ne_of_gt (Nat.lt_of_lt_of_le (IsRd.lt L23.out) hk_), Nat.ne_of_gt (Nat.lt_of_lt_of_le (blk_lt B23_gr.out) hk_), Nat.ne_of_gt (Nat.lt_of_lt_of_le (blk_lt B23_gx.out) hk_), Nat.le_trans (One.size O23.out) hk_⟩))
          intro v24 w24 ho_ hb_ hg_ hat_
          obtain ⟨A24_, c24_, rfl⟩ := Kd.R_slice ho_
          rw [show (acc ++ [(rd_T39 L m).f2]).length = acc.length + 1 from by simp] at ho_
          have B24_gr := am (blk_grown B23_gr.out hg_ (fun e_ => (R23_ns.out.1 gr e_.symm).2.1 rfl))
          have B24_gx := am (blk_grown B23_gx.out hg_ (fun e_ => (R23_ns.out.1 gx e_.symm).2.2.1 rfl))
          have L24 := am (IsRd.grown L23.out hg_ (fun e_ => (R23_ns.out.1 g e_.symm).1 rfl) hb_)
          have O24 := am (One.grown O23.out hg_ (fun k_ e_ => (R23_ns.out.1 k_ e_).2.2.2))
          have R24_ns := am ho_
          clear L23 O23 B23_gr B23_gx R23_ns c23_gr_0 c23_gr_1 c23_gr_2 c23_gr_3 f23_gr c23_gx_0 c23_gx_1 c23_gx_2 c23_gx_3 f23_gx q23 r23
          obtain ⟨c24_gr_0, c24_gr_1, c24_gr_2, c24_gr_3⟩ := cl4 B24_gr
          have f24_gr := fun j => blk_frozen B24_gr.out j
          obtain ⟨c24_gx_0, c24_gx_1, c24_gx_2, c24_gx_3⟩ := cl4 B24_gx
          have f24_gx := fun j => blk_frozen B24_gx.out j
          have q24 := L24.out.c1
          have r24 := L24.out.fr 1
          clear ho_ hb_ hg_ hat_
          refine hK.out _ _ (((blk_cell B24_gx.out 2).trans (show _ = some (.slice Av acc.length cv : Value) from rfl))) (fun hHeld => ?_)
          clear hK K
          refine norm_ (a' := ?_) ?_ ?_
          rotate_left
          ·show Act.put _ (some 33) _ = _
           simp only [Act.put, List.setIfInBounds_toArray, List.set_cons_zero, List.set_cons_succ, i64_w, i32_w]
           rfl
          refine Mine.pS 7 (some 34) ?_
          refine last_ (i := 8) (N := none) #[true, true, true, true, true, true, true, true, true] rfl rfl (by kernel_rfl) (by decide) (fun K hK => ?_)
          refine skip_ (w1 := ?_) (by rfl) rfl ?_ ?_
          rotate_left
          ·go_simp
           rfl
          refine hK.out _ _ ?_
          clear hK K
          refine done_ (by kernel_rfl) ?_
          go_wp2_with (first | (go_at_call 16; (refine (parse_reader_take.calls g L (wrap64 (m + 1)) 3 ⟨#[44]⟩ false w0 _ (IsRd.far (p := ⟨gx, 2, none⟩) L24.out NG_gx.out GW_gx.out _) h2 h3 A3.out).mono ?_); rintro e w25 ⟨rfl, hR0_, hO_⟩; have hR_ : IsRd w0 w25 g L (wrap64 (m + 1)) := hR0_; clear hR0_; have B25_gr := am (One.blk hO_ (blk_far B24_gr.out (Ne.symm NE_gx_gr.out) _) NG_gr.out); have B25_gx := am (One.blk hO_ (blk_put (cs' := #[.int .i64 kd, .int .i64 ar, (.slice A24_ (acc.length + 1) c24_), .slice none 0 0]) B24_gx.out 2 ((.slice A24_ (acc.length + 1) c24_)) rfl) NG_gx.out); have L25 := am (hR_); have O25 := am (One.trans (One.put (p := ⟨gx, 2, none⟩) O24.out GT_gx.out _) hO_); have R25_ns := am (Kd.R_step (Kd.R_far (p := ⟨gx, 2, none⟩) R24_ns.out (fun _ ok_ => ok_.2.2.1) _) (fun k_ ok_ hlt_ => One.block hO_ k_ hlt_ ok_.1)); clear L24 O24 B24_gr B24_gx c24_gr_0 c24_gr_1 c24_gr_2 c24_gr_3 f24_gr c24_gx_0 c24_gx_1 c24_gx_2 c24_gx_3 f24_gx q24 r24 R24_ns; obtain ⟨c25_gr_0, c25_gr_1, c25_gr_2, c25_gr_3⟩ := cl4 B25_gr; have f25_gr := fun j => blk_frozen B25_gr.out j; obtain ⟨c25_gx_0, c25_gx_1, c25_gx_2, c25_gx_3⟩ := cl4 B25_gx; have f25_gx := fun j => blk_frozen B25_gx.out j; have q25 := L25.out.c1; have r25 := L25.out.fr 1; clear hO_ hR_))
          go_roundg k1
          case measure => omega
          case rel => exact ⟨false, (wrap64 (m + 1)), acc ++ [(rd_T39 L m).f2], (.slice A24_ (acc.length + 1) c24_), by first | rfl | simp, H', ⟨L25.out⟩, ⟨O25.out⟩, ⟨B25_gr.out⟩, ⟨B25_gx.out⟩, ⟨R25_ns.out⟩⟩
        ·rw [if_neg hl] at H; cases H
      ·rw [if_neg hk] at H
       obtain rfl := Option.some.inj H
       have a1 := beq_eq_false_iff_ne.mpr hk
       have A2 : Aside0 (parse_must.f L m 1 = some (.bad 7 (rd_T39 L m).f1)) := ⟨by unfold parse_must.f; rw [if_pos ⟨h0, h1⟩, if_neg hk]⟩
       clear H hk
       go_wp2_with (first | (go_at_call 19; (refine (parse_reader_now.calls g L m w0 _ yL.out h0 h1).mono ?_); rintro e w21 ⟨rfl, hb⟩; have B21_gr := am (blk_below yBr.out hb); have B21_gx := am (blk_below yBx.out hb); have L21 := am (IsRd.below yL.out hb); have O21 := am (One.below yO.out hb); have R21_ns := am (Kd.R_below yN.out hb); clear yL yO yBr yBx yN; obtain ⟨c21_gr_0, c21_gr_1, c21_gr_2, c21_gr_3⟩ := cl4 B21_gr; have f21_gr := fun j => blk_frozen B21_gr.out j; obtain ⟨c21_gx_0, c21_gx_1, c21_gx_2, c21_gx_3⟩ := cl4 B21_gx; have f21_gx := fun j => blk_frozen B21_gx.out j; have q21 := L21.out.c1; have r21 := L21.out.fr 1; clear hb))
       have B22_gr := am (blk_drew B21_gr.out)
       have B22_gx := am (blk_drew B21_gx.out)
       have L22 := am (IsRd.drew L21.out)
       have O22 := am (One.drew O21.out)
       have R22_ns := am (Kd.R_drew R21_ns.out)
       clear L21 O21 B21_gr B21_gx R21_ns c21_gr_0 c21_gr_1 c21_gr_2 c21_gr_3 f21_gr c21_gx_0 c21_gx_1 c21_gx_2 c21_gx_3 f21_gx q21 r21
       obtain ⟨c22_gr_0, c22_gr_1, c22_gr_2, c22_gr_3⟩ := cl4 B22_gr
       have f22_gr := fun j => blk_frozen B22_gr.out j
       obtain ⟨c22_gx_0, c22_gx_1, c22_gx_2, c22_gx_3⟩ := cl4 B22_gx
       have f22_gx := fun j => blk_frozen B22_gx.out j
       have q22 := L22.out.c1
       have r22 := L22.out.fr 1
       refine start_ (n := 9) (S := fun w' => w'.cell? ⟨gx, 2, none⟩ = some (.slice Av acc.length cv)) (ds := [8]) #[false, false, false, false, false, false, false, false, false] (by kernel_rfl) rfl rfl (((blk_cell B22_gx.out 2).trans (show _ = some (.slice Av acc.length cv : Value) from rfl))) (fun hHeld => ?_)
       refine Mine.pS 0 (some 27) ?_; refine Mine.pS 2 (some 29) ?_; refine Mine.tS 1 (some 28) hHeld ?_
       refine one_ (i := 3) (N := some 30) #[true, true, true, true, false, false, false, false, false] rfl rfl (by kernel_rfl) (by decide) (fun K hK => ?_)
       refine goes_bad Try.func33 (by kernel_rfl) rfl #[.pointer (some ⟨g, 0, none⟩), .int .i64 1] (by rfl) rfl rfl (by simp only [List.map_toArray, List.map_cons, List.map_nil]; rfl) ?_
       refine (parse_reader_must.calls g L m 1 _ w0 _ L22.out A2.out).mono ?_
       rintro e w9 ⟨hO_, he⟩
       obtain rfl : e = .panicked [{ v := .iface 48 (.agg #[.int .i64 7, .int .i64 (rd_T39 L m).f1]), recovered := false }] := he
       have HF := am (One.trans O22.out hO_)
       clear hO_
       refine ⟨_, rfl, ?_⟩
       exact ⟨rfl, HF.out, rfl⟩
     ·rw [if_neg hm] at H; cases H
    | false =>
     have H : parse_rule.g k1 L m kd ar acc = some res := H
     unfold parse_rule.g at H
     by_cases hm : 0 ≤ m ∧ m < (L.length : Int)
     ·rw [if_pos hm] at H
      have h0 := hm.1
      have h1 := hm.2
      clear hm
      by_cases hw : ((rd_T39 L m).f0 = 1 ∧ (rd_T39 L m).f2.toList = (⟨#[119, 104, 101, 110]⟩ : ByteArray).toList)
      ·rw [if_pos hw] at H
       have H' := am H
       have A2 : Aside0 (prTake L m 1 ⟨#[119, 104, 101, 110]⟩ true) := ⟨.inl ⟨rfl, hw.1, hw.2⟩⟩
       clear H hw
       go_wp2_with (first | (go_at_call 16; (refine (parse_reader_take.calls g L m 1 ⟨#[119, 104, 101, 110]⟩ true w0 _ yL.out h0 h1 A2.out).mono ?_); rintro e w21 ⟨rfl, hR0_, hO_⟩; have hR_ : IsRd w0 w21 g L (wrap64 (m + 1)) := hR0_; clear hR0_; have B21_gr := am (One.blk hO_ yBr.out NG_gr.out); have B21_gx := am (One.blk hO_ yBx.out NG_gx.out); have L21 := am (hR_); have O21 := am (One.trans yO.out hO_); have R21_ns := am (Kd.R_step yN.out (fun k_ ok_ hlt_ => One.block hO_ k_ hlt_ ok_.1)); clear yL yO yBr yBx yN; obtain ⟨c21_gr_0, c21_gr_1, c21_gr_2, c21_gr_3⟩ := cl4 B21_gr; have f21_gr := fun j => blk_frozen B21_gr.out j; obtain ⟨c21_gx_0, c21_gx_1, c21_gx_2, c21_gx_3⟩ := cl4 B21_gx; have f21_gx := fun j => blk_frozen B21_gx.out j; have q21 := L21.out.c1; have r21 := L21.out.fr 1; clear hO_ hR_))
       go_loopg [7] k1 (fun kq v7 w' => ∃ (b : Bool) (n : Int) (cs : List S46) (vc : Value), v7 = .bool b ∧ Aside0 (parse_rule.l1 kq L b n kd ar acc cs = some res) ∧ Aside0 (IsRd w0 w' g L n) ∧ Aside0 (One g w w') ∧ Aside0 (w'.heap[gr]? = some (.cells #[.int .i64 0, .int .i64 0, .slice none 0 0, .slice none 0 0] 44 (0, 0))) ∧ Aside0 (w'.heap[gx]? = some (.cells #[.int .i64 kd, .int .i64 ar, .slice Av acc.length cv, vc] 44 (0, 0))) ∧ Aside0 (Kd.R Kd.string 9 w' w0.heap.size (fun k => k ≠ g ∧ k ≠ gr ∧ k ≠ gx ∧ w.heap.size ≤ k) (.slice Av acc.length cv) acc) ∧ Aside0 (k46.R 46 w' w0.heap.size (fun k => k ≠ g ∧ k ≠ gr ∧ k ≠ gx ∧ w.heap.size ≤ k) vc cs))
       case atStart => exact ⟨true, (wrap64 (m + 1)), [], .slice none 0 0, rfl, H', ⟨L21.out⟩, ⟨O21.out⟩, ⟨B21_gr.out⟩, ⟨B21_gx.out⟩, ⟨R21_ns.out⟩, ⟨Kd.R_nil _ _ _ _ _⟩⟩
       case round =>
        clear H' A2 h0 h1
        try clear c21_gr_0 c21_gr_1 c21_gr_2 c21_gr_3 f21_gr c21_gx_0 c21_gx_1 c21_gx_2 c21_gx_3 f21_gx q21 r21 L21 O21 B21_gr B21_gx R21_ns
        obtain ⟨b, p, cs, vc, rfl, HA, zL, zO, zBr, zBx, zN, zC⟩ := hrel
        obtain ⟨Ac, cc, rfl⟩ := Kd.R_slice zC.out
        cases gk with
        | zero => exact absurd HA.out (by simp [parse_rule.l1])
        | succ k2 =>
         have H := HA.out
         clear HA
         rw [parse_rule.l1.eq_2] at H
         cases b with
         | false =>
          have H : parse_rule.e L p kd ar acc cs = some res := H
          unfold parse_rule.e at H
          by_cases hb5 : 0 ≤ p ∧ p < (L.length : Int)
          ·rw [if_pos hb5] at H
           have h4 := hb5.1
           have h5 := hb5.2
           clear hb5
           by_cases hs : ((rd_T39 L p).f0 = 3 ∧ (rd_T39 L p).f2.toList = (⟨#[59]⟩ : ByteArray).toList)
           ·rw [if_pos hs] at H
            obtain rfl := Option.some.inj H
            have A5 : Aside0 (prTake L p 3 ⟨#[59]⟩ true) := ⟨.inl ⟨rfl, hs.1, hs.2⟩⟩
            clear H hs
            go_wp2_with (first | (go_at_call 16; (refine (parse_reader_take.calls g L p 3 ⟨#[59]⟩ true w0 _ zL.out h4 h5 A5.out).mono ?_); rintro e w41 ⟨rfl, hR0_, hO_⟩; have hR_ : IsRd w0 w41 g L (wrap64 (p + 1)) := hR0_; clear hR0_; have B41_gr := am (One.blk hO_ zBr.out NG_gr.out); have B41_gx := am (One.blk hO_ zBx.out NG_gx.out); have L41 := am (hR_); have O41 := am (One.trans zO.out hO_); have R41_ns := am (Kd.R_step zN.out (fun k_ ok_ hlt_ => One.block hO_ k_ hlt_ ok_.1)); have R41_cs := am (Kd.R_step zC.out (fun k_ ok_ hlt_ => One.block hO_ k_ hlt_ ok_.1)); clear zL zO zBr zBx zN zC; obtain ⟨c41_gr_0, c41_gr_1, c41_gr_2, c41_gr_3⟩ := cl4 B41_gr; have f41_gr := fun j => blk_frozen B41_gr.out j; obtain ⟨c41_gx_0, c41_gx_1, c41_gx_2, c41_gx_3⟩ := cl4 B41_gx; have f41_gx := fun j => blk_frozen B41_gx.out j; have q41 := L41.out.c1; have r41 := L41.out.fr 1; clear hO_ hR_))
            refine bodyPost_ret (results_cell_row rfl _ _ gr 44 (#[.int .i64 kd, .int .i64 ar, .slice Av acc.length cv, .slice Ac cs.length cc]) (0, 0) _ rfl (blk_put4 B41_gr.out _ _ _ _) hu44 rfl (by kernel_rfl)) rfl ?_
            exact ⟨(One.put4 O41.out GT_gr.out _ _ _ _), _, _, rfl, Kd.R_mono (Kd.R_far (p := ⟨gr, 3, none⟩) (Kd.R_far (p := ⟨gr, 2, none⟩) (Kd.R_far (p := ⟨gr, 1, none⟩) (Kd.R_far (p := ⟨gr, 0, none⟩) R41_ns.out (fun _ ok_ => ok_.2.1) _) (fun _ ok_ => ok_.2.1) _) (fun _ ok_ => ok_.2.1) _) (fun _ ok_ => ok_.2.1) _) (fun k_ h_ => ⟨h_.1, h_.2.2.2⟩), Kd.R_mono (Kd.R_far (p := ⟨gr, 3, none⟩) (Kd.R_far (p := ⟨gr, 2, none⟩) (Kd.R_far (p := ⟨gr, 1, none⟩) (Kd.R_far (p := ⟨gr, 0, none⟩) R41_cs.out (fun _ ok_ => ok_.2.1) _) (fun _ ok_ => ok_.2.1) _) (fun _ ok_ => ok_.2.1) _) (fun _ ok_ => ok_.2.1) _) (fun k_ h_ => ⟨h_.1, h_.2.2.2⟩), (IsRd.far4 L41.out NG_gr.out GW_gr.out _ _ _ _)⟩
           ·rw [if_neg hs] at H
            obtain rfl := Option.some.inj H
            have A5 : Aside0 (prTake L p 3 ⟨#[59]⟩ false) := ⟨.inr ⟨rfl, hs⟩⟩
            clear H hs
            go_wp2_with (first | (go_at_call 16; (refine (parse_reader_take.calls g L p 3 ⟨#[59]⟩ false w0 _ zL.out h4 h5 A5.out).mono ?_); rintro e w41 ⟨rfl, hR0_, hO_⟩; have hR_ : IsRd w0 w41 g L p := hR0_; clear hR0_; have B41_gr := am (One.blk hO_ zBr.out NG_gr.out); have B41_gx := am (One.blk hO_ zBx.out NG_gx.out); have L41 := am (hR_); have O41 := am (One.trans zO.out hO_); have R41_ns := am (Kd.R_step zN.out (fun k_ ok_ hlt_ => One.block hO_ k_ hlt_ ok_.1)); have R41_cs := am (Kd.R_step zC.out (fun k_ ok_ hlt_ => One.block hO_ k_ hlt_ ok_.1)); clear zL zO zBr zBx zN zC; obtain ⟨c41_gr_0, c41_gr_1, c41_gr_2, c41_gr_3⟩ := cl4 B41_gr; have f41_gr := fun j => blk_frozen B41_gr.out j; obtain ⟨c41_gx_0, c41_gx_1, c41_gx_2, c41_gx_3⟩ := cl4 B41_gx; have f41_gx := fun j => blk_frozen B41_gx.out j; have q41 := L41.out.c1; have r41 := L41.out.fr 1; clear hO_ hR_) | (go_at_call 17; (refine (parse_reader_fail.calls g L p 7 w0 _ L41.out h4 h5).mono ?_); rintro e w9 ⟨he, hb⟩; obtain rfl : e = .panicked [{ v := .iface 48 (.agg #[.int .i64 7, .int .i64 (rd_T39 L p).f1]), recovered := false }] := he; have HF := am (One.below O41.out hb); clear hb))
            exact ⟨rfl, HF.out, rfl⟩
          ·rw [if_neg hb5] at H; cases H
         | true =>
          rw [if_pos rfl] at H
          by_cases hlc : cs.length < 1000
          ·rw [if_pos hlc] at H
           have hlen := am hlc
           clear hlc
           obtain ⟨r2, A2, H⟩ := Option.bind_eq_some_iff.mp H
           have A2 := am A2
           cases r2 with
           | bad er q =>
            obtain rfl := Option.some.inj H
            clear H
            go_wp2
            have B41_gr := am (blk_drew zBr.out)
            have B41_gx := am (blk_drew zBx.out)
            have L41 := am (IsRd.drew zL.out)
            have O41 := am (One.drew zO.out)
            have R41_ns := am (Kd.R_drew zN.out)
            have R41_cs := am (Kd.R_drew zC.out)
            clear zL zO zBr zBx zN zC
            obtain ⟨c41_gr_0, c41_gr_1, c41_gr_2, c41_gr_3⟩ := cl4 B41_gr
            have f41_gr := fun j => blk_frozen B41_gr.out j
            obtain ⟨c41_gx_0, c41_gx_1, c41_gx_2, c41_gx_3⟩ := cl4 B41_gx
            have f41_gx := fun j => blk_frozen B41_gx.out j
            have q41 := L41.out.c1
            have r41 := L41.out.fr 1
            refine start_ (n := 12) (S := fun w' => w'.cell? ⟨gx, 3, none⟩ = some (.slice Ac cs.length cc)) (ds := [11]) #[false, false, false, false, false, false, false, false, false, false, false, false] (by kernel_rfl) rfl rfl (((blk_cell B41_gx.out 3).trans (show _ = some (.slice Ac cs.length cc : Value) from rfl))) (fun hHeld => ?_)
            refine Mine.pS 0 (some 40) ?_; refine Mine.pS 2 (some 42) ?_; refine Mine.pS 3 (some 43) ?_; refine Mine.tS 1 (some 41) hHeld ?_; refine Mine.tS 4 (some 44) hHeld ?_; refine Mine.pS 5 (some 45) ?_; refine Mine.pS 6 (some 46) ?_
            refine one_ (i := 7) (N := some 47) #[true, true, true, true, true, true, true, true, false, false, false, false] rfl rfl (by kernel_rfl) (by decide) (fun K hK => ?_)
            refine goes_bad Try.func34 (by kernel_rfl) rfl #[.pointer (some ⟨g, 0, none⟩), .bool (decide ((cs.length : Int) < 8))] (by rfl) rfl rfl (by simp only [List.map_toArray, List.map_cons, List.map_nil]; rfl) ?_
            refine (parse_reader_cond.calls k2 g L p _ _ w0 _ L41.out A2.out).mono ?_
            rintro e w9 ⟨hO_, he⟩
            obtain rfl : e = .panicked [{ v := .iface 48 (.agg #[.int .i64 er, .int .i64 q]), recovered := false }] := he
            have HF := am (One.trans O41.out hO_)
            clear hO_
            refine ⟨_, rfl, ?_⟩
            exact ⟨rfl, HF.out, rfl⟩
           | ok v2 =>
            obtain ⟨a, o, m2, v, n2⟩ := v2
            simp only at H
            by_cases hl : 0 ≤ n2 ∧ n2 < (L.length : Int)
            ·rw [if_pos hl] at H
             have h2 := hl.1
             have h3 := hl.2
             clear hl
             by_cases hc : ((rd_T39 L n2).f0 = 1 ∧ (rd_T39 L n2).f2.toList = (⟨#[97, 110, 100]⟩ : ByteArray).toList)
             ·rw [if_pos hc, decide_eq_true hc] at H
              have H' := am H
              have A3 : Aside0 (prTake L n2 1 ⟨#[97, 110, 100]⟩ true) := ⟨.inl ⟨rfl, hc.1, hc.2⟩⟩
              clear H hc
              go_wp2
              have B41_gr := am (blk_drew zBr.out)
              have B41_gx := am (blk_drew zBx.out)
              have L41 := am (IsRd.drew zL.out)
              have O41 := am (One.drew zO.out)
              have R41_ns := am (Kd.R_drew zN.out)
              have R41_cs := am (Kd.R_drew zC.out)
              clear zL zO zBr zBx zN zC
              obtain ⟨c41_gr_0, c41_gr_1, c41_gr_2, c41_gr_3⟩ := cl4 B41_gr
              have f41_gr := fun j => blk_frozen B41_gr.out j
              obtain ⟨c41_gx_0, c41_gx_1, c41_gx_2, c41_gx_3⟩ := cl4 B41_gx
              have f41_gx := fun j => blk_frozen B41_gx.out j
              have q41 := L41.out.c1
              have r41 := L41.out.fr 1
              refine start_ (n := 12) (S := fun w' => w'.cell? ⟨gx, 3, none⟩ = some (.slice Ac cs.length cc)) (ds := [11]) #[false, false, false, false, false, false, false, false, false, false, false, false] (by kernel_rfl) rfl rfl (((blk_cell B41_gx.out 3).trans (show _ = some (.slice Ac cs.length cc : Value) from rfl))) (fun hHeld => ?_)
              refine Mine.pS 0 (some 40) ?_; refine Mine.pS 2 (some 42) ?_; refine Mine.pS 3 (some 43) ?_; refine Mine.tS 1 (some 41) hHeld ?_; refine Mine.tS 4 (some 44) hHeld ?_; refine Mine.pS 5 (some 45) ?_; refine Mine.pS 6 (some 46) ?_
              refine one_ (i := 7) (N := some 47) #[true, true, true, true, true, true, true, true, false, false, false, false] rfl rfl (by kernel_rfl) (by decide) (fun K hK => ?_)
              refine goes_ Try.func34 (by kernel_rfl) rfl #[.pointer (some ⟨g, 0, none⟩), .bool (decide ((cs.length : Int) < 8))] (by rfl) rfl rfl (by simp only [List.map_toArray, List.map_cons, List.map_nil]; rfl) ?_
              refine (parse_reader_cond.calls k2 g L p _ _ w0 _ L41.out A2.out).mono ?_
              rintro e w42 ⟨hO_, he, hR_⟩
              obtain rfl : e = .returned (.agg #[.int .i64 a, .int .i64 o, .int .u64 m2, .int .u64 v]) := he
              refine ⟨_, rfl, ?_⟩
              have B42_gr := am (One.blk hO_ B41_gr.out NG_gr.out)
              have B42_gx := am (One.blk hO_ B41_gx.out NG_gx.out)
              have L42 := am (hR_)
              have O42 := am (One.trans O41.out hO_)
              have R42_ns := am (Kd.R_step R41_ns.out (fun k_ ok_ hlt_ => One.block hO_ k_ hlt_ ok_.1))
              have R42_cs := am (Kd.R_step R41_cs.out (fun k_ ok_ hlt_ => One.block hO_ k_ hlt_ ok_.1))
              clear L41 O41 B41_gr B41_gx c41_gr_0 c41_gr_1 c41_gr_2 c41_gr_3 f41_gr c41_gx_0 c41_gx_1 c41_gx_2 c41_gx_3 f41_gx q41 r41 R41_ns R41_cs
              obtain ⟨c42_gr_0, c42_gr_1, c42_gr_2, c42_gr_3⟩ := cl4 B42_gr
              have f42_gr := fun j => blk_frozen B42_gr.out j
              obtain ⟨c42_gx_0, c42_gx_1, c42_gx_2, c42_gx_3⟩ := cl4 B42_gx
              have f42_gx := fun j => blk_frozen B42_gx.out j
              have q42 := L42.out.c1
              have r42 := L42.out.fr 1
              clear hO_ hR_
              refine hK.out _ _ (((blk_cell B42_gx.out 3).trans (show _ = some (.slice Ac cs.length cc : Value) from rfl))) (fun hHeld => ?_)
              clear hK K
              refine norm_ (a' := ?_) ?_ ?_
              rotate_left
              ·show Act.put _ (some 47) _ = _
               simp only [Act.put, List.setIfInBounds_toArray, List.set_cons_zero, List.set_cons_succ, i64_w, i32_w]
               rfl
              refine one_ (i := 8) (N := some 48) #[true, true, true, true, true, true, true, true, true, false, false, false] rfl rfl (by kernel_rfl) (by decide) (fun K hK => ?_)
              refine value_ (w1 := ?_) (v := ?_) (by rfl) rfl ?_ ?_
              rotate_left 2
              ·go_simp
               constructor
               ·rfl
               ·rfl
              refine hK.out _ _ (((blk_cell (blk_alloc B42_gx.out _) 3).trans (show _ = some (.slice Ac cs.length cc : Value) from rfl))) (fun hHeld => ?_)
              clear hK K
              refine norm_ (a' := ?_) ?_ ?_
              rotate_left
              ·show Act.put _ (some 48) _ = _
               simp only [Act.put, List.setIfInBounds_toArray, List.set_cons_zero, List.set_cons_succ, i64_w, i32_w]
               rfl
              refine one_ (i := 9) (N := some 49) #[true, true, true, true, true, true, true, true, true, true, false, false] rfl rfl (by kernel_rfl) (by decide) (fun K hK => ?_)
              refine Kd.R_append_step k46 (w0 := w0) w0.heap.size (by rfl) (.tmp 41) (.tmp 48) 42 46 (.agg #[.int .i64 0, .int .i64 0, .int .u64 0, .int .u64 0]) 32 rfl Try.underlying42 info46 rfl (by decide) (by omega) (.slice Ac cs.length cc) cs ((⟨a, o, m2, v⟩ : S46)) [.int .i64 a, .int .i64 o, .int .u64 m2, .int .u64 v] (fun k => k ≠ g ∧ k ≠ gr ∧ k ≠ gx ∧ w.heap.size ≤ k) (fun _ => False) (by rfl) (by first | (go_simp; done) | (go_simp; rfl)) ?aP (fun _ hk => hk.elim) ?aF R42_cs.out (IsRd.w0 L42.out) (Below.size (IsRd.w0 L42.out)) (by have := hlen.out; omega) ?_
              (case aP => exact k46_mkM _ _ _ (⟨a, o, m2, v⟩ : S46))
              (case aF => exact (fun k_ hk_ => ⟨Nat.ne_of_gt (Nat.lt_of_lt_of_le (IsRd.lt L42.out) hk_), Nat.ne_of_gt (Nat.lt_of_lt_of_le (blk_lt B42_gr.out) hk_), Nat.ne_of_gt (Nat.lt_of_lt_of_le (blk_lt B42_gx.out) hk_), Nat.le_trans (One.size O42.out) hk_⟩))
              intro v43 w43 ho_ hb_ hg_ hat_
              obtain ⟨A43_, c43_, rfl⟩ := Kd.R_slice ho_
              rw [show (cs ++ [(⟨a, o, m2, v⟩ : S46)]).length = cs.length + 1 from by simp] at ho_
              have B43_gr := am (blk_grown B42_gr.out hg_ (fun e_ => (R42_cs.out.1 gr e_.symm).2.1 rfl))
              have B43_gx := am (blk_grown B42_gx.out hg_ (fun e_ => (R42_cs.out.1 gx e_.symm).2.2.1 rfl))
              have L43 := am (IsRd.grown L42.out hg_ (fun e_ => (R42_cs.out.1 g e_.symm).1 rfl) hb_)
              have O43 := am (One.grown O42.out hg_ (fun k_ e_ => (R42_cs.out.1 k_ e_).2.2.2))
              have R43_ns := am (Kd.R_mono (Kd.R_grown (Kd.R_apartR R42_ns.out R42_cs.out (by decide)) hg_ (fun _ h_ => h_.2)) (fun _ h_ => h_.1))
              have R43_cs := am ho_
              clear L42 O42 B42_gr B42_gx R42_ns R42_cs c42_gr_0 c42_gr_1 c42_gr_2 c42_gr_3 f42_gr c42_gx_0 c42_gx_1 c42_gx_2 c42_gx_3 f42_gx q42 r42
              obtain ⟨c43_gr_0, c43_gr_1, c43_gr_2, c43_gr_3⟩ := cl4 B43_gr
              have f43_gr := fun j => blk_frozen B43_gr.out j
              obtain ⟨c43_gx_0, c43_gx_1, c43_gx_2, c43_gx_3⟩ := cl4 B43_gx
              have f43_gx := fun j => blk_frozen B43_gx.out j
              have q43 := L43.out.c1
              have r43 := L43.out.fr 1
              clear ho_ hb_ hg_ hat_
              refine hK.out _ _ (((blk_cell B43_gx.out 3).trans (show _ = some (.slice Ac cs.length cc : Value) from rfl))) (fun hHeld => ?_)
              clear hK K
              refine norm_ (a' := ?_) ?_ ?_
              rotate_left
              ·show Act.put _ (some 49) _ = _
               simp only [Act.put, List.setIfInBounds_toArray, List.set_cons_zero, List.set_cons_succ, i64_w, i32_w]
               rfl
              refine Mine.pS 10 (some 50) ?_
              refine last_ (i := 11) (N := none) #[true, true, true, true, true, true, true, true, true, true, true, true] rfl rfl (by kernel_rfl) (by decide) (fun K hK => ?_)
              refine skip_ (w1 := ?_) (by rfl) rfl ?_ ?_
              rotate_left
              ·go_simp
               rfl
              refine hK.out _ _ ?_
              clear hK K
              refine done_ (by kernel_rfl) ?_
              go_wp2_with (first | (go_at_call 16; (refine (parse_reader_take.calls g L n2 1 ⟨#[97, 110, 100]⟩ true w0 _ (IsRd.far (p := ⟨gx, 3, none⟩) L43.out NG_gx.out GW_gx.out _) h2 h3 A3.out).mono ?_); rintro e w44 ⟨rfl, hR0_, hO_⟩; have hR_ : IsRd w0 w44 g L (wrap64 (n2 + 1)) := hR0_; clear hR0_; have B44_gr := am (One.blk hO_ (blk_far B43_gr.out (Ne.symm NE_gx_gr.out) _) NG_gr.out); have B44_gx := am (One.blk hO_ (blk_put (cs' := #[.int .i64 kd, .int .i64 ar, .slice Av acc.length cv, (.slice A43_ (cs.length + 1) c43_)]) B43_gx.out 3 ((.slice A43_ (cs.length + 1) c43_)) rfl) NG_gx.out); have L44 := am (hR_); have O44 := am (One.trans (One.put (p := ⟨gx, 3, none⟩) O43.out GT_gx.out _) hO_); have R44_ns := am (Kd.R_step (Kd.R_far (p := ⟨gx, 3, none⟩) R43_ns.out (fun _ ok_ => ok_.2.2.1) _) (fun k_ ok_ hlt_ => One.block hO_ k_ hlt_ ok_.1)); have R44_cs := am (Kd.R_step (Kd.R_far (p := ⟨gx, 3, none⟩) R43_cs.out (fun _ ok_ => ok_.2.2.1) _) (fun k_ ok_ hlt_ => One.block hO_ k_ hlt_ ok_.1)); clear L43 O43 B43_gr B43_gx c43_gr_0 c43_gr_1 c43_gr_2 c43_gr_3 f43_gr c43_gx_0 c43_gx_1 c43_gx_2 c43_gx_3 f43_gx q43 r43 R43_ns R43_cs; obtain ⟨c44_gr_0, c44_gr_1, c44_gr_2, c44_gr_3⟩ := cl4 B44_gr; have f44_gr := fun j => blk_frozen B44_gr.out j; obtain ⟨c44_gx_0, c44_gx_1, c44_gx_2, c44_gx_3⟩ := cl4 B44_gx; have f44_gx := fun j => blk_frozen B44_gx.out j; have q44 := L44.out.c1; have r44 := L44.out.fr 1; clear hO_ hR_))
              go_roundg k2
              case measure => omega
              case rel => exact ⟨true, (wrap64 (n2 + 1)), cs ++ [⟨a, o, m2, v⟩], (.slice A43_ (cs.length + 1) c43_), by first | rfl | simp, H', ⟨L44.out⟩, ⟨O44.out⟩, ⟨B44_gr.out⟩, ⟨B44_gx.out⟩, ⟨R44_ns.out⟩, ⟨R44_cs.out⟩⟩
             ·rw [if_neg hc, decide_eq_false hc] at H
              have H' := am H
              have A3 : Aside0 (prTake L n2 1 ⟨#[97, 110, 100]⟩ false) := ⟨.inr ⟨rfl, hc⟩⟩
              clear H hc
              go_wp2
              have B41_gr := am (blk_drew zBr.out)
              have B41_gx := am (blk_drew zBx.out)
              have L41 := am (IsRd.drew zL.out)
              have O41 := am (One.drew zO.out)
              have R41_ns := am (Kd.R_drew zN.out)
              have R41_cs := am (Kd.R_drew zC.out)
              clear zL zO zBr zBx zN zC
              obtain ⟨c41_gr_0, c41_gr_1, c41_gr_2, c41_gr_3⟩ := cl4 B41_gr
              have f41_gr := fun j => blk_frozen B41_gr.out j
              obtain ⟨c41_gx_0, c41_gx_1, c41_gx_2, c41_gx_3⟩ := cl4 B41_gx
              have f41_gx := fun j => blk_frozen B41_gx.out j
              have q41 := L41.out.c1
              have r41 := L41.out.fr 1
              refine start_ (n := 12) (S := fun w' => w'.cell? ⟨gx, 3, none⟩ = some (.slice Ac cs.length cc)) (ds := [11]) #[false, false, false, false, false, false, false, false, false, false, false, false] (by kernel_rfl) rfl rfl (((blk_cell B41_gx.out 3).trans (show _ = some (.slice Ac cs.length cc : Value) from rfl))) (fun hHeld => ?_)
              refine Mine.pS 0 (some 40) ?_; refine Mine.pS 2 (some 42) ?_; refine Mine.pS 3 (some 43) ?_; refine Mine.tS 1 (some 41) hHeld ?_; refine Mine.tS 4 (some 44) hHeld ?_; refine Mine.pS 5 (some 45) ?_; refine Mine.pS 6 (some 46) ?_
              refine one_ (i := 7) (N := some 47) #[true, true, true, true, true, true, true, true, false, false, false, false] rfl rfl (by kernel_rfl) (by decide) (fun K hK => ?_)
              refine goes_ Try.func34 (by kernel_rfl) rfl #[.pointer (some ⟨g, 0, none⟩), .bool (decide ((cs.length : Int) < 8))] (by rfl) rfl rfl (by simp only [List.map_toArray, List.map_cons, List.map_nil]; rfl) ?_
              refine (parse_reader_cond.calls k2 g L p _ _ w0 _ L41.out A2.out).mono ?_
              rintro e w42 ⟨hO_, he, hR_⟩
              obtain rfl : e = .returned (.agg #[.int .i64 a, .int .i64 o, .int .u64 m2, .int .u64 v]) := he
              refine ⟨_, rfl, ?_⟩
              have B42_gr := am (One.blk hO_ B41_gr.out NG_gr.out)
              have B42_gx := am (One.blk hO_ B41_gx.out NG_gx.out)
              have L42 := am (hR_)
              have O42 := am (One.trans O41.out hO_)
              have R42_ns := am (Kd.R_step R41_ns.out (fun k_ ok_ hlt_ => One.block hO_ k_ hlt_ ok_.1))
              have R42_cs := am (Kd.R_step R41_cs.out (fun k_ ok_ hlt_ => One.block hO_ k_ hlt_ ok_.1))
              clear L41 O41 B41_gr B41_gx c41_gr_0 c41_gr_1 c41_gr_2 c41_gr_3 f41_gr c41_gx_0 c41_gx_1 c41_gx_2 c41_gx_3 f41_gx q41 r41 R41_ns R41_cs
              obtain ⟨c42_gr_0, c42_gr_1, c42_gr_2, c42_gr_3⟩ := cl4 B42_gr
              have f42_gr := fun j => blk_frozen B42_gr.out j
              obtain ⟨c42_gx_0, c42_gx_1, c42_gx_2, c42_gx_3⟩ := cl4 B42_gx
              have f42_gx := fun j => blk_frozen B42_gx.out j
              have q42 := L42.out.c1
              have r42 := L42.out.fr 1
              clear hO_ hR_
              refine hK.out _ _ (((blk_cell B42_gx.out 3).trans (show _ = some (.slice Ac cs.length cc : Value) from rfl))) (fun hHeld => ?_)
              clear hK K
              refine norm_ (a' := ?_) ?_ ?_
              rotate_left
              ·show Act.put _ (some 47) _ = _
               simp only [Act.put, List.setIfInBounds_toArray, List.set_cons_zero, List.set_cons_succ, i64_w, i32_w]
               rfl
              refine one_ (i := 8) (N := some 48) #[true, true, true, true, true, true, true, true, true, false, false, false] rfl rfl (by kernel_rfl) (by decide) (fun K hK => ?_)
              refine value_ (w1 := ?_) (v := ?_) (by rfl) rfl ?_ ?_
              rotate_left 2
              ·go_simp
               constructor
               ·rfl
               ·rfl
              refine hK.out _ _ (((blk_cell (blk_alloc B42_gx.out _) 3).trans (show _ = some (.slice Ac cs.length cc : Value) from rfl))) (fun hHeld => ?_)
              clear hK K
              refine norm_ (a' := ?_) ?_ ?_
              rotate_left
              ·show Act.put _ (some 48) _ = _
               simp only [Act.put, List.setIfInBounds_toArray, List.set_cons_zero, List.set_cons_succ, i64_w, i32_w]
               rfl
              refine one_ (i := 9) (N := some 49) #[true, true, true, true, true, true, true, true, true, true, false, false] rfl rfl (by kernel_rfl) (by decide) (fun K hK => ?_)
              refine Kd.R_append_step k46 (w0 := w0) w0.heap.size (by rfl) (.tmp 41) (.tmp 48) 42 46 (.agg #[.int .i64 0, .int .i64 0, .int .u64 0, .int .u64 0]) 32 rfl Try.underlying42 info46 rfl (by decide) (by omega) (.slice Ac cs.length cc) cs ((⟨a, o, m2, v⟩ : S46)) [.int .i64 a, .int .i64 o, .int .u64 m2, .int .u64 v] (fun k => k ≠ g ∧ k ≠ gr ∧ k ≠ gx ∧ w.heap.size ≤ k) (fun _ => False) (by rfl) (by first | (go_simp; done) | (go_simp; rfl)) ?aP (fun _ hk => hk.elim) ?aF R42_cs.out (IsRd.w0 L42.out) (Below.size (IsRd.w0 L42.out)) (by have := hlen.out; omega) ?_
              (case aP => exact k46_mkM _ _ _ (⟨a, o, m2, v⟩ : S46))
              (case aF => exact (fun k_ hk_ => ⟨Nat.ne_of_gt (Nat.lt_of_lt_of_le (IsRd.lt L42.out) hk_), Nat.ne_of_gt (Nat.lt_of_lt_of_le (blk_lt B42_gr.out) hk_), Nat.ne_of_gt (Nat.lt_of_lt_of_le (blk_lt B42_gx.out) hk_), Nat.le_trans (One.size O42.out) hk_⟩))
              intro v43 w43 ho_ hb_ hg_ hat_
              obtain ⟨A43_, c43_, rfl⟩ := Kd.R_slice ho_
              rw [show (cs ++ [(⟨a, o, m2, v⟩ : S46)]).length = cs.length + 1 from by simp] at ho_
              have B43_gr := am (blk_grown B42_gr.out hg_ (fun e_ => (R42_cs.out.1 gr e_.symm).2.1 rfl))
              have B43_gx := am (blk_grown B42_gx.out hg_ (fun e_ => (R42_cs.out.1 gx e_.symm).2.2.1 rfl))
              have L43 := am (IsRd.grown L42.out hg_ (fun e_ => (R42_cs.out.1 g e_.symm).1 rfl) hb_)
              have O43 := am (One.grown O42.out hg_ (fun k_ e_ => (R42_cs.out.1 k_ e_).2.2.2))
              have R43_ns := am (Kd.R_mono (Kd.R_grown (Kd.R_apartR R42_ns.out R42_cs.out (by decide)) hg_ (fun _ h_ => h_.2)) (fun _ h_ => h_.1))
              have R43_cs := am ho_
              clear L42 O42 B42_gr B42_gx R42_ns R42_cs c42_gr_0 c42_gr_1 c42_gr_2 c42_gr_3 f42_gr c42_gx_0 c42_gx_1 c42_gx_2 c42_gx_3 f42_gx q42 r42
              obtain ⟨c43_gr_0, c43_gr_1, c43_gr_2, c43_gr_3⟩ := cl4 B43_gr
              have f43_gr := fun j => blk_frozen B43_gr.out j
              obtain ⟨c43_gx_0, c43_gx_1, c43_gx_2, c43_gx_3⟩ := cl4 B43_gx
              have f43_gx := fun j => blk_frozen B43_gx.out j
              have q43 := L43.out.c1
              have r43 := L43.out.fr 1
              clear ho_ hb_ hg_ hat_
              refine hK.out _ _ (((blk_cell B43_gx.out 3).trans (show _ = some (.slice Ac cs.length cc : Value) from rfl))) (fun hHeld => ?_)
              clear hK K
              refine norm_ (a' := ?_) ?_ ?_
              rotate_left
              ·show Act.put _ (some 49) _ = _
               simp only [Act.put, List.setIfInBounds_toArray, List.set_cons_zero, List.set_cons_succ, i64_w, i32_w]
               rfl
              refine Mine.pS 10 (some 50) ?_
              refine last_ (i := 11) (N := none) #[true, true, true, true, true, true, true, true, true, true, true, true] rfl rfl (by kernel_rfl) (by decide) (fun K hK => ?_)
              refine skip_ (w1 := ?_) (by rfl) rfl ?_ ?_
              rotate_left
              ·go_simp
               rfl
              refine hK.out _ _ ?_
              clear hK K
              refine done_ (by kernel_rfl) ?_
              go_wp2_with (first | (go_at_call 16; (refine (parse_reader_take.calls g L n2 1 ⟨#[97, 110, 100]⟩ false w0 _ (IsRd.far (p := ⟨gx, 3, none⟩) L43.out NG_gx.out GW_gx.out _) h2 h3 A3.out).mono ?_); rintro e w44 ⟨rfl, hR0_, hO_⟩; have hR_ : IsRd w0 w44 g L n2 := hR0_; clear hR0_; have B44_gr := am (One.blk hO_ (blk_far B43_gr.out (Ne.symm NE_gx_gr.out) _) NG_gr.out); have B44_gx := am (One.blk hO_ (blk_put (cs' := #[.int .i64 kd, .int .i64 ar, .slice Av acc.length cv, (.slice A43_ (cs.length + 1) c43_)]) B43_gx.out 3 ((.slice A43_ (cs.length + 1) c43_)) rfl) NG_gx.out); have L44 := am (hR_); have O44 := am (One.trans (One.put (p := ⟨gx, 3, none⟩) O43.out GT_gx.out _) hO_); have R44_ns := am (Kd.R_step (Kd.R_far (p := ⟨gx, 3, none⟩) R43_ns.out (fun _ ok_ => ok_.2.2.1) _) (fun k_ ok_ hlt_ => One.block hO_ k_ hlt_ ok_.1)); have R44_cs := am (Kd.R_step (Kd.R_far (p := ⟨gx, 3, none⟩) R43_cs.out (fun _ ok_ => ok_.2.2.1) _) (fun k_ ok_ hlt_ => One.block hO_ k_ hlt_ ok_.1)); clear L43 O43 B43_gr B43_gx c43_gr_0 c43_gr_1 c43_gr_2 c43_gr_3 f43_gr c43_gx_0 c43_gx_1 c43_gx_2 c43_gx_3 f43_gx q43 r43 R43_ns R43_cs; obtain ⟨c44_gr_0, c44_gr_1, c44_gr_2, c44_gr_3⟩ := cl4 B44_gr; have f44_gr := fun j => blk_frozen B44_gr.out j; obtain ⟨c44_gx_0, c44_gx_1, c44_gx_2, c44_gx_3⟩ := cl4 B44_gx; have f44_gx := fun j => blk_frozen B44_gx.out j; have q44 := L44.out.c1; have r44 := L44.out.fr 1; clear hO_ hR_))
              go_roundg k2
              case measure => omega
              case rel => exact ⟨false, n2, cs ++ [⟨a, o, m2, v⟩], (.slice A43_ (cs.length + 1) c43_), by first | rfl | simp, H', ⟨L44.out⟩, ⟨O44.out⟩, ⟨B44_gr.out⟩, ⟨B44_gx.out⟩, ⟨R44_ns.out⟩, ⟨R44_cs.out⟩⟩
            ·rw [if_neg hl] at H; cases H
          ·rw [if_neg hlc] at H; cases H
      ·rw [if_neg hw] at H
       have A2 : Aside0 (prTake L m 1 ⟨#[119, 104, 101, 110]⟩ false) := ⟨.inr ⟨rfl, hw⟩⟩
       clear hw
       unfold parse_rule.e at H
       by_cases hb5 : 0 ≤ m ∧ m < (L.length : Int)
       ·rw [if_pos hb5] at H
        have h4 := hb5.1
        have h5 := hb5.2
        clear hb5
        by_cases hs : ((rd_T39 L m).f0 = 3 ∧ (rd_T39 L m).f2.toList = (⟨#[59]⟩ : ByteArray).toList)
        ·rw [if_pos hs] at H
         obtain rfl := Option.some.inj H
         have A5 : Aside0 (prTake L m 3 ⟨#[59]⟩ true) := ⟨.inl ⟨rfl, hs.1, hs.2⟩⟩
         clear H hs
         go_wp2_with (first | (go_at_call 16; (refine (parse_reader_take.calls g L m 1 ⟨#[119, 104, 101, 110]⟩ false w0 _ yL.out h0 h1 A2.out).mono ?_); rintro e w21 ⟨rfl, hR0_, hO_⟩; have hR_ : IsRd w0 w21 g L m := hR0_; clear hR0_; have B21_gr := am (One.blk hO_ yBr.out NG_gr.out); have B21_gx := am (One.blk hO_ yBx.out NG_gx.out); have L21 := am (hR_); have O21 := am (One.trans yO.out hO_); have R21_ns := am (Kd.R_step yN.out (fun k_ ok_ hlt_ => One.block hO_ k_ hlt_ ok_.1)); clear yL yO yBr yBx yN; obtain ⟨c21_gr_0, c21_gr_1, c21_gr_2, c21_gr_3⟩ := cl4 B21_gr; have f21_gr := fun j => blk_frozen B21_gr.out j; obtain ⟨c21_gx_0, c21_gx_1, c21_gx_2, c21_gx_3⟩ := cl4 B21_gx; have f21_gx := fun j => blk_frozen B21_gx.out j; have q21 := L21.out.c1; have r21 := L21.out.fr 1; clear hO_ hR_) | (go_at_call 16; (refine (parse_reader_take.calls g L m 3 ⟨#[59]⟩ true w0 _ L21.out h4 h5 A5.out).mono ?_); rintro e w22 ⟨rfl, hR0_, hO_⟩; have hR_ : IsRd w0 w22 g L (wrap64 (m + 1)) := hR0_; clear hR0_; have B22_gr := am (One.blk hO_ B21_gr.out NG_gr.out); have B22_gx := am (One.blk hO_ B21_gx.out NG_gx.out); have L22 := am (hR_); have O22 := am (One.trans O21.out hO_); have R22_ns := am (Kd.R_step R21_ns.out (fun k_ ok_ hlt_ => One.block hO_ k_ hlt_ ok_.1)); clear L21 O21 B21_gr B21_gx c21_gr_0 c21_gr_1 c21_gr_2 c21_gr_3 f21_gr c21_gx_0 c21_gx_1 c21_gx_2 c21_gx_3 f21_gx q21 r21 R21_ns; obtain ⟨c22_gr_0, c22_gr_1, c22_gr_2, c22_gr_3⟩ := cl4 B22_gr; have f22_gr := fun j => blk_frozen B22_gr.out j; obtain ⟨c22_gx_0, c22_gx_1, c22_gx_2, c22_gx_3⟩ := cl4 B22_gx; have f22_gx := fun j => blk_frozen B22_gx.out j; have q22 := L22.out.c1; have r22 := L22.out.fr 1; clear hO_ hR_))
         refine bodyPost_ret (results_cell_row rfl _ _ gr 44 (#[.int .i64 kd, .int .i64 ar, .slice Av acc.length cv, .slice none 0 0]) (0, 0) _ rfl (blk_put4 B22_gr.out _ _ _ _) hu44 rfl (by kernel_rfl)) rfl ?_
         exact ⟨(One.put4 O22.out GT_gr.out _ _ _ _), _, _, rfl, Kd.R_mono (Kd.R_far (p := ⟨gr, 3, none⟩) (Kd.R_far (p := ⟨gr, 2, none⟩) (Kd.R_far (p := ⟨gr, 1, none⟩) (Kd.R_far (p := ⟨gr, 0, none⟩) R22_ns.out (fun _ ok_ => ok_.2.1) _) (fun _ ok_ => ok_.2.1) _) (fun _ ok_ => ok_.2.1) _) (fun _ ok_ => ok_.2.1) _) (fun k_ h_ => ⟨h_.1, h_.2.2.2⟩), Kd.R_nil _ _ _ _ _, (IsRd.far4 L22.out NG_gr.out GW_gr.out _ _ _ _)⟩
        ·rw [if_neg hs] at H
         obtain rfl := Option.some.inj H
         have A5 : Aside0 (prTake L m 3 ⟨#[59]⟩ false) := ⟨.inr ⟨rfl, hs⟩⟩
         clear H hs
         go_wp2_with (first | (go_at_call 16; (refine (parse_reader_take.calls g L m 1 ⟨#[119, 104, 101, 110]⟩ false w0 _ yL.out h0 h1 A2.out).mono ?_); rintro e w21 ⟨rfl, hR0_, hO_⟩; have hR_ : IsRd w0 w21 g L m := hR0_; clear hR0_; have B21_gr := am (One.blk hO_ yBr.out NG_gr.out); have B21_gx := am (One.blk hO_ yBx.out NG_gx.out); have L21 := am (hR_); have O21 := am (One.trans yO.out hO_); have R21_ns := am (Kd.R_step yN.out (fun k_ ok_ hlt_ => One.block hO_ k_ hlt_ ok_.1)); clear yL yO yBr yBx yN; obtain ⟨c21_gr_0, c21_gr_1, c21_gr_2, c21_gr_3⟩ := cl4 B21_gr; have f21_gr := fun j => blk_frozen B21_gr.out j; obtain ⟨c21_gx_0, c21_gx_1, c21_gx_2, c21_gx_3⟩ := cl4 B21_gx; have f21_gx := fun j => blk_frozen B21_gx.out j; have q21 := L21.out.c1; have r21 := L21.out.fr 1; clear hO_ hR_) | (go_at_call 16; (refine (parse_reader_take.calls g L m 3 ⟨#[59]⟩ false w0 _ L21.out h4 h5 A5.out).mono ?_); rintro e w22 ⟨rfl, hR0_, hO_⟩; have hR_ : IsRd w0 w22 g L m := hR0_; clear hR0_; have B22_gr := am (One.blk hO_ B21_gr.out NG_gr.out); have B22_gx := am (One.blk hO_ B21_gx.out NG_gx.out); have L22 := am (hR_); have O22 := am (One.trans O21.out hO_); have R22_ns := am (Kd.R_step R21_ns.out (fun k_ ok_ hlt_ => One.block hO_ k_ hlt_ ok_.1)); clear L21 O21 B21_gr B21_gx c21_gr_0 c21_gr_1 c21_gr_2 c21_gr_3 f21_gr c21_gx_0 c21_gx_1 c21_gx_2 c21_gx_3 f21_gx q21 r21 R21_ns; obtain ⟨c22_gr_0, c22_gr_1, c22_gr_2, c22_gr_3⟩ := cl4 B22_gr; have f22_gr := fun j => blk_frozen B22_gr.out j; obtain ⟨c22_gx_0, c22_gx_1, c22_gx_2, c22_gx_3⟩ := cl4 B22_gx; have f22_gx := fun j => blk_frozen B22_gx.out j; have q22 := L22.out.c1; have r22 := L22.out.fr 1; clear hO_ hR_) | (go_at_call 17; (refine (parse_reader_fail.calls g L m 7 w0 _ L22.out h4 h5).mono ?_); rintro e w9 ⟨he, hb⟩; obtain rfl : e = .panicked [{ v := .iface 48 (.agg #[.int .i64 7, .int .i64 (rd_T39 L m).f1]), recovered := false }] := he; have HF := am (One.below O22.out hb); clear hb))
         exact ⟨rfl, HF.out, rfl⟩
       ·rw [if_neg hb5] at H; cases H
     ·rw [if_neg hm] at H; cases H
end Go.Proofs.Ytfahchgglapglaa.M
