-- Laid by a program (wip/tools/myprint.py) out of the loaded program's own print: for each Go function a Lean function and the proof of its contract.
import Derived.Test.YtfahchgglapglaaQMx0
import Derived.Test.YtfahchgglapglaaQMx5
namespace Go.Proofs.Ytfahchgglapglaa.M
open Go.RowKit Go.Proofs.YtfahchgglapglaaW.PrintWords Go.Proofs.YtfahchgglapglaaW.PrintLast Go.Proofs.YtfahchgglapglaaW.PrintMore
attribute [local go_sem] max2_int min2_int max_two min_two max_three min_three max_four min_four   -- for this text's walks alone
set_option linter.unusedVariables false
set_option linter.unusedSimpArgs false
-- HAND rounds=True making=True
open Mine
def parse_op.l0 : Nat → List S39 → Int → List ByteArray → Int → Option (PRes (Int × Int))
 | 0, _, _, _, _ => none
 | k + 1, L, n, S, i => if 0 ≤ i ∧ i < (S.length : Int) then (if (rd_T39 L n).f0 = 3 ∧ (rd_T39 L n).f2.toList = (rdOf ByteArray.empty S i).toList then some (.ok (wrap64 (1 + i), wrap64 (n + 1))) else parse_op.l0 k L n S (wrap64 (i + 1))) else if (S.length : Int) ≤ i then some (.bad 7 (rd_T39 L n).f1) else none
def parse_op.f (k : Nat) (L : List S39) (n : Int) : Option (PRes (Int × Int)) := if 0 ≤ n ∧ n < (L.length : Int) then parse_op.l0 k L n [(⟨#[61, 61]⟩ : ByteArray), (⟨#[33, 61]⟩ : ByteArray), (⟨#[60]⟩ : ByteArray), (⟨#[60, 61]⟩ : ByteArray), (⟨#[62]⟩ : ByteArray), (⟨#[62, 61]⟩ : ByteArray)] 0 else none
set_option maxHeartbeats 8000000 in
set_option maxRecDepth 100000 in
theorem parse_reader_op.calls (k : Nat) (g : Nat) (L : List S39) (n : Int) (res : PRes (Int × Int)) (w0 w : World) (h : IsRd w0 w g L n) (H : parse_op.f k L n = some res) :
  Calls Try.prog 44 #[.pointer (some ⟨g, 0, none⟩)] w (prOut w0 w g L (fun v => .int .i64 v.1) (fun v => v.2) res) := by
 have hL := am h
 clear h
 unfold parse_op.f at H
 by_cases hn : 0 ≤ n ∧ n < (L.length : Int)
 ·rw [if_pos hn] at H
  have h0 := hn.1
  have h1 := hn.2
  clear hn
  obtain ⟨S, hS⟩ : ∃ S : List ByteArray, S = [(⟨#[61, 61]⟩ : ByteArray), (⟨#[33, 61]⟩ : ByteArray), (⟨#[60]⟩ : ByteArray), (⟨#[60, 61]⟩ : ByteArray), (⟨#[62]⟩ : ByteArray), (⟨#[62, 61]⟩ : ByteArray)] := ⟨_, rfl⟩
  rw [← hS] at H
  have NS := am hS
  clear hS
  have H' := am H
  clear H
  go_enter Try.func44, Try.ntmps44
  go_wp2_with (first | ((with_reducible refine gate_dst (N := 6) rfl ?_); refine Kd.R_lit Kd.string _ 9 ?hg (N := 6) ?hd (xs := [(⟨#[61, 61]⟩ : ByteArray), (⟨#[33, 61]⟩ : ByteArray), (⟨#[60]⟩ : ByteArray), (⟨#[60, 61]⟩ : ByteArray), (⟨#[62]⟩ : ByteArray), (⟨#[62, 61]⟩ : ByteArray)]) (inner := [.string (⟨#[61, 61]⟩ : ByteArray), .string (⟨#[33, 61]⟩ : ByteArray), .string (⟨#[60]⟩ : ByteArray), .string (⟨#[60, 61]⟩ : ByteArray), .string (⟨#[62]⟩ : ByteArray), .string (⟨#[62, 61]⟩ : ByteArray)]) (ok := fun k => k ≠ g) (okp := fun k => k ≠ g) ?hr ?hp (fun _ hk => hk) (Nat.ne_of_gt hL.out.lt) (Below.refl _ _) (Nat.le_refl _) (by simp) ?_; (case hd => rfl); (case hg => rfl); (case hr => first | (go_simp; done) | (go_simp; rfl)); (case hp => exact (Reps.one (show Kd.M Kd.string _ _ _ (⟨#[61, 61]⟩ : ByteArray) [.string (⟨#[61, 61]⟩ : ByteArray)] from rfl) (Reps.one (show Kd.M Kd.string _ _ _ (⟨#[33, 61]⟩ : ByteArray) [.string (⟨#[33, 61]⟩ : ByteArray)] from rfl) (Reps.one (show Kd.M Kd.string _ _ _ (⟨#[60]⟩ : ByteArray) [.string (⟨#[60]⟩ : ByteArray)] from rfl) (Reps.one (show Kd.M Kd.string _ _ _ (⟨#[60, 61]⟩ : ByteArray) [.string (⟨#[60, 61]⟩ : ByteArray)] from rfl) (Reps.one (show Kd.M Kd.string _ _ _ (⟨#[62]⟩ : ByteArray) [.string (⟨#[62]⟩ : ByteArray)] from rfl) (Reps.one (show Kd.M Kd.string _ _ _ (⟨#[62, 61]⟩ : ByteArray) [.string (⟨#[62, 61]⟩ : ByteArray)] from rfl) (Reps.none _ _)))))))); intro v3 w2 ho hb hg_ hnew_; have HL2 := am (hL.out.below hb); have HO2 := am (One.below (One.refl g w) hb); have HS2 : Aside0 (Kd.R Kd.string 9 w2 w.heap.size (fun k => k ≠ g) v3 S) := ⟨by rw [NS.out]; exact ho⟩; obtain ⟨Ax, cx, rfl⟩ := Kd.R_slice HS2.out; clear ho hb hg_ hnew_))
  go_loopg [9] k (fun kq v9 w' => ∃ (i : Int), v9 = .int .i64 i ∧ Aside0 (parse_op.l0 kq L n S i = some res) ∧ Aside0 (Kd.R Kd.string 9 w' w.heap.size (fun k => k ≠ g) (.slice Ax S.length cx) S) ∧ Aside0 (IsRd w0 w' g L n) ∧ Aside0 (One g w w'))
  case atStart => exact ⟨0, rfl, H', HS2, HL2, HO2⟩
  case round =>
   clear H' HS2 HL2 HO2 NS
   obtain ⟨i, rfl, HA, HS, HL, HO⟩ := hrel
   cases gk with
   | zero => exact absurd HA.out (by simp [parse_op.l0])
   | succ k1 =>
    have H := HA.out
    clear HA
    simp only [parse_op.l0] at H
    by_cases hi : 0 ≤ i ∧ i < (S.length : Int)
    ·rw [if_pos hi] at H
     have i0 := hi.1
     have i1 := hi.2
     clear hi
     obtain ⟨ad, e_, hx0⟩ := Kd.at_string (Kd.R_reads' HS.out).2.2 i i0 i1
     cases e_
     have p0 := eq_true i0
     have p1 := eq_true i1
     by_cases hm : (rd_T39 L n).f0 = 3 ∧ (rd_T39 L n).f2.toList = (rdOf ByteArray.empty S i).toList
     ·rw [if_pos hm] at H
      obtain rfl := Option.some.inj H
      clear H
      have hT : Aside0 (prTake L n 3 (rdOf ByteArray.empty S i) true) := ⟨.inl ⟨rfl, hm.1, hm.2⟩⟩
      clear hm
      go_wp2_with (first | (go_at_call 16; (refine (parse_reader_take.calls g L n 3 (rdOf ByteArray.empty S i) true w0 _ HL.out h0 h1 hT.out).mono ?_); rintro e w5 ⟨rfl, hR_, hO_⟩; have HL3 := am hR_; have HO3 := am (HO.out.trans hO_); clear hR_ hO_))
      go_ret
      exact ⟨HO3.out, rfl, HL3.out⟩
     ·rw [if_neg hm] at H
      have H' := am H
      clear H
      have hT : Aside0 (prTake L n 3 (rdOf ByteArray.empty S i) false) := ⟨.inr ⟨rfl, hm⟩⟩
      clear hm
      go_wp2_with (first | (go_at_call 16; (refine (parse_reader_take.calls g L n 3 (rdOf ByteArray.empty S i) false w0 _ HL.out h0 h1 hT.out).mono ?_); rintro e w5 ⟨rfl, hR_, hO_⟩; have HL3 : Aside0 (IsRd w0 w5 g L n) := ⟨hR_⟩; have HO3 := am (HO.out.trans hO_); have HS3 := am (Kd.R_step HS.out (fun k ok hlt => hO_.block k hlt ok)); clear hR_ hO_))
      go_roundg k1
      case measure => omega
      case rel => exact ⟨wrap64 (i + 1), by first | rfl | (simp only [i64_w]), H', HS3, HL3, HO3⟩
    ·rw [if_neg hi] at H
     by_cases hj : (S.length : Int) ≤ i
     ·rw [if_pos hj] at H
      obtain rfl := Option.some.inj H
      clear H
      have j1 : decide (i < (S.length : Int)) = false := decide_eq_false (by omega)
      clear hi hj
      go_wp2_with (first | (go_at_call 17; (refine (parse_reader_fail.calls g L n 7 w0 _ HL.out h0 h1).mono ?_); rintro e w9 ⟨he, hb⟩; obtain rfl : e = .panicked [{ v := .iface 48 (.agg #[.int .i64 7, .int .i64 (rd_T39 L n).f1]), recovered := false }] := he; have HF := am (One.below HO.out hb); clear hb))
      exact ⟨rfl, HF.out, rfl⟩
     ·rw [if_neg hj] at H; cases H
 ·rw [if_neg hn] at H; cases H
end Go.Proofs.Ytfahchgglapglaa.M
