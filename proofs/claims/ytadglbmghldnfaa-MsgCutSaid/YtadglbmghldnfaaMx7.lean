-- Laid by a program (wip/tools/myprint.py) out of the loaded program's own print: for each Go function a Lean function and the proof of its contract.
import Derived.Test.YtadglbmghldnfaaMx0
namespace Go.Proofs.Ytadglbmghldnfaa.M
open Go.RowKit Go.Proofs.YtadglbmghldnfaaW.PrintWords Go.Proofs.YtadglbmghldnfaaW.PrintLast Go.Proofs.YtadglbmghldnfaaW.PrintMore
attribute [local go_sem] max2_int min2_int max_two min_two max_three min_three max_four min_four   -- for this text's walks alone
set_option linter.unusedVariables false
set_option linter.unusedSimpArgs false

/-! ### pack_Read: function 24 -/
/-- A state of type 73 at block g of W. -/
def IsS73 (w0 W : World) (g : Nat) (f0 : List Int) (f1 : Int) : Prop := Mine.IsR 73 5 w0 W g f0 f1
theorem IsS73.below {w0 W : World} {g : Nat} {f0 : List Int} {f1 : Int} (h : IsS73 w0 W g f0 f1) {W1 : World} (hw : Below W.heap.size W W1) : IsS73 w0 W1 g f0 f1 := Mine.IsR.below h hw
theorem IsS73.alloc {w0 W : World} {g : Nat} {f0 : List Int} {f1 : Int} (h : IsS73 w0 W g f0 f1) (o : Obj) : IsS73 w0 (W.alloc o) g f0 f1 := Mine.IsR.alloc h o
theorem IsS73.drewN {w0 W : World} {g : Nat} {f0 : List Int} {f1 : Int} (h : IsS73 w0 W g f0 f1) (m : Nat) : IsS73 w0 (W.drewN m) g f0 f1 := Mine.IsR.drewN h m
theorem IsS73.drew {w0 W : World} {g : Nat} {f0 : List Int} {f1 : Int} (h : IsS73 w0 W g f0 f1)  : IsS73 w0 W.drew g f0 f1 := Mine.IsR.drew h
theorem IsS73.at_ {w0 W : World} {g : Nat} {f0 : List Int} {f1 : Int} {w' : World} {m : Nat} (hq : W.drewN m = w') (h : IsS73 w0 W g f0 f1) : IsS73 w0 w' g f0 f1 := Mine.IsR.at_ hq h
theorem IsS73.apart {w0 W : World} {g : Nat} {f0 : List Int} {f1 : Int} {α : Type} {d : Kd α} {e : Nat} {base : Nat} {ok : Nat → Prop} {v : Value} {xs : List α} (h : IsS73 w0 W g f0 f1) (ho : d.R e W base ok v xs) (ht : ∀ q, q ∈ e :: d.E → q ≠ 73) : d.R e W base (fun k => ok k ∧ k ≠ g) v xs := Mine.IsR.apart h ho ht
theorem IsS73.own_ne {w0 W : World} {g : Nat} {f0 : List Int} {f1 : Int} {α : Type} {d : Kd α} {e : Nat} {base : Nat} {ok : Nat → Prop} {v : Value} {xs : List α} (h : IsS73 w0 W g f0 f1) (ho : d.R e W base ok v xs) (ht : e ≠ 73) : some g ≠ v.ownBlock := Mine.IsR.own_ne h ho ht
theorem IsS73.far {w0 W : World} {g : Nat} {f0 : List Int} {f1 : Int} (h : IsS73 w0 W g f0 f1) {p : Addr} (hne : g ≠ p.block) (ht : Mine.HasT 5 W p.block) (u : Value) : IsS73 w0 (W.setCell p u) g f0 f1 := Mine.IsR.far h hne ht u
theorem IsS73.fresh5 {w0 W : World} {g : Nat} {f0 : List Int} {f1 : Int} (h : IsS73 w0 W g f0 f1)  : ∀ k, W.heap.size ≤ k → g < k := fun k hk => Nat.lt_of_lt_of_le (Mine.IsR.lt h) hk
theorem IsS73.grow5 {w0 W u W1 : World} {g : Nat} {f0 : List Int} {f1 : Int} {α : Type} {d : Kd α} {e : Nat} {base : Nat} {v : Value} {xs : List α} (h : IsS73 w0 W g f0 f1) (hg : W.grownBy W1 v.ownBlock) (ho : d.R e u base (fun k_ => g < k_) v xs) : IsS73 w0 W1 g f0 f1 := Mine.IsR.grow5 h hg ho
theorem IsS73.fresh {w0 W : World} {g : Nat} {f0 : List Int} {f1 : Int} (h : IsS73 w0 W g f0 f1)  : ∀ k, W.heap.size ≤ k → k ≠ g := Mine.IsR.fresh h
theorem IsS73.lt {w0 W : World} {g : Nat} {f0 : List Int} {f1 : Int} (h : IsS73 w0 W g f0 f1)  : g < W.heap.size := Mine.IsR.lt h
theorem IsS73.ge {w0 W : World} {g : Nat} {f0 : List Int} {f1 : Int} (h : IsS73 w0 W g f0 f1)  : w0.heap.size ≤ g := Mine.IsR.ge h
theorem IsS73.ne_blk {w0 W : World} {g : Nat} {f0 : List Int} {f1 : Int} (h : IsS73 w0 W g f0 f1) {a : Nat} {cs : Array Value} {t : TypeId} {fr : Nat × Nat} (hb2 : W.heap[a]? = some (.cells cs t fr)) (ht : t ≠ 73) : g ≠ a := Mine.IsR.ne_blk h hb2 ht
theorem IsS73.grow {w0 W u W1 : World} {g : Nat} {f0 : List Int} {f1 : Int} {α : Type} {d : Kd α} {e : Nat} {base : Nat} {ok : Nat → Prop} {v : Value} {xs : List α} (h : IsS73 w0 W g f0 f1) (hg : W.grownBy W1 v.ownBlock) (ho : d.R e u base ok v xs) (hb : Below u.heap.size u W) (h0 : IsS73 w0 u g f0 f1) (ht : e ≠ 73 ∧ e ≠ 5) : IsS73 w0 W1 g f0 f1 := Mine.IsR.grow0 h hg ho hb h0 ht
-- HAND rounds=False making=True
def pack_Read.f (l0 : List Int) : Option (List Int × Int) := if l0.length < 140737488355328 then some (l0, 0) else none
set_option maxHeartbeats 8000000 in
set_option maxRecDepth 100000 in
theorem pack_Read.calls (A0 : Option Addr) (c0 : Nat) (l0 : List Int) (r1 : List Int) (r2 : Int) (w0 w : World) (hB : Below w0.heap.size w0 w) (hr0 : Kd.C (Kd.int .u8) w A0 l0.length l0) (hc0 : l0.length ≤ c0) (h : pack_Read.f l0 = some (r1, r2)) :
    Calls Try.prog 24 #[.slice A0 l0.length c0] w fun e w' => ∃ g_ : Nat, e = .returned (.pointer (some ⟨g_, 0, none⟩)) ∧ IsS73 w0 w' g_ r1 r2 ∧ Below w0.heap.size w0 w' ∧ Below w.heap.size w w' := by
  have HC := Aside0.mk hr0
  have HB := Aside0.mk hB
  clear hr0 hB
  unfold pack_Read.f at h
  by_cases hl : l0.length < 140737488355328
  · rw [if_pos hl] at h
    obtain ⟨h1, h2⟩ := Prod.mk.inj (Option.some.inj h)
    subst h1 h2
    have HL := Aside0.mk hl
    clear hl h
    go_enter Try.func24, Try.ntmps24
    go_wp2_with (first | ((with_reducible refine gate_dst (N := 3) rfl ?_); refine Kd.R_lit (Kd.int .u8) w.heap.size 5 ?hg (N := 3) ?hd (xs := ([] : List Int)) (inner := []) (ok := fun _ => True) (okp := fun _ => True) ?hr ?hp (fun _ hk => hk) trivial (Below.refl _ _) (Nat.le_refl _) (by simp) ?_; (case hd => rfl); (case hg => rfl); (case hr => first | (go_simp; done) | (go_simp; rfl)); (case hp => exact (Reps.none _ _)); intro v2 w2 ho hb hg_ hnew_; have HC2 := Aside0.mk (Kd.C_below HC.out hb); have HO := Aside0.mk ho; have HB2 := Aside0.mk hb; clear ho hb hg_ hnew_) | (at_builtin; refine Kd.R_append_row (Value.int .u8) 0 (w0 := w) w.heap.size rfl (.tmp 3) (.tmp 4) 30 5 (.int .u8 0) 1 rfl Try.underlying30 info5 rfl (by decide) v2 [] l0 A0 l0.length c0 (fun _ => True) rfl rfl (fun _ _ => trivial) HO.out HC2.out HB2.out HB2.out.size (by have := HL.out; simp; omega) ?_; intro v3 w3 ho hb hg hat; obtain ⟨A3, c3, ev3⟩ := Kd.R_slice ho; subst ev3; have HO3 := Aside0.mk ho; have HB3 := Aside0.mk hb; clear ho hb hg hat) | ((with_reducible refine gate_dst (N := 7) rfl ?_); refine box_event ?hg (N := 7) ?hd (cs := #[.slice A3 ([] ++ l0).length c3, .int .i64 0]) (t := 73) ?hr ?_; (case hd => rfl); (case hg => rfl); (case hr => first | (go_simp; done) | (go_simp; rfl)); intro gb GE wb hbk hbb; have GE2 := Aside0.mk GE; have HBK := Aside0.mk hbk; have HBB := Aside0.mk hbb; clear GE hbk hbb))
    go_ret
    have hT := HB3.out.trans (HBB.out.mono HB3.out.size)
    refine ⟨gb, rfl, ?_, HB.out.trans (hT.mono HB.out.size), hT⟩
    exact Mine.IsR.of_own (n := 0) (by decide) (by have h_ := HO3.out; rw [List.nil_append] at h_; exact h_) HBB.out (Nat.le_trans HB.out.size HB3.out.size) GE2.out HBK.out
  · rw [if_neg hl] at h
    cases h

end Go.Proofs.Ytadglbmghldnfaa.M
