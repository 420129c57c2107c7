-- Laid by a program (wip/tools/myprint.py) out of the loaded program's own print: for each Go function a Lean function and the proof of its contract.
import Derived.Test.YteojfjlklikaoaaP3Mx0
import Derived.Test.YteojfjlklikaoaaP3Mx3
import Derived.Test.YteojfjlklikaoaaP3Mx5
import Derived.Test.YteojfjlklikaoaaP3Mx6
import Derived.Test.YteojfjlklikaoaaP3Mx7
import Derived.Test.YteojfjlklikaoaaP3Mx16
import Derived.Test.YteojfjlklikaoaaP3Mx20
namespace Go.Proofs.Yteojfjlklikaoaa.M
open Go.RowKit Go.Proofs.YteojfjlklikaoaaW.PrintWords Go.Proofs.YteojfjlklikaoaaW.PrintLast Go.Proofs.YteojfjlklikaoaaW.PrintMore
attribute [local go_sem] max2_int min2_int max_two min_two max_three min_three max_four min_four   -- for this text's walks alone
set_option linter.unusedVariables false
set_option linter.unusedSimpArgs false
-- HAND rounds=True making=True
/-- What StackFork asks of the functions below. -/
def fairleadlaw15_StackFork.P (k : Nat) (L : List (List S53)) (M1 M2 : List S53) (d0 d1 d2 d3 d4 d5 d6 d7 d8 : Int) : Prop := fairleadlaw15_awake.P k ∧ ∃ b, fairleadlaw15_few.f k L = some b ∧ (b = true → M1.length ≤ 3000 → M2.length ≤ 3000 → L.length ≤ 40 ∧ ∃ (ck val : List S53 → Int) (m m1 m2 p1 p2 : Int), (∀ l ∈ L, ∃ p, check_Check.f k l = some (ck l, p)) ∧ (∀ l ∈ L, ck l = 0 → 1 ≤ l.length ∧ l.length ≤ 4096) ∧ check_Check.f k M1 = some (ck M1, p1) ∧ check_Check.f k M2 = some (ck M2, p2) ∧ (∀ l, (l ∈ BUILT ck L ∨ l ∈ (ATT (ck M1) (BUILT ck L) (costOf (BUILT ck L)) M1).2.1 ∨ l ∈ (ATT (ck M2) (BUILT ck L) (costOf (BUILT ck L)) M2).2.1) → ∃ n e, vm_Run.f k l d0 d1 d2 d3 d4 d5 d6 d7 d8 = some (val l, n, e)) ∧ act_Most.f k (stVals val (BUILT ck L)) = some m ∧ act_Most.f k (stVals val (ATT (ck M1) (BUILT ck L) (costOf (BUILT ck L)) M1).2.1) = some m1 ∧ act_Most.f k (stVals val (ATT (ck M2) (BUILT ck L) (costOf (BUILT ck L)) M2).2.1) = some m2)
theorem costOf_append (a b : List (List S53)) : costOf (a ++ b) = costOf a + costOf b := by simp [costOf]
theorem built_again (ck : List S53 → Int) (L B : List (List S53)) (h : Fit ck L B) : BUILT ck B = B := by
  have key : ∀ j, j ≤ B.length → BUILT ck (B.take j) = B.take j := by
    intro j
    induction j with
    | zero => exact fun _ => by simp [BUILT]
    | succ j ih =>
      intro hj
      have hjl : j < B.length := by omega
      have hm : B.getD j [] ∈ B := by rw [List.getD_eq_getElem?_getD, List.getElem?_eq_getElem hjl]; exact List.getElem_mem _
      have hc : costOf (B.take (j + 1)) ≤ costOf B := by
        have e : costOf B = costOf (B.take (j + 1)) + costOf (B.drop (j + 1)) := by
          rw [← costOf_append, List.take_append_drop]
        have h0 : 0 ≤ costOf (B.drop (j + 1)) := by
          generalize B.drop (j + 1) = q
          induction q with
          | nil => simp [costOf]
          | cons a r ih => have : costOf (a :: r) = (a.length : Int) + 4 + costOf r := by simp [costOf]
                           omega
        omega
      have hct := costOf_take B j hjl
      rw [take_getD B j hjl, built_snoc, ih (by omega), (h.mem _ hm).2]
      unfold ATT
      rw [if_neg (by simp), if_neg (by have := h.len; have := h.cost; rw [List.length_take]; omega)]
  have := key B.length (Nat.le_refl _)
  rwa [List.take_length] at this
/-- A stack that is whole, of rows that none of S is. -/
def Al (S : Nat → Prop) (w : World) (g : Nat) (B : List (List S53)) (co : Int) : Prop := ∃ ok, SkS ok w g B co ∧ ∀ k, ok k → k < w.heap.size ∧ ¬ S k
/-- What the law holds beside. -/
structure FK (w w' : World) (S : Nat → Prop) (gm gd : Nat) (M D : Array Value) : Prop where
  below : Below w.heap.size w w'
  bm : w'.heap[gm]? = some (.cells M 55 (0, 0))
  bd : w'.heap[gd]? = some (.cells D 27 (0, 0))
  sz : ∀ k, S k → w.heap.size ≤ k ∧ k < w'.heap.size ∧ k ≠ gm ∧ k ≠ gd
section
variable {S S' T : Nat → Prop} {w w1 w2 : World} {g g2 gm gd : Nat} {B : List (List S53)} {co : Int} {M D : Array Value}
theorem Al.but (h : Al S w1 g B co) (hb : Mine.But T w1 w2) (hT : ∀ k, T k → k < w1.heap.size → S k ∧ k ≠ g) : Al S w2 g B co := by
  obtain ⟨ok, hs, ho⟩ := h
  exact ⟨ok, hs.step hb (fun h => (hT g h hs.lt).2 rfl) (fun k hk h1 h2 => (ho k h1).2 (hT k h2 hk).1), fun k hk => ⟨Nat.lt_of_lt_of_le (ho k hk).1 hb.size, (ho k hk).2⟩⟩
theorem Al.below (h : Al S w1 g B co) (hb : Below w1.heap.size w1 w2) : Al S w2 g B co := h.but (T := fun _ => False) (Mine.But.of_below hb) (fun _ h _ => h.elim)
theorem Al.more (h : Al S w1 g B co) (hS : ∀ k, S' k → S k ∨ w1.heap.size ≤ k) : Al S' w1 g B co := by
  obtain ⟨ok, hs, ho⟩ := h
  exact ⟨ok, hs, fun k hk => ⟨(ho k hk).1, fun h => by rcases hS k h with h1 | h1; exact (ho k hk).2 h1; have := (ho k hk).1; omega⟩⟩
theorem FK.but (h : FK w w1 S gm gd M D) (hb : Mine.But T w1 w2) (hT : ∀ k, T k → k < w1.heap.size → S k) : FK w w2 S gm gd M D :=
  ⟨h.below.trans (hb.below (B := w.heap.size) (fun k hk e => by have := (h.sz k (hT k e (Nat.lt_of_lt_of_le hk h.below.size))).1; omega) h.below.size), hb.blk h.bm (fun e => (h.sz _ (hT _ e (blk_lt h.bm))).2.2.1 rfl), hb.blk h.bd (fun e => (h.sz _ (hT _ e (blk_lt h.bd))).2.2.2 rfl), fun k hk => by have := h.sz k hk; exact ⟨this.1, Nat.lt_of_lt_of_le this.2.1 hb.size, this.2.2⟩⟩
theorem FK.step (h : FK w w1 S gm gd M D) (hb : Below w1.heap.size w1 w2) : FK w w2 S gm gd M D := h.but (T := fun _ => False) (Mine.But.of_below hb) (fun _ h _ => h.elim)
theorem FK.more (h : FK w w1 S gm gd M D) (hS : ∀ k, S' k → S k ∨ (w.heap.size ≤ k ∧ k < w1.heap.size ∧ k ≠ gm ∧ k ≠ gd)) : FK w w1 S' gm gd M D := ⟨h.below, h.bm, h.bd, fun k hk => (hS k hk).elim (h.sz k) (fun x => x)⟩
end
/-- A filter is laid upon one of several stacks. -/
theorem attach_al (k : Nat) (S : Nat → Prop) (w W : World) (g gm gd : Nat) (B : List (List S53)) (co : Int) (M D : Array Value) (A' : Option Addr) (c' : Nat) (l : List S53) (e0 p er co2 : Int) (B2 : List (List S53)) (hA : Al S W g B co) (hF : FK w W S gm gd M D) (hg : S g) (hC : Kd.C k53 W A' l.length l) (hl : l.length ≤ c') (hck : check_Check.f k l = some (e0, p)) (h4 : l.length ≤ 4096) (hL : B.length ≤ 32) (h0 : 0 ≤ co) (h1 : co ≤ 32768) (e1 : er = (ATT e0 B co l).1) (e2 : B2 = (ATT e0 B co l).2.1) (e3 : co2 = (ATT e0 B co l).2.2) :
    Calls Try.prog 10 #[.pointer (some ⟨g, 0, none⟩), .slice A' l.length c'] W fun e w' => e = .returned (.int .i64 er) ∧ Mine.But (fun k => k = g) W w' ∧ FK w w' S gm gd M D ∧ Al S w' g B2 co2 := by
  obtain ⟨ok, hs, ho⟩ := hA
  rw [e1, e2, e3]
  refine (stack_Stack_Attach.calls k A' c' l g B co e0 p ok W hC hl hs hck (fun _ => h4) hL h0 h1).mono ?_
  rintro e w' ⟨he, hb, hs'⟩
  refine ⟨he, hb, hF.but hb (fun k hk _ => hk ▸ hg), fun k => (ok k ∨ W.heap.size ≤ k) ∧ k < w'.heap.size, hs'.more (fun k hk h => ⟨h, hk⟩) (fun h => hs'.og h.1), fun k hk => ⟨hk.2, fun h => ?_⟩⟩
  rcases hk.1 with h2 | h2
  · exact (ho k h2).2 h
  · have := (hF.sz k h).2.1; omega
theorem run_al (k : Nat) (S : Nat → Prop) (W : World) (g : Nat) (B : List (List S53)) (co : Int) (d0 d1 d2 d3 d4 d5 d6 d7 d8 : Int) (val : List S53 → Int) (m X : Int) (hA : Al S W g B co) (hv : ∀ l ∈ B, ∃ n e, vm_Run.f k l d0 d1 d2 d3 d4 d5 d6 d7 d8 = some (val l, n, e)) (hm : act_Most.f k (stVals val B) = some m) (hL : B.length ≤ 32) (hX : X = stFind m (stVals val B) ((B.length : Int) - 1)) :
    Calls Try.prog 15 #[.pointer (some ⟨g, 0, none⟩), .agg #[.int .u32 d0, .int .u32 d1, .int .u64 d2, .int .u64 d3, .int .u64 d4, .int .u64 d5, .int .u64 d6, .int .u64 d7, .int .u64 d8]] W fun e w' => e = .returned (.tuple #[.int .u32 m, .int .i64 X]) ∧ Below W.heap.size W w' := by
  obtain ⟨ok, hs, ho⟩ := hA
  rw [hX]
  exact stack_Stack_Run.calls k g B co d0 d1 d2 d3 d4 d5 d6 d7 d8 val m ok W hs hv hm hL
theorem len_al (S : Nat → Prop) (W : World) (g : Nat) (B : List (List S53)) (co : Int) (hA : Al S W g B co) : Calls Try.prog 12 #[.pointer (some ⟨g, 0, none⟩)] W fun e w' => e = .returned (.int .i64 B.length) ∧ W = w' := by
  obtain ⟨ok, hs, ho⟩ := hA
  exact stack_Stack_Len.sk g B co ok W hs
theorem cost_al (S : Nat → Prop) (W : World) (g : Nat) (B : List (List S53)) (co : Int) (hA : Al S W g B co) : Calls Try.prog 13 #[.pointer (some ⟨g, 0, none⟩)] W fun e w' => e = .returned (.int .i64 co) ∧ W = w' := by
  obtain ⟨ok, hs, ho⟩ := hA
  exact stack_Stack_Cost.sk g B co ok W hs
/-- The row of those that could be attached. -/
def InA (S : Nat → Prop) (w0 w : World) (v : Value) (B : List (List S53)) : Prop := Below w0.heap.size w0 w ∧ ∃ ok, RowIn w0 ok w v B ∧ ∀ k, ok k → k < w.heap.size ∧ ¬ S k
section
variable {S S' T : Nat → Prop} {w w0 w1 w2 : World} {g : Nat} {v : Value} {B : List (List S53)}
theorem InA.but (h : InA S w0 w1 v B) (hb : Mine.But T w1 w2) (hT : ∀ k, T k → k < w1.heap.size → S k ∧ w0.heap.size ≤ k) : InA S w0 w2 v B := by
  obtain ⟨h0, ok, hs, ho⟩ := h
  exact ⟨h0.trans (hb.below (B := w0.heap.size) (fun k hk e => by have := (hT k e (Nat.lt_of_lt_of_le hk h0.size)).2; omega) h0.size), ok, Mine.R_but hs hb (fun k hk h1 h2 => (ho k h1).2 (hT k h2 hk).1), fun k hk => ⟨Nat.lt_of_lt_of_le (ho k hk).1 hb.size, (ho k hk).2⟩⟩
theorem InA.below (h : InA S w0 w1 v B) (hb : Below w1.heap.size w1 w2) : InA S w0 w2 v B := h.but (T := fun _ => False) (Mine.But.of_below hb) (fun _ h _ => h.elim)
theorem InA.more (h : InA S w0 w1 v B) (hS : ∀ k, S' k → S k ∨ w1.heap.size ≤ k) : InA S' w0 w1 v B := by
  obtain ⟨h0, ok, hs, ho⟩ := h
  exact ⟨h0, ok, hs, fun k hk => ⟨(ho k hk).1, fun h => by rcases hS k h with h1 | h1; exact (ho k hk).2 h1; have := (ho k hk).1; omega⟩⟩
end
def BuiltA (S : Nat → Prop) (ck : List S53 → Int) (L : List (List S53)) (W : World) (e : Ending) (w' : World) : Prop := ∃ g v, e = .returned (.tuple #[.pointer (some ⟨g, 0, none⟩), v]) ∧ W.heap.size ≤ g ∧ g < w'.heap.size ∧ Below W.heap.size W w' ∧ Al (fun k => S k ∨ k = g) w' g (BUILT ck L) (costOf (BUILT ck L)) ∧ InA (fun k => S k ∨ k = g) W w' v (BUILT ck L)
theorem built_al (k : Nat) (S : Nat → Prop) (A0 : Option Addr) (c0 : Nat) (L : List (List S53)) (ck : List S53 → Int) (W : World) (hS : ∀ k, S k → k < W.heap.size) (hr : Kd.C (Kd.slice 53 k53) W A0 L.length L) (hc : L.length ≤ c0) (hck : ∀ l ∈ L, ∃ p, check_Check.f k l = some (ck l, p)) (hcl : ∀ l ∈ L, ck l = 0 → 1 ≤ l.length ∧ l.length ≤ 4096) (hL : L.length ≤ 40) :
    Calls Try.prog 17 #[.slice A0 L.length c0] W (BuiltA S ck L W) := by
  refine (fairleadlaw15_built.sk k A0 c0 L ck W hr hc hck hcl hL).mono ?_
  intro e w' h
  obtain ⟨g, v, he, hg, hb, hs, hi⟩ := h
  refine ⟨g, v, he, hg, hs.lt, hb, ⟨fun k => (W.heap.size ≤ k ∧ k ≠ g) ∧ k < w'.heap.size, hs.more (fun k hk h => ⟨h, hk⟩) (fun h => h.1.2 rfl), fun k hk => ⟨hk.2, fun h => ?_⟩⟩, hb, fun k => (W.heap.size ≤ k ∧ k ≠ g) ∧ k < w'.heap.size, Mine.R_more hi (fun k hk h => ⟨h, hk⟩), fun k hk => ⟨hk.2, fun h => ?_⟩⟩
  all_goals
    rcases h with h | h
    · have := hS k h; omega
    · exact hk.1.2 h
def ForkA (S : Nat → Prop) (B : List (List S53)) (co : Int) (W : World) (e : Ending) (w' : World) : Prop := ∃ gf, e = .returned (.pointer (some ⟨gf, 0, none⟩)) ∧ W.heap.size ≤ gf ∧ gf < w'.heap.size ∧ Below W.heap.size W w' ∧ Al (fun k => S k ∨ k = gf) w' gf B co
theorem fork_al (S : Nat → Prop) (W : World) (g : Nat) (B : List (List S53)) (co : Int) (hS : ∀ k, S k → k < W.heap.size) (hA : Al S W g B co) (hL : B.length ≤ 40) : Calls Try.prog 21 #[.pointer (some ⟨g, 0, none⟩)] W (ForkA S B co W) := by
  obtain ⟨ok, hs, ho⟩ := hA
  refine (stack_Stack_Fork.sk g B co ok W hs hL).mono ?_
  intro e w' h
  obtain ⟨gf, he, hg, hb, hf⟩ := h
  refine ⟨gf, he, hg, hf.lt, hb, fun k => ((ok k ∧ k < W.heap.size) ∨ (W.heap.size ≤ k ∧ k ≠ gf)) ∧ k < w'.heap.size, hf.more (fun k hk h => ⟨h, hk⟩) (fun h => hf.og h.1), fun k hk => ⟨hk.2, fun h => ?_⟩⟩
  rcases hk.1 with h1 | h1
  · rcases h with h | h
    · exact (ho k h1.1).2 h
    · omega
  · rcases h with h | h
    · have := hS k h; omega
    · exact h1.2 h
theorem InA.reads {S : Nat → Prop} {w w0 : World} {A : Option Addr} {n c : Nat} {B : List (List S53)} (h : InA S w0 w (.slice A n c) B) : n = B.length ∧ B.length ≤ c ∧ Kd.C (Kd.slice 53 k53) w A B.length B := by
  obtain ⟨h0, ok, hs, ho⟩ := h
  obtain ⟨A', c', e, hl, hC⟩ := rowIn_reads hs h0
  injection e with e1 e2 e3
  subst e1 e3
  exact ⟨e2, hl, hC⟩
theorem R_there {α : Type} {d : Kd α} {e base : Nat} {ok : Nat → Prop} {w : World} {g n c : Nat} {xs : List α} (h : d.R e w base ok (.slice (some ⟨g, 0, none⟩) n c) xs) : w.there g 0 (n * d.sz) := by
  obtain ⟨_, inner, ho, _⟩ := h
  rcases ho.2 with ⟨h1, _⟩ | ⟨g', cap, cur, h1, _, hg, hnc, _, hcs, _⟩
  · cases h1
  · injection h1 with h1 h2 h3
    injection h1 with h1
    injection h1 with h1 _ _
    subst h1 h2 h3
    intro j hj
    rw [blk_cell hg, blk_frozen hg]
    have : xs.length * d.sz ≤ c * d.sz := Nat.mul_le_mul_right _ hnc
    exact ⟨by rw [Nat.zero_add, Array.getElem?_eq_getElem (by omega)]; rfl, rfl⟩
theorem but_setCells (w : World) (g o : Nat) (vs : List Value) : Mine.But (fun k => k = g) w (w.setCells g o vs) := by
  obtain ⟨h1, h2, h3, h4⟩ := setCells_same g vs o w
  exact ⟨h1, h2, h3, by rw [h4]; exact Nat.le_refl _, fun k _ h => setCells_far vs o k h⟩
set_option maxHeartbeats 8000000 in
set_option maxRecDepth 100000 in
theorem fairleadlaw15_StackFork.calls (k : Nat) (A0 : Option Addr) (c0 : Nat) (L : List (List S53)) (A1 : Option Addr) (c1 : Nat) (M1 : List S53) (A2 : Option Addr) (c2 : Nat) (M2 : List S53) (d0 d1 d2 d3 d4 d5 d6 d7 d8 : Int) (r : Bool) (w : World) (hr : Kd.C (Kd.slice 53 k53) w A0 L.length L) (hc : L.length ≤ c0) (hr1 : Kd.C k53 w A1 M1.length M1) (hc1 : M1.length ≤ c1) (hr2 : Kd.C k53 w A2 M2.length M2) (hc2 : M2.length ≤ c2) (h : fairleadlaw15_StackFork.P k L M1 M2 d0 d1 d2 d3 d4 d5 d6 d7 d8 ∧ r = true) :
    Calls Try.prog 7 #[.slice A0 L.length c0, .agg #[.slice A1 M1.length c1, .slice A2 M2.length c2], .agg #[.int .u32 d0, .int .u32 d1, .int .u64 d2, .int .u64 d3, .int .u64 d4, .int .u64 d5, .int .u64 d6, .int .u64 d7, .int .u64 d8]] w fun e w' => e = .returned (.bool r) ∧ Below w.heap.size w w' := by
  obtain ⟨⟨ha, b, hf, hb⟩, rfl⟩ := h
  have HR := Aside0.mk hr
  have HC := Aside0.mk hc
  have HR1 := Aside0.mk hr1
  have HC1 := Aside0.mk hc1
  have HR2 := Aside0.mk hr2
  have HC2 := Aside0.mk hc2
  have HA := Aside0.mk ha
  have HF := Aside0.mk hf
  have hu27_ := Try.underlying27
  have hu55_ := Try.underlying55
  clear hr hc ha hf hr1 hc1 hr2 hc2
  cases b with
  | false =>
    clear hb
    go_enter Try.func7, Try.ntmps7
    go_wp2_with (first | ((with_reducible refine gate_dst (N := 4) rfl ?_); refine box_event ?hg (N := 4) ?hd (cs := #[.slice A1 M1.length c1, .slice A2 M2.length c2]) (t := 55) ?hr ?_; (case hd => rfl); (case hg => rfl); (case hr => first | (go_simp; done) | (go_simp; rfl)); intro gm hg w1 hbox hb; have W1 := Aside0.mk hb; have BM1 := Aside0.mk hbox; have GM := Aside0.mk hg; clear hg hbox hb) | ((with_reducible refine gate_dst (N := 5) rfl ?_); refine box_event ?hg (N := 5) ?hd (cs := #[.int .u32 d0, .int .u32 d1, .int .u64 d2, .int .u64 d3, .int .u64 d4, .int .u64 d5, .int .u64 d6, .int .u64 d7, .int .u64 d8]) (t := 27) ?hr ?_; (case hd => rfl); (case hg => rfl); (case hr => first | (go_simp; done) | (go_simp; rfl)); intro gd hg w2 hbox hb; have HK2 := Aside0.mk (show FK w w2 (fun _ => False) gm gd #[.slice A1 M1.length c1, .slice A2 M2.length c2] #[.int .u32 d0, .int .u32 d1, .int .u64 d2, .int .u64 d3, .int .u64 d4, .int .u64 d5, .int .u64 d6, .int .u64 d7, .int .u64 d8] from ⟨below_step W1.out hb, blk_below BM1.out hb, hbox, fun _ h => h.elim⟩); clear W1 BM1; clear hg hbox hb) | (go_at_call 8; (refine (fairleadlaw15_awake.sk k _ HA.out).mono ?_); rintro e w3 ⟨rfl, hb⟩; have HK3 := Aside0.mk (HK2.out.step hb); clear hb HK2) | (go_at_call 9; (refine (fairleadlaw15_few.calls k _ _ L false _ (Kd.C_below HR.out HK3.out.below) HC.out HF.out).mono ?_); rintro e w4 ⟨rfl, hb⟩; have HK4 := Aside0.mk (HK3.out.step hb); have z0 := (blk_cell HK4.out.bm 0).trans (show _ = some (.slice A1 M1.length c1 : Value) from rfl); have z1 := (blk_cell HK4.out.bm 1).trans (show _ = some (.slice A2 M2.length c2 : Value) from rfl); clear hb HK3))
    go_ret
    exact ⟨rfl, HK4.out.below⟩
  | true =>
    by_cases g1 : (3000 : Int) < (M1.length : Int)
    · have b1 : decide ((3000 : Int) < (M1.length : Int)) = true := decide_eq_true g1
      have b2 : decide (3000 < M1.length) = true := decide_eq_true (by omega)
      clear hb g1
      go_enter Try.func7, Try.ntmps7
      go_wp2_with (first | ((with_reducible refine gate_dst (N := 4) rfl ?_); refine box_event ?hg (N := 4) ?hd (cs := #[.slice A1 M1.length c1, .slice A2 M2.length c2]) (t := 55) ?hr ?_; (case hd => rfl); (case hg => rfl); (case hr => first | (go_simp; done) | (go_simp; rfl)); intro gm hg w1 hbox hb; have W1 := Aside0.mk hb; have BM1 := Aside0.mk hbox; have GM := Aside0.mk hg; clear hg hbox hb) | ((with_reducible refine gate_dst (N := 5) rfl ?_); refine box_event ?hg (N := 5) ?hd (cs := #[.int .u32 d0, .int .u32 d1, .int .u64 d2, .int .u64 d3, .int .u64 d4, .int .u64 d5, .int .u64 d6, .int .u64 d7, .int .u64 d8]) (t := 27) ?hr ?_; (case hd => rfl); (case hg => rfl); (case hr => first | (go_simp; done) | (go_simp; rfl)); intro gd hg w2 hbox hb; have HK2 := Aside0.mk (show FK w w2 (fun _ => False) gm gd #[.slice A1 M1.length c1, .slice A2 M2.length c2] #[.int .u32 d0, .int .u32 d1, .int .u64 d2, .int .u64 d3, .int .u64 d4, .int .u64 d5, .int .u64 d6, .int .u64 d7, .int .u64 d8] from ⟨below_step W1.out hb, blk_below BM1.out hb, hbox, fun _ h => h.elim⟩); clear W1 BM1; clear hg hbox hb) | (go_at_call 8; (refine (fairleadlaw15_awake.sk k _ HA.out).mono ?_); rintro e w3 ⟨rfl, hb⟩; have HK3 := Aside0.mk (HK2.out.step hb); clear hb HK2) | (go_at_call 9; (refine (fairleadlaw15_few.calls k _ _ L true _ (Kd.C_below HR.out HK3.out.below) HC.out HF.out).mono ?_); rintro e w4 ⟨rfl, hb⟩; have HK4 := Aside0.mk (HK3.out.step hb); have z0 := (blk_cell HK4.out.bm 0).trans (show _ = some (.slice A1 M1.length c1 : Value) from rfl); have z1 := (blk_cell HK4.out.bm 1).trans (show _ = some (.slice A2 M2.length c2 : Value) from rfl); clear hb HK3))
      go_ret
      exact ⟨rfl, HK4.out.below⟩
    · have b1 : decide ((3000 : Int) < (M1.length : Int)) = false := decide_eq_false g1
      have b2 : decide (3000 < M1.length) = false := decide_eq_false (by omega)
      by_cases g2 : (3000 : Int) < (M2.length : Int)
      · have b3 : decide ((3000 : Int) < (M2.length : Int)) = true := decide_eq_true g2
        have b4 : decide (3000 < M2.length) = true := decide_eq_true (by omega)
        clear hb g1 g2
        go_enter Try.func7, Try.ntmps7
        go_wp2_with (first | ((with_reducible refine gate_dst (N := 4) rfl ?_); refine box_event ?hg (N := 4) ?hd (cs := #[.slice A1 M1.length c1, .slice A2 M2.length c2]) (t := 55) ?hr ?_; (case hd => rfl); (case hg => rfl); (case hr => first | (go_simp; done) | (go_simp; rfl)); intro gm hg w1 hbox hb; have W1 := Aside0.mk hb; have BM1 := Aside0.mk hbox; have GM := Aside0.mk hg; clear hg hbox hb) | ((with_reducible refine gate_dst (N := 5) rfl ?_); refine box_event ?hg (N := 5) ?hd (cs := #[.int .u32 d0, .int .u32 d1, .int .u64 d2, .int .u64 d3, .int .u64 d4, .int .u64 d5, .int .u64 d6, .int .u64 d7, .int .u64 d8]) (t := 27) ?hr ?_; (case hd => rfl); (case hg => rfl); (case hr => first | (go_simp; done) | (go_simp; rfl)); intro gd hg w2 hbox hb; have HK2 := Aside0.mk (show FK w w2 (fun _ => False) gm gd #[.slice A1 M1.length c1, .slice A2 M2.length c2] #[.int .u32 d0, .int .u32 d1, .int .u64 d2, .int .u64 d3, .int .u64 d4, .int .u64 d5, .int .u64 d6, .int .u64 d7, .int .u64 d8] from ⟨below_step W1.out hb, blk_below BM1.out hb, hbox, fun _ h => h.elim⟩); clear W1 BM1; clear hg hbox hb) | (go_at_call 8; (refine (fairleadlaw15_awake.sk k _ HA.out).mono ?_); rintro e w3 ⟨rfl, hb⟩; have HK3 := Aside0.mk (HK2.out.step hb); clear hb HK2) | (go_at_call 9; (refine (fairleadlaw15_few.calls k _ _ L true _ (Kd.C_below HR.out HK3.out.below) HC.out HF.out).mono ?_); rintro e w4 ⟨rfl, hb⟩; have HK4 := Aside0.mk (HK3.out.step hb); have z0 := (blk_cell HK4.out.bm 0).trans (show _ = some (.slice A1 M1.length c1 : Value) from rfl); have z1 := (blk_cell HK4.out.bm 1).trans (show _ = some (.slice A2 M2.length c2 : Value) from rfl); clear hb HK3))
        go_ret
        exact ⟨rfl, HK4.out.below⟩
      · obtain ⟨hL, ck, val, m, m1, m2, p1, p2, h1, h3, hM1, hM2, hv, hm, hm1, hm2⟩ := hb rfl (by omega) (by omega)
        have b3 : decide ((3000 : Int) < (M2.length : Int)) = false := decide_eq_false g2
        have b4 : decide (3000 < M2.length) = false := decide_eq_false (by omega)
        obtain ⟨B, hB⟩ : ∃ B, B = BUILT ck L := ⟨_, rfl⟩
        have hfit := fit_built ck L L (fun l hl => hl)
        rw [← hB] at hv hm hm1 hm2 hfit
        have hag := built_again ck L B hfit
        have hci := costOf_in B (fun l hl => (h3 l (hfit.mem l hl).1 (hfit.mem l hl).2).2)
        have hcost := hfit.cost
        obtain ⟨co, hco⟩ : ∃ co, co = costOf B := ⟨_, rfl⟩
        rw [← hco] at hci hcost hv hm1 hm2
        have lens : ∀ (e0 : Int) (M : List S53), (ATT e0 B co M).2.1.length ≤ 32 := by
          intro e0 M
          rcases att_cases e0 B co M with h | h
          · rw [h.2]; exact hfit.len
          · rw [h.2.2.2]; simp; omega
        have hl1 := lens (ck M1) M1
        have hl2 := lens (ck M2) M2
        obtain ⟨er1, her1⟩ : ∃ er, er = (ATT (ck M1) B co M1).1 := ⟨_, rfl⟩
        obtain ⟨B1, hB1⟩ : ∃ B2, B2 = (ATT (ck M1) B co M1).2.1 := ⟨_, rfl⟩
        obtain ⟨co1, hco1⟩ : ∃ co2, co2 = (ATT (ck M1) B co M1).2.2 := ⟨_, rfl⟩
        obtain ⟨er2, her2⟩ : ∃ er, er = (ATT (ck M2) B co M2).1 := ⟨_, rfl⟩
        obtain ⟨B2, hB2⟩ : ∃ B2, B2 = (ATT (ck M2) B co M2).2.1 := ⟨_, rfl⟩
        obtain ⟨co2, hco2⟩ : ∃ co2, co2 = (ATT (ck M2) B co M2).2.2 := ⟨_, rfl⟩
        rw [← hB1] at hl1 hm1
        rw [← hB2] at hl2 hm2
        rw [← hB1, ← hB2] at hv
        obtain ⟨X, hX⟩ : ∃ X, X = stFind m (stVals val B) ((B.length : Int) - 1) := ⟨_, rfl⟩
        obtain ⟨X1, hX1⟩ : ∃ X, X = stFind m1 (stVals val B1) ((B1.length : Int) - 1) := ⟨_, rfl⟩
        obtain ⟨X2, hX2⟩ : ∃ X, X = stFind m2 (stVals val B2) ((B2.length : Int) - 1) := ⟨_, rfl⟩
        have HB := Aside0.mk hB
        have HCo := Aside0.mk hco
        have HAg := Aside0.mk hag
        have H1 := Aside0.mk h1
        have H3 := Aside0.mk h3
        have H1B := Aside0.mk (fun l hl => h1 l (hfit.mem l hl).1)
        have H3B := Aside0.mk (fun l hl => h3 l (hfit.mem l hl).1)
        have HL40 := Aside0.mk (show B.length ≤ 40 by have := hfit.len; omega)
        have HLen := Aside0.mk hfit.len
        have HLen1 := Aside0.mk hl1
        have HLen2 := Aside0.mk hl2
        have HV := Aside0.mk (fun l hl => hv l (Or.inl hl))
        have HVB1 := Aside0.mk (fun l hl => hv l (Or.inr (Or.inl hl)))
        have HVB2 := Aside0.mk (fun l hl => hv l (Or.inr (Or.inr hl)))
        have Hm := Aside0.mk hm
        have Hm1 := Aside0.mk hm1
        have Hm2 := Aside0.mk hm2
        have HX := Aside0.mk hX
        have HX1 := Aside0.mk hX1
        have HX2 := Aside0.mk hX2
        have HCM1 := Aside0.mk hM1
        have HCM2 := Aside0.mk hM2
        have Heer1 := Aside0.mk her1
        have HbB1 := Aside0.mk hB1
        have Hcco1 := Aside0.mk hco1
        have Heer2 := Aside0.mk her2
        have HbB2 := Aside0.mk hB2
        have Hcco2 := Aside0.mk hco2
        have n1 : M1.length ≤ 3000 := by omega
        have n2 : M2.length ≤ 3000 := by omega
        have k0 : 0 ≤ co := hci.1
        have k1 : co ≤ 32768 := hcost
        have q1 : ((B.length : Int) != (B.length : Int)) = false := by simp
        have q2 : (co != co) = false := by simp
        have q3 : (m != m) = false := by simp
        have q4 : (X != X) = false := by simp
        have q5 : (er1 == er1) = true := by simp
        have q6 : (er2 == er2) = true := by simp
        have q7 : (m1 == m1) = true := by simp
        have q8 : (X1 == X1) = true := by simp
        have q9 : (m2 == m2) = true := by simp
        have q10 : (X2 == X2) = true := by simp
        clear hb hB hv hm hm1 hm2 hfit hag hci hcost hco lens hl1 hl2 her1 hB1 hco1 her2 hB2 hco2 hX hX1 hX2 h1 h3 hM1 hM2 g1 g2
        go_enter Try.func7, Try.ntmps7
        go_wp2_with (first | ((with_reducible refine gate_dst (N := 4) rfl ?_); refine box_event ?hg (N := 4) ?hd (cs := #[.slice A1 M1.length c1, .slice A2 M2.length c2]) (t := 55) ?hr ?_; (case hd => rfl); (case hg => rfl); (case hr => first | (go_simp; done) | (go_simp; rfl)); intro gm hg w1 hbox hb; have W1 := Aside0.mk hb; have BM1 := Aside0.mk hbox; have GM := Aside0.mk hg; clear hg hbox hb) | ((with_reducible refine gate_dst (N := 5) rfl ?_); refine box_event ?hg (N := 5) ?hd (cs := #[.int .u32 d0, .int .u32 d1, .int .u64 d2, .int .u64 d3, .int .u64 d4, .int .u64 d5, .int .u64 d6, .int .u64 d7, .int .u64 d8]) (t := 27) ?hr ?_; (case hd => rfl); (case hg => rfl); (case hr => first | (go_simp; done) | (go_simp; rfl)); intro gd hg w2 hbox hb; have HK2 := Aside0.mk (show FK w w2 (fun _ => False) gm gd #[.slice A1 M1.length c1, .slice A2 M2.length c2] #[.int .u32 d0, .int .u32 d1, .int .u64 d2, .int .u64 d3, .int .u64 d4, .int .u64 d5, .int .u64 d6, .int .u64 d7, .int .u64 d8] from ⟨below_step W1.out hb, blk_below BM1.out hb, hbox, fun _ h => h.elim⟩); clear W1 BM1; clear hg hbox hb) | (go_at_call 8; (refine (fairleadlaw15_awake.sk k _ HA.out).mono ?_); rintro e w3 ⟨rfl, hb⟩; have HK3 := Aside0.mk (HK2.out.step hb); clear hb HK2) | (go_at_call 9; (refine (fairleadlaw15_few.calls k _ _ L true _ (Kd.C_below HR.out HK3.out.below) HC.out HF.out).mono ?_); rintro e w4 ⟨rfl, hb⟩; have HK4 := Aside0.mk (HK3.out.step hb); have z0 := (blk_cell HK4.out.bm 0).trans (show _ = some (.slice A1 M1.length c1 : Value) from rfl); have z1 := (blk_cell HK4.out.bm 1).trans (show _ = some (.slice A2 M2.length c2 : Value) from rfl); clear hb HK3) | (go_at_call 17; (with_reducible refine (built_al k (fun _ => False) A0 c0 L ck _ (fun _ h_ => h_.elim) (Kd.C_below HR.out HK4.out.below) HC.out H1.out H3.out hL).mono ?_); intro e w5 h_; obtain ⟨g, v5, rfl, hge, hlt, hb, hs, hi⟩ := h_; rw [← HB.out] at hs hi; rw [← HCo.out] at hs; obtain ⟨A5, c5, hv5⟩ := Kd.R_slice hi.2.choose_spec.1; subst hv5; have hgm := blk_lt HK4.out.bm; have hgd := blk_lt HK4.out.bd; have h4 := HK4.out.below.size; have HK5 := Aside0.mk ((HK4.out.step hb).more (S' := fun k => k = g) (fun k h_ => Or.inr (h_ ▸ ⟨Nat.le_trans h4 hge, hlt, by omega, by omega⟩))); have HS5 := Aside0.mk (hs.more (S' := fun k => k = g) (fun k h_ => Or.inl (Or.inr h_))); have HI5 := Aside0.mk (hi.more (S' := fun k => k = g) (fun k h_ => Or.inl (Or.inr h_))); have HG := Aside0.mk hge; have HW4 := Aside0.mk h4; clear hge hlt hb hs hi hgm hgd h4 HK4 z0 z1) | (go_at_call 21; (with_reducible refine (fork_al (fun k => k = g) _ g B co (fun k h_ => (HK5.out.sz k h_).2.1) HS5.out HL40.out).mono ?_); intro e w6 h_; obtain ⟨gf, rfl, hge, hlt, hb, hf⟩ := h_; have hgm := blk_lt HK5.out.bm; have hgd := blk_lt HK5.out.bd; have h4 := HK5.out.below.size; have HS6 := Aside0.mk ((HS5.out.more (S' := (fun k => k = g ∨ k = gf)) (fun k h_ => by rcases h_ with rfl | rfl; exact Or.inl rfl; exact Or.inr hge)).below hb); have HI6 := Aside0.mk ((HI5.out.more (S' := (fun k => k = g ∨ k = gf)) (fun k h_ => by rcases h_ with rfl | rfl; exact Or.inl rfl; exact Or.inr hge)).below hb); have HF6 := Aside0.mk (show Al (fun k => k = g ∨ k = gf) w6 gf B co from hf); have HK6 := Aside0.mk ((HK5.out.step hb).more (S' := (fun k => k = g ∨ k = gf)) (fun k h_ => by rcases h_ with rfl | rfl; exact Or.inl rfl; exact Or.inr ⟨Nat.le_trans h4 hge, hlt, by omega, by omega⟩)); have hgg := (HK5.out.sz g rfl).2.1; have HNf := Aside0.mk (show gf ≠ g by omega); have HW5 := Aside0.mk (show w4.heap.size ≤ gf by have := HG.out; omega); clear hge hlt hb hf hgm hgd h4 hgg HK5 HS5 HI5) | (go_at_call 12; (with_reducible refine (len_al _ _ gf B co HF6.out).mono ?_); rintro e w_ ⟨rfl, rfl⟩) | (go_at_call 13; (with_reducible refine (cost_al _ _ gf B co HF6.out).mono ?_); rintro e w_ ⟨rfl, rfl⟩) | (go_at_call 12; (with_reducible refine (len_al _ _ g B co HS6.out).mono ?_); rintro e w_ ⟨rfl, rfl⟩) | (go_at_call 13; (with_reducible refine (cost_al _ _ g B co HS6.out).mono ?_); rintro e w_ ⟨rfl, rfl⟩) | ((with_reducible refine gate_dst (N := 77) rfl ?_); refine wpList_load_row rfl 27 (.tmp 5) rfl gd rfl 27 (#[.int .u32 d0, .int .u32 d1, .int .u64 d2, .int .u64 d3, .int .u64 d4, .int .u64 d5, .int .u64 d6, .int .u64 d7, .int .u64 d8]) (0, 0) _ HK6.out.bd hu27_ rfl (by kernel_rfl) ?_) | (go_at_call 15; (with_reducible refine (run_al k _ _ g B co d0 d1 d2 d3 d4 d5 d6 d7 d8 val m X HS6.out HV.out Hm.out HLen.out HX.out).mono ?_); rintro e w7 ⟨rfl, hb⟩; have HS7 := Aside0.mk (HS6.out.below hb); have HF7 := Aside0.mk (HF6.out.below hb); have HI7 := Aside0.mk (HI6.out.below hb); have HK7 := Aside0.mk (HK6.out.step hb); have z0 : (w7.alloc (.cells #[] 53)).cell? ⟨gm, 0, none⟩ = some (.slice A1 M1.length c1) := (blk_cell (blk_alloc HK7.out.bm _) 0).trans rfl; have hc7 : Kd.C k53 (w7.alloc (.cells #[] 53)) A1 M1.length M1 := Kd.C_below HR1.out (HK7.out.below.trans ((below_alloc (Below.refl w7.heap.size w7) _).mono HK7.out.below.size)); obtain ⟨inner, hrep, hsrc⟩ := sk_rows hc7 (w7.alloc (.cells #[] 53)) 0 (fun _ => False); have HRep := Aside0.mk hrep; have HSrc := Aside0.mk hsrc; clear hb hrep hsrc hc7 HS6 HF6 HI6 HK6) | ((with_reducible refine gate_builtin (b := .append) (xs := #[.tmp 81, .tmp 83]) rfl ?_); at_builtin; refine Mine.spread_event k53 (W := (w7.alloc (.cells #[] 53))) rfl (.tmp 81) (.tmp 83) 38 53 (.agg #[.int .u16 0, .int .u8 0, .int .u8 0, .int .u32 0]) 8 rfl Try.underlying38 sk_info53 rfl (by decide) (by decide) (ok := fun k => w7.heap.size ≤ k) (okp := fun _ => False) (b := w7.heap.size) (l := M1) rfl rfl (blk_new w7 _) rfl HRep.out HSrc.out (fun _ h_ => h_.elim) (fun k h_ => Nat.le_trans (below_alloc (Below.refl w7.heap.size w7) _).size h_) (Nat.le_refl _) (by omega) ?_; intro A8 c8 w8 hR8 hg8 hB8; obtain ⟨gb, rfl, hgb⟩ := hg8; have hb78 : Below w7.heap.size w7 w8 := (below_alloc (Below.refl _ _) _).trans (hB8.below (B := w7.heap.size) (fun k hk e => by omega) (by simp)); have hlt := Kd.R_lt hR8 gb rfl; have hgm := blk_lt HK7.out.bm; have hgd := blk_lt HK7.out.bd; have h4 := HK7.out.below.size; have HS8 := Aside0.mk ((HS7.out.more (S' := (fun k => k = g ∨ k = gf ∨ k = gb)) (fun k h_ => by rcases h_ with rfl | rfl | rfl; exact Or.inl (Or.inl rfl); exact Or.inl (Or.inr rfl); exact Or.inr hgb)).below hb78); have HF8 := Aside0.mk ((HF7.out.more (S' := (fun k => k = g ∨ k = gf ∨ k = gb)) (fun k h_ => by rcases h_ with rfl | rfl | rfl; exact Or.inl (Or.inl rfl); exact Or.inl (Or.inr rfl); exact Or.inr hgb)).below hb78); have HI8 := Aside0.mk ((HI7.out.more (S' := (fun k => k = g ∨ k = gf ∨ k = gb)) (fun k h_ => by rcases h_ with rfl | rfl | rfl; exact Or.inl (Or.inl rfl); exact Or.inl (Or.inr rfl); exact Or.inr hgb)).below hb78); have HK8 := Aside0.mk ((HK7.out.step hb78).more (S' := (fun k => k = g ∨ k = gf ∨ k = gb)) (fun k h_ => by rcases h_ with rfl | rfl | rfl; exact Or.inl (Or.inl rfl); exact Or.inl (Or.inr rfl); exact Or.inr ⟨Nat.le_trans h4 hgb, hlt, by omega, by omega⟩)); have hg1 := (HK7.out.sz g (Or.inl rfl)).2.1; have hg2 := (HK7.out.sz gf (Or.inr rfl)).2.1; have HNb := Aside0.mk (show gb ≠ g ∧ gb ≠ gf ∧ w4.heap.size ≤ gb from ⟨by omega, by omega, by have := HW5.out; omega⟩); have HMi := Aside0.mk hR8; have H7f := Aside0.mk hg2; clear hR8 hB8 hgb hb78 hlt hgm hgd h4 hg1 hg2 HS7 HF7 HI7 HK7 HRep HSrc z0) | (go_at_call 10; (with_reducible refine (attach_al k (fun k => k = g ∨ k = gf ∨ k = gb) w _ gf gm gd B co #[.slice A1 M1.length c1, .slice A2 M2.length c2] #[.int .u32 d0, .int .u32 d1, .int .u64 d2, .int .u64 d3, .int .u64 d4, .int .u64 d5, .int .u64 d6, .int .u64 d7, .int .u64 d8] (some ⟨gb, 0, none⟩) c8 M1 (ck M1) p1 er1 co1 B1 HF8.out HK8.out (Or.inr (Or.inl rfl)) (Kd.R_reads' HMi.out).2.2 (Kd.R_reads' HMi.out).2.1 HCM1.out (by omega) HLen.out k0 k1 Heer1.out HbB1.out Hcco1.out).mono ?_); rintro e w9 ⟨rfl, hbt, hk, hf⟩; have HK9 := Aside0.mk hk; have HTh := Aside0.mk (R_there (Mine.R_but HMi.out hbt (fun k _ h_ e_ => by have := H7f.out; have : k = gf := e_; omega))); clear HMi; have HS9 := Aside0.mk (HS8.out.but hbt (fun k e_ _ => by (have e2_ : k = gf := e_); rw [e2_]; exact ⟨(Or.inr (Or.inl rfl)), HNf.out⟩)); have HI9 := Aside0.mk (HI8.out.but hbt (fun k e_ _ => by (have e2_ : k = gf := e_); rw [e2_]; exact ⟨(Or.inr (Or.inl rfl)), HW5.out⟩)); have HF9 := Aside0.mk hf; clear hbt hk hf HK8 HF8 HS8 HI8))
        go_loopg [16] (M1.length + 1) (fun kq v16 w' => ∃ (i : Int), v16 = .int .i64 i ∧ Aside0 (0 ≤ i ∧ i ≤ (M1.length : Int)) ∧ Aside0 (M1.length - i.toNat < kq) ∧ Aside0 (Mine.But (fun k => k = gb) w9 w') ∧ Aside0 (w'.there gb 0 (M1.length * 4)))
        case atStart => exact ⟨0, rfl, ⟨by omega⟩, ⟨by simp⟩, ⟨Mine.But.refl _ _⟩, HTh⟩
        case round =>
          clear HTh
          obtain ⟨i, rfl, hi, hk2, hBt, hTh⟩ := hrel
          obtain ⟨k2, rfl⟩ : ∃ k2, gk = k2 + 1 := ⟨gk - 1, by have := hk2.out; omega⟩
          by_cases hlt : i < (M1.length : Int)
          · have y1 : decide (i < (M1.length : Int)) = true := decide_eq_true hlt
            have p1 : 0 ≤ i := hi.out.1
            go_wp2_with (first | ((with_reducible refine gate_store (t := 53) (p := 97) rfl ?_); refine wpList_store_mid rfl 53 (.tmp 97) (.tmp 96) rfl gb (i.toNat * 4) #[.int .u16 6, .int .u8 0, .int .u8 0, .int .u32 0] rfl rfl (fun j hj => by have h_ := hTh.out (i.toNat * 4 + j) (by simp at hj; omega); rw [Nat.zero_add] at h_; exact h_) (by kernel_rfl) (by first | decide | simp [Value.oneCell']) ?_; have HBt2 := Aside0.mk (hBt.out.trans (but_setCells wr gb (i.toNat * 4) [.int .u16 6, .int .u8 0, .int .u8 0, .int .u32 0])); have HTh2 := Aside0.mk (World.there_setCells hTh.out gb (i.toNat * 4) [.int .u16 6, .int .u8 0, .int .u8 0, .int .u32 0])))
            go_roundg k2
            case measure => have := hk2.out; omega
            case rel => exact ⟨i + 1, by first | rfl | (rw [show wrap64 (i + 1) = i + 1 by (unfold wrap64; omega)]), ⟨by omega⟩, ⟨by have := hk2.out; omega⟩, HBt2, HTh2⟩
          · have y1 : decide (i < (M1.length : Int)) = false := decide_eq_false hlt
            have HS10 := Aside0.mk (HS9.out.but hBt.out (fun k e_ _ => by (have e2_ : k = gb := e_); rw [e2_]; exact ⟨Or.inr (Or.inr rfl), HNb.out.1⟩))
            have HF10 := Aside0.mk (HF9.out.but hBt.out (fun k e_ _ => by (have e2_ : k = gb := e_); rw [e2_]; exact ⟨Or.inr (Or.inr rfl), HNb.out.2.1⟩))
            have HI10 := Aside0.mk (HI9.out.but hBt.out (fun k e_ _ => by (have e2_ : k = gb := e_); rw [e2_]; exact ⟨Or.inr (Or.inr rfl), HNb.out.2.2⟩))
            have HK10 := Aside0.mk (HK9.out.but hBt.out (fun k e_ _ => by (have e2_ : k = gb := e_); rw [e2_]; exact Or.inr (Or.inr rfl)))
            clear HS9 HF9 HI9 HK9 hBt hTh
            go_wp2_with (first | ((with_reducible refine gate_dst (N := 100) rfl ?_); refine wpList_load_row rfl 27 (.tmp 5) rfl gd rfl 27 (#[.int .u32 d0, .int .u32 d1, .int .u64 d2, .int .u64 d3, .int .u64 d4, .int .u64 d5, .int .u64 d6, .int .u64 d7, .int .u64 d8]) (0, 0) _ HK10.out.bd hu27_ rfl (by kernel_rfl) ?_) | (go_at_call 15; (with_reducible refine (run_al k _ _ g B co d0 d1 d2 d3 d4 d5 d6 d7 d8 val m X HS10.out HV.out Hm.out HLen.out HX.out).mono ?_); rintro e w11 ⟨rfl, hb⟩; have HS11 := Aside0.mk (HS10.out.below hb); have HF11 := Aside0.mk (HF10.out.below hb); have HI11 := Aside0.mk (HI10.out.below hb); have HK11 := Aside0.mk (HK10.out.step hb); have z1 := (blk_cell HK11.out.bm 1).trans (show _ = some (.slice A2 M2.length c2 : Value) from rfl); clear hb HS10 HF10 HI10 HK10) | (go_at_call 12; (with_reducible refine (len_al _ _ g B co HS11.out).mono ?_); rintro e w_ ⟨rfl, rfl⟩) | (go_at_call 10; (with_reducible refine (attach_al k (fun k => k = g ∨ k = gf ∨ k = gb) w _ g gm gd B co #[.slice A1 M1.length c1, .slice A2 M2.length c2] #[.int .u32 d0, .int .u32 d1, .int .u64 d2, .int .u64 d3, .int .u64 d4, .int .u64 d5, .int .u64 d6, .int .u64 d7, .int .u64 d8] A2 c2 M2 (ck M2) p2 er2 co2 B2 HS11.out HK11.out (Or.inl rfl) (Kd.C_below HR2.out HK11.out.below) HC2.out HCM2.out (by omega) HLen.out k0 k1 Heer2.out HbB2.out Hcco2.out).mono ?_); rintro e w12 ⟨rfl, hbt, hk, hf⟩; have HK12 := Aside0.mk hk; clear z1; have HF12 := Aside0.mk (HF11.out.but hbt (fun k e_ _ => by (have e2_ : k = g := e_); rw [e2_]; exact ⟨(Or.inl rfl), Ne.symm HNf.out⟩)); have HI12 := Aside0.mk (HI11.out.but hbt (fun k e_ _ => by (have e2_ : k = g := e_); rw [e2_]; exact ⟨(Or.inl rfl), HG.out⟩)); have HS12 := Aside0.mk hf; clear hbt hk hf HK11 HS11 HF11 HI11) | (go_at_call 17; (with_reducible refine (built_al k (fun k => k = g ∨ k = gf ∨ k = gb) A5 c5 B ck _ (fun k h_ => (HK12.out.sz k h_).2.1) HI12.out.reads.2.2 HI12.out.reads.2.1 H1B.out H3B.out HL40.out).mono ?_); intro e w13 h_; obtain ⟨gx, v13, rfl, hge, hlt, hb, hs, _⟩ := h_; rw [HAg.out, ← HCo.out] at hs; have hgm := blk_lt HK12.out.bm; have hgd := blk_lt HK12.out.bd; have h4 := HK12.out.below.size; have HS13 := Aside0.mk ((HS12.out.more (S' := (fun k => k = g ∨ k = gf ∨ k = gb ∨ k = gx)) (fun k h_ => by rcases h_ with rfl | rfl | rfl | rfl; exact Or.inl (Or.inl rfl); exact Or.inl (Or.inr (Or.inl rfl)); exact Or.inl (Or.inr (Or.inr rfl)); exact Or.inr hge)).below hb); have HF13 := Aside0.mk ((HF12.out.more (S' := (fun k => k = g ∨ k = gf ∨ k = gb ∨ k = gx)) (fun k h_ => by rcases h_ with rfl | rfl | rfl | rfl; exact Or.inl (Or.inl rfl); exact Or.inl (Or.inr (Or.inl rfl)); exact Or.inl (Or.inr (Or.inr rfl)); exact Or.inr hge)).below hb); have HI13 := Aside0.mk ((HI12.out.more (S' := (fun k => k = g ∨ k = gf ∨ k = gb ∨ k = gx)) (fun k h_ => by rcases h_ with rfl | rfl | rfl | rfl; exact Or.inl (Or.inl rfl); exact Or.inl (Or.inr (Or.inl rfl)); exact Or.inl (Or.inr (Or.inr rfl)); exact Or.inr hge)).below hb); have HX13 := Aside0.mk (hs.more (S' := (fun k => k = g ∨ k = gf ∨ k = gb ∨ k = gx)) (fun k h_ => Or.inl (by rcases h_ with rfl | rfl | rfl | rfl; exact Or.inl (Or.inl rfl); exact Or.inl (Or.inr (Or.inl rfl)); exact Or.inl (Or.inr (Or.inr rfl)); exact Or.inr rfl))); have HK13 := Aside0.mk ((HK12.out.step hb).more (S' := (fun k => k = g ∨ k = gf ∨ k = gb ∨ k = gx)) (fun k h_ => by rcases h_ with rfl | rfl | rfl | rfl; exact Or.inl (Or.inl rfl); exact Or.inl (Or.inr (Or.inl rfl)); exact Or.inl (Or.inr (Or.inr rfl)); exact Or.inr ⟨Nat.le_trans h4 hge, hlt, by omega, by omega⟩)); have HNgx := Aside0.mk (show gx ≠ g ∧ gx ≠ gf ∧ gx ≠ gb ∧ w4.heap.size ≤ gx from ⟨(by have := (HK12.out.sz g (Or.inl rfl)).2.1; omega), (by have := (HK12.out.sz gf (Or.inr (Or.inl rfl))).2.1; omega), (by have := (HK12.out.sz gb (Or.inr (Or.inr rfl))).2.1; omega), (by have := (HK12.out.sz g (Or.inl rfl)).2.1; have := HG.out; omega)⟩); clear hge hlt hb hs hgm hgd h4 HK12 HS12 HF12 HI12) | (go_at_call 17; (with_reducible refine (built_al k (fun k => k = g ∨ k = gf ∨ k = gb ∨ k = gx) A5 c5 B ck _ (fun k h_ => (HK13.out.sz k h_).2.1) HI13.out.reads.2.2 HI13.out.reads.2.1 H1B.out H3B.out HL40.out).mono ?_); intro e w14 h_; obtain ⟨gy, v14, rfl, hge, hlt, hb, hs, _⟩ := h_; rw [HAg.out, ← HCo.out] at hs; have hgm := blk_lt HK13.out.bm; have hgd := blk_lt HK13.out.bd; have h4 := HK13.out.below.size; have HS14 := Aside0.mk ((HS13.out.more (S' := (fun k => k = g ∨ k = gf ∨ k = gb ∨ k = gx ∨ k = gy)) (fun k h_ => by rcases h_ with rfl | rfl | rfl | rfl | rfl; exact Or.inl (Or.inl rfl); exact Or.inl (Or.inr (Or.inl rfl)); exact Or.inl (Or.inr (Or.inr (Or.inl rfl))); exact Or.inl (Or.inr (Or.inr (Or.inr rfl))); exact Or.inr hge)).below hb); have HF14 := Aside0.mk ((HF13.out.more (S' := (fun k => k = g ∨ k = gf ∨ k = gb ∨ k = gx ∨ k = gy)) (fun k h_ => by rcases h_ with rfl | rfl | rfl | rfl | rfl; exact Or.inl (Or.inl rfl); exact Or.inl (Or.inr (Or.inl rfl)); exact Or.inl (Or.inr (Or.inr (Or.inl rfl))); exact Or.inl (Or.inr (Or.inr (Or.inr rfl))); exact Or.inr hge)).below hb); have HI14 := Aside0.mk ((HI13.out.more (S' := (fun k => k = g ∨ k = gf ∨ k = gb ∨ k = gx ∨ k = gy)) (fun k h_ => by rcases h_ with rfl | rfl | rfl | rfl | rfl; exact Or.inl (Or.inl rfl); exact Or.inl (Or.inr (Or.inl rfl)); exact Or.inl (Or.inr (Or.inr (Or.inl rfl))); exact Or.inl (Or.inr (Or.inr (Or.inr rfl))); exact Or.inr hge)).below hb); have HX14 := Aside0.mk ((HX13.out.more (S' := (fun k => k = g ∨ k = gf ∨ k = gb ∨ k = gx ∨ k = gy)) (fun k h_ => by rcases h_ with rfl | rfl | rfl | rfl | rfl; exact Or.inl (Or.inl rfl); exact Or.inl (Or.inr (Or.inl rfl)); exact Or.inl (Or.inr (Or.inr (Or.inl rfl))); exact Or.inl (Or.inr (Or.inr (Or.inr rfl))); exact Or.inr hge)).below hb); have HY14 := Aside0.mk (hs.more (S' := (fun k => k = g ∨ k = gf ∨ k = gb ∨ k = gx ∨ k = gy)) (fun k h_ => Or.inl (by rcases h_ with rfl | rfl | rfl | rfl | rfl; exact Or.inl (Or.inl rfl); exact Or.inl (Or.inr (Or.inl rfl)); exact Or.inl (Or.inr (Or.inr (Or.inl rfl))); exact Or.inl (Or.inr (Or.inr (Or.inr rfl))); exact Or.inr rfl))); have HK14 := Aside0.mk ((HK13.out.step hb).more (S' := (fun k => k = g ∨ k = gf ∨ k = gb ∨ k = gx ∨ k = gy)) (fun k h_ => by rcases h_ with rfl | rfl | rfl | rfl | rfl; exact Or.inl (Or.inl rfl); exact Or.inl (Or.inr (Or.inl rfl)); exact Or.inl (Or.inr (Or.inr (Or.inl rfl))); exact Or.inl (Or.inr (Or.inr (Or.inr rfl))); exact Or.inr ⟨Nat.le_trans h4 hge, hlt, by omega, by omega⟩)); have HNgy := Aside0.mk (show gy ≠ g ∧ gy ≠ gf ∧ gy ≠ gb ∧ gy ≠ gx ∧ w4.heap.size ≤ gy from ⟨(by have := (HK13.out.sz g (Or.inl rfl)).2.1; omega), (by have := (HK13.out.sz gf (Or.inr (Or.inl rfl))).2.1; omega), (by have := (HK13.out.sz gb (Or.inr (Or.inr (Or.inl rfl)))).2.1; omega), (by have := (HK13.out.sz gx (Or.inr (Or.inr (Or.inr rfl)))).2.1; omega), (by have := (HK13.out.sz g (Or.inl rfl)).2.1; have := HG.out; omega)⟩); have z0 := (blk_cell HK14.out.bm 0).trans (show _ = some (.slice A1 M1.length c1 : Value) from rfl); clear hge hlt hb hs hgm hgd h4 HK13 HS13 HF13 HI13 HX13) | (go_at_call 10; (with_reducible refine (attach_al k (fun k => k = g ∨ k = gf ∨ k = gb ∨ k = gx ∨ k = gy) w _ gx gm gd B co #[.slice A1 M1.length c1, .slice A2 M2.length c2] #[.int .u32 d0, .int .u32 d1, .int .u64 d2, .int .u64 d3, .int .u64 d4, .int .u64 d5, .int .u64 d6, .int .u64 d7, .int .u64 d8] A1 c1 M1 (ck M1) p1 er1 co1 B1 HX14.out HK14.out (Or.inr (Or.inr (Or.inr (Or.inl rfl)))) (Kd.C_below HR1.out HK14.out.below) HC1.out HCM1.out (by omega) HLen.out k0 k1 Heer1.out HbB1.out Hcco1.out).mono ?_); rintro e w15 ⟨rfl, hbt, hk, hf⟩; have HK15 := Aside0.mk hk; clear z0 HI14; have z1 := (blk_cell hk.bm 1).trans (show _ = some (.slice A2 M2.length c2 : Value) from rfl); have HS15 := Aside0.mk (HS14.out.but hbt (fun k e_ _ => by (have e2_ : k = gx := e_); rw [e2_]; exact ⟨(Or.inr (Or.inr (Or.inr (Or.inl rfl)))), HNgx.out.1⟩)); have HF15 := Aside0.mk (HF14.out.but hbt (fun k e_ _ => by (have e2_ : k = gx := e_); rw [e2_]; exact ⟨(Or.inr (Or.inr (Or.inr (Or.inl rfl)))), HNgx.out.2.1⟩)); have HY15 := Aside0.mk (HY14.out.but hbt (fun k e_ _ => by (have e2_ : k = gx := e_); rw [e2_]; exact ⟨(Or.inr (Or.inr (Or.inr (Or.inl rfl)))), Ne.symm HNgy.out.2.2.2.1⟩)); have HX15 := Aside0.mk hf; clear hbt hk hf HK14 HX14 HS14 HF14 HY14) | (go_at_call 10; (with_reducible refine (attach_al k (fun k => k = g ∨ k = gf ∨ k = gb ∨ k = gx ∨ k = gy) w _ gy gm gd B co #[.slice A1 M1.length c1, .slice A2 M2.length c2] #[.int .u32 d0, .int .u32 d1, .int .u64 d2, .int .u64 d3, .int .u64 d4, .int .u64 d5, .int .u64 d6, .int .u64 d7, .int .u64 d8] A2 c2 M2 (ck M2) p2 er2 co2 B2 HY15.out HK15.out (Or.inr (Or.inr (Or.inr (Or.inr rfl)))) (Kd.C_below HR2.out HK15.out.below) HC2.out HCM2.out (by omega) HLen.out k0 k1 Heer2.out HbB2.out Hcco2.out).mono ?_); rintro e w16 ⟨rfl, hbt, hk, hf⟩; have HK16 := Aside0.mk hk; clear z1; have HS16 := Aside0.mk (HS15.out.but hbt (fun k e_ _ => by (have e2_ : k = gy := e_); rw [e2_]; exact ⟨(Or.inr (Or.inr (Or.inr (Or.inr rfl)))), HNgy.out.1⟩)); have HF16 := Aside0.mk (HF15.out.but hbt (fun k e_ _ => by (have e2_ : k = gy := e_); rw [e2_]; exact ⟨(Or.inr (Or.inr (Or.inr (Or.inr rfl)))), HNgy.out.2.1⟩)); have HX16 := Aside0.mk (HX15.out.but hbt (fun k e_ _ => by (have e2_ : k = gy := e_); rw [e2_]; exact ⟨(Or.inr (Or.inr (Or.inr (Or.inr rfl)))), HNgy.out.2.2.2.1⟩)); have HY16 := Aside0.mk hf; clear hbt hk hf HK15 HY15 HS15 HF15 HX15) | ((with_reducible refine gate_dst (N := 143) rfl ?_); refine wpList_load_row rfl 27 (.tmp 5) rfl gd rfl 27 (#[.int .u32 d0, .int .u32 d1, .int .u64 d2, .int .u64 d3, .int .u64 d4, .int .u64 d5, .int .u64 d6, .int .u64 d7, .int .u64 d8]) (0, 0) _ HK16.out.bd hu27_ rfl (by kernel_rfl) ?_) | (go_at_call 15; (with_reducible refine (run_al k _ _ gf B1 co1 d0 d1 d2 d3 d4 d5 d6 d7 d8 val m1 X1 HF16.out HVB1.out Hm1.out HLen1.out HX1.out).mono ?_); rintro e w17 ⟨rfl, hb⟩; have HX17 := Aside0.mk (HX16.out.below hb); have HS17 := Aside0.mk (HS16.out.below hb); have HY17 := Aside0.mk (HY16.out.below hb); have HK17 := Aside0.mk (HK16.out.step hb); clear hb HK16 HF16 HX16 HS16 HY16) | ((with_reducible refine gate_dst (N := 149) rfl ?_); refine wpList_load_row rfl 27 (.tmp 5) rfl gd rfl 27 (#[.int .u32 d0, .int .u32 d1, .int .u64 d2, .int .u64 d3, .int .u64 d4, .int .u64 d5, .int .u64 d6, .int .u64 d7, .int .u64 d8]) (0, 0) _ HK17.out.bd hu27_ rfl (by kernel_rfl) ?_) | (go_at_call 15; (with_reducible refine (run_al k _ _ gx B1 co1 d0 d1 d2 d3 d4 d5 d6 d7 d8 val m1 X1 HX17.out HVB1.out Hm1.out HLen1.out HX1.out).mono ?_); rintro e w18 ⟨rfl, hb⟩; have HS18 := Aside0.mk (HS17.out.below hb); have HY18 := Aside0.mk (HY17.out.below hb); have HK18 := Aside0.mk (HK17.out.step hb); clear hb HK17 HX17 HS17 HY17) | ((with_reducible refine gate_dst (N := 155) rfl ?_); refine wpList_load_row rfl 27 (.tmp 5) rfl gd rfl 27 (#[.int .u32 d0, .int .u32 d1, .int .u64 d2, .int .u64 d3, .int .u64 d4, .int .u64 d5, .int .u64 d6, .int .u64 d7, .int .u64 d8]) (0, 0) _ HK18.out.bd hu27_ rfl (by kernel_rfl) ?_) | (go_at_call 15; (with_reducible refine (run_al k _ _ g B2 co2 d0 d1 d2 d3 d4 d5 d6 d7 d8 val m2 X2 HS18.out HVB2.out Hm2.out HLen2.out HX2.out).mono ?_); rintro e w19 ⟨rfl, hb⟩; have HY19 := Aside0.mk (HY18.out.below hb); have HK19 := Aside0.mk (HK18.out.step hb); clear hb HK18 HS18 HY18) | ((with_reducible refine gate_dst (N := 161) rfl ?_); refine wpList_load_row rfl 27 (.tmp 5) rfl gd rfl 27 (#[.int .u32 d0, .int .u32 d1, .int .u64 d2, .int .u64 d3, .int .u64 d4, .int .u64 d5, .int .u64 d6, .int .u64 d7, .int .u64 d8]) (0, 0) _ HK19.out.bd hu27_ rfl (by kernel_rfl) ?_) | (go_at_call 15; (with_reducible refine (run_al k _ _ gy B2 co2 d0 d1 d2 d3 d4 d5 d6 d7 d8 val m2 X2 HY19.out HVB2.out Hm2.out HLen2.out HX2.out).mono ?_); rintro e w20 ⟨rfl, hb⟩; have HK20 := Aside0.mk (HK19.out.step hb); clear hb HK19 HY19 ))
            go_ret
            exact ⟨rfl, HK20.out.below⟩
/-- What is to be shown of fairleadlaw15_StackFork, without Go and memory. -/
def fairleadlaw15_StackFork.Pure : Prop := ∀ (l0 : List (List S53)) (l1 l2 : List S53) (d0 d1 d2 d3 d4 d5 d6 d7 d8 : Int), (l0.length ≤ 9223372036854775807 ∧ ∀ x ∈ l0, x.length ≤ 9223372036854775807 ∧ ∀ y ∈ x, (0 ≤ y.f0 ∧ y.f0 ≤ 65535) ∧ (0 ≤ y.f1 ∧ y.f1 ≤ 255) ∧ (0 ≤ y.f2 ∧ y.f2 ≤ 255) ∧ (0 ≤ y.f3 ∧ y.f3 ≤ 4294967295)) → ((l1.length ≤ 9223372036854775807 ∧ ∀ x ∈ l1, (0 ≤ x.f0 ∧ x.f0 ≤ 65535) ∧ (0 ≤ x.f1 ∧ x.f1 ≤ 255) ∧ (0 ≤ x.f2 ∧ x.f2 ≤ 255) ∧ (0 ≤ x.f3 ∧ x.f3 ≤ 4294967295)) ∧ (l2.length ≤ 9223372036854775807 ∧ ∀ x ∈ l2, (0 ≤ x.f0 ∧ x.f0 ≤ 65535) ∧ (0 ≤ x.f1 ∧ x.f1 ≤ 255) ∧ (0 ≤ x.f2 ∧ x.f2 ≤ 255) ∧ (0 ≤ x.f3 ∧ x.f3 ≤ 4294967295))) → ((0 ≤ d0 ∧ d0 ≤ 4294967295) ∧ (0 ≤ d1 ∧ d1 ≤ 4294967295) ∧ (0 ≤ d2 ∧ d2 ≤ 18446744073709551615) ∧ ((0 ≤ d3 ∧ d3 ≤ 18446744073709551615) ∧ (0 ≤ d4 ∧ d4 ≤ 18446744073709551615) ∧ (0 ≤ d5 ∧ d5 ≤ 18446744073709551615) ∧ (0 ≤ d6 ∧ d6 ≤ 18446744073709551615) ∧ (0 ≤ d7 ∧ d7 ≤ 18446744073709551615) ∧ (0 ≤ d8 ∧ d8 ≤ 18446744073709551615))) → ∃ k, fairleadlaw15_StackFork.P k l0 l1 l2 d0 d1 d2 d3 d4 d5 d6 d7 d8 ∧ true = true
end Go.Proofs.Yteojfjlklikaoaa.M
