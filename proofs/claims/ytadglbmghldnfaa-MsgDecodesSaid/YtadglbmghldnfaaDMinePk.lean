/- Words for pack: a writer and a reader behind a pointer. -/
import Derived.Test.YtadglbmghldnfaaDWWords
import Derived.Test.YtadglbmghldnfaaDWApart
import Derived.Test.YtadglbmghldnfaaDWLast
import Derived.Deep.RegionHeld3
import Derived.Deep.RegionLaw
set_option linter.unusedVariables false
set_option linter.unusedSimpArgs false
namespace Go.Proofs.Ytadglbmghldnfaa.Mine
open Go Go.RowKit Go.Proofs.YtadglbmghldnfaaW Go.Proofs.YtadglbmghldnfaaW.PrintWords
/-- Block g is a writer: what was laid, what is wrong; its row is its own. -/
structure IsW (T U B : Nat) (w : World) (g : Nat) (L : List Int) (e : Int) : Prop where
  blk : ∃ v, w.heap[g]? = some (.cells #[v, .int .i64 e] T (0, 0)) ∧ Kd.R (Kd.int .u8) U w B (fun k => k ≠ g) v L
  bg : B ≤ g
variable {T U B : Nat} {w w1 : World} {g : Nat} {L : List Int} {e : Int}
theorem IsW.lt (h : IsW T U B w g L e) : g < w.heap.size := by obtain ⟨⟨v, h1, _⟩, _⟩ := h; exact blk_lt h1
/-- What touches no elder block leaves it. -/
theorem IsW.below (h : IsW T U B w g L e) (hb : Below w.heap.size w w1) : IsW T U B w1 g L e := by
  obtain ⟨⟨v, h1, h2⟩, h3⟩ := h
  exact ⟨⟨v, blk_below h1 hb, Kd.R_below h2 hb⟩, h3⟩
theorem IsW.drewN (h : IsW T U B w g L e) (n : Nat) : IsW T U B (w.drewN n) g L e := by
  obtain ⟨⟨v, h1, h2⟩, h3⟩ := h
  exact ⟨⟨v, h1, Kd.R_step h2 (fun _ _ _ => rfl)⟩, h3⟩
theorem IsW.new (T U : Nat) {w0 w : World} (hB : B ≤ w.heap.size) : IsW T U B (w.alloc (.cells #[.slice none 0 0, .int .i64 0] T)) w.heap.size [] 0 :=
  ⟨⟨_, blk_new w _, Kd.R_nil _ _ _ _ _⟩, hB⟩
/-- A row of bytes that nothing writes. -/
structure Bts (U : Nat) (w : World) (g : Nat) (A : Option Addr) (c : Nat) (L : List Int) : Prop where
  le : L.length ≤ c
  C : Kd.C (Kd.int .u8) w A L.length L
  ty : ∀ ad, A = some ad → ad.block ≠ g ∧ ∃ cs, w.heap[ad.block]? = some (.cells cs U (0, 0))
theorem Bts.move {A : Option Addr} {c : Nat} (h : Bts U w g A c L) (hm : ∀ ad, A = some ad → w1.heap[ad.block]? = w.heap[ad.block]?) : Bts U w1 g A c L := by
  refine ⟨h.le, ?_, fun ad e => ?_⟩
  · have h1 := Kd.reads_of_C (d := (0 : Int)) h.C
    refine Kd.C_of_reads (d := (0 : Int)) ⟨h1.1, h1.2.1, fun hp => ?_⟩
    obtain ⟨ad, h2, h3⟩ := h1.2.2 hp
    refine ⟨ad, h2, fun j hj => ?_⟩
    exact (World.cell?_of_block (by rw [add_block]; exact hm ad h2)).trans (h3 j hj)
  · obtain ⟨h1, cs, h2⟩ := h.ty ad e
    exact ⟨h1, cs, (hm ad e).trans h2⟩
theorem Bts.lt {A : Option Addr} {c : Nat} (h : Bts U w g A c L) {ad : Addr} (e : A = some ad) : ad.block < w.heap.size := by
  obtain ⟨_, cs, h2⟩ := h.ty ad e
  exact blk_lt h2
theorem Bts.nil (c : Nat) : Bts U w g none c [] := ⟨Nat.zero_le _, Kd.C_nil _ _, fun ad e => by cases e⟩
/-- A cut's row. -/
theorem Bts.drop {P : Program} (t : TypeId) (ht : P.underlying t = some (.slice U)) (hinfo : (P.info? U).map (fun i => (i.zero, i.size, i.bytes)) = some (some (.int .u8 0), 1, 1)) {A : Option Addr} {c : Nat} {L : List Int} (j : Int) (h0 : 0 ≤ j) (hm : j ≤ L.length) (hc : L.length ≤ c) :
    ∃ A', (∀ W : World, (Instr.slice t (.slice A L.length c) (some (.int .i64 j)) none none).run P W = .ok (.slice A' (L.drop j.toNat).length (c - j.toNat)) W) ∧ (∀ ad, A' = some ad → ∃ ad0, A = some ad0 ∧ ad.block = ad0.block) ∧ ∀ (w : World) (g : Nat), Bts U w g A c L → Bts U w g A' (c - j.toNat) (L.drop j.toNat) := by
  obtain ⟨i, hi, hi2⟩ := Option.map_eq_some_iff.1 hinfo
  have hsz : i.size = 1 := by injection hi2 with _ h3; injection h3
  obtain ⟨m, rfl⟩ := Int.eq_ofNat_of_zero_le h0
  simp only [Int.toNat_natCast]
  have hl : (L.drop m).length = L.length - m := List.length_drop
  have hmn : m ≤ L.length := by omega
  refine ⟨if c = m then A else A.map (·.add m), fun W => ?_, fun ad e => ?_, fun w g h => ⟨by rw [hl]; omega, ?_, fun ad e => ?_⟩⟩
  · have hel : P.elem t = U := by simp [Program.elem, ht]
    have hu : P.underlying t = some (.slice (P.elem t)) := by rw [hel]; exact ht
    rw [run_slice_l W t A L.length c hu .i64 (m : Int) (Int.natCast_nonneg _) (by omega), hel, hl]
    simp [sizeOf, typeInfo, hi, hsz, sliced, Result.andThen]
  · split at e
    · exact ⟨ad, e, rfl⟩
    · cases A with
      | none => cases e
      | some a =>
        simp only [Option.map_some, Option.some.injEq] at e
        subst e
        exact ⟨a, rfl, by rw [add_block]⟩
  · have h2 := (Kd.reads_of_C (d := (0 : Int)) h.C).drop_ (c := c) m hmn hc
    rw [← hl] at h2
    exact Kd.C_of_reads h2
  · split at e
    · exact h.ty ad e
    · cases A with
      | none => cases e
      | some a =>
        simp only [Option.map_some, Option.some.injEq] at e
        subst e
        rw [add_block]
        exact h.ty a rfl
/-- A cut's beginning. -/
theorem Bts.take {P : Program} (t : TypeId) (ht : P.underlying t = some (.slice U)) (hinfo : (P.info? U).map (fun i => (i.zero, i.size, i.bytes)) = some (some (.int .u8 0), 1, 1)) {A : Option Addr} {c : Nat} {L : List Int} (j : Int) (h0 : 0 ≤ j) (hm : j ≤ L.length) (hc : L.length ≤ c) :
    (∀ W : World, (Instr.slice t (.slice A L.length c) none (some (.int .i64 j)) none).run P W = .ok (.slice A (L.take j.toNat).length c) W) ∧ ∀ (w : World) (g : Nat), Bts U w g A c L → Bts U w g A c (L.take j.toNat) := by
  obtain ⟨i, hi, _⟩ := Option.map_eq_some_iff.1 hinfo
  have hl : (L.take j.toNat).length = j.toNat := by rw [List.length_take]; omega
  refine ⟨?_, fun w g h => ⟨by rw [hl]; omega, Kd.C_take h.C (by omega), h.ty⟩⟩
  rw [hl]
  exact cut_to t U .i64 ht hi A L.length c j h0 hm hc
theorem Bts.other {A : Option Addr} {c : Nat} {L : List Int} {g g2 : Nat} {cs : Array Value} {t : TypeId} (h : Bts U w g A c L) (hb : w.heap[g2]? = some (.cells cs t (0, 0))) (ht : t ≠ U) : Bts U w g2 A c L := by
  refine ⟨h.le, h.C, fun ad e => ?_⟩
  obtain ⟨_, cs2, h2⟩ := h.ty ad e
  refine ⟨?_, cs2, h2⟩
  intro e2
  rw [← e2, h2] at hb
  injection hb with hb
  injection hb with _ h3
  exact ht h3.symm
theorem two_types {w : World} {k : Nat} {cs cs2 : Array Value} {t t2 : TypeId} (h : w.heap[k]? = some (.cells cs t (0, 0))) (h2 : w.heap[k]? = some (.cells cs2 t2 (0, 0))) (hne : t ≠ t2) : False := by
  rw [h] at h2
  injection h2 with h2
  injection h2 with _ h3
  exact hne h3
/-- Block g is a reader: what is left, what is wrong. -/
def IsR (T U : Nat) (w0 W : World) (g : Nat) (f0 : List Int) (f1 : Int) : Prop :=
  ∃ A0 c0, W.heap[g]? = some (.cells #[.slice A0 f0.length c0, .int .i64 f1] T (0, 0)) ∧ (w0.heap.size ≤ g ∧ ∀ ad, A0 = some ad → ad.block < g) ∧ Bts U W g A0 c0 f0
variable {w0 W W1 : World} {f0 : List Int} {f1 : Int}
theorem IsR.lt (h : IsR T U w0 W g f0 f1) : g < W.heap.size := by obtain ⟨A0, c0, hb, _⟩ := h; exact blk_lt hb
theorem IsR.ge (h : IsR T U w0 W g f0 f1) : w0.heap.size ≤ g := by obtain ⟨A0, c0, hb, hg, _⟩ := h; exact hg.1
theorem IsR.below (h : IsR T U w0 W g f0 f1) (hw : Below W.heap.size W W1) : IsR T U w0 W1 g f0 f1 := by
  obtain ⟨A0, c0, hb, hg, hr⟩ := h
  exact ⟨A0, c0, blk_below hb hw, hg, hr.move (fun ad e => hw.block _ (hr.lt e))⟩
theorem IsR.alloc (h : IsR T U w0 W g f0 f1) (o : Obj) : IsR T U w0 (W.alloc o) g f0 f1 := h.below (below_alloc (Below.refl _ _) o)
theorem IsR.drewN (h : IsR T U w0 W g f0 f1) (m : Nat) : IsR T U w0 (W.drewN m) g f0 f1 := by
  obtain ⟨A0, c0, hb, hg, hr⟩ := h
  exact ⟨A0, c0, hb, hg, hr.move (fun _ _ => rfl)⟩
theorem IsR.drew (h : IsR T U w0 W g f0 f1) : IsR T U w0 W.drew g f0 f1 := by
  obtain ⟨A0, c0, hb, hg, hr⟩ := h
  exact ⟨A0, c0, hb, hg, hr.move (fun _ _ => rfl)⟩
theorem IsR.at_ {w' : World} {m : Nat} (hq : W.drewN m = w') (h : IsR T U w0 W g f0 f1) : IsR T U w0 w' g f0 f1 := by subst hq; exact h.drewN m
theorem IsR.apart {α : Type} {d : Kd α} {e : Nat} {base : Nat} {ok : Nat → Prop} {v : Value} {xs : List α} (h : IsR T U w0 W g f0 f1) (ho : d.R e W base ok v xs) (ht : ∀ q, q ∈ e :: d.E → q ≠ T) : d.R e W base (fun k => ok k ∧ k ≠ g) v xs := by
  obtain ⟨A0, c0, hb, hg, hr⟩ := h
  exact Kd.R_types ho hb ht
theorem IsR.own_ne {α : Type} {d : Kd α} {e : Nat} {base : Nat} {ok : Nat → Prop} {v : Value} {xs : List α} (h : IsR T U w0 W g f0 f1) (ho : d.R e W base ok v xs) (ht : e ≠ T) : some g ≠ v.ownBlock := by
  obtain ⟨A0, c0, hb, hg, hr⟩ := h
  exact Kd.R_ne ho hb ht
theorem IsR.fresh (h : IsR T U w0 W g f0 f1) : ∀ k, W.heap.size ≤ k → k ≠ g := by
  obtain ⟨A0, c0, hb, hg, hr⟩ := h
  exact Kd.freshB hb
theorem IsR.ne_blk {a : Nat} {cs : Array Value} {t : TypeId} {fr : Nat × Nat} (h : IsR T U w0 W g f0 f1) (hb2 : W.heap[a]? = some (.cells cs t fr)) (ht : t ≠ T) : g ≠ a := by
  obtain ⟨A0, c0, hb, hg, hr⟩ := h
  rintro rfl
  rw [hb] at hb2
  injection hb2 with hb2
  injection hb2 with _ ht2
  exact ht ht2.symm
/-- All but the blocks of S stand as they did. -/
structure Bar (S : Nat → Prop) (w w' : World) : Prop where
  os : w'.os = w.os
  tape : w'.tape = w.tape
  output : w'.output = w.output
  size : w.heap.size ≤ w'.heap.size
  block : ∀ k, k < w.heap.size → ¬ S k → w'.heap[k]? = w.heap[k]?
variable {S S' : Nat → Prop} {u v : World}
theorem Bar.refl (S : Nat → Prop) (w : World) : Bar S w w := ⟨rfl, rfl, rfl, Nat.le_refl _, fun _ _ _ => rfl⟩
theorem Bar.trans (h : Bar S u v) (k : Bar S v w) : Bar S u w :=
  ⟨k.os.trans h.os, k.tape.trans h.tape, k.output.trans h.output, Nat.le_trans h.size k.size, fun i hi h1 => (k.block i (Nat.lt_of_lt_of_le hi h.size) h1).trans (h.block i hi h1)⟩
theorem Bar.mono (h : Bar S u w) (hs : ∀ k, S k → S' k) : Bar S' u w := ⟨h.os, h.tape, h.output, h.size, fun k hk h1 => h.block k hk (fun h2 => h1 (hs k h2))⟩
theorem Bar.fresh (h : Bar S u w) (hs : ∀ k, k < u.heap.size → S k → S' k) : Bar S' u w := ⟨h.os, h.tape, h.output, h.size, fun k hk h1 => h.block k hk (fun h2 => h1 (hs k hk h2))⟩
theorem Bar.setCell (h : Bar S u w) {g : Nat} (hs : S g) (j : Nat) (x : Value) : Bar S u (w.setCell ⟨g, j, none⟩ x) :=
  h.trans ⟨rfl, rfl, rfl, by simp [World.setCell], fun k hk h1 => Below.heap_setCell _ _ _ _ (fun e => h1 (e ▸ hs))⟩
theorem Bar.alloc (h : Bar S u w) (ob : Obj) : Bar S u (w.alloc ob) := h.trans ⟨rfl, rfl, rfl, by simp, fun k hk _ => Below.heap_alloc _ _ _ hk⟩
theorem Bar.of_below (h : Below u.heap.size u w) : Bar S u w := ⟨h.os, h.tape, h.output, h.size, fun k hk _ => h.block k hk⟩
theorem Bar.below (h : Bar S u w) (hS : ∀ k, k < B → ¬ S k) (hB : B ≤ u.heap.size) : Below B u w := ⟨h.os, h.tape, h.output, h.size, fun k hk => h.block k (by omega) (hS k hk)⟩
theorem Bar.keep (h : Bar S u w) (hs : ∀ k, k < u.heap.size → S k → k = g) : KeepBut u w g none := ⟨h.size, fun i hi h1 _ => h.block i hi (fun h2 => h1 (hs i hi h2))⟩
theorem Bar.blk (h : Bar S u w) {b : Nat} {ob : Obj} (hb : u.heap[b]? = some ob) (h1 : ¬ S b) : w.heap[b]? = some ob := (h.block b (blk_lt hb) h1).trans hb
theorem Bts.bar {A : Option Addr} {c : Nat} {L : List Int} (h : Bts U u g A c L) (hb : Bar S u w) (hs : ∀ k cs, S k → u.heap[k]? = some (.cells cs U (0, 0)) → False) : Bts U w g A c L :=
  h.move (fun ad e => hb.block _ (h.lt e) (fun h1 => by obtain ⟨_, cs, h2⟩ := h.ty ad e; exact hs _ cs h1 h2))
theorem IsR.bar {S : Nat → Prop} (h : IsR T U w0 W g f0 f1) (hb : Bar S W W1) (h1 : ¬ S g) (hs : ∀ k cs, S k → W.heap[k]? = some (.cells cs U (0, 0)) → False) : IsR T U w0 W1 g f0 f1 := by
  obtain ⟨A0, c0, hg, h2, h3⟩ := h
  exact ⟨A0, c0, hb.blk hg h1, h2, h3.bar hb hs⟩
/-- A row of one's own, behind a new reader. -/
theorem IsR.of_own {v : Value} {L : List Int} {base n : Nat} {ok : Nat → Prop} {w u : World} (hne : U ≠ T) (HR : Kd.R (Kd.int .u8) U w base ok v L) (hb : Below w.heap.size w u) (hw0 : w0.heap.size ≤ w.heap.size) (hg : g = w.heap.size) (hgb : u.heap[g]? = some (.cells #[v, .int .i64 f1] T (0, 0))) : IsR T U w0 u g L f1 := by
  obtain ⟨A, c, e, hl, hC⟩ := Kd.R_reads HR
  obtain ⟨inner, ho⟩ := Kd.R_own HR
  subst e
  have key : Bts U w g A c L := by
    refine ⟨hl, hC, fun ad ea => ?_⟩
    subst ea
    rcases ho.2 with ⟨h1, _⟩ | ⟨g1, cap, cur, h1, _, h2, _⟩
    · cases h1
    · injection h1 with h1 _ _
      injection h1 with h1
      subst h1
      exact ⟨by rw [hg]; exact Nat.ne_of_lt (blk_lt h2), cur, h2⟩
  exact ⟨A, c, hgb, ⟨by rw [hg]; exact hw0, fun ad ea => by rw [hg]; exact key.lt ea⟩, key.move (fun ad ea => hb.block _ (key.lt ea))⟩
structure IsV (T U B : Nat) (O : Nat → Prop) (w : World) (g : Nat) (L : List Int) (e : Int) : Prop where
  blk : ∃ v, w.heap[g]? = some (.cells #[v, .int .i64 e] T (0, 0)) ∧ Kd.R (Kd.int .u8) U w B O v L
  bg : B ≤ g
  og : ¬ O g
/-- What a writer's call may change. -/
def Wb (B : Nat) (O : Nat → Prop) (g : Nat) : Nat → Prop := fun k => k = g ∨ (O k ∧ B ≤ k)
variable {O : Nat → Prop}
theorem IsV.lt (h : IsV T U B O w g L e) : g < w.heap.size := by obtain ⟨⟨v, h1, _⟩, _⟩ := h; exact blk_lt h1
theorem IsV.drewN (h : IsV T U B O w g L e) (n : Nat) : IsV T U B O (w.drewN n) g L e := by
  obtain ⟨⟨v, h1, h2⟩, h3, h4⟩ := h
  exact ⟨⟨v, h1, Kd.R_step h2 (fun _ _ _ => rfl)⟩, h3, h4⟩
theorem IsV.below (h : IsV T U B O w g L e) (hb : Below w.heap.size w w1) : IsV T U B O w1 g L e := by
  obtain ⟨⟨v, h1, h2⟩, h3, h4⟩ := h
  exact ⟨⟨v, blk_below h1 hb, Kd.R_below h2 hb⟩, h3, h4⟩
theorem IsV.alloc (h : IsV T U B O w g L e) (o : Obj) : IsV T U B O (w.alloc o) g L e := h.below (below_alloc (Below.refl _ _) o)
/-- What is new lies elsewhere. -/
theorem IsV.more {O2 : Nat → Prop} (h : IsV T U B O w g L e) (hO : ∀ k, k < w.heap.size → O k → O2 k) (h2 : ¬ O2 g) : IsV T U B O2 w g L e := by
  obtain ⟨⟨v, h1, h3⟩, h4, _⟩ := h
  exact ⟨⟨v, h1, Kd.R_of_own (h1 := fun _ => rfl) (Kd.own_of_R h3) (fun k hk => hO k (Kd.R_lt h3 k hk) (h3.1 k hk))⟩, h4, h2⟩
theorem IsV.new (T U : Nat) {w : World} (hB : B ≤ w.heap.size) : IsV T U B (fun k => k ≠ w.heap.size) (w.alloc (.cells #[.slice none 0 0, .int .i64 0] T)) w.heap.size [] 0 :=
  ⟨⟨_, blk_new w _, Kd.R_nil _ _ _ _ _⟩, hB, fun h => h rfl⟩
theorem Bar.beneath {u v : World} (h : Bar (Wb B O g) u v) (hg : B ≤ g) (hB : B ≤ u.heap.size) : Below B u v := h.below (fun k hk h1 => by rcases h1 with h1 | h1 <;> omega) hB
/-- A byte more, in a region that draws. -/
theorem V_append_step {P : Program} {ops : Array Oper} {o : Oper} {a : Act} {K : Act → World → Prop} {Q : Exit → Act → World → Prop} {E : Prop} (T : Nat) {w W : World} (hgd : o.guard = none) (s x : Operand) (t : TypeId)
    (ho : o.op = .call { callee := .builtin .append, args := #[s, x], argTypes := #[t, t] }) (ht : P.underlying t = some (.slice U)) (hinfo : (P.info? U).map (fun i => (i.zero, i.size, i.bytes)) = some (some (.int .u8 0), 1, 1))
    (v : Value) (L : List Int) (y : Int) {e : Int} (hs : a.eval s = v) (hx : a.eval x = .slice (some ⟨W.heap.size, 0, none⟩) 1 1) (hb : W.heap[g]? = some (.cells #[v, .int .i64 e] T (0, 0))) (HR : Kd.R (Kd.int .u8) U W B O v L) (hog : ¬ O g) (hfr : ∀ k, w.heap.size ≤ k → O k) (HB : Bar (Wb B O g) w W) (hg : B ≤ g) (hbase : B ≤ w.heap.size) (hl : L.length + 1 ≤ 140737488355328)
    (h : ∀ A2 cp2 w1, w1.heap[g]? = some (.cells #[v, .int .i64 e] T (0, 0)) → Kd.R (Kd.int .u8) U w1 B O (.slice A2 (L ++ [y]).length cp2) (L ++ [y]) → Bar (Wb B O g) w w1 → K (a.put o.dst (.slice A2 (L ++ [y]).length cp2)) w1) :
    if Region.wanted o (yielded ops a.tmps) = true then Oper.wp P o a (W.alloc (.cells #[.int .u8 y] U)).drew K Q else E := by
  have hw : Region.wanted o (yielded ops a.tmps) = true := by simp [Region.wanted, hgd]
  rw [if_pos hw]
  have hBW := HB.beneath hg hbase
  have key := Kd.R_append_step (P := P) (ops := ops) (o := o) (a := a) (Q := Q) (Kc := K) (Kd.int .u8) (w0 := w) (W := W.drew) B hw s x t U (.int .u8 0) 1 ho ht hinfo rfl (by decide) (by decide) v L y [.int .u8 y] O (fun _ => False) hs hx rfl (fun _ hk => hk.elim) (fun k hk => hfr k (Nat.le_trans HB.size hk)) (Kd.R_drew HR) (below_drew hBW) (Nat.le_trans hbase HB.size) (by omega) (fun v1 w1 ho hb1 hg1 hat => by
    obtain ⟨A2, cp2, ev⟩ := Kd.R_slice ho
    subst ev
    refine h A2 cp2 w1 (blk_grown (show W.drew.heap[g]? = _ from hb) hg1 (fun e_ => hog (HR.1 g e_.symm))) ho (HB.trans ⟨hg1.os, hg1.tape, hg1.output, hg1.size, fun k hk h1 => hg1.block k hk (fun e_ => h1 (Or.inr ⟨HR.1 k e_.symm, Kd.R_base HR k e_.symm⟩))⟩))
  rw [if_pos hw] at key
  exact key
theorem cells9 {W : World} {g t : Nat} {v0 v1 v2 v3 v4 v5 v6 v7 v8 : Value} (h : W.heap[g]? = some (.cells #[v0, v1, v2, v3, v4, v5, v6, v7, v8] t (0, 0))) : W.cell? ⟨g, 0, none⟩ = some v0 ∧ W.cell? ⟨g, 1, none⟩ = some v1 ∧ W.cell? ⟨g, 2, none⟩ = some v2 ∧ W.cell? ⟨g, 3, none⟩ = some v3 ∧ W.cell? ⟨g, 4, none⟩ = some v4 ∧ W.cell? ⟨g, 5, none⟩ = some v5 ∧ W.cell? ⟨g, 6, none⟩ = some v6 ∧ W.cell? ⟨g, 7, none⟩ = some v7 ∧ W.cell? ⟨g, 8, none⟩ = some v8 :=
  ⟨(blk_cell h 0).trans rfl, (blk_cell h 1).trans rfl, (blk_cell h 2).trans rfl, (blk_cell h 3).trans rfl, (blk_cell h 4).trans rfl, (blk_cell h 5).trans rfl, (blk_cell h 6).trans rfl, (blk_cell h 7).trans rfl, (blk_cell h 8).trans rfl⟩
theorem cells15 {W : World} {g t : Nat} {v0 v1 v2 v3 v4 v5 v6 v7 v8 v9 v10 v11 v12 v13 v14 : Value} (h : W.heap[g]? = some (.cells #[v0, v1, v2, v3, v4, v5, v6, v7, v8, v9, v10, v11, v12, v13, v14] t (0, 0))) : W.cell? ⟨g, 0, none⟩ = some v0 ∧ W.cell? ⟨g, 1, none⟩ = some v1 ∧ W.cell? ⟨g, 2, none⟩ = some v2 ∧ W.cell? ⟨g, 3, none⟩ = some v3 ∧ W.cell? ⟨g, 4, none⟩ = some v4 ∧ W.cell? ⟨g, 5, none⟩ = some v5 ∧ W.cell? ⟨g, 6, none⟩ = some v6 ∧ W.cell? ⟨g, 7, none⟩ = some v7 ∧ W.cell? ⟨g, 8, none⟩ = some v8 ∧ W.cell? ⟨g, 9, none⟩ = some v9 ∧ W.cell? ⟨g, 10, none⟩ = some v10 ∧ W.cell? ⟨g, 11, none⟩ = some v11 ∧ W.cell? ⟨g, 12, none⟩ = some v12 ∧ W.cell? ⟨g, 13, none⟩ = some v13 ∧ W.cell? ⟨g, 14, none⟩ = some v14 :=
  ⟨(blk_cell h 0).trans rfl, (blk_cell h 1).trans rfl, (blk_cell h 2).trans rfl, (blk_cell h 3).trans rfl, (blk_cell h 4).trans rfl, (blk_cell h 5).trans rfl, (blk_cell h 6).trans rfl, (blk_cell h 7).trans rfl, (blk_cell h 8).trans rfl, (blk_cell h 9).trans rfl, (blk_cell h 10).trans rfl, (blk_cell h 11).trans rfl, (blk_cell h 12).trans rfl, (blk_cell h 13).trans rfl, (blk_cell h 14).trans rfl⟩
theorem cells16 {W : World} {g t : Nat} {v0 v1 v2 v3 v4 v5 v6 v7 v8 v9 v10 v11 v12 v13 v14 v15 : Value} (h : W.heap[g]? = some (.cells #[v0, v1, v2, v3, v4, v5, v6, v7, v8, v9, v10, v11, v12, v13, v14, v15] t (0, 0))) : W.cell? ⟨g, 0, none⟩ = some v0 ∧ W.cell? ⟨g, 1, none⟩ = some v1 ∧ W.cell? ⟨g, 2, none⟩ = some v2 ∧ W.cell? ⟨g, 3, none⟩ = some v3 ∧ W.cell? ⟨g, 4, none⟩ = some v4 ∧ W.cell? ⟨g, 5, none⟩ = some v5 ∧ W.cell? ⟨g, 6, none⟩ = some v6 ∧ W.cell? ⟨g, 7, none⟩ = some v7 ∧ W.cell? ⟨g, 8, none⟩ = some v8 ∧ W.cell? ⟨g, 9, none⟩ = some v9 ∧ W.cell? ⟨g, 10, none⟩ = some v10 ∧ W.cell? ⟨g, 11, none⟩ = some v11 ∧ W.cell? ⟨g, 12, none⟩ = some v12 ∧ W.cell? ⟨g, 13, none⟩ = some v13 ∧ W.cell? ⟨g, 14, none⟩ = some v14 ∧ W.cell? ⟨g, 15, none⟩ = some v15 :=
  ⟨(blk_cell h 0).trans rfl, (blk_cell h 1).trans rfl, (blk_cell h 2).trans rfl, (blk_cell h 3).trans rfl, (blk_cell h 4).trans rfl, (blk_cell h 5).trans rfl, (blk_cell h 6).trans rfl, (blk_cell h 7).trans rfl, (blk_cell h 8).trans rfl, (blk_cell h 9).trans rfl, (blk_cell h 10).trans rfl, (blk_cell h 11).trans rfl, (blk_cell h 12).trans rfl, (blk_cell h 13).trans rfl, (blk_cell h 14).trans rfl, (blk_cell h 15).trans rfl⟩
/-- A block of another type than U. -/
def HasT (U : Nat) (W : World) (b : Nat) : Prop := ∃ cs t, t ≠ U ∧ W.heap[b]? = some (.cells cs t (0, 0))
theorem HasT.of {W : World} {b t : Nat} {cs : Array Value} (h : W.heap[b]? = some (.cells cs t (0, 0))) (ht : t ≠ U) : HasT U W b := ⟨cs, t, ht, h⟩
theorem HasT.set {W : World} {b : Nat} (h : HasT U W b) (p : Addr) (u : Value) : HasT U (W.setCell p u) b := by
  obtain ⟨cs, t, ht, h⟩ := h
  by_cases e : p.block = b
  · exact ⟨if p.spot.isSome then cs else cs.setIfInBounds p.off u, t, ht, by simp [World.setCell, Array.getElem?_modify, h, e]⟩
  · exact ⟨cs, t, ht, blk_far (p := p) h (fun e2 => e e2.symm) u⟩
theorem HasT.alloc {W : World} {b : Nat} (h : HasT U W b) (o : Obj) : HasT U (W.alloc o) b := by obtain ⟨cs, t, ht, h⟩ := h; exact ⟨cs, t, ht, blk_alloc h o⟩
theorem HasT.drewN {W : World} {b : Nat} (h : HasT U W b) (n : Nat) : HasT U (W.drewN n) b := h
theorem HasT.drew {W : World} {b : Nat} (h : HasT U W b) : HasT U W.drew b := h
theorem IsR.far {p : Addr} (h : IsR T U w0 W g f0 f1) (hne : g ≠ p.block) (ht : HasT U W p.block) (u : Value) : IsR T U w0 (W.setCell p u) g f0 f1 := by
  obtain ⟨A0, c0, hb, hg, hr⟩ := h
  obtain ⟨cs, t, ht, h2⟩ := ht
  exact ⟨A0, c0, blk_far hb hne u, hg, hr.move (fun ad e => Below.heap_setCell W p u _ (fun e2 => by
    obtain ⟨_, cs2, h3⟩ := hr.ty ad e
    rw [e2] at h3
    exact two_types h2 h3 ht))⟩
/-- A row of the call's own, whose blocks are younger than the reader, has grown. -/
theorem IsR.grow5 {α : Type} {d : Kd α} {e : Nat} {base : Nat} {v : Value} {xs : List α} {u : World} (h : IsR T U w0 W g f0 f1) (hg : W.grownBy W1 v.ownBlock) (ho : d.R e u base (fun k_ => g < k_) v xs) : IsR T U w0 W1 g f0 f1 := by
  obtain ⟨A0, c0, hb, hge, hr⟩ := h
  exact ⟨A0, c0, blk_grown hb hg (fun e_ => Nat.lt_irrefl _ (ho.1 g e_.symm)), hge, hr.move (fun ad ea => hg.block _ (hr.lt ea) (fun e_ => by
    have h1 := ho.1 _ e_.symm
    have h2 := hge.2 ad ea
    omega))⟩
end Go.Proofs.Ytadglbmghldnfaa.Mine
