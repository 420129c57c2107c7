/- Words for vm: a machine behind a pointer, with a map among its fields. -/
import Derived.Test.YteojfjlklikaoaaP5WWords
import Derived.Test.YteojfjlklikaoaaP5WApart
import Derived.Test.YteojfjlklikaoaaP5WLast
import Derived.Maps.OwnSet
import Derived.Maps.OwnOps
import Derived.Maps.Views
import Derived.Deep.RegionHeld3
set_option linter.unusedVariables false
set_option linter.unusedSimpArgs false
namespace Go.Proofs.Yteojfjlklikaoaa.Mine
open Go Go.RowKit Go.Maps Go.Proofs.YteojfjlklikaoaaW Go.Proofs.YteojfjlklikaoaaW.PrintWords
/-- What a map's datum holds, key by key. -/
def Rep (D : DataW Unit) (C : Int → Int) : Prop := ∀ k : Int, 0 ≤ k ∧ k ≤ 4294967295 → D.atKey (.int .u32 k) (.lit (.int .u32 0)) = .lit (.int .u32 (C k))
/-- Block g is a machine (A, X, its cells' map gm, whether it is over, its answer); nothing below B was touched for it. -/
structure IsM (P : Program) (T K : TypeId) (B : Nat) (w : World) (g gm n : Nat) (a x : Int) (o : Bool) (r : Int) (C : Int → Int) : Prop where
  blk : w.heap[g]? = some (.cells #[.int .u32 a, .int .u32 x, .map (some gm), .bool o, .int .u32 r] T (0, 0))
  own : ∃ D, w.ownsMap P K (plainElem P K) gm n D ∧ Rep D C
  ne : g ≠ gm
  bg : B ≤ g
  bm : B ≤ gm
variable {P : Program} {T K : TypeId} {B : Nat} {w w1 : World} {g gm n : Nat} {a x : Int} {o : Bool} {r : Int} {C : Int → Int}
theorem IsM.c0 (h : IsM P T K B w g gm n a x o r C) : w.cell? ⟨g, 0, none⟩ = some (.int .u32 a) := (blk_cell h.blk 0).trans rfl
theorem IsM.c1 (h : IsM P T K B w g gm n a x o r C) : w.cell? ⟨g, 1, none⟩ = some (.int .u32 x) := (blk_cell h.blk 1).trans rfl
theorem IsM.c2 (h : IsM P T K B w g gm n a x o r C) : w.cell? ⟨g, 2, none⟩ = some (.map (some gm)) := (blk_cell h.blk 2).trans rfl
theorem IsM.c3 (h : IsM P T K B w g gm n a x o r C) : w.cell? ⟨g, 3, none⟩ = some (.bool o) := (blk_cell h.blk 3).trans rfl
theorem IsM.c4 (h : IsM P T K B w g gm n a x o r C) : w.cell? ⟨g, 4, none⟩ = some (.int .u32 r) := (blk_cell h.blk 4).trans rfl
theorem IsM.fr (h : IsM P T K B w g gm n a x o r C) (j : Nat) : w.frozen? ⟨g, j, none⟩ = false := blk_frozen h.blk j
theorem IsM.lt (h : IsM P T K B w g gm n a x o r C) : g < w.heap.size := blk_lt h.blk
theorem IsM.mlt (h : IsM P T K B w g gm n a x o r C) : gm < w.heap.size := by obtain ⟨D, h1, _⟩ := h.own; exact h1.lt
/-- A new block. -/
theorem IsM.alloc (h : IsM P T K B w g gm n a x o r C) (ob : Obj) : IsM P T K B (w.alloc ob) g gm n a x o r C := by
  obtain ⟨D, h1, h2⟩ := h.own
  exact ⟨blk_alloc h.blk ob, ⟨D, h1.alloc ob, h2⟩, h.ne, h.bg, h.bm⟩
theorem IsM.drew (h : IsM P T K B w g gm n a x o r C) : IsM P T K B w.drew g gm n a x o r C := by
  obtain ⟨D, h1, h2⟩ := h.own
  exact ⟨h.blk, ⟨D, h1.drew, h2⟩, h.ne, h.bg, h.bm⟩
/-- A call that touches no elder block. -/
theorem IsM.below (h : IsM P T K B w g gm n a x o r C) (hb : Below w.heap.size w w1) : IsM P T K B w1 g gm n a x o r C := by
  obtain ⟨D, h1, h2⟩ := h.own
  refine ⟨blk_below h.blk hb, ⟨D, ?_, h2⟩, h.ne, h.bg, h.bm⟩
  have := h1.lt
  obtain ⟨es, clock, h3, h4⟩ := h1
  exact ⟨es, clock, (hb.block gm this).trans h3, h4⟩
/-- A store into a field. -/
theorem IsM.put (h : IsM P T K B w g gm n a x o r C) (j : Nat) (u : Value) {a' x' r' : Int} {o' : Bool} (e : (#[.int .u32 a, .int .u32 x, .map (some gm), .bool o, .int .u32 r] : Array Value).setIfInBounds j u = #[.int .u32 a', .int .u32 x', .map (some gm), .bool o', .int .u32 r']) : IsM P T K B (w.setCell ⟨g, j, none⟩ u) g gm n a' x' o' r' C := by
  obtain ⟨D, h3, h4⟩ := h.own
  refine ⟨blk_put h.blk j u e, ⟨D, ?_, h4⟩, h.ne, h.bg, h.bm⟩
  obtain ⟨es, clock, h5, h6⟩ := h3
  exact ⟨es, clock, (Below.heap_setCell w ⟨g, j, none⟩ u gm (Ne.symm h.ne)).trans h5, h6⟩
theorem IsM.mono (h : IsM P T K B w g gm n a x o r C) {n' : Nat} (hn : n ≤ n') : IsM P T K B w g gm n' a x o r C := by
  obtain ⟨D, h1, h2⟩ := h.own
  exact ⟨h.blk, ⟨D, h1.mono hn, h2⟩, h.ne, h.bg, h.bm⟩
theorem wf_u32 {k : Int} (h : 0 ≤ k ∧ k ≤ 4294967295) : (Lit.int .u32 k).wf = true := by
  unfold Lit.wf
  simp [IntKind.min, IntKind.max, IntKind.bits, IntKind.signed]
  omega
/-- A cell's look-up. -/
theorem IsM.look (h : IsM P T K B w g gm n a x o r C) {tm : TypeId} (ht : P.underlying tm = some (.map K K)) (hk : P.underlying K = some (.int .u32)) (hz : ∀ w : World, (zeroValue K).run P w = .ok (.int .u32 0) w) {k : Int} (hk0 : 0 ≤ k ∧ k ≤ 4294967295) :
    (Instr.lookup tm (.map (some gm)) (.int .u32 k) false).run P w = .ok (.int .u32 (C k)) w := by
  obtain ⟨D, h1, h2⟩ := h.own
  obtain ⟨c, hrun, hat, _⟩ := h1.lookup_int (int_keyed hk) ht hk (hz w) (keyOf_int_mk hk (wf_u32 hk0))
  have := hat.symm.trans (h2 k hk0)
  simp only [DataW.lit.injEq, Lit.int.injEq, true_and] at this
  rw [hrun, this]
/-- A cell's store. -/
theorem IsM.upd (h : IsM P T K B w g gm n a x o r C) {tm : TypeId} (ht : P.underlying tm = some (.map K K)) (hk : P.underlying K = some (.int .u32)) (hn : n < maxLen) {k v : Int} (hk0 : 0 ≤ k ∧ k ≤ 4294967295) (hv : 0 ≤ v ∧ v ≤ 4294967295) :
    ∃ w', (Instr.mapUpdate tm (.map (some gm)) (.int .u32 k) (.int .u32 v)).run P w = .ok () w' ∧ IsM P T K B w' g gm (n + 1) a x o r (fun j => if j = k then v else C j) ∧ w.grownBy w' (some gm) := by
  obtain ⟨D, h1, h2⟩ := h.own
  obtain ⟨w', hrun, ho, hg⟩ := h1.update (int_keyed hk) ht hn (keyOf_int_mk hk (wf_u32 hk0)) (plainElem_int hk (wf_u32 hv))
  refine ⟨w', hrun, ⟨blk_grown h.blk hg (by intro e; exact h.ne (Option.some.inj e)), ⟨_, ho, fun j hj => ?_⟩, h.ne, h.bg, h.bm⟩, hg⟩
  have hm : IsMap D := by obtain ⟨es, clock, _, _, _, e⟩ := h1; exact ⟨_, e⟩
  by_cases hjk : j = k
  · subst hjk
    rw [atKey_put_same hm (by simp [WideAt.IsKeyLit])]
    simp only [if_true]
  · rw [atKey_put_other (by intro e; exact hjk (by simpa using e))]
    simp only [if_neg hjk]
    exact h2 j hj
/-- The first of two variables that were made ahead of a store. -/
theorem box1 (w : World) (p : Addr) (u : Value) (cs : Array Value) (t : TypeId) (ob : Obj) (j : Nat) {v : Value} (h : cs[j]? = some v) : (((w.setCell p u).alloc (.cells cs t (0, 0))).alloc ob).cell? ⟨w.heap.size, j, none⟩ = some v := by
  have e : (w.setCell p u).heap.size = w.heap.size := by simp [World.setCell]
  rw [← e]
  exact (blk_cell (blk_alloc (blk_new _ _) _) j).trans h
theorem box0 (w : World) (cs : Array Value) (t : TypeId) (ob : Obj) (j : Nat) {v : Value} (h : cs[j]? = some v) : ((w.alloc (.cells cs t (0, 0))).alloc ob).cell? ⟨w.heap.size, j, none⟩ = some v :=
  (blk_cell (blk_alloc (blk_new _ _) _) j).trans h
theorem below2 {B : Nat} {w W : World} (h : Below B w W) (hB : B ≤ W.heap.size) (o1 o2 : Obj) : Below B w ((W.alloc o1).alloc o2) :=
  (h.alloc hB o1).alloc (Nat.le_trans hB (by simp)) o2
/-- All but two blocks stand as they did. -/
structure Two (g gm : Nat) (w w' : World) : Prop where
  os : w'.os = w.os
  tape : w'.tape = w.tape
  output : w'.output = w.output
  size : w.heap.size ≤ w'.heap.size
  block : ∀ k, k < w.heap.size → k ≠ g → k ≠ gm → w'.heap[k]? = w.heap[k]?
theorem Two.refl (g gm : Nat) (w : World) : Two g gm w w := ⟨rfl, rfl, rfl, Nat.le_refl _, fun _ _ _ _ => rfl⟩
theorem Two.trans {g gm : Nat} {u v w : World} (h : Two g gm u v) (k : Two g gm v w) : Two g gm u w :=
  ⟨k.os.trans h.os, k.tape.trans h.tape, k.output.trans h.output, Nat.le_trans h.size k.size, fun i hi h1 h2 => (k.block i (Nat.lt_of_lt_of_le hi h.size) h1 h2).trans (h.block i hi h1 h2)⟩
theorem Two.setCell {g gm : Nat} {u w : World} (h : Two g gm u w) (j : Nat) (v : Value) : Two g gm u (w.setCell ⟨g, j, none⟩ v) :=
  h.trans ⟨rfl, rfl, rfl, by simp [World.setCell], fun k hk h1 _ => Below.heap_setCell _ _ _ _ h1⟩
theorem Two.alloc {g gm : Nat} {u w : World} (h : Two g gm u w) (ob : Obj) : Two g gm u (w.alloc ob) :=
  h.trans ⟨rfl, rfl, rfl, by simp, fun k hk _ _ => Below.heap_alloc _ _ _ hk⟩
theorem Two.alloc2 {g gm : Nat} {u w : World} (h : Two g gm u w) (o1 o2 : Obj) : Two g gm u ((w.alloc o1).alloc o2) := (h.alloc o1).alloc o2
theorem Two.drew {g gm : Nat} {u w : World} (h : Two g gm u w) : Two g gm u w.drew := ⟨h.os, h.tape, h.output, h.size, h.block⟩
theorem Two.grown {g gm : Nat} {u w w1 : World} (h : Two g gm u w) (hg : w.grownBy w1 (some gm)) : Two g gm u w1 :=
  h.trans ⟨hg.os, hg.tape, hg.output, hg.size, fun k hk _ h2 => hg.block k hk (fun e => h2 (Option.some.inj e))⟩
theorem Two.of_below {g gm : Nat} {u w : World} (h : Below u.heap.size u w) : Two g gm u w := ⟨h.os, h.tape, h.output, h.size, fun k hk _ _ => h.block k hk⟩
theorem Two.below {g gm B : Nat} {u w : World} (h : Two g gm u w) (hB : B ≤ u.heap.size) (h1 : B ≤ g) (h2 : B ≤ gm) : Below B u w := ⟨h.os, h.tape, h.output, h.size, fun k hk => h.block k (by omega) (by omega) (by omega)⟩
/-- A cell of another block. -/
theorem Two.cell {g gm : Nat} {u w : World} (h : Two g gm u w) {a : Addr} {v : Value} (hc : u.cell? a = some v) (h1 : a.block ≠ g) (h2 : a.block ≠ gm) : w.cell? a = some v :=
  (World.cell?_of_block (h.block a.block (World.block_lt_of_cell? u _ hc) h1 h2)).trans hc
/-- What is done elsewhere leaves a machine. -/
theorem IsM.two (h : IsM P T K B w g gm n a x o r C) {p q : Nat} (ht : Two p q w w1) (h1 : g ≠ p) (h2 : g ≠ q) (h3 : gm ≠ p) (h4 : gm ≠ q) : IsM P T K B w1 g gm n a x o r C := by
  have hg := h.lt
  have hm := h.mlt
  obtain ⟨D, h5, h6⟩ := h.own
  refine ⟨(ht.block g hg h1 h2).trans h.blk, ⟨D, ?_, h6⟩, h.ne, h.bg, h.bm⟩
  obtain ⟨es, clock, h7, h8⟩ := h5
  exact ⟨es, clock, (ht.block gm hm h3 h4).trans h7, h8⟩
theorem IsM.same (h : IsM P T K B w g gm n a x o r C) (h1 : w1.heap[g]? = w.heap[g]?) (h2 : w1.heap[gm]? = w.heap[gm]?) : IsM P T K B w1 g gm n a x o r C := by
  obtain ⟨D, h5, h6⟩ := h.own
  refine ⟨h1.trans h.blk, ⟨D, ?_, h6⟩, h.ne, h.bg, h.bm⟩
  obtain ⟨es, clock, h7, h8⟩ := h5
  exact ⟨es, clock, h2.trans h7, h8⟩
theorem Two.blk {g gm : Nat} {u w : World} (h : Two g gm u w) {b : Nat} {ob : Obj} (hb : u.heap[b]? = some ob) (h1 : b ≠ g) (h2 : b ≠ gm) : w.heap[b]? = some ob := (h.block b (blk_lt hb) h1 h2).trans hb
theorem made (P : Program) (T K : TypeId) {B : Nat} (w : World) (hB : B ≤ w.heap.size) : IsM P T K B ((w.alloc (.map #[] 0)).alloc (.cells #[.int .u32 0, .int .u32 0, .map (some w.heap.size), .bool false, .int .u32 0] T (0, 0))) (w.heap.size + 1) w.heap.size 0 0 0 false 0 (fun _ => 0) := by
  refine ⟨?_, ⟨.map [], (World.ownsMap_made w P K _).alloc _, fun k _ => rfl⟩, by omega, by omega, hB⟩
  have := blk_new (w.alloc (.map #[] 0)) (.cells #[.int .u32 0, .int .u32 0, .map (some w.heap.size), .bool false, .int .u32 0] T (0, 0))
  simpa using this
end Go.Proofs.Yteojfjlklikaoaa.Mine
