/- Words for parse: a reader of tokens behind a pointer. -/
import Derived.Test.YtmmgcbafdmkhbaaP1WWords
import Derived.Test.YtmmgcbafdmkhbaaP1WApart
import Derived.Test.YtmmgcbafdmkhbaaP1WLast
import Derived.Deep.RegionHeld3
import Derived.Recover
import Derived.WalkSmall
set_option linter.unusedVariables false
set_option linter.unusedSimpArgs false
namespace Go.Proofs.Ytmmgcbafdmkhbaa.Mine
open Go Go.RowKit Go.Proofs.YtmmgcbafdmkhbaaW Go.Proofs.YtmmgcbafdmkhbaaW.PrintWords Go.Proofs.YtmmgcbafdmkhbaaW.PrintLast
/-- All but one block stand as they did. -/
structure One (g : Nat) (w w' : World) : Prop where
  os : w'.os = w.os
  tape : w'.tape = w.tape
  output : w'.output = w.output
  size : w.heap.size ≤ w'.heap.size
  block : ∀ k, k < w.heap.size → k ≠ g → w'.heap[k]? = w.heap[k]?
theorem One.refl (g : Nat) (w : World) : One g w w := ⟨rfl, rfl, rfl, Nat.le_refl _, fun _ _ _ => rfl⟩
theorem One.trans {g : Nat} {u v w : World} (h : One g u v) (k : One g v w) : One g u w :=
  ⟨k.os.trans h.os, k.tape.trans h.tape, k.output.trans h.output, Nat.le_trans h.size k.size, fun i hi h1 => (k.block i (Nat.lt_of_lt_of_le hi h.size) h1).trans (h.block i hi h1)⟩
theorem One.setCell {g : Nat} {u w : World} (h : One g u w) (j : Nat) (v : Value) : One g u (w.setCell ⟨g, j, none⟩ v) :=
  h.trans ⟨rfl, rfl, rfl, by simp [World.setCell], fun k hk h1 => Below.heap_setCell _ _ _ _ h1⟩
/-- A store into a block that was not there. -/
theorem One.put {g : Nat} {u w : World} (h : One g u w) {p : Addr} (hp : u.heap.size ≤ p.block) (v : Value) : One g u (w.setCell p v) :=
  ⟨h.os, h.tape, h.output, Nat.le_trans h.size (by simp [World.setCell]), fun k hk h1 => (Below.heap_setCell w p v k (by omega)).trans (h.block k hk h1)⟩
theorem One.row {g : Nat} {u w : World} (h : One g u w) {b : Nat} (hp : u.heap.size ≤ b) (cs : Array Value) : One g u (w.setRow b cs) :=
  ⟨h.os, h.tape, h.output, Nat.le_trans h.size (by simp [World.setRow]), fun k hk h1 => (setRow_other w b k cs (by omega)).trans (h.block k hk h1)⟩
theorem One.alloc {g : Nat} {u w : World} (h : One g u w) (ob : Obj) : One g u (w.alloc ob) :=
  h.trans ⟨rfl, rfl, rfl, by simp, fun k hk _ => Below.heap_alloc _ _ _ hk⟩
theorem One.drew {g : Nat} {u w : World} (h : One g u w) : One g u w.drew := ⟨h.os, h.tape, h.output, h.size, h.block⟩
theorem One.below {g : Nat} {u w w1 : World} (h : One g u w) (hb : Below w.heap.size w w1) : One g u w1 := h.trans ⟨hb.os, hb.tape, hb.output, hb.size, fun k hk _ => hb.block k hk⟩
theorem One.cell {g : Nat} {u w : World} (h : One g u w) {a : Addr} {v : Value} (hc : u.cell? a = some v) (h1 : a.block ≠ g) : w.cell? a = some v :=
  (World.cell?_of_block (h.block a.block (World.block_lt_of_cell? u _ hc) h1)).trans hc
theorem One.blk {g : Nat} {u w : World} (h : One g u w) {b : Nat} {ob : Obj} (hb : u.heap[b]? = some ob) (h1 : b ≠ g) : w.heap[b]? = some ob := (h.block b (blk_lt hb) h1).trans hb
theorem One.grown {g : Nat} {u w w1 : World} (h : One g u w) {row : Option Nat} (hg : w.grownBy w1 row) (hrow : ∀ k, row = some k → u.heap.size ≤ k) : One g u w1 :=
  ⟨hg.os.trans h.os, hg.tape.trans h.tape, hg.output.trans h.output, Nat.le_trans h.size hg.size, fun k hk h1 => (hg.block k (Nat.lt_of_lt_of_le hk h.size) (fun e => by have := hrow k e.symm; omega)).trans (h.block k hk h1)⟩
section
variable {P : Program} {ops : Array Oper} {Q : Exit → Act → List Frame → World → Prop} {i : Nat} {rest : List Nat} {o : Oper} {a : Act} {cs : List Frame} {w w' : World}
end
end Go.Proofs.Ytmmgcbafdmkhbaa.Mine
