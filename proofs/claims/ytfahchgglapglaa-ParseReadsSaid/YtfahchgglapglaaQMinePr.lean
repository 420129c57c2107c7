/- Words for parse: a reader of tokens behind a pointer. -/
import Derived.Test.YtfahchgglapglaaQWWords
import Derived.Test.YtfahchgglapglaaQWApart
import Derived.Test.YtfahchgglapglaaQWLast
import Derived.Deep.RegionHeld3
import Derived.Recover
import Derived.WalkSmall
set_option linter.unusedVariables false
set_option linter.unusedSimpArgs false
namespace Go.Proofs.Ytfahchgglapglaa.Mine
open Go Go.RowKit Go.Proofs.YtfahchgglapglaaW Go.Proofs.YtfahchgglapglaaW.PrintWords Go.Proofs.YtfahchgglapglaaW.PrintLast
/-- All but one block stand as they did. -/
structure One (g : Nat) (w w' : World) : Prop where
  os : w'.os = w.os
  tape : w'.tape = w.tape
  output : w'.output = w.output
  size : w.heap.size ≤ w'.heap.size
  block : ∀ k, k < w.heap.size → k ≠ g → w'.heap[k]? = w.heap[k]?
theorem One.refl (g : Nat) (w : World) : One g w w := ⟨rfl, rfl, rfl, Nat.le_refl _, fun _ _ _ => rfl⟩
theorem One.trans {g : Nat} {u v w : World} (h : One g u v) (k : One g v w) : One g u w :=
  ⟨k.os.trans h.os, k.tape.trans h.tape, k.output.trans h.output, Nat.le_trans h.size k.size, fun i hi h1 => (k.block i (Nat.lt_of_lt_of_le hi h.size) h1).trans (h.block i hi h1)⟩
theorem One.setCell {g : Nat} {u w : World} (h : One g u w) (j : Nat) (v : Value) : One g u (w.setCell ⟨g, j, none⟩ v) :=
  h.trans ⟨rfl, rfl, rfl, by simp [World.setCell], fun k hk h1 => Below.heap_setCell _ _ _ _ h1⟩
/-- A store into a block that was not there. -/
theorem One.put {g : Nat} {u w : World} (h : One g u w) {p : Addr} (hp : u.heap.size ≤ p.block) (v : Value) : One g u (w.setCell p v) :=
  ⟨h.os, h.tape, h.output, Nat.le_trans h.size (by simp [World.setCell]), fun k hk h1 => (Below.heap_setCell w p v k (by omega)).trans (h.block k hk h1)⟩
theorem One.put4 {g : Nat} {u w : World} (h : One g u w) {b : Nat} (hp : u.heap.size ≤ b) (v0 v1 v2 v3 : Value) : One g u ((((w.setCell ⟨b, 0, none⟩ v0).setCell ⟨b, 1, none⟩ v1).setCell ⟨b, 2, none⟩ v2).setCell ⟨b, 3, none⟩ v3) :=
  (((h.put (p := ⟨b, 0, none⟩) hp v0).put (p := ⟨b, 1, none⟩) hp v1).put (p := ⟨b, 2, none⟩) hp v2).put (p := ⟨b, 3, none⟩) hp v3
theorem One.row {g : Nat} {u w : World} (h : One g u w) {b : Nat} (hp : u.heap.size ≤ b) (cs : Array Value) : One g u (w.setRow b cs) :=
  ⟨h.os, h.tape, h.output, Nat.le_trans h.size (by simp [World.setRow]), fun k hk h1 => (setRow_other w b k cs (by omega)).trans (h.block k hk h1)⟩
theorem One.alloc {g : Nat} {u w : World} (h : One g u w) (ob : Obj) : One g u (w.alloc ob) :=
  h.trans ⟨rfl, rfl, rfl, by simp, fun k hk _ => Below.heap_alloc _ _ _ hk⟩
theorem One.drew {g : Nat} {u w : World} (h : One g u w) : One g u w.drew := ⟨h.os, h.tape, h.output, h.size, h.block⟩
theorem One.below {g : Nat} {u w w1 : World} (h : One g u w) (hb : Below w.heap.size w w1) : One g u w1 := h.trans ⟨hb.os, hb.tape, hb.output, hb.size, fun k hk _ => hb.block k hk⟩
theorem One.toBelow {g B : Nat} {u v w : World} (h : One g v w) (hb : Below B u v) (hB : B ≤ v.heap.size) (hg : B ≤ g) : Below B u w := ⟨h.os.trans hb.os, h.tape.trans hb.tape, h.output.trans hb.output, Nat.le_trans hb.size h.size, fun k hk => (h.block k (by omega) (by omega)).trans (hb.block k hk)⟩
theorem One.cell {g : Nat} {u w : World} (h : One g u w) {a : Addr} {v : Value} (hc : u.cell? a = some v) (h1 : a.block ≠ g) : w.cell? a = some v :=
  (World.cell?_of_block (h.block a.block (World.block_lt_of_cell? u _ hc) h1)).trans hc
theorem One.blk {g : Nat} {u w : World} (h : One g u w) {b : Nat} {ob : Obj} (hb : u.heap[b]? = some ob) (h1 : b ≠ g) : w.heap[b]? = some ob := (h.block b (blk_lt hb) h1).trans hb
/-- A cell behind four stores into another block. -/
theorem cell_sets4 {w : World} {a : Addr} {v : Value} (h : w.cell? a = some v) {g : Nat} (hne : a.block ≠ g) (v0 v1 v2 v3 : Value) : ((((w.setCell ⟨g, 0, none⟩ v0).setCell ⟨g, 1, none⟩ v1).setCell ⟨g, 2, none⟩ v2).setCell ⟨g, 3, none⟩ v3).drew.cell? a = some v :=
  (World.cell?_of_block (w := w) (show ((((w.setCell ⟨g, 0, none⟩ v0).setCell ⟨g, 1, none⟩ v1).setCell ⟨g, 2, none⟩ v2).setCell ⟨g, 3, none⟩ v3).heap[a.block]? = w.heap[a.block]? from ((Below.heap_setCell _ _ _ _ hne).trans ((Below.heap_setCell _ _ _ _ hne).trans ((Below.heap_setCell _ _ _ _ hne).trans (Below.heap_setCell _ _ _ _ hne)))))).trans h
theorem blk_far4 {w : World} {b : Nat} {ob : Obj} (h : w.heap[b]? = some ob) {g : Nat} (hne : b ≠ g) (v0 v1 v2 v3 : Value) : ((((w.setCell ⟨g, 0, none⟩ v0).setCell ⟨g, 1, none⟩ v1).setCell ⟨g, 2, none⟩ v2).setCell ⟨g, 3, none⟩ v3).heap[b]? = some ob := ((Below.heap_setCell _ _ _ _ hne).trans ((Below.heap_setCell _ _ _ _ hne).trans ((Below.heap_setCell _ _ _ _ hne).trans (Below.heap_setCell _ _ _ _ hne)))).trans h
theorem blk_put4 {w : World} {g t : Nat} {x0 x1 x2 x3 : Value} (h : w.heap[g]? = some (.cells #[x0, x1, x2, x3] t (0, 0))) (v0 v1 v2 v3 : Value) : ((((w.setCell ⟨g, 0, none⟩ v0).setCell ⟨g, 1, none⟩ v1).setCell ⟨g, 2, none⟩ v2).setCell ⟨g, 3, none⟩ v3).heap[g]? = some (.cells #[v0, v1, v2, v3] t (0, 0)) := blk_put (blk_put (blk_put (blk_put h 0 _ rfl) 1 _ rfl) 2 _ rfl) 3 _ rfl
theorem One.put2 {g : Nat} {u w : World} (h : One g u w) {b : Nat} (hp : u.heap.size ≤ b) (v0 v1 : Value) : One g u ((w.setCell ⟨b, 0, none⟩ v0).setCell ⟨b, 1, none⟩ v1) :=
  (h.put (p := ⟨b, 0, none⟩) hp v0).put (p := ⟨b, 1, none⟩) hp v1
theorem blk_far2 {w : World} {b : Nat} {ob : Obj} (h : w.heap[b]? = some ob) {g : Nat} (hne : b ≠ g) (v0 v1 : Value) : ((w.setCell ⟨g, 0, none⟩ v0).setCell ⟨g, 1, none⟩ v1).heap[b]? = some ob := ((Below.heap_setCell _ _ _ _ hne).trans (Below.heap_setCell _ _ _ _ hne)).trans h
theorem blk_put2 {w : World} {g t : Nat} {x0 x1 : Value} (h : w.heap[g]? = some (.cells #[x0, x1] t (0, 0))) (v0 v1 : Value) : ((w.setCell ⟨g, 0, none⟩ v0).setCell ⟨g, 1, none⟩ v1).heap[g]? = some (.cells #[v0, v1] t (0, 0)) := blk_put (blk_put h 0 _ rfl) 1 _ rfl
/-- A call, in a region that draws, of a Go function that panics. -/
theorem goes_bad {P : Program} {ops : Array Oper} {Q : Exit → Act → World → Prop} {oi : Oper} {N : Option Tmp} {a : Act} {w : World} {K : Act → World → Prop} {f : FuncId} {fn : Func} {as : Array Operand} {ts : Array TypeId} (hf : P.funcs[f]? = some fn) (hname : (fn.name == "runtime.NumGoroutine") = false) (hb : fn.body.isSome = true) (args : Array Value)
    (hw : Region.wanted oi (yielded ops a.tmps) = true) (hN : oi.dst = N) (hop : oi.op = .call { callee := .value (.func f), args := as, argTypes := ts }) (hargs : as.map a.eval = args)
    (h : Calls P f args w fun e w' => ∃ ch, e = .panicked ch ∧ Q (.panic ch) a w') : if Region.wanted oi (yielded ops a.tmps) = true then Oper.wp P oi a w K Q else K (a.put N undef) w := by
  have he := enters_ hf hname hb args w
  have hrun : (execOp a.eval oi).run P w = .ok (.enter f args) w := by
    unfold execOp
    simp [hop, resolve, Deferred.ofValue, invoke, Act.eval, hargs, he]
  rw [if_pos hw]
  subst hN
  unfold Oper.wp
  rw [hrun, Oper.upon_enter]
  refine h.mono fun e w'' hh => ?_
  obtain ⟨v, rfl, hk⟩ := hh
  exact hk
theorem One.grown {g : Nat} {u w w1 : World} (h : One g u w) {row : Option Nat} (hg : w.grownBy w1 row) (hrow : ∀ k, row = some k → u.heap.size ≤ k) : One g u w1 :=
  ⟨hg.os.trans h.os, hg.tape.trans h.tape, hg.output.trans h.output, Nat.le_trans h.size hg.size, fun k hk h1 => (hg.block k (Nat.lt_of_lt_of_le hk h.size) (fun e => by have := hrow k e.symm; omega)).trans (h.block k hk h1)⟩
section
variable {P : Program} {ops : Array Oper} {Q : Exit → Act → List Frame → World → Prop} {i : Nat} {rest : List Nat} {o : Oper} {a : Act} {cs : List Frame} {w w' : World}
theorem wpOpsS_value {v : Value} (ho : ops[i]? = some o) (hg : o.guard = none) (hrun : (execOp a.eval o).run P w = .ok (.value v) w') (h : wpOpsS P ops Q rest (a.put o.dst v) cs w') : wpOpsS P ops Q (i :: rest) a cs w := by
  have hw : Region.wanted o (yielded ops a.tmps) = true := by simp [Region.wanted, hg]
  simp only [wpOpsS, ho, hw, if_true, hrun]
  exact h
theorem wpOpsS_skip (ho : ops[i]? = some o) (hg : o.guard = none) (hrun : (execOp a.eval o).run P w = .ok .skip w') (h : wpOpsS P ops Q rest (a.put o.dst undef) cs w') : wpOpsS P ops Q (i :: rest) a cs w := by
  have hw : Region.wanted o (yielded ops a.tmps) = true := by simp [Region.wanted, hg]
  simp only [wpOpsS, ho, hw, if_true, hrun]
  exact h
theorem wpOpsS_recover {v : Value} {cs' : List Frame} (ho : ops[i]? = some o) (hg : o.guard = none) (hrun : (execOp a.eval o).run P w = .ok .recover w') (hr : recoverD cs = some (v, cs')) (h : wpOpsS P ops Q rest (a.put o.dst v) cs' w') : wpOpsS P ops Q (i :: rest) a cs w := by
  have hw : Region.wanted o (yielded ops a.tmps) = true := by simp [Region.wanted, hg]
  simp only [wpOpsS, ho, hw, if_true, hrun, hr]
  exact h
theorem wpOpsS_idle (ho : ops[i]? = some o) (hg : o.guard = none) (hrun : (execOp a.eval o).run P w = .ok .recover w') (hr : recoverD cs = none) (h : wpOpsS P ops Q rest (a.put o.dst .nilIface) cs w') : wpOpsS P ops Q (i :: rest) a cs w := by
  have hw : Region.wanted o (yielded ops a.tmps) = true := by simp [Region.wanted, hg]
  simp only [wpOpsS, ho, hw, if_true, hrun, hr]
  exact h
end
end Go.Proofs.Ytfahchgglapglaa.Mine
