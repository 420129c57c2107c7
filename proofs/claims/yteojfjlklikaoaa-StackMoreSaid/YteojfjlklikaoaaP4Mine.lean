/- Words beside the print's own: arrays of whole numbers, make with a capacity. -/
import Derived.Test.YteojfjlklikaoaaP4WWords
import Derived.Test.YteojfjlklikaoaaP4WApart
import Derived.Test.YteojfjlklikaoaaP4WLast
set_option linter.unusedVariables false
set_option linter.unusedSimpArgs false
namespace Go.Proofs.Yteojfjlklikaoaa.Mine
open Go Go.RowKit Go.Proofs.YteojfjlklikaoaaW Go.Proofs.YteojfjlklikaoaaW.PrintWords
/-- Whether a cell is there does not hang on a store. -/
theorem isSome_setCell (w : World) (p a : Addr) (v : Value) : ((w.setCell p v).cell? a).isSome = (w.cell? a).isSome := by
  unfold World.setCell World.cell?
  simp only [Array.getElem?_modify]
  by_cases hb : p.block = a.block
  · rw [if_pos hb]
    cases hh : w.heap[a.block]? with
    | none => rfl
    | some o =>
      cases o <;> simp only [Option.map_some]
      by_cases hp : p.spot.isSome
      · simp [hp]
      · by_cases ha : a.spot.isSome
        · simp [ha]
        · simp only [hp, ha]
          simp only [Bool.false_eq_true, if_false, Array.getElem?_setIfInBounds]
          split
          · rename_i h2
            rw [h2]
            split
            · rename_i h3
              simp [h3]
            · rename_i h3
              simp [h3]
          · rfl
  · rw [if_neg hb]
attribute [go_sem] isSome_setCell
theorem run_field {P : Program} {T : TypeId} {fs : Array Field} (hu : P.underlying T = some (.struct fs)) (cs : Array Value) (j : Nat) (w : World) :
    (Instr.field T (.agg cs) j).run P w = (match fs[j]? with | some f => (part f.type cs f.offset).run P w | none => (Instr.field T (.agg cs) j).run P w) := by
  cases h : fs[j]? with
  | none => rfl
  | some f => simp [Instr.field, run_underlying hu, h, asAgg]
theorem part_one {P : Program} {e : TypeId} {k : IntKind} (he : P.underlying e = some (.int k)) (w : World) (cs : Array Value) (i : Nat) (v : Value) (h : cs[i]? = some v) : (part e cs i).run P w = .ok v w := by
  simp [part, isAgg, run_underlying he, h]
theorem arr_index {P : Program} (t e : TypeId) (n : Nat) (k : IntKind) (ht : P.underlying t = some (.array n e)) (hs : ∀ w, (sizeOf e).run P w = .ok 1 w) (he : ∀ w (cs : Array Value) (i : Nat) v, cs[i]? = some v → (part e cs i).run P w = .ok v w) (xs : List Int) (hn : xs.length = n) (i : Int) (h0 : 0 ≤ i) (h1 : i < n) (ki : IntKind) (w : World) :
    (Instr.index t (.agg (xs.map (Value.int k)).toArray) (.int ki i)).run P w = .ok (.int k (rd xs i)) w := by
  have hi : i.toNat < xs.length := by omega
  have hc : ((xs.map (Value.int k)).toArray)[i.toNat * 1]? = some (.int k (rd xs i)) := by
    simp [rd, List.getElem?_eq_getElem hi]
  have h2 := he w _ _ _ hc
  rw [Nat.mul_one] at h2
  simp only [Instr.index]
  simp [run_underlying ht, asIntOf, h0, h1, hs, h2]
end Go.Proofs.Yteojfjlklikaoaa.Mine
