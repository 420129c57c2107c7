/- Words beside the print's own: arrays of whole numbers, make with a capacity. -/
import Derived.Test.YtmmgcbafdmkhbaaP1WWords
import Derived.Test.YtmmgcbafdmkhbaaP1WApart
import Derived.Test.YtmmgcbafdmkhbaaP1WLast
set_option linter.unusedVariables false
set_option linter.unusedSimpArgs false
namespace Go.Proofs.Ytmmgcbafdmkhbaa.Mine
open Go Go.RowKit Go.Proofs.YtmmgcbafdmkhbaaW Go.Proofs.YtmmgcbafdmkhbaaW.PrintWords
/-- Whether a cell is there does not hang on a store. -/
theorem isSome_setCell (w : World) (p a : Addr) (v : Value) : ((w.setCell p v).cell? a).isSome = (w.cell? a).isSome := by
  unfold World.setCell World.cell?
  simp only [Array.getElem?_modify]
  by_cases hb : p.block = a.block
  · rw [if_pos hb]
    cases hh : w.heap[a.block]? with
    | none => rfl
    | some o =>
      cases o <;> simp only [Option.map_some]
      by_cases hp : p.spot.isSome
      · simp [hp]
      · by_cases ha : a.spot.isSome
        · simp [ha]
        · simp only [hp, ha]
          simp only [Bool.false_eq_true, if_false, Array.getElem?_setIfInBounds]
          split
          · rename_i h2
            rw [h2]
            split
            · rename_i h3
              simp [h3]
            · rename_i h3
              simp [h3]
          · rfl
  · rw [if_neg hb]
attribute [go_sem] isSome_setCell
end Go.Proofs.Ytmmgcbafdmkhbaa.Mine
