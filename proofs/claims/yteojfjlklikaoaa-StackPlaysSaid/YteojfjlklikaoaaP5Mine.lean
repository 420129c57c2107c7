/- Words beside the print's own: arrays of whole numbers, make with a capacity. -/
import Derived.Test.YteojfjlklikaoaaP5WWords
import Derived.Test.YteojfjlklikaoaaP5WApart
import Derived.Test.YteojfjlklikaoaaP5WLast
set_option linter.unusedVariables false
set_option linter.unusedSimpArgs false
namespace Go.Proofs.Yteojfjlklikaoaa.Mine
open Go Go.RowKit Go.Proofs.YteojfjlklikaoaaW Go.Proofs.YteojfjlklikaoaaW.PrintWords
/-- Whether a cell is there does not hang on a store. -/
theorem isSome_setCell (w : World) (p a : Addr) (v : Value) : ((w.setCell p v).cell? a).isSome = (w.cell? a).isSome := by
  unfold World.setCell World.cell?
  simp only [Array.getElem?_modify]
  by_cases hb : p.block = a.block
  · rw [if_pos hb]
    cases hh : w.heap[a.block]? with
    | none => rfl
    | some o =>
      cases o <;> simp only [Option.map_some]
      by_cases hp : p.spot.isSome
      · simp [hp]
      · by_cases ha : a.spot.isSome
        · simp [ha]
        · simp only [hp, ha]
          simp only [Bool.false_eq_true, if_false, Array.getElem?_setIfInBounds]
          split
          · rename_i h2
            rw [h2]
            split
            · rename_i h3
              simp [h3]
            · rename_i h3
              simp [h3]
          · rfl
  · rw [if_neg hb]
attribute [go_sem] isSome_setCell
theorem run_field {P : Program} {T : TypeId} {fs : Array Field} (hu : P.underlying T = some (.struct fs)) (cs : Array Value) (j : Nat) (w : World) :
    (Instr.field T (.agg cs) j).run P w = (match fs[j]? with | some f => (part f.type cs f.offset).run P w | none => (Instr.field T (.agg cs) j).run P w) := by
  cases h : fs[j]? with
  | none => rfl
  | some f => simp [Instr.field, run_underlying hu, h, asAgg]
/-- In a region that draws: more may be held from here on. -/
theorem more_held {P : Program} {md : Region.Mode} {ops : Array Oper} {Q : Exit → Act → World → Prop} {S S' : World → Prop} (hS : ∀ w, S' w → S w) : ∀ (fuel : Nat) (l : Array Bool) (a : Act) (w : World), S' w → PrintLast.wpAnyLast P md ops Q S' [] fuel l a w → PrintLast.wpAnyLast P md ops Q S [] fuel l a w
  | 0, _, _, _, _, h => h
  | fuel + 1, _, _, _, hw, h => ⟨h.1, fun i hi => wpOp_mono (fun a' w' h' => ⟨fun _ _ => hS w' (h'.1 (by simp) hw), more_held hS fuel _ a' w' (h'.1 (by simp) hw) h'.2⟩) (h.2 i hi)⟩
theorem part_one {P : Program} {e : TypeId} {k : IntKind} (he : P.underlying e = some (.int k)) (w : World) (cs : Array Value) (i : Nat) (v : Value) (h : cs[i]? = some v) : (part e cs i).run P w = .ok v w := by
  simp [part, isAgg, run_underlying he, h]
theorem arr_index {P : Program} (t e : TypeId) (n : Nat) (k : IntKind) (ht : P.underlying t = some (.array n e)) (hs : ∀ w, (sizeOf e).run P w = .ok 1 w) (he : ∀ w (cs : Array Value) (i : Nat) v, cs[i]? = some v → (part e cs i).run P w = .ok v w) (xs : List Int) (hn : xs.length = n) (i : Int) (h0 : 0 ≤ i) (h1 : i < n) (ki : IntKind) (w : World) :
    (Instr.index t (.agg (xs.map (Value.int k)).toArray) (.int ki i)).run P w = .ok (.int k (rd xs i)) w := by
  have hi : i.toNat < xs.length := by omega
  have hc : ((xs.map (Value.int k)).toArray)[i.toNat * 1]? = some (.int k (rd xs i)) := by
    simp [rd, List.getElem?_eq_getElem hi]
  have h2 := he w _ _ _ hc
  rw [Nat.mul_one] at h2
  simp only [Instr.index]
  simp [run_underlying ht, asIntOf, h0, h1, hs, h2]
/-- A cell of a variable in memory that is an array of whole numbers. -/
theorem blk_at {w : World} {g : Nat} {t : TypeId} {cs : Array Value} (h : w.heap[g]? = some (.cells cs t (0, 0))) (o : Nat) (k : IntKind) (xs : List Int) (hx : (cs.toList.drop o).take xs.length = xs.map (Value.int k)) (i : Int) (h0 : 0 ≤ i) (h1 : i < xs.length) :
    w.cell? ⟨g, o + i.toNat, none⟩ = some (.int k (rd xs i)) := by
  have hi : i.toNat < xs.length := by omega
  rw [blk_cell h]
  have h2 : ((cs.toList.drop o).take xs.length)[i.toNat]? = (xs.map (Value.int k))[i.toNat]? := by rw [hx]
  rw [List.getElem?_take, if_pos hi, List.getElem?_drop, List.getElem?_map, List.getElem?_eq_getElem hi, Array.getElem?_toList] at h2
  rw [h2]
  simp [rd, List.getElem?_eq_getElem hi]
end Go.Proofs.Yteojfjlklikaoaa.Mine
