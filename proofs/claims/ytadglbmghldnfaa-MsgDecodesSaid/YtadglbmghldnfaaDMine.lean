/- Words beside the print's own: arrays of whole numbers, make with a capacity. -/
import Derived.Test.YtadglbmghldnfaaDWWords
import Derived.Test.YtadglbmghldnfaaDWApart
import Derived.Test.YtadglbmghldnfaaDWLast
set_option linter.unusedVariables false
set_option linter.unusedSimpArgs false
namespace Go.Proofs.Ytadglbmghldnfaa.Mine
open Go Go.RowKit Go.Proofs.YtadglbmghldnfaaW Go.Proofs.YtadglbmghldnfaaW.PrintWords
/-- Whether a cell is there does not hang on a store. -/
theorem isSome_setCell (w : World) (p a : Addr) (v : Value) : ((w.setCell p v).cell? a).isSome = (w.cell? a).isSome := by
  unfold World.setCell World.cell?
  simp only [Array.getElem?_modify]
  by_cases hb : p.block = a.block
  · rw [if_pos hb]
    cases hh : w.heap[a.block]? with
    | none => rfl
    | some o =>
      cases o <;> simp only [Option.map_some]
      by_cases hp : p.spot.isSome
      · simp [hp]
      · by_cases ha : a.spot.isSome
        · simp [ha]
        · simp only [hp, ha]
          simp only [Bool.false_eq_true, if_false, Array.getElem?_setIfInBounds]
          split
          · rename_i h2
            rw [h2]
            split
            · rename_i h3
              simp [h3]
            · rename_i h3
              simp [h3]
          · rfl
  · rw [if_neg hb]
attribute [go_sem] isSome_setCell
theorem run_field {P : Program} {T : TypeId} {fs : Array Field} (hu : P.underlying T = some (.struct fs)) (cs : Array Value) (j : Nat) (w : World) :
    (Instr.field T (.agg cs) j).run P w = (match fs[j]? with | some f => (part f.type cs f.offset).run P w | none => (Instr.field T (.agg cs) j).run P w) := by
  cases h : fs[j]? with
  | none => rfl
  | some f => simp [Instr.field, run_underlying hu, h, asAgg]
theorem part_one {P : Program} {e : TypeId} {k : IntKind} (he : P.underlying e = some (.int k)) (w : World) (cs : Array Value) (i : Nat) (v : Value) (h : cs[i]? = some v) : (part e cs i).run P w = .ok v w := by
  simp [part, isAgg, run_underlying he, h]
theorem arr_index {P : Program} (t e : TypeId) (n : Nat) (k : IntKind) (ht : P.underlying t = some (.array n e)) (hs : ∀ w, (sizeOf e).run P w = .ok 1 w) (he : ∀ w (cs : Array Value) (i : Nat) v, cs[i]? = some v → (part e cs i).run P w = .ok v w) (xs : List Int) (hn : xs.length = n) (i : Int) (h0 : 0 ≤ i) (h1 : i < n) (ki : IntKind) (w : World) :
    (Instr.index t (.agg (xs.map (Value.int k)).toArray) (.int ki i)).run P w = .ok (.int k (rd xs i)) w := by
  have hi : i.toNat < xs.length := by omega
  have hc : ((xs.map (Value.int k)).toArray)[i.toNat * 1]? = some (.int k (rd xs i)) := by
    simp [rd, List.getElem?_eq_getElem hi]
  have h2 := he w _ _ _ hc
  rw [Nat.mul_one] at h2
  simp only [Instr.index]
  simp [run_underlying ht, asIntOf, h0, h1, hs, h2]
/-- A cell of a variable in memory that is an array of whole numbers. -/
theorem blk_at {w : World} {g : Nat} {t : TypeId} {cs : Array Value} (h : w.heap[g]? = some (.cells cs t (0, 0))) (o : Nat) (k : IntKind) (xs : List Int) (hx : (cs.toList.drop o).take xs.length = xs.map (Value.int k)) (i : Int) (h0 : 0 ≤ i) (h1 : i < xs.length) :
    w.cell? ⟨g, o + i.toNat, none⟩ = some (.int k (rd xs i)) := by
  have hi : i.toNat < xs.length := by omega
  rw [blk_cell h]
  have h2 : ((cs.toList.drop o).take xs.length)[i.toNat]? = (xs.map (Value.int k))[i.toNat]? := by rw [hx]
  rw [List.getElem?_take, if_pos hi, List.getElem?_drop, List.getElem?_map, List.getElem?_eq_getElem hi, Array.getElem?_toList] at h2
  rw [h2]
  simp [rd, List.getElem?_eq_getElem hi]
/-- make([]T, 0, n). -/
theorem R_makec {P : Program} {ops : Array Oper} {rest : List Oper} {o : Oper} {a : Act} {Q : Exit → Act → World → Prop} {α : Type} (d : Kd α) {w0 W : World} (base e : Nat) (hgd : o.guard = none) {N : Tmp} (hd : o.dst = some N) (t : TypeId) (x y : Operand) (ho : o.op = .makeSlice t x y) (n : Int) (hx : a.eval x = .int .i64 0) (hy : a.eval y = .int .i64 n)
    (ht : P.underlying t = some (.slice e)) (z : Value) (bytes : Nat) (hinfo : (P.info? e).map (fun i => (i.zero, i.size, i.bytes)) = some (some z, d.sz, bytes)) (hb0 : 0 < bytes)
    {ok : Nat → Prop} (hfresh : ok W.heap.size) (h0 : 0 ≤ n) (hl : n.toNat * bytes ≤ 281474976710656) (HB : Below base w0 W) (hbase : base ≤ W.heap.size)
    (h : ∀ v1 w1, d.R e w1 base ok v1 ([] : List α) → Below base w0 w1 → W.grownBy w1 none → (∃ b, v1.ownBlock = some b ∧ W.heap.size ≤ b) → wpList P ops Q rest (a.put o.dst v1) w1) : wpList P ops Q (o :: rest) a W := by
  obtain ⟨m, rfl⟩ := Int.eq_ofNat_of_zero_le h0
  simp only [Int.toNat_natCast] at hl
  obtain ⟨i0, hi, hzz⟩ := Option.map_eq_some_iff.1 hinfo
  simp only [Prod.mk.injEq] at hzz
  obtain ⟨hz0, hz1, hz2⟩ := hzz
  have hm : m ≤ 281474976710656 := Nat.le_trans (Nat.le_mul_of_pos_right _ hb0) hl
  obtain ⟨w1, hr, hown, hg⟩ := run_make_own (P := P) W base t e i0 z d.sz ht hi hz0 hz1 .i64 .i64 m (by rw [hz2, Nat.mul_comm]; exact hl) (by unfold maxLen; omega) hbase
  refine Kd.event_run hgd (v := .slice (some ⟨W.heap.size, 0, none⟩) 0 m) (w1 := w1) ?_ (h _ _ ⟨fun k hk => ?_, [], hown, Reps.none _ _⟩ (HB.grown hg hbase (by simp)) hg ⟨W.heap.size, by simp [Value.ownBlock], Nat.le_refl _⟩)
  · simp [execOp, ho, hx, hy, hr]
  · have : W.heap.size = k := by simpa [Value.ownBlock] using hk
    subst this
    exact hfresh
end Go.Proofs.Ytadglbmghldnfaa.Mine
