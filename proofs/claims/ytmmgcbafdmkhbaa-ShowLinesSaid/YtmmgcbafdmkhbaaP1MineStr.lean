/- A range over a string: a step, the end, at a world that has drawn. -/
import Derived.Test.YtmmgcbafdmkhbaaP1Mine
import Derived.Laws.RangeAny
set_option linter.unusedVariables false
set_option linter.unusedSimpArgs false
namespace Go.Proofs.Ytmmgcbafdmkhbaa.Mine
open Go Go.RowKit Go.Proofs.YtmmgcbafdmkhbaaW Go.Proofs.YtmmgcbafdmkhbaaW.PrintWords
section
variable {P : Program}
theorem iter_drewN_heap (w : World) (s : ByteArray) (pos n : Nat) : ((w.iter s pos).drewN n).heap[w.heap.size]? = some (.stringIter s pos) := w.iter_heap s pos
theorem iter_drewN_set (w : World) (s : ByteArray) (pos pos' n : Nat) :
    { (w.iter s pos).drewN n with heap := ((w.iter s pos).drewN n).heap.setIfInBounds w.heap.size (.stringIter s pos') } = (w.iter s pos').drewN n := by
  have h := w.iter_set s pos pos'
  show World.drewN { w.iter s pos with heap := (w.iter s pos).heap.setIfInBounds w.heap.size (.stringIter s pos') } n = _
  rw [h]
theorem iter_next (w : World) (s : ByteArray) (pos n : Nat) (ty : TypeId) (h : pos < s.size) :
    (Instr.next (.pointer (some ⟨w.heap.size, 0, none⟩)) true ty).run P ((w.iter s pos).drewN n) =
      .ok (.tuple #[.bool true, .int .i64 pos, .int .i32 (Utf8.decode s pos).1]) ((w.iter s (pos + (Utf8.decode s pos).2)).drewN n) := by
  simp only [Instr.next, getObj, setObj, Sem.run_bind, Sem.run, iter_drewN_heap, Result.andThen, h, if_true, iter_drewN_set]
  simp [goInt]
theorem iter_end (w : World) (s : ByteArray) (pos n : Nat) (ty : TypeId) (h : ¬ pos < s.size) :
    (Instr.next (.pointer (some ⟨w.heap.size, 0, none⟩)) true ty).run P ((w.iter s pos).drewN n) = .ok (.tuple #[.bool false]) ((w.iter s pos).drewN n) := by
  simp only [Instr.next, getObj, Sem.run_bind, Sem.run, iter_drewN_heap, Result.andThen, h, if_false]
  simp
theorem iter_below (w : World) (s : ByteArray) (pos n : Nat) : Below w.heap.size w ((w.iter s pos).drewN n) := by
  have h : Below w.heap.size w (w.iter s pos) := (Below.refl w.heap.size w).alloc (Nat.le_refl _) _
  exact ⟨h.os, h.tape, h.output, h.size, h.block⟩
end
end Go.Proofs.Ytmmgcbafdmkhbaa.Mine
