/- '==' of arrays as one Bool. -/
import Derived.Test.YtadglbmghldnfaaDMine
import Derived.ChangeKeysEq
set_option linter.unusedVariables false
set_option linter.unusedSimpArgs false
namespace Go.Proofs.Ytadglbmghldnfaa.Mine
open Go Go.RowKit Go.Proofs.YtadglbmghldnfaaW Go.Proofs.YtadglbmghldnfaaW.PrintWords
section
variable {P : Program} {d : Nat} {xs ys : Array Value} {e : TypeId} {i : Nat} {is : List Nat} {a b : Value} {r s : Bool} {w : World}
theorem eqi_cons (ha : (part e xs (i * 1)).run P w = .ok a w) (hb : (part e ys (i * 1)).run P w = .ok b w) (he : (Op.equalIn d e a b).run P w = .ok r w) (hr : (Op.eqItems d e 1 xs ys is).run P w = .ok s w) : (Op.eqItems d e 1 xs ys (i :: is)).run P w = .ok (r && s) w := by
  simp only [Op.eqItems, Sem.run_bind, ha, hb, he, Result.andThen_ok]
  cases r
  · simp
  · simpa using hr
theorem eqi_last (ha : (part e xs (i * 1)).run P w = .ok a w) (hb : (part e ys (i * 1)).run P w = .ok b w) (he : (Op.equalIn d e a b).run P w = .ok r w) : (Op.eqItems d e 1 xs ys [i]).run P w = .ok r w := by
  have h := eqi_cons (is := []) (s := true) ha hb he (by simp [Op.eqItems])
  rwa [Bool.and_true] at h
theorem eqArr_of {t : TypeId} {n : Nat} {l : List Nat} (hu : P.underlying t = some (.array n e)) (hi : (P.info? e).isSome = true) (hc : P.cellsOf e = 1) (hl : List.range n = l) (h : (Op.eqItems d e 1 xs ys l).run P w = .ok r w) : (Op.equalIn (d + 1) t (.agg xs) (.agg ys)).run P w = .ok r w := by
  obtain ⟨i, hi⟩ := Option.isSome_iff_exists.1 hi
  rw [run_equalIn_array (P := P) w d xs ys hu hi, hc, hl]
  exact h
end
end Go.Proofs.Ytadglbmghldnfaa.Mine
