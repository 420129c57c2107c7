/- Plain lemmas on bytes, texts and numbers that this seat's proofs share. -/
import Derived.Test.YtfahchgglapglaaQWWords
import Derived.PlainAid
import Derived.Lib.EndianBits
import Derived.Laws.BitsAllLaws
set_option linter.unusedVariables false
set_option linter.unusedSimpArgs false
namespace Go.Proofs.Ytfahchgglapglaa.Aid
open Go Go.RowKit Go.Proofs.YtfahchgglapglaaW.PrintWords
end Go.Proofs.Ytfahchgglapglaa.Aid
