/- Plain lemmas on bytes, texts and numbers that this seat's proofs share. -/
import Derived.Test.YtmmgcbafdmkhbaaP1WWords
import Derived.PlainAid
import Derived.Lib.EndianBits
import Derived.Laws.BitsAllLaws
set_option linter.unusedVariables false
set_option linter.unusedSimpArgs false
namespace Go.Proofs.Ytmmgcbafdmkhbaa.Aid
open Go Go.RowKit Go.Proofs.YtmmgcbafdmkhbaaW.PrintWords
end Go.Proofs.Ytmmgcbafdmkhbaa.Aid
