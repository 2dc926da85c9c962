/- The law StepCounts. -/
import Derived.Test.YtobjiljkfmcalaaGreatSqJ
import Derived.Test.YtobjiljkfmcalaaGreatInkA
set_option linter.unusedSimpArgs false
set_option linter.unusedVariables false
set_option maxRecDepth 100000
namespace Go.Ink
open Go.RowKit
end Go.Ink
namespace Go.Proofs.YtobjiljkfmcalaaGreat
open Go.RowKit Go.Ink
attribute [local irreducible] OpY GuardIs
end Go.Proofs.YtobjiljkfmcalaaGreat
