/- Rows of numbers that are the same; the law StepTwins. -/
import Derived.Test.YthcpmpmbgbibfaaGreatSqL
import Derived.Test.YthcpmpmbgbibfaaGreatInkA
import Derived.Test.YthcpmpmbgbibfaaGreatInkC
set_option linter.unusedSimpArgs false
set_option linter.unusedVariables false
set_option maxRecDepth 100000
namespace Go.Ink
open Go.RowKit
end Go.Ink
namespace Go.Proofs.YthcpmpmbgbibfaaGreat
open Go.RowKit Go.Ink
attribute [local irreducible] OpY GuardIs

end Go.Proofs.YthcpmpmbgbibfaaGreat
