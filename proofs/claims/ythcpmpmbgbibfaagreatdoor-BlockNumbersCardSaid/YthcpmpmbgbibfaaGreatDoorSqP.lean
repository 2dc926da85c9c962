/- Loads and stores without paging: what was stored is loaded. No program in sight. -/
import Derived.Test.YthcpmpmbgbibfaaGreatDoorSqO
set_option linter.unusedSimpArgs false
set_option linter.unusedVariables false
set_option maxRecDepth 100000
namespace Go.Ink
open Go.RowKit
section
variable {n : Nat} {U : Mmu} {s : Sp}
end
end Go.Ink
