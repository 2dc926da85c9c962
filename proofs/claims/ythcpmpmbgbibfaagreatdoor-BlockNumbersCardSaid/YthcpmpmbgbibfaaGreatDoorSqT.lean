/- An instruction that traps leaves memory and devices as they were, without paging. No program in sight. -/
import Derived.Test.YthcpmpmbgbibfaaGreatDoorSqS
import Derived.Test.YthcpmpmbgbibfaaGreatDoorSqP
set_option linter.unusedSimpArgs false
set_option linter.unusedVariables false
set_option maxRecDepth 100000
namespace Go.Ink
open Go.RowKit
section
variable {n : Nat} {U : Mmu} {s : Sp} {d : Dev}
theorem trues_calm : trues (List.replicate 64 false) 64 = [] := by rfl
end
end Go.Ink
