/- The law StepSystem. -/
import Derived.Test.YtobjiljkfmcalaaGreatSqAll
import Derived.Test.YtobjiljkfmcalaaGreatInkA
set_option linter.unusedSimpArgs false
set_option linter.unusedVariables false
set_option maxRecDepth 100000
namespace Go.Ink
open Go.RowKit
theorem St.mkr {s : St} (h1 : s.d.length ≤ 16) (h2 : s.r.length ≤ 16) (h3 : s.flags ≤ 15) : s.right = true := by
 simp only [St.right, Bool.and_eq_true, decide_eq_true_eq]
 omega
end Go.Ink
namespace Go.Proofs.YtobjiljkfmcalaaGreat
open Go.RowKit Go.Ink
attribute [local irreducible] OpY GuardIs

end Go.Proofs.YtobjiljkfmcalaaGreat
