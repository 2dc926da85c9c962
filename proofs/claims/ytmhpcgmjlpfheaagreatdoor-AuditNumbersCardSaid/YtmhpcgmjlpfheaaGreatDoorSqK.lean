/- The law StepCounts. -/
import Derived.Test.YtmhpcgmjlpfheaaGreatDoorSqJ
import Derived.Test.YtmhpcgmjlpfheaaGreatDoorInkA
set_option linter.unusedSimpArgs false
set_option linter.unusedVariables false
set_option maxRecDepth 100000
namespace Go.Ink
open Go.RowKit
/-- What is no instruction is told so. -/
theorem do_illegal {n : Nat} {op nn : Int} {s : St} {U : Mmu} {d : Dev} (hr : s.right = true) (hc : checkOf s op nn = 1) : (doTo n s op nn U d).1 = ⟨s.next.trap 1 0, true, false, []⟩ := by
 unfold doTo
 rw [hr, hc]
 rfl
end Go.Ink
namespace Go.Proofs.YtmhpcgmjlpfheaaGreatDoor
open Go.RowKit Go.Ink
attribute [local irreducible] OpY GuardIs
end Go.Proofs.YtmhpcgmjlpfheaaGreatDoor
