/- For every input the law StepNumbers answers true and leaves every argument as it was; no condition. -/
import Derived.Test.YtobjiljkfmcalaaGreatStAll
import Derived.Test.YtobjiljkfmcalaaGreatSsP
set_option linter.unusedSimpArgs false
set_option linter.unusedVariables false
namespace Go.Proofs.YtobjiljkfmcalaaGreat
open Go.RowKit Go.Ink

set_option maxRecDepth 100000 in
theorem stepNumbers_lifted (os : Os) (started : os.Started) (H : Type) (enc : TypeId × Value → H) :
    ReturnsInHanded {} Tryz.checked os 8 .any (Rows.stepNumbersSpec.pre6 enc Tryz.prog Tryz.f8 Rows.stepNumbersRow.domain false) (Rows.stepNumbersSpec.post enc Tryz.prog Tryz.f8 false true false false) :=
  row_true (C := Tryz.checked) (ts := []) own0 started (by kernel_rfl) Tryz.func8
    (ChangeSpec.witness6 (enc := enc) (C := Tryz.checked) false ⟨#[], #[], []⟩ 8 (by kernel_rfl) (by kernel_rfl) (by kernel_rfl) (by kernel_rfl))
    rfl rfl rfl rfl (fun ds h => by match ds, h with | [], _ => rfl) laid0 (by kernel_rfl) (fun W vs h => by
      subst h

      exact ctr_true (stepNumbers_ok W))

theorem stepNumbers_holds : Rows.StepNumbersSaid :=
  OpenClaim.holds_of_wide 8 Tryz.f8 rfl rfl rfl rfl rfl rfl rfl ⟨rfl, rfl, rfl, rfl, rfl⟩ rfl rfl rfl rfl rfl (by kernel_rfl) Tryz.func8 (by kernel_rfl)
    (of_decide_eq_true (by kernel_rfl)) (by unfold Func.isWrapper; first | (rw [if_pos (by decide +kernel)]; kernel_rfl) | (rw [if_neg (by decide +kernel)]; exact ⟨rfl, rfl⟩))
    (fun os started H enc _ => stepNumbers_lifted os started H enc)
#print axioms stepNumbers_holds
end Go.Proofs.YtobjiljkfmcalaaGreat
