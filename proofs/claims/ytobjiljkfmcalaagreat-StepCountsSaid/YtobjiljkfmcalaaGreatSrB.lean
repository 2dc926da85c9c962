/- For every input the law StepCounts answers true and leaves every argument as it was; no condition. -/
import Derived.Test.YtobjiljkfmcalaaGreatStAll
import Derived.Test.YtobjiljkfmcalaaGreatSqK
set_option linter.unusedSimpArgs false
set_option linter.unusedVariables false
namespace Go.Proofs.YtobjiljkfmcalaaGreat
open Go.RowKit Go.Ink

set_option maxRecDepth 100000 in
theorem stepCounts_lifted (os : Os) (started : os.Started) (H : Type) (enc : TypeId × Value → H) :
    ReturnsInHanded {} Tryz.checked os 6 .any (Rows.stepCountsSpec.pre6 enc Tryz.prog Tryz.f6 Rows.stepCountsRow.domain false) (Rows.stepCountsSpec.post enc Tryz.prog Tryz.f6 false true false false) :=
  row_true (C := Tryz.checked) (ts := [26, 62]) own0 started (by kernel_rfl) Tryz.func6
    (ChangeSpec.witness6 (enc := enc) (C := Tryz.checked) false ⟨#[], #[sv St.zero none 0 none 0, .slice none 0 0], []⟩ 8 (by kernel_rfl) (by kernel_rfl) (by kernel_rfl) (by kernel_rfl))
    rfl rfl rfl rfl (fun ds h => by match ds, h with | [_, _], _ => rfl) laid0 (by kernel_rfl) (fun W vs h => by
      obtain ⟨v0, _, rfl, a0, v1, _, rfl, a1, rfl⟩ := h
      obtain ⟨s, Ad, cd, Ar, cr, rfl, hs, hr⟩ := open_state a0
      obtain ⟨B, cb, l, rfl, hB, hl⟩ := open_asks a1
      exact ctr_true (stepCounts_ok s hs Ad Ar B cd cr cb l W hr hB hl))

theorem stepCounts_holds : Rows.StepCountsSaid :=
  OpenClaim.holds_of_wide 6 Tryz.f6 rfl rfl rfl rfl rfl rfl rfl ⟨rfl, rfl, rfl, rfl, rfl⟩ rfl rfl rfl rfl rfl (by kernel_rfl) Tryz.func6 (by kernel_rfl)
    (of_decide_eq_true (by kernel_rfl)) (by unfold Func.isWrapper; first | (rw [if_pos (by decide +kernel)]; kernel_rfl) | (rw [if_neg (by decide +kernel)]; exact ⟨rfl, rfl⟩))
    (fun os started H enc _ => stepCounts_lifted os started H enc)
#print axioms stepCounts_holds
end Go.Proofs.YtobjiljkfmcalaaGreat
