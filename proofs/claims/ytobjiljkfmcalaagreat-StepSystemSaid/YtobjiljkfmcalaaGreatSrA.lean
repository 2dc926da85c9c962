/- For every input the law StepSystem answers true and leaves every argument as it was; no condition. -/
import Derived.Test.YtobjiljkfmcalaaGreatStO
import Derived.Test.YtobjiljkfmcalaaGreatSqF
set_option linter.unusedSimpArgs false
set_option linter.unusedVariables false
namespace Go.Proofs.YtobjiljkfmcalaaGreat
open Go.RowKit Go.Ink

set_option maxRecDepth 100000 in
theorem stepSystem_lifted (os : Os) (started : os.Started) (H : Type) (enc : TypeId × Value → H) :
    ReturnsInHanded {} Tryz.checked os 5 .any (Rows.stepSystemSpec.pre6 enc Tryz.prog Tryz.f5 Rows.stepSystemRow.domain false) (Rows.stepSystemSpec.post enc Tryz.prog Tryz.f5 false true false false) :=
  row_true (C := Tryz.checked) (ts := [26, 3, 22]) own0 started (by kernel_rfl) Tryz.func5
    (ChangeSpec.witness6 (enc := enc) (C := Tryz.checked) false ⟨#[], #[sv St.zero none 0 none 0, .int .i64 0, .int .u32 0], []⟩ 8 (by kernel_rfl) (by kernel_rfl) (by kernel_rfl) (by kernel_rfl))
    rfl rfl rfl rfl (fun ds h => by match ds, h with | [_, _, _], _ => rfl) laid0 (by kernel_rfl) (fun W vs h => by
      obtain ⟨v0, _, rfl, a0, v1, _, rfl, a1, v2, _, rfl, a2, rfl⟩ := h
      obtain ⟨s, Ad, cd, Ar, cr, rfl, hs, hr⟩ := open_state a0
      obtain ⟨n1, rfl, w1⟩ := a1.int (k := .i64) rfl
      obtain ⟨n2, rfl, w2⟩ := a2.int (k := .u32) rfl
      exact ctr_true (stepSystem_ok s hs Ad Ar cd cr n1 n2 (wf_u32 w2) W hr))

theorem stepSystem_holds : Rows.StepSystemSaid :=
  OpenClaim.holds_of_wide 5 Tryz.f5 rfl rfl rfl rfl rfl rfl rfl ⟨rfl, rfl, rfl, rfl, rfl⟩ rfl rfl rfl rfl rfl (by kernel_rfl) Tryz.func5 (by kernel_rfl)
    (of_decide_eq_true (by kernel_rfl)) (by unfold Func.isWrapper; first | (rw [if_pos (by decide +kernel)]; kernel_rfl) | (rw [if_neg (by decide +kernel)]; exact ⟨rfl, rfl⟩))
    (fun os started H enc _ => stepSystem_lifted os started H enc)
#print axioms stepSystem_holds
end Go.Proofs.YtobjiljkfmcalaaGreat
