/- For every input the law StepLoads answers true and leaves every argument as it was; no condition. -/
import Derived.Test.YtobjiljkfmcalaaGreatStAll
import Derived.Test.YtobjiljkfmcalaaGreatSqR
set_option linter.unusedSimpArgs false
set_option linter.unusedVariables false
namespace Go.Proofs.YtobjiljkfmcalaaGreat
open Go.RowKit Go.Ink

set_option maxRecDepth 100000 in
theorem stepLoads_lifted (os : Os) (started : os.Started) (H : Type) (enc : TypeId × Value → H) :
    ReturnsInHanded {} Tryz.checked os 4 .any (Rows.stepLoadsSpec.pre6 enc Tryz.prog Tryz.f4 Rows.stepLoadsRow.domain false) (Rows.stepLoadsSpec.post enc Tryz.prog Tryz.f4 false true false false) :=
  row_true (C := Tryz.checked) (ts := [22, 22, 3]) own0 started (by kernel_rfl) Tryz.func4
    (ChangeSpec.witness6 (enc := enc) (C := Tryz.checked) false ⟨#[], #[.int .u32 0, .int .u32 0, .int .i64 0], []⟩ 8 (by kernel_rfl) (by kernel_rfl) (by kernel_rfl) (by kernel_rfl))
    rfl rfl rfl rfl (fun ds h => by match ds, h with | [_, _, _], _ => rfl) laid0 (by kernel_rfl) (fun W vs h => by
      obtain ⟨v0, _, rfl, a0, v1, _, rfl, a1, v2, _, rfl, a2, rfl⟩ := h
      obtain ⟨n0, rfl, w0⟩ := a0.int (k := .u32) rfl
      obtain ⟨n1, rfl, w1⟩ := a1.int (k := .u32) rfl
      obtain ⟨n2, rfl, w2⟩ := a2.int (k := .i64) rfl
      exact ctr_true (stepLoads_ok n0 n1 n2 (wf_u32 w0) (wf_u32 w1) W))

theorem stepLoads_holds : Rows.StepLoadsSaid :=
  OpenClaim.holds_of_wide 4 Tryz.f4 rfl rfl rfl rfl rfl rfl rfl ⟨rfl, rfl, rfl, rfl, rfl⟩ rfl rfl rfl rfl rfl (by kernel_rfl) Tryz.func4 (by kernel_rfl)
    (of_decide_eq_true (by kernel_rfl)) (by unfold Func.isWrapper; first | (rw [if_pos (by decide +kernel)]; kernel_rfl) | (rw [if_neg (by decide +kernel)]; exact ⟨rfl, rfl⟩))
    (fun os started H enc _ => stepLoads_lifted os started H enc)
#print axioms stepLoads_holds
end Go.Proofs.YtobjiljkfmcalaaGreat
