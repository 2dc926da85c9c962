/- For every input the law StepPlain answers true and leaves every argument as it was; no condition. -/
import Derived.Test.YthcpmpmbgbibfaaGreatStAll
import Derived.Test.YthcpmpmbgbibfaaGreatSqV
set_option linter.unusedSimpArgs false
set_option linter.unusedVariables false
namespace Go.Proofs.YthcpmpmbgbibfaaGreat
open Go.RowKit Go.Ink

set_option maxRecDepth 100000 in
theorem stepPlain_lifted (os : Os) (started : os.Started) (H : Type) (enc : TypeId × Value → H) :
    ReturnsInHanded {} Tryz.checked os 3 .any (Rows.stepPlainSpec.pre6 enc Tryz.prog Tryz.f3 Rows.stepPlainRow.domain false) (Rows.stepPlainSpec.post enc Tryz.prog Tryz.f3 false true false false) :=
  row_true (C := Tryz.checked) (ts := [26, 27, 3, 22, 4]) own0 started (by kernel_rfl) Tryz.func3
    (ChangeSpec.witness6 (enc := enc) (C := Tryz.checked) false ⟨#[], #[sv St.zero none 0 none 0, .slice none 0 0, .int .i64 0, .int .u32 0, .bool false], []⟩ 8 (by kernel_rfl) (by kernel_rfl) (by kernel_rfl) (by kernel_rfl))
    rfl rfl rfl rfl (fun ds h => by match ds, h with | [_, _, _, _, _], _ => rfl) laid0 (by kernel_rfl) (fun W vs h => by
      obtain ⟨v0, _, rfl, a0, v1, _, rfl, a1, v2, _, rfl, a2, v3, _, rfl, a3, v4, _, rfl, a4, rfl⟩ := h
      obtain ⟨s, Ad, cd, Ar, cr, rfl, hs, hr⟩ := open_state a0
      obtain ⟨B, cb, b, rfl, hB, hb⟩ := open_bytes a1
      obtain ⟨n2, rfl, w2⟩ := a2.int (k := .i64) rfl
      obtain ⟨n3, rfl, w3⟩ := a3.int (k := .u32) rfl
      obtain ⟨e, rfl⟩ := a4.bool rfl
      exact ctr_true (stepPlain_ok s hs Ad Ar B cd cr cb b hb n2 n3 (wf_u32 w3) e W hr hB))

theorem stepPlain_holds : Rows.StepPlainSaid :=
  OpenClaim.holds_of_wide 3 Tryz.f3 rfl rfl rfl rfl rfl rfl rfl ⟨rfl, rfl, rfl, rfl, rfl⟩ rfl rfl rfl rfl rfl (by kernel_rfl) Tryz.func3 (by kernel_rfl)
    (of_decide_eq_true (by kernel_rfl)) (by unfold Func.isWrapper; first | (rw [if_pos (by decide +kernel)]; kernel_rfl) | (rw [if_neg (by decide +kernel)]; exact ⟨rfl, rfl⟩))
    (fun os started H enc _ => stepPlain_lifted os started H enc)
#print axioms stepPlain_holds
end Go.Proofs.YthcpmpmbgbibfaaGreat
