/- For every input the law StateNumbers answers true and leaves every argument as it was; no condition. -/
import Derived.Test.YtjknccgefnnfnaaStO
import Derived.Test.YtjknccgefnnfnaaStZ
set_option linter.unusedSimpArgs false
set_option linter.unusedVariables false
namespace Go.Proofs.Ytjknccgefnnfnaa
open Go.RowKit Go.Ink

set_option maxRecDepth 100000 in
theorem stateNumbers_lifted (os : Os) (started : os.Started) (H : Type) (enc : TypeId × Value → H) :
    ReturnsInHanded {} Try.checked os 8 .any (Rows.stateNumbersSpec.pre6 enc Try.prog Try.f8 Rows.stateNumbersRow.domain false) (Rows.stateNumbersSpec.post enc Try.prog Try.f8 false true false false) :=
  row_true (C := Try.checked) (ts := []) own0 started (by kernel_rfl) Try.func8
    (ChangeSpec.witness6 (enc := enc) (C := Try.checked) false ⟨#[], #[], []⟩ 8 (by kernel_rfl) (by kernel_rfl) (by kernel_rfl) (by kernel_rfl))
    rfl rfl rfl rfl (fun ds h => by match ds, h with | [], _ => rfl) laid0 (by kernel_rfl) (fun W vs h => by

      subst h
      exact ctr_true (stateNumbers_ok W))

theorem stateNumbers_holds : Rows.StateNumbersSaid :=
  OpenClaim.holds_of_wide 8 Try.f8 rfl rfl rfl rfl rfl rfl rfl ⟨rfl, rfl, rfl, rfl, rfl⟩ rfl rfl rfl rfl rfl (by kernel_rfl) Try.func8 (by kernel_rfl)
    (of_decide_eq_true (by kernel_rfl)) (by unfold Func.isWrapper; first | (rw [if_pos (by decide +kernel)]; kernel_rfl) | (rw [if_neg (by decide +kernel)]; exact ⟨rfl, rfl⟩))
    (fun os started H enc _ => stateNumbers_lifted os started H enc)
#print axioms stateNumbers_holds
end Go.Proofs.Ytjknccgefnnfnaa
