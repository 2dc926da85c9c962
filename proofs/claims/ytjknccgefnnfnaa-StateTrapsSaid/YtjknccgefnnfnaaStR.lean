/- For every input the law StateTraps answers true and leaves every argument as it was; no condition. -/
import Derived.Test.YtjknccgefnnfnaaStO
import Derived.Test.YtjknccgefnnfnaaStQ
set_option linter.unusedSimpArgs false
set_option linter.unusedVariables false
namespace Go.Proofs.Ytjknccgefnnfnaa
open Go.RowKit Go.Ink

set_option maxRecDepth 100000 in
theorem stateTraps_lifted (os : Os) (started : os.Started) (H : Type) (enc : TypeId × Value → H) :
    ReturnsInHanded {} Try.checked os 4 .any (Rows.stateTrapsSpec.pre6 enc Try.prog Try.f4 Rows.stateTrapsRow.domain false) (Rows.stateTrapsSpec.post enc Try.prog Try.f4 false true false false) :=
  row_true (C := Try.checked) (ts := [26, 3, 22, 3, 22]) own0 started (by kernel_rfl) Try.func4
    (ChangeSpec.witness6 (enc := enc) (C := Try.checked) false ⟨#[], #[sv St.zero none 0 none 0, .int .i64 0, .int .u32 0, .int .i64 0, .int .u32 0], []⟩ 8 (by kernel_rfl) (by kernel_rfl) (by kernel_rfl) (by kernel_rfl))
    rfl rfl rfl rfl (fun ds h => by match ds, h with | [_, _, _, _, _], _ => rfl) laid0 (by kernel_rfl) (fun W vs h => by
      obtain ⟨v0, _, rfl, a0, v1, _, rfl, a1, v2, _, rfl, a2, v3, _, rfl, a3, v4, _, rfl, a4, rfl⟩ := h
      obtain ⟨s, Ad, cd, Ar, cr, rfl, hs, hr⟩ := open_state a0
      obtain ⟨n1, rfl, w1⟩ := a1.int (k := .i64) rfl
      obtain ⟨n2, rfl, w2⟩ := a2.int (k := .u32) rfl
      obtain ⟨n3, rfl, w3⟩ := a3.int (k := .i64) rfl
      obtain ⟨n4, rfl, w4⟩ := a4.int (k := .u32) rfl
      exact ctr_true (stateTraps_ok s hs Ad Ar cd cr n1 n2 n3 n4 (wf_u32 w4) W hr))

theorem stateTraps_holds : Rows.StateTrapsSaid :=
  OpenClaim.holds_of_wide 4 Try.f4 rfl rfl rfl rfl rfl rfl rfl ⟨rfl, rfl, rfl, rfl, rfl⟩ rfl rfl rfl rfl rfl (by kernel_rfl) Try.func4 (by kernel_rfl)
    (of_decide_eq_true (by kernel_rfl)) (by unfold Func.isWrapper; first | (rw [if_pos (by decide +kernel)]; kernel_rfl) | (rw [if_neg (by decide +kernel)]; exact ⟨rfl, rfl⟩))
    (fun os started H enc _ => stateTraps_lifted os started H enc)
#print axioms stateTraps_holds
end Go.Proofs.Ytjknccgefnnfnaa
