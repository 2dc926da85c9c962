/- For every input the law StateTells answers true and leaves every argument as it was; no condition. -/
import Derived.Test.YtjknccgefnnfnaaStO
import Derived.Test.YtjknccgefnnfnaaStY
set_option linter.unusedSimpArgs false
set_option linter.unusedVariables false
namespace Go.Proofs.Ytjknccgefnnfnaa
open Go.RowKit Go.Ink

set_option maxRecDepth 100000 in
theorem stateTells_lifted (os : Os) (started : os.Started) (H : Type) (enc : TypeId × Value → H) :
    ReturnsInHanded {} Try.checked os 7 .any (Rows.stateTellsSpec.pre6 enc Try.prog Try.f7 Rows.stateTellsRow.domain false) (Rows.stateTellsSpec.post enc Try.prog Try.f7 false true false false) :=
  row_true (C := Try.checked) (ts := [26, 26, 3, 22, 3, 22]) own0 started (by kernel_rfl) Try.func7
    (ChangeSpec.witness6 (enc := enc) (C := Try.checked) false ⟨#[], #[sv St.zero none 0 none 0, sv St.zero none 0 none 0, .int .i64 0, .int .u32 0, .int .i64 0, .int .u32 0], []⟩ 8 (by kernel_rfl) (by kernel_rfl) (by kernel_rfl) (by kernel_rfl))
    rfl rfl rfl rfl (fun ds h => by match ds, h with | [_, _, _, _, _, _], _ => rfl) laid0 (by kernel_rfl) (fun W vs h => by
      obtain ⟨v0, _, rfl, a0, v1, _, rfl, a1, v2, _, rfl, a2, v3, _, rfl, a3, v4, _, rfl, a4, v5, _, rfl, a5, rfl⟩ := h
      obtain ⟨s, Ad, cd, Ar, cr, rfl, hs, hr⟩ := open_state a0
      obtain ⟨t, Bd, ed, Br, er, rfl, ht, hr2⟩ := open_state a1
      obtain ⟨n1, rfl, w1⟩ := a2.int (k := .i64) rfl
      obtain ⟨n2, rfl, w2⟩ := a3.int (k := .u32) rfl
      obtain ⟨n3, rfl, w3⟩ := a4.int (k := .i64) rfl
      obtain ⟨n4, rfl, w4⟩ := a5.int (k := .u32) rfl
      exact ctr_true (stateTells_ok s t hs ht Ad Ar Bd Br cd cr ed er n1 n2 n3 n4 (wf_u32 w4) W hr hr2))

theorem stateTells_holds : Rows.StateTellsSaid :=
  OpenClaim.holds_of_wide 7 Try.f7 rfl rfl rfl rfl rfl rfl rfl ⟨rfl, rfl, rfl, rfl, rfl⟩ rfl rfl rfl rfl rfl (by kernel_rfl) Try.func7 (by kernel_rfl)
    (of_decide_eq_true (by kernel_rfl)) (by unfold Func.isWrapper; first | (rw [if_pos (by decide +kernel)]; kernel_rfl) | (rw [if_neg (by decide +kernel)]; exact ⟨rfl, rfl⟩))
    (fun os started H enc _ => stateTells_lifted os started H enc)
#print axioms stateTells_holds
end Go.Proofs.Ytjknccgefnnfnaa
