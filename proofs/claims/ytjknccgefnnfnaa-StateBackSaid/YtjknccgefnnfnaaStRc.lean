/- For every input the law StateBack answers true and leaves every argument as it was; no condition. -/
import Derived.Test.YtjknccgefnnfnaaStO
import Derived.Test.YtjknccgefnnfnaaStBk
set_option linter.unusedSimpArgs false
set_option linter.unusedVariables false
namespace Go.Proofs.Ytjknccgefnnfnaa
open Go.RowKit Go.Ink

theorem wf_u8 {n : Int} (h : (Lit.int .u8 n).wf = true) : 0 ≤ n ∧ n ≤ 255 := by
  simp only [Lit.wf, Bool.and_eq_true, decide_eq_true_eq] at h
  have h1 : IntKind.u8.min = 0 := rfl
  have h2 : IntKind.u8.max = 255 := rfl
  rw [h1, h2] at h
  exact h
set_option maxRecDepth 100000 in
theorem stateBack_lifted (os : Os) (started : os.Started) (H : Type) (enc : TypeId × Value → H) :
    ReturnsInHanded {} Try.checked os 6 .any (Rows.stateBackSpec.pre6 enc Try.prog Try.f6 Rows.stateBackRow.domain false) (Rows.stateBackSpec.post enc Try.prog Try.f6 false true false false) :=
  row_true (C := Try.checked) (ts := [26, 3, 5, 38]) own0 started (by kernel_rfl) Try.func6
    (ChangeSpec.witness6 (enc := enc) (C := Try.checked) false ⟨#[], #[sv St.zero none 0 none 0, .int .i64 0, .int .u8 0, .slice none 0 0], []⟩ 8 (by kernel_rfl) (by kernel_rfl) (by kernel_rfl) (by kernel_rfl))
    rfl rfl rfl rfl (fun ds h => by match ds, h with | [_, _, _, _], _ => rfl) laid0 (by kernel_rfl) (fun W vs h => by
      obtain ⟨v0, _, rfl, a0, v1, _, rfl, a1, v2, _, rfl, a2, v3, _, rfl, a3, rfl⟩ := h
      obtain ⟨s, Ad, cd, Ar, cr, rfl, hs, hr⟩ := open_state a0
      obtain ⟨n1, rfl, w1⟩ := a1.int (k := .i64) rfl
      obtain ⟨n2, rfl, w2⟩ := a2.int (k := .u8) rfl
      obtain ⟨B, cb, b, rfl, rb, bb, zb⟩ := a3.ints (e := 5) (k := .u8) rfl rfl rfl
      exact ctr_true (stateBack_ok s hs Ad Ar B cd cr cb n1 n2 b (fun x hx => wf_u8 (zb x hx)) W hr rb))

theorem stateBack_holds : Rows.StateBackSaid :=
  OpenClaim.holds_of_wide 6 Try.f6 rfl rfl rfl rfl rfl rfl rfl ⟨rfl, rfl, rfl, rfl, rfl⟩ rfl rfl rfl rfl rfl (by kernel_rfl) Try.func6 (by kernel_rfl)
    (of_decide_eq_true (by kernel_rfl)) (by unfold Func.isWrapper; first | (rw [if_pos (by decide +kernel)]; kernel_rfl) | (rw [if_neg (by decide +kernel)]; exact ⟨rfl, rfl⟩))
    (fun os started H enc _ => stateBack_lifted os started H enc)
#print axioms stateBack_holds
end Go.Proofs.Ytjknccgefnnfnaa
