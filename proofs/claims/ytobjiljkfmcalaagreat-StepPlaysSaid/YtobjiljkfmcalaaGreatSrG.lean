/- For every input the law StepPlays answers true and leaves every argument as it was; no condition. -/
import Derived.Test.YtobjiljkfmcalaaGreatStAll
import Derived.Test.YtobjiljkfmcalaaGreatSsO
set_option linter.unusedSimpArgs false
set_option linter.unusedVariables false
namespace Go.Proofs.YtobjiljkfmcalaaGreat
open Go.RowKit Go.Ink

set_option maxRecDepth 100000 in
theorem stepPlays_lifted (os : Os) (started : os.Started) (H : Type) (enc : TypeId × Value → H) :
    ReturnsInHanded {} Tryz.checked os 9 .any (Rows.stepPlaysSpec.pre6 enc Tryz.prog Tryz.f9 Rows.stepPlaysRow.domain false) (Rows.stepPlaysSpec.post enc Tryz.prog Tryz.f9 false true false false) :=
  row_true (C := Tryz.checked) (ts := [26, 27, 27, 62]) own0 started (by kernel_rfl) Tryz.func9
    (ChangeSpec.witness6 (enc := enc) (C := Tryz.checked) false ⟨#[], #[sv St.zero none 0 none 0, .slice none 0 0, .slice none 0 0, .slice none 0 0], []⟩ 8 (by kernel_rfl) (by kernel_rfl) (by kernel_rfl) (by kernel_rfl))
    rfl rfl rfl rfl (fun ds h => by match ds, h with | [_, _, _, _], _ => rfl) laid0 (by kernel_rfl) (fun W vs h => by
      obtain ⟨v0, _, rfl, a0, v1, _, rfl, a1, v2, _, rfl, a2, v3, _, rfl, a3, rfl⟩ := h
      obtain ⟨s, Ad, cd, Ar, cr, rfl, hs, hr⟩ := open_state a0
      obtain ⟨B, cb, b, rfl, hB, hb⟩ := open_bytes a1
      obtain ⟨G, cg, g, rfl, hG, hg⟩ := open_bytes a2
      obtain ⟨E, ce, l, rfl, hE, hl⟩ := open_asks a3
      exact ctr_true (stepPlays_ok s hs Ad Ar B G E cd cr cb cg ce b g hb l W hr hB hG hE hl hg))

theorem stepPlays_holds : Rows.StepPlaysSaid :=
  OpenClaim.holds_of_wide 9 Tryz.f9 rfl rfl rfl rfl rfl rfl rfl ⟨rfl, rfl, rfl, rfl, rfl⟩ rfl rfl rfl rfl rfl (by kernel_rfl) Tryz.func9 (by kernel_rfl)
    (of_decide_eq_true (by kernel_rfl)) (by unfold Func.isWrapper; first | (rw [if_pos (by decide +kernel)]; kernel_rfl) | (rw [if_neg (by decide +kernel)]; exact ⟨rfl, rfl⟩))
    (fun os started H enc _ => stepPlays_lifted os started H enc)
#print axioms stepPlays_holds
end Go.Proofs.YtobjiljkfmcalaaGreat
