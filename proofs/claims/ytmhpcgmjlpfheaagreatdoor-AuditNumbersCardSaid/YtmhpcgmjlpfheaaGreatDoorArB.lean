/- For every input the law AuditNumbers answers true and leaves every argument as it was; the table of math/bits is what the program's text lays (the card ties it); no other condition. -/
import Derived.Test.YtmhpcgmjlpfheaaGreatDoorStAll
import Derived.Test.YtmhpcgmjlpfheaaGreatDoorInkL
import Derived.Test.YtmhpcgmjlpfheaaGreatDoorAuD
import Derived.Test.YtmhpcgmjlpfheaaGreatDoorAfB
import Derived.Test.YtmhpcgmjlpfheaaGreatDoorCards
import Derived.Test.YtmhpcgmjlpfheaaGreatDoorTie
import Derived.SevenTiedAt
set_option linter.unusedSimpArgs false
set_option linter.unusedVariables false
namespace Go.Proofs.YtmhpcgmjlpfheaaGreatDoor
open Go.RowKit Go.Ink

theorem door_met (os : Os) (args : Array Value) : laidMetH Tryz.prog Rows.auditNumbersRow.laid ((World.doorLaid Tryz.prog 400 os).forCall (fun _ _ => 0) ⟨#[], args, []⟩).memory :=
  laidMetH_of_parts3 (fuel := 8) (laidMet_of_run' 8 (by as_aux_lemma => kernel_rfl) (by as_aux_lemma => kernel_rfl)) (by as_aux_lemma => kernel_rfl) (by as_aux_lemma => kernel_rfl)
set_option maxRecDepth 100000 in
theorem auditNumbers_lifted (os : Os) (started : os.Started) (H : Type) (enc : TypeId × Value → H) :
    ReturnsInHanded {} Tryz.checked os 3 .any (fun w args => (Rows.auditNumbersSpec.pre enc Tryz.prog Tryz.f3 [] false w args ∧ laidMetH Tryz.prog Rows.auditNumbersRow.laid w) ∧ sizedMet enc Tryz.prog Tryz.f3 (OpenSpec.ofChange Rows.auditNumbersSpec) false w args) (Rows.auditNumbersSpec.post enc Tryz.prog Tryz.f3 false true false false) :=
  row_trueL (C := Tryz.checked) (ts := []) own0 started (by as_aux_lemma => kernel_rfl) Tryz.func3
    (ChangeSpec.witness_shaped (enc := enc) (C := Tryz.checked) (os := os) (X := fun w _ => laidMetH Tryz.prog Rows.auditNumbersRow.laid w) false (World.doorLaid Tryz.prog 400 os) #[] 8 rfl (World.shaped_of_RefB (by as_aux_lemma => kernel_rfl) (by as_aux_lemma => kernel_rfl)) (by as_aux_lemma => kernel_rfl) (by as_aux_lemma => kernel_rfl) (by as_aux_lemma => kernel_rfl) (door_met os _))
    rfl rfl rfl rfl (fun ds h => by match ds, h with | [], _ => rfl) laid0 (by as_aux_lemma => kernel_rfl) (fun W vs h hx => by
      subst h

      exact ctr_true (auditNumbers_ok W))

set_option maxHeartbeats 0 in
theorem auditNumbers_said : Rows.AuditNumbersSaid :=
  OpenClaim.holds_of_wide 3 Tryz.f3 rfl rfl rfl rfl rfl rfl rfl ⟨rfl, rfl, rfl, rfl, rfl⟩ rfl rfl rfl rfl rfl auditNumbers_ready Tryz.func3 auditNumbers_facts auditNumbers_inst auditNumbers_wrap
    (fun os started H enc _ => auditNumbers_lifted os started H enc)
set_option maxHeartbeats 0 in
/-- The tied card. -/
theorem auditNumbers_holds : Rows.AuditNumbersCardSaid :=
  Claim7.holds_tied_plain_at .later [] [.data] true Rows.auditNumbersCard.stood.harness false
    auditNumbers_said (fun _ h => by cases h) (by as_aux_lemma => kernel_rfl) (fun _ h => by cases h) auditNumbers_row_tie rfl ⟨rfl, rfl⟩ (by as_aux_lemma => kernel_rfl) rfl
    (fun f fn hf hfn => by
      obtain rfl : f = 3 := Option.some.inj ((show Tryz.prog.funcNamed "innkeeper/innkeeperlaw27.AuditNumbers" = some 3 by as_aux_lemma => kernel_rfl).symm.trans hf) |>.symm
      obtain rfl : fn = Tryz.f3 := (Option.some.inj (Tryz.func3.symm.trans hfn)).symm
      exact ⟨by as_aux_lemma => kernel_rfl, fun j t ht => by
        have hm : t ∈ Tryz.f3.params.toList := by simpa using Array.mem_of_getElem? ht
        have hall : (Tryz.f3.params.toList.all fun u => !Tryz.prog.wantsStandIn u) = true := by as_aux_lemma => kernel_rfl
        exact (show Tryz.prog.wantsStandIn t = false by simpa using List.all_eq_true.1 hall t hm)⟩)
    (by as_aux_lemma => kernel_rfl)
#print axioms auditNumbers_holds
end Go.Proofs.YtmhpcgmjlpfheaaGreatDoor
