/- For every input the law AuditTells answers true and leaves every argument as it was; the table of math/bits is what the program's text lays (the card ties it); no other condition. -/
import Derived.Test.YtmhpcgmjlpfheaaGreatDoorStAll
import Derived.Test.YtmhpcgmjlpfheaaGreatDoorInkL
import Derived.Test.YtmhpcgmjlpfheaaGreatDoorAuC
import Derived.Test.YtmhpcgmjlpfheaaGreatDoorAfA
import Derived.Test.YtmhpcgmjlpfheaaGreatDoorCards
import Derived.Test.YtmhpcgmjlpfheaaGreatDoorTie
import Derived.SevenTiedAt
set_option linter.unusedSimpArgs false
set_option linter.unusedVariables false
namespace Go.Proofs.YtmhpcgmjlpfheaaGreatDoor
open Go.RowKit Go.Ink

theorem door_met (os : Os) (args : Array Value) : laidMetH Tryz.prog Rows.auditTellsRow.laid ((World.doorLaid Tryz.prog 400 os).forCall (fun _ _ => 0) ⟨#[], args, []⟩).memory :=
  laidMetH_of_parts3 (fuel := 8) (laidMet_of_run' 8 (by as_aux_lemma => kernel_rfl) (by as_aux_lemma => kernel_rfl)) (by as_aux_lemma => kernel_rfl) (by as_aux_lemma => kernel_rfl)
set_option maxRecDepth 100000 in
theorem auditTells_lifted (os : Os) (started : os.Started) (H : Type) (enc : TypeId × Value → H) :
    ReturnsInHanded {} Tryz.checked os 4 .any (fun w args => (Rows.auditTellsSpec.pre enc Tryz.prog Tryz.f4 [] false w args ∧ laidMetH Tryz.prog Rows.auditTellsRow.laid w) ∧ sizedMet enc Tryz.prog Tryz.f4 (OpenSpec.ofChange Rows.auditTellsSpec) false w args) (Rows.auditTellsSpec.post enc Tryz.prog Tryz.f4 false true false false) :=
  row_trueL (C := Tryz.checked) (ts := [31, 31, 23, 23]) own0 started (by as_aux_lemma => kernel_rfl) Tryz.func4
    (ChangeSpec.witness_shaped (enc := enc) (C := Tryz.checked) (os := os) (X := fun w _ => laidMetH Tryz.prog Rows.auditTellsRow.laid w) false (World.doorLaid Tryz.prog 400 os) #[vv ⟨St.zero, [], [], [], [], 0, 0, false⟩ ⟨⟨none, 0, none, 0⟩, none, 0, none, 0, none, 0, none, 0⟩, vv ⟨St.zero, [], [], [], [], 0, 0, false⟩ ⟨⟨none, 0, none, 0⟩, none, 0, none, 0, none, 0, none, 0⟩, .slice none 0 0, .slice none 0 0] 8 rfl (World.shaped_of_RefB (by as_aux_lemma => kernel_rfl) (by as_aux_lemma => kernel_rfl)) (by as_aux_lemma => kernel_rfl) (by as_aux_lemma => kernel_rfl) (by as_aux_lemma => kernel_rfl) (door_met os _))
    rfl rfl rfl rfl (fun ds h => by match ds, h with | [_, _, _, _], _ => rfl) laid0 (by as_aux_lemma => kernel_rfl) (fun W vs h hx => by
      obtain ⟨v0, _, rfl, a0, v1, _, rfl, a1, v2, _, rfl, a2, v3, _, rfl, a3, rfl⟩ := h
      obtain ⟨a, Y, rfl, ha, hA⟩ := open_view a0
      obtain ⟨b, Z, rfl, hb, hB⟩ := open_view a1
      obtain ⟨A, ca, l, rfl, hl⟩ := open_intsA a2
      obtain ⟨B, cb, m, rfl, hm⟩ := open_intsA a3
      exact ctr_true (auditTells_ok a b Y Z A B ca cb l m ha hb W hA hB hl hm))

set_option maxHeartbeats 0 in
theorem auditTells_said : Rows.AuditTellsSaid :=
  OpenClaim.holds_of_wide 4 Tryz.f4 rfl rfl rfl rfl rfl rfl rfl ⟨rfl, rfl, rfl, rfl, rfl⟩ rfl rfl rfl rfl rfl auditTells_ready Tryz.func4 auditTells_facts auditTells_inst auditTells_wrap
    (fun os started H enc _ => auditTells_lifted os started H enc)
set_option maxHeartbeats 0 in
/-- The tied card. -/
theorem auditTells_holds : Rows.AuditTellsCardSaid :=
  Claim7.holds_tied_plain_at .later [] [.data] true Rows.auditTellsCard.stood.harness false
    auditTells_said (fun _ h => by cases h) (by as_aux_lemma => kernel_rfl) (fun _ h => by cases h) auditTells_row_tie rfl ⟨rfl, rfl⟩ (by as_aux_lemma => kernel_rfl) rfl
    (fun f fn hf hfn => by
      obtain rfl : f = 4 := Option.some.inj ((show Tryz.prog.funcNamed "innkeeper/innkeeperlaw27.AuditTells" = some 4 by as_aux_lemma => kernel_rfl).symm.trans hf) |>.symm
      obtain rfl : fn = Tryz.f4 := (Option.some.inj (Tryz.func4.symm.trans hfn)).symm
      exact ⟨by as_aux_lemma => kernel_rfl, fun j t ht => by
        have hm : t ∈ Tryz.f4.params.toList := by simpa using Array.mem_of_getElem? ht
        have hall : (Tryz.f4.params.toList.all fun u => !Tryz.prog.wantsStandIn u) = true := by as_aux_lemma => kernel_rfl
        exact (show Tryz.prog.wantsStandIn t = false by simpa using List.all_eq_true.1 hall t hm)⟩)
    (by as_aux_lemma => kernel_rfl)
#print axioms auditTells_holds
end Go.Proofs.YtmhpcgmjlpfheaaGreatDoor
