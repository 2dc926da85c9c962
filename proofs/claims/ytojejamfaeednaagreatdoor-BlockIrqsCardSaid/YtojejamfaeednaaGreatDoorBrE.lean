/- For every input the law BlockIrqs answers true and leaves every argument as it was; the table of math/bits is what the program's text lays (the card ties it); no other condition. -/
import Derived.Test.YtojejamfaeednaaGreatDoorStAll
import Derived.Test.YtojejamfaeednaaGreatDoorInkL
import Derived.Test.YtojejamfaeednaaGreatDoorBkS
import Derived.Test.YtojejamfaeednaaGreatDoorBfE
import Derived.Test.YtojejamfaeednaaGreatDoorCards
import Derived.Test.YtojejamfaeednaaGreatDoorTie
import Derived.SevenTiedAt
set_option linter.unusedSimpArgs false
set_option linter.unusedVariables false
namespace Go.Proofs.YtojejamfaeednaaGreatDoor
open Go.RowKit Go.Ink

theorem tab_of_laid {W : World} (h : laidMetH Tryz.prog Rows.blockIrqsRow.laid W) : TabOk W :=
  laid_table (t := 251) (e := 5) (vals := tzTab) h (MakeChecks.laidMetH_plain _ _ _ (by as_aux_lemma => kernel_rfl)) rfl (g := 0) (by as_aux_lemma => kernel_rfl) (by as_aux_lemma => kernel_rfl) (by as_aux_lemma => kernel_rfl) (by as_aux_lemma => kernel_rfl) (by as_aux_lemma => kernel_rfl) rfl (by simp only [maxLen]; omega)
theorem door_met (os : Os) (args : Array Value) : laidMetH Tryz.prog Rows.blockIrqsRow.laid ((World.doorLaid Tryz.prog 400 os).forCall (fun _ _ => 0) ⟨#[], args, []⟩).memory :=
  laidMetH_of_parts3 (fuel := 8) (laidMet_of_run' 8 (by as_aux_lemma => kernel_rfl) (by as_aux_lemma => kernel_rfl)) (by as_aux_lemma => kernel_rfl) (by as_aux_lemma => kernel_rfl)
set_option maxRecDepth 100000 in
theorem blockIrqs_lifted (os : Os) (started : os.Started) (H : Type) (enc : TypeId × Value → H) :
    ReturnsInHanded {} Tryz.checked os 7 .any (fun w args => (Rows.blockIrqsSpec.pre enc Tryz.prog Tryz.f7 [] false w args ∧ laidMetH Tryz.prog Rows.blockIrqsRow.laid w) ∧ sizedMet enc Tryz.prog Tryz.f7 (OpenSpec.ofChange Rows.blockIrqsSpec) false w args) (Rows.blockIrqsSpec.post enc Tryz.prog Tryz.f7 false true false false) :=
  row_trueL (C := Tryz.checked) (ts := [46, 32, 4, 32]) own0 started (by as_aux_lemma => kernel_rfl) Tryz.func7
    (ChangeSpec.witness_shaped (enc := enc) (C := Tryz.checked) (os := os) (X := fun w _ => laidMetH Tryz.prog Rows.blockIrqsRow.laid w) false (World.doorLaid Tryz.prog 400 os) #[.slice none 0 0, .int .u32 0, .bool false, .int .u32 0] 8 rfl (World.shaped_of_RefB (by as_aux_lemma => kernel_rfl) (by as_aux_lemma => kernel_rfl)) (by as_aux_lemma => kernel_rfl) (by as_aux_lemma => kernel_rfl) (by as_aux_lemma => kernel_rfl) (door_met os _))
    rfl rfl rfl rfl (fun ds h => by match ds, h with | [_, _, _, _], _ => rfl) laid0 (by as_aux_lemma => kernel_rfl) (fun W vs h hx => by
      have ht := tab_of_laid hx
      obtain ⟨v0, _, rfl, a0, v1, _, rfl, a1, v2, _, rfl, a2, v3, _, rfl, a3, rfl⟩ := h
      obtain ⟨A, c, l, rfl, hl, -, -⟩ := a0.ints (e := 3) (k := .i64) rfl rfl rfl
      obtain ⟨n1, rfl, w1⟩ := a1.int (k := .u32) rfl
      obtain ⟨e2, rfl⟩ := a2.bool rfl
      obtain ⟨n3, rfl, w3⟩ := a3.int (k := .u32) rfl
      exact ctr_true (blockIrqs_ok A c l n1 e2 n3 (wf_u32 w1) (wf_u32 w3) W hl ht))

set_option maxHeartbeats 0 in
theorem blockIrqs_said : Rows.BlockIrqsSaid :=
  OpenClaim.holds_of_wide 7 Tryz.f7 rfl rfl rfl rfl rfl rfl rfl ⟨rfl, rfl, rfl, rfl, rfl⟩ rfl rfl rfl rfl rfl blockIrqs_ready Tryz.func7 blockIrqs_facts blockIrqs_inst blockIrqs_wrap
    (fun os started H enc _ => blockIrqs_lifted os started H enc)
set_option maxHeartbeats 0 in
/-- The tied card. -/
theorem blockIrqs_holds : Rows.BlockIrqsCardSaid :=
  Claim7.holds_tied_plain_at .later [] [.data] true Rows.blockIrqsCard.stood.harness false
    blockIrqs_said (fun _ h => by cases h) (by as_aux_lemma => kernel_rfl) (fun _ h => by cases h) blockIrqs_row_tie rfl ⟨rfl, rfl⟩ (by as_aux_lemma => kernel_rfl) rfl
    (fun f fn hf hfn => by
      obtain rfl : f = 7 := Option.some.inj ((show Tryz.prog.funcNamed "innkeeper/innkeeperlaw18.BlockIrqs" = some 7 by as_aux_lemma => kernel_rfl).symm.trans hf) |>.symm
      obtain rfl : fn = Tryz.f7 := (Option.some.inj (Tryz.func7.symm.trans hfn)).symm
      exact ⟨by as_aux_lemma => kernel_rfl, fun j t ht => by
        have hm : t ∈ Tryz.f7.params.toList := by simpa using Array.mem_of_getElem? ht
        have hall : (Tryz.f7.params.toList.all fun u => !Tryz.prog.wantsStandIn u) = true := by as_aux_lemma => kernel_rfl
        exact (show Tryz.prog.wantsStandIn t = false by simpa using List.all_eq_true.1 hall t hm)⟩)
    (by as_aux_lemma => kernel_rfl)
#print axioms blockIrqs_holds
end Go.Proofs.YtojejamfaeednaaGreatDoor
