/- For every input the law BlockFetches answers true and leaves every argument as it was; the table of math/bits is what the program's text lays (the card ties it); no other condition. -/
import Derived.Test.YtojejamfaeednaaGreatDoorStAll
import Derived.Test.YtojejamfaeednaaGreatDoorInkL
import Derived.Test.YtojejamfaeednaaGreatDoorBkP
import Derived.Test.YtojejamfaeednaaGreatDoorBfD
import Derived.Test.YtojejamfaeednaaGreatDoorCards
import Derived.Test.YtojejamfaeednaaGreatDoorTie
import Derived.SevenTiedAt
set_option linter.unusedSimpArgs false
set_option linter.unusedVariables false
namespace Go.Proofs.YtojejamfaeednaaGreatDoor
open Go.RowKit Go.Ink

theorem tab_of_laid {W : World} (h : laidMetH Tryz.prog Rows.blockFetchesRow.laid W) : TabOk W :=
  laid_table (t := 251) (e := 5) (vals := tzTab) h (MakeChecks.laidMetH_plain _ _ _ (by as_aux_lemma => kernel_rfl)) rfl (g := 0) (by as_aux_lemma => kernel_rfl) (by as_aux_lemma => kernel_rfl) (by as_aux_lemma => kernel_rfl) (by as_aux_lemma => kernel_rfl) (by as_aux_lemma => kernel_rfl) rfl (by simp only [maxLen]; omega)
theorem door_met (os : Os) (args : Array Value) : laidMetH Tryz.prog Rows.blockFetchesRow.laid ((World.doorLaid Tryz.prog 400 os).forCall (fun _ _ => 0) ⟨#[], args, []⟩).memory :=
  laidMetH_of_parts3 (fuel := 8) (laidMet_of_run' 8 (by as_aux_lemma => kernel_rfl) (by as_aux_lemma => kernel_rfl)) (by as_aux_lemma => kernel_rfl) (by as_aux_lemma => kernel_rfl)
set_option maxRecDepth 100000 in
theorem blockFetches_lifted (os : Os) (started : os.Started) (H : Type) (enc : TypeId × Value → H) :
    ReturnsInHanded {} Tryz.checked os 8 .any (fun w args => (Rows.blockFetchesSpec.pre enc Tryz.prog Tryz.f8 [] false w args ∧ laidMetH Tryz.prog Rows.blockFetchesRow.laid w) ∧ sizedMet enc Tryz.prog Tryz.f8 (OpenSpec.ofChange Rows.blockFetchesSpec) false w args) (Rows.blockFetchesSpec.post enc Tryz.prog Tryz.f8 false true false false) :=
  row_trueL (C := Tryz.checked) (ts := [25, 32]) own0 started (by as_aux_lemma => kernel_rfl) Tryz.func8
    (ChangeSpec.witness_shaped (enc := enc) (C := Tryz.checked) (os := os) (X := fun w _ => laidMetH Tryz.prog Rows.blockFetchesRow.laid w) false (World.doorLaid Tryz.prog 400 os) #[.slice none 0 0, .int .u32 0] 8 rfl (World.shaped_of_RefB (by as_aux_lemma => kernel_rfl) (by as_aux_lemma => kernel_rfl)) (by as_aux_lemma => kernel_rfl) (by as_aux_lemma => kernel_rfl) (by as_aux_lemma => kernel_rfl) (door_met os _))
    rfl rfl rfl rfl (fun ds h => by match ds, h with | [_, _], _ => rfl) laid0 (by as_aux_lemma => kernel_rfl) (fun W vs h hx => by
      have ht := tab_of_laid hx
      obtain ⟨v0, _, rfl, a0, v1, _, rfl, a1, rfl⟩ := h
      obtain ⟨B, cb, b, rfl, hB, hb⟩ := open_bytes a0
      obtain ⟨n1, rfl, w1⟩ := a1.int (k := .u32) rfl
      exact ctr_true (blockFetches_ok B cb b n1 hb (wf_u32 w1) W hB ht))

set_option maxHeartbeats 0 in
theorem blockFetches_said : Rows.BlockFetchesSaid :=
  OpenClaim.holds_of_wide 8 Tryz.f8 rfl rfl rfl rfl rfl rfl rfl ⟨rfl, rfl, rfl, rfl, rfl⟩ rfl rfl rfl rfl rfl blockFetches_ready Tryz.func8 blockFetches_facts blockFetches_inst blockFetches_wrap
    (fun os started H enc _ => blockFetches_lifted os started H enc)
set_option maxHeartbeats 0 in
/-- The tied card. -/
theorem blockFetches_holds : Rows.BlockFetchesCardSaid :=
  Claim7.holds_tied_plain_at .later [] [.data] true Rows.blockFetchesCard.stood.harness false
    blockFetches_said (fun _ h => by cases h) (by as_aux_lemma => kernel_rfl) (fun _ h => by cases h) blockFetches_row_tie rfl ⟨rfl, rfl⟩ (by as_aux_lemma => kernel_rfl) rfl
    (fun f fn hf hfn => by
      obtain rfl : f = 8 := Option.some.inj ((show Tryz.prog.funcNamed "innkeeper/innkeeperlaw18.BlockFetches" = some 8 by as_aux_lemma => kernel_rfl).symm.trans hf) |>.symm
      obtain rfl : fn = Tryz.f8 := (Option.some.inj (Tryz.func8.symm.trans hfn)).symm
      exact ⟨by as_aux_lemma => kernel_rfl, fun j t ht => by
        have hm : t ∈ Tryz.f8.params.toList := by simpa using Array.mem_of_getElem? ht
        have hall : (Tryz.f8.params.toList.all fun u => !Tryz.prog.wantsStandIn u) = true := by as_aux_lemma => kernel_rfl
        exact (show Tryz.prog.wantsStandIn t = false by simpa using List.all_eq_true.1 hall t hm)⟩)
    (by as_aux_lemma => kernel_rfl)
#print axioms blockFetches_holds
end Go.Proofs.YtojejamfaeednaaGreatDoor
