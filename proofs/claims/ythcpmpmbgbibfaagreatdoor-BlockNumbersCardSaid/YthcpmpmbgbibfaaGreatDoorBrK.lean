/- For every input the law BlockNumbers answers true and leaves every argument as it was; the table of math/bits is what the program's text lays (the card ties it); no other condition. -/
import Derived.Test.YthcpmpmbgbibfaaGreatDoorStAll
import Derived.Test.YthcpmpmbgbibfaaGreatDoorInkL
import Derived.Test.YthcpmpmbgbibfaaGreatDoorBlD
import Derived.Test.YthcpmpmbgbibfaaGreatDoorBfK
import Derived.Test.YthcpmpmbgbibfaaGreatDoorCards
import Derived.Test.YthcpmpmbgbibfaaGreatDoorTie
import Derived.SevenTiedAt
set_option linter.unusedSimpArgs false
set_option linter.unusedVariables false
namespace Go.Proofs.YthcpmpmbgbibfaaGreatDoor
open Go.RowKit Go.Ink

theorem tab_of_laid {W : World} (h : laidMetH Tryz.prog Rows.blockNumbersRow.laid W) : TabOk W :=
 laid_table (t := 224) (e := 5) (vals := tzTab) h (MakeChecks.laidMetH_plain _ _ _ (by as_aux_lemma => kernel_rfl)) rfl (g := 0) (by as_aux_lemma => kernel_rfl) (by as_aux_lemma => kernel_rfl) (by as_aux_lemma => kernel_rfl) (by as_aux_lemma => kernel_rfl) (by as_aux_lemma => kernel_rfl) rfl (by simp only [maxLen]; omega)
theorem door_met (os : Os) (args : Array Value) : laidMetH Tryz.prog Rows.blockNumbersRow.laid ((World.doorLaid Tryz.prog 400 os).forCall (fun _ _ => 0) ⟨#[], args, []⟩).memory :=
 laidMetH_of_parts3 (fuel := 8) (laidMet_of_run' 8 (by as_aux_lemma => kernel_rfl) (by as_aux_lemma => kernel_rfl)) (by as_aux_lemma => kernel_rfl) (by as_aux_lemma => kernel_rfl)
set_option maxRecDepth 100000 in
theorem blockNumbers_lifted (os : Os) (started : os.Started) (H : Type) (enc : TypeId × Value → H) :
 ReturnsInHanded {} Tryz.checked os 5 .any (fun w args => (Rows.blockNumbersSpec.pre enc Tryz.prog Tryz.f5 [] false w args ∧ laidMetH Tryz.prog Rows.blockNumbersRow.laid w) ∧ sizedMet enc Tryz.prog Tryz.f5 (OpenSpec.ofChange Rows.blockNumbersSpec) false w args) (Rows.blockNumbersSpec.post enc Tryz.prog Tryz.f5 false true false false) :=
 row_trueL (C := Tryz.checked) (ts := []) own0 started (by as_aux_lemma => kernel_rfl) Tryz.func5
  (ChangeSpec.witness_shaped (enc := enc) (C := Tryz.checked) (os := os) (X := fun w _ => laidMetH Tryz.prog Rows.blockNumbersRow.laid w) false (World.doorLaid Tryz.prog 400 os) #[] 8 rfl (World.shaped_of_RefB (by as_aux_lemma => kernel_rfl) (by as_aux_lemma => kernel_rfl)) (by as_aux_lemma => kernel_rfl) (by as_aux_lemma => kernel_rfl) (by as_aux_lemma => kernel_rfl) (door_met os _))
  rfl rfl rfl rfl (fun ds h => by match ds, h with | [], _ => rfl) laid0 (by as_aux_lemma => kernel_rfl) (fun W vs h hx => by
   have ht := tab_of_laid hx
   subst h

   exact ctr_true (blockNumbers_ok W ht))

set_option maxHeartbeats 0 in
theorem blockNumbers_said : Rows.BlockNumbersSaid :=
 OpenClaim.holds_of_wide 5 Tryz.f5 rfl rfl rfl rfl rfl rfl rfl ⟨rfl, rfl, rfl, rfl, rfl⟩ rfl rfl rfl rfl rfl blockNumbers_ready Tryz.func5 blockNumbers_facts blockNumbers_inst blockNumbers_wrap
  (fun os started H enc _ => blockNumbers_lifted os started H enc)
set_option maxHeartbeats 0 in
/-- The tied card. -/
theorem blockNumbers_holds : Rows.BlockNumbersCardSaid :=
 Claim7.holds_tied_plain_at .later [] [.data] true Rows.blockNumbersCard.stood.harness false
  blockNumbers_said (fun _ h => by cases h) (by as_aux_lemma => kernel_rfl) (fun _ h => by cases h) blockNumbers_row_tie rfl ⟨rfl, rfl⟩ (by as_aux_lemma => kernel_rfl) rfl
  (fun f fn hf hfn => by
   obtain rfl : f = 5 := Option.some.inj ((show Tryz.prog.funcNamed "innkeeper/innkeeperlaw18.BlockNumbers" = some 5 by as_aux_lemma => kernel_rfl).symm.trans hf) |>.symm
   obtain rfl : fn = Tryz.f5 := (Option.some.inj (Tryz.func5.symm.trans hfn)).symm
   exact ⟨by as_aux_lemma => kernel_rfl, fun j t ht => by
    have hm : t ∈ Tryz.f5.params.toList := by simpa using Array.mem_of_getElem? ht
    have hall : (Tryz.f5.params.toList.all fun u => !Tryz.prog.wantsStandIn u) = true := by as_aux_lemma => kernel_rfl
    exact (show Tryz.prog.wantsStandIn t = false by simpa using List.all_eq_true.1 hall t hm)⟩)
  (by as_aux_lemma => kernel_rfl)
#print axioms blockNumbers_holds
end Go.Proofs.YthcpmpmbgbibfaaGreatDoor
