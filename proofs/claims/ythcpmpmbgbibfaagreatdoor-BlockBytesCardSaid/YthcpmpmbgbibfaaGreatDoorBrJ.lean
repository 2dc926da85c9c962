/- For every input the law BlockBytes answers true and leaves every argument as it was; the table of math/bits is what the program's text lays (the card ties it); no other condition. -/
import Derived.Test.YthcpmpmbgbibfaaGreatDoorStAll
import Derived.Test.YthcpmpmbgbibfaaGreatDoorInkL
import Derived.Test.YthcpmpmbgbibfaaGreatDoorBlC
import Derived.Test.YthcpmpmbgbibfaaGreatDoorBfJ
import Derived.Test.YthcpmpmbgbibfaaGreatDoorCards
import Derived.Test.YthcpmpmbgbibfaaGreatDoorTie
import Derived.SevenTiedAt
set_option linter.unusedSimpArgs false
set_option linter.unusedVariables false
namespace Go.Proofs.YthcpmpmbgbibfaaGreatDoor
open Go.RowKit Go.Ink

theorem tab_of_laid {W : World} (h : laidMetH Tryz.prog Rows.blockBytesRow.laid W) : TabOk W :=
  laid_table (t := 224) (e := 5) (vals := tzTab) h (MakeChecks.laidMetH_plain _ _ _ (by as_aux_lemma => kernel_rfl)) rfl (g := 0) (by as_aux_lemma => kernel_rfl) (by as_aux_lemma => kernel_rfl) (by as_aux_lemma => kernel_rfl) (by as_aux_lemma => kernel_rfl) (by as_aux_lemma => kernel_rfl) rfl (by simp only [maxLen]; omega)
theorem door_met (os : Os) (args : Array Value) : laidMetH Tryz.prog Rows.blockBytesRow.laid ((World.doorLaid Tryz.prog 400 os).forCall (fun _ _ => 0) ⟨#[], args, []⟩).memory :=
  laidMetH_of_parts3 (fuel := 8) (laidMet_of_run' 8 (by as_aux_lemma => kernel_rfl) (by as_aux_lemma => kernel_rfl)) (by as_aux_lemma => kernel_rfl) (by as_aux_lemma => kernel_rfl)
set_option maxRecDepth 100000 in
theorem blockBytes_lifted (os : Os) (started : os.Started) (H : Type) (enc : TypeId × Value → H) :
    ReturnsInHanded {} Tryz.checked os 4 .any (fun w args => (Rows.blockBytesSpec.pre enc Tryz.prog Tryz.f4 [] false w args ∧ laidMetH Tryz.prog Rows.blockBytesRow.laid w) ∧ sizedMet enc Tryz.prog Tryz.f4 (OpenSpec.ofChange Rows.blockBytesSpec) false w args) (Rows.blockBytesSpec.post enc Tryz.prog Tryz.f4 false true false false) :=
  row_trueL (C := Tryz.checked) (ts := [23, 34]) own0 started (by as_aux_lemma => kernel_rfl) Tryz.func4
    (ChangeSpec.witness_shaped (enc := enc) (C := Tryz.checked) (os := os) (X := fun w _ => laidMetH Tryz.prog Rows.blockBytesRow.laid w) false (World.doorLaid Tryz.prog 400 os) #[.slice none 0 0, sv St.zero none 0 none 0] 8 rfl (World.shaped_of_RefB (by as_aux_lemma => kernel_rfl) (by as_aux_lemma => kernel_rfl)) (by as_aux_lemma => kernel_rfl) (by as_aux_lemma => kernel_rfl) (by as_aux_lemma => kernel_rfl) (door_met os _))
    rfl rfl rfl rfl (fun ds h => by match ds, h with | [_, _], _ => rfl) laid0 (by as_aux_lemma => kernel_rfl) (fun W vs h hx => by
      have ht := tab_of_laid hx
      obtain ⟨v0, _, rfl, a0, v1, _, rfl, a1, rfl⟩ := h
      obtain ⟨A, c, b, rfl, hB, hb⟩ := open_bytes a0
      obtain ⟨s, Ad, cd, Ar, cr, rfl, hs, hS⟩ := open_state a1
      exact ctr_true (blockBytes_ok A Ad Ar c cd cr b hb s hs W hB hS ht))

set_option maxHeartbeats 0 in
theorem blockBytes_said : Rows.BlockBytesSaid :=
  OpenClaim.holds_of_wide 4 Tryz.f4 rfl rfl rfl rfl rfl rfl rfl ⟨rfl, rfl, rfl, rfl, rfl⟩ rfl rfl rfl rfl rfl blockBytes_ready Tryz.func4 blockBytes_facts blockBytes_inst blockBytes_wrap
    (fun os started H enc _ => blockBytes_lifted os started H enc)
set_option maxHeartbeats 0 in
/-- The tied card. -/
theorem blockBytes_holds : Rows.BlockBytesCardSaid :=
  Claim7.holds_tied_plain_at .later [] [.data] true Rows.blockBytesCard.stood.harness false
    blockBytes_said (fun _ h => by cases h) (by as_aux_lemma => kernel_rfl) (fun _ h => by cases h) blockBytes_row_tie rfl ⟨rfl, rfl⟩ (by as_aux_lemma => kernel_rfl) rfl
    (fun f fn hf hfn => by
      obtain rfl : f = 4 := Option.some.inj ((show Tryz.prog.funcNamed "innkeeper/innkeeperlaw18.BlockBytes" = some 4 by as_aux_lemma => kernel_rfl).symm.trans hf) |>.symm
      obtain rfl : fn = Tryz.f4 := (Option.some.inj (Tryz.func4.symm.trans hfn)).symm
      exact ⟨by as_aux_lemma => kernel_rfl, fun j t ht => by
        have hm : t ∈ Tryz.f4.params.toList := by simpa using Array.mem_of_getElem? ht
        have hall : (Tryz.f4.params.toList.all fun u => !Tryz.prog.wantsStandIn u) = true := by as_aux_lemma => kernel_rfl
        exact (show Tryz.prog.wantsStandIn t = false by simpa using List.all_eq_true.1 hall t hm)⟩)
    (by as_aux_lemma => kernel_rfl)
#print axioms blockBytes_holds
end Go.Proofs.YthcpmpmbgbibfaaGreatDoor
