/- For every input the law BlockPlays answers true and leaves every argument as it was; the table of math/bits is what the program's text lays (the card ties it); no other condition. -/
import Derived.Test.YthcpmpmbgbibfaaGreatDoorStAll
import Derived.Test.YthcpmpmbgbibfaaGreatDoorInkL
import Derived.Test.YthcpmpmbgbibfaaGreatDoorBlP
import Derived.Test.YthcpmpmbgbibfaaGreatDoorBfH
import Derived.Test.YthcpmpmbgbibfaaGreatDoorCards
import Derived.Test.YthcpmpmbgbibfaaGreatDoorTie
import Derived.SevenTiedAt
set_option linter.unusedSimpArgs false
set_option linter.unusedVariables false
namespace Go.Proofs.YthcpmpmbgbibfaaGreatDoor
open Go.RowKit Go.Ink

theorem tab_of_laid {W : World} (h : laidMetH Tryz.prog Rows.blockPlaysRow.laid W) : TabOk W :=
  laid_table (t := 224) (e := 5) (vals := tzTab) h (MakeChecks.laidMetH_plain _ _ _ (by as_aux_lemma => kernel_rfl)) rfl (g := 0) (by as_aux_lemma => kernel_rfl) (by as_aux_lemma => kernel_rfl) (by as_aux_lemma => kernel_rfl) (by as_aux_lemma => kernel_rfl) (by as_aux_lemma => kernel_rfl) rfl (by simp only [maxLen]; omega)
theorem door_met (os : Os) (args : Array Value) : laidMetH Tryz.prog Rows.blockPlaysRow.laid ((World.doorLaid Tryz.prog 400 os).forCall (fun _ _ => 0) ⟨#[], args, []⟩).memory :=
  laidMetH_of_parts3 (fuel := 8) (laidMet_of_run' 8 (by as_aux_lemma => kernel_rfl) (by as_aux_lemma => kernel_rfl)) (by as_aux_lemma => kernel_rfl) (by as_aux_lemma => kernel_rfl)
set_option maxRecDepth 100000 in
theorem blockPlays_lifted (os : Os) (started : os.Started) (H : Type) (enc : TypeId × Value → H) :
    ReturnsInHanded {} Tryz.checked os 6 .any (fun w args => (Rows.blockPlaysSpec.pre enc Tryz.prog Tryz.f6 [] false w args ∧ laidMetH Tryz.prog Rows.blockPlaysRow.laid w) ∧ sizedMet enc Tryz.prog Tryz.f6 (OpenSpec.ofChange Rows.blockPlaysSpec) false w args) (Rows.blockPlaysSpec.post enc Tryz.prog Tryz.f6 false true false false) :=
  row_trueL (C := Tryz.checked) (ts := [22, 3, 23, 66]) own0 started (by as_aux_lemma => kernel_rfl) Tryz.func6
    (ChangeSpec.witness_shaped (enc := enc) (C := Tryz.checked) (os := os) (X := fun w _ => laidMetH Tryz.prog Rows.blockPlaysRow.laid w) false (World.doorLaid Tryz.prog 400 os) #[.slice none 0 0, .int .i64 0, .slice none 0 0, .slice none 0 0] 8 rfl (World.shaped_of_RefB (by as_aux_lemma => kernel_rfl) (by as_aux_lemma => kernel_rfl)) (by as_aux_lemma => kernel_rfl) (by as_aux_lemma => kernel_rfl) (by as_aux_lemma => kernel_rfl) (door_met os _))
    rfl rfl rfl rfl (fun ds h => by match ds, h with | [_, _, _, _], _ => rfl) laid0 (by as_aux_lemma => kernel_rfl) (fun W vs h hx => by
      have ht := tab_of_laid hx
      obtain ⟨v0, _, rfl, a0, v1, _, rfl, a1, v2, _, rfl, a2, v3, _, rfl, a3, rfl⟩ := h
      obtain ⟨A, c, l, rfl, hl, hr⟩ := open_raws a0
      obtain ⟨n1, rfl, w1⟩ := a1.int (k := .i64) rfl
      obtain ⟨B, cb, b, rfl, hB, hb⟩ := open_bytes a2
      obtain ⟨E, ce, es, rfl, hE, he⟩ := open_events a3
      exact ctr_true (blockPlays_ok A B E c cb ce l n1 b hb es W hl hr hB hE he ht))

set_option maxHeartbeats 0 in
theorem blockPlays_said : Rows.BlockPlaysSaid :=
  OpenClaim.holds_of_wide 6 Tryz.f6 rfl rfl rfl rfl rfl rfl rfl ⟨rfl, rfl, rfl, rfl, rfl⟩ rfl rfl rfl rfl rfl blockPlays_ready Tryz.func6 blockPlays_facts blockPlays_inst blockPlays_wrap
    (fun os started H enc _ => blockPlays_lifted os started H enc)
set_option maxHeartbeats 0 in
/-- The tied card. -/
theorem blockPlays_holds : Rows.BlockPlaysCardSaid :=
  Claim7.holds_tied_plain_at .later [] [.data] true Rows.blockPlaysCard.stood.harness false
    blockPlays_said (fun _ h => by cases h) (by as_aux_lemma => kernel_rfl) (fun _ h => by cases h) blockPlays_row_tie rfl ⟨rfl, rfl⟩ (by as_aux_lemma => kernel_rfl) rfl
    (fun f fn hf hfn => by
      obtain rfl : f = 6 := Option.some.inj ((show Tryz.prog.funcNamed "innkeeper/innkeeperlaw18.BlockPlays" = some 6 by as_aux_lemma => kernel_rfl).symm.trans hf) |>.symm
      obtain rfl : fn = Tryz.f6 := (Option.some.inj (Tryz.func6.symm.trans hfn)).symm
      exact ⟨by as_aux_lemma => kernel_rfl, fun j t ht => by
        have hm : t ∈ Tryz.f6.params.toList := by simpa using Array.mem_of_getElem? ht
        have hall : (Tryz.f6.params.toList.all fun u => !Tryz.prog.wantsStandIn u) = true := by as_aux_lemma => kernel_rfl
        exact (show Tryz.prog.wantsStandIn t = false by simpa using List.all_eq_true.1 hall t hm)⟩)
    (by as_aux_lemma => kernel_rfl)
#print axioms blockPlays_holds
end Go.Proofs.YthcpmpmbgbibfaaGreatDoor
