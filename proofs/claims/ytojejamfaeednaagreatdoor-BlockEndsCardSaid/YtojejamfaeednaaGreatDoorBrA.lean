/- For every input the law BlockEnds answers true and leaves every argument as it was; the table of math/bits is what the program's text lays (the card ties it); no other condition. -/
import Derived.Test.YtojejamfaeednaaGreatDoorStAll
import Derived.Test.YtojejamfaeednaaGreatDoorInkL
import Derived.Test.YtojejamfaeednaaGreatDoorBkL
import Derived.Test.YtojejamfaeednaaGreatDoorBfA
import Derived.Test.YtojejamfaeednaaGreatDoorCards
import Derived.Test.YtojejamfaeednaaGreatDoorTie
import Derived.SevenTiedAt
set_option linter.unusedSimpArgs false
set_option linter.unusedVariables false
namespace Go.Proofs.YtojejamfaeednaaGreatDoor
open Go.RowKit Go.Ink

theorem tab_of_laid {W : World} (h : laidMetH Tryz.prog Rows.blockEndsRow.laid W) : TabOk W :=
  laid_table (t := 251) (e := 5) (vals := tzTab) h (MakeChecks.laidMetH_plain _ _ _ (by as_aux_lemma => kernel_rfl)) rfl (g := 0) (by as_aux_lemma => kernel_rfl) (by as_aux_lemma => kernel_rfl) (by as_aux_lemma => kernel_rfl) (by as_aux_lemma => kernel_rfl) (by as_aux_lemma => kernel_rfl) rfl (by simp only [maxLen]; omega)
theorem door_met (os : Os) (args : Array Value) : laidMetH Tryz.prog Rows.blockEndsRow.laid ((World.doorLaid Tryz.prog 400 os).forCall (fun _ _ => 0) ⟨#[], args, []⟩).memory :=
  laidMetH_of_parts3 (fuel := 8) (laidMet_of_run' 8 (by as_aux_lemma => kernel_rfl) (by as_aux_lemma => kernel_rfl)) (by as_aux_lemma => kernel_rfl) (by as_aux_lemma => kernel_rfl)
set_option maxRecDepth 100000 in
theorem blockEnds_lifted (os : Os) (started : os.Started) (H : Type) (enc : TypeId × Value → H) :
    ReturnsInHanded {} Tryz.checked os 4 .any (fun w args => (Rows.blockEndsSpec.pre enc Tryz.prog Tryz.f4 [] false w args ∧ laidMetH Tryz.prog Rows.blockEndsRow.laid w) ∧ sizedMet enc Tryz.prog Tryz.f4 (OpenSpec.ofChange Rows.blockEndsSpec) false w args) (Rows.blockEndsSpec.post enc Tryz.prog Tryz.f4 false true false false) :=
  row_trueL (C := Tryz.checked) (ts := [3, 32, 4, 4, 4, 46, 3, 32, 32]) own0 started (by as_aux_lemma => kernel_rfl) Tryz.func4
    (ChangeSpec.witness_shaped (enc := enc) (C := Tryz.checked) (os := os) (X := fun w _ => laidMetH Tryz.prog Rows.blockEndsRow.laid w) false (World.doorLaid Tryz.prog 400 os) #[.int .i64 0, .int .u32 0, .bool false, .bool false, .bool false, .slice none 0 0, .int .i64 0, .int .u32 0, .int .u32 0] 8 rfl (World.shaped_of_RefB (by as_aux_lemma => kernel_rfl) (by as_aux_lemma => kernel_rfl)) (by as_aux_lemma => kernel_rfl) (by as_aux_lemma => kernel_rfl) (by as_aux_lemma => kernel_rfl) (door_met os _))
    rfl rfl rfl rfl (fun ds h => by match ds, h with | [_, _, _, _, _, _, _, _, _], _ => rfl) laid0 (by as_aux_lemma => kernel_rfl) (fun W vs h hx => by
      have ht := tab_of_laid hx
      obtain ⟨v0, _, rfl, a0, v1, _, rfl, a1, v2, _, rfl, a2, v3, _, rfl, a3, v4, _, rfl, a4, v5, _, rfl, a5, v6, _, rfl, a6, v7, _, rfl, a7, v8, _, rfl, a8, rfl⟩ := h
      obtain ⟨n0, rfl, w0⟩ := a0.int (k := .i64) rfl
      obtain ⟨n1, rfl, w1⟩ := a1.int (k := .u32) rfl
      obtain ⟨e2, rfl⟩ := a2.bool rfl
      obtain ⟨e3, rfl⟩ := a3.bool rfl
      obtain ⟨e4, rfl⟩ := a4.bool rfl
      obtain ⟨A, c, l, rfl, hl, -, -⟩ := a5.ints (e := 3) (k := .i64) rfl rfl rfl
      obtain ⟨n6, rfl, w6⟩ := a6.int (k := .i64) rfl
      obtain ⟨n7, rfl, w7⟩ := a7.int (k := .u32) rfl
      obtain ⟨n8, rfl, w8⟩ := a8.int (k := .u32) rfl
      exact ctr_true (blockEnds_ok n0 n1 (wf_u32 w1) e2 e3 e4 A c l n6 n7 n8 (wf_u32 w7) (wf_u32 w8) W hl ht))

set_option maxHeartbeats 0 in
theorem blockEnds_said : Rows.BlockEndsSaid :=
  OpenClaim.holds_of_wide 4 Tryz.f4 rfl rfl rfl rfl rfl rfl rfl ⟨rfl, rfl, rfl, rfl, rfl⟩ rfl rfl rfl rfl rfl blockEnds_ready Tryz.func4 blockEnds_facts blockEnds_inst blockEnds_wrap
    (fun os started H enc _ => blockEnds_lifted os started H enc)
set_option maxHeartbeats 0 in
/-- The tied card. -/
theorem blockEnds_holds : Rows.BlockEndsCardSaid :=
  Claim7.holds_tied_plain_at .later [] [.data] true Rows.blockEndsCard.stood.harness false
    blockEnds_said (fun _ h => by cases h) (by as_aux_lemma => kernel_rfl) (fun _ h => by cases h) blockEnds_row_tie rfl ⟨rfl, rfl⟩ (by as_aux_lemma => kernel_rfl) rfl
    (fun f fn hf hfn => by
      obtain rfl : f = 4 := Option.some.inj ((show Tryz.prog.funcNamed "innkeeper/innkeeperlaw18.BlockEnds" = some 4 by as_aux_lemma => kernel_rfl).symm.trans hf) |>.symm
      obtain rfl : fn = Tryz.f4 := (Option.some.inj (Tryz.func4.symm.trans hfn)).symm
      exact ⟨by as_aux_lemma => kernel_rfl, fun j t ht => by
        have hm : t ∈ Tryz.f4.params.toList := by simpa using Array.mem_of_getElem? ht
        have hall : (Tryz.f4.params.toList.all fun u => !Tryz.prog.wantsStandIn u) = true := by as_aux_lemma => kernel_rfl
        exact (show Tryz.prog.wantsStandIn t = false by simpa using List.all_eq_true.1 hall t hm)⟩)
    (by as_aux_lemma => kernel_rfl)
#print axioms blockEnds_holds
end Go.Proofs.YtojejamfaeednaaGreatDoor
