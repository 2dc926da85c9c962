/- For every input the law BlockBegins answers true and leaves every argument as it was; the table of math/bits is what the program's text lays (the card ties it); no other condition. -/
import Derived.Test.YthcpmpmbgbibfaaGreatDoorStAll
import Derived.Test.YthcpmpmbgbibfaaGreatDoorInkL
import Derived.Test.YthcpmpmbgbibfaaGreatDoorBlB
import Derived.Test.YthcpmpmbgbibfaaGreatDoorBfI
import Derived.Test.YthcpmpmbgbibfaaGreatDoorCards
import Derived.Test.YthcpmpmbgbibfaaGreatDoorTie
import Derived.SevenTiedAt
set_option linter.unusedSimpArgs false
set_option linter.unusedVariables false
namespace Go.Proofs.YthcpmpmbgbibfaaGreatDoor
open Go.RowKit Go.Ink

theorem tab_of_laid {W : World} (h : laidMetH Tryz.prog Rows.blockBeginsRow.laid W) : TabOk W :=
  laid_table (t := 224) (e := 5) (vals := tzTab) h (MakeChecks.laidMetH_plain _ _ _ (by as_aux_lemma => kernel_rfl)) rfl (g := 0) (by as_aux_lemma => kernel_rfl) (by as_aux_lemma => kernel_rfl) (by as_aux_lemma => kernel_rfl) (by as_aux_lemma => kernel_rfl) (by as_aux_lemma => kernel_rfl) rfl (by simp only [maxLen]; omega)
theorem door_met (os : Os) (args : Array Value) : laidMetH Tryz.prog Rows.blockBeginsRow.laid ((World.doorLaid Tryz.prog 400 os).forCall (fun _ _ => 0) ⟨#[], args, []⟩).memory :=
  laidMetH_of_parts3 (fuel := 8) (laidMet_of_run' 8 (by as_aux_lemma => kernel_rfl) (by as_aux_lemma => kernel_rfl)) (by as_aux_lemma => kernel_rfl) (by as_aux_lemma => kernel_rfl)
set_option maxRecDepth 100000 in
theorem blockBegins_lifted (os : Os) (started : os.Started) (H : Type) (enc : TypeId × Value → H) :
    ReturnsInHanded {} Tryz.checked os 7 .any (fun w args => (Rows.blockBeginsSpec.pre enc Tryz.prog Tryz.f7 [] false w args ∧ laidMetH Tryz.prog Rows.blockBeginsRow.laid w) ∧ sizedMet enc Tryz.prog Tryz.f7 (OpenSpec.ofChange Rows.blockBeginsSpec) false w args) (Rows.blockBeginsSpec.post enc Tryz.prog Tryz.f7 false true false false) :=
  row_trueL (C := Tryz.checked) (ts := [22, 34, 68, 30, 30]) own0 started (by as_aux_lemma => kernel_rfl) Tryz.func7
    (ChangeSpec.witness_shaped (enc := enc) (C := Tryz.checked) (os := os) (X := fun w _ => laidMetH Tryz.prog Rows.blockBeginsRow.laid w) false (World.doorLaid Tryz.prog 400 os) #[.slice none 0 0, sv St.zero none 0 none 0, .slice none 0 0, .int .u32 0, .int .u32 0] 8 rfl (World.shaped_of_RefB (by as_aux_lemma => kernel_rfl) (by as_aux_lemma => kernel_rfl)) (by as_aux_lemma => kernel_rfl) (by as_aux_lemma => kernel_rfl) (by as_aux_lemma => kernel_rfl) (door_met os _))
    rfl rfl rfl rfl (fun ds h => by match ds, h with | [_, _, _, _, _], _ => rfl) laid0 (by as_aux_lemma => kernel_rfl) (fun W vs h hx => by
      have ht := tab_of_laid hx
      obtain ⟨v0, _, rfl, a0, v1, _, rfl, a1, v2, _, rfl, a2, v3, _, rfl, a3, v4, _, rfl, a4, rfl⟩ := h
      obtain ⟨A, c, l, rfl, hl, hr⟩ := open_raws a0
      obtain ⟨s, Ad, cd, Ar, cr, rfl, hs, hS⟩ := open_state a1
      obtain ⟨E, ce, ls, rfl, hE, -, -⟩ := a2.ints (e := 3) (k := .i64) rfl rfl rfl
      obtain ⟨n3, rfl, w3⟩ := a3.int (k := .u32) rfl
      obtain ⟨n4, rfl, w4⟩ := a4.int (k := .u32) rfl
      exact ctr_true (blockBegins_ok A Ad Ar E c cd cr ce l s hs ls n3 n4 (wf_u32 w3) (wf_u32 w4) W hl hr hS hE ht))

set_option maxHeartbeats 0 in
theorem blockBegins_said : Rows.BlockBeginsSaid :=
  OpenClaim.holds_of_wide 7 Tryz.f7 rfl rfl rfl rfl rfl rfl rfl ⟨rfl, rfl, rfl, rfl, rfl⟩ rfl rfl rfl rfl rfl blockBegins_ready Tryz.func7 blockBegins_facts blockBegins_inst blockBegins_wrap
    (fun os started H enc _ => blockBegins_lifted os started H enc)
set_option maxHeartbeats 0 in
/-- The tied card. -/
theorem blockBegins_holds : Rows.BlockBeginsCardSaid :=
  Claim7.holds_tied_plain_at .later [] [.data] true Rows.blockBeginsCard.stood.harness false
    blockBegins_said (fun _ h => by cases h) (by as_aux_lemma => kernel_rfl) (fun _ h => by cases h) blockBegins_row_tie rfl ⟨rfl, rfl⟩ (by as_aux_lemma => kernel_rfl) rfl
    (fun f fn hf hfn => by
      obtain rfl : f = 7 := Option.some.inj ((show Tryz.prog.funcNamed "innkeeper/innkeeperlaw18.BlockBegins" = some 7 by as_aux_lemma => kernel_rfl).symm.trans hf) |>.symm
      obtain rfl : fn = Tryz.f7 := (Option.some.inj (Tryz.func7.symm.trans hfn)).symm
      exact ⟨by as_aux_lemma => kernel_rfl, fun j t ht => by
        have hm : t ∈ Tryz.f7.params.toList := by simpa using Array.mem_of_getElem? ht
        have hall : (Tryz.f7.params.toList.all fun u => !Tryz.prog.wantsStandIn u) = true := by as_aux_lemma => kernel_rfl
        exact (show Tryz.prog.wantsStandIn t = false by simpa using List.all_eq_true.1 hall t hm)⟩)
    (by as_aux_lemma => kernel_rfl)
#print axioms blockBegins_holds
end Go.Proofs.YthcpmpmbgbibfaaGreatDoor
