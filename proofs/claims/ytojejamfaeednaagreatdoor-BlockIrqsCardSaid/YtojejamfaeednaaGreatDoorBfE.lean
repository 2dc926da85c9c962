/- The closed facts of the row innkeeperlaw18.BlockIrqs, each by itself. -/
import Derived.Test.YtojejamfaeednaaGreatDoorRows
import Derived.JoinedOf
namespace Go.Proofs.YtojejamfaeednaaGreatDoor
open Go
private theorem andI {a b : Bool} (h : a = true) (k : b = true) : (a && b) = true := by rw [h, k]; rfl
set_option maxRecDepth 100000 in
set_option maxHeartbeats 0 in
theorem blockIrqs_facts : joinedFacts Tryz.checked.prog 7 Tryz.f7 Rows.blockIrqsSpec Rows.blockIrqsRow = true := by
  unfold joinedFacts
  repeat refine andI ?_ (by as_aux_lemma => kernel_rfl)
  as_aux_lemma => kernel_rfl
set_option maxHeartbeats 0 in
theorem blockIrqs_inst : Tryz.f7.isInstance Tryz.checked.prog Rows.blockIrqsRow.origin Rows.blockIrqsRow.targs := of_decide_eq_true (by kernel_rfl)
set_option maxHeartbeats 0 in
theorem blockIrqs_wrap : Tryz.f7.isWrapper Tryz.checked.prog Rows.blockIrqsRow.wrapper Rows.blockIrqsRow.mainSum := of_decide_eq_true (by kernel_rfl)
set_option maxHeartbeats 0 in
theorem blockIrqs_ready : Tryz.checked.prog.funcNamed Rows.blockIrqsRow.func = some 7 := by kernel_rfl
end Go.Proofs.YtojejamfaeednaaGreatDoor
