/- The closed facts of the row innkeeperlaw18.BlockEnds, each by itself. -/
import Derived.Test.YtojejamfaeednaaGreatDoorRows
import Derived.JoinedOf
namespace Go.Proofs.YtojejamfaeednaaGreatDoor
open Go
private theorem andI {a b : Bool} (h : a = true) (k : b = true) : (a && b) = true := by rw [h, k]; rfl
set_option maxRecDepth 100000 in
set_option maxHeartbeats 0 in
theorem blockEnds_facts : joinedFacts Tryz.checked.prog 4 Tryz.f4 Rows.blockEndsSpec Rows.blockEndsRow = true := by
  unfold joinedFacts
  repeat refine andI ?_ (by as_aux_lemma => kernel_rfl)
  as_aux_lemma => kernel_rfl
set_option maxHeartbeats 0 in
theorem blockEnds_inst : Tryz.f4.isInstance Tryz.checked.prog Rows.blockEndsRow.origin Rows.blockEndsRow.targs := of_decide_eq_true (by kernel_rfl)
set_option maxHeartbeats 0 in
theorem blockEnds_wrap : Tryz.f4.isWrapper Tryz.checked.prog Rows.blockEndsRow.wrapper Rows.blockEndsRow.mainSum := of_decide_eq_true (by kernel_rfl)
set_option maxHeartbeats 0 in
theorem blockEnds_ready : Tryz.checked.prog.funcNamed Rows.blockEndsRow.func = some 4 := by kernel_rfl
end Go.Proofs.YtojejamfaeednaaGreatDoor
