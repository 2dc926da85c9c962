/- The closed facts of the row innkeeperlaw18.BlockTraps, each by itself. -/
import Derived.Test.YtojejamfaeednaaGreatDoorRows
import Derived.JoinedOf
namespace Go.Proofs.YtojejamfaeednaaGreatDoor
open Go
private theorem andI {a b : Bool} (h : a = true) (k : b = true) : (a && b) = true := by rw [h, k]; rfl
set_option maxRecDepth 100000 in
set_option maxHeartbeats 0 in
theorem blockTraps_facts : joinedFacts Tryz.checked.prog 6 Tryz.f6 Rows.blockTrapsSpec Rows.blockTrapsRow = true := by
  unfold joinedFacts
  repeat refine andI ?_ (by as_aux_lemma => kernel_rfl)
  as_aux_lemma => kernel_rfl
set_option maxHeartbeats 0 in
theorem blockTraps_inst : Tryz.f6.isInstance Tryz.checked.prog Rows.blockTrapsRow.origin Rows.blockTrapsRow.targs := of_decide_eq_true (by kernel_rfl)
set_option maxHeartbeats 0 in
theorem blockTraps_wrap : Tryz.f6.isWrapper Tryz.checked.prog Rows.blockTrapsRow.wrapper Rows.blockTrapsRow.mainSum := of_decide_eq_true (by kernel_rfl)
set_option maxHeartbeats 0 in
theorem blockTraps_ready : Tryz.checked.prog.funcNamed Rows.blockTrapsRow.func = some 6 := by kernel_rfl
end Go.Proofs.YtojejamfaeednaaGreatDoor
