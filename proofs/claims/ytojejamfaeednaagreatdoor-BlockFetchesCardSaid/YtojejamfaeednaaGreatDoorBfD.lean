/- The closed facts of the row innkeeperlaw18.BlockFetches, each by itself. -/
import Derived.Test.YtojejamfaeednaaGreatDoorRows
import Derived.JoinedOf
namespace Go.Proofs.YtojejamfaeednaaGreatDoor
open Go
private theorem andI {a b : Bool} (h : a = true) (k : b = true) : (a && b) = true := by rw [h, k]; rfl
set_option maxRecDepth 100000 in
set_option maxHeartbeats 0 in
theorem blockFetches_facts : joinedFacts Tryz.checked.prog 8 Tryz.f8 Rows.blockFetchesSpec Rows.blockFetchesRow = true := by
  unfold joinedFacts
  repeat refine andI ?_ (by as_aux_lemma => kernel_rfl)
  as_aux_lemma => kernel_rfl
set_option maxHeartbeats 0 in
theorem blockFetches_inst : Tryz.f8.isInstance Tryz.checked.prog Rows.blockFetchesRow.origin Rows.blockFetchesRow.targs := of_decide_eq_true (by kernel_rfl)
set_option maxHeartbeats 0 in
theorem blockFetches_wrap : Tryz.f8.isWrapper Tryz.checked.prog Rows.blockFetchesRow.wrapper Rows.blockFetchesRow.mainSum := of_decide_eq_true (by kernel_rfl)
set_option maxHeartbeats 0 in
theorem blockFetches_ready : Tryz.checked.prog.funcNamed Rows.blockFetchesRow.func = some 8 := by kernel_rfl
end Go.Proofs.YtojejamfaeednaaGreatDoor
