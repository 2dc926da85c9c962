/- The closed facts of the row innkeeperlaw18.BlockCounts, each by itself. -/
import Derived.Test.YtojejamfaeednaaGreatDoorRows
import Derived.JoinedOf
namespace Go.Proofs.YtojejamfaeednaaGreatDoor
open Go
private theorem andI {a b : Bool} (h : a = true) (k : b = true) : (a && b) = true := by rw [h, k]; rfl
set_option maxRecDepth 100000 in
set_option maxHeartbeats 0 in
theorem blockCounts_facts : joinedFacts Tryz.checked.prog 3 Tryz.f3 Rows.blockCountsSpec Rows.blockCountsRow = true := by
  unfold joinedFacts
  repeat refine andI ?_ (by as_aux_lemma => kernel_rfl)
  as_aux_lemma => kernel_rfl
set_option maxHeartbeats 0 in
theorem blockCounts_inst : Tryz.f3.isInstance Tryz.checked.prog Rows.blockCountsRow.origin Rows.blockCountsRow.targs := of_decide_eq_true (by kernel_rfl)
set_option maxHeartbeats 0 in
theorem blockCounts_wrap : Tryz.f3.isWrapper Tryz.checked.prog Rows.blockCountsRow.wrapper Rows.blockCountsRow.mainSum := of_decide_eq_true (by kernel_rfl)
set_option maxHeartbeats 0 in
theorem blockCounts_ready : Tryz.checked.prog.funcNamed Rows.blockCountsRow.func = some 3 := by kernel_rfl
end Go.Proofs.YtojejamfaeednaaGreatDoor
