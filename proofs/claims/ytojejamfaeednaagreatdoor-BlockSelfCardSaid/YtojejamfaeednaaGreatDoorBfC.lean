/- The closed facts of the row innkeeperlaw18.BlockSelf, each by itself. -/
import Derived.Test.YtojejamfaeednaaGreatDoorRows
import Derived.JoinedOf
namespace Go.Proofs.YtojejamfaeednaaGreatDoor
open Go
private theorem andI {a b : Bool} (h : a = true) (k : b = true) : (a && b) = true := by rw [h, k]; rfl
set_option maxRecDepth 100000 in
set_option maxHeartbeats 0 in
theorem blockSelf_facts : joinedFacts Tryz.checked.prog 5 Tryz.f5 Rows.blockSelfSpec Rows.blockSelfRow = true := by
  unfold joinedFacts
  repeat refine andI ?_ (by as_aux_lemma => kernel_rfl)
  as_aux_lemma => kernel_rfl
set_option maxHeartbeats 0 in
theorem blockSelf_inst : Tryz.f5.isInstance Tryz.checked.prog Rows.blockSelfRow.origin Rows.blockSelfRow.targs := of_decide_eq_true (by kernel_rfl)
set_option maxHeartbeats 0 in
theorem blockSelf_wrap : Tryz.f5.isWrapper Tryz.checked.prog Rows.blockSelfRow.wrapper Rows.blockSelfRow.mainSum := of_decide_eq_true (by kernel_rfl)
set_option maxHeartbeats 0 in
theorem blockSelf_ready : Tryz.checked.prog.funcNamed Rows.blockSelfRow.func = some 5 := by kernel_rfl
end Go.Proofs.YtojejamfaeednaaGreatDoor
