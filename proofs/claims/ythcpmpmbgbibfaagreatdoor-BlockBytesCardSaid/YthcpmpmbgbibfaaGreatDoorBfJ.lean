/- The closed facts of the row innkeeperlaw18.BlockBytes, each by itself. -/
import Derived.Test.YthcpmpmbgbibfaaGreatDoorRows
import Derived.JoinedOf
namespace Go.Proofs.YthcpmpmbgbibfaaGreatDoor
open Go
set_option maxRecDepth 100000 in
set_option maxHeartbeats 0 in
theorem blockBytes_facts : joinedFacts Tryz.checked.prog 4 Tryz.f4 Rows.blockBytesSpec Rows.blockBytesRow = true := by
  unfold joinedFacts
  repeat refine andI ?_ (by as_aux_lemma => kernel_rfl)
  as_aux_lemma => kernel_rfl
set_option maxHeartbeats 0 in
theorem blockBytes_inst : Tryz.f4.isInstance Tryz.checked.prog Rows.blockBytesRow.origin Rows.blockBytesRow.targs := of_decide_eq_true (by kernel_rfl)
set_option maxHeartbeats 0 in
theorem blockBytes_wrap : Tryz.f4.isWrapper Tryz.checked.prog Rows.blockBytesRow.wrapper Rows.blockBytesRow.mainSum := of_decide_eq_true (by kernel_rfl)
set_option maxHeartbeats 0 in
theorem blockBytes_ready : Tryz.checked.prog.funcNamed Rows.blockBytesRow.func = some 4 := by kernel_rfl
end Go.Proofs.YthcpmpmbgbibfaaGreatDoor
