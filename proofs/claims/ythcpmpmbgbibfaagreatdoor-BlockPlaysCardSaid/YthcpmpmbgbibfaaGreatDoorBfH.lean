/- The closed facts of the row innkeeperlaw18.BlockPlays, each by itself. -/
import Derived.Test.YthcpmpmbgbibfaaGreatDoorRows
import Derived.JoinedOf
namespace Go.Proofs.YthcpmpmbgbibfaaGreatDoor
open Go
set_option maxRecDepth 100000 in
set_option maxHeartbeats 0 in
theorem blockPlays_facts : joinedFacts Tryz.checked.prog 6 Tryz.f6 Rows.blockPlaysSpec Rows.blockPlaysRow = true := by
  unfold joinedFacts
  repeat refine andI ?_ (by as_aux_lemma => kernel_rfl)
  as_aux_lemma => kernel_rfl
set_option maxHeartbeats 0 in
theorem blockPlays_inst : Tryz.f6.isInstance Tryz.checked.prog Rows.blockPlaysRow.origin Rows.blockPlaysRow.targs := of_decide_eq_true (by kernel_rfl)
set_option maxHeartbeats 0 in
theorem blockPlays_wrap : Tryz.f6.isWrapper Tryz.checked.prog Rows.blockPlaysRow.wrapper Rows.blockPlaysRow.mainSum := of_decide_eq_true (by kernel_rfl)
set_option maxHeartbeats 0 in
theorem blockPlays_ready : Tryz.checked.prog.funcNamed Rows.blockPlaysRow.func = some 6 := by kernel_rfl
end Go.Proofs.YthcpmpmbgbibfaaGreatDoor
