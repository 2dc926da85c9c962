/- The closed facts of the row innkeeperlaw18.BlockNumbers, each by itself. -/
import Derived.Test.YthcpmpmbgbibfaaGreatDoorRows
import Derived.JoinedOf
namespace Go.Proofs.YthcpmpmbgbibfaaGreatDoor
open Go
set_option maxRecDepth 100000 in
set_option maxHeartbeats 0 in
theorem blockNumbers_facts : joinedFacts Tryz.checked.prog 5 Tryz.f5 Rows.blockNumbersSpec Rows.blockNumbersRow = true := by
  unfold joinedFacts
  repeat refine andI ?_ (by as_aux_lemma => kernel_rfl)
  as_aux_lemma => kernel_rfl
set_option maxHeartbeats 0 in
theorem blockNumbers_inst : Tryz.f5.isInstance Tryz.checked.prog Rows.blockNumbersRow.origin Rows.blockNumbersRow.targs := of_decide_eq_true (by kernel_rfl)
set_option maxHeartbeats 0 in
theorem blockNumbers_wrap : Tryz.f5.isWrapper Tryz.checked.prog Rows.blockNumbersRow.wrapper Rows.blockNumbersRow.mainSum := of_decide_eq_true (by kernel_rfl)
set_option maxHeartbeats 0 in
theorem blockNumbers_ready : Tryz.checked.prog.funcNamed Rows.blockNumbersRow.func = some 5 := by kernel_rfl
end Go.Proofs.YthcpmpmbgbibfaaGreatDoor
