/- The closed facts of the row innkeeperlaw18.BlockBegins, each by itself. -/
import Derived.Test.YthcpmpmbgbibfaaGreatDoorRows
import Derived.JoinedOf
namespace Go.Proofs.YthcpmpmbgbibfaaGreatDoor
open Go
set_option maxRecDepth 100000 in
set_option maxHeartbeats 0 in
theorem blockBegins_facts : joinedFacts Tryz.checked.prog 7 Tryz.f7 Rows.blockBeginsSpec Rows.blockBeginsRow = true := by
  unfold joinedFacts
  repeat refine andI ?_ (by as_aux_lemma => kernel_rfl)
  as_aux_lemma => kernel_rfl
set_option maxHeartbeats 0 in
theorem blockBegins_inst : Tryz.f7.isInstance Tryz.checked.prog Rows.blockBeginsRow.origin Rows.blockBeginsRow.targs := of_decide_eq_true (by kernel_rfl)
set_option maxHeartbeats 0 in
theorem blockBegins_wrap : Tryz.f7.isWrapper Tryz.checked.prog Rows.blockBeginsRow.wrapper Rows.blockBeginsRow.mainSum := of_decide_eq_true (by kernel_rfl)
set_option maxHeartbeats 0 in
theorem blockBegins_ready : Tryz.checked.prog.funcNamed Rows.blockBeginsRow.func = some 7 := by kernel_rfl
end Go.Proofs.YthcpmpmbgbibfaaGreatDoor
