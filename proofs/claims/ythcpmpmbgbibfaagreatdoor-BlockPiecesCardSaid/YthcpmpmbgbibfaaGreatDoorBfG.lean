/- The closed facts of the row innkeeperlaw18.BlockPieces, each by itself. -/
import Derived.Test.YthcpmpmbgbibfaaGreatDoorRows
import Derived.JoinedOf
namespace Go.Proofs.YthcpmpmbgbibfaaGreatDoor
open Go
private theorem andI {a b : Bool} (h : a = true) (k : b = true) : (a && b) = true := by rw [h, k]; rfl
set_option maxRecDepth 100000 in
set_option maxHeartbeats 0 in
theorem blockPieces_facts : joinedFacts Tryz.checked.prog 3 Tryz.f3 Rows.blockPiecesSpec Rows.blockPiecesRow = true := by
  unfold joinedFacts
  repeat refine andI ?_ (by as_aux_lemma => kernel_rfl)
  as_aux_lemma => kernel_rfl
set_option maxHeartbeats 0 in
theorem blockPieces_inst : Tryz.f3.isInstance Tryz.checked.prog Rows.blockPiecesRow.origin Rows.blockPiecesRow.targs := of_decide_eq_true (by kernel_rfl)
set_option maxHeartbeats 0 in
theorem blockPieces_wrap : Tryz.f3.isWrapper Tryz.checked.prog Rows.blockPiecesRow.wrapper Rows.blockPiecesRow.mainSum := of_decide_eq_true (by kernel_rfl)
set_option maxHeartbeats 0 in
theorem blockPieces_ready : Tryz.checked.prog.funcNamed Rows.blockPiecesRow.func = some 3 := by kernel_rfl
end Go.Proofs.YthcpmpmbgbibfaaGreatDoor
