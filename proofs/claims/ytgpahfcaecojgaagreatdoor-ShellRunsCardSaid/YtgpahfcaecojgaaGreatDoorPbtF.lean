/- The closed facts of the row shellRuns, each by itself. -/
import Derived.Test.YtgpahfcaecojgaaGreatDoorRows
import Derived.JoinedOf
namespace Go.Proofs.YtgpahfcaecojgaaGreatDoor
open Go Go.Proofs.Tryz
private theorem andI{a b:Bool}(h:a=true)(k:b=true):(a&&b)=true:=by rw[h,k];rfl
set_option maxRecDepth 100000 in
set_option maxHeartbeats 0 in
theorem vC:joinedFacts checked.prog 10 f10 Rows.shellRunsSpec Rows.shellRunsRow=true:=by
 unfold joinedFacts
 repeat refine andI ?_ (by as_aux_lemma=>kernel_rfl)
 as_aux_lemma=>kernel_rfl
set_option maxHeartbeats 0 in
theorem xT:f10.isInstance checked.prog Rows.shellRunsRow.origin Rows.shellRunsRow.targs:=of_decide_eq_true (by kernel_rfl)
set_option maxHeartbeats 0 in
theorem xR:f10.isWrapper checked.prog Rows.shellRunsRow.wrapper Rows.shellRunsRow.mainSum:=of_decide_eq_true (by kernel_rfl)
set_option maxHeartbeats 0 in
theorem vB:checked.prog.funcNamed Rows.shellRunsRow.func=some 10:=by kernel_rfl
end Go.Proofs.YtgpahfcaecojgaaGreatDoor
