/- The closed facts of the row shellBack, each by itself. -/
import Derived.Test.YtgpahfcaecojgaaGreatDoorRows
import Derived.JoinedOf
namespace Go.Proofs.YtgpahfcaecojgaaGreatDoor
open Go Go.Proofs.Tryz
private theorem andI{a b:Bool}(h:a=true)(k:b=true):(a&&b)=true:=by rw[h,k];rfl
set_option maxRecDepth 100000 in
set_option maxHeartbeats 0 in
theorem vH:joinedFacts checked.prog 9 f9 Rows.shellBackSpec Rows.shellBackRow=true:=by
 unfold joinedFacts
 repeat refine andI ?_ (by as_aux_lemma=>kernel_rfl)
 as_aux_lemma=>kernel_rfl
set_option maxHeartbeats 0 in
theorem xW:f9.isInstance checked.prog Rows.shellBackRow.origin Rows.shellBackRow.targs:=of_decide_eq_true (by kernel_rfl)
set_option maxHeartbeats 0 in
theorem xU:f9.isWrapper checked.prog Rows.shellBackRow.wrapper Rows.shellBackRow.mainSum:=of_decide_eq_true (by kernel_rfl)
set_option maxHeartbeats 0 in
theorem vG:checked.prog.funcNamed Rows.shellBackRow.func=some 9:=by kernel_rfl
end Go.Proofs.YtgpahfcaecojgaaGreatDoor
