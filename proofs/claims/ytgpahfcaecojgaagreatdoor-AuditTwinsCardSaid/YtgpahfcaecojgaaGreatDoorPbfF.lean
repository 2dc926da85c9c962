/- The closed facts of the row auditTwins, each by itself. -/
import Derived.Test.YtgpahfcaecojgaaGreatDoorRows
import Derived.JoinedOf
namespace Go.Proofs.YtgpahfcaecojgaaGreatDoor
open Go Go.Proofs.Tryz
private theorem andI{a b:Bool}(h:a=true)(k:b=true):(a&&b)=true:=by rw[h,k];rfl
set_option maxRecDepth 100000 in
set_option maxHeartbeats 0 in
theorem tY:joinedFacts checked.prog 5 f5 Rows.auditTwinsSpec Rows.auditTwinsRow=true:=by
 unfold joinedFacts
 repeat refine andI ?_ (by as_aux_lemma=>kernel_rfl)
 as_aux_lemma=>kernel_rfl
set_option maxHeartbeats 0 in
theorem xo:f5.isInstance checked.prog Rows.auditTwinsRow.origin Rows.auditTwinsRow.targs:=of_decide_eq_true (by kernel_rfl)
set_option maxHeartbeats 0 in
theorem xj:f5.isWrapper checked.prog Rows.auditTwinsRow.wrapper Rows.auditTwinsRow.mainSum:=of_decide_eq_true (by kernel_rfl)
set_option maxHeartbeats 0 in
theorem tX:checked.prog.funcNamed Rows.auditTwinsRow.func=some 5:=by kernel_rfl
end Go.Proofs.YtgpahfcaecojgaaGreatDoor
