/- The closed facts of the row shellTwins, each by itself. -/
import Derived.Test.YtgpahfcaecojgaaGreatDoorRows
import Derived.JoinedOf
namespace Go.Proofs.YtgpahfcaecojgaaGreatDoor
open Go Go.Proofs.Tryz
private theorem andI{a b:Bool}(h:a=true)(k:b=true):(a&&b)=true:=by rw[h,k];rfl
set_option maxRecDepth 100000 in
set_option maxHeartbeats 0 in
theorem tO:joinedFacts checked.prog 4 f4 Rows.shellTwinsSpec Rows.shellTwinsRow=true:=by
 unfold joinedFacts
 repeat refine andI ?_ (by as_aux_lemma=>kernel_rfl)
 as_aux_lemma=>kernel_rfl
set_option maxHeartbeats 0 in
theorem vA:f4.isInstance checked.prog Rows.shellTwinsRow.origin Rows.shellTwinsRow.targs:=of_decide_eq_true (by kernel_rfl)
set_option maxHeartbeats 0 in
theorem vy:f4.isWrapper checked.prog Rows.shellTwinsRow.wrapper Rows.shellTwinsRow.mainSum:=of_decide_eq_true (by kernel_rfl)
set_option maxHeartbeats 0 in
theorem tN:checked.prog.funcNamed Rows.shellTwinsRow.func=some 4:=by kernel_rfl
end Go.Proofs.YtgpahfcaecojgaaGreatDoor
