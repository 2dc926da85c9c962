/- The closed facts of the row topTwins, each by itself. -/
import Derived.Test.YtgpahfcaecojgaaGreatDoorRows
import Derived.JoinedOf
namespace Go.Proofs.YtgpahfcaecojgaaGreatDoor
open Go Go.Proofs.Tryz
private theorem andI{a b:Bool}(h:a=true)(k:b=true):(a&&b)=true:=by rw[h,k];rfl
set_option maxRecDepth 100000 in
set_option maxHeartbeats 0 in
theorem xN:joinedFacts checked.prog 12 f12 Rows.topTwinsSpec Rows.topTwinsRow=true:=by
 unfold joinedFacts
 repeat refine andI ?_ (by as_aux_lemma=>kernel_rfl)
 as_aux_lemma=>kernel_rfl
set_option maxHeartbeats 0 in
theorem zY:f12.isInstance checked.prog Rows.topTwinsRow.origin Rows.topTwinsRow.targs:=of_decide_eq_true (by kernel_rfl)
set_option maxHeartbeats 0 in
theorem zW:f12.isWrapper checked.prog Rows.topTwinsRow.wrapper Rows.topTwinsRow.mainSum:=of_decide_eq_true (by kernel_rfl)
set_option maxHeartbeats 0 in
theorem xM:checked.prog.funcNamed Rows.topTwinsRow.func=some 12:=by kernel_rfl
end Go.Proofs.YtgpahfcaecojgaaGreatDoor
