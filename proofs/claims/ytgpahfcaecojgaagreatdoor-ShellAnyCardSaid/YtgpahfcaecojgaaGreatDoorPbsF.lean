/- The closed facts of the row shellAny, each by itself. -/
import Derived.Test.YtgpahfcaecojgaaGreatDoorRows
import Derived.JoinedOf
namespace Go.Proofs.YtgpahfcaecojgaaGreatDoor
open Go Go.Proofs.Tryz
private theorem andI{a b:Bool}(h:a=true)(k:b=true):(a&&b)=true:=by rw[h,k];rfl
set_option maxRecDepth 100000 in
set_option maxHeartbeats 0 in
theorem xY:joinedFacts checked.prog 11 f11 Rows.shellAnySpec Rows.shellAnyRow=true:=by
 unfold joinedFacts
 repeat refine andI ?_ (by as_aux_lemma=>kernel_rfl)
 as_aux_lemma=>kernel_rfl
set_option maxHeartbeats 0 in
theorem Aw:f11.isInstance checked.prog Rows.shellAnyRow.origin Rows.shellAnyRow.targs:=of_decide_eq_true (by kernel_rfl)
set_option maxHeartbeats 0 in
theorem Aq:f11.isWrapper checked.prog Rows.shellAnyRow.wrapper Rows.shellAnyRow.mainSum:=of_decide_eq_true (by kernel_rfl)
set_option maxHeartbeats 0 in
theorem xX:checked.prog.funcNamed Rows.shellAnyRow.func=some 11:=by kernel_rfl
end Go.Proofs.YtgpahfcaecojgaaGreatDoor
