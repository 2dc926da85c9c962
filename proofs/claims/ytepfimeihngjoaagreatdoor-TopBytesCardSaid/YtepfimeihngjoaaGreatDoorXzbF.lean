/- The closed facts of the row topBytes, each by itself. -/
import Derived.Test.YtepfimeihngjoaaGreatDoorRows
import Derived.JoinedOf
namespace Go.Proofs.YtepfimeihngjoaaGreatDoor
open Go Go.Proofs.Tryz
private theorem WU{a b:Bool}(h:a=true)(k:b=true):(a&&b)=true:=by rw[h,k];rfl
set_option maxRecDepth 100000 in
set_option maxHeartbeats 0 in
theorem wI:joinedFacts checked.prog 3 f3 Rows.topBytesSpec Rows.topBytesRow=true:=by
 unfold joinedFacts
 repeat refine WU ?_ (by as_aux_lemma=>kernel_rfl)
 as_aux_lemma=>kernel_rfl
set_option maxHeartbeats 0 in
theorem yB:f3.isInstance checked.prog Rows.topBytesRow.origin Rows.topBytesRow.targs:=of_decide_eq_true (by kernel_rfl)
set_option maxHeartbeats 0 in
theorem yz:f3.isWrapper checked.prog Rows.topBytesRow.wrapper Rows.topBytesRow.mainSum:=of_decide_eq_true (by kernel_rfl)
set_option maxHeartbeats 0 in
theorem wH:checked.prog.funcNamed Rows.topBytesRow.func=some 3:=by kernel_rfl
end Go.Proofs.YtepfimeihngjoaaGreatDoor
