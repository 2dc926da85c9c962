/- The closed facts of the row guestPlays, each by itself. -/
import Derived.Test.YtepfimeihngjoaaGreatDoorRows
import Derived.JoinedOf
namespace Go.Proofs.YtepfimeihngjoaaGreatDoor
open Go Go.Proofs.Tryz
private theorem Yo{a b:Bool}(h:a=true)(k:b=true):(a&&b)=true:=by rw[h,k];rfl
set_option maxRecDepth 100000 in
set_option maxHeartbeats 0 in
theorem sH:joinedFacts checked.prog 9 f9 Rows.guestPlaysSpec Rows.guestPlaysRow=true:=by
 unfold joinedFacts
 repeat refine Yo ?_ (by as_aux_lemma=>kernel_rfl)
 as_aux_lemma=>kernel_rfl
set_option maxHeartbeats 0 in
theorem uW:f9.isInstance checked.prog Rows.guestPlaysRow.origin Rows.guestPlaysRow.targs:=of_decide_eq_true (by kernel_rfl)
set_option maxHeartbeats 0 in
theorem uU:f9.isWrapper checked.prog Rows.guestPlaysRow.wrapper Rows.guestPlaysRow.mainSum:=of_decide_eq_true (by kernel_rfl)
set_option maxHeartbeats 0 in
theorem sG:checked.prog.funcNamed Rows.guestPlaysRow.func=some 9:=by kernel_rfl
end Go.Proofs.YtepfimeihngjoaaGreatDoor
