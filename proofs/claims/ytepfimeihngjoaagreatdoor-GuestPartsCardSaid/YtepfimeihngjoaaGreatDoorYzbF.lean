/- The closed facts of the row guestParts, each by itself. -/
import Derived.Test.YtepfimeihngjoaaGreatDoorRows
import Derived.JoinedOf
namespace Go.Proofs.YtepfimeihngjoaaGreatDoor
open Go Go.Proofs.Tryz
private theorem Yo{a b:Bool}(h:a=true)(k:b=true):(a&&b)=true:=by rw[h,k];rfl
set_option maxRecDepth 100000 in
set_option maxHeartbeats 0 in
theorem sJ:joinedFacts checked.prog 7 f7 Rows.guestPartsSpec Rows.guestPartsRow=true:=by
 unfold joinedFacts
 repeat refine Yo ?_ (by as_aux_lemma=>kernel_rfl)
 as_aux_lemma=>kernel_rfl
set_option maxHeartbeats 0 in
theorem uZ:f7.isInstance checked.prog Rows.guestPartsRow.origin Rows.guestPartsRow.targs:=of_decide_eq_true (by kernel_rfl)
set_option maxHeartbeats 0 in
theorem uX:f7.isWrapper checked.prog Rows.guestPartsRow.wrapper Rows.guestPartsRow.mainSum:=of_decide_eq_true (by kernel_rfl)
set_option maxHeartbeats 0 in
theorem sI:checked.prog.funcNamed Rows.guestPartsRow.func=some 7:=by kernel_rfl
end Go.Proofs.YtepfimeihngjoaaGreatDoor
