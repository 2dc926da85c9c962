/- The closed facts of the row engineBytes, each by itself. -/
import Derived.Test.YtepfimeihngjoaaGreatDoorRows
import Derived.JoinedOf
namespace Go.Proofs.YtepfimeihngjoaaGreatDoor
open Go Go.Proofs.Tryz
private theorem WU{a b:Bool}(h:a=true)(k:b=true):(a&&b)=true:=by rw[h,k];rfl
set_option maxRecDepth 100000 in
set_option maxHeartbeats 0 in
theorem rP:joinedFacts checked.prog 6 f6 Rows.engineBytesSpec Rows.engineBytesRow=true:=by
 unfold joinedFacts
 repeat refine WU ?_ (by as_aux_lemma=>kernel_rfl)
 as_aux_lemma=>kernel_rfl
set_option maxHeartbeats 0 in
theorem tx:f6.isInstance checked.prog Rows.engineBytesRow.origin Rows.engineBytesRow.targs:=of_decide_eq_true (by kernel_rfl)
set_option maxHeartbeats 0 in
theorem tv:f6.isWrapper checked.prog Rows.engineBytesRow.wrapper Rows.engineBytesRow.mainSum:=of_decide_eq_true (by kernel_rfl)
set_option maxHeartbeats 0 in
theorem rO:checked.prog.funcNamed Rows.engineBytesRow.func=some 6:=by kernel_rfl
end Go.Proofs.YtepfimeihngjoaaGreatDoor
