/- The closed facts of the row topRefines, each by itself. -/
import Derived.Test.YtepfimeihngjoaaGreatDoorRows
import Derived.JoinedOf
namespace Go.Proofs.YtepfimeihngjoaaGreatDoor
open Go Go.Proofs.Tryz
private theorem WU{a b:Bool}(h:a=true)(k:b=true):(a&&b)=true:=by rw[h,k];rfl
set_option maxRecDepth 100000 in
set_option maxHeartbeats 0 in
theorem sU:joinedFacts checked.prog 11 f11 Rows.topRefinesSpec Rows.topRefinesRow=true:=by
 unfold joinedFacts
 repeat refine WU ?_ (by as_aux_lemma=>kernel_rfl)
 as_aux_lemma=>kernel_rfl
set_option maxHeartbeats 0 in
theorem uB:f11.isInstance checked.prog Rows.topRefinesRow.origin Rows.topRefinesRow.targs:=of_decide_eq_true (by kernel_rfl)
set_option maxHeartbeats 0 in
theorem uz:f11.isWrapper checked.prog Rows.topRefinesRow.wrapper Rows.topRefinesRow.mainSum:=of_decide_eq_true (by kernel_rfl)
set_option maxHeartbeats 0 in
theorem sT:checked.prog.funcNamed Rows.topRefinesRow.func=some 11:=by kernel_rfl
end Go.Proofs.YtepfimeihngjoaaGreatDoor
