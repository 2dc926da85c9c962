/- The closed facts of the row engineDoes, each by itself. -/
import Derived.Test.YtepfimeihngjoaaGreatDoorRows
import Derived.JoinedOf
namespace Go.Proofs.YtepfimeihngjoaaGreatDoor
open Go Go.Proofs.Tryz
private theorem WU{a b:Bool}(h:a=true)(k:b=true):(a&&b)=true:=by rw[h,k];rfl
set_option maxRecDepth 100000 in
set_option maxHeartbeats 0 in
theorem tq:joinedFacts checked.prog 5 f5 Rows.engineDoesSpec Rows.engineDoesRow=true:=by
 unfold joinedFacts
 repeat refine WU ?_ (by as_aux_lemma=>kernel_rfl)
 as_aux_lemma=>kernel_rfl
set_option maxHeartbeats 0 in
theorem vQ:f5.isInstance checked.prog Rows.engineDoesRow.origin Rows.engineDoesRow.targs:=of_decide_eq_true (by kernel_rfl)
set_option maxHeartbeats 0 in
theorem vO:f5.isWrapper checked.prog Rows.engineDoesRow.wrapper Rows.engineDoesRow.mainSum:=of_decide_eq_true (by kernel_rfl)
set_option maxHeartbeats 0 in
theorem tp:checked.prog.funcNamed Rows.engineDoesRow.func=some 5:=by kernel_rfl
end Go.Proofs.YtepfimeihngjoaaGreatDoor
