/- The closed facts of the row engineNumbers, each by itself. -/
import Derived.Test.YtepfimeihngjoaaGreatDoorRows
import Derived.JoinedOf
namespace Go.Proofs.YtepfimeihngjoaaGreatDoor
open Go Go.Proofs.Tryz
private theorem WU{a b:Bool}(h:a=true)(k:b=true):(a&&b)=true:=by rw[h,k];rfl
set_option maxRecDepth 100000 in
set_option maxHeartbeats 0 in
theorem pH:joinedFacts checked.prog 4 f4 Rows.engineNumbersSpec Rows.engineNumbersRow=true:=by
 unfold joinedFacts
 repeat refine WU ?_ (by as_aux_lemma=>kernel_rfl)
 as_aux_lemma=>kernel_rfl
set_option maxHeartbeats 0 in
theorem qE:f4.isInstance checked.prog Rows.engineNumbersRow.origin Rows.engineNumbersRow.targs:=of_decide_eq_true (by kernel_rfl)
set_option maxHeartbeats 0 in
theorem qC:f4.isWrapper checked.prog Rows.engineNumbersRow.wrapper Rows.engineNumbersRow.mainSum:=of_decide_eq_true (by kernel_rfl)
set_option maxHeartbeats 0 in
theorem pG:checked.prog.funcNamed Rows.engineNumbersRow.func=some 4:=by kernel_rfl
end Go.Proofs.YtepfimeihngjoaaGreatDoor
