/- The closed facts of the row topOutputs, each by itself. -/
import Derived.Test.YtbkgmdgackknfaaGreatDoorRows
import Derived.JoinedOf
namespace Go.Proofs.YtbkgmdgackknfaaGreatDoor
open Go Go.Proofs.Tryz
private theorem andI{a b:Bool}(h:a=true)(k:b=true):(a&&b)=true:=by rw[h,k];rfl
set_option maxRecDepth 100000 in
set_option maxHeartbeats 0 in
theorem tp:joinedFacts checked.prog 12 f12 Rows.topOutputsSpec Rows.topOutputsRow=true:=by
 unfold joinedFacts
 repeat refine andI ?_ (by as_aux_lemma=>kernel_rfl)
 as_aux_lemma=>kernel_rfl
set_option maxHeartbeats 0 in
theorem uN:f12.isInstance checked.prog Rows.topOutputsRow.origin Rows.topOutputsRow.targs:=of_decide_eq_true (by kernel_rfl)
set_option maxHeartbeats 0 in
theorem uL:f12.isWrapper checked.prog Rows.topOutputsRow.wrapper Rows.topOutputsRow.mainSum:=of_decide_eq_true (by kernel_rfl)
set_option maxHeartbeats 0 in
theorem tn:checked.prog.funcNamed Rows.topOutputsRow.func=some 12:=by kernel_rfl
end Go.Proofs.YtbkgmdgackknfaaGreatDoor
