/- The closed facts of the row monitorAlone, each by itself. -/
import Derived.Test.YtbkgmdgackknfaaGreatDoorRows
import Derived.JoinedOf
namespace Go.Proofs.YtbkgmdgackknfaaGreatDoor
open Go Go.Proofs.Tryz
private theorem andI{a b:Bool}(h:a=true)(k:b=true):(a&&b)=true:=by rw[h,k];rfl
set_option maxRecDepth 100000 in
set_option maxHeartbeats 0 in
theorem qG:joinedFacts checked.prog 3 f3 Rows.monitorAloneSpec Rows.monitorAloneRow=true:=by
 unfold joinedFacts
 repeat refine andI ?_ (by as_aux_lemma=>kernel_rfl)
 as_aux_lemma=>kernel_rfl
set_option maxHeartbeats 0 in
theorem r8:f3.isInstance checked.prog Rows.monitorAloneRow.origin Rows.monitorAloneRow.targs:=of_decide_eq_true (by kernel_rfl)
set_option maxHeartbeats 0 in
theorem rZ:f3.isWrapper checked.prog Rows.monitorAloneRow.wrapper Rows.monitorAloneRow.mainSum:=of_decide_eq_true (by kernel_rfl)
set_option maxHeartbeats 0 in
theorem qF:checked.prog.funcNamed Rows.monitorAloneRow.func=some 3:=by kernel_rfl
end Go.Proofs.YtbkgmdgackknfaaGreatDoor
