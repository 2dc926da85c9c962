/- The closed facts of the row monitorBoots, each by itself. -/
import Derived.Test.YtbkgmdgackknfaaGreatDoorRows
import Derived.JoinedOf
namespace Go.Proofs.YtbkgmdgackknfaaGreatDoor
open Go Go.Proofs.Tryz
private theorem andI{a b:Bool}(h:a=true)(k:b=true):(a&&b)=true:=by rw[h,k];rfl
set_option maxRecDepth 100000 in
set_option maxHeartbeats 0 in
theorem qE:joinedFacts checked.prog 6 f6 Rows.monitorBootsSpec Rows.monitorBootsRow=true:=by
 unfold joinedFacts
 repeat refine andI ?_ (by as_aux_lemma=>kernel_rfl)
 as_aux_lemma=>kernel_rfl
set_option maxHeartbeats 0 in
theorem rY:f6.isInstance checked.prog Rows.monitorBootsRow.origin Rows.monitorBootsRow.targs:=of_decide_eq_true (by kernel_rfl)
set_option maxHeartbeats 0 in
theorem rW:f6.isWrapper checked.prog Rows.monitorBootsRow.wrapper Rows.monitorBootsRow.mainSum:=of_decide_eq_true (by kernel_rfl)
set_option maxHeartbeats 0 in
theorem qD:checked.prog.funcNamed Rows.monitorBootsRow.func=some 6:=by kernel_rfl
end Go.Proofs.YtbkgmdgackknfaaGreatDoor
