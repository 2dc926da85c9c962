/- The closed facts of the row monitorLooks, each by itself. -/
import Derived.Test.YtbkgmdgackknfaaGreatDoorRows
import Derived.JoinedOf
namespace Go.Proofs.YtbkgmdgackknfaaGreatDoor
open Go Go.Proofs.Tryz
private theorem andI{a b:Bool}(h:a=true)(k:b=true):(a&&b)=true:=by rw[h,k];rfl
set_option maxRecDepth 100000 in
set_option maxHeartbeats 0 in
theorem qx:joinedFacts checked.prog 5 f5 Rows.monitorLooksSpec Rows.monitorLooksRow=true:=by
 unfold joinedFacts
 repeat refine andI ?_ (by as_aux_lemma=>kernel_rfl)
 as_aux_lemma=>kernel_rfl
set_option maxHeartbeats 0 in
theorem rS:f5.isInstance checked.prog Rows.monitorLooksRow.origin Rows.monitorLooksRow.targs:=of_decide_eq_true (by kernel_rfl)
set_option maxHeartbeats 0 in
theorem rQ:f5.isWrapper checked.prog Rows.monitorLooksRow.wrapper Rows.monitorLooksRow.mainSum:=of_decide_eq_true (by kernel_rfl)
set_option maxHeartbeats 0 in
theorem qw:checked.prog.funcNamed Rows.monitorLooksRow.func=some 5:=by kernel_rfl
end Go.Proofs.YtbkgmdgackknfaaGreatDoor
