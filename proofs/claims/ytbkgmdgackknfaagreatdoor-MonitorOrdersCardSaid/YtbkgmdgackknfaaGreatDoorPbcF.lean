/- The closed facts of the row monitorOrders, each by itself. -/
import Derived.Test.YtbkgmdgackknfaaGreatDoorRows
import Derived.JoinedOf
namespace Go.Proofs.YtbkgmdgackknfaaGreatDoor
open Go Go.Proofs.Tryz
private theorem andI{a b:Bool}(h:a=true)(k:b=true):(a&&b)=true:=by rw[h,k];rfl
set_option maxRecDepth 100000 in
set_option maxHeartbeats 0 in
theorem pt:joinedFacts checked.prog 4 f4 Rows.monitorOrdersSpec Rows.monitorOrdersRow=true:=by
 unfold joinedFacts
 repeat refine andI ?_ (by as_aux_lemma=>kernel_rfl)
 as_aux_lemma=>kernel_rfl
set_option maxHeartbeats 0 in
theorem qv:f4.isInstance checked.prog Rows.monitorOrdersRow.origin Rows.monitorOrdersRow.targs:=of_decide_eq_true (by kernel_rfl)
set_option maxHeartbeats 0 in
theorem qt:f4.isWrapper checked.prog Rows.monitorOrdersRow.wrapper Rows.monitorOrdersRow.mainSum:=of_decide_eq_true (by kernel_rfl)
set_option maxHeartbeats 0 in
theorem pq:checked.prog.funcNamed Rows.monitorOrdersRow.func=some 4:=by kernel_rfl
end Go.Proofs.YtbkgmdgackknfaaGreatDoor
