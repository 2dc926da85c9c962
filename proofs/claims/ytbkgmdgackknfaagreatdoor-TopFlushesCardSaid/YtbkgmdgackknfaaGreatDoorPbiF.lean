/- The closed facts of the row topFlushes, each by itself. -/
import Derived.Test.YtbkgmdgackknfaaGreatDoorRows
import Derived.JoinedOf
namespace Go.Proofs.YtbkgmdgackknfaaGreatDoor
open Go Go.Proofs.Tryz
private theorem andI{a b:Bool}(h:a=true)(k:b=true):(a&&b)=true:=by rw[h,k];rfl
set_option maxRecDepth 100000 in
set_option maxHeartbeats 0 in
theorem tv:joinedFacts checked.prog 11 f11 Rows.topFlushesSpec Rows.topFlushesRow=true:=by
 unfold joinedFacts
 repeat refine andI ?_ (by as_aux_lemma=>kernel_rfl)
 as_aux_lemma=>kernel_rfl
set_option maxHeartbeats 0 in
theorem uQ:f11.isInstance checked.prog Rows.topFlushesRow.origin Rows.topFlushesRow.targs:=of_decide_eq_true (by kernel_rfl)
set_option maxHeartbeats 0 in
theorem uO:f11.isWrapper checked.prog Rows.topFlushesRow.wrapper Rows.topFlushesRow.mainSum:=of_decide_eq_true (by kernel_rfl)
set_option maxHeartbeats 0 in
theorem tq:checked.prog.funcNamed Rows.topFlushesRow.func=some 11:=by kernel_rfl
end Go.Proofs.YtbkgmdgackknfaaGreatDoor
