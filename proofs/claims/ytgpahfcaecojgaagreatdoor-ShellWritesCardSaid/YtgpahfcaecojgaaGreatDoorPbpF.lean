/- The closed facts of the row shellWrites, each by itself. -/
import Derived.Test.YtgpahfcaecojgaaGreatDoorRows
import Derived.JoinedOf
namespace Go.Proofs.YtgpahfcaecojgaaGreatDoor
open Go Go.Proofs.Tryz
private theorem andI{a b:Bool}(h:a=true)(k:b=true):(a&&b)=true:=by rw[h,k];rfl
set_option maxRecDepth 100000 in
set_option maxHeartbeats 0 in
theorem rL:joinedFacts checked.prog 8 f8 Rows.shellWritesSpec Rows.shellWritesRow=true:=by
 unfold joinedFacts
 repeat refine andI ?_ (by as_aux_lemma=>kernel_rfl)
 as_aux_lemma=>kernel_rfl
set_option maxHeartbeats 0 in
theorem tM:f8.isInstance checked.prog Rows.shellWritesRow.origin Rows.shellWritesRow.targs:=of_decide_eq_true (by kernel_rfl)
set_option maxHeartbeats 0 in
theorem tK:f8.isWrapper checked.prog Rows.shellWritesRow.wrapper Rows.shellWritesRow.mainSum:=of_decide_eq_true (by kernel_rfl)
set_option maxHeartbeats 0 in
theorem rK:checked.prog.funcNamed Rows.shellWritesRow.func=some 8:=by kernel_rfl
end Go.Proofs.YtgpahfcaecojgaaGreatDoor
