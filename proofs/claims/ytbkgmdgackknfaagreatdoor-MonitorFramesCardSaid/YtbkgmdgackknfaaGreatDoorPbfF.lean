/- The closed facts of the row monitorFrames, each by itself. -/
import Derived.Test.YtbkgmdgackknfaaGreatDoorRows
import Derived.JoinedOf
namespace Go.Proofs.YtbkgmdgackknfaaGreatDoor
open Go Go.Proofs.Tryz
private theorem andI{a b:Bool}(h:a=true)(k:b=true):(a&&b)=true:=by rw[h,k];rfl
set_option maxRecDepth 100000 in
set_option maxHeartbeats 0 in
theorem pB:joinedFacts checked.prog 9 f9 Rows.monitorFramesSpec Rows.monitorFramesRow=true:=by
 unfold joinedFacts
 repeat refine andI ?_ (by as_aux_lemma=>kernel_rfl)
 as_aux_lemma=>kernel_rfl
set_option maxHeartbeats 0 in
theorem qC:f9.isInstance checked.prog Rows.monitorFramesRow.origin Rows.monitorFramesRow.targs:=of_decide_eq_true (by kernel_rfl)
set_option maxHeartbeats 0 in
theorem qA:f9.isWrapper checked.prog Rows.monitorFramesRow.wrapper Rows.monitorFramesRow.mainSum:=of_decide_eq_true (by kernel_rfl)
set_option maxHeartbeats 0 in
theorem pA:checked.prog.funcNamed Rows.monitorFramesRow.func=some 9:=by kernel_rfl
end Go.Proofs.YtbkgmdgackknfaaGreatDoor
