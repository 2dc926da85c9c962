/- The closed facts of the row auditSounds, each by itself. -/
import Derived.Test.YtgpahfcaecojgaaGreatDoorRows
import Derived.JoinedOf
namespace Go.Proofs.YtgpahfcaecojgaaGreatDoor
open Go Go.Proofs.Tryz
private theorem andI{a b:Bool}(h:a=true)(k:b=true):(a&&b)=true:=by rw[h,k];rfl
set_option maxRecDepth 100000 in
set_option maxHeartbeats 0 in
theorem sC:joinedFacts checked.prog 6 f6 Rows.auditSoundsSpec Rows.auditSoundsRow=true:=by
 unfold joinedFacts
 repeat refine andI ?_ (by as_aux_lemma=>kernel_rfl)
 as_aux_lemma=>kernel_rfl
set_option maxHeartbeats 0 in
theorem ud:f6.isInstance checked.prog Rows.auditSoundsRow.origin Rows.auditSoundsRow.targs:=of_decide_eq_true (by kernel_rfl)
set_option maxHeartbeats 0 in
theorem tZ:f6.isWrapper checked.prog Rows.auditSoundsRow.wrapper Rows.auditSoundsRow.mainSum:=of_decide_eq_true (by kernel_rfl)
set_option maxHeartbeats 0 in
theorem sB:checked.prog.funcNamed Rows.auditSoundsRow.func=some 6:=by kernel_rfl
end Go.Proofs.YtgpahfcaecojgaaGreatDoor
