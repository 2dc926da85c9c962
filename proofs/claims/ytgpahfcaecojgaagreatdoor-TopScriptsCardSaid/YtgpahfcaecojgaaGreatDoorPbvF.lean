/- The closed facts of the row topScripts, each by itself. -/
import Derived.Test.YtgpahfcaecojgaaGreatDoorRows
import Derived.JoinedOf
namespace Go.Proofs.YtgpahfcaecojgaaGreatDoor
open Go Go.Proofs.Tryz
private theorem andI{a b:Bool}(h:a=true)(k:b=true):(a&&b)=true:=by rw[h,k];rfl
set_option maxRecDepth 100000 in
set_option maxHeartbeats 0 in
theorem tI:joinedFacts checked.prog 13 f13 Rows.topScriptsSpec Rows.topScriptsRow=true:=by
 unfold joinedFacts
 repeat refine andI ?_ (by as_aux_lemma=>kernel_rfl)
 as_aux_lemma=>kernel_rfl
set_option maxHeartbeats 0 in
theorem vj:f13.isInstance checked.prog Rows.topScriptsRow.origin Rows.topScriptsRow.targs:=of_decide_eq_true (by kernel_rfl)
set_option maxHeartbeats 0 in
theorem vh:f13.isWrapper checked.prog Rows.topScriptsRow.wrapper Rows.topScriptsRow.mainSum:=of_decide_eq_true (by kernel_rfl)
set_option maxHeartbeats 0 in
theorem tH:checked.prog.funcNamed Rows.topScriptsRow.func=some 13:=by kernel_rfl
end Go.Proofs.YtgpahfcaecojgaaGreatDoor
