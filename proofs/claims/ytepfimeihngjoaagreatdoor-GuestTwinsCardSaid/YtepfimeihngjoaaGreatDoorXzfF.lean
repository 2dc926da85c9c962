/- The closed facts of the row guestTwins, each by itself. -/
import Derived.Test.YtepfimeihngjoaaGreatDoorRows
import Derived.JoinedOf
namespace Go.Proofs.YtepfimeihngjoaaGreatDoor
open Go Go.Proofs.Tryz
private theorem WU{a b:Bool}(h:a=true)(k:b=true):(a&&b)=true:=by rw[h,k];rfl
set_option maxRecDepth 100000 in
set_option maxHeartbeats 0 in
theorem s8:joinedFacts checked.prog 8 f8 Rows.guestTwinsSpec Rows.guestTwinsRow=true:=by
 unfold joinedFacts
 repeat refine WU ?_ (by as_aux_lemma=>kernel_rfl)
 as_aux_lemma=>kernel_rfl
set_option maxHeartbeats 0 in
theorem vD:f8.isInstance checked.prog Rows.guestTwinsRow.origin Rows.guestTwinsRow.targs:=of_decide_eq_true (by kernel_rfl)
set_option maxHeartbeats 0 in
theorem vB:f8.isWrapper checked.prog Rows.guestTwinsRow.wrapper Rows.guestTwinsRow.mainSum:=of_decide_eq_true (by kernel_rfl)
set_option maxHeartbeats 0 in
theorem sZ:checked.prog.funcNamed Rows.guestTwinsRow.func=some 8:=by kernel_rfl
end Go.Proofs.YtepfimeihngjoaaGreatDoor
