/- The closed facts of the row monitorNumbers, each by itself. -/
import Derived.Test.YtbkgmdgackknfaaGreatDoorRows
import Derived.JoinedOf
namespace Go.Proofs.YtbkgmdgackknfaaGreatDoor
open Go Go.Proofs.Tryz
private theorem andI{a b:Bool}(h:a=true)(k:b=true):(a&&b)=true:=by rw[h,k];rfl
set_option maxRecDepth 100000 in
set_option maxHeartbeats 0 in
theorem oJ:joinedFacts checked.prog 7 f7 Rows.monitorNumbersSpec Rows.monitorNumbersRow=true:=by
 unfold joinedFacts
 repeat refine andI ?_ (by as_aux_lemma=>kernel_rfl)
 as_aux_lemma=>kernel_rfl
set_option maxHeartbeats 0 in
theorem pw:f7.isInstance checked.prog Rows.monitorNumbersRow.origin Rows.monitorNumbersRow.targs:=of_decide_eq_true (by kernel_rfl)
set_option maxHeartbeats 0 in
theorem pu:f7.isWrapper checked.prog Rows.monitorNumbersRow.wrapper Rows.monitorNumbersRow.mainSum:=of_decide_eq_true (by kernel_rfl)
set_option maxHeartbeats 0 in
theorem oI:checked.prog.funcNamed Rows.monitorNumbersRow.func=some 7:=by kernel_rfl
end Go.Proofs.YtbkgmdgackknfaaGreatDoor
