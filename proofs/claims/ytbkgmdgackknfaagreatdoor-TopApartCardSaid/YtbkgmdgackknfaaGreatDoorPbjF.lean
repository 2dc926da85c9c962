/- The closed facts of the row topApart, each by itself. -/
import Derived.Test.YtbkgmdgackknfaaGreatDoorRows
import Derived.JoinedOf
namespace Go.Proofs.YtbkgmdgackknfaaGreatDoor
open Go Go.Proofs.Tryz
private theorem andI{a b:Bool}(h:a=true)(k:b=true):(a&&b)=true:=by rw[h,k];rfl
set_option maxRecDepth 100000 in
set_option maxHeartbeats 0 in
theorem wT:joinedFacts checked.prog 10 f10 Rows.topApartSpec Rows.topApartRow=true:=by
 unfold joinedFacts
 repeat refine andI ?_ (by as_aux_lemma=>kernel_rfl)
 as_aux_lemma=>kernel_rfl
set_option maxHeartbeats 0 in
theorem yU:f10.isInstance checked.prog Rows.topApartRow.origin Rows.topApartRow.targs:=of_decide_eq_true (by kernel_rfl)
set_option maxHeartbeats 0 in
theorem yS:f10.isWrapper checked.prog Rows.topApartRow.wrapper Rows.topApartRow.mainSum:=of_decide_eq_true (by kernel_rfl)
set_option maxHeartbeats 0 in
theorem wS:checked.prog.funcNamed Rows.topApartRow.func=some 10:=by kernel_rfl
end Go.Proofs.YtbkgmdgackknfaaGreatDoor
