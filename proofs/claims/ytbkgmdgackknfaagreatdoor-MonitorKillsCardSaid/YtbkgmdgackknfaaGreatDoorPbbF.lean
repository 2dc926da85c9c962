/- The closed facts of the row monitorKills, each by itself. -/
import Derived.Test.YtbkgmdgackknfaaGreatDoorRows
import Derived.JoinedOf
namespace Go.Proofs.YtbkgmdgackknfaaGreatDoor
open Go Go.Proofs.Tryz
private theorem andI{a b:Bool}(h:a=true)(k:b=true):(a&&b)=true:=by rw[h,k];rfl
set_option maxRecDepth 100000 in
set_option maxHeartbeats 0 in
theorem qz:joinedFacts checked.prog 8 f8 Rows.monitorKillsSpec Rows.monitorKillsRow=true:=by
 unfold joinedFacts
 repeat refine andI ?_ (by as_aux_lemma=>kernel_rfl)
 as_aux_lemma=>kernel_rfl
set_option maxHeartbeats 0 in
theorem rV:f8.isInstance checked.prog Rows.monitorKillsRow.origin Rows.monitorKillsRow.targs:=of_decide_eq_true (by kernel_rfl)
set_option maxHeartbeats 0 in
theorem rT:f8.isWrapper checked.prog Rows.monitorKillsRow.wrapper Rows.monitorKillsRow.mainSum:=of_decide_eq_true (by kernel_rfl)
set_option maxHeartbeats 0 in
theorem qy:checked.prog.funcNamed Rows.monitorKillsRow.func=some 8:=by kernel_rfl
end Go.Proofs.YtbkgmdgackknfaaGreatDoor
