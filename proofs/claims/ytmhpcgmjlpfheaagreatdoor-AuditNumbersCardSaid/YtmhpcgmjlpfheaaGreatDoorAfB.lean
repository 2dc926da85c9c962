/- The closed facts of the row innkeeperlaw27.AuditNumbers, each by itself. -/
import Derived.Test.YtmhpcgmjlpfheaaGreatDoorRows
import Derived.JoinedOf
namespace Go.Proofs.YtmhpcgmjlpfheaaGreatDoor
open Go
private theorem andI {a b : Bool} (h : a = true) (k : b = true) : (a && b) = true := by rw [h, k]; rfl
set_option maxRecDepth 100000 in
set_option maxHeartbeats 0 in
theorem auditNumbers_facts : joinedFacts Tryz.checked.prog 3 Tryz.f3 Rows.auditNumbersSpec Rows.auditNumbersRow = true := by
  unfold joinedFacts
  repeat refine andI ?_ (by as_aux_lemma => kernel_rfl)
  as_aux_lemma => kernel_rfl
set_option maxHeartbeats 0 in
theorem auditNumbers_inst : Tryz.f3.isInstance Tryz.checked.prog Rows.auditNumbersRow.origin Rows.auditNumbersRow.targs := of_decide_eq_true (by kernel_rfl)
set_option maxHeartbeats 0 in
theorem auditNumbers_wrap : Tryz.f3.isWrapper Tryz.checked.prog Rows.auditNumbersRow.wrapper Rows.auditNumbersRow.mainSum := of_decide_eq_true (by kernel_rfl)
set_option maxHeartbeats 0 in
theorem auditNumbers_ready : Tryz.checked.prog.funcNamed Rows.auditNumbersRow.func = some 3 := by kernel_rfl
end Go.Proofs.YtmhpcgmjlpfheaaGreatDoor
