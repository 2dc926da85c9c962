/- The closed facts of the row innkeeperlaw27.AuditTells, each by itself. -/
import Derived.Test.YtmhpcgmjlpfheaaGreatDoorRows
import Derived.JoinedOf
namespace Go.Proofs.YtmhpcgmjlpfheaaGreatDoor
open Go
private theorem andI {a b : Bool} (h : a = true) (k : b = true) : (a && b) = true := by rw [h, k]; rfl
set_option maxRecDepth 100000 in
set_option maxHeartbeats 0 in
theorem auditTells_facts : joinedFacts Tryz.checked.prog 4 Tryz.f4 Rows.auditTellsSpec Rows.auditTellsRow = true := by
  unfold joinedFacts
  repeat refine andI ?_ (by as_aux_lemma => kernel_rfl)
  as_aux_lemma => kernel_rfl
set_option maxHeartbeats 0 in
theorem auditTells_inst : Tryz.f4.isInstance Tryz.checked.prog Rows.auditTellsRow.origin Rows.auditTellsRow.targs := of_decide_eq_true (by kernel_rfl)
set_option maxHeartbeats 0 in
theorem auditTells_wrap : Tryz.f4.isWrapper Tryz.checked.prog Rows.auditTellsRow.wrapper Rows.auditTellsRow.mainSum := of_decide_eq_true (by kernel_rfl)
set_option maxHeartbeats 0 in
theorem auditTells_ready : Tryz.checked.prog.funcNamed Rows.auditTellsRow.func = some 4 := by kernel_rfl
end Go.Proofs.YtmhpcgmjlpfheaaGreatDoor
