/- The law StepSystem. -/
import Derived.Test.YthcpmpmbgbibfaaGreatDoorSqAll
import Derived.Test.YthcpmpmbgbibfaaGreatDoorInkA
set_option linter.unusedSimpArgs false
set_option linter.unusedVariables false
set_option maxRecDepth 100000
namespace Go.Ink
open Go.RowKit
theorem St.tr_wf {s : St} (h : s.wf) : s.trim.wf := by
 obtain ⟨f0, f1⟩ := h.flags
 obtain ⟨c0, c1⟩ := h.count
 exact ⟨h.pc, ⟨by show 0 ≤ s.flags % 16; omega, by show s.flags % 16 ≤ _; omega⟩, h.root, h.vec, h.epc, h.cause, h.addr, ⟨by show 0 ≤ s.count % 1099511627776; omega, by show s.count % 1099511627776 ≤ _; omega⟩,
  fun x hx => h.d x (List.mem_of_mem_take hx), fun x hx => h.r x (List.mem_of_mem_take hx)⟩
theorem St.mkr {s : St} (h1 : s.d.length ≤ 16) (h2 : s.r.length ≤ 16) (h3 : s.flags ≤ 15) : s.right = true := by
 simp only [St.right, Bool.and_eq_true, decide_eq_true_eq]
 omega
theorem St.tr_right {s : St} : s.trim.right = true :=
 St.mkr (by simp [St.trim]; omega) (by simp [St.trim]; omega) (by show s.flags % 16 ≤ 15; omega)
end Go.Ink
namespace Go.Proofs.YthcpmpmbgbibfaaGreatDoor
open Go.RowKit Go.Ink
attribute [local irreducible] OpY GuardIs

theorem within_e {n lo hi x : Int} (hx : within n lo hi = x) (w : World) (h0 : 0 ≤ lo) (h1 : lo ≤ hi) (h2 : hi ≤ 1000000000000) : Ctr Tryz.prog 10 [.int .i64 n, .int .i64 lo, .int .i64 hi] w [] (fun v cs => v = .int .i64 x ∧ cs = []) := hx ▸ within_ok n lo hi w h0 h1 h2
end Go.Proofs.YthcpmpmbgbibfaaGreatDoor
