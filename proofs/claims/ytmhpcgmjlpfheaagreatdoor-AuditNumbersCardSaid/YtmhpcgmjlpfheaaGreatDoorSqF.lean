/- The law StepSystem. -/
import Derived.Test.YtmhpcgmjlpfheaaGreatDoorSqAll
import Derived.Test.YtmhpcgmjlpfheaaGreatDoorInkA
set_option linter.unusedSimpArgs false
set_option linter.unusedVariables false
set_option maxRecDepth 100000
namespace Go.Ink
open Go.RowKit
theorem St.tr_wf {s : St} (h : s.wf) : s.trim.wf := by
 obtain ⟨f0, f1⟩ := h.flags
 obtain ⟨c0, c1⟩ := h.count
 exact ⟨h.pc, ⟨by show 0 ≤ s.flags % 16; omega, by show s.flags % 16 ≤ _; omega⟩, h.root, h.vec, h.epc, h.cause, h.addr, ⟨by show 0 ≤ s.count % 1099511627776; omega, by show s.count % 1099511627776 ≤ _; omega⟩,
  fun x hx => h.d x (List.mem_of_mem_take hx), fun x hx => h.r x (List.mem_of_mem_take hx)⟩
theorem St.mkr {s : St} (h1 : s.d.length ≤ 16) (h2 : s.r.length ≤ 16) (h3 : s.flags ≤ 15) : s.right = true := by
 simp only [St.right, Bool.and_eq_true, decide_eq_true_eq]
 omega
theorem St.tr_right {s : St} : s.trim.right = true :=
 St.mkr (by simp [St.trim]; omega) (by simp [St.trim]; omega) (by show s.flags % 16 ≤ 15; omega)
/-- What is the system's. -/
def SysOp (op nn : Int) : Prop := (op = 66 ∨ op = 67) ∧ 0 ≤ nn ∧ nn ≤ 255 ∨ (op = 65 ∨ op = 68 ∨ op = 69) ∧ nn = 0
theorem sys_right {op nn : Int} (h : SysOp op nn) : opRight op nn = true ∧ opSuper op = true := by
 rcases h with ⟨rfl | rfl, h1, h2⟩ | ⟨rfl | rfl | rfl, rfl⟩
 ·exact ⟨decide_eq_true h2, rfl⟩
 ·exact ⟨decide_eq_true h2, rfl⟩
 ·exact ⟨rfl, rfl⟩
 ·exact ⟨rfl, rfl⟩
 exact ⟨rfl, rfl⟩
theorem sys_user {op nn : Int} (h : SysOp op nn) {s : St} (hs : s.super = false) : checkOf s op nn = 2 := by
 obtain ⟨h1, h2⟩ := sys_right h
 unfold checkOf
 rw [h1, h2, hs]
 rfl
theorem needOf_ne {s : St} {q : (Nat × Nat) × (Nat × Nat)} : (needOf s q != 2) = true := by
 unfold needOf
 refine cond_all (fun x : Int => (x != 2) = true) rfl ?_
 exact cond_all (fun x : Int => (x != 2) = true) rfl rfl
theorem sys_super {op nn : Int} (h : SysOp op nn) {s : St} (hs : s.super = true) : (checkOf s op nn != 2) = true := by
 obtain ⟨h1, h2⟩ := sys_right h
 unfold checkOf
 rw [h1, h2, hs]
 simp only [Bool.not_true, Bool.and_false, cond_false]
 refine cond_all (fun x : Int => (x != 2) = true) rfl ?_
 exact cond_all (fun x : Int => (x != 2) = true) rfl needOf_ne
end Go.Ink
namespace Go.Proofs.YtmhpcgmjlpfheaaGreatDoor
open Go.RowKit Go.Ink
attribute [local irreducible] OpY GuardIs

end Go.Proofs.YtmhpcgmjlpfheaaGreatDoor
