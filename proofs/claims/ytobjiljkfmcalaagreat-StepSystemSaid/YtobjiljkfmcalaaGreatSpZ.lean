/- An instruction: the walk of Do. -/
import Derived.Test.YtobjiljkfmcalaaGreatSpY
set_option linter.unusedSimpArgs false
set_option linter.unusedVariables false
set_option maxRecDepth 100000
namespace Go.Ink
open Go.RowKit
theorem holds_no (op f : Int) (h : (arHolds op f).2 = false) : (arHolds op f).1 = false := by
  revert h
  unfold arHolds
  repeat (refine cond_all (fun q : Bool × Bool => q.2 = false → q.1 = false) (fun h => by cases h) ?_)
  exact fun _ => rfl
theorem reckonTo_none (op n : Int) (R : Run) (h : (reckonTo op n R).1 = false) : (reckonTo op n R).2 = R := by
  revert h
  unfold reckonTo
  repeat (refine cond_all (fun q : Bool × Run => q.1 = false → q.2 = R) (fun h => by cases h) ?_)
  intro h
  show (bif (arHolds op R.s.flags).1 then _ else R) = R
  rw [holds_no op R.s.flags h]
  rfl
theorem needOf_zero {s : St} {q : (Nat × Nat) × (Nat × Nat)} (h : needOf s q = 0) : q.1.1 ≤ s.d.length ∧ q.2.1 ≤ s.r.length := by
  unfold needOf at h
  cases hc : (decide ((s.d.length : Int) < (q.1.1 : Int)) || decide ((s.r.length : Int) < (q.2.1 : Int))) with
  | true => rw [hc] at h; cases h
  | false =>
    simp only [Bool.or_eq_false_iff, decide_eq_false_iff_not] at hc
    omega
theorem checkOf_zero {s : St} {op n : Int} (h : checkOf s op n = 0) : (opNeeds op).1.1 ≤ s.d.length ∧ (opNeeds op).2.1 ≤ s.r.length := by
  unfold checkOf at h
  revert h
  refine cond_all (fun x : Int => x = 0 → (opNeeds op).1.1 ≤ s.d.length ∧ (opNeeds op).2.1 ≤ s.r.length) (fun h => by cases h) ?_
  refine cond_all (fun x : Int => x = 0 → (opNeeds op).1.1 ≤ s.d.length ∧ (opNeeds op).2.1 ≤ s.r.length) (fun h => by cases h) ?_
  refine cond_all (fun x : Int => x = 0 → (opNeeds op).1.1 ≤ s.d.length ∧ (opNeeds op).2.1 ≤ s.r.length) (fun h => by cases h) ?_
  refine cond_all (fun x : Int => x = 0 → (opNeeds op).1.1 ≤ s.d.length ∧ (opNeeds op).2.1 ≤ s.r.length) (fun h => by cases h) ?_
  exact needOf_zero
end Go.Ink
namespace Go.Proofs.YtobjiljkfmcalaaGreat
open Go.RowKit Go.Ink

abbrev resCells (r : Res) (X : SAdr) (Ap : Option Addr) (cp : Nat) : List Value := [.int .u32 r.s.pc, .slice X.Ad r.s.d.length X.cd, .slice X.Ar r.s.r.length X.cr, .int .u32 r.s.flags, .bool r.s.super, .bool r.s.paging, .bool r.s.ie, .int .u32 r.s.root, .int .u32 r.s.vec, .int .u32 r.s.epc, .int .u32 r.s.cause, .int .u32 r.s.addr, .bool r.s.esuper, .bool r.s.eie, .int .u64 r.s.count, .bool r.s.halted, .bool r.trapped, .bool r.device, .slice Ap r.pages.length cp]
abbrev resF (r : Res) (X : SAdr) (Ap : Option Addr) (cp : Nat) : List Chunk := [slD r.s X.Ad X.cd, slR r.s X.Ar X.cr, sl .i64 3 Ap r.pages.length cp r.pages]
end Go.Proofs.YtobjiljkfmcalaaGreat
