/- An instruction: what comes of it. -/
import Derived.Test.YtobjiljkfmcalaaGreatSpX
set_option linter.unusedSimpArgs false
set_option linter.unusedVariables false
set_option maxRecDepth 100000
namespace Go.Ink
open Go.RowKit
structure Res where
  s : St
  trapped : Bool
  device : Bool
  pages : List Int
/-- The state as it was, one instruction later. -/
abbrev St.next (s : St) : St := s.wcount (IntKind.u64.wrap (s.count + 1))
abbrev St.wpc (s : St) (x : Int) : St := ⟨x, s.d, s.r, s.flags, s.super, s.paging, s.ie, s.root, s.vec, s.epc, s.cause, s.addr, s.esuper, s.eie, s.count, s.halted⟩
def run0 (s : St) (op : Int) : Run := ⟨s.next.wpc (IntKind.u32.wrap (s.pc + IntKind.u32.wrap (opSize op))), s.count, Tr.none, false⟩
/-- The instruction itself. -/
def midTo (n : Nat) (s : St) (op nn : Int) (U : Mmu) (d : Dev) : Mach :=
  match stackTo op nn (run0 s op) with
  | some R => ⟨R, U, d⟩
  | none => bif (reckonTo op nn (run0 s op)).1 then ⟨(reckonTo op nn (run0 s op)).2, U, d⟩ else otherTo n op nn ⟨(reckonTo op nn (run0 s op)).2, U, d⟩
def endTo (s : St) (m : Mach) : Res :=
  bif m.r.trap.cause != 0 then ⟨s.next.trap m.r.trap.cause m.r.trap.addr, true, m.r.device, trues m.u.m.turned 64⟩ else ⟨m.r.s, false, m.r.device, trues m.u.m.turned 64⟩
def doTo (n : Nat) (s : St) (op nn : Int) (U : Mmu) (d : Dev) : Res × Mmu × Dev :=
  bif !s.right then (⟨s, false, false, []⟩, U, d) else
  bif checkOf s op nn != 0 then (⟨s.next.trap (checkOf s op nn) 0, true, false, []⟩, ⟨U.m.calm, U.t⟩, d) else
  (endTo s (midTo n s op nn ⟨U.m.calm, U.t⟩ d), (midTo n s op nn ⟨U.m.calm, U.t⟩ d).u, (midTo n s op nn ⟨U.m.calm, U.t⟩ d).d)
end Go.Ink
