/- A guest's registers as plain data, and what is done to them. No program in sight. -/
import Derived.Test.YtobjiljkfmcalaaGreatInkE
namespace Go.Ink
open Go.RowKit

structure St where
  pc : Int
  d : List Int
  r : List Int
  flags : Int
  super : Bool
  paging : Bool
  ie : Bool
  root : Int
  vec : Int
  epc : Int
  cause : Int
  addr : Int
  esuper : Bool
  eie : Bool
  count : Int
  halted : Bool

abbrev St.cells (s : St) (dv rv : Value) : List Value :=
  [.int .u32 s.pc, dv, rv, .int .u32 s.flags, .bool s.super, .bool s.paging, .bool s.ie, .int .u32 s.root, .int .u32 s.vec, .int .u32 s.epc, .int .u32 s.cause, .int .u32 s.addr, .bool s.esuper, .bool s.eie, .int .u64 s.count, .bool s.halted]
def b2i (b : Bool) : Int := bif b then 1 else 0
def within (n lo hi : Int) : Int := lo + n % (hi - lo + 1)
def St.zero : St := ⟨0, [], [], 0, false, false, false, 0, 0, 0, 0, 0, false, false, 0, false⟩
def St.new : St := { St.zero with super := true }
def St.trap (s : St) (cause addr : Int) : St :=
  { s with epc := s.pc, cause := IntKind.u32.wrap cause, addr := addr, esuper := s.super, eie := s.ie, super := true, ie := false, pc := s.vec }
def St.back (s : St) : St := { s with pc := s.epc, super := s.esuper, ie := s.eie }
def St.get (s : St) (reg : Int) : Int × Bool :=
  bif reg == 0 then (b2i s.ie, true) else bif reg == 1 then (b2i s.paging, true) else bif reg == 2 then (s.root, true) else bif reg == 3 then (s.vec, true) else bif reg == 4 then (s.epc, true) else
  bif reg == 5 then (s.cause, true) else bif reg == 6 then (s.addr, true) else bif reg == 7 then (b2i s.esuper, true) else bif reg == 8 then (b2i s.eie, true) else bif reg == 9 then (IntKind.u32.wrap s.count, true) else
  bif reg == 10 then (s.flags, true) else (0, false)
def St.set (s : St) (reg v : Int) : St × Bool :=
  bif reg == 0 then ({ s with ie := v != 0 }, true) else bif reg == 1 then ({ s with paging := v != 0 }, true) else bif reg == 2 then ({ s with root := bits .andNot .u32 v 63 }, true) else bif reg == 3 then ({ s with vec := v }, true) else
  bif reg == 4 then ({ s with epc := v }, true) else bif reg == 5 then ({ s with cause := v }, true) else bif reg == 6 then ({ s with addr := v }, true) else bif reg == 7 then ({ s with esuper := v != 0 }, true) else bif reg == 8 then ({ s with eie := v != 0 }, true) else
  bif reg == 10 then ({ s with flags := bits .and .u32 v 15 }, true) else (s, false)
/-- The same ones: in the order of the program's test. -/
def St.same (a b : St) : Bool :=
  (((a.d == b.d) && (a.r == b.r)) && ((((((((a.pc == b.pc) && (a.flags == b.flags)) && (a.super == b.super)) && (a.paging == b.paging)) && (a.ie == b.ie)) && (a.root == b.root)) && (a.vec == b.vec))) && (((((a.epc == b.epc) && (a.cause == b.cause)) && (a.addr == b.addr)) && (a.esuper == b.esuper)) && (a.eie == b.eie))) && (a.count == b.count) && (a.halted == b.halted)
def St.right (s : St) : Bool := decide ((s.d.length : Int) ≤ 16) && decide ((s.r.length : Int) ≤ 16) && decide (s.flags ≤ 15)
/-- The numbers are ones of their kinds. -/
def u32 (x : Int) : Prop := 0 ≤ x ∧ x ≤ 4294967295
/-- Bytes. -/
def u8s (l : List Int) : Prop := ∀ x, x ∈ l → 0 ≤ x ∧ x ≤ 255
structure St.wf (s : St) : Prop where
  pc : u32 s.pc
  flags : u32 s.flags
  root : u32 s.root
  vec : u32 s.vec
  epc : u32 s.epc
  cause : u32 s.cause
  addr : u32 s.addr
  count : 0 ≤ s.count ∧ s.count ≤ 18446744073709551615
  d : ∀ x, x ∈ s.d → u32 x
  r : ∀ x, x ∈ s.r → u32 x
end Go.Ink
