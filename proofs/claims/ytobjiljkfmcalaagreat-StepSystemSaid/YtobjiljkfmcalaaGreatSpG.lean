/- A translation buffer, page tables, a guest's addresses: what they come to. No program in sight. -/
import Derived.Test.YtobjiljkfmcalaaGreatSpF
set_option linter.unusedSimpArgs false
set_option linter.unusedVariables false
set_option maxRecDepth 100000
namespace Go.Ink
open Go.RowKit
structure TE where
  valid : Bool
  vpn : Int
  pfn : Int
  bits : Int
structure TE.wf (e : TE) : Prop where
  vpn : u32 e.vpn
  pfn : u32 e.pfn
  bits : u32 e.bits
def TE.zero : TE := ⟨false, 0, 0, 0⟩
def TE.cells (e : TE) : List Value := [.bool e.valid, .int .u32 e.vpn, .int .u32 e.pfn, .int .u32 e.bits]
def tlbCells (T : List TE) : List Value := T.flatMap TE.cells
structure Tr where
  cause : Int
  addr : Int
def Tr.none : Tr := ⟨0, 0⟩
abbrev Tr.cells (t : Tr) : List Value := [.int .i64 t.cause, .int .u32 t.addr]
abbrev Tr.v (t : Tr) : Value := .agg t.cells.toArray
abbrev TE.v (e : TE) : Value := .agg e.cells.toArray
theorem tlbCells_len : ∀ T : List TE, (tlbCells T).length = T.length * 4
  | [] => rfl
  | e :: T => by
    have := tlbCells_len T
    simp only [tlbCells] at this
    simp [tlbCells, TE.cells, this]
    omega
theorem tlbCells_get : ∀ {T : List TE} {i : Nat} {e : TE}, T[i]? = some e → ((tlbCells T).drop (i * 4)).take 4 = e.cells
  | [], i, e, h => by simp at h
  | x :: T, 0, e, h => by
    simp only [List.getElem?_cons_zero, Option.some.injEq] at h
    subst h
    rfl
  | x :: T, i + 1, e, h => by
    simp only [List.getElem?_cons_succ] at h
    have := tlbCells_get h
    simp only [tlbCells, List.flatMap_cons] at this ⊢
    rw [show (i + 1) * 4 = i * 4 + 4 by omega, ← List.drop_drop, show (TE.cells x ++ T.flatMap TE.cells).drop (i * 4) = (TE.cells x ++ T.flatMap TE.cells).drop (i * 4) from rfl]
    rw [List.drop_drop, show i * 4 + 4 = (TE.cells x).length + i * 4 by simp [TE.cells]; omega, ← List.drop_drop, List.drop_left]
    exact this
theorem tlbCells_set : ∀ {T : List TE} {i : Nat} (e : TE), i < T.length → (tlbCells T).take (i * 4) ++ e.cells ++ (tlbCells T).drop (i * 4 + 4) = tlbCells (T.set i e)
  | [], i, e, h => by simp at h
  | x :: T, 0, e, _ => by simp [tlbCells, TE.cells]
  | x :: T, i + 1, e, h => by
    have ih := tlbCells_set (T := T) (i := i) e (by simpa using h)
    simp only [tlbCells, List.set_cons_succ, List.flatMap_cons] at ih ⊢
    have hl : (TE.cells x).length = 4 := rfl
    rw [show (i + 1) * 4 = (TE.cells x).length + i * 4 by rw [hl]; omega, List.take_length_add_append, show (TE.cells x).length + i * 4 + 4 = (TE.cells x).length + (i * 4 + 4) by omega, List.drop_length_add_append, List.append_assoc, List.append_assoc, ← List.append_assoc _ _ (List.drop _ _), ih]
theorem rep_te (n : Nat) : tlbCells (List.replicate n TE.zero) = (List.replicate n TE.zero).flatMap TE.cells := rfl

def orUser (b : Int) (super : Bool) : Int := bif super then b else bits .or .u32 b 16
/-- The bits that the buffer asks for. -/
def asked (kind : Int) (super : Bool) : Int × Bool :=
  bif kind == 1 then (orUser 8 super, true) else bif kind == 2 then (orUser 2 super, true) else bif kind == 3 then (orUser 68 super, true) else (0, false)
def fault (kind : Int) : Int := bif kind == 1 then 7 else bif kind == 2 then 8 else bif kind == 3 then 9 else 0
/-- The bits that a walk asks for. -/
def wbits (kind : Int) (super : Bool) : Int :=
  orUser (bif kind == 1 then bits .or .u32 1 8 else bif kind == 2 then bits .or .u32 1 2 else bif kind == 3 then bits .or .u32 1 4 else 1) super
def teAt (T : List TE) (va : Nat) : TE := T.getD (va / 64 % 16) TE.zero
/-- Does an entry not do? -/
def noEntry (e : TE) (va : Nat) (a : Int × Bool) : Bool := ((!a.2 || !e.valid) || (e.vpn != ((va / 64 : Nat) : Int))) || (bits .and .u32 e.bits a.1 != a.1)
def physOf (pfn : Int) (va : Nat) : Int := IntKind.u32.wrap (IntKind.u32.wrap (pfn * 64) + ((va % 64 : Nat) : Int))
def tfind (T : List TE) (va : Nat) (kind : Int) (super : Bool) : Int × Bool :=
  bif noEntry (teAt T va) va (asked kind super) then (0, false) else (physOf (teAt T va).pfn va, true)
def tfill (T : List TE) (e : TE) : List TE := bif e.valid then T.set (e.vpn.toNat % 16) e else T
def tdrop (T : List TE) (va : Nat) : List TE := bif (teAt T va).vpn == ((va / 64 : Nat) : Int) then T.set (va / 64 % 16) TE.zero else T
def tflush : List TE := List.replicate 16 TE.zero
/-- A word of a page table. -/
def entryOf (n : Nat) (d : List Int) (a : Nat) : Option Int := bif decide (a + 4 ≤ n * 64) then some (wordAt d a) else none
def at1 (root va : Nat) : Nat := root / 64 * 64 + 4 * (va / 1024 % 16)
def at2 (e : Int) (va : Nat) : Nat := (e / 256).toNat * 64 + 4 * (va / 64 % 16)
/-- The second step, once the first entry is there. -/
def look2 (n : Nat) (d : List Int) (va : Nat) (e : Int) : Option (Nat × Int) :=
  bif e % 2 == 0 then none else (entryOf n d (at2 e va)).map fun l => (at2 e va, l)
def lookUp (n : Nat) (d : List Int) (root va : Nat) : Option (Nat × Int) :=
  bif decide (16384 ≤ va) then none else (entryOf n d (at1 root va)).bind (look2 n d va)
def lookV (r : Option (Nat × Int)) : Value := match r with | some (a, l) => .tuple #[.int .u32 a, .int .u32 l, .bool true] | none => .tuple #[.int .u32 0, .int .u32 0, .bool false]
/-- A leaf entry that was asked. -/
def marked (l : Int) (kind : Int) : Int := bif kind == 3 then bits .or .u32 (bits .or .u32 l 32) 64 else bits .or .u32 l 32
def leafE (va : Nat) (l : Int) : TE := ⟨true, ((va / 64 : Nat) : Int), l / 256, bits .and .u32 l 94⟩
/-- What a walk tells, and the memory behind it. -/
def walkTo (n : Nat) (M : Mem) (root va : Nat) (kind : Int) (super : Bool) : (TE × Tr) × Mem :=
  bif fault kind == 0 then ((TE.zero, ⟨10, va⟩), M) else
  match lookUp n M.data root va with
  | none => ((TE.zero, ⟨fault kind, va⟩), M)
  | some (a, l) => bif bits .and .u32 l (wbits kind super) != wbits kind super then ((TE.zero, ⟨fault kind, va⟩), M) else
      ((leafE va (marked l kind), Tr.none), bif marked l kind != l then M.putW a (marked l kind) else M)
/-- A memory and its buffer. -/
structure Mmu where
  m : Mem
  t : List TE
structure Sp where
  paging : Bool
  super : Bool
  root : Nat
abbrev Sp.v (s : Sp) : Value := .agg #[.bool s.paging, .bool s.super, .int .u32 (s.root : Int)]
def turnedTo (n : Nat) (U : Mmu) (s : Sp) (va : Nat) (kind : Int) : (Int × Tr) × Mmu :=
  bif !s.paging then (((va : Int), Tr.none), U) else
  bif (tfind U.t va kind s.super).2 then (((tfind U.t va kind s.super).1, Tr.none), U) else
  bif (walkTo n U.m s.root va kind s.super).1.2.cause != 0 then ((0, (walkTo n U.m s.root va kind s.super).1.2), ⟨(walkTo n U.m s.root va kind s.super).2, U.t⟩) else
  ((physOf (walkTo n U.m s.root va kind s.super).1.1.pfn va, (walkTo n U.m s.root va kind s.super).1.2), ⟨(walkTo n U.m s.root va kind s.super).2, tfill U.t (walkTo n U.m s.root va kind s.super).1.1⟩)
def isDev (a : Int) : Bool := decide (32768 ≤ a) && decide (a < 33024)
def placeTo (n : Nat) (U : Mmu) (s : Sp) (va : Nat) (kind : Int) : (Int × Tr) × Mmu :=
  bif fault kind == 0 then ((0, ⟨10, va⟩), U) else
  bif (turnedTo n U s va kind).1.2.cause != 0 then ((0, (turnedTo n U s va kind).1.2), (turnedTo n U s va kind).2) else
  bif (decide ((turnedTo n U s va kind).1.1 < ((n * 64 : Nat) : Int)) || ((kind != 1) && isDev (turnedTo n U s va kind).1.1)) then turnedTo n U s va kind else ((0, ⟨10, va⟩), (turnedTo n U s va kind).2)
end Go.Ink
