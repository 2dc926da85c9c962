/- Instructions that are drawn; the laws' list of them. -/
import Derived.Test.YtmhpcgmjlpfheaaGreatDoorSqI
import Derived.Test.YtmhpcgmjlpfheaaGreatDoorInkA
import Derived.Test.YtmhpcgmjlpfheaaGreatDoorSqF
import Derived.Test.YtmhpcgmjlpfheaaGreatDoorInkB
set_option linter.unusedSimpArgs false
set_option linter.unusedVariables false
set_option maxRecDepth 100000
namespace Go.Ink
open Go.RowKit
abbrev opList : List Int := [1, 1, 1, 2, 3, 4, 5, 6, 7, 8, 16, 17, 18, 19, 20, 21, 22, 23, 24, 25, 32, 33, 34, 35, 36, 37, 38, 39, 40, 48, 49, 50, 51, 52, 53, 64, 65, 66, 67, 68, 0, 69]
structure AskR where
 n : Int
 v : Int
 At : Option Addr
 ct : Nat
 ts : List Int
 raw : Bool
 op : Int
 nn : Int
def AskR.cells (a : AskR) : List Value := [.int .i64 a.n, .int .u32 a.v, .slice a.At a.ts.length a.ct, .bool a.raw, .int .i64 a.op, .int .u32 a.nn]
theorem AskR.cells_len (a : AskR) : a.cells.length = 6 := rfl
structure AskR.ok (W : World) (a : AskR) : Prop where
 v : u32 a.v
 nn : u32 a.nn
 rd : Rd W .u32 a.At a.ts.length a.ct a.ts
 ts : ∀ x, x ∈ a.ts → u32 x
end Go.Ink
namespace Go.Proofs.YtmhpcgmjlpfheaaGreatDoor
open Go.RowKit Go.Ink
attribute [local irreducible] OpY GuardIs

end Go.Proofs.YtmhpcgmjlpfheaaGreatDoor
