/- Instructions that are drawn; the laws' list of them. -/
import Derived.Test.YtobjiljkfmcalaaGreatSqI
import Derived.Test.YtobjiljkfmcalaaGreatInkA
import Derived.Test.YtobjiljkfmcalaaGreatSqF
import Derived.Test.YtobjiljkfmcalaaGreatInkB
set_option linter.unusedSimpArgs false
set_option linter.unusedVariables false
set_option maxRecDepth 100000
namespace Go.Ink
open Go.RowKit
structure AskR where
 n : Int
 v : Int
 At : Option Addr
 ct : Nat
 ts : List Int
 raw : Bool
 op : Int
 nn : Int
def AskR.cells (a : AskR) : List Value := [.int .i64 a.n, .int .u32 a.v, .slice a.At a.ts.length a.ct, .bool a.raw, .int .i64 a.op, .int .u32 a.nn]
structure AskR.ok (W : World) (a : AskR) : Prop where
 v : u32 a.v
 nn : u32 a.nn
 rd : Rd W .u32 a.At a.ts.length a.ct a.ts
 ts : ∀ x, x ∈ a.ts → u32 x
end Go.Ink
namespace Go.Proofs.YtobjiljkfmcalaaGreat
open Go.RowKit Go.Ink
attribute [local irreducible] OpY GuardIs

end Go.Proofs.YtobjiljkfmcalaaGreat
