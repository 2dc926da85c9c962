/-
  NARROWER THAN 'FOR EVERY INPUT', by the rows' own cells (each row's printed sentence says how): BlockPieces: laid · BlockBytes: laid · BlockNumbers: laid · BlockPlays: laid · BlockBegins: laid.
  DERIVED. THE GIVEN ROWS OF THIS SEAT. 5 by the template 'for every input the law returns true; each argument reads behind the call as it read before'; 0 by the template 'total and deterministic' (their statements: YthcpmpmbgbibfaaGreatDoorTotals.lean).
  GIVEN WITH THE SEED: the statements are not yours to turn. If you find one false, say at which input.
  Laid BY PROGRAM, IN A SANDBOX (cutbox-rows.mjs): the forced cells as the released guide's own fill.sh prints them over the translation 352fa700fda1c08d… (all of the seat's roots in one cut). By AI agents, Wed Nov 11 2026. No macro, syntax, notation, axiom, sorry.
-/
import Derived.Test.YthcpmpmbgbibfaaGreatDoorChecked
import GoSem.Claim
import GoSem.ClaimJoined
import GoSem.ClaimMapViews
import Derived.JoinedTies
import Derived.KernelRfl
namespace Go.Proofs.YthcpmpmbgbibfaaGreatDoor
/- THE CELL 'sum', in the pinned program and in every row, IS THE sha256 OF THE DUMP (.gsa) THAT YthcpmpmbgbibfaaGreatDoorProg.lean LOADS. Nothing in Lean hashes anything: it is a label: what it is worth is what the hold of that sum in a sandbox is worth. -/
noncomputable def Tryz.pinned : Pinned := { name := "ythcpmpmbgbibfaagreatdoor", sum := "352fa700fda1c08de850b6c0846af4d2dd28497e85accdb7eb28f4d1089af55d", checked := Tryz.checked }
namespace Rows
def none {H : Type} : Left H := { results := [], args := [] }

/- WHAT THE LISTED PACKAGE-LEVEL VARIABLES READ AS WHEN THE CALL BEGINS. Each datum BY PROGRAM (the guide's laid-datum.mjs) off the statement by which the dump's own 'gosem.cut.vars' lays the variable. In a bare row this is a premise. The card (YthcpmpmbgbibfaaGreatDoorCards.lean) ties it to the program's text. -/
def laid_math_bits_deBruijn32tab {H : Type} : DataW H := .agg [.lit (.int .u8 0), .lit (.int .u8 1), .lit (.int .u8 28), .lit (.int .u8 2), .lit (.int .u8 29), .lit (.int .u8 14), .lit (.int .u8 24), .lit (.int .u8 3), .lit (.int .u8 30), .lit (.int .u8 22), .lit (.int .u8 20), .lit (.int .u8 15), .lit (.int .u8 25), .lit (.int .u8 17), .lit (.int .u8 4), .lit (.int .u8 8), .lit (.int .u8 31), .lit (.int .u8 27), .lit (.int .u8 13), .lit (.int .u8 23), .lit (.int .u8 21), .lit (.int .u8 19), .lit (.int .u8 16), .lit (.int .u8 7), .lit (.int .u8 26), .lit (.int .u8 12), .lit (.int .u8 18), .lit (.int .u8 6), .lit (.int .u8 11), .lit (.int .u8 5), .lit (.int .u8 10), .lit (.int .u8 9)]

/-- 'innkeeperlaw18.BlockPieces': WHATEVER THE INPUT: true; the input reads as it did. -/
def blockPiecesSpec : ChangeSpec := { name := "blockPieces", fn := fun _ => fun
  | [d1, d2, d3] => { results := [.lit (.bool true)], args := [d1, d2, d3] }
  | _ => none }
def blockPiecesRow : OpenClaim := { program := "ythcpmpmbgbibfaagreatdoor", sum := "352fa700fda1c08de850b6c0846af4d2dd28497e85accdb7eb28f4d1089af55d", func := "innkeeper/innkeeperlaw18.BlockPieces", spec := "blockPieces", named := ["math/bits.deBruijn32tab"], apart := false, laid := [("math/bits.deBruijn32tab", laid_math_bits_deBruijn32tab)] }
def BlockPiecesSaid : Prop := blockPiecesRow.holds Tryz.pinned (OpenSpec.ofChange blockPiecesSpec)

/-- ITS FALSE NEIGHBOUR: 'it returns false'. Refute it at one input. -/
def blockPiecesWrong : ChangeSpec := { name := "blockPieces", fn := fun _ => fun
  | [d1, d2, d3] => { results := [.lit (.bool false)], args := [d1, d2, d3] }
  | _ => none }
def BlockPiecesWrongFalsely : Prop := blockPiecesRow.holds Tryz.pinned (OpenSpec.ofChange blockPiecesWrong)

/-- 'innkeeperlaw18.BlockBytes': WHATEVER THE INPUT: true; the input reads as it did. -/
def blockBytesSpec : ChangeSpec := { name := "blockBytes", fn := fun _ => fun
  | [d1, d2] => { results := [.lit (.bool true)], args := [d1, d2] }
  | _ => none }
def blockBytesRow : OpenClaim := { program := "ythcpmpmbgbibfaagreatdoor", sum := "352fa700fda1c08de850b6c0846af4d2dd28497e85accdb7eb28f4d1089af55d", func := "innkeeper/innkeeperlaw18.BlockBytes", spec := "blockBytes", named := ["math/bits.deBruijn32tab"], apart := false, laid := [("math/bits.deBruijn32tab", laid_math_bits_deBruijn32tab)] }
def BlockBytesSaid : Prop := blockBytesRow.holds Tryz.pinned (OpenSpec.ofChange blockBytesSpec)

/-- ITS FALSE NEIGHBOUR: 'it returns false'. Refute it at one input. -/
def blockBytesWrong : ChangeSpec := { name := "blockBytes", fn := fun _ => fun
  | [d1, d2] => { results := [.lit (.bool false)], args := [d1, d2] }
  | _ => none }
def BlockBytesWrongFalsely : Prop := blockBytesRow.holds Tryz.pinned (OpenSpec.ofChange blockBytesWrong)

/-- 'innkeeperlaw18.BlockNumbers': WHATEVER THE INPUT: true; the input reads as it did. -/
def blockNumbersSpec : ChangeSpec := { name := "blockNumbers", fn := fun _ => fun
  | [] => { results := [.lit (.bool true)], args := [] }
  | _ => none }
def blockNumbersRow : OpenClaim := { program := "ythcpmpmbgbibfaagreatdoor", sum := "352fa700fda1c08de850b6c0846af4d2dd28497e85accdb7eb28f4d1089af55d", func := "innkeeper/innkeeperlaw18.BlockNumbers", spec := "blockNumbers", unfollowed := true, recurses := true, named := ["math/bits.deBruijn32tab"], apart := false, laid := [("math/bits.deBruijn32tab", laid_math_bits_deBruijn32tab)] }
def BlockNumbersSaid : Prop := blockNumbersRow.holds Tryz.pinned (OpenSpec.ofChange blockNumbersSpec)

/-- ITS FALSE NEIGHBOUR: 'it returns false'. Refute it at one input. -/
def blockNumbersWrong : ChangeSpec := { name := "blockNumbers", fn := fun _ => fun
  | [] => { results := [.lit (.bool false)], args := [] }
  | _ => none }
def BlockNumbersWrongFalsely : Prop := blockNumbersRow.holds Tryz.pinned (OpenSpec.ofChange blockNumbersWrong)

/-- 'innkeeperlaw18.BlockPlays': WHATEVER THE INPUT: true; the input reads as it did. -/
def blockPlaysSpec : ChangeSpec := { name := "blockPlays", fn := fun _ => fun
  | [d1, d2, d3, d4] => { results := [.lit (.bool true)], args := [d1, d2, d3, d4] }
  | _ => none }
def blockPlaysRow : OpenClaim := { program := "ythcpmpmbgbibfaagreatdoor", sum := "352fa700fda1c08de850b6c0846af4d2dd28497e85accdb7eb28f4d1089af55d", func := "innkeeper/innkeeperlaw18.BlockPlays", spec := "blockPlays", named := ["math/bits.deBruijn32tab"], apart := false, laid := [("math/bits.deBruijn32tab", laid_math_bits_deBruijn32tab)] }
def BlockPlaysSaid : Prop := blockPlaysRow.holds Tryz.pinned (OpenSpec.ofChange blockPlaysSpec)

/-- ITS FALSE NEIGHBOUR: 'it returns false'. Refute it at one input. -/
def blockPlaysWrong : ChangeSpec := { name := "blockPlays", fn := fun _ => fun
  | [d1, d2, d3, d4] => { results := [.lit (.bool false)], args := [d1, d2, d3, d4] }
  | _ => none }
def BlockPlaysWrongFalsely : Prop := blockPlaysRow.holds Tryz.pinned (OpenSpec.ofChange blockPlaysWrong)

/-- 'innkeeperlaw18.BlockBegins': WHATEVER THE INPUT: true; the input reads as it did. -/
def blockBeginsSpec : ChangeSpec := { name := "blockBegins", fn := fun _ => fun
  | [d1, d2, d3, d4, d5] => { results := [.lit (.bool true)], args := [d1, d2, d3, d4, d5] }
  | _ => none }
def blockBeginsRow : OpenClaim := { program := "ythcpmpmbgbibfaagreatdoor", sum := "352fa700fda1c08de850b6c0846af4d2dd28497e85accdb7eb28f4d1089af55d", func := "innkeeper/innkeeperlaw18.BlockBegins", spec := "blockBegins", named := ["math/bits.deBruijn32tab"], apart := false, laid := [("math/bits.deBruijn32tab", laid_math_bits_deBruijn32tab)] }
def BlockBeginsSaid : Prop := blockBeginsRow.holds Tryz.pinned (OpenSpec.ofChange blockBeginsSpec)

/-- ITS FALSE NEIGHBOUR: 'it returns false'. Refute it at one input. -/
def blockBeginsWrong : ChangeSpec := { name := "blockBegins", fn := fun _ => fun
  | [d1, d2, d3, d4, d5] => { results := [.lit (.bool false)], args := [d1, d2, d3, d4, d5] }
  | _ => none }
def BlockBeginsWrongFalsely : Prop := blockBeginsRow.holds Tryz.pinned (OpenSpec.ofChange blockBeginsWrong)

/- THE SECOND FORM. 'bulk': how many values and letters a reading holds, each counted each time it is reached (what is shared counts as often as it is met; a slice's spare places count too). A statement '..UptoSaid' is the law's where the arguments, and the package variables that the reading takes, are together of bulk at most 1048576: NARROWER than '..Said'. Prove '..Said' where nothing that the law and all that it calls make is longer than what came in: it says more and counts as full. Else prove '..UptoSaid'. A law counts once. -/
mutual
def uptoBulk {H : Type} : DataW H → Nat
  | .lit (.string bytes) => bytes.length + 1
  | .lit _ => 1
  | .nil => 1
  | .ptr d => uptoBulk d + 1
  | .slice elems spare => uptoBulkAll elems + uptoBulkAll spare + 1
  | .agg parts => uptoBulkAll parts + 1
  | .iface _ d => uptoBulk d + 1
  | .map entries => uptoBulkEntries entries + 1
  | .held _ => 1
def uptoBulkAll {H : Type} : List (DataW H) → Nat
  | [] => 0
  | d :: r => uptoBulk d + uptoBulkAll r
def uptoBulkEntries {H : Type} : List (Lit × DataW H) → Nat
  | [] => 0
  | x :: r => uptoBulkEntry x + uptoBulkEntries r
def uptoBulkEntry {H : Type} : Lit × DataW H → Nat
  | (.string bytes, d) => bytes.length + uptoBulk d + 1
  | (_, d) => uptoBulk d + 1
 end
def uptoSmall : (H : Type) → List (DataW H) → Bool := fun _ ds => decide (uptoBulkAll ds ≤ 1048576)
def OpenSpec.upto (s : _root_.Go.ChangeSpec) : _root_.Go.OpenSpec := { _root_.Go.OpenSpec.ofChange s with cond := some uptoSmall }

/-- 'innkeeperlaw18.BlockPieces', WHERE WHAT IT READS IS OF BULK AT MOST 1048576: true; the input reads as it did. -/
def blockPiecesUptoRow : OpenClaim := { program := "ythcpmpmbgbibfaagreatdoor", sum := "352fa700fda1c08de850b6c0846af4d2dd28497e85accdb7eb28f4d1089af55d", func := "innkeeper/innkeeperlaw18.BlockPieces", spec := "blockPieces", named := ["math/bits.deBruijn32tab"], apart := false, laid := [("math/bits.deBruijn32tab", laid_math_bits_deBruijn32tab)], narrowed := true }
def BlockPiecesUptoSaid : Prop := blockPiecesUptoRow.holds Tryz.pinned (OpenSpec.upto blockPiecesSpec)

/-- 'innkeeperlaw18.BlockBytes', WHERE WHAT IT READS IS OF BULK AT MOST 1048576: true; the input reads as it did. -/
def blockBytesUptoRow : OpenClaim := { program := "ythcpmpmbgbibfaagreatdoor", sum := "352fa700fda1c08de850b6c0846af4d2dd28497e85accdb7eb28f4d1089af55d", func := "innkeeper/innkeeperlaw18.BlockBytes", spec := "blockBytes", named := ["math/bits.deBruijn32tab"], apart := false, laid := [("math/bits.deBruijn32tab", laid_math_bits_deBruijn32tab)], narrowed := true }
def BlockBytesUptoSaid : Prop := blockBytesUptoRow.holds Tryz.pinned (OpenSpec.upto blockBytesSpec)

/-- 'innkeeperlaw18.BlockNumbers', WHERE WHAT IT READS IS OF BULK AT MOST 1048576: true; the input reads as it did. -/
def blockNumbersUptoRow : OpenClaim := { program := "ythcpmpmbgbibfaagreatdoor", sum := "352fa700fda1c08de850b6c0846af4d2dd28497e85accdb7eb28f4d1089af55d", func := "innkeeper/innkeeperlaw18.BlockNumbers", spec := "blockNumbers", unfollowed := true, recurses := true, named := ["math/bits.deBruijn32tab"], apart := false, laid := [("math/bits.deBruijn32tab", laid_math_bits_deBruijn32tab)], narrowed := true }
def BlockNumbersUptoSaid : Prop := blockNumbersUptoRow.holds Tryz.pinned (OpenSpec.upto blockNumbersSpec)

/-- 'innkeeperlaw18.BlockPlays', WHERE WHAT IT READS IS OF BULK AT MOST 1048576: true; the input reads as it did. -/
def blockPlaysUptoRow : OpenClaim := { program := "ythcpmpmbgbibfaagreatdoor", sum := "352fa700fda1c08de850b6c0846af4d2dd28497e85accdb7eb28f4d1089af55d", func := "innkeeper/innkeeperlaw18.BlockPlays", spec := "blockPlays", named := ["math/bits.deBruijn32tab"], apart := false, laid := [("math/bits.deBruijn32tab", laid_math_bits_deBruijn32tab)], narrowed := true }
def BlockPlaysUptoSaid : Prop := blockPlaysUptoRow.holds Tryz.pinned (OpenSpec.upto blockPlaysSpec)

/-- 'innkeeperlaw18.BlockBegins', WHERE WHAT IT READS IS OF BULK AT MOST 1048576: true; the input reads as it did. -/
def blockBeginsUptoRow : OpenClaim := { program := "ythcpmpmbgbibfaagreatdoor", sum := "352fa700fda1c08de850b6c0846af4d2dd28497e85accdb7eb28f4d1089af55d", func := "innkeeper/innkeeperlaw18.BlockBegins", spec := "blockBegins", named := ["math/bits.deBruijn32tab"], apart := false, laid := [("math/bits.deBruijn32tab", laid_math_bits_deBruijn32tab)], narrowed := true }
def BlockBeginsUptoSaid : Prop := blockBeginsUptoRow.holds Tryz.pinned (OpenSpec.upto blockBeginsSpec)

end Rows
end Go.Proofs.YthcpmpmbgbibfaaGreatDoor
