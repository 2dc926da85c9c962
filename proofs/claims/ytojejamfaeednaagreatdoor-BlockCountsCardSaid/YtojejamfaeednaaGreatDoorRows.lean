/-
  NARROWER THAN 'FOR EVERY INPUT', by the rows' own cells (each row's printed sentence says how): BlockCounts: laid · BlockEnds: laid · BlockSelf: laid · BlockTraps: laid · BlockIrqs: laid · BlockFetches: laid · BlockPieces: laid · BlockBytes: laid · BlockNumbers: laid · BlockPlays: laid · BlockBegins: laid · EngineBlocks: laid.
  DERIVED. THE GIVEN ROWS OF THIS SEAT. 12 by the template 'for every input the law returns true; each argument reads behind the call as it read before'; 0 by the template 'total and deterministic' (their statements: YtojejamfaeednaaGreatDoorTotals.lean).
  GIVEN WITH THE SEED: the statements are not yours to turn. If you find one false, say at which input.
  Laid BY PROGRAM, IN A SANDBOX (cutbox-rows.mjs): the forced cells as the released guide's own fill.sh prints them over the translation 47e2f207b0869ba4… (all of the seat's roots in one cut). By AI agents, Wed Nov 11 2026. No macro, syntax, notation, axiom, sorry.
-/
import Derived.Test.YtojejamfaeednaaGreatDoorChecked
import GoSem.Claim
import GoSem.ClaimJoined
import GoSem.ClaimMapViews
import Derived.JoinedTies
import Derived.KernelRfl
namespace Go.Proofs.YtojejamfaeednaaGreatDoor
/- THE CELL 'sum', in the pinned program and in every row, IS THE sha256 OF THE DUMP (.gsa) THAT YtojejamfaeednaaGreatDoorProg.lean LOADS. Nothing in Lean hashes anything: it is a label: what it is worth is what the hold of that sum in a sandbox is worth. -/
noncomputable def Tryz.pinned : Pinned := { name := "ytojejamfaeednaagreatdoor", sum := "47e2f207b0869ba4978e3ae3f546aa7ecf7d8e131317e91744c0f5fc569906e4", checked := Tryz.checked }
namespace Rows
def none {H : Type} : Left H := { results := [], args := [] }

/- WHAT THE LISTED PACKAGE-LEVEL VARIABLES READ AS WHEN THE CALL BEGINS. Each datum BY PROGRAM (the guide's laid-datum.mjs) off the statement by which the dump's own 'gosem.cut.vars' lays the variable. In a bare row this is a premise. The card (YtojejamfaeednaaGreatDoorCards.lean) ties it to the program's text. -/
def laid_math_bits_deBruijn32tab {H : Type} : DataW H := .agg [.lit (.int .u8 0), .lit (.int .u8 1), .lit (.int .u8 28), .lit (.int .u8 2), .lit (.int .u8 29), .lit (.int .u8 14), .lit (.int .u8 24), .lit (.int .u8 3), .lit (.int .u8 30), .lit (.int .u8 22), .lit (.int .u8 20), .lit (.int .u8 15), .lit (.int .u8 25), .lit (.int .u8 17), .lit (.int .u8 4), .lit (.int .u8 8), .lit (.int .u8 31), .lit (.int .u8 27), .lit (.int .u8 13), .lit (.int .u8 23), .lit (.int .u8 21), .lit (.int .u8 19), .lit (.int .u8 16), .lit (.int .u8 7), .lit (.int .u8 26), .lit (.int .u8 12), .lit (.int .u8 18), .lit (.int .u8 6), .lit (.int .u8 11), .lit (.int .u8 5), .lit (.int .u8 10), .lit (.int .u8 9)]

/-- 'innkeeperlaw18.BlockCounts': WHATEVER THE INPUT: true; the input reads as it did. -/
def blockCountsSpec : ChangeSpec := { name := "blockCounts", fn := fun _ => fun
  | [d1, d2, d3] => { results := [.lit (.bool true)], args := [d1, d2, d3] }
  | _ => none }
def blockCountsRow : OpenClaim := { program := "ytojejamfaeednaagreatdoor", sum := "47e2f207b0869ba4978e3ae3f546aa7ecf7d8e131317e91744c0f5fc569906e4", func := "innkeeper/innkeeperlaw18.BlockCounts", spec := "blockCounts", named := ["math/bits.deBruijn32tab"], plainKeys := false, apart := false, laid := [("math/bits.deBruijn32tab", laid_math_bits_deBruijn32tab)] }
def BlockCountsSaid : Prop := blockCountsRow.holds Tryz.pinned (OpenSpec.ofChange blockCountsSpec)

/-- ITS FALSE NEIGHBOUR: 'it returns false'. Refute it at one input. -/
def blockCountsWrong : ChangeSpec := { name := "blockCounts", fn := fun _ => fun
  | [d1, d2, d3] => { results := [.lit (.bool false)], args := [d1, d2, d3] }
  | _ => none }
def BlockCountsWrongFalsely : Prop := blockCountsRow.holds Tryz.pinned (OpenSpec.ofChange blockCountsWrong)

/-- 'innkeeperlaw18.BlockEnds': WHATEVER THE INPUT: true; the input reads as it did. -/
def blockEndsSpec : ChangeSpec := { name := "blockEnds", fn := fun _ => fun
  | [d1, d2, d3, d4, d5, d6, d7, d8, d9] => { results := [.lit (.bool true)], args := [d1, d2, d3, d4, d5, d6, d7, d8, d9] }
  | _ => none }
def blockEndsRow : OpenClaim := { program := "ytojejamfaeednaagreatdoor", sum := "47e2f207b0869ba4978e3ae3f546aa7ecf7d8e131317e91744c0f5fc569906e4", func := "innkeeper/innkeeperlaw18.BlockEnds", spec := "blockEnds", named := ["math/bits.deBruijn32tab"], plainKeys := false, apart := false, laid := [("math/bits.deBruijn32tab", laid_math_bits_deBruijn32tab)] }
def BlockEndsSaid : Prop := blockEndsRow.holds Tryz.pinned (OpenSpec.ofChange blockEndsSpec)

/-- ITS FALSE NEIGHBOUR: 'it returns false'. Refute it at one input. -/
def blockEndsWrong : ChangeSpec := { name := "blockEnds", fn := fun _ => fun
  | [d1, d2, d3, d4, d5, d6, d7, d8, d9] => { results := [.lit (.bool false)], args := [d1, d2, d3, d4, d5, d6, d7, d8, d9] }
  | _ => none }
def BlockEndsWrongFalsely : Prop := blockEndsRow.holds Tryz.pinned (OpenSpec.ofChange blockEndsWrong)

/-- 'innkeeperlaw18.BlockSelf': WHATEVER THE INPUT: true; the input reads as it did. -/
def blockSelfSpec : ChangeSpec := { name := "blockSelf", fn := fun _ => fun
  | [d1, d2] => { results := [.lit (.bool true)], args := [d1, d2] }
  | _ => none }
def blockSelfRow : OpenClaim := { program := "ytojejamfaeednaagreatdoor", sum := "47e2f207b0869ba4978e3ae3f546aa7ecf7d8e131317e91744c0f5fc569906e4", func := "innkeeper/innkeeperlaw18.BlockSelf", spec := "blockSelf", named := ["math/bits.deBruijn32tab"], plainKeys := false, apart := false, laid := [("math/bits.deBruijn32tab", laid_math_bits_deBruijn32tab)] }
def BlockSelfSaid : Prop := blockSelfRow.holds Tryz.pinned (OpenSpec.ofChange blockSelfSpec)

/-- ITS FALSE NEIGHBOUR: 'it returns false'. Refute it at one input. -/
def blockSelfWrong : ChangeSpec := { name := "blockSelf", fn := fun _ => fun
  | [d1, d2] => { results := [.lit (.bool false)], args := [d1, d2] }
  | _ => none }
def BlockSelfWrongFalsely : Prop := blockSelfRow.holds Tryz.pinned (OpenSpec.ofChange blockSelfWrong)

/-- 'innkeeperlaw18.BlockTraps': WHATEVER THE INPUT: true; the input reads as it did. -/
def blockTrapsSpec : ChangeSpec := { name := "blockTraps", fn := fun _ => fun
  | [d1, d2, d3] => { results := [.lit (.bool true)], args := [d1, d2, d3] }
  | _ => none }
def blockTrapsRow : OpenClaim := { program := "ytojejamfaeednaagreatdoor", sum := "47e2f207b0869ba4978e3ae3f546aa7ecf7d8e131317e91744c0f5fc569906e4", func := "innkeeper/innkeeperlaw18.BlockTraps", spec := "blockTraps", named := ["math/bits.deBruijn32tab"], plainKeys := false, apart := false, laid := [("math/bits.deBruijn32tab", laid_math_bits_deBruijn32tab)] }
def BlockTrapsSaid : Prop := blockTrapsRow.holds Tryz.pinned (OpenSpec.ofChange blockTrapsSpec)

/-- ITS FALSE NEIGHBOUR: 'it returns false'. Refute it at one input. -/
def blockTrapsWrong : ChangeSpec := { name := "blockTraps", fn := fun _ => fun
  | [d1, d2, d3] => { results := [.lit (.bool false)], args := [d1, d2, d3] }
  | _ => none }
def BlockTrapsWrongFalsely : Prop := blockTrapsRow.holds Tryz.pinned (OpenSpec.ofChange blockTrapsWrong)

/-- 'innkeeperlaw18.BlockIrqs': WHATEVER THE INPUT: true; the input reads as it did. -/
def blockIrqsSpec : ChangeSpec := { name := "blockIrqs", fn := fun _ => fun
  | [d1, d2, d3, d4] => { results := [.lit (.bool true)], args := [d1, d2, d3, d4] }
  | _ => none }
def blockIrqsRow : OpenClaim := { program := "ytojejamfaeednaagreatdoor", sum := "47e2f207b0869ba4978e3ae3f546aa7ecf7d8e131317e91744c0f5fc569906e4", func := "innkeeper/innkeeperlaw18.BlockIrqs", spec := "blockIrqs", named := ["math/bits.deBruijn32tab"], plainKeys := false, apart := false, laid := [("math/bits.deBruijn32tab", laid_math_bits_deBruijn32tab)] }
def BlockIrqsSaid : Prop := blockIrqsRow.holds Tryz.pinned (OpenSpec.ofChange blockIrqsSpec)

/-- ITS FALSE NEIGHBOUR: 'it returns false'. Refute it at one input. -/
def blockIrqsWrong : ChangeSpec := { name := "blockIrqs", fn := fun _ => fun
  | [d1, d2, d3, d4] => { results := [.lit (.bool false)], args := [d1, d2, d3, d4] }
  | _ => none }
def BlockIrqsWrongFalsely : Prop := blockIrqsRow.holds Tryz.pinned (OpenSpec.ofChange blockIrqsWrong)

/-- 'innkeeperlaw18.BlockFetches': WHATEVER THE INPUT: true; the input reads as it did. -/
def blockFetchesSpec : ChangeSpec := { name := "blockFetches", fn := fun _ => fun
  | [d1, d2] => { results := [.lit (.bool true)], args := [d1, d2] }
  | _ => none }
def blockFetchesRow : OpenClaim := { program := "ytojejamfaeednaagreatdoor", sum := "47e2f207b0869ba4978e3ae3f546aa7ecf7d8e131317e91744c0f5fc569906e4", func := "innkeeper/innkeeperlaw18.BlockFetches", spec := "blockFetches", named := ["math/bits.deBruijn32tab"], plainKeys := false, apart := false, laid := [("math/bits.deBruijn32tab", laid_math_bits_deBruijn32tab)] }
def BlockFetchesSaid : Prop := blockFetchesRow.holds Tryz.pinned (OpenSpec.ofChange blockFetchesSpec)

/-- ITS FALSE NEIGHBOUR: 'it returns false'. Refute it at one input. -/
def blockFetchesWrong : ChangeSpec := { name := "blockFetches", fn := fun _ => fun
  | [d1, d2] => { results := [.lit (.bool false)], args := [d1, d2] }
  | _ => none }
def BlockFetchesWrongFalsely : Prop := blockFetchesRow.holds Tryz.pinned (OpenSpec.ofChange blockFetchesWrong)

/-- 'innkeeperlaw18.BlockPieces': WHATEVER THE INPUT: true; the input reads as it did. -/
def blockPiecesSpec : ChangeSpec := { name := "blockPieces", fn := fun _ => fun
  | [d1, d2, d3] => { results := [.lit (.bool true)], args := [d1, d2, d3] }
  | _ => none }
def blockPiecesRow : OpenClaim := { program := "ytojejamfaeednaagreatdoor", sum := "47e2f207b0869ba4978e3ae3f546aa7ecf7d8e131317e91744c0f5fc569906e4", func := "innkeeper/innkeeperlaw18.BlockPieces", spec := "blockPieces", named := ["math/bits.deBruijn32tab"], plainKeys := false, apart := false, laid := [("math/bits.deBruijn32tab", laid_math_bits_deBruijn32tab)] }
def BlockPiecesSaid : Prop := blockPiecesRow.holds Tryz.pinned (OpenSpec.ofChange blockPiecesSpec)

/-- ITS FALSE NEIGHBOUR: 'it returns false'. Refute it at one input. -/
def blockPiecesWrong : ChangeSpec := { name := "blockPieces", fn := fun _ => fun
  | [d1, d2, d3] => { results := [.lit (.bool false)], args := [d1, d2, d3] }
  | _ => none }
def BlockPiecesWrongFalsely : Prop := blockPiecesRow.holds Tryz.pinned (OpenSpec.ofChange blockPiecesWrong)

/-- 'innkeeperlaw18.BlockBytes': WHATEVER THE INPUT: true; the input reads as it did. -/
def blockBytesSpec : ChangeSpec := { name := "blockBytes", fn := fun _ => fun
  | [d1, d2] => { results := [.lit (.bool true)], args := [d1, d2] }
  | _ => none }
def blockBytesRow : OpenClaim := { program := "ytojejamfaeednaagreatdoor", sum := "47e2f207b0869ba4978e3ae3f546aa7ecf7d8e131317e91744c0f5fc569906e4", func := "innkeeper/innkeeperlaw18.BlockBytes", spec := "blockBytes", named := ["math/bits.deBruijn32tab"], plainKeys := false, apart := false, laid := [("math/bits.deBruijn32tab", laid_math_bits_deBruijn32tab)] }
def BlockBytesSaid : Prop := blockBytesRow.holds Tryz.pinned (OpenSpec.ofChange blockBytesSpec)

/-- ITS FALSE NEIGHBOUR: 'it returns false'. Refute it at one input. -/
def blockBytesWrong : ChangeSpec := { name := "blockBytes", fn := fun _ => fun
  | [d1, d2] => { results := [.lit (.bool false)], args := [d1, d2] }
  | _ => none }
def BlockBytesWrongFalsely : Prop := blockBytesRow.holds Tryz.pinned (OpenSpec.ofChange blockBytesWrong)

/-- 'innkeeperlaw18.BlockNumbers': WHATEVER THE INPUT: true; the input reads as it did. -/
def blockNumbersSpec : ChangeSpec := { name := "blockNumbers", fn := fun _ => fun
  | [] => { results := [.lit (.bool true)], args := [] }
  | _ => none }
def blockNumbersRow : OpenClaim := { program := "ytojejamfaeednaagreatdoor", sum := "47e2f207b0869ba4978e3ae3f546aa7ecf7d8e131317e91744c0f5fc569906e4", func := "innkeeper/innkeeperlaw18.BlockNumbers", spec := "blockNumbers", unfollowed := true, recurses := true, named := ["math/bits.deBruijn32tab"], plainKeys := false, apart := false, laid := [("math/bits.deBruijn32tab", laid_math_bits_deBruijn32tab)] }
def BlockNumbersSaid : Prop := blockNumbersRow.holds Tryz.pinned (OpenSpec.ofChange blockNumbersSpec)

/-- ITS FALSE NEIGHBOUR: 'it returns false'. Refute it at one input. -/
def blockNumbersWrong : ChangeSpec := { name := "blockNumbers", fn := fun _ => fun
  | [] => { results := [.lit (.bool false)], args := [] }
  | _ => none }
def BlockNumbersWrongFalsely : Prop := blockNumbersRow.holds Tryz.pinned (OpenSpec.ofChange blockNumbersWrong)

/-- 'innkeeperlaw18.BlockPlays': WHATEVER THE INPUT: true; the input reads as it did. -/
def blockPlaysSpec : ChangeSpec := { name := "blockPlays", fn := fun _ => fun
  | [d1, d2, d3, d4] => { results := [.lit (.bool true)], args := [d1, d2, d3, d4] }
  | _ => none }
def blockPlaysRow : OpenClaim := { program := "ytojejamfaeednaagreatdoor", sum := "47e2f207b0869ba4978e3ae3f546aa7ecf7d8e131317e91744c0f5fc569906e4", func := "innkeeper/innkeeperlaw18.BlockPlays", spec := "blockPlays", named := ["math/bits.deBruijn32tab"], plainKeys := false, apart := false, laid := [("math/bits.deBruijn32tab", laid_math_bits_deBruijn32tab)] }
def BlockPlaysSaid : Prop := blockPlaysRow.holds Tryz.pinned (OpenSpec.ofChange blockPlaysSpec)

/-- ITS FALSE NEIGHBOUR: 'it returns false'. Refute it at one input. -/
def blockPlaysWrong : ChangeSpec := { name := "blockPlays", fn := fun _ => fun
  | [d1, d2, d3, d4] => { results := [.lit (.bool false)], args := [d1, d2, d3, d4] }
  | _ => none }
def BlockPlaysWrongFalsely : Prop := blockPlaysRow.holds Tryz.pinned (OpenSpec.ofChange blockPlaysWrong)

/-- 'innkeeperlaw18.BlockBegins': WHATEVER THE INPUT: true; the input reads as it did. -/
def blockBeginsSpec : ChangeSpec := { name := "blockBegins", fn := fun _ => fun
  | [d1, d2, d3, d4, d5] => { results := [.lit (.bool true)], args := [d1, d2, d3, d4, d5] }
  | _ => none }
def blockBeginsRow : OpenClaim := { program := "ytojejamfaeednaagreatdoor", sum := "47e2f207b0869ba4978e3ae3f546aa7ecf7d8e131317e91744c0f5fc569906e4", func := "innkeeper/innkeeperlaw18.BlockBegins", spec := "blockBegins", named := ["math/bits.deBruijn32tab"], plainKeys := false, apart := false, laid := [("math/bits.deBruijn32tab", laid_math_bits_deBruijn32tab)] }
def BlockBeginsSaid : Prop := blockBeginsRow.holds Tryz.pinned (OpenSpec.ofChange blockBeginsSpec)

/-- ITS FALSE NEIGHBOUR: 'it returns false'. Refute it at one input. -/
def blockBeginsWrong : ChangeSpec := { name := "blockBegins", fn := fun _ => fun
  | [d1, d2, d3, d4, d5] => { results := [.lit (.bool false)], args := [d1, d2, d3, d4, d5] }
  | _ => none }
def BlockBeginsWrongFalsely : Prop := blockBeginsRow.holds Tryz.pinned (OpenSpec.ofChange blockBeginsWrong)

/-- 'innkeeperlaw24.EngineBlocks': WHATEVER THE INPUT: true; the input reads as it did. -/
def engineBlocksSpec : ChangeSpec := { name := "engineBlocks", fn := fun _ => fun
  | [d1, d2, d3, d4] => { results := [.lit (.bool true)], args := [d1, d2, d3, d4] }
  | _ => none }
def engineBlocksRow : OpenClaim := { program := "ytojejamfaeednaagreatdoor", sum := "47e2f207b0869ba4978e3ae3f546aa7ecf7d8e131317e91744c0f5fc569906e4", func := "innkeeper/innkeeperlaw24.EngineBlocks", spec := "engineBlocks", unfollowed := true, recurses := true, named := ["math/bits.deBruijn32tab"], plainKeys := false, apart := false, laid := [("math/bits.deBruijn32tab", laid_math_bits_deBruijn32tab)] }
def EngineBlocksSaid : Prop := engineBlocksRow.holds Tryz.pinned (OpenSpec.ofChange engineBlocksSpec)

/-- ITS FALSE NEIGHBOUR: 'it returns false'. Refute it at one input. -/
def engineBlocksWrong : ChangeSpec := { name := "engineBlocks", fn := fun _ => fun
  | [d1, d2, d3, d4] => { results := [.lit (.bool false)], args := [d1, d2, d3, d4] }
  | _ => none }
def EngineBlocksWrongFalsely : Prop := engineBlocksRow.holds Tryz.pinned (OpenSpec.ofChange engineBlocksWrong)

/- THE SECOND FORM. 'bulk': how many values and letters a reading holds, each counted each time it is reached (what is shared counts as often as it is met; a slice's spare places count too). A statement '..UptoSaid' is the law's where the arguments, and the package variables that the reading takes, are together of bulk at most 1048576: NARROWER than '..Said'. Prove '..Said' where nothing that the law and all that it calls make is longer than what came in: it says more and counts as full. Else prove '..UptoSaid'. A law counts once. -/
mutual
def uptoBulk {H : Type} : DataW H → Nat
  | .lit (.string bytes) => bytes.length + 1
  | .lit _ => 1
  | .nil => 1
  | .ptr d => uptoBulk d + 1
  | .slice elems spare => uptoBulkAll elems + uptoBulkAll spare + 1
  | .agg parts => uptoBulkAll parts + 1
  | .iface _ d => uptoBulk d + 1
  | .map entries => uptoBulkEntries entries + 1
  | .held _ => 1
def uptoBulkAll {H : Type} : List (DataW H) → Nat
  | [] => 0
  | d :: r => uptoBulk d + uptoBulkAll r
def uptoBulkEntries {H : Type} : List (Lit × DataW H) → Nat
  | [] => 0
  | x :: r => uptoBulkEntry x + uptoBulkEntries r
def uptoBulkEntry {H : Type} : Lit × DataW H → Nat
  | (.string bytes, d) => bytes.length + uptoBulk d + 1
  | (_, d) => uptoBulk d + 1
 end
def uptoSmall : (H : Type) → List (DataW H) → Bool := fun _ ds => decide (uptoBulkAll ds ≤ 1048576)
def OpenSpec.upto (s : _root_.Go.ChangeSpec) : _root_.Go.OpenSpec := { _root_.Go.OpenSpec.ofChange s with cond := some uptoSmall }

/-- 'innkeeperlaw18.BlockCounts', WHERE WHAT IT READS IS OF BULK AT MOST 1048576: true; the input reads as it did. -/
def blockCountsUptoRow : OpenClaim := { program := "ytojejamfaeednaagreatdoor", sum := "47e2f207b0869ba4978e3ae3f546aa7ecf7d8e131317e91744c0f5fc569906e4", func := "innkeeper/innkeeperlaw18.BlockCounts", spec := "blockCounts", named := ["math/bits.deBruijn32tab"], plainKeys := false, apart := false, laid := [("math/bits.deBruijn32tab", laid_math_bits_deBruijn32tab)], narrowed := true }
def BlockCountsUptoSaid : Prop := blockCountsUptoRow.holds Tryz.pinned (OpenSpec.upto blockCountsSpec)

/-- 'innkeeperlaw18.BlockEnds', WHERE WHAT IT READS IS OF BULK AT MOST 1048576: true; the input reads as it did. -/
def blockEndsUptoRow : OpenClaim := { program := "ytojejamfaeednaagreatdoor", sum := "47e2f207b0869ba4978e3ae3f546aa7ecf7d8e131317e91744c0f5fc569906e4", func := "innkeeper/innkeeperlaw18.BlockEnds", spec := "blockEnds", named := ["math/bits.deBruijn32tab"], plainKeys := false, apart := false, laid := [("math/bits.deBruijn32tab", laid_math_bits_deBruijn32tab)], narrowed := true }
def BlockEndsUptoSaid : Prop := blockEndsUptoRow.holds Tryz.pinned (OpenSpec.upto blockEndsSpec)

/-- 'innkeeperlaw18.BlockSelf', WHERE WHAT IT READS IS OF BULK AT MOST 1048576: true; the input reads as it did. -/
def blockSelfUptoRow : OpenClaim := { program := "ytojejamfaeednaagreatdoor", sum := "47e2f207b0869ba4978e3ae3f546aa7ecf7d8e131317e91744c0f5fc569906e4", func := "innkeeper/innkeeperlaw18.BlockSelf", spec := "blockSelf", named := ["math/bits.deBruijn32tab"], plainKeys := false, apart := false, laid := [("math/bits.deBruijn32tab", laid_math_bits_deBruijn32tab)], narrowed := true }
def BlockSelfUptoSaid : Prop := blockSelfUptoRow.holds Tryz.pinned (OpenSpec.upto blockSelfSpec)

/-- 'innkeeperlaw18.BlockTraps', WHERE WHAT IT READS IS OF BULK AT MOST 1048576: true; the input reads as it did. -/
def blockTrapsUptoRow : OpenClaim := { program := "ytojejamfaeednaagreatdoor", sum := "47e2f207b0869ba4978e3ae3f546aa7ecf7d8e131317e91744c0f5fc569906e4", func := "innkeeper/innkeeperlaw18.BlockTraps", spec := "blockTraps", named := ["math/bits.deBruijn32tab"], plainKeys := false, apart := false, laid := [("math/bits.deBruijn32tab", laid_math_bits_deBruijn32tab)], narrowed := true }
def BlockTrapsUptoSaid : Prop := blockTrapsUptoRow.holds Tryz.pinned (OpenSpec.upto blockTrapsSpec)

/-- 'innkeeperlaw18.BlockIrqs', WHERE WHAT IT READS IS OF BULK AT MOST 1048576: true; the input reads as it did. -/
def blockIrqsUptoRow : OpenClaim := { program := "ytojejamfaeednaagreatdoor", sum := "47e2f207b0869ba4978e3ae3f546aa7ecf7d8e131317e91744c0f5fc569906e4", func := "innkeeper/innkeeperlaw18.BlockIrqs", spec := "blockIrqs", named := ["math/bits.deBruijn32tab"], plainKeys := false, apart := false, laid := [("math/bits.deBruijn32tab", laid_math_bits_deBruijn32tab)], narrowed := true }
def BlockIrqsUptoSaid : Prop := blockIrqsUptoRow.holds Tryz.pinned (OpenSpec.upto blockIrqsSpec)

/-- 'innkeeperlaw18.BlockFetches', WHERE WHAT IT READS IS OF BULK AT MOST 1048576: true; the input reads as it did. -/
def blockFetchesUptoRow : OpenClaim := { program := "ytojejamfaeednaagreatdoor", sum := "47e2f207b0869ba4978e3ae3f546aa7ecf7d8e131317e91744c0f5fc569906e4", func := "innkeeper/innkeeperlaw18.BlockFetches", spec := "blockFetches", named := ["math/bits.deBruijn32tab"], plainKeys := false, apart := false, laid := [("math/bits.deBruijn32tab", laid_math_bits_deBruijn32tab)], narrowed := true }
def BlockFetchesUptoSaid : Prop := blockFetchesUptoRow.holds Tryz.pinned (OpenSpec.upto blockFetchesSpec)

/-- 'innkeeperlaw18.BlockPieces', WHERE WHAT IT READS IS OF BULK AT MOST 1048576: true; the input reads as it did. -/
def blockPiecesUptoRow : OpenClaim := { program := "ytojejamfaeednaagreatdoor", sum := "47e2f207b0869ba4978e3ae3f546aa7ecf7d8e131317e91744c0f5fc569906e4", func := "innkeeper/innkeeperlaw18.BlockPieces", spec := "blockPieces", named := ["math/bits.deBruijn32tab"], plainKeys := false, apart := false, laid := [("math/bits.deBruijn32tab", laid_math_bits_deBruijn32tab)], narrowed := true }
def BlockPiecesUptoSaid : Prop := blockPiecesUptoRow.holds Tryz.pinned (OpenSpec.upto blockPiecesSpec)

/-- 'innkeeperlaw18.BlockBytes', WHERE WHAT IT READS IS OF BULK AT MOST 1048576: true; the input reads as it did. -/
def blockBytesUptoRow : OpenClaim := { program := "ytojejamfaeednaagreatdoor", sum := "47e2f207b0869ba4978e3ae3f546aa7ecf7d8e131317e91744c0f5fc569906e4", func := "innkeeper/innkeeperlaw18.BlockBytes", spec := "blockBytes", named := ["math/bits.deBruijn32tab"], plainKeys := false, apart := false, laid := [("math/bits.deBruijn32tab", laid_math_bits_deBruijn32tab)], narrowed := true }
def BlockBytesUptoSaid : Prop := blockBytesUptoRow.holds Tryz.pinned (OpenSpec.upto blockBytesSpec)

/-- 'innkeeperlaw18.BlockNumbers', WHERE WHAT IT READS IS OF BULK AT MOST 1048576: true; the input reads as it did. -/
def blockNumbersUptoRow : OpenClaim := { program := "ytojejamfaeednaagreatdoor", sum := "47e2f207b0869ba4978e3ae3f546aa7ecf7d8e131317e91744c0f5fc569906e4", func := "innkeeper/innkeeperlaw18.BlockNumbers", spec := "blockNumbers", unfollowed := true, recurses := true, named := ["math/bits.deBruijn32tab"], plainKeys := false, apart := false, laid := [("math/bits.deBruijn32tab", laid_math_bits_deBruijn32tab)], narrowed := true }
def BlockNumbersUptoSaid : Prop := blockNumbersUptoRow.holds Tryz.pinned (OpenSpec.upto blockNumbersSpec)

/-- 'innkeeperlaw18.BlockPlays', WHERE WHAT IT READS IS OF BULK AT MOST 1048576: true; the input reads as it did. -/
def blockPlaysUptoRow : OpenClaim := { program := "ytojejamfaeednaagreatdoor", sum := "47e2f207b0869ba4978e3ae3f546aa7ecf7d8e131317e91744c0f5fc569906e4", func := "innkeeper/innkeeperlaw18.BlockPlays", spec := "blockPlays", named := ["math/bits.deBruijn32tab"], plainKeys := false, apart := false, laid := [("math/bits.deBruijn32tab", laid_math_bits_deBruijn32tab)], narrowed := true }
def BlockPlaysUptoSaid : Prop := blockPlaysUptoRow.holds Tryz.pinned (OpenSpec.upto blockPlaysSpec)

/-- 'innkeeperlaw18.BlockBegins', WHERE WHAT IT READS IS OF BULK AT MOST 1048576: true; the input reads as it did. -/
def blockBeginsUptoRow : OpenClaim := { program := "ytojejamfaeednaagreatdoor", sum := "47e2f207b0869ba4978e3ae3f546aa7ecf7d8e131317e91744c0f5fc569906e4", func := "innkeeper/innkeeperlaw18.BlockBegins", spec := "blockBegins", named := ["math/bits.deBruijn32tab"], plainKeys := false, apart := false, laid := [("math/bits.deBruijn32tab", laid_math_bits_deBruijn32tab)], narrowed := true }
def BlockBeginsUptoSaid : Prop := blockBeginsUptoRow.holds Tryz.pinned (OpenSpec.upto blockBeginsSpec)

/-- 'innkeeperlaw24.EngineBlocks', WHERE WHAT IT READS IS OF BULK AT MOST 1048576: true; the input reads as it did. -/
def engineBlocksUptoRow : OpenClaim := { program := "ytojejamfaeednaagreatdoor", sum := "47e2f207b0869ba4978e3ae3f546aa7ecf7d8e131317e91744c0f5fc569906e4", func := "innkeeper/innkeeperlaw24.EngineBlocks", spec := "engineBlocks", unfollowed := true, recurses := true, named := ["math/bits.deBruijn32tab"], plainKeys := false, apart := false, laid := [("math/bits.deBruijn32tab", laid_math_bits_deBruijn32tab)], narrowed := true }
def EngineBlocksUptoSaid : Prop := engineBlocksUptoRow.holds Tryz.pinned (OpenSpec.upto engineBlocksSpec)

end Rows
end Go.Proofs.YtojejamfaeednaaGreatDoor
