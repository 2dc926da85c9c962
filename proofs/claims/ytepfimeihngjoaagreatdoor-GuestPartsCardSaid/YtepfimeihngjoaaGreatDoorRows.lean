/-
  NARROWER THAN 'FOR EVERY INPUT', by the rows' own cells (each row's printed sentence says how): TopBytes: laid · EngineNumbers: laid · EngineDoes: laid · EngineBytes: laid · GuestParts: laid · GuestTwins: laid · GuestPlays: laid · MonitorPlays: laid · TopRefines: laid.
  DERIVED. THE GIVEN ROWS OF THIS SEAT. 9 by the template 'for every input the law returns true; each argument reads behind the call as it read before'; 0 by the template 'total and deterministic' (their statements: YtepfimeihngjoaaGreatDoorTotals.lean).
  GIVEN WITH THE SEED: the statements are not yours to turn. If you find one false, say at which input.
  Laid BY PROGRAM, IN A SANDBOX (cutbox-rows.mjs): the forced cells as the released guide's own fill.sh prints them over the translation c4a40c083647f802… (all of the seat's roots in one cut). By AI agents, Wed Nov 11 2026. No macro, syntax, notation, axiom, sorry.
-/
import Derived.Test.YtepfimeihngjoaaGreatDoorChecked
import GoSem.Claim
import GoSem.ClaimJoined
import GoSem.ClaimMapViews
import Derived.JoinedTies
import Derived.KernelRfl
namespace Go.Proofs.YtepfimeihngjoaaGreatDoor
/- THE CELL 'sum', in the pinned program and in every row, IS THE sha256 OF THE DUMP (.gsa) THAT YtepfimeihngjoaaGreatDoorProg.lean LOADS. Nothing in Lean hashes anything: it is a label: what it is worth is what the hold of that sum in a sandbox is worth. -/
noncomputable def Tryz.pinned : Pinned := { name := "ytepfimeihngjoaagreatdoor", sum := "c4a40c083647f802c20876347d489e64110a3d6719e6cc325b5cfb2af94cecef", checked := Tryz.checked }
namespace Rows
def none {H : Type} : Left H := { results := [], args := [] }

/- WHAT THE LISTED PACKAGE-LEVEL VARIABLES READ AS WHEN THE CALL BEGINS. Each datum BY PROGRAM (the guide's laid-datum.mjs) off the statement by which the dump's own 'gosem.cut.vars' lays the variable. In a bare row this is a premise. The card (YtepfimeihngjoaaGreatDoorCards.lean) ties it to the program's text. -/
def laid_math_bits_deBruijn32tab {H : Type} : DataW H := .agg [.lit (.int .u8 0), .lit (.int .u8 1), .lit (.int .u8 28), .lit (.int .u8 2), .lit (.int .u8 29), .lit (.int .u8 14), .lit (.int .u8 24), .lit (.int .u8 3), .lit (.int .u8 30), .lit (.int .u8 22), .lit (.int .u8 20), .lit (.int .u8 15), .lit (.int .u8 25), .lit (.int .u8 17), .lit (.int .u8 4), .lit (.int .u8 8), .lit (.int .u8 31), .lit (.int .u8 27), .lit (.int .u8 13), .lit (.int .u8 23), .lit (.int .u8 21), .lit (.int .u8 19), .lit (.int .u8 16), .lit (.int .u8 7), .lit (.int .u8 26), .lit (.int .u8 12), .lit (.int .u8 18), .lit (.int .u8 6), .lit (.int .u8 11), .lit (.int .u8 5), .lit (.int .u8 10), .lit (.int .u8 9)]

/-- 'innkeepertop.TopBytes': WHATEVER THE INPUT: true; the input reads as it did. -/
def topBytesSpec : ChangeSpec := { name := "topBytes", fn := fun _ => fun
  | [d1, d2, d3] => { results := [.lit (.bool true)], args := [d1, d2, d3] }
  | _ => none }
def topBytesRow : OpenClaim := { program := "ytepfimeihngjoaagreatdoor", sum := "c4a40c083647f802c20876347d489e64110a3d6719e6cc325b5cfb2af94cecef", func := "innkeeper/innkeepertop.TopBytes", spec := "topBytes", unfollowed := true, recurses := true, named := ["math/bits.deBruijn32tab"], plainKeys := false, apart := false, laid := [("math/bits.deBruijn32tab", laid_math_bits_deBruijn32tab)] }
def TopBytesSaid : Prop := topBytesRow.holds Tryz.pinned (OpenSpec.ofChange topBytesSpec)

/-- ITS FALSE NEIGHBOUR: 'it returns false'. Refute it at one input. -/
def topBytesWrong : ChangeSpec := { name := "topBytes", fn := fun _ => fun
  | [d1, d2, d3] => { results := [.lit (.bool false)], args := [d1, d2, d3] }
  | _ => none }
def TopBytesWrongFalsely : Prop := topBytesRow.holds Tryz.pinned (OpenSpec.ofChange topBytesWrong)

/-- 'innkeeperlaw24.EngineNumbers': WHATEVER THE INPUT: true; the input reads as it did. -/
def engineNumbersSpec : ChangeSpec := { name := "engineNumbers", fn := fun _ => fun
  | [] => { results := [.lit (.bool true)], args := [] }
  | _ => none }
def engineNumbersRow : OpenClaim := { program := "ytepfimeihngjoaagreatdoor", sum := "c4a40c083647f802c20876347d489e64110a3d6719e6cc325b5cfb2af94cecef", func := "innkeeper/innkeeperlaw24.EngineNumbers", spec := "engineNumbers", unfollowed := true, recurses := true, named := ["math/bits.deBruijn32tab"], plainKeys := false, apart := false, laid := [("math/bits.deBruijn32tab", laid_math_bits_deBruijn32tab)] }
def EngineNumbersSaid : Prop := engineNumbersRow.holds Tryz.pinned (OpenSpec.ofChange engineNumbersSpec)

/-- ITS FALSE NEIGHBOUR: 'it returns false'. Refute it at one input. -/
def engineNumbersWrong : ChangeSpec := { name := "engineNumbers", fn := fun _ => fun
  | [] => { results := [.lit (.bool false)], args := [] }
  | _ => none }
def EngineNumbersWrongFalsely : Prop := engineNumbersRow.holds Tryz.pinned (OpenSpec.ofChange engineNumbersWrong)

/-- 'innkeeperlaw24.EngineDoes': WHATEVER THE INPUT: true; the input reads as it did. -/
def engineDoesSpec : ChangeSpec := { name := "engineDoes", fn := fun _ => fun
  | [d1, d2, d3, d4, d5, d6] => { results := [.lit (.bool true)], args := [d1, d2, d3, d4, d5, d6] }
  | _ => none }
def engineDoesRow : OpenClaim := { program := "ytepfimeihngjoaagreatdoor", sum := "c4a40c083647f802c20876347d489e64110a3d6719e6cc325b5cfb2af94cecef", func := "innkeeper/innkeeperlaw24.EngineDoes", spec := "engineDoes", unfollowed := true, recurses := true, named := ["math/bits.deBruijn32tab"], plainKeys := false, apart := false, laid := [("math/bits.deBruijn32tab", laid_math_bits_deBruijn32tab)] }
def EngineDoesSaid : Prop := engineDoesRow.holds Tryz.pinned (OpenSpec.ofChange engineDoesSpec)

/-- ITS FALSE NEIGHBOUR: 'it returns false'. Refute it at one input. -/
def engineDoesWrong : ChangeSpec := { name := "engineDoes", fn := fun _ => fun
  | [d1, d2, d3, d4, d5, d6] => { results := [.lit (.bool false)], args := [d1, d2, d3, d4, d5, d6] }
  | _ => none }
def EngineDoesWrongFalsely : Prop := engineDoesRow.holds Tryz.pinned (OpenSpec.ofChange engineDoesWrong)

/-- 'innkeeperlaw24.EngineBytes': WHATEVER THE INPUT: true; the input reads as it did. -/
def engineBytesSpec : ChangeSpec := { name := "engineBytes", fn := fun _ => fun
  | [d1, d2, d3] => { results := [.lit (.bool true)], args := [d1, d2, d3] }
  | _ => none }
def engineBytesRow : OpenClaim := { program := "ytepfimeihngjoaagreatdoor", sum := "c4a40c083647f802c20876347d489e64110a3d6719e6cc325b5cfb2af94cecef", func := "innkeeper/innkeeperlaw24.EngineBytes", spec := "engineBytes", unfollowed := true, recurses := true, named := ["math/bits.deBruijn32tab"], plainKeys := false, apart := false, laid := [("math/bits.deBruijn32tab", laid_math_bits_deBruijn32tab)] }
def EngineBytesSaid : Prop := engineBytesRow.holds Tryz.pinned (OpenSpec.ofChange engineBytesSpec)

/-- ITS FALSE NEIGHBOUR: 'it returns false'. Refute it at one input. -/
def engineBytesWrong : ChangeSpec := { name := "engineBytes", fn := fun _ => fun
  | [d1, d2, d3] => { results := [.lit (.bool false)], args := [d1, d2, d3] }
  | _ => none }
def EngineBytesWrongFalsely : Prop := engineBytesRow.holds Tryz.pinned (OpenSpec.ofChange engineBytesWrong)

/-- 'innkeeperlaw25.GuestParts': WHATEVER THE INPUT: true; the input reads as it did. -/
def guestPartsSpec : ChangeSpec := { name := "guestParts", fn := fun _ => fun
  | [d1, d2, d3, d4, d5] => { results := [.lit (.bool true)], args := [d1, d2, d3, d4, d5] }
  | _ => none }
def guestPartsRow : OpenClaim := { program := "ytepfimeihngjoaagreatdoor", sum := "c4a40c083647f802c20876347d489e64110a3d6719e6cc325b5cfb2af94cecef", func := "innkeeper/innkeeperlaw25.GuestParts", spec := "guestParts", unfollowed := true, recurses := true, named := ["math/bits.deBruijn32tab"], plainKeys := false, apart := false, laid := [("math/bits.deBruijn32tab", laid_math_bits_deBruijn32tab)] }
def GuestPartsSaid : Prop := guestPartsRow.holds Tryz.pinned (OpenSpec.ofChange guestPartsSpec)

/-- ITS FALSE NEIGHBOUR: 'it returns false'. Refute it at one input. -/
def guestPartsWrong : ChangeSpec := { name := "guestParts", fn := fun _ => fun
  | [d1, d2, d3, d4, d5] => { results := [.lit (.bool false)], args := [d1, d2, d3, d4, d5] }
  | _ => none }
def GuestPartsWrongFalsely : Prop := guestPartsRow.holds Tryz.pinned (OpenSpec.ofChange guestPartsWrong)

/-- 'innkeeperlaw25.GuestTwins': WHATEVER THE INPUT: true; the input reads as it did. -/
def guestTwinsSpec : ChangeSpec := { name := "guestTwins", fn := fun _ => fun
  | [d1, d2, d3, d4] => { results := [.lit (.bool true)], args := [d1, d2, d3, d4] }
  | _ => none }
def guestTwinsRow : OpenClaim := { program := "ytepfimeihngjoaagreatdoor", sum := "c4a40c083647f802c20876347d489e64110a3d6719e6cc325b5cfb2af94cecef", func := "innkeeper/innkeeperlaw25.GuestTwins", spec := "guestTwins", unfollowed := true, recurses := true, named := ["math/bits.deBruijn32tab"], plainKeys := false, apart := false, laid := [("math/bits.deBruijn32tab", laid_math_bits_deBruijn32tab)] }
def GuestTwinsSaid : Prop := guestTwinsRow.holds Tryz.pinned (OpenSpec.ofChange guestTwinsSpec)

/-- ITS FALSE NEIGHBOUR: 'it returns false'. Refute it at one input. -/
def guestTwinsWrong : ChangeSpec := { name := "guestTwins", fn := fun _ => fun
  | [d1, d2, d3, d4] => { results := [.lit (.bool false)], args := [d1, d2, d3, d4] }
  | _ => none }
def GuestTwinsWrongFalsely : Prop := guestTwinsRow.holds Tryz.pinned (OpenSpec.ofChange guestTwinsWrong)

/-- 'innkeeperlaw25.GuestPlays': WHATEVER THE INPUT: true; the input reads as it did. -/
def guestPlaysSpec : ChangeSpec := { name := "guestPlays", fn := fun _ => fun
  | [d1, d2, d3, d4, d5] => { results := [.lit (.bool true)], args := [d1, d2, d3, d4, d5] }
  | _ => none }
def guestPlaysRow : OpenClaim := { program := "ytepfimeihngjoaagreatdoor", sum := "c4a40c083647f802c20876347d489e64110a3d6719e6cc325b5cfb2af94cecef", func := "innkeeper/innkeeperlaw25.GuestPlays", spec := "guestPlays", unfollowed := true, recurses := true, named := ["math/bits.deBruijn32tab"], plainKeys := false, apart := false, laid := [("math/bits.deBruijn32tab", laid_math_bits_deBruijn32tab)] }
def GuestPlaysSaid : Prop := guestPlaysRow.holds Tryz.pinned (OpenSpec.ofChange guestPlaysSpec)

/-- ITS FALSE NEIGHBOUR: 'it returns false'. Refute it at one input. -/
def guestPlaysWrong : ChangeSpec := { name := "guestPlays", fn := fun _ => fun
  | [d1, d2, d3, d4, d5] => { results := [.lit (.bool false)], args := [d1, d2, d3, d4, d5] }
  | _ => none }
def GuestPlaysWrongFalsely : Prop := guestPlaysRow.holds Tryz.pinned (OpenSpec.ofChange guestPlaysWrong)

/-- 'innkeeperlaw26.MonitorPlays': WHATEVER THE INPUT: true; the input reads as it did. -/
def monitorPlaysSpec : ChangeSpec := { name := "monitorPlays", fn := fun _ => fun
  | [d1, d2, d3] => { results := [.lit (.bool true)], args := [d1, d2, d3] }
  | _ => none }
def monitorPlaysRow : OpenClaim := { program := "ytepfimeihngjoaagreatdoor", sum := "c4a40c083647f802c20876347d489e64110a3d6719e6cc325b5cfb2af94cecef", func := "innkeeper/innkeeperlaw26.MonitorPlays", spec := "monitorPlays", unfollowed := true, recurses := true, named := ["math/bits.deBruijn32tab"], plainKeys := false, apart := false, laid := [("math/bits.deBruijn32tab", laid_math_bits_deBruijn32tab)] }
def MonitorPlaysSaid : Prop := monitorPlaysRow.holds Tryz.pinned (OpenSpec.ofChange monitorPlaysSpec)

/-- ITS FALSE NEIGHBOUR: 'it returns false'. Refute it at one input. -/
def monitorPlaysWrong : ChangeSpec := { name := "monitorPlays", fn := fun _ => fun
  | [d1, d2, d3] => { results := [.lit (.bool false)], args := [d1, d2, d3] }
  | _ => none }
def MonitorPlaysWrongFalsely : Prop := monitorPlaysRow.holds Tryz.pinned (OpenSpec.ofChange monitorPlaysWrong)

/-- 'innkeepertop.TopRefines': WHATEVER THE INPUT: true; the input reads as it did. -/
def topRefinesSpec : ChangeSpec := { name := "topRefines", fn := fun _ => fun
  | [d1, d2, d3, d4] => { results := [.lit (.bool true)], args := [d1, d2, d3, d4] }
  | _ => none }
def topRefinesRow : OpenClaim := { program := "ytepfimeihngjoaagreatdoor", sum := "c4a40c083647f802c20876347d489e64110a3d6719e6cc325b5cfb2af94cecef", func := "innkeeper/innkeepertop.TopRefines", spec := "topRefines", unfollowed := true, recurses := true, named := ["math/bits.deBruijn32tab"], plainKeys := false, apart := false, laid := [("math/bits.deBruijn32tab", laid_math_bits_deBruijn32tab)] }
def TopRefinesSaid : Prop := topRefinesRow.holds Tryz.pinned (OpenSpec.ofChange topRefinesSpec)

/-- ITS FALSE NEIGHBOUR: 'it returns false'. Refute it at one input. -/
def topRefinesWrong : ChangeSpec := { name := "topRefines", fn := fun _ => fun
  | [d1, d2, d3, d4] => { results := [.lit (.bool false)], args := [d1, d2, d3, d4] }
  | _ => none }
def TopRefinesWrongFalsely : Prop := topRefinesRow.holds Tryz.pinned (OpenSpec.ofChange topRefinesWrong)

/- THE SECOND FORM. 'bulk': how many values and letters a reading holds, each counted each time it is reached (what is shared counts as often as it is met; a slice's spare places count too). A statement '..UptoSaid' is the law's where the arguments, and the package variables that the reading takes, are together of bulk at most 1048576: NARROWER than '..Said'. Prove '..Said' where nothing that the law and all that it calls make is longer than what came in: it says more and counts as full. Else prove '..UptoSaid'. A law counts once. -/
mutual
def uptoBulk {H : Type} : DataW H → Nat
  | .lit (.string bytes) => bytes.length + 1
  | .lit _ => 1
  | .nil => 1
  | .ptr d => uptoBulk d + 1
  | .slice elems spare => uptoBulkAll elems + uptoBulkAll spare + 1
  | .agg parts => uptoBulkAll parts + 1
  | .iface _ d => uptoBulk d + 1
  | .map entries => uptoBulkEntries entries + 1
  | .held _ => 1
def uptoBulkAll {H : Type} : List (DataW H) → Nat
  | [] => 0
  | d :: r => uptoBulk d + uptoBulkAll r
def uptoBulkEntries {H : Type} : List (Lit × DataW H) → Nat
  | [] => 0
  | x :: r => uptoBulkEntry x + uptoBulkEntries r
def uptoBulkEntry {H : Type} : Lit × DataW H → Nat
  | (.string bytes, d) => bytes.length + uptoBulk d + 1
  | (_, d) => uptoBulk d + 1
 end
def uptoSmall : (H : Type) → List (DataW H) → Bool := fun _ ds => decide (uptoBulkAll ds ≤ 1048576)
def OpenSpec.upto (s : _root_.Go.ChangeSpec) : _root_.Go.OpenSpec := { _root_.Go.OpenSpec.ofChange s with cond := some uptoSmall }

/-- 'innkeepertop.TopBytes', WHERE WHAT IT READS IS OF BULK AT MOST 1048576: true; the input reads as it did. -/
def topBytesUptoRow : OpenClaim := { program := "ytepfimeihngjoaagreatdoor", sum := "c4a40c083647f802c20876347d489e64110a3d6719e6cc325b5cfb2af94cecef", func := "innkeeper/innkeepertop.TopBytes", spec := "topBytes", unfollowed := true, recurses := true, named := ["math/bits.deBruijn32tab"], plainKeys := false, apart := false, laid := [("math/bits.deBruijn32tab", laid_math_bits_deBruijn32tab)], narrowed := true }
def TopBytesUptoSaid : Prop := topBytesUptoRow.holds Tryz.pinned (OpenSpec.upto topBytesSpec)

/-- 'innkeeperlaw24.EngineNumbers', WHERE WHAT IT READS IS OF BULK AT MOST 1048576: true; the input reads as it did. -/
def engineNumbersUptoRow : OpenClaim := { program := "ytepfimeihngjoaagreatdoor", sum := "c4a40c083647f802c20876347d489e64110a3d6719e6cc325b5cfb2af94cecef", func := "innkeeper/innkeeperlaw24.EngineNumbers", spec := "engineNumbers", unfollowed := true, recurses := true, named := ["math/bits.deBruijn32tab"], plainKeys := false, apart := false, laid := [("math/bits.deBruijn32tab", laid_math_bits_deBruijn32tab)], narrowed := true }
def EngineNumbersUptoSaid : Prop := engineNumbersUptoRow.holds Tryz.pinned (OpenSpec.upto engineNumbersSpec)

/-- 'innkeeperlaw24.EngineDoes', WHERE WHAT IT READS IS OF BULK AT MOST 1048576: true; the input reads as it did. -/
def engineDoesUptoRow : OpenClaim := { program := "ytepfimeihngjoaagreatdoor", sum := "c4a40c083647f802c20876347d489e64110a3d6719e6cc325b5cfb2af94cecef", func := "innkeeper/innkeeperlaw24.EngineDoes", spec := "engineDoes", unfollowed := true, recurses := true, named := ["math/bits.deBruijn32tab"], plainKeys := false, apart := false, laid := [("math/bits.deBruijn32tab", laid_math_bits_deBruijn32tab)], narrowed := true }
def EngineDoesUptoSaid : Prop := engineDoesUptoRow.holds Tryz.pinned (OpenSpec.upto engineDoesSpec)

/-- 'innkeeperlaw24.EngineBytes', WHERE WHAT IT READS IS OF BULK AT MOST 1048576: true; the input reads as it did. -/
def engineBytesUptoRow : OpenClaim := { program := "ytepfimeihngjoaagreatdoor", sum := "c4a40c083647f802c20876347d489e64110a3d6719e6cc325b5cfb2af94cecef", func := "innkeeper/innkeeperlaw24.EngineBytes", spec := "engineBytes", unfollowed := true, recurses := true, named := ["math/bits.deBruijn32tab"], plainKeys := false, apart := false, laid := [("math/bits.deBruijn32tab", laid_math_bits_deBruijn32tab)], narrowed := true }
def EngineBytesUptoSaid : Prop := engineBytesUptoRow.holds Tryz.pinned (OpenSpec.upto engineBytesSpec)

/-- 'innkeeperlaw25.GuestParts', WHERE WHAT IT READS IS OF BULK AT MOST 1048576: true; the input reads as it did. -/
def guestPartsUptoRow : OpenClaim := { program := "ytepfimeihngjoaagreatdoor", sum := "c4a40c083647f802c20876347d489e64110a3d6719e6cc325b5cfb2af94cecef", func := "innkeeper/innkeeperlaw25.GuestParts", spec := "guestParts", unfollowed := true, recurses := true, named := ["math/bits.deBruijn32tab"], plainKeys := false, apart := false, laid := [("math/bits.deBruijn32tab", laid_math_bits_deBruijn32tab)], narrowed := true }
def GuestPartsUptoSaid : Prop := guestPartsUptoRow.holds Tryz.pinned (OpenSpec.upto guestPartsSpec)

/-- 'innkeeperlaw25.GuestTwins', WHERE WHAT IT READS IS OF BULK AT MOST 1048576: true; the input reads as it did. -/
def guestTwinsUptoRow : OpenClaim := { program := "ytepfimeihngjoaagreatdoor", sum := "c4a40c083647f802c20876347d489e64110a3d6719e6cc325b5cfb2af94cecef", func := "innkeeper/innkeeperlaw25.GuestTwins", spec := "guestTwins", unfollowed := true, recurses := true, named := ["math/bits.deBruijn32tab"], plainKeys := false, apart := false, laid := [("math/bits.deBruijn32tab", laid_math_bits_deBruijn32tab)], narrowed := true }
def GuestTwinsUptoSaid : Prop := guestTwinsUptoRow.holds Tryz.pinned (OpenSpec.upto guestTwinsSpec)

/-- 'innkeeperlaw25.GuestPlays', WHERE WHAT IT READS IS OF BULK AT MOST 1048576: true; the input reads as it did. -/
def guestPlaysUptoRow : OpenClaim := { program := "ytepfimeihngjoaagreatdoor", sum := "c4a40c083647f802c20876347d489e64110a3d6719e6cc325b5cfb2af94cecef", func := "innkeeper/innkeeperlaw25.GuestPlays", spec := "guestPlays", unfollowed := true, recurses := true, named := ["math/bits.deBruijn32tab"], plainKeys := false, apart := false, laid := [("math/bits.deBruijn32tab", laid_math_bits_deBruijn32tab)], narrowed := true }
def GuestPlaysUptoSaid : Prop := guestPlaysUptoRow.holds Tryz.pinned (OpenSpec.upto guestPlaysSpec)

/-- 'innkeeperlaw26.MonitorPlays', WHERE WHAT IT READS IS OF BULK AT MOST 1048576: true; the input reads as it did. -/
def monitorPlaysUptoRow : OpenClaim := { program := "ytepfimeihngjoaagreatdoor", sum := "c4a40c083647f802c20876347d489e64110a3d6719e6cc325b5cfb2af94cecef", func := "innkeeper/innkeeperlaw26.MonitorPlays", spec := "monitorPlays", unfollowed := true, recurses := true, named := ["math/bits.deBruijn32tab"], plainKeys := false, apart := false, laid := [("math/bits.deBruijn32tab", laid_math_bits_deBruijn32tab)], narrowed := true }
def MonitorPlaysUptoSaid : Prop := monitorPlaysUptoRow.holds Tryz.pinned (OpenSpec.upto monitorPlaysSpec)

/-- 'innkeepertop.TopRefines', WHERE WHAT IT READS IS OF BULK AT MOST 1048576: true; the input reads as it did. -/
def topRefinesUptoRow : OpenClaim := { program := "ytepfimeihngjoaagreatdoor", sum := "c4a40c083647f802c20876347d489e64110a3d6719e6cc325b5cfb2af94cecef", func := "innkeeper/innkeepertop.TopRefines", spec := "topRefines", unfollowed := true, recurses := true, named := ["math/bits.deBruijn32tab"], plainKeys := false, apart := false, laid := [("math/bits.deBruijn32tab", laid_math_bits_deBruijn32tab)], narrowed := true }
def TopRefinesUptoSaid : Prop := topRefinesUptoRow.holds Tryz.pinned (OpenSpec.upto topRefinesSpec)

end Rows
end Go.Proofs.YtepfimeihngjoaaGreatDoor
