/-
  NARROWER THAN 'FOR EVERY INPUT', by the rows' own cells (each row's printed sentence says how): MonitorAlone: laid · MonitorOrders: laid · MonitorLooks: laid · MonitorBoots: laid · MonitorNumbers: laid · MonitorKills: laid · MonitorFrames: laid · TopApart: laid · TopFlushes: laid · TopOutputs: laid.
  DERIVED. THE GIVEN ROWS OF THIS SEAT. 10 by the template 'for every input the law returns true; each argument reads behind the call as it read before'; 0 by the template 'total and deterministic' (their statements: YtbkgmdgackknfaaGreatDoorTotals.lean).
  GIVEN WITH THE SEED: the statements are not yours to turn. If you find one false, say at which input.
  Laid BY PROGRAM, IN A SANDBOX (cutbox-rows.mjs): the forced cells as the released guide's own fill.sh prints them over the translation d6d8c7e8865e8905… (all of the seat's roots in one cut). By AI agents, Wed Nov 11 2026. No macro, syntax, notation, axiom, sorry.
-/
import Derived.Test.YtbkgmdgackknfaaGreatDoorChecked
import GoSem.Claim
import GoSem.ClaimJoined
import GoSem.ClaimMapViews
import Derived.JoinedTies
import Derived.KernelRfl
namespace Go.Proofs.YtbkgmdgackknfaaGreatDoor
/- THE CELL 'sum', in the pinned program and in every row, IS THE sha256 OF THE DUMP (.gsa) THAT YtbkgmdgackknfaaGreatDoorProg.lean LOADS. Nothing in Lean hashes anything: it is a label: what it is worth is what the hold of that sum in a sandbox is worth. -/
noncomputable def Tryz.pinned : Pinned := { name := "ytbkgmdgackknfaagreatdoor", sum := "d6d8c7e8865e89051b7a1f0ce5ff26813c2b6e3947919460e432362893f7b404", checked := Tryz.checked }
namespace Rows
def none {H : Type} : Left H := { results := [], args := [] }

/- WHAT THE LISTED PACKAGE-LEVEL VARIABLES READ AS WHEN THE CALL BEGINS. Each datum BY PROGRAM (the guide's laid-datum.mjs) off the statement by which the dump's own 'gosem.cut.vars' lays the variable. In a bare row this is a premise. The card (YtbkgmdgackknfaaGreatDoorCards.lean) ties it to the program's text. -/
def laid_math_bits_deBruijn32tab {H : Type} : DataW H := .agg [.lit (.int .u8 0), .lit (.int .u8 1), .lit (.int .u8 28), .lit (.int .u8 2), .lit (.int .u8 29), .lit (.int .u8 14), .lit (.int .u8 24), .lit (.int .u8 3), .lit (.int .u8 30), .lit (.int .u8 22), .lit (.int .u8 20), .lit (.int .u8 15), .lit (.int .u8 25), .lit (.int .u8 17), .lit (.int .u8 4), .lit (.int .u8 8), .lit (.int .u8 31), .lit (.int .u8 27), .lit (.int .u8 13), .lit (.int .u8 23), .lit (.int .u8 21), .lit (.int .u8 19), .lit (.int .u8 16), .lit (.int .u8 7), .lit (.int .u8 26), .lit (.int .u8 12), .lit (.int .u8 18), .lit (.int .u8 6), .lit (.int .u8 11), .lit (.int .u8 5), .lit (.int .u8 10), .lit (.int .u8 9)]

/-- 'innkeeperlaw26.MonitorAlone': WHATEVER THE INPUT: true; the input reads as it did. -/
def monitorAloneSpec : ChangeSpec := { name := "monitorAlone", fn := fun _ => fun
  | [d1, d2, d3, d4] => { results := [.lit (.bool true)], args := [d1, d2, d3, d4] }
  | _ => none }
def monitorAloneRow : OpenClaim := { program := "ytbkgmdgackknfaagreatdoor", sum := "d6d8c7e8865e89051b7a1f0ce5ff26813c2b6e3947919460e432362893f7b404", func := "innkeeper/innkeeperlaw26.MonitorAlone", spec := "monitorAlone", unfollowed := true, recurses := true, named := ["math/bits.deBruijn32tab"], plainKeys := false, apart := false, laid := [("math/bits.deBruijn32tab", laid_math_bits_deBruijn32tab)] }
def MonitorAloneSaid : Prop := monitorAloneRow.holds Tryz.pinned (OpenSpec.ofChange monitorAloneSpec)

/-- ITS FALSE NEIGHBOUR: 'it returns false'. Refute it at one input. -/
def monitorAloneWrong : ChangeSpec := { name := "monitorAlone", fn := fun _ => fun
  | [d1, d2, d3, d4] => { results := [.lit (.bool false)], args := [d1, d2, d3, d4] }
  | _ => none }
def MonitorAloneWrongFalsely : Prop := monitorAloneRow.holds Tryz.pinned (OpenSpec.ofChange monitorAloneWrong)

/-- 'innkeeperlaw26.MonitorOrders': WHATEVER THE INPUT: true; the input reads as it did. -/
def monitorOrdersSpec : ChangeSpec := { name := "monitorOrders", fn := fun _ => fun
  | [d1, d2, d3, d4] => { results := [.lit (.bool true)], args := [d1, d2, d3, d4] }
  | _ => none }
def monitorOrdersRow : OpenClaim := { program := "ytbkgmdgackknfaagreatdoor", sum := "d6d8c7e8865e89051b7a1f0ce5ff26813c2b6e3947919460e432362893f7b404", func := "innkeeper/innkeeperlaw26.MonitorOrders", spec := "monitorOrders", unfollowed := true, recurses := true, named := ["math/bits.deBruijn32tab"], plainKeys := false, apart := false, laid := [("math/bits.deBruijn32tab", laid_math_bits_deBruijn32tab)] }
def MonitorOrdersSaid : Prop := monitorOrdersRow.holds Tryz.pinned (OpenSpec.ofChange monitorOrdersSpec)

/-- ITS FALSE NEIGHBOUR: 'it returns false'. Refute it at one input. -/
def monitorOrdersWrong : ChangeSpec := { name := "monitorOrders", fn := fun _ => fun
  | [d1, d2, d3, d4] => { results := [.lit (.bool false)], args := [d1, d2, d3, d4] }
  | _ => none }
def MonitorOrdersWrongFalsely : Prop := monitorOrdersRow.holds Tryz.pinned (OpenSpec.ofChange monitorOrdersWrong)

/-- 'innkeeperlaw26.MonitorLooks': WHATEVER THE INPUT: true; the input reads as it did. -/
def monitorLooksSpec : ChangeSpec := { name := "monitorLooks", fn := fun _ => fun
  | [d1, d2] => { results := [.lit (.bool true)], args := [d1, d2] }
  | _ => none }
def monitorLooksRow : OpenClaim := { program := "ytbkgmdgackknfaagreatdoor", sum := "d6d8c7e8865e89051b7a1f0ce5ff26813c2b6e3947919460e432362893f7b404", func := "innkeeper/innkeeperlaw26.MonitorLooks", spec := "monitorLooks", unfollowed := true, recurses := true, named := ["math/bits.deBruijn32tab"], plainKeys := false, apart := false, laid := [("math/bits.deBruijn32tab", laid_math_bits_deBruijn32tab)] }
def MonitorLooksSaid : Prop := monitorLooksRow.holds Tryz.pinned (OpenSpec.ofChange monitorLooksSpec)

/-- ITS FALSE NEIGHBOUR: 'it returns false'. Refute it at one input. -/
def monitorLooksWrong : ChangeSpec := { name := "monitorLooks", fn := fun _ => fun
  | [d1, d2] => { results := [.lit (.bool false)], args := [d1, d2] }
  | _ => none }
def MonitorLooksWrongFalsely : Prop := monitorLooksRow.holds Tryz.pinned (OpenSpec.ofChange monitorLooksWrong)

/-- 'innkeeperlaw26.MonitorBoots': WHATEVER THE INPUT: true; the input reads as it did. -/
def monitorBootsSpec : ChangeSpec := { name := "monitorBoots", fn := fun _ => fun
  | [d1, d2, d3] => { results := [.lit (.bool true)], args := [d1, d2, d3] }
  | _ => none }
def monitorBootsRow : OpenClaim := { program := "ytbkgmdgackknfaagreatdoor", sum := "d6d8c7e8865e89051b7a1f0ce5ff26813c2b6e3947919460e432362893f7b404", func := "innkeeper/innkeeperlaw26.MonitorBoots", spec := "monitorBoots", unfollowed := true, recurses := true, named := ["math/bits.deBruijn32tab"], plainKeys := false, apart := false, laid := [("math/bits.deBruijn32tab", laid_math_bits_deBruijn32tab)] }
def MonitorBootsSaid : Prop := monitorBootsRow.holds Tryz.pinned (OpenSpec.ofChange monitorBootsSpec)

/-- ITS FALSE NEIGHBOUR: 'it returns false'. Refute it at one input. -/
def monitorBootsWrong : ChangeSpec := { name := "monitorBoots", fn := fun _ => fun
  | [d1, d2, d3] => { results := [.lit (.bool false)], args := [d1, d2, d3] }
  | _ => none }
def MonitorBootsWrongFalsely : Prop := monitorBootsRow.holds Tryz.pinned (OpenSpec.ofChange monitorBootsWrong)

/-- 'innkeeperlaw26.MonitorNumbers': WHATEVER THE INPUT: true; the input reads as it did. -/
def monitorNumbersSpec : ChangeSpec := { name := "monitorNumbers", fn := fun _ => fun
  | [] => { results := [.lit (.bool true)], args := [] }
  | _ => none }
def monitorNumbersRow : OpenClaim := { program := "ytbkgmdgackknfaagreatdoor", sum := "d6d8c7e8865e89051b7a1f0ce5ff26813c2b6e3947919460e432362893f7b404", func := "innkeeper/innkeeperlaw26.MonitorNumbers", spec := "monitorNumbers", unfollowed := true, recurses := true, named := ["math/bits.deBruijn32tab"], plainKeys := false, apart := false, laid := [("math/bits.deBruijn32tab", laid_math_bits_deBruijn32tab)] }
def MonitorNumbersSaid : Prop := monitorNumbersRow.holds Tryz.pinned (OpenSpec.ofChange monitorNumbersSpec)

/-- ITS FALSE NEIGHBOUR: 'it returns false'. Refute it at one input. -/
def monitorNumbersWrong : ChangeSpec := { name := "monitorNumbers", fn := fun _ => fun
  | [] => { results := [.lit (.bool false)], args := [] }
  | _ => none }
def MonitorNumbersWrongFalsely : Prop := monitorNumbersRow.holds Tryz.pinned (OpenSpec.ofChange monitorNumbersWrong)

/-- 'innkeeperlaw26.MonitorKills': WHATEVER THE INPUT: true; the input reads as it did. -/
def monitorKillsSpec : ChangeSpec := { name := "monitorKills", fn := fun _ => fun
  | [d1, d2, d3] => { results := [.lit (.bool true)], args := [d1, d2, d3] }
  | _ => none }
def monitorKillsRow : OpenClaim := { program := "ytbkgmdgackknfaagreatdoor", sum := "d6d8c7e8865e89051b7a1f0ce5ff26813c2b6e3947919460e432362893f7b404", func := "innkeeper/innkeeperlaw26.MonitorKills", spec := "monitorKills", unfollowed := true, recurses := true, named := ["math/bits.deBruijn32tab"], plainKeys := false, apart := false, laid := [("math/bits.deBruijn32tab", laid_math_bits_deBruijn32tab)] }
def MonitorKillsSaid : Prop := monitorKillsRow.holds Tryz.pinned (OpenSpec.ofChange monitorKillsSpec)

/-- ITS FALSE NEIGHBOUR: 'it returns false'. Refute it at one input. -/
def monitorKillsWrong : ChangeSpec := { name := "monitorKills", fn := fun _ => fun
  | [d1, d2, d3] => { results := [.lit (.bool false)], args := [d1, d2, d3] }
  | _ => none }
def MonitorKillsWrongFalsely : Prop := monitorKillsRow.holds Tryz.pinned (OpenSpec.ofChange monitorKillsWrong)

/-- 'innkeeperlaw26.MonitorFrames': WHATEVER THE INPUT: true; the input reads as it did. -/
def monitorFramesSpec : ChangeSpec := { name := "monitorFrames", fn := fun _ => fun
  | [d1, d2] => { results := [.lit (.bool true)], args := [d1, d2] }
  | _ => none }
def monitorFramesRow : OpenClaim := { program := "ytbkgmdgackknfaagreatdoor", sum := "d6d8c7e8865e89051b7a1f0ce5ff26813c2b6e3947919460e432362893f7b404", func := "innkeeper/innkeeperlaw26.MonitorFrames", spec := "monitorFrames", unfollowed := true, recurses := true, named := ["math/bits.deBruijn32tab"], plainKeys := false, apart := false, laid := [("math/bits.deBruijn32tab", laid_math_bits_deBruijn32tab)] }
def MonitorFramesSaid : Prop := monitorFramesRow.holds Tryz.pinned (OpenSpec.ofChange monitorFramesSpec)

/-- ITS FALSE NEIGHBOUR: 'it returns false'. Refute it at one input. -/
def monitorFramesWrong : ChangeSpec := { name := "monitorFrames", fn := fun _ => fun
  | [d1, d2] => { results := [.lit (.bool false)], args := [d1, d2] }
  | _ => none }
def MonitorFramesWrongFalsely : Prop := monitorFramesRow.holds Tryz.pinned (OpenSpec.ofChange monitorFramesWrong)

/-- 'innkeepertop.TopApart': WHATEVER THE INPUT: true; the input reads as it did. -/
def topApartSpec : ChangeSpec := { name := "topApart", fn := fun _ => fun
  | [d1, d2, d3, d4, d5, d6] => { results := [.lit (.bool true)], args := [d1, d2, d3, d4, d5, d6] }
  | _ => none }
def topApartRow : OpenClaim := { program := "ytbkgmdgackknfaagreatdoor", sum := "d6d8c7e8865e89051b7a1f0ce5ff26813c2b6e3947919460e432362893f7b404", func := "innkeeper/innkeepertop.TopApart", spec := "topApart", unfollowed := true, recurses := true, named := ["math/bits.deBruijn32tab"], plainKeys := false, apart := false, laid := [("math/bits.deBruijn32tab", laid_math_bits_deBruijn32tab)] }
def TopApartSaid : Prop := topApartRow.holds Tryz.pinned (OpenSpec.ofChange topApartSpec)

/-- ITS FALSE NEIGHBOUR: 'it returns false'. Refute it at one input. -/
def topApartWrong : ChangeSpec := { name := "topApart", fn := fun _ => fun
  | [d1, d2, d3, d4, d5, d6] => { results := [.lit (.bool false)], args := [d1, d2, d3, d4, d5, d6] }
  | _ => none }
def TopApartWrongFalsely : Prop := topApartRow.holds Tryz.pinned (OpenSpec.ofChange topApartWrong)

/-- 'innkeepertop.TopFlushes': WHATEVER THE INPUT: true; the input reads as it did. -/
def topFlushesSpec : ChangeSpec := { name := "topFlushes", fn := fun _ => fun
  | [d1, d2, d3] => { results := [.lit (.bool true)], args := [d1, d2, d3] }
  | _ => none }
def topFlushesRow : OpenClaim := { program := "ytbkgmdgackknfaagreatdoor", sum := "d6d8c7e8865e89051b7a1f0ce5ff26813c2b6e3947919460e432362893f7b404", func := "innkeeper/innkeepertop.TopFlushes", spec := "topFlushes", unfollowed := true, recurses := true, named := ["math/bits.deBruijn32tab"], plainKeys := false, apart := false, laid := [("math/bits.deBruijn32tab", laid_math_bits_deBruijn32tab)] }
def TopFlushesSaid : Prop := topFlushesRow.holds Tryz.pinned (OpenSpec.ofChange topFlushesSpec)

/-- ITS FALSE NEIGHBOUR: 'it returns false'. Refute it at one input. -/
def topFlushesWrong : ChangeSpec := { name := "topFlushes", fn := fun _ => fun
  | [d1, d2, d3] => { results := [.lit (.bool false)], args := [d1, d2, d3] }
  | _ => none }
def TopFlushesWrongFalsely : Prop := topFlushesRow.holds Tryz.pinned (OpenSpec.ofChange topFlushesWrong)

/-- 'innkeepertop.TopOutputs': WHATEVER THE INPUT: true; the input reads as it did. -/
def topOutputsSpec : ChangeSpec := { name := "topOutputs", fn := fun _ => fun
  | [d1, d2, d3] => { results := [.lit (.bool true)], args := [d1, d2, d3] }
  | _ => none }
def topOutputsRow : OpenClaim := { program := "ytbkgmdgackknfaagreatdoor", sum := "d6d8c7e8865e89051b7a1f0ce5ff26813c2b6e3947919460e432362893f7b404", func := "innkeeper/innkeepertop.TopOutputs", spec := "topOutputs", unfollowed := true, recurses := true, named := ["math/bits.deBruijn32tab"], plainKeys := false, apart := false, laid := [("math/bits.deBruijn32tab", laid_math_bits_deBruijn32tab)] }
def TopOutputsSaid : Prop := topOutputsRow.holds Tryz.pinned (OpenSpec.ofChange topOutputsSpec)

/-- ITS FALSE NEIGHBOUR: 'it returns false'. Refute it at one input. -/
def topOutputsWrong : ChangeSpec := { name := "topOutputs", fn := fun _ => fun
  | [d1, d2, d3] => { results := [.lit (.bool false)], args := [d1, d2, d3] }
  | _ => none }
def TopOutputsWrongFalsely : Prop := topOutputsRow.holds Tryz.pinned (OpenSpec.ofChange topOutputsWrong)

/- THE SECOND FORM. 'bulk': how many values and letters a reading holds, each counted each time it is reached (what is shared counts as often as it is met; a slice's spare places count too). A statement '..UptoSaid' is the law's where the arguments, and the package variables that the reading takes, are together of bulk at most 1048576: NARROWER than '..Said'. Prove '..Said' where nothing that the law and all that it calls make is longer than what came in: it says more and counts as full. Else prove '..UptoSaid'. A law counts once. -/
mutual
def uptoBulk {H : Type} : DataW H → Nat
  | .lit (.string bytes) => bytes.length + 1
  | .lit _ => 1
  | .nil => 1
  | .ptr d => uptoBulk d + 1
  | .slice elems spare => uptoBulkAll elems + uptoBulkAll spare + 1
  | .agg parts => uptoBulkAll parts + 1
  | .iface _ d => uptoBulk d + 1
  | .map entries => uptoBulkEntries entries + 1
  | .held _ => 1
def uptoBulkAll {H : Type} : List (DataW H) → Nat
  | [] => 0
  | d :: r => uptoBulk d + uptoBulkAll r
def uptoBulkEntries {H : Type} : List (Lit × DataW H) → Nat
  | [] => 0
  | x :: r => uptoBulkEntry x + uptoBulkEntries r
def uptoBulkEntry {H : Type} : Lit × DataW H → Nat
  | (.string bytes, d) => bytes.length + uptoBulk d + 1
  | (_, d) => uptoBulk d + 1
 end
def uptoSmall : (H : Type) → List (DataW H) → Bool := fun _ ds => decide (uptoBulkAll ds ≤ 1048576)
def OpenSpec.upto (s : _root_.Go.ChangeSpec) : _root_.Go.OpenSpec := { _root_.Go.OpenSpec.ofChange s with cond := some uptoSmall }

/-- 'innkeeperlaw26.MonitorAlone', WHERE WHAT IT READS IS OF BULK AT MOST 1048576: true; the input reads as it did. -/
def monitorAloneUptoRow : OpenClaim := { program := "ytbkgmdgackknfaagreatdoor", sum := "d6d8c7e8865e89051b7a1f0ce5ff26813c2b6e3947919460e432362893f7b404", func := "innkeeper/innkeeperlaw26.MonitorAlone", spec := "monitorAlone", unfollowed := true, recurses := true, named := ["math/bits.deBruijn32tab"], plainKeys := false, apart := false, laid := [("math/bits.deBruijn32tab", laid_math_bits_deBruijn32tab)], narrowed := true }
def MonitorAloneUptoSaid : Prop := monitorAloneUptoRow.holds Tryz.pinned (OpenSpec.upto monitorAloneSpec)

/-- 'innkeeperlaw26.MonitorOrders', WHERE WHAT IT READS IS OF BULK AT MOST 1048576: true; the input reads as it did. -/
def monitorOrdersUptoRow : OpenClaim := { program := "ytbkgmdgackknfaagreatdoor", sum := "d6d8c7e8865e89051b7a1f0ce5ff26813c2b6e3947919460e432362893f7b404", func := "innkeeper/innkeeperlaw26.MonitorOrders", spec := "monitorOrders", unfollowed := true, recurses := true, named := ["math/bits.deBruijn32tab"], plainKeys := false, apart := false, laid := [("math/bits.deBruijn32tab", laid_math_bits_deBruijn32tab)], narrowed := true }
def MonitorOrdersUptoSaid : Prop := monitorOrdersUptoRow.holds Tryz.pinned (OpenSpec.upto monitorOrdersSpec)

/-- 'innkeeperlaw26.MonitorLooks', WHERE WHAT IT READS IS OF BULK AT MOST 1048576: true; the input reads as it did. -/
def monitorLooksUptoRow : OpenClaim := { program := "ytbkgmdgackknfaagreatdoor", sum := "d6d8c7e8865e89051b7a1f0ce5ff26813c2b6e3947919460e432362893f7b404", func := "innkeeper/innkeeperlaw26.MonitorLooks", spec := "monitorLooks", unfollowed := true, recurses := true, named := ["math/bits.deBruijn32tab"], plainKeys := false, apart := false, laid := [("math/bits.deBruijn32tab", laid_math_bits_deBruijn32tab)], narrowed := true }
def MonitorLooksUptoSaid : Prop := monitorLooksUptoRow.holds Tryz.pinned (OpenSpec.upto monitorLooksSpec)

/-- 'innkeeperlaw26.MonitorBoots', WHERE WHAT IT READS IS OF BULK AT MOST 1048576: true; the input reads as it did. -/
def monitorBootsUptoRow : OpenClaim := { program := "ytbkgmdgackknfaagreatdoor", sum := "d6d8c7e8865e89051b7a1f0ce5ff26813c2b6e3947919460e432362893f7b404", func := "innkeeper/innkeeperlaw26.MonitorBoots", spec := "monitorBoots", unfollowed := true, recurses := true, named := ["math/bits.deBruijn32tab"], plainKeys := false, apart := false, laid := [("math/bits.deBruijn32tab", laid_math_bits_deBruijn32tab)], narrowed := true }
def MonitorBootsUptoSaid : Prop := monitorBootsUptoRow.holds Tryz.pinned (OpenSpec.upto monitorBootsSpec)

/-- 'innkeeperlaw26.MonitorNumbers', WHERE WHAT IT READS IS OF BULK AT MOST 1048576: true; the input reads as it did. -/
def monitorNumbersUptoRow : OpenClaim := { program := "ytbkgmdgackknfaagreatdoor", sum := "d6d8c7e8865e89051b7a1f0ce5ff26813c2b6e3947919460e432362893f7b404", func := "innkeeper/innkeeperlaw26.MonitorNumbers", spec := "monitorNumbers", unfollowed := true, recurses := true, named := ["math/bits.deBruijn32tab"], plainKeys := false, apart := false, laid := [("math/bits.deBruijn32tab", laid_math_bits_deBruijn32tab)], narrowed := true }
def MonitorNumbersUptoSaid : Prop := monitorNumbersUptoRow.holds Tryz.pinned (OpenSpec.upto monitorNumbersSpec)

/-- 'innkeeperlaw26.MonitorKills', WHERE WHAT IT READS IS OF BULK AT MOST 1048576: true; the input reads as it did. -/
def monitorKillsUptoRow : OpenClaim := { program := "ytbkgmdgackknfaagreatdoor", sum := "d6d8c7e8865e89051b7a1f0ce5ff26813c2b6e3947919460e432362893f7b404", func := "innkeeper/innkeeperlaw26.MonitorKills", spec := "monitorKills", unfollowed := true, recurses := true, named := ["math/bits.deBruijn32tab"], plainKeys := false, apart := false, laid := [("math/bits.deBruijn32tab", laid_math_bits_deBruijn32tab)], narrowed := true }
def MonitorKillsUptoSaid : Prop := monitorKillsUptoRow.holds Tryz.pinned (OpenSpec.upto monitorKillsSpec)

/-- 'innkeeperlaw26.MonitorFrames', WHERE WHAT IT READS IS OF BULK AT MOST 1048576: true; the input reads as it did. -/
def monitorFramesUptoRow : OpenClaim := { program := "ytbkgmdgackknfaagreatdoor", sum := "d6d8c7e8865e89051b7a1f0ce5ff26813c2b6e3947919460e432362893f7b404", func := "innkeeper/innkeeperlaw26.MonitorFrames", spec := "monitorFrames", unfollowed := true, recurses := true, named := ["math/bits.deBruijn32tab"], plainKeys := false, apart := false, laid := [("math/bits.deBruijn32tab", laid_math_bits_deBruijn32tab)], narrowed := true }
def MonitorFramesUptoSaid : Prop := monitorFramesUptoRow.holds Tryz.pinned (OpenSpec.upto monitorFramesSpec)

/-- 'innkeepertop.TopApart', WHERE WHAT IT READS IS OF BULK AT MOST 1048576: true; the input reads as it did. -/
def topApartUptoRow : OpenClaim := { program := "ytbkgmdgackknfaagreatdoor", sum := "d6d8c7e8865e89051b7a1f0ce5ff26813c2b6e3947919460e432362893f7b404", func := "innkeeper/innkeepertop.TopApart", spec := "topApart", unfollowed := true, recurses := true, named := ["math/bits.deBruijn32tab"], plainKeys := false, apart := false, laid := [("math/bits.deBruijn32tab", laid_math_bits_deBruijn32tab)], narrowed := true }
def TopApartUptoSaid : Prop := topApartUptoRow.holds Tryz.pinned (OpenSpec.upto topApartSpec)

/-- 'innkeepertop.TopFlushes', WHERE WHAT IT READS IS OF BULK AT MOST 1048576: true; the input reads as it did. -/
def topFlushesUptoRow : OpenClaim := { program := "ytbkgmdgackknfaagreatdoor", sum := "d6d8c7e8865e89051b7a1f0ce5ff26813c2b6e3947919460e432362893f7b404", func := "innkeeper/innkeepertop.TopFlushes", spec := "topFlushes", unfollowed := true, recurses := true, named := ["math/bits.deBruijn32tab"], plainKeys := false, apart := false, laid := [("math/bits.deBruijn32tab", laid_math_bits_deBruijn32tab)], narrowed := true }
def TopFlushesUptoSaid : Prop := topFlushesUptoRow.holds Tryz.pinned (OpenSpec.upto topFlushesSpec)

/-- 'innkeepertop.TopOutputs', WHERE WHAT IT READS IS OF BULK AT MOST 1048576: true; the input reads as it did. -/
def topOutputsUptoRow : OpenClaim := { program := "ytbkgmdgackknfaagreatdoor", sum := "d6d8c7e8865e89051b7a1f0ce5ff26813c2b6e3947919460e432362893f7b404", func := "innkeeper/innkeepertop.TopOutputs", spec := "topOutputs", unfollowed := true, recurses := true, named := ["math/bits.deBruijn32tab"], plainKeys := false, apart := false, laid := [("math/bits.deBruijn32tab", laid_math_bits_deBruijn32tab)], narrowed := true }
def TopOutputsUptoSaid : Prop := topOutputsUptoRow.holds Tryz.pinned (OpenSpec.upto topOutputsSpec)

end Rows
end Go.Proofs.YtbkgmdgackknfaaGreatDoor
