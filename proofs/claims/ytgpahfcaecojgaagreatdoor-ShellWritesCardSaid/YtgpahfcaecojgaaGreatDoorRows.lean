/-
  NARROWER THAN 'FOR EVERY INPUT', by the rows' own cells (each row's printed sentence says how): ShellReads: laid · ShellTwins: laid · AuditTwins: laid · AuditSounds: laid · ShellNumbers: laid · ShellWrites: laid · ShellBack: laid · ShellRuns: laid · ShellAny: laid · TopTwins: laid · TopScripts: laid.
  DERIVED. THE GIVEN ROWS OF THIS SEAT. 11 by the template 'for every input the law returns true; each argument reads behind the call as it read before'; 0 by the template 'total and deterministic' (their statements: YtgpahfcaecojgaaGreatDoorTotals.lean).
  GIVEN WITH THE SEED: the statements are not yours to turn. If you find one false, say at which input.
  Laid BY PROGRAM, IN A SANDBOX (cutbox-rows.mjs): the forced cells as the released guide's own fill.sh prints them over the translation 2b7aaac092d237dd… (all of the seat's roots in one cut). By AI agents, Wed Nov 11 2026. No macro, syntax, notation, axiom, sorry.
-/
import Derived.Test.YtgpahfcaecojgaaGreatDoorChecked
import GoSem.Claim
import GoSem.ClaimJoined
import GoSem.ClaimMapViews
import Derived.JoinedTies
import Derived.KernelRfl
namespace Go.Proofs.YtgpahfcaecojgaaGreatDoor
/- THE CELL 'sum', in the pinned program and in every row, IS THE sha256 OF THE DUMP (.gsa) THAT YtgpahfcaecojgaaGreatDoorProg.lean LOADS. Nothing in Lean hashes anything: it is a label: what it is worth is what the hold of that sum in a sandbox is worth. -/
noncomputable def Tryz.pinned : Pinned := { name := "ytgpahfcaecojgaagreatdoor", sum := "2b7aaac092d237ddc4ce85060f97f935dce352c5d0be03986e30f8cd731cbef9", checked := Tryz.checked }
namespace Rows
def none {H : Type} : Left H := { results := [], args := [] }

/- WHAT THE LISTED PACKAGE-LEVEL VARIABLES READ AS WHEN THE CALL BEGINS. Each datum BY PROGRAM (the guide's laid-datum.mjs) off the statement by which the dump's own 'gosem.cut.vars' lays the variable. In a bare row this is a premise. The card (YtgpahfcaecojgaaGreatDoorCards.lean) ties it to the program's text. -/
def laid_math_bits_deBruijn32tab {H : Type} : DataW H := .agg [.lit (.int .u8 0), .lit (.int .u8 1), .lit (.int .u8 28), .lit (.int .u8 2), .lit (.int .u8 29), .lit (.int .u8 14), .lit (.int .u8 24), .lit (.int .u8 3), .lit (.int .u8 30), .lit (.int .u8 22), .lit (.int .u8 20), .lit (.int .u8 15), .lit (.int .u8 25), .lit (.int .u8 17), .lit (.int .u8 4), .lit (.int .u8 8), .lit (.int .u8 31), .lit (.int .u8 27), .lit (.int .u8 13), .lit (.int .u8 23), .lit (.int .u8 21), .lit (.int .u8 19), .lit (.int .u8 16), .lit (.int .u8 7), .lit (.int .u8 26), .lit (.int .u8 12), .lit (.int .u8 18), .lit (.int .u8 6), .lit (.int .u8 11), .lit (.int .u8 5), .lit (.int .u8 10), .lit (.int .u8 9)]

/-- 'innkeeperlaw28.ShellReads': WHATEVER THE INPUT: true; the input reads as it did. -/
def shellReadsSpec : ChangeSpec := { name := "shellReads", fn := fun _ => fun
  | [d1, d2, d3, d4, d5] => { results := [.lit (.bool true)], args := [d1, d2, d3, d4, d5] }
  | _ => none }
def shellReadsRow : OpenClaim := { program := "ytgpahfcaecojgaagreatdoor", sum := "2b7aaac092d237ddc4ce85060f97f935dce352c5d0be03986e30f8cd731cbef9", func := "innkeeper/innkeeperlaw28.ShellReads", spec := "shellReads", unfollowed := true, recurses := true, named := ["math/bits.deBruijn32tab"], plainKeys := false, apart := false, laid := [("math/bits.deBruijn32tab", laid_math_bits_deBruijn32tab)] }
def ShellReadsSaid : Prop := shellReadsRow.holds Tryz.pinned (OpenSpec.ofChange shellReadsSpec)

/-- ITS FALSE NEIGHBOUR: 'it returns false'. Refute it at one input. -/
def shellReadsWrong : ChangeSpec := { name := "shellReads", fn := fun _ => fun
  | [d1, d2, d3, d4, d5] => { results := [.lit (.bool false)], args := [d1, d2, d3, d4, d5] }
  | _ => none }
def ShellReadsWrongFalsely : Prop := shellReadsRow.holds Tryz.pinned (OpenSpec.ofChange shellReadsWrong)

/-- 'innkeeperlaw28.ShellTwins': WHATEVER THE INPUT: true; the input reads as it did. -/
def shellTwinsSpec : ChangeSpec := { name := "shellTwins", fn := fun _ => fun
  | [d1, d2, d3] => { results := [.lit (.bool true)], args := [d1, d2, d3] }
  | _ => none }
def shellTwinsRow : OpenClaim := { program := "ytgpahfcaecojgaagreatdoor", sum := "2b7aaac092d237ddc4ce85060f97f935dce352c5d0be03986e30f8cd731cbef9", func := "innkeeper/innkeeperlaw28.ShellTwins", spec := "shellTwins", unfollowed := true, recurses := true, named := ["math/bits.deBruijn32tab"], plainKeys := false, apart := false, laid := [("math/bits.deBruijn32tab", laid_math_bits_deBruijn32tab)] }
def ShellTwinsSaid : Prop := shellTwinsRow.holds Tryz.pinned (OpenSpec.ofChange shellTwinsSpec)

/-- ITS FALSE NEIGHBOUR: 'it returns false'. Refute it at one input. -/
def shellTwinsWrong : ChangeSpec := { name := "shellTwins", fn := fun _ => fun
  | [d1, d2, d3] => { results := [.lit (.bool false)], args := [d1, d2, d3] }
  | _ => none }
def ShellTwinsWrongFalsely : Prop := shellTwinsRow.holds Tryz.pinned (OpenSpec.ofChange shellTwinsWrong)

/-- 'innkeeperlaw27.AuditTwins': WHATEVER THE INPUT: true; the input reads as it did. -/
def auditTwinsSpec : ChangeSpec := { name := "auditTwins", fn := fun _ => fun
  | [d1, d2] => { results := [.lit (.bool true)], args := [d1, d2] }
  | _ => none }
def auditTwinsRow : OpenClaim := { program := "ytgpahfcaecojgaagreatdoor", sum := "2b7aaac092d237ddc4ce85060f97f935dce352c5d0be03986e30f8cd731cbef9", func := "innkeeper/innkeeperlaw27.AuditTwins", spec := "auditTwins", unfollowed := true, recurses := true, named := ["math/bits.deBruijn32tab"], plainKeys := false, apart := false, laid := [("math/bits.deBruijn32tab", laid_math_bits_deBruijn32tab)] }
def AuditTwinsSaid : Prop := auditTwinsRow.holds Tryz.pinned (OpenSpec.ofChange auditTwinsSpec)

/-- ITS FALSE NEIGHBOUR: 'it returns false'. Refute it at one input. -/
def auditTwinsWrong : ChangeSpec := { name := "auditTwins", fn := fun _ => fun
  | [d1, d2] => { results := [.lit (.bool false)], args := [d1, d2] }
  | _ => none }
def AuditTwinsWrongFalsely : Prop := auditTwinsRow.holds Tryz.pinned (OpenSpec.ofChange auditTwinsWrong)

/-- 'innkeeperlaw27.AuditSounds': WHATEVER THE INPUT: true; the input reads as it did. -/
def auditSoundsSpec : ChangeSpec := { name := "auditSounds", fn := fun _ => fun
  | [d1, d2, d3] => { results := [.lit (.bool true)], args := [d1, d2, d3] }
  | _ => none }
def auditSoundsRow : OpenClaim := { program := "ytgpahfcaecojgaagreatdoor", sum := "2b7aaac092d237ddc4ce85060f97f935dce352c5d0be03986e30f8cd731cbef9", func := "innkeeper/innkeeperlaw27.AuditSounds", spec := "auditSounds", unfollowed := true, recurses := true, named := ["math/bits.deBruijn32tab"], plainKeys := false, apart := false, laid := [("math/bits.deBruijn32tab", laid_math_bits_deBruijn32tab)] }
def AuditSoundsSaid : Prop := auditSoundsRow.holds Tryz.pinned (OpenSpec.ofChange auditSoundsSpec)

/-- ITS FALSE NEIGHBOUR: 'it returns false'. Refute it at one input. -/
def auditSoundsWrong : ChangeSpec := { name := "auditSounds", fn := fun _ => fun
  | [d1, d2, d3] => { results := [.lit (.bool false)], args := [d1, d2, d3] }
  | _ => none }
def AuditSoundsWrongFalsely : Prop := auditSoundsRow.holds Tryz.pinned (OpenSpec.ofChange auditSoundsWrong)

/-- 'innkeeperlaw28.ShellNumbers': WHATEVER THE INPUT: true; the input reads as it did. -/
def shellNumbersSpec : ChangeSpec := { name := "shellNumbers", fn := fun _ => fun
  | [] => { results := [.lit (.bool true)], args := [] }
  | _ => none }
def shellNumbersRow : OpenClaim := { program := "ytgpahfcaecojgaagreatdoor", sum := "2b7aaac092d237ddc4ce85060f97f935dce352c5d0be03986e30f8cd731cbef9", func := "innkeeper/innkeeperlaw28.ShellNumbers", spec := "shellNumbers", unfollowed := true, recurses := true, named := ["math/bits.deBruijn32tab"], plainKeys := false, apart := false, laid := [("math/bits.deBruijn32tab", laid_math_bits_deBruijn32tab)] }
def ShellNumbersSaid : Prop := shellNumbersRow.holds Tryz.pinned (OpenSpec.ofChange shellNumbersSpec)

/-- ITS FALSE NEIGHBOUR: 'it returns false'. Refute it at one input. -/
def shellNumbersWrong : ChangeSpec := { name := "shellNumbers", fn := fun _ => fun
  | [] => { results := [.lit (.bool false)], args := [] }
  | _ => none }
def ShellNumbersWrongFalsely : Prop := shellNumbersRow.holds Tryz.pinned (OpenSpec.ofChange shellNumbersWrong)

/-- 'innkeeperlaw28.ShellWrites': WHATEVER THE INPUT: true; the input reads as it did. -/
def shellWritesSpec : ChangeSpec := { name := "shellWrites", fn := fun _ => fun
  | [d1, d2] => { results := [.lit (.bool true)], args := [d1, d2] }
  | _ => none }
def shellWritesRow : OpenClaim := { program := "ytgpahfcaecojgaagreatdoor", sum := "2b7aaac092d237ddc4ce85060f97f935dce352c5d0be03986e30f8cd731cbef9", func := "innkeeper/innkeeperlaw28.ShellWrites", spec := "shellWrites", unfollowed := true, recurses := true, named := ["math/bits.deBruijn32tab"], plainKeys := false, apart := false, laid := [("math/bits.deBruijn32tab", laid_math_bits_deBruijn32tab)] }
def ShellWritesSaid : Prop := shellWritesRow.holds Tryz.pinned (OpenSpec.ofChange shellWritesSpec)

/-- ITS FALSE NEIGHBOUR: 'it returns false'. Refute it at one input. -/
def shellWritesWrong : ChangeSpec := { name := "shellWrites", fn := fun _ => fun
  | [d1, d2] => { results := [.lit (.bool false)], args := [d1, d2] }
  | _ => none }
def ShellWritesWrongFalsely : Prop := shellWritesRow.holds Tryz.pinned (OpenSpec.ofChange shellWritesWrong)

/-- 'innkeeperlaw28.ShellBack': WHATEVER THE INPUT: true; the input reads as it did. -/
def shellBackSpec : ChangeSpec := { name := "shellBack", fn := fun _ => fun
  | [d1, d2, d3] => { results := [.lit (.bool true)], args := [d1, d2, d3] }
  | _ => none }
def shellBackRow : OpenClaim := { program := "ytgpahfcaecojgaagreatdoor", sum := "2b7aaac092d237ddc4ce85060f97f935dce352c5d0be03986e30f8cd731cbef9", func := "innkeeper/innkeeperlaw28.ShellBack", spec := "shellBack", unfollowed := true, recurses := true, named := ["math/bits.deBruijn32tab"], plainKeys := false, apart := false, laid := [("math/bits.deBruijn32tab", laid_math_bits_deBruijn32tab)] }
def ShellBackSaid : Prop := shellBackRow.holds Tryz.pinned (OpenSpec.ofChange shellBackSpec)

/-- ITS FALSE NEIGHBOUR: 'it returns false'. Refute it at one input. -/
def shellBackWrong : ChangeSpec := { name := "shellBack", fn := fun _ => fun
  | [d1, d2, d3] => { results := [.lit (.bool false)], args := [d1, d2, d3] }
  | _ => none }
def ShellBackWrongFalsely : Prop := shellBackRow.holds Tryz.pinned (OpenSpec.ofChange shellBackWrong)

/-- 'innkeeperlaw28.ShellRuns': WHATEVER THE INPUT: true; the input reads as it did. -/
def shellRunsSpec : ChangeSpec := { name := "shellRuns", fn := fun _ => fun
  | [d1, d2, d3] => { results := [.lit (.bool true)], args := [d1, d2, d3] }
  | _ => none }
def shellRunsRow : OpenClaim := { program := "ytgpahfcaecojgaagreatdoor", sum := "2b7aaac092d237ddc4ce85060f97f935dce352c5d0be03986e30f8cd731cbef9", func := "innkeeper/innkeeperlaw28.ShellRuns", spec := "shellRuns", unfollowed := true, recurses := true, named := ["math/bits.deBruijn32tab"], plainKeys := false, apart := false, laid := [("math/bits.deBruijn32tab", laid_math_bits_deBruijn32tab)] }
def ShellRunsSaid : Prop := shellRunsRow.holds Tryz.pinned (OpenSpec.ofChange shellRunsSpec)

/-- ITS FALSE NEIGHBOUR: 'it returns false'. Refute it at one input. -/
def shellRunsWrong : ChangeSpec := { name := "shellRuns", fn := fun _ => fun
  | [d1, d2, d3] => { results := [.lit (.bool false)], args := [d1, d2, d3] }
  | _ => none }
def ShellRunsWrongFalsely : Prop := shellRunsRow.holds Tryz.pinned (OpenSpec.ofChange shellRunsWrong)

/-- 'innkeeperlaw28.ShellAny': WHATEVER THE INPUT: true; the input reads as it did. -/
def shellAnySpec : ChangeSpec := { name := "shellAny", fn := fun _ => fun
  | [d1, d2] => { results := [.lit (.bool true)], args := [d1, d2] }
  | _ => none }
def shellAnyRow : OpenClaim := { program := "ytgpahfcaecojgaagreatdoor", sum := "2b7aaac092d237ddc4ce85060f97f935dce352c5d0be03986e30f8cd731cbef9", func := "innkeeper/innkeeperlaw28.ShellAny", spec := "shellAny", unfollowed := true, recurses := true, named := ["math/bits.deBruijn32tab"], plainKeys := false, apart := false, laid := [("math/bits.deBruijn32tab", laid_math_bits_deBruijn32tab)] }
def ShellAnySaid : Prop := shellAnyRow.holds Tryz.pinned (OpenSpec.ofChange shellAnySpec)

/-- ITS FALSE NEIGHBOUR: 'it returns false'. Refute it at one input. -/
def shellAnyWrong : ChangeSpec := { name := "shellAny", fn := fun _ => fun
  | [d1, d2] => { results := [.lit (.bool false)], args := [d1, d2] }
  | _ => none }
def ShellAnyWrongFalsely : Prop := shellAnyRow.holds Tryz.pinned (OpenSpec.ofChange shellAnyWrong)

/-- 'innkeepertop.TopTwins': WHATEVER THE INPUT: true; the input reads as it did. -/
def topTwinsSpec : ChangeSpec := { name := "topTwins", fn := fun _ => fun
  | [d1, d2] => { results := [.lit (.bool true)], args := [d1, d2] }
  | _ => none }
def topTwinsRow : OpenClaim := { program := "ytgpahfcaecojgaagreatdoor", sum := "2b7aaac092d237ddc4ce85060f97f935dce352c5d0be03986e30f8cd731cbef9", func := "innkeeper/innkeepertop.TopTwins", spec := "topTwins", unfollowed := true, recurses := true, named := ["math/bits.deBruijn32tab"], plainKeys := false, apart := false, laid := [("math/bits.deBruijn32tab", laid_math_bits_deBruijn32tab)] }
def TopTwinsSaid : Prop := topTwinsRow.holds Tryz.pinned (OpenSpec.ofChange topTwinsSpec)

/-- ITS FALSE NEIGHBOUR: 'it returns false'. Refute it at one input. -/
def topTwinsWrong : ChangeSpec := { name := "topTwins", fn := fun _ => fun
  | [d1, d2] => { results := [.lit (.bool false)], args := [d1, d2] }
  | _ => none }
def TopTwinsWrongFalsely : Prop := topTwinsRow.holds Tryz.pinned (OpenSpec.ofChange topTwinsWrong)

/-- 'innkeepertop.TopScripts': WHATEVER THE INPUT: true; the input reads as it did. -/
def topScriptsSpec : ChangeSpec := { name := "topScripts", fn := fun _ => fun
  | [d1, d2, d3] => { results := [.lit (.bool true)], args := [d1, d2, d3] }
  | _ => none }
def topScriptsRow : OpenClaim := { program := "ytgpahfcaecojgaagreatdoor", sum := "2b7aaac092d237ddc4ce85060f97f935dce352c5d0be03986e30f8cd731cbef9", func := "innkeeper/innkeepertop.TopScripts", spec := "topScripts", unfollowed := true, recurses := true, named := ["math/bits.deBruijn32tab"], plainKeys := false, apart := false, laid := [("math/bits.deBruijn32tab", laid_math_bits_deBruijn32tab)] }
def TopScriptsSaid : Prop := topScriptsRow.holds Tryz.pinned (OpenSpec.ofChange topScriptsSpec)

/-- ITS FALSE NEIGHBOUR: 'it returns false'. Refute it at one input. -/
def topScriptsWrong : ChangeSpec := { name := "topScripts", fn := fun _ => fun
  | [d1, d2, d3] => { results := [.lit (.bool false)], args := [d1, d2, d3] }
  | _ => none }
def TopScriptsWrongFalsely : Prop := topScriptsRow.holds Tryz.pinned (OpenSpec.ofChange topScriptsWrong)

/- THE SECOND FORM. 'bulk': how many values and letters a reading holds, each counted each time it is reached (what is shared counts as often as it is met; a slice's spare places count too). A statement '..UptoSaid' is the law's where the arguments, and the package variables that the reading takes, are together of bulk at most 1048576: NARROWER than '..Said'. Prove '..Said' where nothing that the law and all that it calls make is longer than what came in: it says more and counts as full. Else prove '..UptoSaid'. A law counts once. -/
mutual
def uptoBulk {H : Type} : DataW H → Nat
  | .lit (.string bytes) => bytes.length + 1
  | .lit _ => 1
  | .nil => 1
  | .ptr d => uptoBulk d + 1
  | .slice elems spare => uptoBulkAll elems + uptoBulkAll spare + 1
  | .agg parts => uptoBulkAll parts + 1
  | .iface _ d => uptoBulk d + 1
  | .map entries => uptoBulkEntries entries + 1
  | .held _ => 1
def uptoBulkAll {H : Type} : List (DataW H) → Nat
  | [] => 0
  | d :: r => uptoBulk d + uptoBulkAll r
def uptoBulkEntries {H : Type} : List (Lit × DataW H) → Nat
  | [] => 0
  | x :: r => uptoBulkEntry x + uptoBulkEntries r
def uptoBulkEntry {H : Type} : Lit × DataW H → Nat
  | (.string bytes, d) => bytes.length + uptoBulk d + 1
  | (_, d) => uptoBulk d + 1
 end
def uptoSmall : (H : Type) → List (DataW H) → Bool := fun _ ds => decide (uptoBulkAll ds ≤ 1048576)
def OpenSpec.upto (s : _root_.Go.ChangeSpec) : _root_.Go.OpenSpec := { _root_.Go.OpenSpec.ofChange s with cond := some uptoSmall }

/-- 'innkeeperlaw28.ShellReads', WHERE WHAT IT READS IS OF BULK AT MOST 1048576: true; the input reads as it did. -/
def shellReadsUptoRow : OpenClaim := { program := "ytgpahfcaecojgaagreatdoor", sum := "2b7aaac092d237ddc4ce85060f97f935dce352c5d0be03986e30f8cd731cbef9", func := "innkeeper/innkeeperlaw28.ShellReads", spec := "shellReads", unfollowed := true, recurses := true, named := ["math/bits.deBruijn32tab"], plainKeys := false, apart := false, laid := [("math/bits.deBruijn32tab", laid_math_bits_deBruijn32tab)], narrowed := true }
def ShellReadsUptoSaid : Prop := shellReadsUptoRow.holds Tryz.pinned (OpenSpec.upto shellReadsSpec)

/-- 'innkeeperlaw28.ShellTwins', WHERE WHAT IT READS IS OF BULK AT MOST 1048576: true; the input reads as it did. -/
def shellTwinsUptoRow : OpenClaim := { program := "ytgpahfcaecojgaagreatdoor", sum := "2b7aaac092d237ddc4ce85060f97f935dce352c5d0be03986e30f8cd731cbef9", func := "innkeeper/innkeeperlaw28.ShellTwins", spec := "shellTwins", unfollowed := true, recurses := true, named := ["math/bits.deBruijn32tab"], plainKeys := false, apart := false, laid := [("math/bits.deBruijn32tab", laid_math_bits_deBruijn32tab)], narrowed := true }
def ShellTwinsUptoSaid : Prop := shellTwinsUptoRow.holds Tryz.pinned (OpenSpec.upto shellTwinsSpec)

/-- 'innkeeperlaw27.AuditTwins', WHERE WHAT IT READS IS OF BULK AT MOST 1048576: true; the input reads as it did. -/
def auditTwinsUptoRow : OpenClaim := { program := "ytgpahfcaecojgaagreatdoor", sum := "2b7aaac092d237ddc4ce85060f97f935dce352c5d0be03986e30f8cd731cbef9", func := "innkeeper/innkeeperlaw27.AuditTwins", spec := "auditTwins", unfollowed := true, recurses := true, named := ["math/bits.deBruijn32tab"], plainKeys := false, apart := false, laid := [("math/bits.deBruijn32tab", laid_math_bits_deBruijn32tab)], narrowed := true }
def AuditTwinsUptoSaid : Prop := auditTwinsUptoRow.holds Tryz.pinned (OpenSpec.upto auditTwinsSpec)

/-- 'innkeeperlaw27.AuditSounds', WHERE WHAT IT READS IS OF BULK AT MOST 1048576: true; the input reads as it did. -/
def auditSoundsUptoRow : OpenClaim := { program := "ytgpahfcaecojgaagreatdoor", sum := "2b7aaac092d237ddc4ce85060f97f935dce352c5d0be03986e30f8cd731cbef9", func := "innkeeper/innkeeperlaw27.AuditSounds", spec := "auditSounds", unfollowed := true, recurses := true, named := ["math/bits.deBruijn32tab"], plainKeys := false, apart := false, laid := [("math/bits.deBruijn32tab", laid_math_bits_deBruijn32tab)], narrowed := true }
def AuditSoundsUptoSaid : Prop := auditSoundsUptoRow.holds Tryz.pinned (OpenSpec.upto auditSoundsSpec)

/-- 'innkeeperlaw28.ShellNumbers', WHERE WHAT IT READS IS OF BULK AT MOST 1048576: true; the input reads as it did. -/
def shellNumbersUptoRow : OpenClaim := { program := "ytgpahfcaecojgaagreatdoor", sum := "2b7aaac092d237ddc4ce85060f97f935dce352c5d0be03986e30f8cd731cbef9", func := "innkeeper/innkeeperlaw28.ShellNumbers", spec := "shellNumbers", unfollowed := true, recurses := true, named := ["math/bits.deBruijn32tab"], plainKeys := false, apart := false, laid := [("math/bits.deBruijn32tab", laid_math_bits_deBruijn32tab)], narrowed := true }
def ShellNumbersUptoSaid : Prop := shellNumbersUptoRow.holds Tryz.pinned (OpenSpec.upto shellNumbersSpec)

/-- 'innkeeperlaw28.ShellWrites', WHERE WHAT IT READS IS OF BULK AT MOST 1048576: true; the input reads as it did. -/
def shellWritesUptoRow : OpenClaim := { program := "ytgpahfcaecojgaagreatdoor", sum := "2b7aaac092d237ddc4ce85060f97f935dce352c5d0be03986e30f8cd731cbef9", func := "innkeeper/innkeeperlaw28.ShellWrites", spec := "shellWrites", unfollowed := true, recurses := true, named := ["math/bits.deBruijn32tab"], plainKeys := false, apart := false, laid := [("math/bits.deBruijn32tab", laid_math_bits_deBruijn32tab)], narrowed := true }
def ShellWritesUptoSaid : Prop := shellWritesUptoRow.holds Tryz.pinned (OpenSpec.upto shellWritesSpec)

/-- 'innkeeperlaw28.ShellBack', WHERE WHAT IT READS IS OF BULK AT MOST 1048576: true; the input reads as it did. -/
def shellBackUptoRow : OpenClaim := { program := "ytgpahfcaecojgaagreatdoor", sum := "2b7aaac092d237ddc4ce85060f97f935dce352c5d0be03986e30f8cd731cbef9", func := "innkeeper/innkeeperlaw28.ShellBack", spec := "shellBack", unfollowed := true, recurses := true, named := ["math/bits.deBruijn32tab"], plainKeys := false, apart := false, laid := [("math/bits.deBruijn32tab", laid_math_bits_deBruijn32tab)], narrowed := true }
def ShellBackUptoSaid : Prop := shellBackUptoRow.holds Tryz.pinned (OpenSpec.upto shellBackSpec)

/-- 'innkeeperlaw28.ShellRuns', WHERE WHAT IT READS IS OF BULK AT MOST 1048576: true; the input reads as it did. -/
def shellRunsUptoRow : OpenClaim := { program := "ytgpahfcaecojgaagreatdoor", sum := "2b7aaac092d237ddc4ce85060f97f935dce352c5d0be03986e30f8cd731cbef9", func := "innkeeper/innkeeperlaw28.ShellRuns", spec := "shellRuns", unfollowed := true, recurses := true, named := ["math/bits.deBruijn32tab"], plainKeys := false, apart := false, laid := [("math/bits.deBruijn32tab", laid_math_bits_deBruijn32tab)], narrowed := true }
def ShellRunsUptoSaid : Prop := shellRunsUptoRow.holds Tryz.pinned (OpenSpec.upto shellRunsSpec)

/-- 'innkeeperlaw28.ShellAny', WHERE WHAT IT READS IS OF BULK AT MOST 1048576: true; the input reads as it did. -/
def shellAnyUptoRow : OpenClaim := { program := "ytgpahfcaecojgaagreatdoor", sum := "2b7aaac092d237ddc4ce85060f97f935dce352c5d0be03986e30f8cd731cbef9", func := "innkeeper/innkeeperlaw28.ShellAny", spec := "shellAny", unfollowed := true, recurses := true, named := ["math/bits.deBruijn32tab"], plainKeys := false, apart := false, laid := [("math/bits.deBruijn32tab", laid_math_bits_deBruijn32tab)], narrowed := true }
def ShellAnyUptoSaid : Prop := shellAnyUptoRow.holds Tryz.pinned (OpenSpec.upto shellAnySpec)

/-- 'innkeepertop.TopTwins', WHERE WHAT IT READS IS OF BULK AT MOST 1048576: true; the input reads as it did. -/
def topTwinsUptoRow : OpenClaim := { program := "ytgpahfcaecojgaagreatdoor", sum := "2b7aaac092d237ddc4ce85060f97f935dce352c5d0be03986e30f8cd731cbef9", func := "innkeeper/innkeepertop.TopTwins", spec := "topTwins", unfollowed := true, recurses := true, named := ["math/bits.deBruijn32tab"], plainKeys := false, apart := false, laid := [("math/bits.deBruijn32tab", laid_math_bits_deBruijn32tab)], narrowed := true }
def TopTwinsUptoSaid : Prop := topTwinsUptoRow.holds Tryz.pinned (OpenSpec.upto topTwinsSpec)

/-- 'innkeepertop.TopScripts', WHERE WHAT IT READS IS OF BULK AT MOST 1048576: true; the input reads as it did. -/
def topScriptsUptoRow : OpenClaim := { program := "ytgpahfcaecojgaagreatdoor", sum := "2b7aaac092d237ddc4ce85060f97f935dce352c5d0be03986e30f8cd731cbef9", func := "innkeeper/innkeepertop.TopScripts", spec := "topScripts", unfollowed := true, recurses := true, named := ["math/bits.deBruijn32tab"], plainKeys := false, apart := false, laid := [("math/bits.deBruijn32tab", laid_math_bits_deBruijn32tab)], narrowed := true }
def TopScriptsUptoSaid : Prop := topScriptsUptoRow.holds Tryz.pinned (OpenSpec.upto topScriptsSpec)

end Rows
end Go.Proofs.YtgpahfcaecojgaaGreatDoor
