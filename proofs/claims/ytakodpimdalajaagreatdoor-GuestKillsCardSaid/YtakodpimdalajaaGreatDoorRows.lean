/-
  NARROWER THAN 'FOR EVERY INPUT', by the rows' own cells (each row's printed sentence says how): EngineSelf: laid · EngineIrqs: laid · EnginePaging: laid · GuestRuns: laid · GuestKills: laid.
  DERIVED. THE GIVEN ROWS OF THIS SEAT. 5 by the template 'for every input the law returns true; each argument reads behind the call as it read before'; 0 by the template 'total and deterministic' (their statements: YtakodpimdalajaaGreatDoorTotals.lean).
  GIVEN WITH THE SEED: the statements are not yours to turn. If you find one false, say at which input.
  Laid BY PROGRAM, IN A SANDBOX (cutbox-rows.mjs): the forced cells as the released guide's own fill.sh prints them over the translation d1b3724bf3f5b8ee… (all of the seat's roots in one cut). By AI agents, Wed Nov 11 2026. No macro, syntax, notation, axiom, sorry.
-/
import Derived.Test.YtakodpimdalajaaGreatDoorChecked
import GoSem.Claim
import GoSem.ClaimJoined
import GoSem.ClaimMapViews
import Derived.JoinedTies
import Derived.KernelRfl
namespace Go.Proofs.YtakodpimdalajaaGreatDoor
/- THE CELL 'sum', in the pinned program and in every row, IS THE sha256 OF THE DUMP (.gsa) THAT YtakodpimdalajaaGreatDoorProg.lean LOADS. Nothing in Lean hashes anything: it is a label: what it is worth is what the hold of that sum in a sandbox is worth. -/
noncomputable def Tryz.pinned : Pinned := { name := "ytakodpimdalajaagreatdoor", sum := "d1b3724bf3f5b8ee2877b2b92057c7d75023031d4a03244f2458a76a12855c0e", checked := Tryz.checked }
namespace Rows
def none {H : Type} : Left H := { results := [], args := [] }

/- WHAT THE LISTED PACKAGE-LEVEL VARIABLES READ AS WHEN THE CALL BEGINS. Each datum BY PROGRAM (the guide's laid-datum.mjs) off the statement by which the dump's own 'gosem.cut.vars' lays the variable. In a bare row this is a premise. The card (YtakodpimdalajaaGreatDoorCards.lean) ties it to the program's text. -/
def laid_math_bits_deBruijn32tab {H : Type} : DataW H := .agg [.lit (.int .u8 0), .lit (.int .u8 1), .lit (.int .u8 28), .lit (.int .u8 2), .lit (.int .u8 29), .lit (.int .u8 14), .lit (.int .u8 24), .lit (.int .u8 3), .lit (.int .u8 30), .lit (.int .u8 22), .lit (.int .u8 20), .lit (.int .u8 15), .lit (.int .u8 25), .lit (.int .u8 17), .lit (.int .u8 4), .lit (.int .u8 8), .lit (.int .u8 31), .lit (.int .u8 27), .lit (.int .u8 13), .lit (.int .u8 23), .lit (.int .u8 21), .lit (.int .u8 19), .lit (.int .u8 16), .lit (.int .u8 7), .lit (.int .u8 26), .lit (.int .u8 12), .lit (.int .u8 18), .lit (.int .u8 6), .lit (.int .u8 11), .lit (.int .u8 5), .lit (.int .u8 10), .lit (.int .u8 9)]

/-- 'innkeeperlaw24.EngineSelf': WHATEVER THE INPUT: true; the input reads as it did. -/
def engineSelfSpec : ChangeSpec := { name := "engineSelf", fn := fun _ => fun
  | [d1, d2] => { results := [.lit (.bool true)], args := [d1, d2] }
  | _ => none }
def engineSelfRow : OpenClaim := { program := "ytakodpimdalajaagreatdoor", sum := "d1b3724bf3f5b8ee2877b2b92057c7d75023031d4a03244f2458a76a12855c0e", func := "innkeeper/innkeeperlaw24.EngineSelf", spec := "engineSelf", unfollowed := true, recurses := true, named := ["math/bits.deBruijn32tab"], plainKeys := false, apart := false, laid := [("math/bits.deBruijn32tab", laid_math_bits_deBruijn32tab)] }
def EngineSelfSaid : Prop := engineSelfRow.holds Tryz.pinned (OpenSpec.ofChange engineSelfSpec)

/-- ITS FALSE NEIGHBOUR: 'it returns false'. Refute it at one input. -/
def engineSelfWrong : ChangeSpec := { name := "engineSelf", fn := fun _ => fun
  | [d1, d2] => { results := [.lit (.bool false)], args := [d1, d2] }
  | _ => none }
def EngineSelfWrongFalsely : Prop := engineSelfRow.holds Tryz.pinned (OpenSpec.ofChange engineSelfWrong)

/-- 'innkeeperlaw24.EngineIrqs': WHATEVER THE INPUT: true; the input reads as it did. -/
def engineIrqsSpec : ChangeSpec := { name := "engineIrqs", fn := fun _ => fun
  | [d1, d2, d3] => { results := [.lit (.bool true)], args := [d1, d2, d3] }
  | _ => none }
def engineIrqsRow : OpenClaim := { program := "ytakodpimdalajaagreatdoor", sum := "d1b3724bf3f5b8ee2877b2b92057c7d75023031d4a03244f2458a76a12855c0e", func := "innkeeper/innkeeperlaw24.EngineIrqs", spec := "engineIrqs", unfollowed := true, recurses := true, named := ["math/bits.deBruijn32tab"], plainKeys := false, apart := false, laid := [("math/bits.deBruijn32tab", laid_math_bits_deBruijn32tab)] }
def EngineIrqsSaid : Prop := engineIrqsRow.holds Tryz.pinned (OpenSpec.ofChange engineIrqsSpec)

/-- ITS FALSE NEIGHBOUR: 'it returns false'. Refute it at one input. -/
def engineIrqsWrong : ChangeSpec := { name := "engineIrqs", fn := fun _ => fun
  | [d1, d2, d3] => { results := [.lit (.bool false)], args := [d1, d2, d3] }
  | _ => none }
def EngineIrqsWrongFalsely : Prop := engineIrqsRow.holds Tryz.pinned (OpenSpec.ofChange engineIrqsWrong)

/-- 'innkeeperlaw24.EnginePaging': WHATEVER THE INPUT: true; the input reads as it did. -/
def enginePagingSpec : ChangeSpec := { name := "enginePaging", fn := fun _ => fun
  | [d1, d2, d3] => { results := [.lit (.bool true)], args := [d1, d2, d3] }
  | _ => none }
def enginePagingRow : OpenClaim := { program := "ytakodpimdalajaagreatdoor", sum := "d1b3724bf3f5b8ee2877b2b92057c7d75023031d4a03244f2458a76a12855c0e", func := "innkeeper/innkeeperlaw24.EnginePaging", spec := "enginePaging", unfollowed := true, recurses := true, named := ["math/bits.deBruijn32tab"], plainKeys := false, apart := false, laid := [("math/bits.deBruijn32tab", laid_math_bits_deBruijn32tab)] }
def EnginePagingSaid : Prop := enginePagingRow.holds Tryz.pinned (OpenSpec.ofChange enginePagingSpec)

/-- ITS FALSE NEIGHBOUR: 'it returns false'. Refute it at one input. -/
def enginePagingWrong : ChangeSpec := { name := "enginePaging", fn := fun _ => fun
  | [d1, d2, d3] => { results := [.lit (.bool false)], args := [d1, d2, d3] }
  | _ => none }
def EnginePagingWrongFalsely : Prop := enginePagingRow.holds Tryz.pinned (OpenSpec.ofChange enginePagingWrong)

/-- 'innkeeperlaw25.GuestRuns': WHATEVER THE INPUT: true; the input reads as it did. -/
def guestRunsSpec : ChangeSpec := { name := "guestRuns", fn := fun _ => fun
  | [d1, d2, d3, d4] => { results := [.lit (.bool true)], args := [d1, d2, d3, d4] }
  | _ => none }
def guestRunsRow : OpenClaim := { program := "ytakodpimdalajaagreatdoor", sum := "d1b3724bf3f5b8ee2877b2b92057c7d75023031d4a03244f2458a76a12855c0e", func := "innkeeper/innkeeperlaw25.GuestRuns", spec := "guestRuns", unfollowed := true, recurses := true, named := ["math/bits.deBruijn32tab"], plainKeys := false, apart := false, laid := [("math/bits.deBruijn32tab", laid_math_bits_deBruijn32tab)] }
def GuestRunsSaid : Prop := guestRunsRow.holds Tryz.pinned (OpenSpec.ofChange guestRunsSpec)

/-- ITS FALSE NEIGHBOUR: 'it returns false'. Refute it at one input. -/
def guestRunsWrong : ChangeSpec := { name := "guestRuns", fn := fun _ => fun
  | [d1, d2, d3, d4] => { results := [.lit (.bool false)], args := [d1, d2, d3, d4] }
  | _ => none }
def GuestRunsWrongFalsely : Prop := guestRunsRow.holds Tryz.pinned (OpenSpec.ofChange guestRunsWrong)

/-- 'innkeeperlaw25.GuestKills': WHATEVER THE INPUT: true; the input reads as it did. -/
def guestKillsSpec : ChangeSpec := { name := "guestKills", fn := fun _ => fun
  | [d1, d2, d3, d4] => { results := [.lit (.bool true)], args := [d1, d2, d3, d4] }
  | _ => none }
def guestKillsRow : OpenClaim := { program := "ytakodpimdalajaagreatdoor", sum := "d1b3724bf3f5b8ee2877b2b92057c7d75023031d4a03244f2458a76a12855c0e", func := "innkeeper/innkeeperlaw25.GuestKills", spec := "guestKills", unfollowed := true, recurses := true, named := ["math/bits.deBruijn32tab"], plainKeys := false, apart := false, laid := [("math/bits.deBruijn32tab", laid_math_bits_deBruijn32tab)] }
def GuestKillsSaid : Prop := guestKillsRow.holds Tryz.pinned (OpenSpec.ofChange guestKillsSpec)

/-- ITS FALSE NEIGHBOUR: 'it returns false'. Refute it at one input. -/
def guestKillsWrong : ChangeSpec := { name := "guestKills", fn := fun _ => fun
  | [d1, d2, d3, d4] => { results := [.lit (.bool false)], args := [d1, d2, d3, d4] }
  | _ => none }
def GuestKillsWrongFalsely : Prop := guestKillsRow.holds Tryz.pinned (OpenSpec.ofChange guestKillsWrong)

/- THE SECOND FORM. 'bulk': how many values and letters a reading holds, each counted each time it is reached (what is shared counts as often as it is met; a slice's spare places count too). A statement '..UptoSaid' is the law's where the arguments, and the package variables that the reading takes, are together of bulk at most 1048576: NARROWER than '..Said'. Prove '..Said' where nothing that the law and all that it calls make is longer than what came in: it says more and counts as full. Else prove '..UptoSaid'. A law counts once. -/
mutual
def uptoBulk {H : Type} : DataW H → Nat
  | .lit (.string bytes) => bytes.length + 1
  | .lit _ => 1
  | .nil => 1
  | .ptr d => uptoBulk d + 1
  | .slice elems spare => uptoBulkAll elems + uptoBulkAll spare + 1
  | .agg parts => uptoBulkAll parts + 1
  | .iface _ d => uptoBulk d + 1
  | .map entries => uptoBulkEntries entries + 1
  | .held _ => 1
def uptoBulkAll {H : Type} : List (DataW H) → Nat
  | [] => 0
  | d :: r => uptoBulk d + uptoBulkAll r
def uptoBulkEntries {H : Type} : List (Lit × DataW H) → Nat
  | [] => 0
  | x :: r => uptoBulkEntry x + uptoBulkEntries r
def uptoBulkEntry {H : Type} : Lit × DataW H → Nat
  | (.string bytes, d) => bytes.length + uptoBulk d + 1
  | (_, d) => uptoBulk d + 1
 end
def uptoSmall : (H : Type) → List (DataW H) → Bool := fun _ ds => decide (uptoBulkAll ds ≤ 1048576)
def OpenSpec.upto (s : _root_.Go.ChangeSpec) : _root_.Go.OpenSpec := { _root_.Go.OpenSpec.ofChange s with cond := some uptoSmall }

/-- 'innkeeperlaw24.EngineSelf', WHERE WHAT IT READS IS OF BULK AT MOST 1048576: true; the input reads as it did. -/
def engineSelfUptoRow : OpenClaim := { program := "ytakodpimdalajaagreatdoor", sum := "d1b3724bf3f5b8ee2877b2b92057c7d75023031d4a03244f2458a76a12855c0e", func := "innkeeper/innkeeperlaw24.EngineSelf", spec := "engineSelf", unfollowed := true, recurses := true, named := ["math/bits.deBruijn32tab"], plainKeys := false, apart := false, laid := [("math/bits.deBruijn32tab", laid_math_bits_deBruijn32tab)], narrowed := true }
def EngineSelfUptoSaid : Prop := engineSelfUptoRow.holds Tryz.pinned (OpenSpec.upto engineSelfSpec)

/-- 'innkeeperlaw24.EngineIrqs', WHERE WHAT IT READS IS OF BULK AT MOST 1048576: true; the input reads as it did. -/
def engineIrqsUptoRow : OpenClaim := { program := "ytakodpimdalajaagreatdoor", sum := "d1b3724bf3f5b8ee2877b2b92057c7d75023031d4a03244f2458a76a12855c0e", func := "innkeeper/innkeeperlaw24.EngineIrqs", spec := "engineIrqs", unfollowed := true, recurses := true, named := ["math/bits.deBruijn32tab"], plainKeys := false, apart := false, laid := [("math/bits.deBruijn32tab", laid_math_bits_deBruijn32tab)], narrowed := true }
def EngineIrqsUptoSaid : Prop := engineIrqsUptoRow.holds Tryz.pinned (OpenSpec.upto engineIrqsSpec)

/-- 'innkeeperlaw24.EnginePaging', WHERE WHAT IT READS IS OF BULK AT MOST 1048576: true; the input reads as it did. -/
def enginePagingUptoRow : OpenClaim := { program := "ytakodpimdalajaagreatdoor", sum := "d1b3724bf3f5b8ee2877b2b92057c7d75023031d4a03244f2458a76a12855c0e", func := "innkeeper/innkeeperlaw24.EnginePaging", spec := "enginePaging", unfollowed := true, recurses := true, named := ["math/bits.deBruijn32tab"], plainKeys := false, apart := false, laid := [("math/bits.deBruijn32tab", laid_math_bits_deBruijn32tab)], narrowed := true }
def EnginePagingUptoSaid : Prop := enginePagingUptoRow.holds Tryz.pinned (OpenSpec.upto enginePagingSpec)

/-- 'innkeeperlaw25.GuestRuns', WHERE WHAT IT READS IS OF BULK AT MOST 1048576: true; the input reads as it did. -/
def guestRunsUptoRow : OpenClaim := { program := "ytakodpimdalajaagreatdoor", sum := "d1b3724bf3f5b8ee2877b2b92057c7d75023031d4a03244f2458a76a12855c0e", func := "innkeeper/innkeeperlaw25.GuestRuns", spec := "guestRuns", unfollowed := true, recurses := true, named := ["math/bits.deBruijn32tab"], plainKeys := false, apart := false, laid := [("math/bits.deBruijn32tab", laid_math_bits_deBruijn32tab)], narrowed := true }
def GuestRunsUptoSaid : Prop := guestRunsUptoRow.holds Tryz.pinned (OpenSpec.upto guestRunsSpec)

/-- 'innkeeperlaw25.GuestKills', WHERE WHAT IT READS IS OF BULK AT MOST 1048576: true; the input reads as it did. -/
def guestKillsUptoRow : OpenClaim := { program := "ytakodpimdalajaagreatdoor", sum := "d1b3724bf3f5b8ee2877b2b92057c7d75023031d4a03244f2458a76a12855c0e", func := "innkeeper/innkeeperlaw25.GuestKills", spec := "guestKills", unfollowed := true, recurses := true, named := ["math/bits.deBruijn32tab"], plainKeys := false, apart := false, laid := [("math/bits.deBruijn32tab", laid_math_bits_deBruijn32tab)], narrowed := true }
def GuestKillsUptoSaid : Prop := guestKillsUptoRow.holds Tryz.pinned (OpenSpec.upto guestKillsSpec)

end Rows
end Go.Proofs.YtakodpimdalajaaGreatDoor
