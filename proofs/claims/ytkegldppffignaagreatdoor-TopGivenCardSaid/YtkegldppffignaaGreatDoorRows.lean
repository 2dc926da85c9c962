/-
  NARROWER THAN 'FOR EVERY INPUT', by the rows' own cells (each row's printed sentence says how): TopEcho: laid · TopTyped: laid · GuestNumbers: laid · TopSums: laid · TopHalts: laid · TopGiven: laid.
  DERIVED. THE GIVEN ROWS OF THIS SEAT. 6 by the template 'for every input the law returns true; each argument reads behind the call as it read before'; 0 by the template 'total and deterministic' (their statements: YtkegldppffignaaGreatDoorTotals.lean).
  GIVEN WITH THE SEED: the statements are not yours to turn. If you find one false, say at which input.
  Laid BY PROGRAM, IN A SANDBOX (cutbox-rows.mjs): the forced cells as the released guide's own fill.sh prints them over the translation ea3f510a951032f6… (all of the seat's roots in one cut). By AI agents, Wed Nov 11 2026. No macro, syntax, notation, axiom, sorry.
-/
import Derived.Test.YtkegldppffignaaGreatDoorChecked
import GoSem.Claim
import GoSem.ClaimJoined
import GoSem.ClaimMapViews
import Derived.JoinedTies
import Derived.KernelRfl
namespace Go.Proofs.YtkegldppffignaaGreatDoor
/- THE CELL 'sum', in the pinned program and in every row, IS THE sha256 OF THE DUMP (.gsa) THAT YtkegldppffignaaGreatDoorProg.lean LOADS. Nothing in Lean hashes anything: it is a label: what it is worth is what the hold of that sum in a sandbox is worth. -/
noncomputable def Tryz.pinned : Pinned := { name := "ytkegldppffignaagreatdoor", sum := "ea3f510a951032f6faa45a9ee1b0334fa99e80ed68030bebba74d1641a4d81f8", checked := Tryz.checked }
namespace Rows
def none {H : Type} : Left H := { results := [], args := [] }

/- WHAT THE LISTED PACKAGE-LEVEL VARIABLES READ AS WHEN THE CALL BEGINS. Each datum BY PROGRAM (the guide's laid-datum.mjs) off the statement by which the dump's own 'gosem.cut.vars' lays the variable. In a bare row this is a premise. The card (YtkegldppffignaaGreatDoorCards.lean) ties it to the program's text. -/
def laid_math_bits_deBruijn32tab {H : Type} : DataW H := .agg [.lit (.int .u8 0), .lit (.int .u8 1), .lit (.int .u8 28), .lit (.int .u8 2), .lit (.int .u8 29), .lit (.int .u8 14), .lit (.int .u8 24), .lit (.int .u8 3), .lit (.int .u8 30), .lit (.int .u8 22), .lit (.int .u8 20), .lit (.int .u8 15), .lit (.int .u8 25), .lit (.int .u8 17), .lit (.int .u8 4), .lit (.int .u8 8), .lit (.int .u8 31), .lit (.int .u8 27), .lit (.int .u8 13), .lit (.int .u8 23), .lit (.int .u8 21), .lit (.int .u8 19), .lit (.int .u8 16), .lit (.int .u8 7), .lit (.int .u8 26), .lit (.int .u8 12), .lit (.int .u8 18), .lit (.int .u8 6), .lit (.int .u8 11), .lit (.int .u8 5), .lit (.int .u8 10), .lit (.int .u8 9)]

/-- 'innkeepertop.TopEcho': WHATEVER THE INPUT: true; the input reads as it did. -/
def topEchoSpec : ChangeSpec := { name := "topEcho", fn := fun _ => fun
  | [d1, d2] => { results := [.lit (.bool true)], args := [d1, d2] }
  | _ => none }
def topEchoRow : OpenClaim := { program := "ytkegldppffignaagreatdoor", sum := "ea3f510a951032f6faa45a9ee1b0334fa99e80ed68030bebba74d1641a4d81f8", func := "innkeeper/innkeepertop.TopEcho", spec := "topEcho", unfollowed := true, recurses := true, named := ["math/bits.deBruijn32tab"], plainKeys := false, apart := false, laid := [("math/bits.deBruijn32tab", laid_math_bits_deBruijn32tab)] }
def TopEchoSaid : Prop := topEchoRow.holds Tryz.pinned (OpenSpec.ofChange topEchoSpec)

/-- ITS FALSE NEIGHBOUR: 'it returns false'. Refute it at one input. -/
def topEchoWrong : ChangeSpec := { name := "topEcho", fn := fun _ => fun
  | [d1, d2] => { results := [.lit (.bool false)], args := [d1, d2] }
  | _ => none }
def TopEchoWrongFalsely : Prop := topEchoRow.holds Tryz.pinned (OpenSpec.ofChange topEchoWrong)

/-- 'innkeepertop.TopTyped': WHATEVER THE INPUT: true; the input reads as it did. -/
def topTypedSpec : ChangeSpec := { name := "topTyped", fn := fun _ => fun
  | [d1, d2] => { results := [.lit (.bool true)], args := [d1, d2] }
  | _ => none }
def topTypedRow : OpenClaim := { program := "ytkegldppffignaagreatdoor", sum := "ea3f510a951032f6faa45a9ee1b0334fa99e80ed68030bebba74d1641a4d81f8", func := "innkeeper/innkeepertop.TopTyped", spec := "topTyped", unfollowed := true, recurses := true, named := ["math/bits.deBruijn32tab"], plainKeys := false, apart := false, laid := [("math/bits.deBruijn32tab", laid_math_bits_deBruijn32tab)] }
def TopTypedSaid : Prop := topTypedRow.holds Tryz.pinned (OpenSpec.ofChange topTypedSpec)

/-- ITS FALSE NEIGHBOUR: 'it returns false'. Refute it at one input. -/
def topTypedWrong : ChangeSpec := { name := "topTyped", fn := fun _ => fun
  | [d1, d2] => { results := [.lit (.bool false)], args := [d1, d2] }
  | _ => none }
def TopTypedWrongFalsely : Prop := topTypedRow.holds Tryz.pinned (OpenSpec.ofChange topTypedWrong)

/-- 'innkeeperlaw25.GuestNumbers': WHATEVER THE INPUT: true; the input reads as it did. -/
def guestNumbersSpec : ChangeSpec := { name := "guestNumbers", fn := fun _ => fun
  | [] => { results := [.lit (.bool true)], args := [] }
  | _ => none }
def guestNumbersRow : OpenClaim := { program := "ytkegldppffignaagreatdoor", sum := "ea3f510a951032f6faa45a9ee1b0334fa99e80ed68030bebba74d1641a4d81f8", func := "innkeeper/innkeeperlaw25.GuestNumbers", spec := "guestNumbers", unfollowed := true, recurses := true, named := ["math/bits.deBruijn32tab"], plainKeys := false, apart := false, laid := [("math/bits.deBruijn32tab", laid_math_bits_deBruijn32tab)] }
def GuestNumbersSaid : Prop := guestNumbersRow.holds Tryz.pinned (OpenSpec.ofChange guestNumbersSpec)

/-- ITS FALSE NEIGHBOUR: 'it returns false'. Refute it at one input. -/
def guestNumbersWrong : ChangeSpec := { name := "guestNumbers", fn := fun _ => fun
  | [] => { results := [.lit (.bool false)], args := [] }
  | _ => none }
def GuestNumbersWrongFalsely : Prop := guestNumbersRow.holds Tryz.pinned (OpenSpec.ofChange guestNumbersWrong)

/-- 'innkeepertop.TopSums': WHATEVER THE INPUT: true; the input reads as it did. -/
def topSumsSpec : ChangeSpec := { name := "topSums", fn := fun _ => fun
  | [d] => { results := [.lit (.bool true)], args := [d] }
  | _ => none }
def topSumsRow : OpenClaim := { program := "ytkegldppffignaagreatdoor", sum := "ea3f510a951032f6faa45a9ee1b0334fa99e80ed68030bebba74d1641a4d81f8", func := "innkeeper/innkeepertop.TopSums", spec := "topSums", unfollowed := true, recurses := true, named := ["math/bits.deBruijn32tab"], plainKeys := false, apart := false, laid := [("math/bits.deBruijn32tab", laid_math_bits_deBruijn32tab)] }
def TopSumsSaid : Prop := topSumsRow.holds Tryz.pinned (OpenSpec.ofChange topSumsSpec)

/-- ITS FALSE NEIGHBOUR: 'it returns false'. Refute it at one input. -/
def topSumsWrong : ChangeSpec := { name := "topSums", fn := fun _ => fun
  | [d] => { results := [.lit (.bool false)], args := [d] }
  | _ => none }
def TopSumsWrongFalsely : Prop := topSumsRow.holds Tryz.pinned (OpenSpec.ofChange topSumsWrong)

/-- 'innkeepertop.TopHalts': WHATEVER THE INPUT: true; the input reads as it did. -/
def topHaltsSpec : ChangeSpec := { name := "topHalts", fn := fun _ => fun
  | [d1, d2, d3] => { results := [.lit (.bool true)], args := [d1, d2, d3] }
  | _ => none }
def topHaltsRow : OpenClaim := { program := "ytkegldppffignaagreatdoor", sum := "ea3f510a951032f6faa45a9ee1b0334fa99e80ed68030bebba74d1641a4d81f8", func := "innkeeper/innkeepertop.TopHalts", spec := "topHalts", unfollowed := true, recurses := true, named := ["math/bits.deBruijn32tab"], plainKeys := false, apart := false, laid := [("math/bits.deBruijn32tab", laid_math_bits_deBruijn32tab)] }
def TopHaltsSaid : Prop := topHaltsRow.holds Tryz.pinned (OpenSpec.ofChange topHaltsSpec)

/-- ITS FALSE NEIGHBOUR: 'it returns false'. Refute it at one input. -/
def topHaltsWrong : ChangeSpec := { name := "topHalts", fn := fun _ => fun
  | [d1, d2, d3] => { results := [.lit (.bool false)], args := [d1, d2, d3] }
  | _ => none }
def TopHaltsWrongFalsely : Prop := topHaltsRow.holds Tryz.pinned (OpenSpec.ofChange topHaltsWrong)

/-- 'innkeepertop.TopGiven': WHATEVER THE INPUT: true; the input reads as it did. -/
def topGivenSpec : ChangeSpec := { name := "topGiven", fn := fun _ => fun
  | [d1, d2, d3] => { results := [.lit (.bool true)], args := [d1, d2, d3] }
  | _ => none }
def topGivenRow : OpenClaim := { program := "ytkegldppffignaagreatdoor", sum := "ea3f510a951032f6faa45a9ee1b0334fa99e80ed68030bebba74d1641a4d81f8", func := "innkeeper/innkeepertop.TopGiven", spec := "topGiven", unfollowed := true, recurses := true, named := ["math/bits.deBruijn32tab"], plainKeys := false, apart := false, laid := [("math/bits.deBruijn32tab", laid_math_bits_deBruijn32tab)] }
def TopGivenSaid : Prop := topGivenRow.holds Tryz.pinned (OpenSpec.ofChange topGivenSpec)

/-- ITS FALSE NEIGHBOUR: 'it returns false'. Refute it at one input. -/
def topGivenWrong : ChangeSpec := { name := "topGiven", fn := fun _ => fun
  | [d1, d2, d3] => { results := [.lit (.bool false)], args := [d1, d2, d3] }
  | _ => none }
def TopGivenWrongFalsely : Prop := topGivenRow.holds Tryz.pinned (OpenSpec.ofChange topGivenWrong)

/- THE SECOND FORM. 'bulk': how many values and letters a reading holds, each counted each time it is reached (what is shared counts as often as it is met; a slice's spare places count too). A statement '..UptoSaid' is the law's where the arguments, and the package variables that the reading takes, are together of bulk at most 1048576: NARROWER than '..Said'. Prove '..Said' where nothing that the law and all that it calls make is longer than what came in: it says more and counts as full. Else prove '..UptoSaid'. A law counts once. -/
mutual
def uptoBulk {H : Type} : DataW H → Nat
  | .lit (.string bytes) => bytes.length + 1
  | .lit _ => 1
  | .nil => 1
  | .ptr d => uptoBulk d + 1
  | .slice elems spare => uptoBulkAll elems + uptoBulkAll spare + 1
  | .agg parts => uptoBulkAll parts + 1
  | .iface _ d => uptoBulk d + 1
  | .map entries => uptoBulkEntries entries + 1
  | .held _ => 1
def uptoBulkAll {H : Type} : List (DataW H) → Nat
  | [] => 0
  | d :: r => uptoBulk d + uptoBulkAll r
def uptoBulkEntries {H : Type} : List (Lit × DataW H) → Nat
  | [] => 0
  | x :: r => uptoBulkEntry x + uptoBulkEntries r
def uptoBulkEntry {H : Type} : Lit × DataW H → Nat
  | (.string bytes, d) => bytes.length + uptoBulk d + 1
  | (_, d) => uptoBulk d + 1
 end
def uptoSmall : (H : Type) → List (DataW H) → Bool := fun _ ds => decide (uptoBulkAll ds ≤ 1048576)
def OpenSpec.upto (s : _root_.Go.ChangeSpec) : _root_.Go.OpenSpec := { _root_.Go.OpenSpec.ofChange s with cond := some uptoSmall }

/-- 'innkeepertop.TopEcho', WHERE WHAT IT READS IS OF BULK AT MOST 1048576: true; the input reads as it did. -/
def topEchoUptoRow : OpenClaim := { program := "ytkegldppffignaagreatdoor", sum := "ea3f510a951032f6faa45a9ee1b0334fa99e80ed68030bebba74d1641a4d81f8", func := "innkeeper/innkeepertop.TopEcho", spec := "topEcho", unfollowed := true, recurses := true, named := ["math/bits.deBruijn32tab"], plainKeys := false, apart := false, laid := [("math/bits.deBruijn32tab", laid_math_bits_deBruijn32tab)], narrowed := true }
def TopEchoUptoSaid : Prop := topEchoUptoRow.holds Tryz.pinned (OpenSpec.upto topEchoSpec)

/-- 'innkeepertop.TopTyped', WHERE WHAT IT READS IS OF BULK AT MOST 1048576: true; the input reads as it did. -/
def topTypedUptoRow : OpenClaim := { program := "ytkegldppffignaagreatdoor", sum := "ea3f510a951032f6faa45a9ee1b0334fa99e80ed68030bebba74d1641a4d81f8", func := "innkeeper/innkeepertop.TopTyped", spec := "topTyped", unfollowed := true, recurses := true, named := ["math/bits.deBruijn32tab"], plainKeys := false, apart := false, laid := [("math/bits.deBruijn32tab", laid_math_bits_deBruijn32tab)], narrowed := true }
def TopTypedUptoSaid : Prop := topTypedUptoRow.holds Tryz.pinned (OpenSpec.upto topTypedSpec)

/-- 'innkeeperlaw25.GuestNumbers', WHERE WHAT IT READS IS OF BULK AT MOST 1048576: true; the input reads as it did. -/
def guestNumbersUptoRow : OpenClaim := { program := "ytkegldppffignaagreatdoor", sum := "ea3f510a951032f6faa45a9ee1b0334fa99e80ed68030bebba74d1641a4d81f8", func := "innkeeper/innkeeperlaw25.GuestNumbers", spec := "guestNumbers", unfollowed := true, recurses := true, named := ["math/bits.deBruijn32tab"], plainKeys := false, apart := false, laid := [("math/bits.deBruijn32tab", laid_math_bits_deBruijn32tab)], narrowed := true }
def GuestNumbersUptoSaid : Prop := guestNumbersUptoRow.holds Tryz.pinned (OpenSpec.upto guestNumbersSpec)

/-- 'innkeepertop.TopSums', WHERE WHAT IT READS IS OF BULK AT MOST 1048576: true; the input reads as it did. -/
def topSumsUptoRow : OpenClaim := { program := "ytkegldppffignaagreatdoor", sum := "ea3f510a951032f6faa45a9ee1b0334fa99e80ed68030bebba74d1641a4d81f8", func := "innkeeper/innkeepertop.TopSums", spec := "topSums", unfollowed := true, recurses := true, named := ["math/bits.deBruijn32tab"], plainKeys := false, apart := false, laid := [("math/bits.deBruijn32tab", laid_math_bits_deBruijn32tab)], narrowed := true }
def TopSumsUptoSaid : Prop := topSumsUptoRow.holds Tryz.pinned (OpenSpec.upto topSumsSpec)

/-- 'innkeepertop.TopHalts', WHERE WHAT IT READS IS OF BULK AT MOST 1048576: true; the input reads as it did. -/
def topHaltsUptoRow : OpenClaim := { program := "ytkegldppffignaagreatdoor", sum := "ea3f510a951032f6faa45a9ee1b0334fa99e80ed68030bebba74d1641a4d81f8", func := "innkeeper/innkeepertop.TopHalts", spec := "topHalts", unfollowed := true, recurses := true, named := ["math/bits.deBruijn32tab"], plainKeys := false, apart := false, laid := [("math/bits.deBruijn32tab", laid_math_bits_deBruijn32tab)], narrowed := true }
def TopHaltsUptoSaid : Prop := topHaltsUptoRow.holds Tryz.pinned (OpenSpec.upto topHaltsSpec)

/-- 'innkeepertop.TopGiven', WHERE WHAT IT READS IS OF BULK AT MOST 1048576: true; the input reads as it did. -/
def topGivenUptoRow : OpenClaim := { program := "ytkegldppffignaagreatdoor", sum := "ea3f510a951032f6faa45a9ee1b0334fa99e80ed68030bebba74d1641a4d81f8", func := "innkeeper/innkeepertop.TopGiven", spec := "topGiven", unfollowed := true, recurses := true, named := ["math/bits.deBruijn32tab"], plainKeys := false, apart := false, laid := [("math/bits.deBruijn32tab", laid_math_bits_deBruijn32tab)], narrowed := true }
def TopGivenUptoSaid : Prop := topGivenUptoRow.holds Tryz.pinned (OpenSpec.upto topGivenSpec)

end Rows
end Go.Proofs.YtkegldppffignaaGreatDoor
