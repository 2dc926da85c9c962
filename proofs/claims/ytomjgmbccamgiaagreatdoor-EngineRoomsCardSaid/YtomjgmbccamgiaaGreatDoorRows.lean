/-
  NARROWER THAN 'FOR EVERY INPUT', by the rows' own cells (each row's printed sentence says how): EngineRooms: laid · EngineTurns: laid · EngineBlocks: laid.
  DERIVED. THE GIVEN ROWS OF THIS SEAT. 3 by the template 'for every input the law returns true; each argument reads behind the call as it read before'; 0 by the template 'total and deterministic' (their statements: YtomjgmbccamgiaaGreatDoorTotals.lean).
  GIVEN WITH THE SEED: the statements are not yours to turn. If you find one false, say at which input.
  Laid BY PROGRAM, IN A SANDBOX (cutbox-rows.mjs): the forced cells as the released guide's own fill.sh prints them over the translation fb0d787deb36dd1f… (all of the seat's roots in one cut). By AI agents, Wed Nov 11 2026. No macro, syntax, notation, axiom, sorry.
-/
import Derived.Test.YtomjgmbccamgiaaGreatDoorChecked
import GoSem.Claim
import GoSem.ClaimJoined
import GoSem.ClaimMapViews
import Derived.JoinedTies
import Derived.KernelRfl
namespace Go.Proofs.YtomjgmbccamgiaaGreatDoor
/- THE CELL 'sum', in the pinned program and in every row, IS THE sha256 OF THE DUMP (.gsa) THAT YtomjgmbccamgiaaGreatDoorProg.lean LOADS. Nothing in Lean hashes anything: it is a label: what it is worth is what the hold of that sum in a sandbox is worth. -/
noncomputable def Tryz.pinned : Pinned := { name := "ytomjgmbccamgiaagreatdoor", sum := "fb0d787deb36dd1f381efb34a9f12ca309000ddea972d7b4ea0aedc0df21536e", checked := Tryz.checked }
namespace Rows
def none {H : Type} : Left H := { results := [], args := [] }

/- WHAT THE LISTED PACKAGE-LEVEL VARIABLES READ AS WHEN THE CALL BEGINS. Each datum BY PROGRAM (the guide's laid-datum.mjs) off the statement by which the dump's own 'gosem.cut.vars' lays the variable. In a bare row this is a premise. The card (YtomjgmbccamgiaaGreatDoorCards.lean) ties it to the program's text. -/
def laid_math_bits_deBruijn32tab {H : Type} : DataW H := .agg [.lit (.int .u8 0), .lit (.int .u8 1), .lit (.int .u8 28), .lit (.int .u8 2), .lit (.int .u8 29), .lit (.int .u8 14), .lit (.int .u8 24), .lit (.int .u8 3), .lit (.int .u8 30), .lit (.int .u8 22), .lit (.int .u8 20), .lit (.int .u8 15), .lit (.int .u8 25), .lit (.int .u8 17), .lit (.int .u8 4), .lit (.int .u8 8), .lit (.int .u8 31), .lit (.int .u8 27), .lit (.int .u8 13), .lit (.int .u8 23), .lit (.int .u8 21), .lit (.int .u8 19), .lit (.int .u8 16), .lit (.int .u8 7), .lit (.int .u8 26), .lit (.int .u8 12), .lit (.int .u8 18), .lit (.int .u8 6), .lit (.int .u8 11), .lit (.int .u8 5), .lit (.int .u8 10), .lit (.int .u8 9)]

/-- 'innkeeperlaw24.EngineRooms': WHATEVER THE INPUT: true; the input reads as it did. -/
def engineRoomsSpec : ChangeSpec := { name := "engineRooms", fn := fun _ => fun
  | [d1, d2, d3, d4, d5] => { results := [.lit (.bool true)], args := [d1, d2, d3, d4, d5] }
  | _ => none }
def engineRoomsRow : OpenClaim := { program := "ytomjgmbccamgiaagreatdoor", sum := "fb0d787deb36dd1f381efb34a9f12ca309000ddea972d7b4ea0aedc0df21536e", func := "innkeeper/innkeeperlaw24.EngineRooms", spec := "engineRooms", unfollowed := true, recurses := true, named := ["math/bits.deBruijn32tab"], plainKeys := false, apart := false, laid := [("math/bits.deBruijn32tab", laid_math_bits_deBruijn32tab)] }
def EngineRoomsSaid : Prop := engineRoomsRow.holds Tryz.pinned (OpenSpec.ofChange engineRoomsSpec)

/-- ITS FALSE NEIGHBOUR: 'it returns false'. Refute it at one input. -/
def engineRoomsWrong : ChangeSpec := { name := "engineRooms", fn := fun _ => fun
  | [d1, d2, d3, d4, d5] => { results := [.lit (.bool false)], args := [d1, d2, d3, d4, d5] }
  | _ => none }
def EngineRoomsWrongFalsely : Prop := engineRoomsRow.holds Tryz.pinned (OpenSpec.ofChange engineRoomsWrong)

/-- 'innkeeperlaw24.EngineTurns': WHATEVER THE INPUT: true; the input reads as it did. -/
def engineTurnsSpec : ChangeSpec := { name := "engineTurns", fn := fun _ => fun
  | [d1, d2, d3, d4] => { results := [.lit (.bool true)], args := [d1, d2, d3, d4] }
  | _ => none }
def engineTurnsRow : OpenClaim := { program := "ytomjgmbccamgiaagreatdoor", sum := "fb0d787deb36dd1f381efb34a9f12ca309000ddea972d7b4ea0aedc0df21536e", func := "innkeeper/innkeeperlaw24.EngineTurns", spec := "engineTurns", unfollowed := true, recurses := true, named := ["math/bits.deBruijn32tab"], plainKeys := false, apart := false, laid := [("math/bits.deBruijn32tab", laid_math_bits_deBruijn32tab)] }
def EngineTurnsSaid : Prop := engineTurnsRow.holds Tryz.pinned (OpenSpec.ofChange engineTurnsSpec)

/-- ITS FALSE NEIGHBOUR: 'it returns false'. Refute it at one input. -/
def engineTurnsWrong : ChangeSpec := { name := "engineTurns", fn := fun _ => fun
  | [d1, d2, d3, d4] => { results := [.lit (.bool false)], args := [d1, d2, d3, d4] }
  | _ => none }
def EngineTurnsWrongFalsely : Prop := engineTurnsRow.holds Tryz.pinned (OpenSpec.ofChange engineTurnsWrong)

/-- 'innkeeperlaw24.EngineBlocks': WHATEVER THE INPUT: true; the input reads as it did. -/
def engineBlocksSpec : ChangeSpec := { name := "engineBlocks", fn := fun _ => fun
  | [d1, d2, d3, d4] => { results := [.lit (.bool true)], args := [d1, d2, d3, d4] }
  | _ => none }
def engineBlocksRow : OpenClaim := { program := "ytomjgmbccamgiaagreatdoor", sum := "fb0d787deb36dd1f381efb34a9f12ca309000ddea972d7b4ea0aedc0df21536e", func := "innkeeper/innkeeperlaw24.EngineBlocks", spec := "engineBlocks", unfollowed := true, recurses := true, named := ["math/bits.deBruijn32tab"], plainKeys := false, apart := false, laid := [("math/bits.deBruijn32tab", laid_math_bits_deBruijn32tab)] }
def EngineBlocksSaid : Prop := engineBlocksRow.holds Tryz.pinned (OpenSpec.ofChange engineBlocksSpec)

/-- ITS FALSE NEIGHBOUR: 'it returns false'. Refute it at one input. -/
def engineBlocksWrong : ChangeSpec := { name := "engineBlocks", fn := fun _ => fun
  | [d1, d2, d3, d4] => { results := [.lit (.bool false)], args := [d1, d2, d3, d4] }
  | _ => none }
def EngineBlocksWrongFalsely : Prop := engineBlocksRow.holds Tryz.pinned (OpenSpec.ofChange engineBlocksWrong)

/- THE SECOND FORM. 'bulk': how many values and letters a reading holds, each counted each time it is reached (what is shared counts as often as it is met; a slice's spare places count too). A statement '..UptoSaid' is the law's where the arguments, and the package variables that the reading takes, are together of bulk at most 1048576: NARROWER than '..Said'. Prove '..Said' where nothing that the law and all that it calls make is longer than what came in: it says more and counts as full. Else prove '..UptoSaid'. A law counts once. -/
mutual
def uptoBulk {H : Type} : DataW H → Nat
  | .lit (.string bytes) => bytes.length + 1
  | .lit _ => 1
  | .nil => 1
  | .ptr d => uptoBulk d + 1
  | .slice elems spare => uptoBulkAll elems + uptoBulkAll spare + 1
  | .agg parts => uptoBulkAll parts + 1
  | .iface _ d => uptoBulk d + 1
  | .map entries => uptoBulkEntries entries + 1
  | .held _ => 1
def uptoBulkAll {H : Type} : List (DataW H) → Nat
  | [] => 0
  | d :: r => uptoBulk d + uptoBulkAll r
def uptoBulkEntries {H : Type} : List (Lit × DataW H) → Nat
  | [] => 0
  | x :: r => uptoBulkEntry x + uptoBulkEntries r
def uptoBulkEntry {H : Type} : Lit × DataW H → Nat
  | (.string bytes, d) => bytes.length + uptoBulk d + 1
  | (_, d) => uptoBulk d + 1
 end
def uptoSmall : (H : Type) → List (DataW H) → Bool := fun _ ds => decide (uptoBulkAll ds ≤ 1048576)
def OpenSpec.upto (s : _root_.Go.ChangeSpec) : _root_.Go.OpenSpec := { _root_.Go.OpenSpec.ofChange s with cond := some uptoSmall }

/-- 'innkeeperlaw24.EngineRooms', WHERE WHAT IT READS IS OF BULK AT MOST 1048576: true; the input reads as it did. -/
def engineRoomsUptoRow : OpenClaim := { program := "ytomjgmbccamgiaagreatdoor", sum := "fb0d787deb36dd1f381efb34a9f12ca309000ddea972d7b4ea0aedc0df21536e", func := "innkeeper/innkeeperlaw24.EngineRooms", spec := "engineRooms", unfollowed := true, recurses := true, named := ["math/bits.deBruijn32tab"], plainKeys := false, apart := false, laid := [("math/bits.deBruijn32tab", laid_math_bits_deBruijn32tab)], narrowed := true }
def EngineRoomsUptoSaid : Prop := engineRoomsUptoRow.holds Tryz.pinned (OpenSpec.upto engineRoomsSpec)

/-- 'innkeeperlaw24.EngineTurns', WHERE WHAT IT READS IS OF BULK AT MOST 1048576: true; the input reads as it did. -/
def engineTurnsUptoRow : OpenClaim := { program := "ytomjgmbccamgiaagreatdoor", sum := "fb0d787deb36dd1f381efb34a9f12ca309000ddea972d7b4ea0aedc0df21536e", func := "innkeeper/innkeeperlaw24.EngineTurns", spec := "engineTurns", unfollowed := true, recurses := true, named := ["math/bits.deBruijn32tab"], plainKeys := false, apart := false, laid := [("math/bits.deBruijn32tab", laid_math_bits_deBruijn32tab)], narrowed := true }
def EngineTurnsUptoSaid : Prop := engineTurnsUptoRow.holds Tryz.pinned (OpenSpec.upto engineTurnsSpec)

/-- 'innkeeperlaw24.EngineBlocks', WHERE WHAT IT READS IS OF BULK AT MOST 1048576: true; the input reads as it did. -/
def engineBlocksUptoRow : OpenClaim := { program := "ytomjgmbccamgiaagreatdoor", sum := "fb0d787deb36dd1f381efb34a9f12ca309000ddea972d7b4ea0aedc0df21536e", func := "innkeeper/innkeeperlaw24.EngineBlocks", spec := "engineBlocks", unfollowed := true, recurses := true, named := ["math/bits.deBruijn32tab"], plainKeys := false, apart := false, laid := [("math/bits.deBruijn32tab", laid_math_bits_deBruijn32tab)], narrowed := true }
def EngineBlocksUptoSaid : Prop := engineBlocksUptoRow.holds Tryz.pinned (OpenSpec.upto engineBlocksSpec)

end Rows
end Go.Proofs.YtomjgmbccamgiaaGreatDoor
