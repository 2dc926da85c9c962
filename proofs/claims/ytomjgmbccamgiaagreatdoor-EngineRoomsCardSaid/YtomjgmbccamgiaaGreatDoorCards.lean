/-
  DERIVED. GIVEN WITH THE SEED: THE CARDS: each row of YtomjgmbccamgiaaGreatDoorRows.lean that lists a variable, with what it lists TIED to the program's text (the seventh form; the later family's looks); each row that meets fmt, with fmt's text TOLD by the authors' own Lean function (tested against real Go, not proved from fmt's source: count such statements apart). THE CARD IS WHAT COUNTS. Prove the row's statement (the work); the ties are given (YtomjgmbccamgiaaGreatDoorTie.lean); close each card by the builder's one call (the guide's Derived/Test/ToyasCard.lean, 'card_holds'). Laid BY PROGRAM, IN A SANDBOX (cutbox-door.mjs). By AI agents, Wed Nov 11 2026. No macro, syntax, notation, axiom, sorry.
-/
import Derived.Test.YtomjgmbccamgiaaGreatDoorRows
import GoSem.ClaimSeven
namespace Go.Proofs.YtomjgmbccamgiaaGreatDoor
namespace Rows

/-- THE TIED CARD OF 'innkeeperlaw24.EngineRooms'. -/
def engineRoomsCard : Claim7 := { stood := { row := engineRoomsRow, standIns := [], harness := (true, "cf270a9976a120e170fb3a88c9a8700c86a99be958edcbb39dbfceee4e94472e"), looks := false }, kinds := [], alts := [], laidByText := true, laidKinds := [.data], laidTests := true, laidLooks := .later }
def EngineRoomsCardSaid : Prop := Claim7.holds Tryz.pinned (.plain (OpenSpec.ofChange engineRoomsSpec)) engineRoomsCard

/-- THE TIED CARD OF 'innkeeperlaw24.EngineTurns'. -/
def engineTurnsCard : Claim7 := { stood := { row := engineTurnsRow, standIns := [], harness := (true, "cf270a9976a120e170fb3a88c9a8700c86a99be958edcbb39dbfceee4e94472e"), looks := false }, kinds := [], alts := [], laidByText := true, laidKinds := [.data], laidTests := true, laidLooks := .later }
def EngineTurnsCardSaid : Prop := Claim7.holds Tryz.pinned (.plain (OpenSpec.ofChange engineTurnsSpec)) engineTurnsCard

/-- THE TIED CARD OF 'innkeeperlaw24.EngineBlocks'. -/
def engineBlocksCard : Claim7 := { stood := { row := engineBlocksRow, standIns := [], harness := (true, "cf270a9976a120e170fb3a88c9a8700c86a99be958edcbb39dbfceee4e94472e"), looks := false }, kinds := [], alts := [], laidByText := true, laidKinds := [.data], laidTests := true, laidLooks := .later }
def EngineBlocksCardSaid : Prop := Claim7.holds Tryz.pinned (.plain (OpenSpec.ofChange engineBlocksSpec)) engineBlocksCard

/-- THE SECOND FORM's CARD OF 'innkeeperlaw24.EngineRooms'. -/
def engineRoomsUptoCard : Claim7 := { stood := { row := engineRoomsUptoRow, standIns := [], harness := (true, "cf270a9976a120e170fb3a88c9a8700c86a99be958edcbb39dbfceee4e94472e"), looks := false }, kinds := [], alts := [], laidByText := true, laidKinds := [.data], laidTests := true, laidLooks := .later }
def EngineRoomsUptoCardSaid : Prop := Claim7.holds Tryz.pinned (.plain (OpenSpec.upto engineRoomsSpec)) engineRoomsUptoCard

/-- THE SECOND FORM's CARD OF 'innkeeperlaw24.EngineTurns'. -/
def engineTurnsUptoCard : Claim7 := { stood := { row := engineTurnsUptoRow, standIns := [], harness := (true, "cf270a9976a120e170fb3a88c9a8700c86a99be958edcbb39dbfceee4e94472e"), looks := false }, kinds := [], alts := [], laidByText := true, laidKinds := [.data], laidTests := true, laidLooks := .later }
def EngineTurnsUptoCardSaid : Prop := Claim7.holds Tryz.pinned (.plain (OpenSpec.upto engineTurnsSpec)) engineTurnsUptoCard

/-- THE SECOND FORM's CARD OF 'innkeeperlaw24.EngineBlocks'. -/
def engineBlocksUptoCard : Claim7 := { stood := { row := engineBlocksUptoRow, standIns := [], harness := (true, "cf270a9976a120e170fb3a88c9a8700c86a99be958edcbb39dbfceee4e94472e"), looks := false }, kinds := [], alts := [], laidByText := true, laidKinds := [.data], laidTests := true, laidLooks := .later }
def EngineBlocksUptoCardSaid : Prop := Claim7.holds Tryz.pinned (.plain (OpenSpec.upto engineBlocksSpec)) engineBlocksUptoCard
end Rows
end Go.Proofs.YtomjgmbccamgiaaGreatDoor
