/-
  DERIVED. GIVEN WITH THE SEED: THE CARDS: each row of YtojejamfaeednaaGreatDoorRows.lean that lists a variable, with what it lists TIED to the program's text (the seventh form; the later family's looks); each row that meets fmt, with fmt's text TOLD by the authors' own Lean function (tested against real Go, not proved from fmt's source: count such statements apart). THE CARD IS WHAT COUNTS. Prove the row's statement (the work); the ties are given (YtojejamfaeednaaGreatDoorTie.lean); close each card by the builder's one call (the guide's Derived/Test/ToyasCard.lean, 'card_holds'). Laid BY PROGRAM, IN A SANDBOX (cutbox-door.mjs). By AI agents, Wed Nov 11 2026. No macro, syntax, notation, axiom, sorry.
-/
import Derived.Test.YtojejamfaeednaaGreatDoorRows
import GoSem.ClaimSeven
namespace Go.Proofs.YtojejamfaeednaaGreatDoor
namespace Rows

/-- THE TIED CARD OF 'innkeeperlaw18.BlockCounts'. -/
def blockCountsCard : Claim7 := { stood := { row := blockCountsRow, standIns := [], harness := (true, "ad888108fccc8e9f0af4d5249a31eeb93620a1a55f75c097cc15c0fadd119100"), looks := false }, kinds := [], alts := [], laidByText := true, laidKinds := [.data], laidTests := true, laidLooks := .later }
def BlockCountsCardSaid : Prop := Claim7.holds Tryz.pinned (.plain (OpenSpec.ofChange blockCountsSpec)) blockCountsCard

/-- THE TIED CARD OF 'innkeeperlaw18.BlockEnds'. -/
def blockEndsCard : Claim7 := { stood := { row := blockEndsRow, standIns := [], harness := (true, "ad888108fccc8e9f0af4d5249a31eeb93620a1a55f75c097cc15c0fadd119100"), looks := false }, kinds := [], alts := [], laidByText := true, laidKinds := [.data], laidTests := true, laidLooks := .later }
def BlockEndsCardSaid : Prop := Claim7.holds Tryz.pinned (.plain (OpenSpec.ofChange blockEndsSpec)) blockEndsCard

/-- THE TIED CARD OF 'innkeeperlaw18.BlockSelf'. -/
def blockSelfCard : Claim7 := { stood := { row := blockSelfRow, standIns := [], harness := (true, "ad888108fccc8e9f0af4d5249a31eeb93620a1a55f75c097cc15c0fadd119100"), looks := false }, kinds := [], alts := [], laidByText := true, laidKinds := [.data], laidTests := true, laidLooks := .later }
def BlockSelfCardSaid : Prop := Claim7.holds Tryz.pinned (.plain (OpenSpec.ofChange blockSelfSpec)) blockSelfCard

/-- THE TIED CARD OF 'innkeeperlaw18.BlockTraps'. -/
def blockTrapsCard : Claim7 := { stood := { row := blockTrapsRow, standIns := [], harness := (true, "ad888108fccc8e9f0af4d5249a31eeb93620a1a55f75c097cc15c0fadd119100"), looks := false }, kinds := [], alts := [], laidByText := true, laidKinds := [.data], laidTests := true, laidLooks := .later }
def BlockTrapsCardSaid : Prop := Claim7.holds Tryz.pinned (.plain (OpenSpec.ofChange blockTrapsSpec)) blockTrapsCard

/-- THE TIED CARD OF 'innkeeperlaw18.BlockIrqs'. -/
def blockIrqsCard : Claim7 := { stood := { row := blockIrqsRow, standIns := [], harness := (true, "ad888108fccc8e9f0af4d5249a31eeb93620a1a55f75c097cc15c0fadd119100"), looks := false }, kinds := [], alts := [], laidByText := true, laidKinds := [.data], laidTests := true, laidLooks := .later }
def BlockIrqsCardSaid : Prop := Claim7.holds Tryz.pinned (.plain (OpenSpec.ofChange blockIrqsSpec)) blockIrqsCard

/-- THE TIED CARD OF 'innkeeperlaw18.BlockFetches'. -/
def blockFetchesCard : Claim7 := { stood := { row := blockFetchesRow, standIns := [], harness := (true, "ad888108fccc8e9f0af4d5249a31eeb93620a1a55f75c097cc15c0fadd119100"), looks := false }, kinds := [], alts := [], laidByText := true, laidKinds := [.data], laidTests := true, laidLooks := .later }
def BlockFetchesCardSaid : Prop := Claim7.holds Tryz.pinned (.plain (OpenSpec.ofChange blockFetchesSpec)) blockFetchesCard

/-- THE TIED CARD OF 'innkeeperlaw18.BlockPieces'. -/
def blockPiecesCard : Claim7 := { stood := { row := blockPiecesRow, standIns := [], harness := (true, "ad888108fccc8e9f0af4d5249a31eeb93620a1a55f75c097cc15c0fadd119100"), looks := false }, kinds := [], alts := [], laidByText := true, laidKinds := [.data], laidTests := true, laidLooks := .later }
def BlockPiecesCardSaid : Prop := Claim7.holds Tryz.pinned (.plain (OpenSpec.ofChange blockPiecesSpec)) blockPiecesCard

/-- THE TIED CARD OF 'innkeeperlaw18.BlockBytes'. -/
def blockBytesCard : Claim7 := { stood := { row := blockBytesRow, standIns := [], harness := (true, "ad888108fccc8e9f0af4d5249a31eeb93620a1a55f75c097cc15c0fadd119100"), looks := false }, kinds := [], alts := [], laidByText := true, laidKinds := [.data], laidTests := true, laidLooks := .later }
def BlockBytesCardSaid : Prop := Claim7.holds Tryz.pinned (.plain (OpenSpec.ofChange blockBytesSpec)) blockBytesCard

/-- THE TIED CARD OF 'innkeeperlaw18.BlockNumbers'. -/
def blockNumbersCard : Claim7 := { stood := { row := blockNumbersRow, standIns := [], harness := (true, "ad888108fccc8e9f0af4d5249a31eeb93620a1a55f75c097cc15c0fadd119100"), looks := false }, kinds := [], alts := [], laidByText := true, laidKinds := [.data], laidTests := true, laidLooks := .later }
def BlockNumbersCardSaid : Prop := Claim7.holds Tryz.pinned (.plain (OpenSpec.ofChange blockNumbersSpec)) blockNumbersCard

/-- THE TIED CARD OF 'innkeeperlaw18.BlockPlays'. -/
def blockPlaysCard : Claim7 := { stood := { row := blockPlaysRow, standIns := [], harness := (true, "ad888108fccc8e9f0af4d5249a31eeb93620a1a55f75c097cc15c0fadd119100"), looks := false }, kinds := [], alts := [], laidByText := true, laidKinds := [.data], laidTests := true, laidLooks := .later }
def BlockPlaysCardSaid : Prop := Claim7.holds Tryz.pinned (.plain (OpenSpec.ofChange blockPlaysSpec)) blockPlaysCard

/-- THE TIED CARD OF 'innkeeperlaw18.BlockBegins'. -/
def blockBeginsCard : Claim7 := { stood := { row := blockBeginsRow, standIns := [], harness := (true, "ad888108fccc8e9f0af4d5249a31eeb93620a1a55f75c097cc15c0fadd119100"), looks := false }, kinds := [], alts := [], laidByText := true, laidKinds := [.data], laidTests := true, laidLooks := .later }
def BlockBeginsCardSaid : Prop := Claim7.holds Tryz.pinned (.plain (OpenSpec.ofChange blockBeginsSpec)) blockBeginsCard

/-- THE TIED CARD OF 'innkeeperlaw24.EngineBlocks'. -/
def engineBlocksCard : Claim7 := { stood := { row := engineBlocksRow, standIns := [], harness := (true, "ad888108fccc8e9f0af4d5249a31eeb93620a1a55f75c097cc15c0fadd119100"), looks := false }, kinds := [], alts := [], laidByText := true, laidKinds := [.data], laidTests := true, laidLooks := .later }
def EngineBlocksCardSaid : Prop := Claim7.holds Tryz.pinned (.plain (OpenSpec.ofChange engineBlocksSpec)) engineBlocksCard

/-- THE SECOND FORM's CARD OF 'innkeeperlaw18.BlockCounts'. -/
def blockCountsUptoCard : Claim7 := { stood := { row := blockCountsUptoRow, standIns := [], harness := (true, "ad888108fccc8e9f0af4d5249a31eeb93620a1a55f75c097cc15c0fadd119100"), looks := false }, kinds := [], alts := [], laidByText := true, laidKinds := [.data], laidTests := true, laidLooks := .later }
def BlockCountsUptoCardSaid : Prop := Claim7.holds Tryz.pinned (.plain (OpenSpec.upto blockCountsSpec)) blockCountsUptoCard

/-- THE SECOND FORM's CARD OF 'innkeeperlaw18.BlockEnds'. -/
def blockEndsUptoCard : Claim7 := { stood := { row := blockEndsUptoRow, standIns := [], harness := (true, "ad888108fccc8e9f0af4d5249a31eeb93620a1a55f75c097cc15c0fadd119100"), looks := false }, kinds := [], alts := [], laidByText := true, laidKinds := [.data], laidTests := true, laidLooks := .later }
def BlockEndsUptoCardSaid : Prop := Claim7.holds Tryz.pinned (.plain (OpenSpec.upto blockEndsSpec)) blockEndsUptoCard

/-- THE SECOND FORM's CARD OF 'innkeeperlaw18.BlockSelf'. -/
def blockSelfUptoCard : Claim7 := { stood := { row := blockSelfUptoRow, standIns := [], harness := (true, "ad888108fccc8e9f0af4d5249a31eeb93620a1a55f75c097cc15c0fadd119100"), looks := false }, kinds := [], alts := [], laidByText := true, laidKinds := [.data], laidTests := true, laidLooks := .later }
def BlockSelfUptoCardSaid : Prop := Claim7.holds Tryz.pinned (.plain (OpenSpec.upto blockSelfSpec)) blockSelfUptoCard

/-- THE SECOND FORM's CARD OF 'innkeeperlaw18.BlockTraps'. -/
def blockTrapsUptoCard : Claim7 := { stood := { row := blockTrapsUptoRow, standIns := [], harness := (true, "ad888108fccc8e9f0af4d5249a31eeb93620a1a55f75c097cc15c0fadd119100"), looks := false }, kinds := [], alts := [], laidByText := true, laidKinds := [.data], laidTests := true, laidLooks := .later }
def BlockTrapsUptoCardSaid : Prop := Claim7.holds Tryz.pinned (.plain (OpenSpec.upto blockTrapsSpec)) blockTrapsUptoCard

/-- THE SECOND FORM's CARD OF 'innkeeperlaw18.BlockIrqs'. -/
def blockIrqsUptoCard : Claim7 := { stood := { row := blockIrqsUptoRow, standIns := [], harness := (true, "ad888108fccc8e9f0af4d5249a31eeb93620a1a55f75c097cc15c0fadd119100"), looks := false }, kinds := [], alts := [], laidByText := true, laidKinds := [.data], laidTests := true, laidLooks := .later }
def BlockIrqsUptoCardSaid : Prop := Claim7.holds Tryz.pinned (.plain (OpenSpec.upto blockIrqsSpec)) blockIrqsUptoCard

/-- THE SECOND FORM's CARD OF 'innkeeperlaw18.BlockFetches'. -/
def blockFetchesUptoCard : Claim7 := { stood := { row := blockFetchesUptoRow, standIns := [], harness := (true, "ad888108fccc8e9f0af4d5249a31eeb93620a1a55f75c097cc15c0fadd119100"), looks := false }, kinds := [], alts := [], laidByText := true, laidKinds := [.data], laidTests := true, laidLooks := .later }
def BlockFetchesUptoCardSaid : Prop := Claim7.holds Tryz.pinned (.plain (OpenSpec.upto blockFetchesSpec)) blockFetchesUptoCard

/-- THE SECOND FORM's CARD OF 'innkeeperlaw18.BlockPieces'. -/
def blockPiecesUptoCard : Claim7 := { stood := { row := blockPiecesUptoRow, standIns := [], harness := (true, "ad888108fccc8e9f0af4d5249a31eeb93620a1a55f75c097cc15c0fadd119100"), looks := false }, kinds := [], alts := [], laidByText := true, laidKinds := [.data], laidTests := true, laidLooks := .later }
def BlockPiecesUptoCardSaid : Prop := Claim7.holds Tryz.pinned (.plain (OpenSpec.upto blockPiecesSpec)) blockPiecesUptoCard

/-- THE SECOND FORM's CARD OF 'innkeeperlaw18.BlockBytes'. -/
def blockBytesUptoCard : Claim7 := { stood := { row := blockBytesUptoRow, standIns := [], harness := (true, "ad888108fccc8e9f0af4d5249a31eeb93620a1a55f75c097cc15c0fadd119100"), looks := false }, kinds := [], alts := [], laidByText := true, laidKinds := [.data], laidTests := true, laidLooks := .later }
def BlockBytesUptoCardSaid : Prop := Claim7.holds Tryz.pinned (.plain (OpenSpec.upto blockBytesSpec)) blockBytesUptoCard

/-- THE SECOND FORM's CARD OF 'innkeeperlaw18.BlockNumbers'. -/
def blockNumbersUptoCard : Claim7 := { stood := { row := blockNumbersUptoRow, standIns := [], harness := (true, "ad888108fccc8e9f0af4d5249a31eeb93620a1a55f75c097cc15c0fadd119100"), looks := false }, kinds := [], alts := [], laidByText := true, laidKinds := [.data], laidTests := true, laidLooks := .later }
def BlockNumbersUptoCardSaid : Prop := Claim7.holds Tryz.pinned (.plain (OpenSpec.upto blockNumbersSpec)) blockNumbersUptoCard

/-- THE SECOND FORM's CARD OF 'innkeeperlaw18.BlockPlays'. -/
def blockPlaysUptoCard : Claim7 := { stood := { row := blockPlaysUptoRow, standIns := [], harness := (true, "ad888108fccc8e9f0af4d5249a31eeb93620a1a55f75c097cc15c0fadd119100"), looks := false }, kinds := [], alts := [], laidByText := true, laidKinds := [.data], laidTests := true, laidLooks := .later }
def BlockPlaysUptoCardSaid : Prop := Claim7.holds Tryz.pinned (.plain (OpenSpec.upto blockPlaysSpec)) blockPlaysUptoCard

/-- THE SECOND FORM's CARD OF 'innkeeperlaw18.BlockBegins'. -/
def blockBeginsUptoCard : Claim7 := { stood := { row := blockBeginsUptoRow, standIns := [], harness := (true, "ad888108fccc8e9f0af4d5249a31eeb93620a1a55f75c097cc15c0fadd119100"), looks := false }, kinds := [], alts := [], laidByText := true, laidKinds := [.data], laidTests := true, laidLooks := .later }
def BlockBeginsUptoCardSaid : Prop := Claim7.holds Tryz.pinned (.plain (OpenSpec.upto blockBeginsSpec)) blockBeginsUptoCard

/-- THE SECOND FORM's CARD OF 'innkeeperlaw24.EngineBlocks'. -/
def engineBlocksUptoCard : Claim7 := { stood := { row := engineBlocksUptoRow, standIns := [], harness := (true, "ad888108fccc8e9f0af4d5249a31eeb93620a1a55f75c097cc15c0fadd119100"), looks := false }, kinds := [], alts := [], laidByText := true, laidKinds := [.data], laidTests := true, laidLooks := .later }
def EngineBlocksUptoCardSaid : Prop := Claim7.holds Tryz.pinned (.plain (OpenSpec.upto engineBlocksSpec)) engineBlocksUptoCard
end Rows
end Go.Proofs.YtojejamfaeednaaGreatDoor
