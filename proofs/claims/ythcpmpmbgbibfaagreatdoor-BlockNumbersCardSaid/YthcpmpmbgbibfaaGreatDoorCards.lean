/-
  DERIVED. GIVEN WITH THE SEED: THE CARDS: each row of YthcpmpmbgbibfaaGreatDoorRows.lean that lists a variable, with what it lists TIED to the program's text (the seventh form; the later family's looks); each row that meets fmt, with fmt's text TOLD by the authors' own Lean function (tested against real Go, not proved from fmt's source: count such statements apart). THE CARD IS WHAT COUNTS. Prove the row's statement (the work); the ties are given (YthcpmpmbgbibfaaGreatDoorTie.lean); close each card by the builder's one call (the guide's Derived/Test/ToyasCard.lean, 'card_holds'). Laid BY PROGRAM, IN A SANDBOX (cutbox-door.mjs). By AI agents, Wed Nov 11 2026. No macro, syntax, notation, axiom, sorry.
-/
import Derived.Test.YthcpmpmbgbibfaaGreatDoorRows
import GoSem.ClaimSeven
namespace Go.Proofs.YthcpmpmbgbibfaaGreatDoor
namespace Rows

/-- THE TIED CARD OF 'innkeeperlaw18.BlockPieces'. -/
def blockPiecesCard : Claim7 := { stood := { row := blockPiecesRow, standIns := [], harness := (true, "d6b297d34c03242a2218fd24e38d92fd93b95c144d66b776cfb4188b526aa567"), looks := false }, kinds := [], alts := [], laidByText := true, laidKinds := [.data], laidTests := true, laidLooks := .later }
def BlockPiecesCardSaid : Prop := Claim7.holds Tryz.pinned (.plain (OpenSpec.ofChange blockPiecesSpec)) blockPiecesCard

/-- THE TIED CARD OF 'innkeeperlaw18.BlockBytes'. -/
def blockBytesCard : Claim7 := { stood := { row := blockBytesRow, standIns := [], harness := (true, "d6b297d34c03242a2218fd24e38d92fd93b95c144d66b776cfb4188b526aa567"), looks := false }, kinds := [], alts := [], laidByText := true, laidKinds := [.data], laidTests := true, laidLooks := .later }
def BlockBytesCardSaid : Prop := Claim7.holds Tryz.pinned (.plain (OpenSpec.ofChange blockBytesSpec)) blockBytesCard

/-- THE TIED CARD OF 'innkeeperlaw18.BlockNumbers'. -/
def blockNumbersCard : Claim7 := { stood := { row := blockNumbersRow, standIns := [], harness := (true, "d6b297d34c03242a2218fd24e38d92fd93b95c144d66b776cfb4188b526aa567"), looks := false }, kinds := [], alts := [], laidByText := true, laidKinds := [.data], laidTests := true, laidLooks := .later }
def BlockNumbersCardSaid : Prop := Claim7.holds Tryz.pinned (.plain (OpenSpec.ofChange blockNumbersSpec)) blockNumbersCard

/-- THE TIED CARD OF 'innkeeperlaw18.BlockPlays'. -/
def blockPlaysCard : Claim7 := { stood := { row := blockPlaysRow, standIns := [], harness := (true, "d6b297d34c03242a2218fd24e38d92fd93b95c144d66b776cfb4188b526aa567"), looks := false }, kinds := [], alts := [], laidByText := true, laidKinds := [.data], laidTests := true, laidLooks := .later }
def BlockPlaysCardSaid : Prop := Claim7.holds Tryz.pinned (.plain (OpenSpec.ofChange blockPlaysSpec)) blockPlaysCard

/-- THE TIED CARD OF 'innkeeperlaw18.BlockBegins'. -/
def blockBeginsCard : Claim7 := { stood := { row := blockBeginsRow, standIns := [], harness := (true, "d6b297d34c03242a2218fd24e38d92fd93b95c144d66b776cfb4188b526aa567"), looks := false }, kinds := [], alts := [], laidByText := true, laidKinds := [.data], laidTests := true, laidLooks := .later }
def BlockBeginsCardSaid : Prop := Claim7.holds Tryz.pinned (.plain (OpenSpec.ofChange blockBeginsSpec)) blockBeginsCard

/-- THE SECOND FORM's CARD OF 'innkeeperlaw18.BlockPieces'. -/
def blockPiecesUptoCard : Claim7 := { stood := { row := blockPiecesUptoRow, standIns := [], harness := (true, "d6b297d34c03242a2218fd24e38d92fd93b95c144d66b776cfb4188b526aa567"), looks := false }, kinds := [], alts := [], laidByText := true, laidKinds := [.data], laidTests := true, laidLooks := .later }
def BlockPiecesUptoCardSaid : Prop := Claim7.holds Tryz.pinned (.plain (OpenSpec.upto blockPiecesSpec)) blockPiecesUptoCard

/-- THE SECOND FORM's CARD OF 'innkeeperlaw18.BlockBytes'. -/
def blockBytesUptoCard : Claim7 := { stood := { row := blockBytesUptoRow, standIns := [], harness := (true, "d6b297d34c03242a2218fd24e38d92fd93b95c144d66b776cfb4188b526aa567"), looks := false }, kinds := [], alts := [], laidByText := true, laidKinds := [.data], laidTests := true, laidLooks := .later }
def BlockBytesUptoCardSaid : Prop := Claim7.holds Tryz.pinned (.plain (OpenSpec.upto blockBytesSpec)) blockBytesUptoCard

/-- THE SECOND FORM's CARD OF 'innkeeperlaw18.BlockNumbers'. -/
def blockNumbersUptoCard : Claim7 := { stood := { row := blockNumbersUptoRow, standIns := [], harness := (true, "d6b297d34c03242a2218fd24e38d92fd93b95c144d66b776cfb4188b526aa567"), looks := false }, kinds := [], alts := [], laidByText := true, laidKinds := [.data], laidTests := true, laidLooks := .later }
def BlockNumbersUptoCardSaid : Prop := Claim7.holds Tryz.pinned (.plain (OpenSpec.upto blockNumbersSpec)) blockNumbersUptoCard

/-- THE SECOND FORM's CARD OF 'innkeeperlaw18.BlockPlays'. -/
def blockPlaysUptoCard : Claim7 := { stood := { row := blockPlaysUptoRow, standIns := [], harness := (true, "d6b297d34c03242a2218fd24e38d92fd93b95c144d66b776cfb4188b526aa567"), looks := false }, kinds := [], alts := [], laidByText := true, laidKinds := [.data], laidTests := true, laidLooks := .later }
def BlockPlaysUptoCardSaid : Prop := Claim7.holds Tryz.pinned (.plain (OpenSpec.upto blockPlaysSpec)) blockPlaysUptoCard

/-- THE SECOND FORM's CARD OF 'innkeeperlaw18.BlockBegins'. -/
def blockBeginsUptoCard : Claim7 := { stood := { row := blockBeginsUptoRow, standIns := [], harness := (true, "d6b297d34c03242a2218fd24e38d92fd93b95c144d66b776cfb4188b526aa567"), looks := false }, kinds := [], alts := [], laidByText := true, laidKinds := [.data], laidTests := true, laidLooks := .later }
def BlockBeginsUptoCardSaid : Prop := Claim7.holds Tryz.pinned (.plain (OpenSpec.upto blockBeginsSpec)) blockBeginsUptoCard
end Rows
end Go.Proofs.YthcpmpmbgbibfaaGreatDoor
