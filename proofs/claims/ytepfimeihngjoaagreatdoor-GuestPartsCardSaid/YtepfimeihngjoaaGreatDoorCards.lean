/-
  DERIVED. GIVEN WITH THE SEED: THE CARDS: each row of YtepfimeihngjoaaGreatDoorRows.lean that lists a variable, with what it lists TIED to the program's text (the seventh form; the later family's looks); each row that meets fmt, with fmt's text TOLD by the authors' own Lean function (tested against real Go, not proved from fmt's source: count such statements apart). THE CARD IS WHAT COUNTS. Prove the row's statement (the work); the ties are given (YtepfimeihngjoaaGreatDoorTie.lean); close each card by the builder's one call (the guide's Derived/Test/ToyasCard.lean, 'card_holds'). Laid BY PROGRAM, IN A SANDBOX (cutbox-door.mjs). By AI agents, Wed Nov 11 2026. No macro, syntax, notation, axiom, sorry.
-/
import Derived.Test.YtepfimeihngjoaaGreatDoorRows
import GoSem.ClaimSeven
namespace Go.Proofs.YtepfimeihngjoaaGreatDoor
namespace Rows

/-- THE TIED CARD OF 'innkeepertop.TopBytes'. -/
def topBytesCard : Claim7 := { stood := { row := topBytesRow, standIns := [], harness := (true, "8971a5b6bad1384ecf748ea9398e1755d87b88643d3768ef6a51e2448d1d4f27"), looks := false }, kinds := [], alts := [], laidByText := true, laidKinds := [.data], laidTests := true, laidLooks := .later }
def TopBytesCardSaid : Prop := Claim7.holds Tryz.pinned (.plain (OpenSpec.ofChange topBytesSpec)) topBytesCard

/-- THE TIED CARD OF 'innkeeperlaw24.EngineNumbers'. -/
def engineNumbersCard : Claim7 := { stood := { row := engineNumbersRow, standIns := [], harness := (true, "8971a5b6bad1384ecf748ea9398e1755d87b88643d3768ef6a51e2448d1d4f27"), looks := false }, kinds := [], alts := [], laidByText := true, laidKinds := [.data], laidTests := true, laidLooks := .later }
def EngineNumbersCardSaid : Prop := Claim7.holds Tryz.pinned (.plain (OpenSpec.ofChange engineNumbersSpec)) engineNumbersCard

/-- THE TIED CARD OF 'innkeeperlaw24.EngineDoes'. -/
def engineDoesCard : Claim7 := { stood := { row := engineDoesRow, standIns := [], harness := (true, "8971a5b6bad1384ecf748ea9398e1755d87b88643d3768ef6a51e2448d1d4f27"), looks := false }, kinds := [], alts := [], laidByText := true, laidKinds := [.data], laidTests := true, laidLooks := .later }
def EngineDoesCardSaid : Prop := Claim7.holds Tryz.pinned (.plain (OpenSpec.ofChange engineDoesSpec)) engineDoesCard

/-- THE TIED CARD OF 'innkeeperlaw24.EngineBytes'. -/
def engineBytesCard : Claim7 := { stood := { row := engineBytesRow, standIns := [], harness := (true, "8971a5b6bad1384ecf748ea9398e1755d87b88643d3768ef6a51e2448d1d4f27"), looks := false }, kinds := [], alts := [], laidByText := true, laidKinds := [.data], laidTests := true, laidLooks := .later }
def EngineBytesCardSaid : Prop := Claim7.holds Tryz.pinned (.plain (OpenSpec.ofChange engineBytesSpec)) engineBytesCard

/-- THE TIED CARD OF 'innkeeperlaw25.GuestParts'. -/
def guestPartsCard : Claim7 := { stood := { row := guestPartsRow, standIns := [], harness := (true, "8971a5b6bad1384ecf748ea9398e1755d87b88643d3768ef6a51e2448d1d4f27"), looks := false }, kinds := [], alts := [], laidByText := true, laidKinds := [.data], laidTests := true, laidLooks := .later }
def GuestPartsCardSaid : Prop := Claim7.holds Tryz.pinned (.plain (OpenSpec.ofChange guestPartsSpec)) guestPartsCard

/-- THE TIED CARD OF 'innkeeperlaw25.GuestTwins'. -/
def guestTwinsCard : Claim7 := { stood := { row := guestTwinsRow, standIns := [], harness := (true, "8971a5b6bad1384ecf748ea9398e1755d87b88643d3768ef6a51e2448d1d4f27"), looks := false }, kinds := [], alts := [], laidByText := true, laidKinds := [.data], laidTests := true, laidLooks := .later }
def GuestTwinsCardSaid : Prop := Claim7.holds Tryz.pinned (.plain (OpenSpec.ofChange guestTwinsSpec)) guestTwinsCard

/-- THE TIED CARD OF 'innkeeperlaw25.GuestPlays'. -/
def guestPlaysCard : Claim7 := { stood := { row := guestPlaysRow, standIns := [], harness := (true, "8971a5b6bad1384ecf748ea9398e1755d87b88643d3768ef6a51e2448d1d4f27"), looks := false }, kinds := [], alts := [], laidByText := true, laidKinds := [.data], laidTests := true, laidLooks := .later }
def GuestPlaysCardSaid : Prop := Claim7.holds Tryz.pinned (.plain (OpenSpec.ofChange guestPlaysSpec)) guestPlaysCard

/-- THE TIED CARD OF 'innkeeperlaw26.MonitorPlays'. -/
def monitorPlaysCard : Claim7 := { stood := { row := monitorPlaysRow, standIns := [], harness := (true, "8971a5b6bad1384ecf748ea9398e1755d87b88643d3768ef6a51e2448d1d4f27"), looks := false }, kinds := [], alts := [], laidByText := true, laidKinds := [.data], laidTests := true, laidLooks := .later }
def MonitorPlaysCardSaid : Prop := Claim7.holds Tryz.pinned (.plain (OpenSpec.ofChange monitorPlaysSpec)) monitorPlaysCard

/-- THE TIED CARD OF 'innkeepertop.TopRefines'. -/
def topRefinesCard : Claim7 := { stood := { row := topRefinesRow, standIns := [], harness := (true, "8971a5b6bad1384ecf748ea9398e1755d87b88643d3768ef6a51e2448d1d4f27"), looks := false }, kinds := [], alts := [], laidByText := true, laidKinds := [.data], laidTests := true, laidLooks := .later }
def TopRefinesCardSaid : Prop := Claim7.holds Tryz.pinned (.plain (OpenSpec.ofChange topRefinesSpec)) topRefinesCard

/-- THE SECOND FORM's CARD OF 'innkeepertop.TopBytes'. -/
def topBytesUptoCard : Claim7 := { stood := { row := topBytesUptoRow, standIns := [], harness := (true, "8971a5b6bad1384ecf748ea9398e1755d87b88643d3768ef6a51e2448d1d4f27"), looks := false }, kinds := [], alts := [], laidByText := true, laidKinds := [.data], laidTests := true, laidLooks := .later }
def TopBytesUptoCardSaid : Prop := Claim7.holds Tryz.pinned (.plain (OpenSpec.upto topBytesSpec)) topBytesUptoCard

/-- THE SECOND FORM's CARD OF 'innkeeperlaw24.EngineNumbers'. -/
def engineNumbersUptoCard : Claim7 := { stood := { row := engineNumbersUptoRow, standIns := [], harness := (true, "8971a5b6bad1384ecf748ea9398e1755d87b88643d3768ef6a51e2448d1d4f27"), looks := false }, kinds := [], alts := [], laidByText := true, laidKinds := [.data], laidTests := true, laidLooks := .later }
def EngineNumbersUptoCardSaid : Prop := Claim7.holds Tryz.pinned (.plain (OpenSpec.upto engineNumbersSpec)) engineNumbersUptoCard

/-- THE SECOND FORM's CARD OF 'innkeeperlaw24.EngineDoes'. -/
def engineDoesUptoCard : Claim7 := { stood := { row := engineDoesUptoRow, standIns := [], harness := (true, "8971a5b6bad1384ecf748ea9398e1755d87b88643d3768ef6a51e2448d1d4f27"), looks := false }, kinds := [], alts := [], laidByText := true, laidKinds := [.data], laidTests := true, laidLooks := .later }
def EngineDoesUptoCardSaid : Prop := Claim7.holds Tryz.pinned (.plain (OpenSpec.upto engineDoesSpec)) engineDoesUptoCard

/-- THE SECOND FORM's CARD OF 'innkeeperlaw24.EngineBytes'. -/
def engineBytesUptoCard : Claim7 := { stood := { row := engineBytesUptoRow, standIns := [], harness := (true, "8971a5b6bad1384ecf748ea9398e1755d87b88643d3768ef6a51e2448d1d4f27"), looks := false }, kinds := [], alts := [], laidByText := true, laidKinds := [.data], laidTests := true, laidLooks := .later }
def EngineBytesUptoCardSaid : Prop := Claim7.holds Tryz.pinned (.plain (OpenSpec.upto engineBytesSpec)) engineBytesUptoCard

/-- THE SECOND FORM's CARD OF 'innkeeperlaw25.GuestParts'. -/
def guestPartsUptoCard : Claim7 := { stood := { row := guestPartsUptoRow, standIns := [], harness := (true, "8971a5b6bad1384ecf748ea9398e1755d87b88643d3768ef6a51e2448d1d4f27"), looks := false }, kinds := [], alts := [], laidByText := true, laidKinds := [.data], laidTests := true, laidLooks := .later }
def GuestPartsUptoCardSaid : Prop := Claim7.holds Tryz.pinned (.plain (OpenSpec.upto guestPartsSpec)) guestPartsUptoCard

/-- THE SECOND FORM's CARD OF 'innkeeperlaw25.GuestTwins'. -/
def guestTwinsUptoCard : Claim7 := { stood := { row := guestTwinsUptoRow, standIns := [], harness := (true, "8971a5b6bad1384ecf748ea9398e1755d87b88643d3768ef6a51e2448d1d4f27"), looks := false }, kinds := [], alts := [], laidByText := true, laidKinds := [.data], laidTests := true, laidLooks := .later }
def GuestTwinsUptoCardSaid : Prop := Claim7.holds Tryz.pinned (.plain (OpenSpec.upto guestTwinsSpec)) guestTwinsUptoCard

/-- THE SECOND FORM's CARD OF 'innkeeperlaw25.GuestPlays'. -/
def guestPlaysUptoCard : Claim7 := { stood := { row := guestPlaysUptoRow, standIns := [], harness := (true, "8971a5b6bad1384ecf748ea9398e1755d87b88643d3768ef6a51e2448d1d4f27"), looks := false }, kinds := [], alts := [], laidByText := true, laidKinds := [.data], laidTests := true, laidLooks := .later }
def GuestPlaysUptoCardSaid : Prop := Claim7.holds Tryz.pinned (.plain (OpenSpec.upto guestPlaysSpec)) guestPlaysUptoCard

/-- THE SECOND FORM's CARD OF 'innkeeperlaw26.MonitorPlays'. -/
def monitorPlaysUptoCard : Claim7 := { stood := { row := monitorPlaysUptoRow, standIns := [], harness := (true, "8971a5b6bad1384ecf748ea9398e1755d87b88643d3768ef6a51e2448d1d4f27"), looks := false }, kinds := [], alts := [], laidByText := true, laidKinds := [.data], laidTests := true, laidLooks := .later }
def MonitorPlaysUptoCardSaid : Prop := Claim7.holds Tryz.pinned (.plain (OpenSpec.upto monitorPlaysSpec)) monitorPlaysUptoCard

/-- THE SECOND FORM's CARD OF 'innkeepertop.TopRefines'. -/
def topRefinesUptoCard : Claim7 := { stood := { row := topRefinesUptoRow, standIns := [], harness := (true, "8971a5b6bad1384ecf748ea9398e1755d87b88643d3768ef6a51e2448d1d4f27"), looks := false }, kinds := [], alts := [], laidByText := true, laidKinds := [.data], laidTests := true, laidLooks := .later }
def TopRefinesUptoCardSaid : Prop := Claim7.holds Tryz.pinned (.plain (OpenSpec.upto topRefinesSpec)) topRefinesUptoCard
end Rows
end Go.Proofs.YtepfimeihngjoaaGreatDoor
