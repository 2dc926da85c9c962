/-
  DERIVED. GIVEN WITH THE SEED: THE CARDS: each row of YtkegldppffignaaGreatDoorRows.lean that lists a variable, with what it lists TIED to the program's text (the seventh form; the later family's looks); each row that meets fmt, with fmt's text TOLD by the authors' own Lean function (tested against real Go, not proved from fmt's source: count such statements apart). THE CARD IS WHAT COUNTS. Prove the row's statement (the work); the ties are given (YtkegldppffignaaGreatDoorTie.lean); close each card by the builder's one call (the guide's Derived/Test/ToyasCard.lean, 'card_holds'). Laid BY PROGRAM, IN A SANDBOX (cutbox-door.mjs). By AI agents, Wed Nov 11 2026. No macro, syntax, notation, axiom, sorry.
-/
import Derived.Test.YtkegldppffignaaGreatDoorRows
import GoSem.ClaimSeven
namespace Go.Proofs.YtkegldppffignaaGreatDoor
namespace Rows

/-- THE TIED CARD OF 'innkeepertop.TopEcho'. -/
def topEchoCard : Claim7 := { stood := { row := topEchoRow, standIns := [], harness := (true, "4c846e8b7ead68a8ce0cba4be9d866c8a17f9edb429a01f9009d4ba16a74d94e"), looks := false }, kinds := [], alts := [], laidByText := true, laidKinds := [.data], laidTests := true, laidLooks := .later }
def TopEchoCardSaid : Prop := Claim7.holds Tryz.pinned (.plain (OpenSpec.ofChange topEchoSpec)) topEchoCard

/-- THE TIED CARD OF 'innkeepertop.TopTyped'. -/
def topTypedCard : Claim7 := { stood := { row := topTypedRow, standIns := [], harness := (true, "4c846e8b7ead68a8ce0cba4be9d866c8a17f9edb429a01f9009d4ba16a74d94e"), looks := false }, kinds := [], alts := [], laidByText := true, laidKinds := [.data], laidTests := true, laidLooks := .later }
def TopTypedCardSaid : Prop := Claim7.holds Tryz.pinned (.plain (OpenSpec.ofChange topTypedSpec)) topTypedCard

/-- THE TIED CARD OF 'innkeeperlaw25.GuestNumbers'. -/
def guestNumbersCard : Claim7 := { stood := { row := guestNumbersRow, standIns := [], harness := (true, "4c846e8b7ead68a8ce0cba4be9d866c8a17f9edb429a01f9009d4ba16a74d94e"), looks := false }, kinds := [], alts := [], laidByText := true, laidKinds := [.data], laidTests := true, laidLooks := .later }
def GuestNumbersCardSaid : Prop := Claim7.holds Tryz.pinned (.plain (OpenSpec.ofChange guestNumbersSpec)) guestNumbersCard

/-- THE TIED CARD OF 'innkeepertop.TopSums'. -/
def topSumsCard : Claim7 := { stood := { row := topSumsRow, standIns := [], harness := (true, "4c846e8b7ead68a8ce0cba4be9d866c8a17f9edb429a01f9009d4ba16a74d94e"), looks := false }, kinds := [], alts := [], laidByText := true, laidKinds := [.data], laidTests := true, laidLooks := .later }
def TopSumsCardSaid : Prop := Claim7.holds Tryz.pinned (.plain (OpenSpec.ofChange topSumsSpec)) topSumsCard

/-- THE TIED CARD OF 'innkeepertop.TopHalts'. -/
def topHaltsCard : Claim7 := { stood := { row := topHaltsRow, standIns := [], harness := (true, "4c846e8b7ead68a8ce0cba4be9d866c8a17f9edb429a01f9009d4ba16a74d94e"), looks := false }, kinds := [], alts := [], laidByText := true, laidKinds := [.data], laidTests := true, laidLooks := .later }
def TopHaltsCardSaid : Prop := Claim7.holds Tryz.pinned (.plain (OpenSpec.ofChange topHaltsSpec)) topHaltsCard

/-- THE TIED CARD OF 'innkeepertop.TopGiven'. -/
def topGivenCard : Claim7 := { stood := { row := topGivenRow, standIns := [], harness := (true, "4c846e8b7ead68a8ce0cba4be9d866c8a17f9edb429a01f9009d4ba16a74d94e"), looks := false }, kinds := [], alts := [], laidByText := true, laidKinds := [.data], laidTests := true, laidLooks := .later }
def TopGivenCardSaid : Prop := Claim7.holds Tryz.pinned (.plain (OpenSpec.ofChange topGivenSpec)) topGivenCard

/-- THE SECOND FORM's CARD OF 'innkeepertop.TopEcho'. -/
def topEchoUptoCard : Claim7 := { stood := { row := topEchoUptoRow, standIns := [], harness := (true, "4c846e8b7ead68a8ce0cba4be9d866c8a17f9edb429a01f9009d4ba16a74d94e"), looks := false }, kinds := [], alts := [], laidByText := true, laidKinds := [.data], laidTests := true, laidLooks := .later }
def TopEchoUptoCardSaid : Prop := Claim7.holds Tryz.pinned (.plain (OpenSpec.upto topEchoSpec)) topEchoUptoCard

/-- THE SECOND FORM's CARD OF 'innkeepertop.TopTyped'. -/
def topTypedUptoCard : Claim7 := { stood := { row := topTypedUptoRow, standIns := [], harness := (true, "4c846e8b7ead68a8ce0cba4be9d866c8a17f9edb429a01f9009d4ba16a74d94e"), looks := false }, kinds := [], alts := [], laidByText := true, laidKinds := [.data], laidTests := true, laidLooks := .later }
def TopTypedUptoCardSaid : Prop := Claim7.holds Tryz.pinned (.plain (OpenSpec.upto topTypedSpec)) topTypedUptoCard

/-- THE SECOND FORM's CARD OF 'innkeeperlaw25.GuestNumbers'. -/
def guestNumbersUptoCard : Claim7 := { stood := { row := guestNumbersUptoRow, standIns := [], harness := (true, "4c846e8b7ead68a8ce0cba4be9d866c8a17f9edb429a01f9009d4ba16a74d94e"), looks := false }, kinds := [], alts := [], laidByText := true, laidKinds := [.data], laidTests := true, laidLooks := .later }
def GuestNumbersUptoCardSaid : Prop := Claim7.holds Tryz.pinned (.plain (OpenSpec.upto guestNumbersSpec)) guestNumbersUptoCard

/-- THE SECOND FORM's CARD OF 'innkeepertop.TopSums'. -/
def topSumsUptoCard : Claim7 := { stood := { row := topSumsUptoRow, standIns := [], harness := (true, "4c846e8b7ead68a8ce0cba4be9d866c8a17f9edb429a01f9009d4ba16a74d94e"), looks := false }, kinds := [], alts := [], laidByText := true, laidKinds := [.data], laidTests := true, laidLooks := .later }
def TopSumsUptoCardSaid : Prop := Claim7.holds Tryz.pinned (.plain (OpenSpec.upto topSumsSpec)) topSumsUptoCard

/-- THE SECOND FORM's CARD OF 'innkeepertop.TopHalts'. -/
def topHaltsUptoCard : Claim7 := { stood := { row := topHaltsUptoRow, standIns := [], harness := (true, "4c846e8b7ead68a8ce0cba4be9d866c8a17f9edb429a01f9009d4ba16a74d94e"), looks := false }, kinds := [], alts := [], laidByText := true, laidKinds := [.data], laidTests := true, laidLooks := .later }
def TopHaltsUptoCardSaid : Prop := Claim7.holds Tryz.pinned (.plain (OpenSpec.upto topHaltsSpec)) topHaltsUptoCard

/-- THE SECOND FORM's CARD OF 'innkeepertop.TopGiven'. -/
def topGivenUptoCard : Claim7 := { stood := { row := topGivenUptoRow, standIns := [], harness := (true, "4c846e8b7ead68a8ce0cba4be9d866c8a17f9edb429a01f9009d4ba16a74d94e"), looks := false }, kinds := [], alts := [], laidByText := true, laidKinds := [.data], laidTests := true, laidLooks := .later }
def TopGivenUptoCardSaid : Prop := Claim7.holds Tryz.pinned (.plain (OpenSpec.upto topGivenSpec)) topGivenUptoCard
end Rows
end Go.Proofs.YtkegldppffignaaGreatDoor
