/-
  DERIVED. GIVEN WITH THE SEED: THE CARDS: each row of YtgpahfcaecojgaaGreatDoorRows.lean that lists a variable, with what it lists TIED to the program's text (the seventh form; the later family's looks); each row that meets fmt, with fmt's text TOLD by the authors' own Lean function (tested against real Go, not proved from fmt's source: count such statements apart). THE CARD IS WHAT COUNTS. Prove the row's statement (the work); the ties are given (YtgpahfcaecojgaaGreatDoorTie.lean); close each card by the builder's one call (the guide's Derived/Test/ToyasCard.lean, 'card_holds'). Laid BY PROGRAM, IN A SANDBOX (cutbox-door.mjs). By AI agents, Wed Nov 11 2026. No macro, syntax, notation, axiom, sorry.
-/
import Derived.Test.YtgpahfcaecojgaaGreatDoorRows
import GoSem.ClaimSeven
namespace Go.Proofs.YtgpahfcaecojgaaGreatDoor
namespace Rows

/-- THE TIED CARD OF 'innkeeperlaw28.ShellReads'. -/
def shellReadsCard : Claim7 := { stood := { row := shellReadsRow, standIns := [], harness := (true, "530896533cfb4e222fef4968fcd623841d69a48c90bbd3e9246bbcb8c76e4dcf"), looks := false }, kinds := [], alts := [], laidByText := true, laidKinds := [.data], laidTests := true, laidLooks := .later }
def ShellReadsCardSaid : Prop := Claim7.holds Tryz.pinned (.plain (OpenSpec.ofChange shellReadsSpec)) shellReadsCard

/-- THE TIED CARD OF 'innkeeperlaw28.ShellTwins'. -/
def shellTwinsCard : Claim7 := { stood := { row := shellTwinsRow, standIns := [], harness := (true, "530896533cfb4e222fef4968fcd623841d69a48c90bbd3e9246bbcb8c76e4dcf"), looks := false }, kinds := [], alts := [], laidByText := true, laidKinds := [.data], laidTests := true, laidLooks := .later }
def ShellTwinsCardSaid : Prop := Claim7.holds Tryz.pinned (.plain (OpenSpec.ofChange shellTwinsSpec)) shellTwinsCard

/-- THE TIED CARD OF 'innkeeperlaw27.AuditTwins'. -/
def auditTwinsCard : Claim7 := { stood := { row := auditTwinsRow, standIns := [], harness := (true, "530896533cfb4e222fef4968fcd623841d69a48c90bbd3e9246bbcb8c76e4dcf"), looks := false }, kinds := [], alts := [], laidByText := true, laidKinds := [.data], laidTests := true, laidLooks := .later }
def AuditTwinsCardSaid : Prop := Claim7.holds Tryz.pinned (.plain (OpenSpec.ofChange auditTwinsSpec)) auditTwinsCard

/-- THE TIED CARD OF 'innkeeperlaw27.AuditSounds'. -/
def auditSoundsCard : Claim7 := { stood := { row := auditSoundsRow, standIns := [], harness := (true, "530896533cfb4e222fef4968fcd623841d69a48c90bbd3e9246bbcb8c76e4dcf"), looks := false }, kinds := [], alts := [], laidByText := true, laidKinds := [.data], laidTests := true, laidLooks := .later }
def AuditSoundsCardSaid : Prop := Claim7.holds Tryz.pinned (.plain (OpenSpec.ofChange auditSoundsSpec)) auditSoundsCard

/-- THE TIED CARD OF 'innkeeperlaw28.ShellNumbers'. -/
def shellNumbersCard : Claim7 := { stood := { row := shellNumbersRow, standIns := [], harness := (true, "530896533cfb4e222fef4968fcd623841d69a48c90bbd3e9246bbcb8c76e4dcf"), looks := false }, kinds := [], alts := [], laidByText := true, laidKinds := [.data], laidTests := true, laidLooks := .later }
def ShellNumbersCardSaid : Prop := Claim7.holds Tryz.pinned (.plain (OpenSpec.ofChange shellNumbersSpec)) shellNumbersCard

/-- THE TIED CARD OF 'innkeeperlaw28.ShellWrites'. -/
def shellWritesCard : Claim7 := { stood := { row := shellWritesRow, standIns := [], harness := (true, "530896533cfb4e222fef4968fcd623841d69a48c90bbd3e9246bbcb8c76e4dcf"), looks := false }, kinds := [], alts := [], laidByText := true, laidKinds := [.data], laidTests := true, laidLooks := .later }
def ShellWritesCardSaid : Prop := Claim7.holds Tryz.pinned (.plain (OpenSpec.ofChange shellWritesSpec)) shellWritesCard

/-- THE TIED CARD OF 'innkeeperlaw28.ShellBack'. -/
def shellBackCard : Claim7 := { stood := { row := shellBackRow, standIns := [], harness := (true, "530896533cfb4e222fef4968fcd623841d69a48c90bbd3e9246bbcb8c76e4dcf"), looks := false }, kinds := [], alts := [], laidByText := true, laidKinds := [.data], laidTests := true, laidLooks := .later }
def ShellBackCardSaid : Prop := Claim7.holds Tryz.pinned (.plain (OpenSpec.ofChange shellBackSpec)) shellBackCard

/-- THE TIED CARD OF 'innkeeperlaw28.ShellRuns'. -/
def shellRunsCard : Claim7 := { stood := { row := shellRunsRow, standIns := [], harness := (true, "530896533cfb4e222fef4968fcd623841d69a48c90bbd3e9246bbcb8c76e4dcf"), looks := false }, kinds := [], alts := [], laidByText := true, laidKinds := [.data], laidTests := true, laidLooks := .later }
def ShellRunsCardSaid : Prop := Claim7.holds Tryz.pinned (.plain (OpenSpec.ofChange shellRunsSpec)) shellRunsCard

/-- THE TIED CARD OF 'innkeeperlaw28.ShellAny'. -/
def shellAnyCard : Claim7 := { stood := { row := shellAnyRow, standIns := [], harness := (true, "530896533cfb4e222fef4968fcd623841d69a48c90bbd3e9246bbcb8c76e4dcf"), looks := false }, kinds := [], alts := [], laidByText := true, laidKinds := [.data], laidTests := true, laidLooks := .later }
def ShellAnyCardSaid : Prop := Claim7.holds Tryz.pinned (.plain (OpenSpec.ofChange shellAnySpec)) shellAnyCard

/-- THE TIED CARD OF 'innkeepertop.TopTwins'. -/
def topTwinsCard : Claim7 := { stood := { row := topTwinsRow, standIns := [], harness := (true, "530896533cfb4e222fef4968fcd623841d69a48c90bbd3e9246bbcb8c76e4dcf"), looks := false }, kinds := [], alts := [], laidByText := true, laidKinds := [.data], laidTests := true, laidLooks := .later }
def TopTwinsCardSaid : Prop := Claim7.holds Tryz.pinned (.plain (OpenSpec.ofChange topTwinsSpec)) topTwinsCard

/-- THE TIED CARD OF 'innkeepertop.TopScripts'. -/
def topScriptsCard : Claim7 := { stood := { row := topScriptsRow, standIns := [], harness := (true, "530896533cfb4e222fef4968fcd623841d69a48c90bbd3e9246bbcb8c76e4dcf"), looks := false }, kinds := [], alts := [], laidByText := true, laidKinds := [.data], laidTests := true, laidLooks := .later }
def TopScriptsCardSaid : Prop := Claim7.holds Tryz.pinned (.plain (OpenSpec.ofChange topScriptsSpec)) topScriptsCard

/-- THE SECOND FORM's CARD OF 'innkeeperlaw28.ShellReads'. -/
def shellReadsUptoCard : Claim7 := { stood := { row := shellReadsUptoRow, standIns := [], harness := (true, "530896533cfb4e222fef4968fcd623841d69a48c90bbd3e9246bbcb8c76e4dcf"), looks := false }, kinds := [], alts := [], laidByText := true, laidKinds := [.data], laidTests := true, laidLooks := .later }
def ShellReadsUptoCardSaid : Prop := Claim7.holds Tryz.pinned (.plain (OpenSpec.upto shellReadsSpec)) shellReadsUptoCard

/-- THE SECOND FORM's CARD OF 'innkeeperlaw28.ShellTwins'. -/
def shellTwinsUptoCard : Claim7 := { stood := { row := shellTwinsUptoRow, standIns := [], harness := (true, "530896533cfb4e222fef4968fcd623841d69a48c90bbd3e9246bbcb8c76e4dcf"), looks := false }, kinds := [], alts := [], laidByText := true, laidKinds := [.data], laidTests := true, laidLooks := .later }
def ShellTwinsUptoCardSaid : Prop := Claim7.holds Tryz.pinned (.plain (OpenSpec.upto shellTwinsSpec)) shellTwinsUptoCard

/-- THE SECOND FORM's CARD OF 'innkeeperlaw27.AuditTwins'. -/
def auditTwinsUptoCard : Claim7 := { stood := { row := auditTwinsUptoRow, standIns := [], harness := (true, "530896533cfb4e222fef4968fcd623841d69a48c90bbd3e9246bbcb8c76e4dcf"), looks := false }, kinds := [], alts := [], laidByText := true, laidKinds := [.data], laidTests := true, laidLooks := .later }
def AuditTwinsUptoCardSaid : Prop := Claim7.holds Tryz.pinned (.plain (OpenSpec.upto auditTwinsSpec)) auditTwinsUptoCard

/-- THE SECOND FORM's CARD OF 'innkeeperlaw27.AuditSounds'. -/
def auditSoundsUptoCard : Claim7 := { stood := { row := auditSoundsUptoRow, standIns := [], harness := (true, "530896533cfb4e222fef4968fcd623841d69a48c90bbd3e9246bbcb8c76e4dcf"), looks := false }, kinds := [], alts := [], laidByText := true, laidKinds := [.data], laidTests := true, laidLooks := .later }
def AuditSoundsUptoCardSaid : Prop := Claim7.holds Tryz.pinned (.plain (OpenSpec.upto auditSoundsSpec)) auditSoundsUptoCard

/-- THE SECOND FORM's CARD OF 'innkeeperlaw28.ShellNumbers'. -/
def shellNumbersUptoCard : Claim7 := { stood := { row := shellNumbersUptoRow, standIns := [], harness := (true, "530896533cfb4e222fef4968fcd623841d69a48c90bbd3e9246bbcb8c76e4dcf"), looks := false }, kinds := [], alts := [], laidByText := true, laidKinds := [.data], laidTests := true, laidLooks := .later }
def ShellNumbersUptoCardSaid : Prop := Claim7.holds Tryz.pinned (.plain (OpenSpec.upto shellNumbersSpec)) shellNumbersUptoCard

/-- THE SECOND FORM's CARD OF 'innkeeperlaw28.ShellWrites'. -/
def shellWritesUptoCard : Claim7 := { stood := { row := shellWritesUptoRow, standIns := [], harness := (true, "530896533cfb4e222fef4968fcd623841d69a48c90bbd3e9246bbcb8c76e4dcf"), looks := false }, kinds := [], alts := [], laidByText := true, laidKinds := [.data], laidTests := true, laidLooks := .later }
def ShellWritesUptoCardSaid : Prop := Claim7.holds Tryz.pinned (.plain (OpenSpec.upto shellWritesSpec)) shellWritesUptoCard

/-- THE SECOND FORM's CARD OF 'innkeeperlaw28.ShellBack'. -/
def shellBackUptoCard : Claim7 := { stood := { row := shellBackUptoRow, standIns := [], harness := (true, "530896533cfb4e222fef4968fcd623841d69a48c90bbd3e9246bbcb8c76e4dcf"), looks := false }, kinds := [], alts := [], laidByText := true, laidKinds := [.data], laidTests := true, laidLooks := .later }
def ShellBackUptoCardSaid : Prop := Claim7.holds Tryz.pinned (.plain (OpenSpec.upto shellBackSpec)) shellBackUptoCard

/-- THE SECOND FORM's CARD OF 'innkeeperlaw28.ShellRuns'. -/
def shellRunsUptoCard : Claim7 := { stood := { row := shellRunsUptoRow, standIns := [], harness := (true, "530896533cfb4e222fef4968fcd623841d69a48c90bbd3e9246bbcb8c76e4dcf"), looks := false }, kinds := [], alts := [], laidByText := true, laidKinds := [.data], laidTests := true, laidLooks := .later }
def ShellRunsUptoCardSaid : Prop := Claim7.holds Tryz.pinned (.plain (OpenSpec.upto shellRunsSpec)) shellRunsUptoCard

/-- THE SECOND FORM's CARD OF 'innkeeperlaw28.ShellAny'. -/
def shellAnyUptoCard : Claim7 := { stood := { row := shellAnyUptoRow, standIns := [], harness := (true, "530896533cfb4e222fef4968fcd623841d69a48c90bbd3e9246bbcb8c76e4dcf"), looks := false }, kinds := [], alts := [], laidByText := true, laidKinds := [.data], laidTests := true, laidLooks := .later }
def ShellAnyUptoCardSaid : Prop := Claim7.holds Tryz.pinned (.plain (OpenSpec.upto shellAnySpec)) shellAnyUptoCard

/-- THE SECOND FORM's CARD OF 'innkeepertop.TopTwins'. -/
def topTwinsUptoCard : Claim7 := { stood := { row := topTwinsUptoRow, standIns := [], harness := (true, "530896533cfb4e222fef4968fcd623841d69a48c90bbd3e9246bbcb8c76e4dcf"), looks := false }, kinds := [], alts := [], laidByText := true, laidKinds := [.data], laidTests := true, laidLooks := .later }
def TopTwinsUptoCardSaid : Prop := Claim7.holds Tryz.pinned (.plain (OpenSpec.upto topTwinsSpec)) topTwinsUptoCard

/-- THE SECOND FORM's CARD OF 'innkeepertop.TopScripts'. -/
def topScriptsUptoCard : Claim7 := { stood := { row := topScriptsUptoRow, standIns := [], harness := (true, "530896533cfb4e222fef4968fcd623841d69a48c90bbd3e9246bbcb8c76e4dcf"), looks := false }, kinds := [], alts := [], laidByText := true, laidKinds := [.data], laidTests := true, laidLooks := .later }
def TopScriptsUptoCardSaid : Prop := Claim7.holds Tryz.pinned (.plain (OpenSpec.upto topScriptsSpec)) topScriptsUptoCard
end Rows
end Go.Proofs.YtgpahfcaecojgaaGreatDoor
