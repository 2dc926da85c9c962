/-
  DERIVED. GIVEN WITH THE SEED: THE CARDS: each row of YtmhpcgmjlpfheaaGreatDoorRows.lean that lists a variable, with what it lists TIED to the program's text (the seventh form; the later family's looks); each row that meets fmt, with fmt's text TOLD by the authors' own Lean function (tested against real Go, not proved from fmt's source: count such statements apart). THE CARD IS WHAT COUNTS. Prove the row's statement (the work); the ties are given (YtmhpcgmjlpfheaaGreatDoorTie.lean); close each card by the builder's one call (the guide's Derived/Test/ToyasCard.lean, 'card_holds'). Laid BY PROGRAM, IN A SANDBOX (cutbox-door.mjs). By AI agents, Wed Nov 11 2026. No macro, syntax, notation, axiom, sorry.
-/
import Derived.Test.YtmhpcgmjlpfheaaGreatDoorRows
import GoSem.ClaimSeven
namespace Go.Proofs.YtmhpcgmjlpfheaaGreatDoor
namespace Rows

/-- THE TIED CARD OF 'innkeeperlaw27.AuditNumbers'. -/
def auditNumbersCard : Claim7 := { stood := { row := auditNumbersRow, standIns := [], harness := (true, "f80ea03ef13a901c5978c9786c43001bd218379e88826be0b64d16dfaddaadfd"), looks := false }, kinds := [], alts := [], laidByText := true, laidKinds := [.data], laidTests := true, laidLooks := .later }
def AuditNumbersCardSaid : Prop := Claim7.holds Tryz.pinned (.plain (OpenSpec.ofChange auditNumbersSpec)) auditNumbersCard

/-- THE TIED CARD OF 'innkeeperlaw27.AuditTells'. -/
def auditTellsCard : Claim7 := { stood := { row := auditTellsRow, standIns := [], harness := (true, "f80ea03ef13a901c5978c9786c43001bd218379e88826be0b64d16dfaddaadfd"), looks := false }, kinds := [], alts := [], laidByText := true, laidKinds := [.data], laidTests := true, laidLooks := .later }
def AuditTellsCardSaid : Prop := Claim7.holds Tryz.pinned (.plain (OpenSpec.ofChange auditTellsSpec)) auditTellsCard

/-- THE SECOND FORM's CARD OF 'innkeeperlaw27.AuditNumbers'. -/
def auditNumbersUptoCard : Claim7 := { stood := { row := auditNumbersUptoRow, standIns := [], harness := (true, "f80ea03ef13a901c5978c9786c43001bd218379e88826be0b64d16dfaddaadfd"), looks := false }, kinds := [], alts := [], laidByText := true, laidKinds := [.data], laidTests := true, laidLooks := .later }
def AuditNumbersUptoCardSaid : Prop := Claim7.holds Tryz.pinned (.plain (OpenSpec.upto auditNumbersSpec)) auditNumbersUptoCard

/-- THE SECOND FORM's CARD OF 'innkeeperlaw27.AuditTells'. -/
def auditTellsUptoCard : Claim7 := { stood := { row := auditTellsUptoRow, standIns := [], harness := (true, "f80ea03ef13a901c5978c9786c43001bd218379e88826be0b64d16dfaddaadfd"), looks := false }, kinds := [], alts := [], laidByText := true, laidKinds := [.data], laidTests := true, laidLooks := .later }
def AuditTellsUptoCardSaid : Prop := Claim7.holds Tryz.pinned (.plain (OpenSpec.upto auditTellsSpec)) auditTellsUptoCard
end Rows
end Go.Proofs.YtmhpcgmjlpfheaaGreatDoor
