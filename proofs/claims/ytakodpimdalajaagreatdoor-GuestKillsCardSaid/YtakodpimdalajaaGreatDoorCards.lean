/-
  DERIVED. GIVEN WITH THE SEED: THE CARDS: each row of YtakodpimdalajaaGreatDoorRows.lean that lists a variable, with what it lists TIED to the program's text (the seventh form; the later family's looks); each row that meets fmt, with fmt's text TOLD by the authors' own Lean function (tested against real Go, not proved from fmt's source: count such statements apart). THE CARD IS WHAT COUNTS. Prove the row's statement (the work); the ties are given (YtakodpimdalajaaGreatDoorTie.lean); close each card by the builder's one call (the guide's Derived/Test/ToyasCard.lean, 'card_holds'). Laid BY PROGRAM, IN A SANDBOX (cutbox-door.mjs). By AI agents, Wed Nov 11 2026. No macro, syntax, notation, axiom, sorry.
-/
import Derived.Test.YtakodpimdalajaaGreatDoorRows
import GoSem.ClaimSeven
namespace Go.Proofs.YtakodpimdalajaaGreatDoor
namespace Rows

/-- THE TIED CARD OF 'innkeeperlaw24.EngineSelf'. -/
def engineSelfCard : Claim7 := { stood := { row := engineSelfRow, standIns := [], harness := (true, "f3f287d9654f4f68f12648f73dca44378a481e94836caa652ff26991354e62ba"), looks := false }, kinds := [], alts := [], laidByText := true, laidKinds := [.data], laidTests := true, laidLooks := .later }
def EngineSelfCardSaid : Prop := Claim7.holds Tryz.pinned (.plain (OpenSpec.ofChange engineSelfSpec)) engineSelfCard

/-- THE TIED CARD OF 'innkeeperlaw24.EngineIrqs'. -/
def engineIrqsCard : Claim7 := { stood := { row := engineIrqsRow, standIns := [], harness := (true, "f3f287d9654f4f68f12648f73dca44378a481e94836caa652ff26991354e62ba"), looks := false }, kinds := [], alts := [], laidByText := true, laidKinds := [.data], laidTests := true, laidLooks := .later }
def EngineIrqsCardSaid : Prop := Claim7.holds Tryz.pinned (.plain (OpenSpec.ofChange engineIrqsSpec)) engineIrqsCard

/-- THE TIED CARD OF 'innkeeperlaw24.EnginePaging'. -/
def enginePagingCard : Claim7 := { stood := { row := enginePagingRow, standIns := [], harness := (true, "f3f287d9654f4f68f12648f73dca44378a481e94836caa652ff26991354e62ba"), looks := false }, kinds := [], alts := [], laidByText := true, laidKinds := [.data], laidTests := true, laidLooks := .later }
def EnginePagingCardSaid : Prop := Claim7.holds Tryz.pinned (.plain (OpenSpec.ofChange enginePagingSpec)) enginePagingCard

/-- THE TIED CARD OF 'innkeeperlaw25.GuestRuns'. -/
def guestRunsCard : Claim7 := { stood := { row := guestRunsRow, standIns := [], harness := (true, "f3f287d9654f4f68f12648f73dca44378a481e94836caa652ff26991354e62ba"), looks := false }, kinds := [], alts := [], laidByText := true, laidKinds := [.data], laidTests := true, laidLooks := .later }
def GuestRunsCardSaid : Prop := Claim7.holds Tryz.pinned (.plain (OpenSpec.ofChange guestRunsSpec)) guestRunsCard

/-- THE TIED CARD OF 'innkeeperlaw25.GuestKills'. -/
def guestKillsCard : Claim7 := { stood := { row := guestKillsRow, standIns := [], harness := (true, "f3f287d9654f4f68f12648f73dca44378a481e94836caa652ff26991354e62ba"), looks := false }, kinds := [], alts := [], laidByText := true, laidKinds := [.data], laidTests := true, laidLooks := .later }
def GuestKillsCardSaid : Prop := Claim7.holds Tryz.pinned (.plain (OpenSpec.ofChange guestKillsSpec)) guestKillsCard

/-- THE SECOND FORM's CARD OF 'innkeeperlaw24.EngineSelf'. -/
def engineSelfUptoCard : Claim7 := { stood := { row := engineSelfUptoRow, standIns := [], harness := (true, "f3f287d9654f4f68f12648f73dca44378a481e94836caa652ff26991354e62ba"), looks := false }, kinds := [], alts := [], laidByText := true, laidKinds := [.data], laidTests := true, laidLooks := .later }
def EngineSelfUptoCardSaid : Prop := Claim7.holds Tryz.pinned (.plain (OpenSpec.upto engineSelfSpec)) engineSelfUptoCard

/-- THE SECOND FORM's CARD OF 'innkeeperlaw24.EngineIrqs'. -/
def engineIrqsUptoCard : Claim7 := { stood := { row := engineIrqsUptoRow, standIns := [], harness := (true, "f3f287d9654f4f68f12648f73dca44378a481e94836caa652ff26991354e62ba"), looks := false }, kinds := [], alts := [], laidByText := true, laidKinds := [.data], laidTests := true, laidLooks := .later }
def EngineIrqsUptoCardSaid : Prop := Claim7.holds Tryz.pinned (.plain (OpenSpec.upto engineIrqsSpec)) engineIrqsUptoCard

/-- THE SECOND FORM's CARD OF 'innkeeperlaw24.EnginePaging'. -/
def enginePagingUptoCard : Claim7 := { stood := { row := enginePagingUptoRow, standIns := [], harness := (true, "f3f287d9654f4f68f12648f73dca44378a481e94836caa652ff26991354e62ba"), looks := false }, kinds := [], alts := [], laidByText := true, laidKinds := [.data], laidTests := true, laidLooks := .later }
def EnginePagingUptoCardSaid : Prop := Claim7.holds Tryz.pinned (.plain (OpenSpec.upto enginePagingSpec)) enginePagingUptoCard

/-- THE SECOND FORM's CARD OF 'innkeeperlaw25.GuestRuns'. -/
def guestRunsUptoCard : Claim7 := { stood := { row := guestRunsUptoRow, standIns := [], harness := (true, "f3f287d9654f4f68f12648f73dca44378a481e94836caa652ff26991354e62ba"), looks := false }, kinds := [], alts := [], laidByText := true, laidKinds := [.data], laidTests := true, laidLooks := .later }
def GuestRunsUptoCardSaid : Prop := Claim7.holds Tryz.pinned (.plain (OpenSpec.upto guestRunsSpec)) guestRunsUptoCard

/-- THE SECOND FORM's CARD OF 'innkeeperlaw25.GuestKills'. -/
def guestKillsUptoCard : Claim7 := { stood := { row := guestKillsUptoRow, standIns := [], harness := (true, "f3f287d9654f4f68f12648f73dca44378a481e94836caa652ff26991354e62ba"), looks := false }, kinds := [], alts := [], laidByText := true, laidKinds := [.data], laidTests := true, laidLooks := .later }
def GuestKillsUptoCardSaid : Prop := Claim7.holds Tryz.pinned (.plain (OpenSpec.upto guestKillsSpec)) guestKillsUptoCard
end Rows
end Go.Proofs.YtakodpimdalajaaGreatDoor
