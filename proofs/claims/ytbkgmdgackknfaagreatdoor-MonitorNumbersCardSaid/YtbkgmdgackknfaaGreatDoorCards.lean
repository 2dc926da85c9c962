/-
  DERIVED. GIVEN WITH THE SEED: THE CARDS: each row of YtbkgmdgackknfaaGreatDoorRows.lean that lists a variable, with what it lists TIED to the program's text (the seventh form; the later family's looks); each row that meets fmt, with fmt's text TOLD by the authors' own Lean function (tested against real Go, not proved from fmt's source: count such statements apart). THE CARD IS WHAT COUNTS. Prove the row's statement (the work); the ties are given (YtbkgmdgackknfaaGreatDoorTie.lean); close each card by the builder's one call (the guide's Derived/Test/ToyasCard.lean, 'card_holds'). Laid BY PROGRAM, IN A SANDBOX (cutbox-door.mjs). By AI agents, Wed Nov 11 2026. No macro, syntax, notation, axiom, sorry.
-/
import Derived.Test.YtbkgmdgackknfaaGreatDoorRows
import GoSem.ClaimSeven
namespace Go.Proofs.YtbkgmdgackknfaaGreatDoor
namespace Rows

/-- THE TIED CARD OF 'innkeeperlaw26.MonitorAlone'. -/
def monitorAloneCard : Claim7 := { stood := { row := monitorAloneRow, standIns := [], harness := (true, "7233475e1eee47859ba5ec04050775d2fff6b024a3bb809a7d36237ca43f2dc1"), looks := false }, kinds := [], alts := [], laidByText := true, laidKinds := [.data], laidTests := true, laidLooks := .later }
def MonitorAloneCardSaid : Prop := Claim7.holds Tryz.pinned (.plain (OpenSpec.ofChange monitorAloneSpec)) monitorAloneCard

/-- THE TIED CARD OF 'innkeeperlaw26.MonitorOrders'. -/
def monitorOrdersCard : Claim7 := { stood := { row := monitorOrdersRow, standIns := [], harness := (true, "7233475e1eee47859ba5ec04050775d2fff6b024a3bb809a7d36237ca43f2dc1"), looks := false }, kinds := [], alts := [], laidByText := true, laidKinds := [.data], laidTests := true, laidLooks := .later }
def MonitorOrdersCardSaid : Prop := Claim7.holds Tryz.pinned (.plain (OpenSpec.ofChange monitorOrdersSpec)) monitorOrdersCard

/-- THE TIED CARD OF 'innkeeperlaw26.MonitorLooks'. -/
def monitorLooksCard : Claim7 := { stood := { row := monitorLooksRow, standIns := [], harness := (true, "7233475e1eee47859ba5ec04050775d2fff6b024a3bb809a7d36237ca43f2dc1"), looks := false }, kinds := [], alts := [], laidByText := true, laidKinds := [.data], laidTests := true, laidLooks := .later }
def MonitorLooksCardSaid : Prop := Claim7.holds Tryz.pinned (.plain (OpenSpec.ofChange monitorLooksSpec)) monitorLooksCard

/-- THE TIED CARD OF 'innkeeperlaw26.MonitorBoots'. -/
def monitorBootsCard : Claim7 := { stood := { row := monitorBootsRow, standIns := [], harness := (true, "7233475e1eee47859ba5ec04050775d2fff6b024a3bb809a7d36237ca43f2dc1"), looks := false }, kinds := [], alts := [], laidByText := true, laidKinds := [.data], laidTests := true, laidLooks := .later }
def MonitorBootsCardSaid : Prop := Claim7.holds Tryz.pinned (.plain (OpenSpec.ofChange monitorBootsSpec)) monitorBootsCard

/-- THE TIED CARD OF 'innkeeperlaw26.MonitorNumbers'. -/
def monitorNumbersCard : Claim7 := { stood := { row := monitorNumbersRow, standIns := [], harness := (true, "7233475e1eee47859ba5ec04050775d2fff6b024a3bb809a7d36237ca43f2dc1"), looks := false }, kinds := [], alts := [], laidByText := true, laidKinds := [.data], laidTests := true, laidLooks := .later }
def MonitorNumbersCardSaid : Prop := Claim7.holds Tryz.pinned (.plain (OpenSpec.ofChange monitorNumbersSpec)) monitorNumbersCard

/-- THE TIED CARD OF 'innkeeperlaw26.MonitorKills'. -/
def monitorKillsCard : Claim7 := { stood := { row := monitorKillsRow, standIns := [], harness := (true, "7233475e1eee47859ba5ec04050775d2fff6b024a3bb809a7d36237ca43f2dc1"), looks := false }, kinds := [], alts := [], laidByText := true, laidKinds := [.data], laidTests := true, laidLooks := .later }
def MonitorKillsCardSaid : Prop := Claim7.holds Tryz.pinned (.plain (OpenSpec.ofChange monitorKillsSpec)) monitorKillsCard

/-- THE TIED CARD OF 'innkeeperlaw26.MonitorFrames'. -/
def monitorFramesCard : Claim7 := { stood := { row := monitorFramesRow, standIns := [], harness := (true, "7233475e1eee47859ba5ec04050775d2fff6b024a3bb809a7d36237ca43f2dc1"), looks := false }, kinds := [], alts := [], laidByText := true, laidKinds := [.data], laidTests := true, laidLooks := .later }
def MonitorFramesCardSaid : Prop := Claim7.holds Tryz.pinned (.plain (OpenSpec.ofChange monitorFramesSpec)) monitorFramesCard

/-- THE TIED CARD OF 'innkeepertop.TopApart'. -/
def topApartCard : Claim7 := { stood := { row := topApartRow, standIns := [], harness := (true, "7233475e1eee47859ba5ec04050775d2fff6b024a3bb809a7d36237ca43f2dc1"), looks := false }, kinds := [], alts := [], laidByText := true, laidKinds := [.data], laidTests := true, laidLooks := .later }
def TopApartCardSaid : Prop := Claim7.holds Tryz.pinned (.plain (OpenSpec.ofChange topApartSpec)) topApartCard

/-- THE TIED CARD OF 'innkeepertop.TopFlushes'. -/
def topFlushesCard : Claim7 := { stood := { row := topFlushesRow, standIns := [], harness := (true, "7233475e1eee47859ba5ec04050775d2fff6b024a3bb809a7d36237ca43f2dc1"), looks := false }, kinds := [], alts := [], laidByText := true, laidKinds := [.data], laidTests := true, laidLooks := .later }
def TopFlushesCardSaid : Prop := Claim7.holds Tryz.pinned (.plain (OpenSpec.ofChange topFlushesSpec)) topFlushesCard

/-- THE TIED CARD OF 'innkeepertop.TopOutputs'. -/
def topOutputsCard : Claim7 := { stood := { row := topOutputsRow, standIns := [], harness := (true, "7233475e1eee47859ba5ec04050775d2fff6b024a3bb809a7d36237ca43f2dc1"), looks := false }, kinds := [], alts := [], laidByText := true, laidKinds := [.data], laidTests := true, laidLooks := .later }
def TopOutputsCardSaid : Prop := Claim7.holds Tryz.pinned (.plain (OpenSpec.ofChange topOutputsSpec)) topOutputsCard

/-- THE SECOND FORM's CARD OF 'innkeeperlaw26.MonitorAlone'. -/
def monitorAloneUptoCard : Claim7 := { stood := { row := monitorAloneUptoRow, standIns := [], harness := (true, "7233475e1eee47859ba5ec04050775d2fff6b024a3bb809a7d36237ca43f2dc1"), looks := false }, kinds := [], alts := [], laidByText := true, laidKinds := [.data], laidTests := true, laidLooks := .later }
def MonitorAloneUptoCardSaid : Prop := Claim7.holds Tryz.pinned (.plain (OpenSpec.upto monitorAloneSpec)) monitorAloneUptoCard

/-- THE SECOND FORM's CARD OF 'innkeeperlaw26.MonitorOrders'. -/
def monitorOrdersUptoCard : Claim7 := { stood := { row := monitorOrdersUptoRow, standIns := [], harness := (true, "7233475e1eee47859ba5ec04050775d2fff6b024a3bb809a7d36237ca43f2dc1"), looks := false }, kinds := [], alts := [], laidByText := true, laidKinds := [.data], laidTests := true, laidLooks := .later }
def MonitorOrdersUptoCardSaid : Prop := Claim7.holds Tryz.pinned (.plain (OpenSpec.upto monitorOrdersSpec)) monitorOrdersUptoCard

/-- THE SECOND FORM's CARD OF 'innkeeperlaw26.MonitorLooks'. -/
def monitorLooksUptoCard : Claim7 := { stood := { row := monitorLooksUptoRow, standIns := [], harness := (true, "7233475e1eee47859ba5ec04050775d2fff6b024a3bb809a7d36237ca43f2dc1"), looks := false }, kinds := [], alts := [], laidByText := true, laidKinds := [.data], laidTests := true, laidLooks := .later }
def MonitorLooksUptoCardSaid : Prop := Claim7.holds Tryz.pinned (.plain (OpenSpec.upto monitorLooksSpec)) monitorLooksUptoCard

/-- THE SECOND FORM's CARD OF 'innkeeperlaw26.MonitorBoots'. -/
def monitorBootsUptoCard : Claim7 := { stood := { row := monitorBootsUptoRow, standIns := [], harness := (true, "7233475e1eee47859ba5ec04050775d2fff6b024a3bb809a7d36237ca43f2dc1"), looks := false }, kinds := [], alts := [], laidByText := true, laidKinds := [.data], laidTests := true, laidLooks := .later }
def MonitorBootsUptoCardSaid : Prop := Claim7.holds Tryz.pinned (.plain (OpenSpec.upto monitorBootsSpec)) monitorBootsUptoCard

/-- THE SECOND FORM's CARD OF 'innkeeperlaw26.MonitorNumbers'. -/
def monitorNumbersUptoCard : Claim7 := { stood := { row := monitorNumbersUptoRow, standIns := [], harness := (true, "7233475e1eee47859ba5ec04050775d2fff6b024a3bb809a7d36237ca43f2dc1"), looks := false }, kinds := [], alts := [], laidByText := true, laidKinds := [.data], laidTests := true, laidLooks := .later }
def MonitorNumbersUptoCardSaid : Prop := Claim7.holds Tryz.pinned (.plain (OpenSpec.upto monitorNumbersSpec)) monitorNumbersUptoCard

/-- THE SECOND FORM's CARD OF 'innkeeperlaw26.MonitorKills'. -/
def monitorKillsUptoCard : Claim7 := { stood := { row := monitorKillsUptoRow, standIns := [], harness := (true, "7233475e1eee47859ba5ec04050775d2fff6b024a3bb809a7d36237ca43f2dc1"), looks := false }, kinds := [], alts := [], laidByText := true, laidKinds := [.data], laidTests := true, laidLooks := .later }
def MonitorKillsUptoCardSaid : Prop := Claim7.holds Tryz.pinned (.plain (OpenSpec.upto monitorKillsSpec)) monitorKillsUptoCard

/-- THE SECOND FORM's CARD OF 'innkeeperlaw26.MonitorFrames'. -/
def monitorFramesUptoCard : Claim7 := { stood := { row := monitorFramesUptoRow, standIns := [], harness := (true, "7233475e1eee47859ba5ec04050775d2fff6b024a3bb809a7d36237ca43f2dc1"), looks := false }, kinds := [], alts := [], laidByText := true, laidKinds := [.data], laidTests := true, laidLooks := .later }
def MonitorFramesUptoCardSaid : Prop := Claim7.holds Tryz.pinned (.plain (OpenSpec.upto monitorFramesSpec)) monitorFramesUptoCard

/-- THE SECOND FORM's CARD OF 'innkeepertop.TopApart'. -/
def topApartUptoCard : Claim7 := { stood := { row := topApartUptoRow, standIns := [], harness := (true, "7233475e1eee47859ba5ec04050775d2fff6b024a3bb809a7d36237ca43f2dc1"), looks := false }, kinds := [], alts := [], laidByText := true, laidKinds := [.data], laidTests := true, laidLooks := .later }
def TopApartUptoCardSaid : Prop := Claim7.holds Tryz.pinned (.plain (OpenSpec.upto topApartSpec)) topApartUptoCard

/-- THE SECOND FORM's CARD OF 'innkeepertop.TopFlushes'. -/
def topFlushesUptoCard : Claim7 := { stood := { row := topFlushesUptoRow, standIns := [], harness := (true, "7233475e1eee47859ba5ec04050775d2fff6b024a3bb809a7d36237ca43f2dc1"), looks := false }, kinds := [], alts := [], laidByText := true, laidKinds := [.data], laidTests := true, laidLooks := .later }
def TopFlushesUptoCardSaid : Prop := Claim7.holds Tryz.pinned (.plain (OpenSpec.upto topFlushesSpec)) topFlushesUptoCard

/-- THE SECOND FORM's CARD OF 'innkeepertop.TopOutputs'. -/
def topOutputsUptoCard : Claim7 := { stood := { row := topOutputsUptoRow, standIns := [], harness := (true, "7233475e1eee47859ba5ec04050775d2fff6b024a3bb809a7d36237ca43f2dc1"), looks := false }, kinds := [], alts := [], laidByText := true, laidKinds := [.data], laidTests := true, laidLooks := .later }
def TopOutputsUptoCardSaid : Prop := Claim7.holds Tryz.pinned (.plain (OpenSpec.upto topOutputsSpec)) topOutputsUptoCard
end Rows
end Go.Proofs.YtbkgmdgackknfaaGreatDoor
