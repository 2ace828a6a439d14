/-
  DERIVED. GIVEN WITH THE SEED: THE CARDS: each row of YtabelkgkonmihaaDoorRows.lean that lists a variable, with what it lists TIED to the program's text (the seventh form; the later family's looks); each row that meets fmt, with fmt's text TOLD by the authors' own Lean function (tested against real Go, not proved from fmt's source: count such statements apart). THE CARD IS WHAT COUNTS. Prove the row's statement (the work); the ties are given (YtabelkgkonmihaaDoorTie.lean); close each card by the builder's one call (the guide's Derived/Test/ToyasCard.lean, 'card_holds'). Laid BY PROGRAM, IN A SANDBOX (cutbox-door.mjs). By AI agents, Wed Nov 11 2026. No macro, syntax, notation, axiom, sorry.
-/
import Derived.Test.YtabelkgkonmihaaDoorRows
import GoSem.ClaimSeven
namespace Go.Proofs.YtabelkgkonmihaaDoor
namespace Rows

/-- THE TIED CARD OF 'cenotaphlaw05.ZoneHas'. -/
def zoneHasCard : Claim7 := { stood := { row := zoneHasRow, standIns := [], harness := (true, "49a6ff77de2e77495f67a59c6ed6a39fcd3571ccd3ce2cbf626b98da690a8778"), looks := true }, kinds := [], alts := [], laidByText := true, laidKinds := [.data, .data, .data, .data, .sentinel, .sentinel, .pinned], laidTests := true, laidLooks := .later }
def ZoneHasCardSaid : Prop := Claim7.holds Tryd.pinned (.plain (OpenSpec.ofChange zoneHasSpec)) zoneHasCard

/-- THE TIED CARD OF 'cenotaphlaw05.ZoneParts'. -/
def zonePartsCard : Claim7 := { stood := { row := zonePartsRow, standIns := [], harness := (true, "49a6ff77de2e77495f67a59c6ed6a39fcd3571ccd3ce2cbf626b98da690a8778"), looks := true }, kinds := [], alts := [], laidByText := true, laidKinds := [.data, .data, .data, .data, .sentinel, .sentinel, .pinned], laidTests := true, laidLooks := .later }
def ZonePartsCardSaid : Prop := Claim7.holds Tryd.pinned (.plain (OpenSpec.ofChange zonePartsSpec)) zonePartsCard

/-- THE TIED CARD OF 'cenotaphlaw05.ZoneTexts'. -/
def zoneTextsCard : Claim7 := { stood := { row := zoneTextsRow, standIns := [], harness := (true, "49a6ff77de2e77495f67a59c6ed6a39fcd3571ccd3ce2cbf626b98da690a8778"), looks := true }, kinds := [], alts := [], laidByText := true, laidKinds := [.data, .data, .data, .data, .sentinel, .sentinel, .pinned], laidTests := true, laidLooks := .later }
def ZoneTextsCardSaid : Prop := Claim7.holds Tryd.pinned (.plain (OpenSpec.ofChange zoneTextsSpec)) zoneTextsCard

/-- THE TIED CARD OF 'cenotaphlaw05.ZoneLogic'. -/
def zoneLogicCard : Claim7 := { stood := { row := zoneLogicRow, standIns := [], harness := (true, "49a6ff77de2e77495f67a59c6ed6a39fcd3571ccd3ce2cbf626b98da690a8778"), looks := true }, kinds := [], alts := [], laidByText := true, laidKinds := [.data, .data, .data, .data, .sentinel, .sentinel, .pinned], laidTests := true, laidLooks := .later }
def ZoneLogicCardSaid : Prop := Claim7.holds Tryd.pinned (.plain (OpenSpec.ofChange zoneLogicSpec)) zoneLogicCard

/-- THE TIED CARD OF 'cenotaphlaw05.ZoneDiscs'. -/
def zoneDiscsCard : Claim7 := { stood := { row := zoneDiscsRow, standIns := [], harness := (true, "49a6ff77de2e77495f67a59c6ed6a39fcd3571ccd3ce2cbf626b98da690a8778"), looks := true }, kinds := [], alts := [], laidByText := true, laidKinds := [.data, .data, .data, .data, .sentinel, .sentinel, .pinned], laidTests := true, laidLooks := .later }
def ZoneDiscsCardSaid : Prop := Claim7.holds Tryd.pinned (.plain (OpenSpec.ofChange zoneDiscsSpec)) zoneDiscsCard

/-- THE TIED CARD OF 'cenotaphlaw05.ZoneRights'. -/
def zoneRightsCard : Claim7 := { stood := { row := zoneRightsRow, standIns := [], harness := (true, "49a6ff77de2e77495f67a59c6ed6a39fcd3571ccd3ce2cbf626b98da690a8778"), looks := true }, kinds := [], alts := [], laidByText := true, laidKinds := [.data, .data, .data, .data, .sentinel, .sentinel, .pinned], laidTests := true, laidLooks := .later }
def ZoneRightsCardSaid : Prop := Claim7.holds Tryd.pinned (.plain (OpenSpec.ofChange zoneRightsSpec)) zoneRightsCard

/-- THE TIED CARD OF 'cenotaphlaw05.ZoneTurns'. -/
def zoneTurnsCard : Claim7 := { stood := { row := zoneTurnsRow, standIns := [], harness := (true, "49a6ff77de2e77495f67a59c6ed6a39fcd3571ccd3ce2cbf626b98da690a8778"), looks := true }, kinds := [], alts := [], laidByText := true, laidKinds := [.data, .data, .data, .data, .sentinel, .sentinel, .pinned], laidTests := true, laidLooks := .later }
def ZoneTurnsCardSaid : Prop := Claim7.holds Tryd.pinned (.plain (OpenSpec.ofChange zoneTurnsSpec)) zoneTurnsCard

/-- THE SECOND FORM's CARD OF 'cenotaphlaw05.ZoneHas'. -/
def zoneHasUptoCard : Claim7 := { stood := { row := zoneHasUptoRow, standIns := [], harness := (true, "49a6ff77de2e77495f67a59c6ed6a39fcd3571ccd3ce2cbf626b98da690a8778"), looks := true }, kinds := [], alts := [], laidByText := true, laidKinds := [.data, .data, .data, .data, .sentinel, .sentinel, .pinned], laidTests := true, laidLooks := .later }
def ZoneHasUptoCardSaid : Prop := Claim7.holds Tryd.pinned (.plain (OpenSpec.upto zoneHasSpec)) zoneHasUptoCard

/-- THE SECOND FORM's CARD OF 'cenotaphlaw05.ZoneParts'. -/
def zonePartsUptoCard : Claim7 := { stood := { row := zonePartsUptoRow, standIns := [], harness := (true, "49a6ff77de2e77495f67a59c6ed6a39fcd3571ccd3ce2cbf626b98da690a8778"), looks := true }, kinds := [], alts := [], laidByText := true, laidKinds := [.data, .data, .data, .data, .sentinel, .sentinel, .pinned], laidTests := true, laidLooks := .later }
def ZonePartsUptoCardSaid : Prop := Claim7.holds Tryd.pinned (.plain (OpenSpec.upto zonePartsSpec)) zonePartsUptoCard

/-- THE SECOND FORM's CARD OF 'cenotaphlaw05.ZoneTexts'. -/
def zoneTextsUptoCard : Claim7 := { stood := { row := zoneTextsUptoRow, standIns := [], harness := (true, "49a6ff77de2e77495f67a59c6ed6a39fcd3571ccd3ce2cbf626b98da690a8778"), looks := true }, kinds := [], alts := [], laidByText := true, laidKinds := [.data, .data, .data, .data, .sentinel, .sentinel, .pinned], laidTests := true, laidLooks := .later }
def ZoneTextsUptoCardSaid : Prop := Claim7.holds Tryd.pinned (.plain (OpenSpec.upto zoneTextsSpec)) zoneTextsUptoCard

/-- THE SECOND FORM's CARD OF 'cenotaphlaw05.ZoneLogic'. -/
def zoneLogicUptoCard : Claim7 := { stood := { row := zoneLogicUptoRow, standIns := [], harness := (true, "49a6ff77de2e77495f67a59c6ed6a39fcd3571ccd3ce2cbf626b98da690a8778"), looks := true }, kinds := [], alts := [], laidByText := true, laidKinds := [.data, .data, .data, .data, .sentinel, .sentinel, .pinned], laidTests := true, laidLooks := .later }
def ZoneLogicUptoCardSaid : Prop := Claim7.holds Tryd.pinned (.plain (OpenSpec.upto zoneLogicSpec)) zoneLogicUptoCard

/-- THE SECOND FORM's CARD OF 'cenotaphlaw05.ZoneDiscs'. -/
def zoneDiscsUptoCard : Claim7 := { stood := { row := zoneDiscsUptoRow, standIns := [], harness := (true, "49a6ff77de2e77495f67a59c6ed6a39fcd3571ccd3ce2cbf626b98da690a8778"), looks := true }, kinds := [], alts := [], laidByText := true, laidKinds := [.data, .data, .data, .data, .sentinel, .sentinel, .pinned], laidTests := true, laidLooks := .later }
def ZoneDiscsUptoCardSaid : Prop := Claim7.holds Tryd.pinned (.plain (OpenSpec.upto zoneDiscsSpec)) zoneDiscsUptoCard

/-- THE SECOND FORM's CARD OF 'cenotaphlaw05.ZoneRights'. -/
def zoneRightsUptoCard : Claim7 := { stood := { row := zoneRightsUptoRow, standIns := [], harness := (true, "49a6ff77de2e77495f67a59c6ed6a39fcd3571ccd3ce2cbf626b98da690a8778"), looks := true }, kinds := [], alts := [], laidByText := true, laidKinds := [.data, .data, .data, .data, .sentinel, .sentinel, .pinned], laidTests := true, laidLooks := .later }
def ZoneRightsUptoCardSaid : Prop := Claim7.holds Tryd.pinned (.plain (OpenSpec.upto zoneRightsSpec)) zoneRightsUptoCard

/-- THE SECOND FORM's CARD OF 'cenotaphlaw05.ZoneTurns'. -/
def zoneTurnsUptoCard : Claim7 := { stood := { row := zoneTurnsUptoRow, standIns := [], harness := (true, "49a6ff77de2e77495f67a59c6ed6a39fcd3571ccd3ce2cbf626b98da690a8778"), looks := true }, kinds := [], alts := [], laidByText := true, laidKinds := [.data, .data, .data, .data, .sentinel, .sentinel, .pinned], laidTests := true, laidLooks := .later }
def ZoneTurnsUptoCardSaid : Prop := Claim7.holds Tryd.pinned (.plain (OpenSpec.upto zoneTurnsSpec)) zoneTurnsUptoCard
end Rows
end Go.Proofs.YtabelkgkonmihaaDoor
