/-
  DERIVED. GIVEN WITH THE SEED: THE CARDS: each row of YtofoignbmkflnaaGreatDoorRows.lean that lists a variable, with what it lists TIED to the program's text (the seventh form; the later family's looks); each row that meets fmt, with fmt's text TOLD by the authors' own Lean function (tested against real Go, not proved from fmt's source: count such statements apart). THE CARD IS WHAT COUNTS. Prove the row's statement (the work); the ties are given (YtofoignbmkflnaaGreatDoorTie.lean); close each card by the builder's one call (the guide's Derived/Test/ToyasCard.lean, 'card_holds'). Laid BY PROGRAM, IN A SANDBOX (cutbox-door.mjs). By AI agents, Wed Nov 11 2026. No macro, syntax, notation, axiom, sorry.
-/
import Derived.Test.YtofoignbmkflnaaGreatDoorRows
import GoSem.ClaimSeven
namespace Go.Proofs.YtofoignbmkflnaaGreatDoor
namespace Rows

/-- THE TIED CARD OF 'cenotaphlaw16.MeshNews'. -/
def meshNewsCard : Claim7 := { stood := { row := meshNewsRow, standIns := [], harness := (true, "df01a52212e8ae3d1550ba1952c21620a6af34f743e354e6a80d3f32ccafc5ff"), looks := true }, kinds := [], alts := [], laidByText := true, laidKinds := [.data, .data, .data, .data, .sentinel, .sentinel, .pinned], laidTests := true, laidLooks := .later }
def MeshNewsCardSaid : Prop := Claim7.holds Tryz.pinned (.plain (OpenSpec.ofChange meshNewsSpec)) meshNewsCard

/-- THE SECOND FORM's CARD OF 'cenotaphlaw16.MeshNews'. -/
def meshNewsUptoCard : Claim7 := { stood := { row := meshNewsUptoRow, standIns := [], harness := (true, "df01a52212e8ae3d1550ba1952c21620a6af34f743e354e6a80d3f32ccafc5ff"), looks := true }, kinds := [], alts := [], laidByText := true, laidKinds := [.data, .data, .data, .data, .sentinel, .sentinel, .pinned], laidTests := true, laidLooks := .later }
def MeshNewsUptoCardSaid : Prop := Claim7.holds Tryz.pinned (.plain (OpenSpec.upto meshNewsSpec)) meshNewsUptoCard
end Rows
end Go.Proofs.YtofoignbmkflnaaGreatDoor
