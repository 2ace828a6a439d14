/-
  DERIVED. GIVEN WITH THE SEED: THE CARDS: each row of YtmhcmcpijmogfaaGreatDoorRows.lean that lists a variable, with what it lists TIED to the program's text (the seventh form; the later family's looks); each row that meets fmt, with fmt's text TOLD by the authors' own Lean function (tested against real Go, not proved from fmt's source: count such statements apart). THE CARD IS WHAT COUNTS. Prove the row's statement (the work); the ties are given (YtmhcmcpijmogfaaGreatDoorTie.lean); close each card by the builder's one call (the guide's Derived/Test/ToyasCard.lean, 'card_holds'). Laid BY PROGRAM, IN A SANDBOX (cutbox-door.mjs). By AI agents, Wed Nov 11 2026. No macro, syntax, notation, axiom, sorry.
-/
import Derived.Test.YtmhcmcpijmogfaaGreatDoorRows
import GoSem.ClaimSeven
namespace Go.Proofs.YtmhcmcpijmogfaaGreatDoor
namespace Rows

/-- THE TIED CARD OF 'cenotaphlaw12.FramePuts'. -/
def framePutsCard : Claim7 := { stood := { row := framePutsRow, standIns := [], harness := (true, "2a7664c9abf45da6d06c318d184f51999aa16dc03c2d8e6387903178e32a0636"), looks := true }, kinds := [], alts := [], laidByText := true, laidKinds := [.data, .data, .data, .data, .sentinel, .sentinel, .pinned], laidTests := true, laidLooks := .later }
def FramePutsCardSaid : Prop := Claim7.holds Tryz.pinned (.plain (OpenSpec.ofChange framePutsSpec)) framePutsCard

/-- THE TIED CARD OF 'cenotaphlaw12.FrameTakes'. -/
def frameTakesCard : Claim7 := { stood := { row := frameTakesRow, standIns := [], harness := (true, "2a7664c9abf45da6d06c318d184f51999aa16dc03c2d8e6387903178e32a0636"), looks := true }, kinds := [], alts := [], laidByText := true, laidKinds := [.data, .data, .data, .data, .sentinel, .sentinel, .pinned], laidTests := true, laidLooks := .later }
def FrameTakesCardSaid : Prop := Claim7.holds Tryz.pinned (.plain (OpenSpec.ofChange frameTakesSpec)) frameTakesCard

/-- THE TIED CARD OF 'cenotaphlaw12.FrameCuts'. -/
def frameCutsCard : Claim7 := { stood := { row := frameCutsRow, standIns := [], harness := (true, "2a7664c9abf45da6d06c318d184f51999aa16dc03c2d8e6387903178e32a0636"), looks := true }, kinds := [], alts := [], laidByText := true, laidKinds := [.data, .data, .data, .data, .sentinel, .sentinel, .pinned], laidTests := true, laidLooks := .later }
def FrameCutsCardSaid : Prop := Claim7.holds Tryz.pinned (.plain (OpenSpec.ofChange frameCutsSpec)) frameCutsCard

/-- THE TIED CARD OF 'cenotaphlaw12.FrameOnce'. -/
def frameOnceCard : Claim7 := { stood := { row := frameOnceRow, standIns := [], harness := (true, "2a7664c9abf45da6d06c318d184f51999aa16dc03c2d8e6387903178e32a0636"), looks := true }, kinds := [], alts := [], laidByText := true, laidKinds := [.data, .data, .data, .data, .sentinel, .sentinel, .pinned], laidTests := true, laidLooks := .later }
def FrameOnceCardSaid : Prop := Claim7.holds Tryz.pinned (.plain (OpenSpec.ofChange frameOnceSpec)) frameOnceCard

/-- THE SECOND FORM's CARD OF 'cenotaphlaw12.FramePuts'. -/
def framePutsUptoCard : Claim7 := { stood := { row := framePutsUptoRow, standIns := [], harness := (true, "2a7664c9abf45da6d06c318d184f51999aa16dc03c2d8e6387903178e32a0636"), looks := true }, kinds := [], alts := [], laidByText := true, laidKinds := [.data, .data, .data, .data, .sentinel, .sentinel, .pinned], laidTests := true, laidLooks := .later }
def FramePutsUptoCardSaid : Prop := Claim7.holds Tryz.pinned (.plain (OpenSpec.upto framePutsSpec)) framePutsUptoCard

/-- THE SECOND FORM's CARD OF 'cenotaphlaw12.FrameTakes'. -/
def frameTakesUptoCard : Claim7 := { stood := { row := frameTakesUptoRow, standIns := [], harness := (true, "2a7664c9abf45da6d06c318d184f51999aa16dc03c2d8e6387903178e32a0636"), looks := true }, kinds := [], alts := [], laidByText := true, laidKinds := [.data, .data, .data, .data, .sentinel, .sentinel, .pinned], laidTests := true, laidLooks := .later }
def FrameTakesUptoCardSaid : Prop := Claim7.holds Tryz.pinned (.plain (OpenSpec.upto frameTakesSpec)) frameTakesUptoCard

/-- THE SECOND FORM's CARD OF 'cenotaphlaw12.FrameCuts'. -/
def frameCutsUptoCard : Claim7 := { stood := { row := frameCutsUptoRow, standIns := [], harness := (true, "2a7664c9abf45da6d06c318d184f51999aa16dc03c2d8e6387903178e32a0636"), looks := true }, kinds := [], alts := [], laidByText := true, laidKinds := [.data, .data, .data, .data, .sentinel, .sentinel, .pinned], laidTests := true, laidLooks := .later }
def FrameCutsUptoCardSaid : Prop := Claim7.holds Tryz.pinned (.plain (OpenSpec.upto frameCutsSpec)) frameCutsUptoCard

/-- THE SECOND FORM's CARD OF 'cenotaphlaw12.FrameOnce'. -/
def frameOnceUptoCard : Claim7 := { stood := { row := frameOnceUptoRow, standIns := [], harness := (true, "2a7664c9abf45da6d06c318d184f51999aa16dc03c2d8e6387903178e32a0636"), looks := true }, kinds := [], alts := [], laidByText := true, laidKinds := [.data, .data, .data, .data, .sentinel, .sentinel, .pinned], laidTests := true, laidLooks := .later }
def FrameOnceUptoCardSaid : Prop := Claim7.holds Tryz.pinned (.plain (OpenSpec.upto frameOnceSpec)) frameOnceUptoCard
end Rows
end Go.Proofs.YtmhcmcpijmogfaaGreatDoor
