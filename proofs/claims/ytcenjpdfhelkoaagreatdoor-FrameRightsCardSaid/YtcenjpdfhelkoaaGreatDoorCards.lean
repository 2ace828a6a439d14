/-
  DERIVED. GIVEN WITH THE SEED: THE CARDS: each row of YtcenjpdfhelkoaaGreatDoorRows.lean that lists a variable, with what it lists TIED to the program's text (the seventh form; the later family's looks); each row that meets fmt, with fmt's text TOLD by the authors' own Lean function (tested against real Go, not proved from fmt's source: count such statements apart). THE CARD IS WHAT COUNTS. Prove the row's statement (the work); the ties are given (YtcenjpdfhelkoaaGreatDoorTie.lean); close each card by the builder's one call (the guide's Derived/Test/ToyasCard.lean, 'card_holds'). Laid BY PROGRAM, IN A SANDBOX (cutbox-door.mjs). By AI agents, Wed Nov 11 2026. No macro, syntax, notation, axiom, sorry.
-/
import Derived.Test.YtcenjpdfhelkoaaGreatDoorRows
import GoSem.ClaimSeven
namespace Go.Proofs.YtcenjpdfhelkoaaGreatDoor
namespace Rows

/-- THE TIED CARD OF 'cenotaphlaw12.FrameRights'. -/
def frameRightsCard : Claim7 := { stood := { row := frameRightsRow, standIns := [], harness := (true, "943a9d1f3a9e4335e745d205377ab452a434a06607cae0613cd310fb0b9e3968"), looks := true }, kinds := [], alts := [], laidByText := true, laidKinds := [.data, .data, .data, .data, .sentinel, .sentinel, .pinned], laidTests := true, laidLooks := .later }
def FrameRightsCardSaid : Prop := Claim7.holds Tryz.pinned (.plain (OpenSpec.ofChange frameRightsSpec)) frameRightsCard

/-- THE TIED CARD OF 'cenotaphlaw12.FramePuts'. -/
def framePutsCard : Claim7 := { stood := { row := framePutsRow, standIns := [], harness := (true, "943a9d1f3a9e4335e745d205377ab452a434a06607cae0613cd310fb0b9e3968"), looks := true }, kinds := [], alts := [], laidByText := true, laidKinds := [.data, .data, .data, .data, .sentinel, .sentinel, .pinned], laidTests := true, laidLooks := .later }
def FramePutsCardSaid : Prop := Claim7.holds Tryz.pinned (.plain (OpenSpec.ofChange framePutsSpec)) framePutsCard

/-- THE TIED CARD OF 'cenotaphlaw12.FrameTakes'. -/
def frameTakesCard : Claim7 := { stood := { row := frameTakesRow, standIns := [], harness := (true, "943a9d1f3a9e4335e745d205377ab452a434a06607cae0613cd310fb0b9e3968"), looks := true }, kinds := [], alts := [], laidByText := true, laidKinds := [.data, .data, .data, .data, .sentinel, .sentinel, .pinned], laidTests := true, laidLooks := .later }
def FrameTakesCardSaid : Prop := Claim7.holds Tryz.pinned (.plain (OpenSpec.ofChange frameTakesSpec)) frameTakesCard

/-- THE TIED CARD OF 'cenotaphlaw12.FrameCuts'. -/
def frameCutsCard : Claim7 := { stood := { row := frameCutsRow, standIns := [], harness := (true, "943a9d1f3a9e4335e745d205377ab452a434a06607cae0613cd310fb0b9e3968"), looks := true }, kinds := [], alts := [], laidByText := true, laidKinds := [.data, .data, .data, .data, .sentinel, .sentinel, .pinned], laidTests := true, laidLooks := .later }
def FrameCutsCardSaid : Prop := Claim7.holds Tryz.pinned (.plain (OpenSpec.ofChange frameCutsSpec)) frameCutsCard

/-- THE TIED CARD OF 'cenotaphlaw12.FrameOnce'. -/
def frameOnceCard : Claim7 := { stood := { row := frameOnceRow, standIns := [], harness := (true, "943a9d1f3a9e4335e745d205377ab452a434a06607cae0613cd310fb0b9e3968"), looks := true }, kinds := [], alts := [], laidByText := true, laidKinds := [.data, .data, .data, .data, .sentinel, .sentinel, .pinned], laidTests := true, laidLooks := .later }
def FrameOnceCardSaid : Prop := Claim7.holds Tryz.pinned (.plain (OpenSpec.ofChange frameOnceSpec)) frameOnceCard

/-- THE TIED CARD OF 'cenotaphlaw15.BagActs'. -/
def bagActsCard : Claim7 := { stood := { row := bagActsRow, standIns := [], harness := (true, "943a9d1f3a9e4335e745d205377ab452a434a06607cae0613cd310fb0b9e3968"), looks := true }, kinds := [], alts := [], laidByText := true, laidKinds := [.data, .data, .data, .data, .sentinel, .sentinel, .pinned], laidTests := true, laidLooks := .later }
def BagActsCardSaid : Prop := Claim7.holds Tryz.pinned (.plain (OpenSpec.ofChange bagActsSpec)) bagActsCard

/-- THE TIED CARD OF 'cenotaphlaw15.BagRaw'. -/
def bagRawCard : Claim7 := { stood := { row := bagRawRow, standIns := [], harness := (true, "943a9d1f3a9e4335e745d205377ab452a434a06607cae0613cd310fb0b9e3968"), looks := true }, kinds := [], alts := [], laidByText := true, laidKinds := [.data, .data, .data, .data, .sentinel, .sentinel, .pinned], laidTests := true, laidLooks := .later }
def BagRawCardSaid : Prop := Claim7.holds Tryz.pinned (.plain (OpenSpec.ofChange bagRawSpec)) bagRawCard

/-- THE TIED CARD OF 'cenotaphlaw15.BagKeeps'. -/
def bagKeepsCard : Claim7 := { stood := { row := bagKeepsRow, standIns := [], harness := (true, "943a9d1f3a9e4335e745d205377ab452a434a06607cae0613cd310fb0b9e3968"), looks := true }, kinds := [], alts := [], laidByText := true, laidKinds := [.data, .data, .data, .data, .sentinel, .sentinel, .pinned], laidTests := true, laidLooks := .later }
def BagKeepsCardSaid : Prop := Claim7.holds Tryz.pinned (.plain (OpenSpec.ofChange bagKeepsSpec)) bagKeepsCard

/-- THE TIED CARD OF 'cenotaphlaw17.ScriptLines'. -/
def scriptLinesCard : Claim7 := { stood := { row := scriptLinesRow, standIns := [], harness := (true, "943a9d1f3a9e4335e745d205377ab452a434a06607cae0613cd310fb0b9e3968"), looks := true }, kinds := [], alts := [], laidByText := true, laidKinds := [.data, .data, .data, .data, .sentinel, .sentinel, .pinned], laidTests := true, laidLooks := .later }
def ScriptLinesCardSaid : Prop := Claim7.holds Tryz.pinned (.plain (OpenSpec.ofChange scriptLinesSpec)) scriptLinesCard

/-- THE TIED CARD OF 'cenotaphlaw17.ScriptParses'. -/
def scriptParsesCard : Claim7 := { stood := { row := scriptParsesRow, standIns := [], harness := (true, "943a9d1f3a9e4335e745d205377ab452a434a06607cae0613cd310fb0b9e3968"), looks := true }, kinds := [], alts := [], laidByText := true, laidKinds := [.data, .data, .data, .data, .sentinel, .sentinel, .pinned], laidTests := true, laidLooks := .later }
def ScriptParsesCardSaid : Prop := Claim7.holds Tryz.pinned (.plain (OpenSpec.ofChange scriptParsesSpec)) scriptParsesCard

/-- THE SECOND FORM's CARD OF 'cenotaphlaw12.FrameRights'. -/
def frameRightsUptoCard : Claim7 := { stood := { row := frameRightsUptoRow, standIns := [], harness := (true, "943a9d1f3a9e4335e745d205377ab452a434a06607cae0613cd310fb0b9e3968"), looks := true }, kinds := [], alts := [], laidByText := true, laidKinds := [.data, .data, .data, .data, .sentinel, .sentinel, .pinned], laidTests := true, laidLooks := .later }
def FrameRightsUptoCardSaid : Prop := Claim7.holds Tryz.pinned (.plain (OpenSpec.upto frameRightsSpec)) frameRightsUptoCard

/-- THE SECOND FORM's CARD OF 'cenotaphlaw12.FramePuts'. -/
def framePutsUptoCard : Claim7 := { stood := { row := framePutsUptoRow, standIns := [], harness := (true, "943a9d1f3a9e4335e745d205377ab452a434a06607cae0613cd310fb0b9e3968"), looks := true }, kinds := [], alts := [], laidByText := true, laidKinds := [.data, .data, .data, .data, .sentinel, .sentinel, .pinned], laidTests := true, laidLooks := .later }
def FramePutsUptoCardSaid : Prop := Claim7.holds Tryz.pinned (.plain (OpenSpec.upto framePutsSpec)) framePutsUptoCard

/-- THE SECOND FORM's CARD OF 'cenotaphlaw12.FrameTakes'. -/
def frameTakesUptoCard : Claim7 := { stood := { row := frameTakesUptoRow, standIns := [], harness := (true, "943a9d1f3a9e4335e745d205377ab452a434a06607cae0613cd310fb0b9e3968"), looks := true }, kinds := [], alts := [], laidByText := true, laidKinds := [.data, .data, .data, .data, .sentinel, .sentinel, .pinned], laidTests := true, laidLooks := .later }
def FrameTakesUptoCardSaid : Prop := Claim7.holds Tryz.pinned (.plain (OpenSpec.upto frameTakesSpec)) frameTakesUptoCard

/-- THE SECOND FORM's CARD OF 'cenotaphlaw12.FrameCuts'. -/
def frameCutsUptoCard : Claim7 := { stood := { row := frameCutsUptoRow, standIns := [], harness := (true, "943a9d1f3a9e4335e745d205377ab452a434a06607cae0613cd310fb0b9e3968"), looks := true }, kinds := [], alts := [], laidByText := true, laidKinds := [.data, .data, .data, .data, .sentinel, .sentinel, .pinned], laidTests := true, laidLooks := .later }
def FrameCutsUptoCardSaid : Prop := Claim7.holds Tryz.pinned (.plain (OpenSpec.upto frameCutsSpec)) frameCutsUptoCard

/-- THE SECOND FORM's CARD OF 'cenotaphlaw12.FrameOnce'. -/
def frameOnceUptoCard : Claim7 := { stood := { row := frameOnceUptoRow, standIns := [], harness := (true, "943a9d1f3a9e4335e745d205377ab452a434a06607cae0613cd310fb0b9e3968"), looks := true }, kinds := [], alts := [], laidByText := true, laidKinds := [.data, .data, .data, .data, .sentinel, .sentinel, .pinned], laidTests := true, laidLooks := .later }
def FrameOnceUptoCardSaid : Prop := Claim7.holds Tryz.pinned (.plain (OpenSpec.upto frameOnceSpec)) frameOnceUptoCard

/-- THE SECOND FORM's CARD OF 'cenotaphlaw15.BagActs'. -/
def bagActsUptoCard : Claim7 := { stood := { row := bagActsUptoRow, standIns := [], harness := (true, "943a9d1f3a9e4335e745d205377ab452a434a06607cae0613cd310fb0b9e3968"), looks := true }, kinds := [], alts := [], laidByText := true, laidKinds := [.data, .data, .data, .data, .sentinel, .sentinel, .pinned], laidTests := true, laidLooks := .later }
def BagActsUptoCardSaid : Prop := Claim7.holds Tryz.pinned (.plain (OpenSpec.upto bagActsSpec)) bagActsUptoCard

/-- THE SECOND FORM's CARD OF 'cenotaphlaw15.BagRaw'. -/
def bagRawUptoCard : Claim7 := { stood := { row := bagRawUptoRow, standIns := [], harness := (true, "943a9d1f3a9e4335e745d205377ab452a434a06607cae0613cd310fb0b9e3968"), looks := true }, kinds := [], alts := [], laidByText := true, laidKinds := [.data, .data, .data, .data, .sentinel, .sentinel, .pinned], laidTests := true, laidLooks := .later }
def BagRawUptoCardSaid : Prop := Claim7.holds Tryz.pinned (.plain (OpenSpec.upto bagRawSpec)) bagRawUptoCard

/-- THE SECOND FORM's CARD OF 'cenotaphlaw15.BagKeeps'. -/
def bagKeepsUptoCard : Claim7 := { stood := { row := bagKeepsUptoRow, standIns := [], harness := (true, "943a9d1f3a9e4335e745d205377ab452a434a06607cae0613cd310fb0b9e3968"), looks := true }, kinds := [], alts := [], laidByText := true, laidKinds := [.data, .data, .data, .data, .sentinel, .sentinel, .pinned], laidTests := true, laidLooks := .later }
def BagKeepsUptoCardSaid : Prop := Claim7.holds Tryz.pinned (.plain (OpenSpec.upto bagKeepsSpec)) bagKeepsUptoCard

/-- THE SECOND FORM's CARD OF 'cenotaphlaw17.ScriptLines'. -/
def scriptLinesUptoCard : Claim7 := { stood := { row := scriptLinesUptoRow, standIns := [], harness := (true, "943a9d1f3a9e4335e745d205377ab452a434a06607cae0613cd310fb0b9e3968"), looks := true }, kinds := [], alts := [], laidByText := true, laidKinds := [.data, .data, .data, .data, .sentinel, .sentinel, .pinned], laidTests := true, laidLooks := .later }
def ScriptLinesUptoCardSaid : Prop := Claim7.holds Tryz.pinned (.plain (OpenSpec.upto scriptLinesSpec)) scriptLinesUptoCard

/-- THE SECOND FORM's CARD OF 'cenotaphlaw17.ScriptParses'. -/
def scriptParsesUptoCard : Claim7 := { stood := { row := scriptParsesUptoRow, standIns := [], harness := (true, "943a9d1f3a9e4335e745d205377ab452a434a06607cae0613cd310fb0b9e3968"), looks := true }, kinds := [], alts := [], laidByText := true, laidKinds := [.data, .data, .data, .data, .sentinel, .sentinel, .pinned], laidTests := true, laidLooks := .later }
def ScriptParsesUptoCardSaid : Prop := Claim7.holds Tryz.pinned (.plain (OpenSpec.upto scriptParsesSpec)) scriptParsesUptoCard
end Rows
end Go.Proofs.YtcenjpdfhelkoaaGreatDoor
