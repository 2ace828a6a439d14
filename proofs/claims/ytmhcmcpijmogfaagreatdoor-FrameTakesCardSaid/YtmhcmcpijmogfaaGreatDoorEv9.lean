/- The evaluator's texts QFrameTakesA to QFrameTakesA, joined. -/
import Derived.Test.YtmhcmcpijmogfaaGreatDoorEv8
set_option linter.all false
set_option linter.deprecated false
set_option linter.unusedVariables false
set_option linter.unusedSimpArgs false
set_option linter.unnecessarySimpa false
namespace Go.Proofs.YtmhcmcpijmogfaaGreatDoor.FrameTakes
open Go Go.Evl Go.Evl.Zone Go.Proofs Go.RowKit Go.ChangeShapes Go.WideShapes Go.ChangeAt Go.Proofs.YtmhcmcpijmogfaaGreatDoor
set_option maxRecDepth 100000
theorem k1 : (Rows.frameTakesRow.inPlace == P0.inPlace 4) = true := by kernel_rfl
theorem k2 : (Rows.frameTakesRow.unfollowed == P0.unfollowed 4) = true := by kernel_rfl
theorem k3 : (Rows.frameTakesRow.recurses == P0.recurses 4) = true := by kernel_rfl
theorem k4 : (Rows.frameTakesRow.named == P0.varsNamed 4) = true := by kernel_rfl
end Go.Proofs.YtmhcmcpijmogfaaGreatDoor.FrameTakes
