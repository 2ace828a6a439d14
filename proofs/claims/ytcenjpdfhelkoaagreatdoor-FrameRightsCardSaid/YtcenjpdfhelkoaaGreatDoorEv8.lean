/- The evaluator's texts QFrameRightsA to QFrameRightsA, joined. -/
import Derived.Test.YtcenjpdfhelkoaaGreatDoorEv7
set_option linter.all false
set_option linter.deprecated false
set_option linter.unusedVariables false
set_option linter.unusedSimpArgs false
set_option linter.unnecessarySimpa false
/- FrameRights: closed facts of the row, first part. -/
set_option linter.unusedVariables false
namespace Go.Proofs.YtcenjpdfhelkoaaGreatDoor.FrameRights
open Go Go.Evl Go.Evl.Zone Go.Proofs Go.RowKit Go.ChangeShapes Go.WideShapes Go.ChangeAt Go.Proofs.YtcenjpdfhelkoaaGreatDoor
set_option maxRecDepth 100000

theorem k1 : (Rows.frameRightsRow.inPlace == P0.inPlace 3) = true := by kernel_rfl
theorem k2 : (Rows.frameRightsRow.unfollowed == P0.unfollowed 3) = true := by kernel_rfl
theorem k3 : (Rows.frameRightsRow.recurses == P0.recurses 3) = true := by kernel_rfl
theorem k4 : (Rows.frameRightsRow.named == P0.varsNamed 3) = true := by kernel_rfl

end Go.Proofs.YtcenjpdfhelkoaaGreatDoor.FrameRights
