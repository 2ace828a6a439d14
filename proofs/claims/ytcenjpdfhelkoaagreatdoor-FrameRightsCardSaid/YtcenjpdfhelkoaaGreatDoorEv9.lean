/- The evaluator's texts QFrameRightsB to QFrameRightsB, joined. -/
import Derived.Test.YtcenjpdfhelkoaaGreatDoorEv8
set_option linter.all false
set_option linter.deprecated false
set_option linter.unusedVariables false
set_option linter.unusedSimpArgs false
set_option linter.unnecessarySimpa false
/- FrameRights: closed facts of the row, second part. -/
set_option linter.unusedVariables false
namespace Go.Proofs.YtcenjpdfhelkoaaGreatDoor.FrameRights
open Go Go.Evl Go.Evl.Zone Go.Proofs Go.RowKit Go.ChangeShapes Go.WideShapes Go.ChangeAt Go.Proofs.YtcenjpdfhelkoaaGreatDoor
set_option maxRecDepth 100000

theorem closed : joinedFacts P0 3 Tryz.f3 (OpenSpec.ofChange Rows.frameRightsSpec).bare Rows.frameRightsRow = true := by
  unfold joinedFacts
  rw [k1, k2, k3, k4]
  kernel_rfl

end Go.Proofs.YtcenjpdfhelkoaaGreatDoor.FrameRights
