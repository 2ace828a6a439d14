/- The evaluator's texts QMeshNewsB to QMeshNewsB, joined. -/
import Derived.Test.YtofoignbmkflnaaGreatDoorEv7
set_option linter.all false
set_option linter.deprecated false
set_option linter.unusedVariables false
set_option linter.unusedSimpArgs false
set_option linter.unnecessarySimpa false
namespace Go.Proofs.YtofoignbmkflnaaGreatDoor.MeshNews
open Go Go.Evl Go.Evl.Zone Go.Proofs Go.RowKit Go.ChangeShapes Go.WideShapes Go.ChangeAt Go.Proofs.YtofoignbmkflnaaGreatDoor
set_option maxRecDepth 100000
theorem closed : joinedFacts P0 3 Tryz.f3 (OpenSpec.ofChange Rows.meshNewsSpec).bare Rows.meshNewsRow = true := by
  unfold joinedFacts
  rw [k1, k2, k3, k4]
  kernel_rfl
end Go.Proofs.YtofoignbmkflnaaGreatDoor.MeshNews
