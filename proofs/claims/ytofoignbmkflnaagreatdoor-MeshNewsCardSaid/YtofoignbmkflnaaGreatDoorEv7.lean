/- The evaluator's texts QMeshNewsA to QMeshNewsA, joined. -/
import Derived.Test.YtofoignbmkflnaaGreatDoorEv6
set_option linter.all false
set_option linter.deprecated false
set_option linter.unusedVariables false
set_option linter.unusedSimpArgs false
set_option linter.unnecessarySimpa false
namespace Go.Proofs.YtofoignbmkflnaaGreatDoor.MeshNews
open Go Go.Evl Go.Evl.Zone Go.Proofs Go.RowKit Go.ChangeShapes Go.WideShapes Go.ChangeAt Go.Proofs.YtofoignbmkflnaaGreatDoor
set_option maxRecDepth 100000
theorem k1 : (Rows.meshNewsRow.inPlace == P0.inPlace 3) = true := by kernel_rfl
theorem k2 : (Rows.meshNewsRow.unfollowed == P0.unfollowed 3) = true := by kernel_rfl
theorem k3 : (Rows.meshNewsRow.recurses == P0.recurses 3) = true := by kernel_rfl
theorem k4 : (Rows.meshNewsRow.named == P0.varsNamed 3) = true := by kernel_rfl
end Go.Proofs.YtofoignbmkflnaaGreatDoor.MeshNews
