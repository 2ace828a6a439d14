/- The evaluator's texts QNodeAloneA to QNodeAloneA, joined. -/
import Derived.Test.YtcphhjlnfckoiaaGreatEv6
set_option linter.all false
set_option linter.deprecated false
set_option linter.unusedVariables false
set_option linter.unusedSimpArgs false
set_option linter.unnecessarySimpa false
namespace Go.Proofs.YtcphhjlnfckoiaaGreat.NodeAlone
open Go Go.Evl Go.Evl.Zone Go.Proofs Go.RowKit Go.ChangeShapes Go.WideShapes Go.ChangeAt Go.Proofs.YtcphhjlnfckoiaaGreat
set_option maxRecDepth 100000
theorem k1 : (Rows.nodeAloneRow.inPlace == P0.inPlace 3) = true := by kernel_rfl
theorem k2 : (Rows.nodeAloneRow.unfollowed == P0.unfollowed 3) = true := by kernel_rfl
theorem k3 : (Rows.nodeAloneRow.recurses == P0.recurses 3) = true := by kernel_rfl
theorem k4 : (Rows.nodeAloneRow.named == P0.varsNamed 3) = true := by kernel_rfl
end Go.Proofs.YtcphhjlnfckoiaaGreat.NodeAlone
