/- The evaluator's texts QNodeWritesA to QNodeWritesA, joined. -/
import Derived.Test.YtcphhjlnfckoiaaGreatEv6
set_option linter.all false
set_option linter.deprecated false
set_option linter.unusedVariables false
set_option linter.unusedSimpArgs false
set_option linter.unnecessarySimpa false
namespace Go.Proofs.YtcphhjlnfckoiaaGreat.NodeWrites
open Go Go.Evl Go.Evl.Zone Go.Proofs Go.RowKit Go.ChangeShapes Go.WideShapes Go.ChangeAt Go.Proofs.YtcphhjlnfckoiaaGreat
set_option maxRecDepth 100000
theorem k1 : (Rows.nodeWritesRow.inPlace == P0.inPlace 4) = true := by kernel_rfl
theorem k2 : (Rows.nodeWritesRow.unfollowed == P0.unfollowed 4) = true := by kernel_rfl
theorem k3 : (Rows.nodeWritesRow.recurses == P0.recurses 4) = true := by kernel_rfl
theorem k4 : (Rows.nodeWritesRow.named == P0.varsNamed 4) = true := by kernel_rfl
end Go.Proofs.YtcphhjlnfckoiaaGreat.NodeWrites
