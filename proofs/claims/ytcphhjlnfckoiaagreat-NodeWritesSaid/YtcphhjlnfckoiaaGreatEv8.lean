/- The evaluator's texts QNodeWritesB to QNodeWritesB, joined. -/
import Derived.Test.YtcphhjlnfckoiaaGreatEv7
set_option linter.all false
set_option linter.deprecated false
set_option linter.unusedVariables false
set_option linter.unusedSimpArgs false
set_option linter.unnecessarySimpa false
namespace Go.Proofs.YtcphhjlnfckoiaaGreat.NodeWrites
open Go Go.Evl Go.Evl.Zone Go.Proofs Go.RowKit Go.ChangeShapes Go.WideShapes Go.ChangeAt Go.Proofs.YtcphhjlnfckoiaaGreat
set_option maxRecDepth 100000
theorem closed : joinedFacts P0 4 Tryz.f4 (OpenSpec.ofChange Rows.nodeWritesSpec).bare Rows.nodeWritesRow = true := by
  unfold joinedFacts
  rw [k1, k2, k3, k4]
  kernel_rfl
end Go.Proofs.YtcphhjlnfckoiaaGreat.NodeWrites
