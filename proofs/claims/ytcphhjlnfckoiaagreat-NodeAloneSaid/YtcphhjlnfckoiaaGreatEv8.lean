/- The evaluator's texts QNodeAloneB to QNodeAloneB, joined. -/
import Derived.Test.YtcphhjlnfckoiaaGreatEv7
set_option linter.all false
set_option linter.deprecated false
set_option linter.unusedVariables false
set_option linter.unusedSimpArgs false
set_option linter.unnecessarySimpa false
namespace Go.Proofs.YtcphhjlnfckoiaaGreat.NodeAlone
open Go Go.Evl Go.Evl.Zone Go.Proofs Go.RowKit Go.ChangeShapes Go.WideShapes Go.ChangeAt Go.Proofs.YtcphhjlnfckoiaaGreat
set_option maxRecDepth 100000
theorem closed : joinedFacts P0 3 Tryz.f3 (OpenSpec.ofChange Rows.nodeAloneSpec).bare Rows.nodeAloneRow = true := by
  unfold joinedFacts
  rw [k1, k2, k3, k4]
  kernel_rfl
end Go.Proofs.YtcphhjlnfckoiaaGreat.NodeAlone
