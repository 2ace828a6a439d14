/- The evaluator's texts QNodeNamesB to QNodeNamesB, joined. -/
import Derived.Test.YtjpbnkiifhfofaaGreatEv9
set_option maxHeartbeats 1000000
set_option linter.all false
set_option linter.deprecated false
set_option linter.unusedVariables false
set_option linter.unusedSimpArgs false
set_option linter.unnecessarySimpa false
namespace Go.Proofs.YtjpbnkiifhfofaaGreat.NodeNames
open Go Go.Evl Go.Evl.Zone Go.Proofs Go.RowKit Go.ChangeShapes Go.WideShapes Go.ChangeAt Go.Proofs.YtjpbnkiifhfofaaGreat
set_option maxRecDepth 100000
theorem closed:joinedFacts P0 8 Tryz.f8 (OpenSpec.ofChange Rows.nodeNamesSpec).bare Rows.nodeNamesRow=true:=by
 unfold joinedFacts
 rw [k1,k2,k3,k4]
 kernel_rfl
end Go.Proofs.YtjpbnkiifhfofaaGreat.NodeNames
