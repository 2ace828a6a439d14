/- The evaluator's texts QNodeActsA to QNodeActsA, joined. -/
import Derived.Test.YtjpbnkiifhfofaaGreatEv7
set_option maxHeartbeats 1000000
set_option linter.all false
set_option linter.deprecated false
set_option linter.unusedVariables false
set_option linter.unusedSimpArgs false
set_option linter.unnecessarySimpa false
namespace Go.Proofs.YtjpbnkiifhfofaaGreat.NodeActs
open Go Go.Evl Go.Evl.Zone Go.Proofs Go.RowKit Go.ChangeShapes Go.WideShapes Go.ChangeAt Go.Proofs.YtjpbnkiifhfofaaGreat
set_option maxRecDepth 100000
theorem k1:(Rows.nodeActsRow.inPlace == P0.inPlace 3)=true:=by kernel_rfl
theorem k2:(Rows.nodeActsRow.unfollowed == P0.unfollowed 3)=true:=by kernel_rfl
theorem k3:(Rows.nodeActsRow.recurses == P0.recurses 3)=true:=by kernel_rfl
theorem k4:(Rows.nodeActsRow.named == P0.varsNamed 3)=true:=by kernel_rfl
end Go.Proofs.YtjpbnkiifhfofaaGreat.NodeActs
