/- The evaluator's texts QNodeNamesA to QNodeNamesA, joined. -/
import Derived.Test.YtjpbnkiifhfofaaGreatEv8
set_option maxHeartbeats 1000000
set_option linter.all false
set_option linter.deprecated false
set_option linter.unusedVariables false
set_option linter.unusedSimpArgs false
set_option linter.unnecessarySimpa false
namespace Go.Proofs.YtjpbnkiifhfofaaGreat.NodeNames
open Go Go.Evl Go.Evl.Zone Go.Proofs Go.RowKit Go.ChangeShapes Go.WideShapes Go.ChangeAt Go.Proofs.YtjpbnkiifhfofaaGreat
set_option maxRecDepth 100000
theorem k1:(Rows.nodeNamesRow.inPlace == P0.inPlace 8)=true:=by kernel_rfl
theorem k2:(Rows.nodeNamesRow.unfollowed == P0.unfollowed 8)=true:=by kernel_rfl
theorem k3:(Rows.nodeNamesRow.recurses == P0.recurses 8)=true:=by kernel_rfl
theorem k4:(Rows.nodeNamesRow.named == P0.varsNamed 8)=true:=by kernel_rfl
end Go.Proofs.YtjpbnkiifhfofaaGreat.NodeNames
