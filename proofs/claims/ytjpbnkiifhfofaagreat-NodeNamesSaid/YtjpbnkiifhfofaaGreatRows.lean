/-
  No cell of these rows narrows 'for every input' (looked for: loops, veiled, ifaces, maps, wideKeys, modest, calm, conditions, laid).
  DERIVED. THE GIVEN ROWS OF THIS SEAT. 6 by the template 'for every input the law returns true; each argument reads behind the call as it read before'; 0 by the template 'total and deterministic' (their statements: YtjpbnkiifhfofaaGreatTotals.lean).
  GIVEN WITH THE SEED: the statements are not yours to turn. If you find one false, say at which input.
  Laid BY PROGRAM, IN A SANDBOX (cutbox-rows.mjs): the forced cells as the released guide's own fill.sh prints them over the translation b36508a79591a7c2… (all of the seat's roots in one cut). By AI agents, Wed Nov 11 2026. No macro, syntax, notation, axiom, sorry.
-/
import Derived.Test.YtjpbnkiifhfofaaGreatChecked
import GoSem.Claim
import GoSem.ClaimJoined
import GoSem.ClaimMapViews
import Derived.JoinedTies
import Derived.KernelRfl
namespace Go.Proofs.YtjpbnkiifhfofaaGreat
/- THE CELL 'sum', in the pinned program and in every row, IS THE sha256 OF THE DUMP (.gsa) THAT YtjpbnkiifhfofaaGreatProg.lean LOADS. Nothing in Lean hashes anything: it is a label: what it is worth is what the hold of that sum in a sandbox is worth. -/
noncomputable def Tryz.pinned : Pinned := { name := "ytjpbnkiifhfofaagreat", sum := "b36508a79591a7c2721b6379d55bd1f40a0afd525520209f139c6d41e9b3c3c8", checked := Tryz.checked }
namespace Rows
def none {H : Type} : Left H := { results := [], args := [] }

/-- 'cenotaphlaw11.NodeActs': WHATEVER THE INPUT: true; the input reads as it did. -/
def nodeActsSpec : ChangeSpec := { name := "nodeActs", fn := fun _ => fun
  | [d] => { results := [.lit (.bool true)], args := [d] }
  | _ => none }
def nodeActsRow : OpenClaim := { program := "ytjpbnkiifhfofaagreat", sum := "b36508a79591a7c2721b6379d55bd1f40a0afd525520209f139c6d41e9b3c3c8", func := "cenotaph/cenotaphlaw11.NodeActs", spec := "nodeActs", inPlace := ["math.archTrunc", "math.Float64bits", "math.Float64frombits", "internal/bytealg.abigen_runtime_cmpstring", "slices.overlaps[cenotaph/know.Row]", "slices.overlaps[cenotaph/vec.At]", "slices.overlaps[cenotaph/matrix.Row]", "slices.overlaps[cenotaph/item.Item]"], unfollowed := true, recurses := true, apart := false }
def NodeActsSaid : Prop := nodeActsRow.holds Tryz.pinned (OpenSpec.ofChange nodeActsSpec)

/-- ITS FALSE NEIGHBOUR: 'it returns false'. Refute it at one input. -/
def nodeActsWrong : ChangeSpec := { name := "nodeActs", fn := fun _ => fun
  | [d] => { results := [.lit (.bool false)], args := [d] }
  | _ => none }
def NodeActsWrongFalsely : Prop := nodeActsRow.holds Tryz.pinned (OpenSpec.ofChange nodeActsWrong)

/-- 'cenotaphlaw11.NodeHands': WHATEVER THE INPUT: true; the input reads as it did. -/
def nodeHandsSpec : ChangeSpec := { name := "nodeHands", fn := fun _ => fun
  | [d1, d2] => { results := [.lit (.bool true)], args := [d1, d2] }
  | _ => none }
def nodeHandsRow : OpenClaim := { program := "ytjpbnkiifhfofaagreat", sum := "b36508a79591a7c2721b6379d55bd1f40a0afd525520209f139c6d41e9b3c3c8", func := "cenotaph/cenotaphlaw11.NodeHands", spec := "nodeHands", inPlace := ["internal/bytealg.abigen_runtime_cmpstring", "slices.overlaps[cenotaph/know.Row]", "slices.overlaps[cenotaph/vec.At]", "slices.overlaps[cenotaph/matrix.Row]", "slices.overlaps[cenotaph/item.Item]", "math.archTrunc", "math.Float64bits", "math.Float64frombits"], unfollowed := true, recurses := true, apart := false }
def NodeHandsSaid : Prop := nodeHandsRow.holds Tryz.pinned (OpenSpec.ofChange nodeHandsSpec)

/-- ITS FALSE NEIGHBOUR: 'it returns false'. Refute it at one input. -/
def nodeHandsWrong : ChangeSpec := { name := "nodeHands", fn := fun _ => fun
  | [d1, d2] => { results := [.lit (.bool false)], args := [d1, d2] }
  | _ => none }
def NodeHandsWrongFalsely : Prop := nodeHandsRow.holds Tryz.pinned (OpenSpec.ofChange nodeHandsWrong)

/-- 'cenotaphlaw11.NodeZones': WHATEVER THE INPUT: true; the input reads as it did. -/
def nodeZonesSpec : ChangeSpec := { name := "nodeZones", fn := fun _ => fun
  | [d1, d2] => { results := [.lit (.bool true)], args := [d1, d2] }
  | _ => none }
def nodeZonesRow : OpenClaim := { program := "ytjpbnkiifhfofaagreat", sum := "b36508a79591a7c2721b6379d55bd1f40a0afd525520209f139c6d41e9b3c3c8", func := "cenotaph/cenotaphlaw11.NodeZones", spec := "nodeZones", inPlace := ["internal/bytealg.abigen_runtime_cmpstring", "slices.overlaps[cenotaph/know.Row]", "slices.overlaps[cenotaph/vec.At]", "slices.overlaps[cenotaph/matrix.Row]", "slices.overlaps[cenotaph/item.Item]", "math.archTrunc", "math.Float64bits", "math.Float64frombits"], unfollowed := true, recurses := true, apart := false }
def NodeZonesSaid : Prop := nodeZonesRow.holds Tryz.pinned (OpenSpec.ofChange nodeZonesSpec)

/-- ITS FALSE NEIGHBOUR: 'it returns false'. Refute it at one input. -/
def nodeZonesWrong : ChangeSpec := { name := "nodeZones", fn := fun _ => fun
  | [d1, d2] => { results := [.lit (.bool false)], args := [d1, d2] }
  | _ => none }
def NodeZonesWrongFalsely : Prop := nodeZonesRow.holds Tryz.pinned (OpenSpec.ofChange nodeZonesWrong)

/-- 'cenotaphlaw11.NodeLearns': WHATEVER THE INPUT: true; the input reads as it did. -/
def nodeLearnsSpec : ChangeSpec := { name := "nodeLearns", fn := fun _ => fun
  | [d1, d2] => { results := [.lit (.bool true)], args := [d1, d2] }
  | _ => none }
def nodeLearnsRow : OpenClaim := { program := "ytjpbnkiifhfofaagreat", sum := "b36508a79591a7c2721b6379d55bd1f40a0afd525520209f139c6d41e9b3c3c8", func := "cenotaph/cenotaphlaw11.NodeLearns", spec := "nodeLearns", inPlace := ["internal/bytealg.abigen_runtime_cmpstring", "slices.overlaps[cenotaph/know.Row]", "slices.overlaps[cenotaph/vec.At]", "slices.overlaps[cenotaph/matrix.Row]", "slices.overlaps[cenotaph/item.Item]", "math.archTrunc", "math.Float64bits", "math.Float64frombits"], unfollowed := true, recurses := true, apart := false }
def NodeLearnsSaid : Prop := nodeLearnsRow.holds Tryz.pinned (OpenSpec.ofChange nodeLearnsSpec)

/-- ITS FALSE NEIGHBOUR: 'it returns false'. Refute it at one input. -/
def nodeLearnsWrong : ChangeSpec := { name := "nodeLearns", fn := fun _ => fun
  | [d1, d2] => { results := [.lit (.bool false)], args := [d1, d2] }
  | _ => none }
def NodeLearnsWrongFalsely : Prop := nodeLearnsRow.holds Tryz.pinned (OpenSpec.ofChange nodeLearnsWrong)

/-- 'cenotaphlaw11.NodeReads': WHATEVER THE INPUT: true; the input reads as it did. -/
def nodeReadsSpec : ChangeSpec := { name := "nodeReads", fn := fun _ => fun
  | [d1, d2] => { results := [.lit (.bool true)], args := [d1, d2] }
  | _ => none }
def nodeReadsRow : OpenClaim := { program := "ytjpbnkiifhfofaagreat", sum := "b36508a79591a7c2721b6379d55bd1f40a0afd525520209f139c6d41e9b3c3c8", func := "cenotaph/cenotaphlaw11.NodeReads", spec := "nodeReads", inPlace := ["internal/bytealg.abigen_runtime_cmpstring", "slices.overlaps[cenotaph/know.Row]", "slices.overlaps[cenotaph/vec.At]", "slices.overlaps[cenotaph/matrix.Row]", "slices.overlaps[cenotaph/item.Item]", "math.archTrunc", "math.Float64bits", "math.Float64frombits"], unfollowed := true, recurses := true, apart := false }
def NodeReadsSaid : Prop := nodeReadsRow.holds Tryz.pinned (OpenSpec.ofChange nodeReadsSpec)

/-- ITS FALSE NEIGHBOUR: 'it returns false'. Refute it at one input. -/
def nodeReadsWrong : ChangeSpec := { name := "nodeReads", fn := fun _ => fun
  | [d1, d2] => { results := [.lit (.bool false)], args := [d1, d2] }
  | _ => none }
def NodeReadsWrongFalsely : Prop := nodeReadsRow.holds Tryz.pinned (OpenSpec.ofChange nodeReadsWrong)

/-- 'cenotaphlaw11.NodeNames': WHATEVER THE INPUT: true; the input reads as it did. -/
def nodeNamesSpec : ChangeSpec := { name := "nodeNames", fn := fun _ => fun
  | [d] => { results := [.lit (.bool true)], args := [d] }
  | _ => none }
def nodeNamesRow : OpenClaim := { program := "ytjpbnkiifhfofaagreat", sum := "b36508a79591a7c2721b6379d55bd1f40a0afd525520209f139c6d41e9b3c3c8", func := "cenotaph/cenotaphlaw11.NodeNames", spec := "nodeNames", inPlace := ["internal/bytealg.abigen_runtime_cmpstring", "slices.overlaps[cenotaph/know.Row]", "slices.overlaps[cenotaph/vec.At]", "slices.overlaps[cenotaph/matrix.Row]", "slices.overlaps[cenotaph/item.Item]", "math.archTrunc", "math.Float64bits", "math.Float64frombits"], unfollowed := true, recurses := true, apart := false }
def NodeNamesSaid : Prop := nodeNamesRow.holds Tryz.pinned (OpenSpec.ofChange nodeNamesSpec)

/-- ITS FALSE NEIGHBOUR: 'it returns false'. Refute it at one input. -/
def nodeNamesWrong : ChangeSpec := { name := "nodeNames", fn := fun _ => fun
  | [d] => { results := [.lit (.bool false)], args := [d] }
  | _ => none }
def NodeNamesWrongFalsely : Prop := nodeNamesRow.holds Tryz.pinned (OpenSpec.ofChange nodeNamesWrong)

/- THE SECOND FORM. 'bulk': how many values and letters a reading holds, each counted each time it is reached (what is shared counts as often as it is met; a slice's spare places count too). A statement '..UptoSaid' is the law's where the arguments, and the package variables that the reading takes, are together of bulk at most 1048576: NARROWER than '..Said'. Prove '..Said' where nothing that the law and all that it calls make is longer than what came in: it says more and counts as full. Else prove '..UptoSaid'. A law counts once. -/
mutual
def uptoBulk {H : Type} : DataW H → Nat
  | .lit (.string bytes) => bytes.length + 1
  | .lit _ => 1
  | .nil => 1
  | .ptr d => uptoBulk d + 1
  | .slice elems spare => uptoBulkAll elems + uptoBulkAll spare + 1
  | .agg parts => uptoBulkAll parts + 1
  | .iface _ d => uptoBulk d + 1
  | .map entries => uptoBulkEntries entries + 1
  | .held _ => 1
def uptoBulkAll {H : Type} : List (DataW H) → Nat
  | [] => 0
  | d :: r => uptoBulk d + uptoBulkAll r
def uptoBulkEntries {H : Type} : List (Lit × DataW H) → Nat
  | [] => 0
  | x :: r => uptoBulkEntry x + uptoBulkEntries r
def uptoBulkEntry {H : Type} : Lit × DataW H → Nat
  | (.string bytes, d) => bytes.length + uptoBulk d + 1
  | (_, d) => uptoBulk d + 1
 end
def uptoSmall : (H : Type) → List (DataW H) → Bool := fun _ ds => decide (uptoBulkAll ds ≤ 1048576)
def OpenSpec.upto (s : _root_.Go.ChangeSpec) : _root_.Go.OpenSpec := { _root_.Go.OpenSpec.ofChange s with cond := some uptoSmall }

/-- 'cenotaphlaw11.NodeActs', WHERE WHAT IT READS IS OF BULK AT MOST 1048576: true; the input reads as it did. -/
def nodeActsUptoRow : OpenClaim := { program := "ytjpbnkiifhfofaagreat", sum := "b36508a79591a7c2721b6379d55bd1f40a0afd525520209f139c6d41e9b3c3c8", func := "cenotaph/cenotaphlaw11.NodeActs", spec := "nodeActs", inPlace := ["math.archTrunc", "math.Float64bits", "math.Float64frombits", "internal/bytealg.abigen_runtime_cmpstring", "slices.overlaps[cenotaph/know.Row]", "slices.overlaps[cenotaph/vec.At]", "slices.overlaps[cenotaph/matrix.Row]", "slices.overlaps[cenotaph/item.Item]"], unfollowed := true, recurses := true, apart := false, narrowed := true }
def NodeActsUptoSaid : Prop := nodeActsUptoRow.holds Tryz.pinned (OpenSpec.upto nodeActsSpec)

/-- 'cenotaphlaw11.NodeHands', WHERE WHAT IT READS IS OF BULK AT MOST 1048576: true; the input reads as it did. -/
def nodeHandsUptoRow : OpenClaim := { program := "ytjpbnkiifhfofaagreat", sum := "b36508a79591a7c2721b6379d55bd1f40a0afd525520209f139c6d41e9b3c3c8", func := "cenotaph/cenotaphlaw11.NodeHands", spec := "nodeHands", inPlace := ["internal/bytealg.abigen_runtime_cmpstring", "slices.overlaps[cenotaph/know.Row]", "slices.overlaps[cenotaph/vec.At]", "slices.overlaps[cenotaph/matrix.Row]", "slices.overlaps[cenotaph/item.Item]", "math.archTrunc", "math.Float64bits", "math.Float64frombits"], unfollowed := true, recurses := true, apart := false, narrowed := true }
def NodeHandsUptoSaid : Prop := nodeHandsUptoRow.holds Tryz.pinned (OpenSpec.upto nodeHandsSpec)

/-- 'cenotaphlaw11.NodeZones', WHERE WHAT IT READS IS OF BULK AT MOST 1048576: true; the input reads as it did. -/
def nodeZonesUptoRow : OpenClaim := { program := "ytjpbnkiifhfofaagreat", sum := "b36508a79591a7c2721b6379d55bd1f40a0afd525520209f139c6d41e9b3c3c8", func := "cenotaph/cenotaphlaw11.NodeZones", spec := "nodeZones", inPlace := ["internal/bytealg.abigen_runtime_cmpstring", "slices.overlaps[cenotaph/know.Row]", "slices.overlaps[cenotaph/vec.At]", "slices.overlaps[cenotaph/matrix.Row]", "slices.overlaps[cenotaph/item.Item]", "math.archTrunc", "math.Float64bits", "math.Float64frombits"], unfollowed := true, recurses := true, apart := false, narrowed := true }
def NodeZonesUptoSaid : Prop := nodeZonesUptoRow.holds Tryz.pinned (OpenSpec.upto nodeZonesSpec)

/-- 'cenotaphlaw11.NodeLearns', WHERE WHAT IT READS IS OF BULK AT MOST 1048576: true; the input reads as it did. -/
def nodeLearnsUptoRow : OpenClaim := { program := "ytjpbnkiifhfofaagreat", sum := "b36508a79591a7c2721b6379d55bd1f40a0afd525520209f139c6d41e9b3c3c8", func := "cenotaph/cenotaphlaw11.NodeLearns", spec := "nodeLearns", inPlace := ["internal/bytealg.abigen_runtime_cmpstring", "slices.overlaps[cenotaph/know.Row]", "slices.overlaps[cenotaph/vec.At]", "slices.overlaps[cenotaph/matrix.Row]", "slices.overlaps[cenotaph/item.Item]", "math.archTrunc", "math.Float64bits", "math.Float64frombits"], unfollowed := true, recurses := true, apart := false, narrowed := true }
def NodeLearnsUptoSaid : Prop := nodeLearnsUptoRow.holds Tryz.pinned (OpenSpec.upto nodeLearnsSpec)

/-- 'cenotaphlaw11.NodeReads', WHERE WHAT IT READS IS OF BULK AT MOST 1048576: true; the input reads as it did. -/
def nodeReadsUptoRow : OpenClaim := { program := "ytjpbnkiifhfofaagreat", sum := "b36508a79591a7c2721b6379d55bd1f40a0afd525520209f139c6d41e9b3c3c8", func := "cenotaph/cenotaphlaw11.NodeReads", spec := "nodeReads", inPlace := ["internal/bytealg.abigen_runtime_cmpstring", "slices.overlaps[cenotaph/know.Row]", "slices.overlaps[cenotaph/vec.At]", "slices.overlaps[cenotaph/matrix.Row]", "slices.overlaps[cenotaph/item.Item]", "math.archTrunc", "math.Float64bits", "math.Float64frombits"], unfollowed := true, recurses := true, apart := false, narrowed := true }
def NodeReadsUptoSaid : Prop := nodeReadsUptoRow.holds Tryz.pinned (OpenSpec.upto nodeReadsSpec)

/-- 'cenotaphlaw11.NodeNames', WHERE WHAT IT READS IS OF BULK AT MOST 1048576: true; the input reads as it did. -/
def nodeNamesUptoRow : OpenClaim := { program := "ytjpbnkiifhfofaagreat", sum := "b36508a79591a7c2721b6379d55bd1f40a0afd525520209f139c6d41e9b3c3c8", func := "cenotaph/cenotaphlaw11.NodeNames", spec := "nodeNames", inPlace := ["internal/bytealg.abigen_runtime_cmpstring", "slices.overlaps[cenotaph/know.Row]", "slices.overlaps[cenotaph/vec.At]", "slices.overlaps[cenotaph/matrix.Row]", "slices.overlaps[cenotaph/item.Item]", "math.archTrunc", "math.Float64bits", "math.Float64frombits"], unfollowed := true, recurses := true, apart := false, narrowed := true }
def NodeNamesUptoSaid : Prop := nodeNamesUptoRow.holds Tryz.pinned (OpenSpec.upto nodeNamesSpec)

end Rows
end Go.Proofs.YtjpbnkiifhfofaaGreat
