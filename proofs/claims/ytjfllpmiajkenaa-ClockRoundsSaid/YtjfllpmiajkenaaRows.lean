/-
  No cell of these rows narrows 'for every input' (looked for: loops, veiled, ifaces, maps, wideKeys, modest, calm, conditions, laid).
  DERIVED. THE GIVEN ROWS OF THIS SEAT. 10 by the template 'for every input the law returns true; each argument reads behind the call as it read before'; 0 by the template 'total and deterministic' (their statements: YtjfllpmiajkenaaTotals.lean).
  GIVEN WITH THE SEED: the statements are not yours to turn. If you find one false, say at which input.
  Laid BY PROGRAM, IN A SANDBOX (cutbox-rows.mjs): the forced cells as the released guide's own fill.sh prints them over the translation 7110c551fc1e8cf7… (all of the seat's roots in one cut). By AI agents, Wed Nov 11 2026. No macro, syntax, notation, axiom, sorry.
-/
import Derived.Test.YtjfllpmiajkenaaChecked
import GoSem.Claim
import GoSem.ClaimJoined
import GoSem.ClaimMapViews
import Derived.JoinedTies
import Derived.KernelRfl
namespace Go.Proofs.Ytjfllpmiajkenaa
/- THE CELL 'sum', in the pinned program and in every row, IS THE sha256 OF THE DUMP (.gsa) THAT YtjfllpmiajkenaaProg.lean LOADS. Nothing in Lean hashes anything: it is a label: what it is worth is what the hold of that sum in a sandbox is worth. -/
noncomputable def Try.pinned : Pinned := { name := "ytjfllpmiajkenaa", sum := "7110c551fc1e8cf783dfe0d8515e626fa9b6faa6b1b48832d11082f3ec881da3", checked := Try.checked }
namespace Rows
def none {H : Type} : Left H := { results := [], args := [] }

/-- 'fourwatchlaw.NodeJudges': WHATEVER THE INPUT: true; the input reads as it did. -/
def nodeJudgesSpec : ChangeSpec := { name := "nodeJudges", fn := fun _ => fun
  | [d1, d2] => { results := [.lit (.bool true)], args := [d1, d2] }
  | _ => none }
def nodeJudgesRow : OpenClaim := { program := "ytjfllpmiajkenaa", sum := "7110c551fc1e8cf783dfe0d8515e626fa9b6faa6b1b48832d11082f3ec881da3", func := "fourwatch/fourwatchlaw.NodeJudges", spec := "nodeJudges", unfollowed := true, recurses := true, apart := false }
def NodeJudgesSaid : Prop := nodeJudgesRow.holds Try.pinned (OpenSpec.ofChange nodeJudgesSpec)

/-- ITS FALSE NEIGHBOUR: 'it returns false'. Refute it at one input. -/
def nodeJudgesWrong : ChangeSpec := { name := "nodeJudges", fn := fun _ => fun
  | [d1, d2] => { results := [.lit (.bool false)], args := [d1, d2] }
  | _ => none }
def NodeJudgesWrongFalsely : Prop := nodeJudgesRow.holds Try.pinned (OpenSpec.ofChange nodeJudgesWrong)

/-- 'fourwatchlaw.NodeCloses': WHATEVER THE INPUT: true; the input reads as it did. -/
def nodeClosesSpec : ChangeSpec := { name := "nodeCloses", fn := fun _ => fun
  | [d1, d2] => { results := [.lit (.bool true)], args := [d1, d2] }
  | _ => none }
def nodeClosesRow : OpenClaim := { program := "ytjfllpmiajkenaa", sum := "7110c551fc1e8cf783dfe0d8515e626fa9b6faa6b1b48832d11082f3ec881da3", func := "fourwatch/fourwatchlaw.NodeCloses", spec := "nodeCloses", apart := false }
def NodeClosesSaid : Prop := nodeClosesRow.holds Try.pinned (OpenSpec.ofChange nodeClosesSpec)

/-- ITS FALSE NEIGHBOUR: 'it returns false'. Refute it at one input. -/
def nodeClosesWrong : ChangeSpec := { name := "nodeCloses", fn := fun _ => fun
  | [d1, d2] => { results := [.lit (.bool false)], args := [d1, d2] }
  | _ => none }
def NodeClosesWrongFalsely : Prop := nodeClosesRow.holds Try.pinned (OpenSpec.ofChange nodeClosesWrong)

/-- 'fourwatchlaw.WireDecodes': WHATEVER THE INPUT: true; the input reads as it did. -/
def wireDecodesSpec : ChangeSpec := { name := "wireDecodes", fn := fun _ => fun
  | [d] => { results := [.lit (.bool true)], args := [d] }
  | _ => none }
def wireDecodesRow : OpenClaim := { program := "ytjfllpmiajkenaa", sum := "7110c551fc1e8cf783dfe0d8515e626fa9b6faa6b1b48832d11082f3ec881da3", func := "fourwatch/fourwatchlaw.WireDecodes", spec := "wireDecodes", unfollowed := true, recurses := true, apart := false }
def WireDecodesSaid : Prop := wireDecodesRow.holds Try.pinned (OpenSpec.ofChange wireDecodesSpec)

/-- ITS FALSE NEIGHBOUR: 'it returns false'. Refute it at one input. -/
def wireDecodesWrong : ChangeSpec := { name := "wireDecodes", fn := fun _ => fun
  | [d] => { results := [.lit (.bool false)], args := [d] }
  | _ => none }
def WireDecodesWrongFalsely : Prop := wireDecodesRow.holds Try.pinned (OpenSpec.ofChange wireDecodesWrong)

/-- 'fourwatchlaw.ClockMiddles': WHATEVER THE INPUT: true; the input reads as it did. -/
def clockMiddlesSpec : ChangeSpec := { name := "clockMiddles", fn := fun _ => fun
  | [d] => { results := [.lit (.bool true)], args := [d] }
  | _ => none }
def clockMiddlesRow : OpenClaim := { program := "ytjfllpmiajkenaa", sum := "7110c551fc1e8cf783dfe0d8515e626fa9b6faa6b1b48832d11082f3ec881da3", func := "fourwatch/fourwatchlaw.ClockMiddles", spec := "clockMiddles", unfollowed := true, recurses := true, apart := false }
def ClockMiddlesSaid : Prop := clockMiddlesRow.holds Try.pinned (OpenSpec.ofChange clockMiddlesSpec)

/-- ITS FALSE NEIGHBOUR: 'it returns false'. Refute it at one input. -/
def clockMiddlesWrong : ChangeSpec := { name := "clockMiddles", fn := fun _ => fun
  | [d] => { results := [.lit (.bool false)], args := [d] }
  | _ => none }
def ClockMiddlesWrongFalsely : Prop := clockMiddlesRow.holds Try.pinned (OpenSpec.ofChange clockMiddlesWrong)

/-- 'fourwatchlaw.ClockRounds': WHATEVER THE INPUT: true; the input reads as it did. -/
def clockRoundsSpec : ChangeSpec := { name := "clockRounds", fn := fun _ => fun
  | [d1, d2, d3] => { results := [.lit (.bool true)], args := [d1, d2, d3] }
  | _ => none }
def clockRoundsRow : OpenClaim := { program := "ytjfllpmiajkenaa", sum := "7110c551fc1e8cf783dfe0d8515e626fa9b6faa6b1b48832d11082f3ec881da3", func := "fourwatch/fourwatchlaw.ClockRounds", spec := "clockRounds", unfollowed := true, recurses := true, apart := false }
def ClockRoundsSaid : Prop := clockRoundsRow.holds Try.pinned (OpenSpec.ofChange clockRoundsSpec)

/-- ITS FALSE NEIGHBOUR: 'it returns false'. Refute it at one input. -/
def clockRoundsWrong : ChangeSpec := { name := "clockRounds", fn := fun _ => fun
  | [d1, d2, d3] => { results := [.lit (.bool false)], args := [d1, d2, d3] }
  | _ => none }
def ClockRoundsWrongFalsely : Prop := clockRoundsRow.holds Try.pinned (OpenSpec.ofChange clockRoundsWrong)

/-- 'fourwatchlaw.NodeSenses': WHATEVER THE INPUT: true; the input reads as it did. -/
def nodeSensesSpec : ChangeSpec := { name := "nodeSenses", fn := fun _ => fun
  | [d1, d2, d3] => { results := [.lit (.bool true)], args := [d1, d2, d3] }
  | _ => none }
def nodeSensesRow : OpenClaim := { program := "ytjfllpmiajkenaa", sum := "7110c551fc1e8cf783dfe0d8515e626fa9b6faa6b1b48832d11082f3ec881da3", func := "fourwatch/fourwatchlaw.NodeSenses", spec := "nodeSenses", apart := false }
def NodeSensesSaid : Prop := nodeSensesRow.holds Try.pinned (OpenSpec.ofChange nodeSensesSpec)

/-- ITS FALSE NEIGHBOUR: 'it returns false'. Refute it at one input. -/
def nodeSensesWrong : ChangeSpec := { name := "nodeSenses", fn := fun _ => fun
  | [d1, d2, d3] => { results := [.lit (.bool false)], args := [d1, d2, d3] }
  | _ => none }
def NodeSensesWrongFalsely : Prop := nodeSensesRow.holds Try.pinned (OpenSpec.ofChange nodeSensesWrong)

/-- 'fourwatchlaw.NodePasses': WHATEVER THE INPUT: true; the input reads as it did. -/
def nodePassesSpec : ChangeSpec := { name := "nodePasses", fn := fun _ => fun
  | [d1, d2] => { results := [.lit (.bool true)], args := [d1, d2] }
  | _ => none }
def nodePassesRow : OpenClaim := { program := "ytjfllpmiajkenaa", sum := "7110c551fc1e8cf783dfe0d8515e626fa9b6faa6b1b48832d11082f3ec881da3", func := "fourwatch/fourwatchlaw.NodePasses", spec := "nodePasses", apart := false }
def NodePassesSaid : Prop := nodePassesRow.holds Try.pinned (OpenSpec.ofChange nodePassesSpec)

/-- ITS FALSE NEIGHBOUR: 'it returns false'. Refute it at one input. -/
def nodePassesWrong : ChangeSpec := { name := "nodePasses", fn := fun _ => fun
  | [d1, d2] => { results := [.lit (.bool false)], args := [d1, d2] }
  | _ => none }
def NodePassesWrongFalsely : Prop := nodePassesRow.holds Try.pinned (OpenSpec.ofChange nodePassesWrong)

/-- 'fourwatchlaw.NodeRelays': WHATEVER THE INPUT: true; the input reads as it did. -/
def nodeRelaysSpec : ChangeSpec := { name := "nodeRelays", fn := fun _ => fun
  | [d1, d2] => { results := [.lit (.bool true)], args := [d1, d2] }
  | _ => none }
def nodeRelaysRow : OpenClaim := { program := "ytjfllpmiajkenaa", sum := "7110c551fc1e8cf783dfe0d8515e626fa9b6faa6b1b48832d11082f3ec881da3", func := "fourwatch/fourwatchlaw.NodeRelays", spec := "nodeRelays", apart := false }
def NodeRelaysSaid : Prop := nodeRelaysRow.holds Try.pinned (OpenSpec.ofChange nodeRelaysSpec)

/-- ITS FALSE NEIGHBOUR: 'it returns false'. Refute it at one input. -/
def nodeRelaysWrong : ChangeSpec := { name := "nodeRelays", fn := fun _ => fun
  | [d1, d2] => { results := [.lit (.bool false)], args := [d1, d2] }
  | _ => none }
def NodeRelaysWrongFalsely : Prop := nodeRelaysRow.holds Try.pinned (OpenSpec.ofChange nodeRelaysWrong)

/-- 'fourwatchlaw.NodeBegins': WHATEVER THE INPUT: true; the input reads as it did. -/
def nodeBeginsSpec : ChangeSpec := { name := "nodeBegins", fn := fun _ => fun
  | [d1, d2] => { results := [.lit (.bool true)], args := [d1, d2] }
  | _ => none }
def nodeBeginsRow : OpenClaim := { program := "ytjfllpmiajkenaa", sum := "7110c551fc1e8cf783dfe0d8515e626fa9b6faa6b1b48832d11082f3ec881da3", func := "fourwatch/fourwatchlaw.NodeBegins", spec := "nodeBegins", apart := false }
def NodeBeginsSaid : Prop := nodeBeginsRow.holds Try.pinned (OpenSpec.ofChange nodeBeginsSpec)

/-- ITS FALSE NEIGHBOUR: 'it returns false'. Refute it at one input. -/
def nodeBeginsWrong : ChangeSpec := { name := "nodeBegins", fn := fun _ => fun
  | [d1, d2] => { results := [.lit (.bool false)], args := [d1, d2] }
  | _ => none }
def NodeBeginsWrongFalsely : Prop := nodeBeginsRow.holds Try.pinned (OpenSpec.ofChange nodeBeginsWrong)

/-- 'fourwatchlaw.ClusterBegins': WHATEVER THE INPUT: true; the input reads as it did. -/
def clusterBeginsSpec : ChangeSpec := { name := "clusterBegins", fn := fun _ => fun
  | [d] => { results := [.lit (.bool true)], args := [d] }
  | _ => none }
def clusterBeginsRow : OpenClaim := { program := "ytjfllpmiajkenaa", sum := "7110c551fc1e8cf783dfe0d8515e626fa9b6faa6b1b48832d11082f3ec881da3", func := "fourwatch/fourwatchlaw.ClusterBegins", spec := "clusterBegins", apart := false }
def ClusterBeginsSaid : Prop := clusterBeginsRow.holds Try.pinned (OpenSpec.ofChange clusterBeginsSpec)

/-- ITS FALSE NEIGHBOUR: 'it returns false'. Refute it at one input. -/
def clusterBeginsWrong : ChangeSpec := { name := "clusterBegins", fn := fun _ => fun
  | [d] => { results := [.lit (.bool false)], args := [d] }
  | _ => none }
def ClusterBeginsWrongFalsely : Prop := clusterBeginsRow.holds Try.pinned (OpenSpec.ofChange clusterBeginsWrong)

/- THE SECOND FORM. 'bulk': how many values and letters a reading holds, each counted each time it is reached (what is shared counts as often as it is met; a slice's spare places count too). A statement '..UptoSaid' is the law's where the arguments, and the package variables that the reading takes, are together of bulk at most 1048576: NARROWER than '..Said'. Prove '..Said' where nothing that the law and all that it calls make is longer than what came in: it says more and counts as full. Else prove '..UptoSaid'. A law counts once. -/
mutual
def uptoBulk {H : Type} : DataW H → Nat
  | .lit (.string bytes) => bytes.length + 1
  | .lit _ => 1
  | .nil => 1
  | .ptr d => uptoBulk d + 1
  | .slice elems spare => uptoBulkAll elems + uptoBulkAll spare + 1
  | .agg parts => uptoBulkAll parts + 1
  | .iface _ d => uptoBulk d + 1
  | .map entries => uptoBulkEntries entries + 1
  | .held _ => 1
def uptoBulkAll {H : Type} : List (DataW H) → Nat
  | [] => 0
  | d :: r => uptoBulk d + uptoBulkAll r
def uptoBulkEntries {H : Type} : List (Lit × DataW H) → Nat
  | [] => 0
  | x :: r => uptoBulkEntry x + uptoBulkEntries r
def uptoBulkEntry {H : Type} : Lit × DataW H → Nat
  | (.string bytes, d) => bytes.length + uptoBulk d + 1
  | (_, d) => uptoBulk d + 1
 end
def uptoSmall : (H : Type) → List (DataW H) → Bool := fun _ ds => decide (uptoBulkAll ds ≤ 1048576)
def OpenSpec.upto (s : _root_.Go.ChangeSpec) : _root_.Go.OpenSpec := { _root_.Go.OpenSpec.ofChange s with cond := some uptoSmall }

/-- 'fourwatchlaw.NodeJudges', WHERE WHAT IT READS IS OF BULK AT MOST 1048576: true; the input reads as it did. -/
def nodeJudgesUptoRow : OpenClaim := { program := "ytjfllpmiajkenaa", sum := "7110c551fc1e8cf783dfe0d8515e626fa9b6faa6b1b48832d11082f3ec881da3", func := "fourwatch/fourwatchlaw.NodeJudges", spec := "nodeJudges", unfollowed := true, recurses := true, apart := false, narrowed := true }
def NodeJudgesUptoSaid : Prop := nodeJudgesUptoRow.holds Try.pinned (OpenSpec.upto nodeJudgesSpec)

/-- 'fourwatchlaw.NodeCloses', WHERE WHAT IT READS IS OF BULK AT MOST 1048576: true; the input reads as it did. -/
def nodeClosesUptoRow : OpenClaim := { program := "ytjfllpmiajkenaa", sum := "7110c551fc1e8cf783dfe0d8515e626fa9b6faa6b1b48832d11082f3ec881da3", func := "fourwatch/fourwatchlaw.NodeCloses", spec := "nodeCloses", apart := false, narrowed := true }
def NodeClosesUptoSaid : Prop := nodeClosesUptoRow.holds Try.pinned (OpenSpec.upto nodeClosesSpec)

/-- 'fourwatchlaw.WireDecodes', WHERE WHAT IT READS IS OF BULK AT MOST 1048576: true; the input reads as it did. -/
def wireDecodesUptoRow : OpenClaim := { program := "ytjfllpmiajkenaa", sum := "7110c551fc1e8cf783dfe0d8515e626fa9b6faa6b1b48832d11082f3ec881da3", func := "fourwatch/fourwatchlaw.WireDecodes", spec := "wireDecodes", unfollowed := true, recurses := true, apart := false, narrowed := true }
def WireDecodesUptoSaid : Prop := wireDecodesUptoRow.holds Try.pinned (OpenSpec.upto wireDecodesSpec)

/-- 'fourwatchlaw.ClockMiddles', WHERE WHAT IT READS IS OF BULK AT MOST 1048576: true; the input reads as it did. -/
def clockMiddlesUptoRow : OpenClaim := { program := "ytjfllpmiajkenaa", sum := "7110c551fc1e8cf783dfe0d8515e626fa9b6faa6b1b48832d11082f3ec881da3", func := "fourwatch/fourwatchlaw.ClockMiddles", spec := "clockMiddles", unfollowed := true, recurses := true, apart := false, narrowed := true }
def ClockMiddlesUptoSaid : Prop := clockMiddlesUptoRow.holds Try.pinned (OpenSpec.upto clockMiddlesSpec)

/-- 'fourwatchlaw.ClockRounds', WHERE WHAT IT READS IS OF BULK AT MOST 1048576: true; the input reads as it did. -/
def clockRoundsUptoRow : OpenClaim := { program := "ytjfllpmiajkenaa", sum := "7110c551fc1e8cf783dfe0d8515e626fa9b6faa6b1b48832d11082f3ec881da3", func := "fourwatch/fourwatchlaw.ClockRounds", spec := "clockRounds", unfollowed := true, recurses := true, apart := false, narrowed := true }
def ClockRoundsUptoSaid : Prop := clockRoundsUptoRow.holds Try.pinned (OpenSpec.upto clockRoundsSpec)

/-- 'fourwatchlaw.NodeSenses', WHERE WHAT IT READS IS OF BULK AT MOST 1048576: true; the input reads as it did. -/
def nodeSensesUptoRow : OpenClaim := { program := "ytjfllpmiajkenaa", sum := "7110c551fc1e8cf783dfe0d8515e626fa9b6faa6b1b48832d11082f3ec881da3", func := "fourwatch/fourwatchlaw.NodeSenses", spec := "nodeSenses", apart := false, narrowed := true }
def NodeSensesUptoSaid : Prop := nodeSensesUptoRow.holds Try.pinned (OpenSpec.upto nodeSensesSpec)

/-- 'fourwatchlaw.NodePasses', WHERE WHAT IT READS IS OF BULK AT MOST 1048576: true; the input reads as it did. -/
def nodePassesUptoRow : OpenClaim := { program := "ytjfllpmiajkenaa", sum := "7110c551fc1e8cf783dfe0d8515e626fa9b6faa6b1b48832d11082f3ec881da3", func := "fourwatch/fourwatchlaw.NodePasses", spec := "nodePasses", apart := false, narrowed := true }
def NodePassesUptoSaid : Prop := nodePassesUptoRow.holds Try.pinned (OpenSpec.upto nodePassesSpec)

/-- 'fourwatchlaw.NodeRelays', WHERE WHAT IT READS IS OF BULK AT MOST 1048576: true; the input reads as it did. -/
def nodeRelaysUptoRow : OpenClaim := { program := "ytjfllpmiajkenaa", sum := "7110c551fc1e8cf783dfe0d8515e626fa9b6faa6b1b48832d11082f3ec881da3", func := "fourwatch/fourwatchlaw.NodeRelays", spec := "nodeRelays", apart := false, narrowed := true }
def NodeRelaysUptoSaid : Prop := nodeRelaysUptoRow.holds Try.pinned (OpenSpec.upto nodeRelaysSpec)

/-- 'fourwatchlaw.NodeBegins', WHERE WHAT IT READS IS OF BULK AT MOST 1048576: true; the input reads as it did. -/
def nodeBeginsUptoRow : OpenClaim := { program := "ytjfllpmiajkenaa", sum := "7110c551fc1e8cf783dfe0d8515e626fa9b6faa6b1b48832d11082f3ec881da3", func := "fourwatch/fourwatchlaw.NodeBegins", spec := "nodeBegins", apart := false, narrowed := true }
def NodeBeginsUptoSaid : Prop := nodeBeginsUptoRow.holds Try.pinned (OpenSpec.upto nodeBeginsSpec)

/-- 'fourwatchlaw.ClusterBegins', WHERE WHAT IT READS IS OF BULK AT MOST 1048576: true; the input reads as it did. -/
def clusterBeginsUptoRow : OpenClaim := { program := "ytjfllpmiajkenaa", sum := "7110c551fc1e8cf783dfe0d8515e626fa9b6faa6b1b48832d11082f3ec881da3", func := "fourwatch/fourwatchlaw.ClusterBegins", spec := "clusterBegins", apart := false, narrowed := true }
def ClusterBeginsUptoSaid : Prop := clusterBeginsUptoRow.holds Try.pinned (OpenSpec.upto clusterBeginsSpec)

end Rows
end Go.Proofs.Ytjfllpmiajkenaa
