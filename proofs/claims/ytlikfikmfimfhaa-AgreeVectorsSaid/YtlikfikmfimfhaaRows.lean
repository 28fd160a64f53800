/-
  No cell of these rows narrows 'for every input' (looked for: loops, veiled, ifaces, maps, wideKeys, modest, calm, conditions, laid).
  DERIVED. THE GIVEN ROWS OF THIS SEAT. 6 by the template 'for every input the law returns true; each argument reads behind the call as it read before'; 0 by the template 'total and deterministic' (their statements: YtlikfikmfimfhaaTotals.lean).
  GIVEN WITH THE SEED: the statements are not yours to turn. If you find one false, say at which input.
  Laid BY PROGRAM, IN A SANDBOX (cutbox-rows.mjs): the forced cells as the released guide's own fill.sh prints them over the translation 8db88848085478c1… (all of the seat's roots in one cut). By AI agents, Wed Nov 11 2026. No macro, syntax, notation, axiom, sorry.
-/
import Derived.Test.YtlikfikmfimfhaaChecked
import GoSem.Claim
import GoSem.ClaimJoined
import GoSem.ClaimMapViews
import Derived.JoinedTies
import Derived.KernelRfl
namespace Go.Proofs.Ytlikfikmfimfhaa
/- THE CELL 'sum', in the pinned program and in every row, IS THE sha256 OF THE DUMP (.gsa) THAT YtlikfikmfimfhaaProg.lean LOADS. Nothing in Lean hashes anything: it is a label: what it is worth is what the hold of that sum in a sandbox is worth. -/
noncomputable def Try.pinned : Pinned := { name := "ytlikfikmfimfhaa", sum := "8db88848085478c1dcc7a2c6a6823e8c0c3d151b5c08dd6217d86f116a4bc6ac", checked := Try.checked }
namespace Rows
def none {H : Type} : Left H := { results := [], args := [] }

/-- 'fourwatchlaw.AgreeVectors': WHATEVER THE INPUT: true; the input reads as it did. -/
def agreeVectorsSpec : ChangeSpec := { name := "agreeVectors", fn := fun _ => fun
  | [d1, d2, d3] => { results := [.lit (.bool true)], args := [d1, d2, d3] }
  | _ => none }
def agreeVectorsRow : OpenClaim := { program := "ytlikfikmfimfhaa", sum := "8db88848085478c1dcc7a2c6a6823e8c0c3d151b5c08dd6217d86f116a4bc6ac", func := "fourwatch/fourwatchlaw.AgreeVectors", spec := "agreeVectors", unfollowed := true, recurses := true, apart := false }
def AgreeVectorsSaid : Prop := agreeVectorsRow.holds Try.pinned (OpenSpec.ofChange agreeVectorsSpec)

/-- ITS FALSE NEIGHBOUR: 'it returns false'. Refute it at one input. -/
def agreeVectorsWrong : ChangeSpec := { name := "agreeVectors", fn := fun _ => fun
  | [d1, d2, d3] => { results := [.lit (.bool false)], args := [d1, d2, d3] }
  | _ => none }
def AgreeVectorsWrongFalsely : Prop := agreeVectorsRow.holds Try.pinned (OpenSpec.ofChange agreeVectorsWrong)

/-- 'fourwatchlaw.BusTurns': WHATEVER THE INPUT: true; the input reads as it did. -/
def busTurnsSpec : ChangeSpec := { name := "busTurns", fn := fun _ => fun
  | [d1, d2, d3, d4] => { results := [.lit (.bool true)], args := [d1, d2, d3, d4] }
  | _ => none }
def busTurnsRow : OpenClaim := { program := "ytlikfikmfimfhaa", sum := "8db88848085478c1dcc7a2c6a6823e8c0c3d151b5c08dd6217d86f116a4bc6ac", func := "fourwatch/fourwatchlaw.BusTurns", spec := "busTurns", unfollowed := true, recurses := true, apart := false }
def BusTurnsSaid : Prop := busTurnsRow.holds Try.pinned (OpenSpec.ofChange busTurnsSpec)

/-- ITS FALSE NEIGHBOUR: 'it returns false'. Refute it at one input. -/
def busTurnsWrong : ChangeSpec := { name := "busTurns", fn := fun _ => fun
  | [d1, d2, d3, d4] => { results := [.lit (.bool false)], args := [d1, d2, d3, d4] }
  | _ => none }
def BusTurnsWrongFalsely : Prop := busTurnsRow.holds Try.pinned (OpenSpec.ofChange busTurnsWrong)

/-- 'fourwatchlaw.NodeCloses': WHATEVER THE INPUT: true; the input reads as it did. -/
def nodeClosesSpec : ChangeSpec := { name := "nodeCloses", fn := fun _ => fun
  | [d1, d2] => { results := [.lit (.bool true)], args := [d1, d2] }
  | _ => none }
def nodeClosesRow : OpenClaim := { program := "ytlikfikmfimfhaa", sum := "8db88848085478c1dcc7a2c6a6823e8c0c3d151b5c08dd6217d86f116a4bc6ac", func := "fourwatch/fourwatchlaw.NodeCloses", spec := "nodeCloses", apart := false }
def NodeClosesSaid : Prop := nodeClosesRow.holds Try.pinned (OpenSpec.ofChange nodeClosesSpec)

/-- ITS FALSE NEIGHBOUR: 'it returns false'. Refute it at one input. -/
def nodeClosesWrong : ChangeSpec := { name := "nodeCloses", fn := fun _ => fun
  | [d1, d2] => { results := [.lit (.bool false)], args := [d1, d2] }
  | _ => none }
def NodeClosesWrongFalsely : Prop := nodeClosesRow.holds Try.pinned (OpenSpec.ofChange nodeClosesWrong)

/-- 'fourwatchlaw.WireDecodes': WHATEVER THE INPUT: true; the input reads as it did. -/
def wireDecodesSpec : ChangeSpec := { name := "wireDecodes", fn := fun _ => fun
  | [d] => { results := [.lit (.bool true)], args := [d] }
  | _ => none }
def wireDecodesRow : OpenClaim := { program := "ytlikfikmfimfhaa", sum := "8db88848085478c1dcc7a2c6a6823e8c0c3d151b5c08dd6217d86f116a4bc6ac", func := "fourwatch/fourwatchlaw.WireDecodes", spec := "wireDecodes", unfollowed := true, recurses := true, apart := false }
def WireDecodesSaid : Prop := wireDecodesRow.holds Try.pinned (OpenSpec.ofChange wireDecodesSpec)

/-- ITS FALSE NEIGHBOUR: 'it returns false'. Refute it at one input. -/
def wireDecodesWrong : ChangeSpec := { name := "wireDecodes", fn := fun _ => fun
  | [d] => { results := [.lit (.bool false)], args := [d] }
  | _ => none }
def WireDecodesWrongFalsely : Prop := wireDecodesRow.holds Try.pinned (OpenSpec.ofChange wireDecodesWrong)

/-- 'fourwatchlaw.NodeJudges': WHATEVER THE INPUT: true; the input reads as it did. -/
def nodeJudgesSpec : ChangeSpec := { name := "nodeJudges", fn := fun _ => fun
  | [d1, d2] => { results := [.lit (.bool true)], args := [d1, d2] }
  | _ => none }
def nodeJudgesRow : OpenClaim := { program := "ytlikfikmfimfhaa", sum := "8db88848085478c1dcc7a2c6a6823e8c0c3d151b5c08dd6217d86f116a4bc6ac", func := "fourwatch/fourwatchlaw.NodeJudges", spec := "nodeJudges", unfollowed := true, recurses := true, apart := false }
def NodeJudgesSaid : Prop := nodeJudgesRow.holds Try.pinned (OpenSpec.ofChange nodeJudgesSpec)

/-- ITS FALSE NEIGHBOUR: 'it returns false'. Refute it at one input. -/
def nodeJudgesWrong : ChangeSpec := { name := "nodeJudges", fn := fun _ => fun
  | [d1, d2] => { results := [.lit (.bool false)], args := [d1, d2] }
  | _ => none }
def NodeJudgesWrongFalsely : Prop := nodeJudgesRow.holds Try.pinned (OpenSpec.ofChange nodeJudgesWrong)

/-- 'fourwatchlaw.MatFactors': WHATEVER THE INPUT: true; the input reads as it did. -/
def matFactorsSpec : ChangeSpec := { name := "matFactors", fn := fun _ => fun
  | [d] => { results := [.lit (.bool true)], args := [d] }
  | _ => none }
def matFactorsRow : OpenClaim := { program := "ytlikfikmfimfhaa", sum := "8db88848085478c1dcc7a2c6a6823e8c0c3d151b5c08dd6217d86f116a4bc6ac", func := "fourwatch/fourwatchlaw.MatFactors", spec := "matFactors", inPlace := ["math/bits.Add64"], unfollowed := true, recurses := true, named := ["math/bits.divideError", "math/bits.overflowError"], apart := false }
def MatFactorsSaid : Prop := matFactorsRow.holds Try.pinned (OpenSpec.ofChange matFactorsSpec)

/-- ITS FALSE NEIGHBOUR: 'it returns false'. Refute it at one input. -/
def matFactorsWrong : ChangeSpec := { name := "matFactors", fn := fun _ => fun
  | [d] => { results := [.lit (.bool false)], args := [d] }
  | _ => none }
def MatFactorsWrongFalsely : Prop := matFactorsRow.holds Try.pinned (OpenSpec.ofChange matFactorsWrong)

/- THE SECOND FORM. 'bulk': how many values and letters a reading holds, each counted each time it is reached (what is shared counts as often as it is met; a slice's spare places count too). A statement '..UptoSaid' is the law's where the arguments, and the package variables that the reading takes, are together of bulk at most 1048576: NARROWER than '..Said'. Prove '..Said' where nothing that the law and all that it calls make is longer than what came in: it says more and counts as full. Else prove '..UptoSaid'. A law counts once. -/
mutual
def uptoBulk {H : Type} : DataW H → Nat
  | .lit (.string bytes) => bytes.length + 1
  | .lit _ => 1
  | .nil => 1
  | .ptr d => uptoBulk d + 1
  | .slice elems spare => uptoBulkAll elems + uptoBulkAll spare + 1
  | .agg parts => uptoBulkAll parts + 1
  | .iface _ d => uptoBulk d + 1
  | .map entries => uptoBulkEntries entries + 1
  | .held _ => 1
def uptoBulkAll {H : Type} : List (DataW H) → Nat
  | [] => 0
  | d :: r => uptoBulk d + uptoBulkAll r
def uptoBulkEntries {H : Type} : List (Lit × DataW H) → Nat
  | [] => 0
  | x :: r => uptoBulkEntry x + uptoBulkEntries r
def uptoBulkEntry {H : Type} : Lit × DataW H → Nat
  | (.string bytes, d) => bytes.length + uptoBulk d + 1
  | (_, d) => uptoBulk d + 1
 end
def uptoSmall : (H : Type) → List (DataW H) → Bool := fun _ ds => decide (uptoBulkAll ds ≤ 1048576)
def OpenSpec.upto (s : _root_.Go.ChangeSpec) : _root_.Go.OpenSpec := { _root_.Go.OpenSpec.ofChange s with cond := some uptoSmall }

/-- 'fourwatchlaw.AgreeVectors', WHERE WHAT IT READS IS OF BULK AT MOST 1048576: true; the input reads as it did. -/
def agreeVectorsUptoRow : OpenClaim := { program := "ytlikfikmfimfhaa", sum := "8db88848085478c1dcc7a2c6a6823e8c0c3d151b5c08dd6217d86f116a4bc6ac", func := "fourwatch/fourwatchlaw.AgreeVectors", spec := "agreeVectors", unfollowed := true, recurses := true, apart := false, narrowed := true }
def AgreeVectorsUptoSaid : Prop := agreeVectorsUptoRow.holds Try.pinned (OpenSpec.upto agreeVectorsSpec)

/-- 'fourwatchlaw.BusTurns', WHERE WHAT IT READS IS OF BULK AT MOST 1048576: true; the input reads as it did. -/
def busTurnsUptoRow : OpenClaim := { program := "ytlikfikmfimfhaa", sum := "8db88848085478c1dcc7a2c6a6823e8c0c3d151b5c08dd6217d86f116a4bc6ac", func := "fourwatch/fourwatchlaw.BusTurns", spec := "busTurns", unfollowed := true, recurses := true, apart := false, narrowed := true }
def BusTurnsUptoSaid : Prop := busTurnsUptoRow.holds Try.pinned (OpenSpec.upto busTurnsSpec)

/-- 'fourwatchlaw.NodeCloses', WHERE WHAT IT READS IS OF BULK AT MOST 1048576: true; the input reads as it did. -/
def nodeClosesUptoRow : OpenClaim := { program := "ytlikfikmfimfhaa", sum := "8db88848085478c1dcc7a2c6a6823e8c0c3d151b5c08dd6217d86f116a4bc6ac", func := "fourwatch/fourwatchlaw.NodeCloses", spec := "nodeCloses", apart := false, narrowed := true }
def NodeClosesUptoSaid : Prop := nodeClosesUptoRow.holds Try.pinned (OpenSpec.upto nodeClosesSpec)

/-- 'fourwatchlaw.WireDecodes', WHERE WHAT IT READS IS OF BULK AT MOST 1048576: true; the input reads as it did. -/
def wireDecodesUptoRow : OpenClaim := { program := "ytlikfikmfimfhaa", sum := "8db88848085478c1dcc7a2c6a6823e8c0c3d151b5c08dd6217d86f116a4bc6ac", func := "fourwatch/fourwatchlaw.WireDecodes", spec := "wireDecodes", unfollowed := true, recurses := true, apart := false, narrowed := true }
def WireDecodesUptoSaid : Prop := wireDecodesUptoRow.holds Try.pinned (OpenSpec.upto wireDecodesSpec)

/-- 'fourwatchlaw.NodeJudges', WHERE WHAT IT READS IS OF BULK AT MOST 1048576: true; the input reads as it did. -/
def nodeJudgesUptoRow : OpenClaim := { program := "ytlikfikmfimfhaa", sum := "8db88848085478c1dcc7a2c6a6823e8c0c3d151b5c08dd6217d86f116a4bc6ac", func := "fourwatch/fourwatchlaw.NodeJudges", spec := "nodeJudges", unfollowed := true, recurses := true, apart := false, narrowed := true }
def NodeJudgesUptoSaid : Prop := nodeJudgesUptoRow.holds Try.pinned (OpenSpec.upto nodeJudgesSpec)

/-- 'fourwatchlaw.MatFactors', WHERE WHAT IT READS IS OF BULK AT MOST 1048576: true; the input reads as it did. -/
def matFactorsUptoRow : OpenClaim := { program := "ytlikfikmfimfhaa", sum := "8db88848085478c1dcc7a2c6a6823e8c0c3d151b5c08dd6217d86f116a4bc6ac", func := "fourwatch/fourwatchlaw.MatFactors", spec := "matFactors", inPlace := ["math/bits.Add64"], unfollowed := true, recurses := true, named := ["math/bits.divideError", "math/bits.overflowError"], apart := false, narrowed := true }
def MatFactorsUptoSaid : Prop := matFactorsUptoRow.holds Try.pinned (OpenSpec.upto matFactorsSpec)

end Rows
end Go.Proofs.Ytlikfikmfimfhaa
