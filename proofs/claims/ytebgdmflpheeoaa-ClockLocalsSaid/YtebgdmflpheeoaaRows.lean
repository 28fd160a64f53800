/-
  No cell of these rows narrows 'for every input' (looked for: loops, veiled, ifaces, maps, wideKeys, modest, calm, conditions, laid).
  DERIVED. THE GIVEN ROWS OF THIS SEAT. 12 by the template 'for every input the law returns true; each argument reads behind the call as it read before'; 0 by the template 'total and deterministic' (their statements: YtebgdmflpheeoaaTotals.lean).
  GIVEN WITH THE SEED: the statements are not yours to turn. If you find one false, say at which input.
  Laid BY PROGRAM, IN A SANDBOX (cutbox-rows.mjs): the forced cells as the released guide's own fill.sh prints them over the translation 0c07b3986d229447… (all of the seat's roots in one cut). By AI agents, Wed Nov 11 2026. No macro, syntax, notation, axiom, sorry.
-/
import Derived.Test.YtebgdmflpheeoaaChecked
import GoSem.Claim
import GoSem.ClaimJoined
import GoSem.ClaimMapViews
import Derived.JoinedTies
import Derived.KernelRfl
namespace Go.Proofs.Ytebgdmflpheeoaa
/- THE CELL 'sum', in the pinned program and in every row, IS THE sha256 OF THE DUMP (.gsa) THAT YtebgdmflpheeoaaProg.lean LOADS. Nothing in Lean hashes anything: it is a label: what it is worth is what the hold of that sum in a sandbox is worth. -/
noncomputable def Try.pinned : Pinned := { name := "ytebgdmflpheeoaa", sum := "0c07b3986d229447fa144ff4e6e52206246d913a1413c0a044cea6ffba2b14a7", checked := Try.checked }
namespace Rows
def none {H : Type} : Left H := { results := [], args := [] }

/-- 'fourwatchlaw.Names': WHATEVER THE INPUT: true; the input reads as it did. -/
def namesSpec : ChangeSpec := { name := "names", fn := fun _ => fun
  | [] => { results := [.lit (.bool true)], args := [] }
  | _ => none }
def namesRow : OpenClaim := { program := "ytebgdmflpheeoaa", sum := "0c07b3986d229447fa144ff4e6e52206246d913a1413c0a044cea6ffba2b14a7", func := "fourwatch/fourwatchlaw.Names", spec := "names", apart := false }
def NamesSaid : Prop := namesRow.holds Try.pinned (OpenSpec.ofChange namesSpec)

/-- ITS FALSE NEIGHBOUR: 'it returns false'. Refute it at one input. -/
def namesWrong : ChangeSpec := { name := "names", fn := fun _ => fun
  | [] => { results := [.lit (.bool false)], args := [] }
  | _ => none }
def NamesWrongFalsely : Prop := namesRow.holds Try.pinned (OpenSpec.ofChange namesWrong)

/-- 'fourwatchlaw.MatGoods': WHATEVER THE INPUT: true; the input reads as it did. -/
def matGoodsSpec : ChangeSpec := { name := "matGoods", fn := fun _ => fun
  | [d] => { results := [.lit (.bool true)], args := [d] }
  | _ => none }
def matGoodsRow : OpenClaim := { program := "ytebgdmflpheeoaa", sum := "0c07b3986d229447fa144ff4e6e52206246d913a1413c0a044cea6ffba2b14a7", func := "fourwatch/fourwatchlaw.MatGoods", spec := "matGoods", apart := false }
def MatGoodsSaid : Prop := matGoodsRow.holds Try.pinned (OpenSpec.ofChange matGoodsSpec)

/-- ITS FALSE NEIGHBOUR: 'it returns false'. Refute it at one input. -/
def matGoodsWrong : ChangeSpec := { name := "matGoods", fn := fun _ => fun
  | [d] => { results := [.lit (.bool false)], args := [d] }
  | _ => none }
def MatGoodsWrongFalsely : Prop := matGoodsRow.holds Try.pinned (OpenSpec.ofChange matGoodsWrong)

/-- 'fourwatchlaw.FilterBegins': WHATEVER THE INPUT: true; the input reads as it did. -/
def filterBeginsSpec : ChangeSpec := { name := "filterBegins", fn := fun _ => fun
  | [d] => { results := [.lit (.bool true)], args := [d] }
  | _ => none }
def filterBeginsRow : OpenClaim := { program := "ytebgdmflpheeoaa", sum := "0c07b3986d229447fa144ff4e6e52206246d913a1413c0a044cea6ffba2b14a7", func := "fourwatch/fourwatchlaw.FilterBegins", spec := "filterBegins", apart := false }
def FilterBeginsSaid : Prop := filterBeginsRow.holds Try.pinned (OpenSpec.ofChange filterBeginsSpec)

/-- ITS FALSE NEIGHBOUR: 'it returns false'. Refute it at one input. -/
def filterBeginsWrong : ChangeSpec := { name := "filterBegins", fn := fun _ => fun
  | [d] => { results := [.lit (.bool false)], args := [d] }
  | _ => none }
def FilterBeginsWrongFalsely : Prop := filterBeginsRow.holds Try.pinned (OpenSpec.ofChange filterBeginsWrong)

/-- 'fourwatchlaw.FixWholes': WHATEVER THE INPUT: true; the input reads as it did. -/
def fixWholesSpec : ChangeSpec := { name := "fixWholes", fn := fun _ => fun
  | [d] => { results := [.lit (.bool true)], args := [d] }
  | _ => none }
def fixWholesRow : OpenClaim := { program := "ytebgdmflpheeoaa", sum := "0c07b3986d229447fa144ff4e6e52206246d913a1413c0a044cea6ffba2b14a7", func := "fourwatch/fourwatchlaw.FixWholes", spec := "fixWholes", apart := false }
def FixWholesSaid : Prop := fixWholesRow.holds Try.pinned (OpenSpec.ofChange fixWholesSpec)

/-- ITS FALSE NEIGHBOUR: 'it returns false'. Refute it at one input. -/
def fixWholesWrong : ChangeSpec := { name := "fixWholes", fn := fun _ => fun
  | [d] => { results := [.lit (.bool false)], args := [d] }
  | _ => none }
def FixWholesWrongFalsely : Prop := fixWholesRow.holds Try.pinned (OpenSpec.ofChange fixWholesWrong)

/-- 'fourwatchlaw.ClockLocals': WHATEVER THE INPUT: true; the input reads as it did. -/
def clockLocalsSpec : ChangeSpec := { name := "clockLocals", fn := fun _ => fun
  | [d1, d2] => { results := [.lit (.bool true)], args := [d1, d2] }
  | _ => none }
def clockLocalsRow : OpenClaim := { program := "ytebgdmflpheeoaa", sum := "0c07b3986d229447fa144ff4e6e52206246d913a1413c0a044cea6ffba2b14a7", func := "fourwatch/fourwatchlaw.ClockLocals", spec := "clockLocals", apart := false }
def ClockLocalsSaid : Prop := clockLocalsRow.holds Try.pinned (OpenSpec.ofChange clockLocalsSpec)

/-- ITS FALSE NEIGHBOUR: 'it returns false'. Refute it at one input. -/
def clockLocalsWrong : ChangeSpec := { name := "clockLocals", fn := fun _ => fun
  | [d1, d2] => { results := [.lit (.bool false)], args := [d1, d2] }
  | _ => none }
def ClockLocalsWrongFalsely : Prop := clockLocalsRow.holds Try.pinned (OpenSpec.ofChange clockLocalsWrong)

/-- 'fourwatchlaw.MatTurns': WHATEVER THE INPUT: true; the input reads as it did. -/
def matTurnsSpec : ChangeSpec := { name := "matTurns", fn := fun _ => fun
  | [d] => { results := [.lit (.bool true)], args := [d] }
  | _ => none }
def matTurnsRow : OpenClaim := { program := "ytebgdmflpheeoaa", sum := "0c07b3986d229447fa144ff4e6e52206246d913a1413c0a044cea6ffba2b14a7", func := "fourwatch/fourwatchlaw.MatTurns", spec := "matTurns", apart := false }
def MatTurnsSaid : Prop := matTurnsRow.holds Try.pinned (OpenSpec.ofChange matTurnsSpec)

/-- ITS FALSE NEIGHBOUR: 'it returns false'. Refute it at one input. -/
def matTurnsWrong : ChangeSpec := { name := "matTurns", fn := fun _ => fun
  | [d] => { results := [.lit (.bool false)], args := [d] }
  | _ => none }
def MatTurnsWrongFalsely : Prop := matTurnsRow.holds Try.pinned (OpenSpec.ofChange matTurnsWrong)

/-- 'fourwatchlaw.NodeBegins': WHATEVER THE INPUT: true; the input reads as it did. -/
def nodeBeginsSpec : ChangeSpec := { name := "nodeBegins", fn := fun _ => fun
  | [d1, d2] => { results := [.lit (.bool true)], args := [d1, d2] }
  | _ => none }
def nodeBeginsRow : OpenClaim := { program := "ytebgdmflpheeoaa", sum := "0c07b3986d229447fa144ff4e6e52206246d913a1413c0a044cea6ffba2b14a7", func := "fourwatch/fourwatchlaw.NodeBegins", spec := "nodeBegins", apart := false }
def NodeBeginsSaid : Prop := nodeBeginsRow.holds Try.pinned (OpenSpec.ofChange nodeBeginsSpec)

/-- ITS FALSE NEIGHBOUR: 'it returns false'. Refute it at one input. -/
def nodeBeginsWrong : ChangeSpec := { name := "nodeBegins", fn := fun _ => fun
  | [d1, d2] => { results := [.lit (.bool false)], args := [d1, d2] }
  | _ => none }
def NodeBeginsWrongFalsely : Prop := nodeBeginsRow.holds Try.pinned (OpenSpec.ofChange nodeBeginsWrong)

/-- 'fourwatchlaw.NodeSenses': WHATEVER THE INPUT: true; the input reads as it did. -/
def nodeSensesSpec : ChangeSpec := { name := "nodeSenses", fn := fun _ => fun
  | [d1, d2, d3] => { results := [.lit (.bool true)], args := [d1, d2, d3] }
  | _ => none }
def nodeSensesRow : OpenClaim := { program := "ytebgdmflpheeoaa", sum := "0c07b3986d229447fa144ff4e6e52206246d913a1413c0a044cea6ffba2b14a7", func := "fourwatch/fourwatchlaw.NodeSenses", spec := "nodeSenses", apart := false }
def NodeSensesSaid : Prop := nodeSensesRow.holds Try.pinned (OpenSpec.ofChange nodeSensesSpec)

/-- ITS FALSE NEIGHBOUR: 'it returns false'. Refute it at one input. -/
def nodeSensesWrong : ChangeSpec := { name := "nodeSenses", fn := fun _ => fun
  | [d1, d2, d3] => { results := [.lit (.bool false)], args := [d1, d2, d3] }
  | _ => none }
def NodeSensesWrongFalsely : Prop := nodeSensesRow.holds Try.pinned (OpenSpec.ofChange nodeSensesWrong)

/-- 'fourwatchlaw.FixAdds': WHATEVER THE INPUT: true; the input reads as it did. -/
def fixAddsSpec : ChangeSpec := { name := "fixAdds", fn := fun _ => fun
  | [d1, d2] => { results := [.lit (.bool true)], args := [d1, d2] }
  | _ => none }
def fixAddsRow : OpenClaim := { program := "ytebgdmflpheeoaa", sum := "0c07b3986d229447fa144ff4e6e52206246d913a1413c0a044cea6ffba2b14a7", func := "fourwatch/fourwatchlaw.FixAdds", spec := "fixAdds", apart := false }
def FixAddsSaid : Prop := fixAddsRow.holds Try.pinned (OpenSpec.ofChange fixAddsSpec)

/-- ITS FALSE NEIGHBOUR: 'it returns false'. Refute it at one input. -/
def fixAddsWrong : ChangeSpec := { name := "fixAdds", fn := fun _ => fun
  | [d1, d2] => { results := [.lit (.bool false)], args := [d1, d2] }
  | _ => none }
def FixAddsWrongFalsely : Prop := fixAddsRow.holds Try.pinned (OpenSpec.ofChange fixAddsWrong)

/-- 'fourwatchlaw.ClockSpreads': WHATEVER THE INPUT: true; the input reads as it did. -/
def clockSpreadsSpec : ChangeSpec := { name := "clockSpreads", fn := fun _ => fun
  | [d1, d2] => { results := [.lit (.bool true)], args := [d1, d2] }
  | _ => none }
def clockSpreadsRow : OpenClaim := { program := "ytebgdmflpheeoaa", sum := "0c07b3986d229447fa144ff4e6e52206246d913a1413c0a044cea6ffba2b14a7", func := "fourwatch/fourwatchlaw.ClockSpreads", spec := "clockSpreads", apart := false }
def ClockSpreadsSaid : Prop := clockSpreadsRow.holds Try.pinned (OpenSpec.ofChange clockSpreadsSpec)

/-- ITS FALSE NEIGHBOUR: 'it returns false'. Refute it at one input. -/
def clockSpreadsWrong : ChangeSpec := { name := "clockSpreads", fn := fun _ => fun
  | [d1, d2] => { results := [.lit (.bool false)], args := [d1, d2] }
  | _ => none }
def ClockSpreadsWrongFalsely : Prop := clockSpreadsRow.holds Try.pinned (OpenSpec.ofChange clockSpreadsWrong)

/-- 'fourwatchlaw.VoteVotes': WHATEVER THE INPUT: true; the input reads as it did. -/
def voteVotesSpec : ChangeSpec := { name := "voteVotes", fn := fun _ => fun
  | [d1, d2] => { results := [.lit (.bool true)], args := [d1, d2] }
  | _ => none }
def voteVotesRow : OpenClaim := { program := "ytebgdmflpheeoaa", sum := "0c07b3986d229447fa144ff4e6e52206246d913a1413c0a044cea6ffba2b14a7", func := "fourwatch/fourwatchlaw.VoteVotes", spec := "voteVotes", unfollowed := true, recurses := true, apart := false }
def VoteVotesSaid : Prop := voteVotesRow.holds Try.pinned (OpenSpec.ofChange voteVotesSpec)

/-- ITS FALSE NEIGHBOUR: 'it returns false'. Refute it at one input. -/
def voteVotesWrong : ChangeSpec := { name := "voteVotes", fn := fun _ => fun
  | [d1, d2] => { results := [.lit (.bool false)], args := [d1, d2] }
  | _ => none }
def VoteVotesWrongFalsely : Prop := voteVotesRow.holds Try.pinned (OpenSpec.ofChange voteVotesWrong)

/-- 'fourwatchlaw.SumMores': WHATEVER THE INPUT: true; the input reads as it did. -/
def sumMoresSpec : ChangeSpec := { name := "sumMores", fn := fun _ => fun
  | [d1, d2] => { results := [.lit (.bool true)], args := [d1, d2] }
  | _ => none }
def sumMoresRow : OpenClaim := { program := "ytebgdmflpheeoaa", sum := "0c07b3986d229447fa144ff4e6e52206246d913a1413c0a044cea6ffba2b14a7", func := "fourwatch/fourwatchlaw.SumMores", spec := "sumMores", apart := false }
def SumMoresSaid : Prop := sumMoresRow.holds Try.pinned (OpenSpec.ofChange sumMoresSpec)

/-- ITS FALSE NEIGHBOUR: 'it returns false'. Refute it at one input. -/
def sumMoresWrong : ChangeSpec := { name := "sumMores", fn := fun _ => fun
  | [d1, d2] => { results := [.lit (.bool false)], args := [d1, d2] }
  | _ => none }
def SumMoresWrongFalsely : Prop := sumMoresRow.holds Try.pinned (OpenSpec.ofChange sumMoresWrong)

/- THE SECOND FORM. 'bulk': how many values and letters a reading holds, each counted each time it is reached (what is shared counts as often as it is met; a slice's spare places count too). A statement '..UptoSaid' is the law's where the arguments, and the package variables that the reading takes, are together of bulk at most 1048576: NARROWER than '..Said'. Prove '..Said' where nothing that the law and all that it calls make is longer than what came in: it says more and counts as full. Else prove '..UptoSaid'. A law counts once. -/
mutual
def uptoBulk {H : Type} : DataW H → Nat
  | .lit (.string bytes) => bytes.length + 1
  | .lit _ => 1
  | .nil => 1
  | .ptr d => uptoBulk d + 1
  | .slice elems spare => uptoBulkAll elems + uptoBulkAll spare + 1
  | .agg parts => uptoBulkAll parts + 1
  | .iface _ d => uptoBulk d + 1
  | .map entries => uptoBulkEntries entries + 1
  | .held _ => 1
def uptoBulkAll {H : Type} : List (DataW H) → Nat
  | [] => 0
  | d :: r => uptoBulk d + uptoBulkAll r
def uptoBulkEntries {H : Type} : List (Lit × DataW H) → Nat
  | [] => 0
  | x :: r => uptoBulkEntry x + uptoBulkEntries r
def uptoBulkEntry {H : Type} : Lit × DataW H → Nat
  | (.string bytes, d) => bytes.length + uptoBulk d + 1
  | (_, d) => uptoBulk d + 1
 end
def uptoSmall : (H : Type) → List (DataW H) → Bool := fun _ ds => decide (uptoBulkAll ds ≤ 1048576)
def OpenSpec.upto (s : _root_.Go.ChangeSpec) : _root_.Go.OpenSpec := { _root_.Go.OpenSpec.ofChange s with cond := some uptoSmall }

/-- 'fourwatchlaw.Names', WHERE WHAT IT READS IS OF BULK AT MOST 1048576: true; the input reads as it did. -/
def namesUptoRow : OpenClaim := { program := "ytebgdmflpheeoaa", sum := "0c07b3986d229447fa144ff4e6e52206246d913a1413c0a044cea6ffba2b14a7", func := "fourwatch/fourwatchlaw.Names", spec := "names", apart := false, narrowed := true }
def NamesUptoSaid : Prop := namesUptoRow.holds Try.pinned (OpenSpec.upto namesSpec)

/-- 'fourwatchlaw.MatGoods', WHERE WHAT IT READS IS OF BULK AT MOST 1048576: true; the input reads as it did. -/
def matGoodsUptoRow : OpenClaim := { program := "ytebgdmflpheeoaa", sum := "0c07b3986d229447fa144ff4e6e52206246d913a1413c0a044cea6ffba2b14a7", func := "fourwatch/fourwatchlaw.MatGoods", spec := "matGoods", apart := false, narrowed := true }
def MatGoodsUptoSaid : Prop := matGoodsUptoRow.holds Try.pinned (OpenSpec.upto matGoodsSpec)

/-- 'fourwatchlaw.FilterBegins', WHERE WHAT IT READS IS OF BULK AT MOST 1048576: true; the input reads as it did. -/
def filterBeginsUptoRow : OpenClaim := { program := "ytebgdmflpheeoaa", sum := "0c07b3986d229447fa144ff4e6e52206246d913a1413c0a044cea6ffba2b14a7", func := "fourwatch/fourwatchlaw.FilterBegins", spec := "filterBegins", apart := false, narrowed := true }
def FilterBeginsUptoSaid : Prop := filterBeginsUptoRow.holds Try.pinned (OpenSpec.upto filterBeginsSpec)

/-- 'fourwatchlaw.FixWholes', WHERE WHAT IT READS IS OF BULK AT MOST 1048576: true; the input reads as it did. -/
def fixWholesUptoRow : OpenClaim := { program := "ytebgdmflpheeoaa", sum := "0c07b3986d229447fa144ff4e6e52206246d913a1413c0a044cea6ffba2b14a7", func := "fourwatch/fourwatchlaw.FixWholes", spec := "fixWholes", apart := false, narrowed := true }
def FixWholesUptoSaid : Prop := fixWholesUptoRow.holds Try.pinned (OpenSpec.upto fixWholesSpec)

/-- 'fourwatchlaw.ClockLocals', WHERE WHAT IT READS IS OF BULK AT MOST 1048576: true; the input reads as it did. -/
def clockLocalsUptoRow : OpenClaim := { program := "ytebgdmflpheeoaa", sum := "0c07b3986d229447fa144ff4e6e52206246d913a1413c0a044cea6ffba2b14a7", func := "fourwatch/fourwatchlaw.ClockLocals", spec := "clockLocals", apart := false, narrowed := true }
def ClockLocalsUptoSaid : Prop := clockLocalsUptoRow.holds Try.pinned (OpenSpec.upto clockLocalsSpec)

/-- 'fourwatchlaw.MatTurns', WHERE WHAT IT READS IS OF BULK AT MOST 1048576: true; the input reads as it did. -/
def matTurnsUptoRow : OpenClaim := { program := "ytebgdmflpheeoaa", sum := "0c07b3986d229447fa144ff4e6e52206246d913a1413c0a044cea6ffba2b14a7", func := "fourwatch/fourwatchlaw.MatTurns", spec := "matTurns", apart := false, narrowed := true }
def MatTurnsUptoSaid : Prop := matTurnsUptoRow.holds Try.pinned (OpenSpec.upto matTurnsSpec)

/-- 'fourwatchlaw.NodeBegins', WHERE WHAT IT READS IS OF BULK AT MOST 1048576: true; the input reads as it did. -/
def nodeBeginsUptoRow : OpenClaim := { program := "ytebgdmflpheeoaa", sum := "0c07b3986d229447fa144ff4e6e52206246d913a1413c0a044cea6ffba2b14a7", func := "fourwatch/fourwatchlaw.NodeBegins", spec := "nodeBegins", apart := false, narrowed := true }
def NodeBeginsUptoSaid : Prop := nodeBeginsUptoRow.holds Try.pinned (OpenSpec.upto nodeBeginsSpec)

/-- 'fourwatchlaw.NodeSenses', WHERE WHAT IT READS IS OF BULK AT MOST 1048576: true; the input reads as it did. -/
def nodeSensesUptoRow : OpenClaim := { program := "ytebgdmflpheeoaa", sum := "0c07b3986d229447fa144ff4e6e52206246d913a1413c0a044cea6ffba2b14a7", func := "fourwatch/fourwatchlaw.NodeSenses", spec := "nodeSenses", apart := false, narrowed := true }
def NodeSensesUptoSaid : Prop := nodeSensesUptoRow.holds Try.pinned (OpenSpec.upto nodeSensesSpec)

/-- 'fourwatchlaw.FixAdds', WHERE WHAT IT READS IS OF BULK AT MOST 1048576: true; the input reads as it did. -/
def fixAddsUptoRow : OpenClaim := { program := "ytebgdmflpheeoaa", sum := "0c07b3986d229447fa144ff4e6e52206246d913a1413c0a044cea6ffba2b14a7", func := "fourwatch/fourwatchlaw.FixAdds", spec := "fixAdds", apart := false, narrowed := true }
def FixAddsUptoSaid : Prop := fixAddsUptoRow.holds Try.pinned (OpenSpec.upto fixAddsSpec)

/-- 'fourwatchlaw.ClockSpreads', WHERE WHAT IT READS IS OF BULK AT MOST 1048576: true; the input reads as it did. -/
def clockSpreadsUptoRow : OpenClaim := { program := "ytebgdmflpheeoaa", sum := "0c07b3986d229447fa144ff4e6e52206246d913a1413c0a044cea6ffba2b14a7", func := "fourwatch/fourwatchlaw.ClockSpreads", spec := "clockSpreads", apart := false, narrowed := true }
def ClockSpreadsUptoSaid : Prop := clockSpreadsUptoRow.holds Try.pinned (OpenSpec.upto clockSpreadsSpec)

/-- 'fourwatchlaw.VoteVotes', WHERE WHAT IT READS IS OF BULK AT MOST 1048576: true; the input reads as it did. -/
def voteVotesUptoRow : OpenClaim := { program := "ytebgdmflpheeoaa", sum := "0c07b3986d229447fa144ff4e6e52206246d913a1413c0a044cea6ffba2b14a7", func := "fourwatch/fourwatchlaw.VoteVotes", spec := "voteVotes", unfollowed := true, recurses := true, apart := false, narrowed := true }
def VoteVotesUptoSaid : Prop := voteVotesUptoRow.holds Try.pinned (OpenSpec.upto voteVotesSpec)

/-- 'fourwatchlaw.SumMores', WHERE WHAT IT READS IS OF BULK AT MOST 1048576: true; the input reads as it did. -/
def sumMoresUptoRow : OpenClaim := { program := "ytebgdmflpheeoaa", sum := "0c07b3986d229447fa144ff4e6e52206246d913a1413c0a044cea6ffba2b14a7", func := "fourwatch/fourwatchlaw.SumMores", spec := "sumMores", apart := false, narrowed := true }
def SumMoresUptoSaid : Prop := sumMoresUptoRow.holds Try.pinned (OpenSpec.upto sumMoresSpec)

end Rows
end Go.Proofs.Ytebgdmflpheeoaa
