/-
  No cell of these rows narrows 'for every input' (looked for: loops, veiled, ifaces, maps, wideKeys, modest, calm, conditions, laid).
  DERIVED. THE GIVEN ROWS OF THIS SEAT. 21 by the template 'for every input the law returns true; each argument reads behind the call as it read before'; 0 by the template 'total and deterministic' (their statements: YtfaielkkecphbaaTotals.lean).
  GIVEN WITH THE SEED: the statements are not yours to turn. If you find one false, say at which input.
  Laid BY PROGRAM, IN A SANDBOX (cutbox-rows.mjs): the forced cells as the released guide's own fill.sh prints them over the translation 1054fcfd3c361d71… (all of the seat's roots in one cut). By AI agents, Wed Nov 11 2026. No macro, syntax, notation, axiom, sorry.
-/
import Derived.Test.YtfaielkkecphbaaChecked
import GoSem.Claim
import GoSem.ClaimJoined
import GoSem.ClaimMapViews
import Derived.JoinedTies
import Derived.KernelRfl
namespace Go.Proofs.Ytfaielkkecphbaa
/- THE CELL 'sum', in the pinned program and in every row, IS THE sha256 OF THE DUMP (.gsa) THAT YtfaielkkecphbaaProg.lean LOADS. Nothing in Lean hashes anything: it is a label: what it is worth is what the hold of that sum in a sandbox is worth. -/
noncomputable def Try.pinned : Pinned := { name := "ytfaielkkecphbaa", sum := "1054fcfd3c361d715f69fa3f27bdc4c651a697ae58a84af00c8f80de35bbb18d", checked := Try.checked }
namespace Rows
def none {H : Type} : Left H := { results := [], args := [] }

/-- 'fourwatchlaw.SumSums': WHATEVER THE INPUT: true; the input reads as it did. -/
def sumSumsSpec : ChangeSpec := { name := "sumSums", fn := fun _ => fun
  | [d] => { results := [.lit (.bool true)], args := [d] }
  | _ => none }
def sumSumsRow : OpenClaim := { program := "ytfaielkkecphbaa", sum := "1054fcfd3c361d715f69fa3f27bdc4c651a697ae58a84af00c8f80de35bbb18d", func := "fourwatch/fourwatchlaw.SumSums", spec := "sumSums", apart := false }
def SumSumsSaid : Prop := sumSumsRow.holds Try.pinned (OpenSpec.ofChange sumSumsSpec)

/-- ITS FALSE NEIGHBOUR: 'it returns false'. Refute it at one input. -/
def sumSumsWrong : ChangeSpec := { name := "sumSums", fn := fun _ => fun
  | [d] => { results := [.lit (.bool false)], args := [d] }
  | _ => none }
def SumSumsWrongFalsely : Prop := sumSumsRow.holds Try.pinned (OpenSpec.ofChange sumSumsWrong)

/-- 'fourwatchlaw.SumSeals': WHATEVER THE INPUT: true; the input reads as it did. -/
def sumSealsSpec : ChangeSpec := { name := "sumSeals", fn := fun _ => fun
  | [d] => { results := [.lit (.bool true)], args := [d] }
  | _ => none }
def sumSealsRow : OpenClaim := { program := "ytfaielkkecphbaa", sum := "1054fcfd3c361d715f69fa3f27bdc4c651a697ae58a84af00c8f80de35bbb18d", func := "fourwatch/fourwatchlaw.SumSeals", spec := "sumSeals", apart := false }
def SumSealsSaid : Prop := sumSealsRow.holds Try.pinned (OpenSpec.ofChange sumSealsSpec)

/-- ITS FALSE NEIGHBOUR: 'it returns false'. Refute it at one input. -/
def sumSealsWrong : ChangeSpec := { name := "sumSeals", fn := fun _ => fun
  | [d] => { results := [.lit (.bool false)], args := [d] }
  | _ => none }
def SumSealsWrongFalsely : Prop := sumSealsRow.holds Try.pinned (OpenSpec.ofChange sumSealsWrong)

/-- 'fourwatchlaw.SumOpens': WHATEVER THE INPUT: true; the input reads as it did. -/
def sumOpensSpec : ChangeSpec := { name := "sumOpens", fn := fun _ => fun
  | [d] => { results := [.lit (.bool true)], args := [d] }
  | _ => none }
def sumOpensRow : OpenClaim := { program := "ytfaielkkecphbaa", sum := "1054fcfd3c361d715f69fa3f27bdc4c651a697ae58a84af00c8f80de35bbb18d", func := "fourwatch/fourwatchlaw.SumOpens", spec := "sumOpens", apart := false }
def SumOpensSaid : Prop := sumOpensRow.holds Try.pinned (OpenSpec.ofChange sumOpensSpec)

/-- ITS FALSE NEIGHBOUR: 'it returns false'. Refute it at one input. -/
def sumOpensWrong : ChangeSpec := { name := "sumOpens", fn := fun _ => fun
  | [d] => { results := [.lit (.bool false)], args := [d] }
  | _ => none }
def SumOpensWrongFalsely : Prop := sumOpensRow.holds Try.pinned (OpenSpec.ofChange sumOpensWrong)

/-- 'fourwatchlaw.MemberRolls': WHATEVER THE INPUT: true; the input reads as it did. -/
def memberRollsSpec : ChangeSpec := { name := "memberRolls", fn := fun _ => fun
  | [d] => { results := [.lit (.bool true)], args := [d] }
  | _ => none }
def memberRollsRow : OpenClaim := { program := "ytfaielkkecphbaa", sum := "1054fcfd3c361d715f69fa3f27bdc4c651a697ae58a84af00c8f80de35bbb18d", func := "fourwatch/fourwatchlaw.MemberRolls", spec := "memberRolls", apart := false }
def MemberRollsSaid : Prop := memberRollsRow.holds Try.pinned (OpenSpec.ofChange memberRollsSpec)

/-- ITS FALSE NEIGHBOUR: 'it returns false'. Refute it at one input. -/
def memberRollsWrong : ChangeSpec := { name := "memberRolls", fn := fun _ => fun
  | [d] => { results := [.lit (.bool false)], args := [d] }
  | _ => none }
def MemberRollsWrongFalsely : Prop := memberRollsRow.holds Try.pinned (OpenSpec.ofChange memberRollsWrong)

/-- 'fourwatchlaw.WireEncodes': WHATEVER THE INPUT: true; the input reads as it did. -/
def wireEncodesSpec : ChangeSpec := { name := "wireEncodes", fn := fun _ => fun
  | [d] => { results := [.lit (.bool true)], args := [d] }
  | _ => none }
def wireEncodesRow : OpenClaim := { program := "ytfaielkkecphbaa", sum := "1054fcfd3c361d715f69fa3f27bdc4c651a697ae58a84af00c8f80de35bbb18d", func := "fourwatch/fourwatchlaw.WireEncodes", spec := "wireEncodes", apart := false }
def WireEncodesSaid : Prop := wireEncodesRow.holds Try.pinned (OpenSpec.ofChange wireEncodesSpec)

/-- ITS FALSE NEIGHBOUR: 'it returns false'. Refute it at one input. -/
def wireEncodesWrong : ChangeSpec := { name := "wireEncodes", fn := fun _ => fun
  | [d] => { results := [.lit (.bool false)], args := [d] }
  | _ => none }
def WireEncodesWrongFalsely : Prop := wireEncodesRow.holds Try.pinned (OpenSpec.ofChange wireEncodesWrong)

/-- 'fourwatchlaw.WireDecodes': WHATEVER THE INPUT: true; the input reads as it did. -/
def wireDecodesSpec : ChangeSpec := { name := "wireDecodes", fn := fun _ => fun
  | [d] => { results := [.lit (.bool true)], args := [d] }
  | _ => none }
def wireDecodesRow : OpenClaim := { program := "ytfaielkkecphbaa", sum := "1054fcfd3c361d715f69fa3f27bdc4c651a697ae58a84af00c8f80de35bbb18d", func := "fourwatch/fourwatchlaw.WireDecodes", spec := "wireDecodes", unfollowed := true, recurses := true, apart := false }
def WireDecodesSaid : Prop := wireDecodesRow.holds Try.pinned (OpenSpec.ofChange wireDecodesSpec)

/-- ITS FALSE NEIGHBOUR: 'it returns false'. Refute it at one input. -/
def wireDecodesWrong : ChangeSpec := { name := "wireDecodes", fn := fun _ => fun
  | [d] => { results := [.lit (.bool false)], args := [d] }
  | _ => none }
def WireDecodesWrongFalsely : Prop := wireDecodesRow.holds Try.pinned (OpenSpec.ofChange wireDecodesWrong)

/-- 'fourwatchlaw.AgreeVectors': WHATEVER THE INPUT: true; the input reads as it did. -/
def agreeVectorsSpec : ChangeSpec := { name := "agreeVectors", fn := fun _ => fun
  | [d1, d2, d3] => { results := [.lit (.bool true)], args := [d1, d2, d3] }
  | _ => none }
def agreeVectorsRow : OpenClaim := { program := "ytfaielkkecphbaa", sum := "1054fcfd3c361d715f69fa3f27bdc4c651a697ae58a84af00c8f80de35bbb18d", func := "fourwatch/fourwatchlaw.AgreeVectors", spec := "agreeVectors", unfollowed := true, recurses := true, apart := false }
def AgreeVectorsSaid : Prop := agreeVectorsRow.holds Try.pinned (OpenSpec.ofChange agreeVectorsSpec)

/-- ITS FALSE NEIGHBOUR: 'it returns false'. Refute it at one input. -/
def agreeVectorsWrong : ChangeSpec := { name := "agreeVectors", fn := fun _ => fun
  | [d1, d2, d3] => { results := [.lit (.bool false)], args := [d1, d2, d3] }
  | _ => none }
def AgreeVectorsWrongFalsely : Prop := agreeVectorsRow.holds Try.pinned (OpenSpec.ofChange agreeVectorsWrong)

/-- 'fourwatchlaw.MemberSteps': WHATEVER THE INPUT: true; the input reads as it did. -/
def memberStepsSpec : ChangeSpec := { name := "memberSteps", fn := fun _ => fun
  | [d1, d2] => { results := [.lit (.bool true)], args := [d1, d2] }
  | _ => none }
def memberStepsRow : OpenClaim := { program := "ytfaielkkecphbaa", sum := "1054fcfd3c361d715f69fa3f27bdc4c651a697ae58a84af00c8f80de35bbb18d", func := "fourwatch/fourwatchlaw.MemberSteps", spec := "memberSteps", apart := false }
def MemberStepsSaid : Prop := memberStepsRow.holds Try.pinned (OpenSpec.ofChange memberStepsSpec)

/-- ITS FALSE NEIGHBOUR: 'it returns false'. Refute it at one input. -/
def memberStepsWrong : ChangeSpec := { name := "memberSteps", fn := fun _ => fun
  | [d1, d2] => { results := [.lit (.bool false)], args := [d1, d2] }
  | _ => none }
def MemberStepsWrongFalsely : Prop := memberStepsRow.holds Try.pinned (OpenSpec.ofChange memberStepsWrong)

/-- 'fourwatchlaw.BusSends': WHATEVER THE INPUT: true; the input reads as it did. -/
def busSendsSpec : ChangeSpec := { name := "busSends", fn := fun _ => fun
  | [d1, d2, d3, d4, d5] => { results := [.lit (.bool true)], args := [d1, d2, d3, d4, d5] }
  | _ => none }
def busSendsRow : OpenClaim := { program := "ytfaielkkecphbaa", sum := "1054fcfd3c361d715f69fa3f27bdc4c651a697ae58a84af00c8f80de35bbb18d", func := "fourwatch/fourwatchlaw.BusSends", spec := "busSends", apart := false }
def BusSendsSaid : Prop := busSendsRow.holds Try.pinned (OpenSpec.ofChange busSendsSpec)

/-- ITS FALSE NEIGHBOUR: 'it returns false'. Refute it at one input. -/
def busSendsWrong : ChangeSpec := { name := "busSends", fn := fun _ => fun
  | [d1, d2, d3, d4, d5] => { results := [.lit (.bool false)], args := [d1, d2, d3, d4, d5] }
  | _ => none }
def BusSendsWrongFalsely : Prop := busSendsRow.holds Try.pinned (OpenSpec.ofChange busSendsWrong)

/-- 'fourwatchlaw.BusTurns': WHATEVER THE INPUT: true; the input reads as it did. -/
def busTurnsSpec : ChangeSpec := { name := "busTurns", fn := fun _ => fun
  | [d1, d2, d3, d4] => { results := [.lit (.bool true)], args := [d1, d2, d3, d4] }
  | _ => none }
def busTurnsRow : OpenClaim := { program := "ytfaielkkecphbaa", sum := "1054fcfd3c361d715f69fa3f27bdc4c651a697ae58a84af00c8f80de35bbb18d", func := "fourwatch/fourwatchlaw.BusTurns", spec := "busTurns", unfollowed := true, recurses := true, apart := false }
def BusTurnsSaid : Prop := busTurnsRow.holds Try.pinned (OpenSpec.ofChange busTurnsSpec)

/-- ITS FALSE NEIGHBOUR: 'it returns false'. Refute it at one input. -/
def busTurnsWrong : ChangeSpec := { name := "busTurns", fn := fun _ => fun
  | [d1, d2, d3, d4] => { results := [.lit (.bool false)], args := [d1, d2, d3, d4] }
  | _ => none }
def BusTurnsWrongFalsely : Prop := busTurnsRow.holds Try.pinned (OpenSpec.ofChange busTurnsWrong)

/-- 'fourwatchlaw.BusSteps': WHATEVER THE INPUT: true; the input reads as it did. -/
def busStepsSpec : ChangeSpec := { name := "busSteps", fn := fun _ => fun
  | [d1, d2] => { results := [.lit (.bool true)], args := [d1, d2] }
  | _ => none }
def busStepsRow : OpenClaim := { program := "ytfaielkkecphbaa", sum := "1054fcfd3c361d715f69fa3f27bdc4c651a697ae58a84af00c8f80de35bbb18d", func := "fourwatch/fourwatchlaw.BusSteps", spec := "busSteps", unfollowed := true, recurses := true, apart := false }
def BusStepsSaid : Prop := busStepsRow.holds Try.pinned (OpenSpec.ofChange busStepsSpec)

/-- ITS FALSE NEIGHBOUR: 'it returns false'. Refute it at one input. -/
def busStepsWrong : ChangeSpec := { name := "busSteps", fn := fun _ => fun
  | [d1, d2] => { results := [.lit (.bool false)], args := [d1, d2] }
  | _ => none }
def BusStepsWrongFalsely : Prop := busStepsRow.holds Try.pinned (OpenSpec.ofChange busStepsWrong)

/-- 'fourwatchlaw.BusPlays': WHATEVER THE INPUT: true; the input reads as it did. -/
def busPlaysSpec : ChangeSpec := { name := "busPlays", fn := fun _ => fun
  | [d] => { results := [.lit (.bool true)], args := [d] }
  | _ => none }
def busPlaysRow : OpenClaim := { program := "ytfaielkkecphbaa", sum := "1054fcfd3c361d715f69fa3f27bdc4c651a697ae58a84af00c8f80de35bbb18d", func := "fourwatch/fourwatchlaw.BusPlays", spec := "busPlays", unfollowed := true, recurses := true, apart := false }
def BusPlaysSaid : Prop := busPlaysRow.holds Try.pinned (OpenSpec.ofChange busPlaysSpec)

/-- ITS FALSE NEIGHBOUR: 'it returns false'. Refute it at one input. -/
def busPlaysWrong : ChangeSpec := { name := "busPlays", fn := fun _ => fun
  | [d] => { results := [.lit (.bool false)], args := [d] }
  | _ => none }
def BusPlaysWrongFalsely : Prop := busPlaysRow.holds Try.pinned (OpenSpec.ofChange busPlaysWrong)

/-- 'fourwatchlaw.ClusterBegins': WHATEVER THE INPUT: true; the input reads as it did. -/
def clusterBeginsSpec : ChangeSpec := { name := "clusterBegins", fn := fun _ => fun
  | [d] => { results := [.lit (.bool true)], args := [d] }
  | _ => none }
def clusterBeginsRow : OpenClaim := { program := "ytfaielkkecphbaa", sum := "1054fcfd3c361d715f69fa3f27bdc4c651a697ae58a84af00c8f80de35bbb18d", func := "fourwatch/fourwatchlaw.ClusterBegins", spec := "clusterBegins", apart := false }
def ClusterBeginsSaid : Prop := clusterBeginsRow.holds Try.pinned (OpenSpec.ofChange clusterBeginsSpec)

/-- ITS FALSE NEIGHBOUR: 'it returns false'. Refute it at one input. -/
def clusterBeginsWrong : ChangeSpec := { name := "clusterBegins", fn := fun _ => fun
  | [d] => { results := [.lit (.bool false)], args := [d] }
  | _ => none }
def ClusterBeginsWrongFalsely : Prop := clusterBeginsRow.holds Try.pinned (OpenSpec.ofChange clusterBeginsWrong)

/-- 'fourwatchlaw.NodePasses': WHATEVER THE INPUT: true; the input reads as it did. -/
def nodePassesSpec : ChangeSpec := { name := "nodePasses", fn := fun _ => fun
  | [d1, d2] => { results := [.lit (.bool true)], args := [d1, d2] }
  | _ => none }
def nodePassesRow : OpenClaim := { program := "ytfaielkkecphbaa", sum := "1054fcfd3c361d715f69fa3f27bdc4c651a697ae58a84af00c8f80de35bbb18d", func := "fourwatch/fourwatchlaw.NodePasses", spec := "nodePasses", apart := false }
def NodePassesSaid : Prop := nodePassesRow.holds Try.pinned (OpenSpec.ofChange nodePassesSpec)

/-- ITS FALSE NEIGHBOUR: 'it returns false'. Refute it at one input. -/
def nodePassesWrong : ChangeSpec := { name := "nodePasses", fn := fun _ => fun
  | [d1, d2] => { results := [.lit (.bool false)], args := [d1, d2] }
  | _ => none }
def NodePassesWrongFalsely : Prop := nodePassesRow.holds Try.pinned (OpenSpec.ofChange nodePassesWrong)

/-- 'fourwatchlaw.NodeRelays': WHATEVER THE INPUT: true; the input reads as it did. -/
def nodeRelaysSpec : ChangeSpec := { name := "nodeRelays", fn := fun _ => fun
  | [d1, d2] => { results := [.lit (.bool true)], args := [d1, d2] }
  | _ => none }
def nodeRelaysRow : OpenClaim := { program := "ytfaielkkecphbaa", sum := "1054fcfd3c361d715f69fa3f27bdc4c651a697ae58a84af00c8f80de35bbb18d", func := "fourwatch/fourwatchlaw.NodeRelays", spec := "nodeRelays", apart := false }
def NodeRelaysSaid : Prop := nodeRelaysRow.holds Try.pinned (OpenSpec.ofChange nodeRelaysSpec)

/-- ITS FALSE NEIGHBOUR: 'it returns false'. Refute it at one input. -/
def nodeRelaysWrong : ChangeSpec := { name := "nodeRelays", fn := fun _ => fun
  | [d1, d2] => { results := [.lit (.bool false)], args := [d1, d2] }
  | _ => none }
def NodeRelaysWrongFalsely : Prop := nodeRelaysRow.holds Try.pinned (OpenSpec.ofChange nodeRelaysWrong)

/-- 'fourwatchlaw.NodeCloses': WHATEVER THE INPUT: true; the input reads as it did. -/
def nodeClosesSpec : ChangeSpec := { name := "nodeCloses", fn := fun _ => fun
  | [d1, d2] => { results := [.lit (.bool true)], args := [d1, d2] }
  | _ => none }
def nodeClosesRow : OpenClaim := { program := "ytfaielkkecphbaa", sum := "1054fcfd3c361d715f69fa3f27bdc4c651a697ae58a84af00c8f80de35bbb18d", func := "fourwatch/fourwatchlaw.NodeCloses", spec := "nodeCloses", apart := false }
def NodeClosesSaid : Prop := nodeClosesRow.holds Try.pinned (OpenSpec.ofChange nodeClosesSpec)

/-- ITS FALSE NEIGHBOUR: 'it returns false'. Refute it at one input. -/
def nodeClosesWrong : ChangeSpec := { name := "nodeCloses", fn := fun _ => fun
  | [d1, d2] => { results := [.lit (.bool false)], args := [d1, d2] }
  | _ => none }
def NodeClosesWrongFalsely : Prop := nodeClosesRow.holds Try.pinned (OpenSpec.ofChange nodeClosesWrong)

/-- 'fourwatchlaw.NodeJudges': WHATEVER THE INPUT: true; the input reads as it did. -/
def nodeJudgesSpec : ChangeSpec := { name := "nodeJudges", fn := fun _ => fun
  | [d1, d2] => { results := [.lit (.bool true)], args := [d1, d2] }
  | _ => none }
def nodeJudgesRow : OpenClaim := { program := "ytfaielkkecphbaa", sum := "1054fcfd3c361d715f69fa3f27bdc4c651a697ae58a84af00c8f80de35bbb18d", func := "fourwatch/fourwatchlaw.NodeJudges", spec := "nodeJudges", unfollowed := true, recurses := true, apart := false }
def NodeJudgesSaid : Prop := nodeJudgesRow.holds Try.pinned (OpenSpec.ofChange nodeJudgesSpec)

/-- ITS FALSE NEIGHBOUR: 'it returns false'. Refute it at one input. -/
def nodeJudgesWrong : ChangeSpec := { name := "nodeJudges", fn := fun _ => fun
  | [d1, d2] => { results := [.lit (.bool false)], args := [d1, d2] }
  | _ => none }
def NodeJudgesWrongFalsely : Prop := nodeJudgesRow.holds Try.pinned (OpenSpec.ofChange nodeJudgesWrong)

/-- 'fourwatchlaw.MatTurns': WHATEVER THE INPUT: true; the input reads as it did. -/
def matTurnsSpec : ChangeSpec := { name := "matTurns", fn := fun _ => fun
  | [d] => { results := [.lit (.bool true)], args := [d] }
  | _ => none }
def matTurnsRow : OpenClaim := { program := "ytfaielkkecphbaa", sum := "1054fcfd3c361d715f69fa3f27bdc4c651a697ae58a84af00c8f80de35bbb18d", func := "fourwatch/fourwatchlaw.MatTurns", spec := "matTurns", apart := false }
def MatTurnsSaid : Prop := matTurnsRow.holds Try.pinned (OpenSpec.ofChange matTurnsSpec)

/-- ITS FALSE NEIGHBOUR: 'it returns false'. Refute it at one input. -/
def matTurnsWrong : ChangeSpec := { name := "matTurns", fn := fun _ => fun
  | [d] => { results := [.lit (.bool false)], args := [d] }
  | _ => none }
def MatTurnsWrongFalsely : Prop := matTurnsRow.holds Try.pinned (OpenSpec.ofChange matTurnsWrong)

/-- 'fourwatchlaw.NodeBegins': WHATEVER THE INPUT: true; the input reads as it did. -/
def nodeBeginsSpec : ChangeSpec := { name := "nodeBegins", fn := fun _ => fun
  | [d1, d2] => { results := [.lit (.bool true)], args := [d1, d2] }
  | _ => none }
def nodeBeginsRow : OpenClaim := { program := "ytfaielkkecphbaa", sum := "1054fcfd3c361d715f69fa3f27bdc4c651a697ae58a84af00c8f80de35bbb18d", func := "fourwatch/fourwatchlaw.NodeBegins", spec := "nodeBegins", apart := false }
def NodeBeginsSaid : Prop := nodeBeginsRow.holds Try.pinned (OpenSpec.ofChange nodeBeginsSpec)

/-- ITS FALSE NEIGHBOUR: 'it returns false'. Refute it at one input. -/
def nodeBeginsWrong : ChangeSpec := { name := "nodeBegins", fn := fun _ => fun
  | [d1, d2] => { results := [.lit (.bool false)], args := [d1, d2] }
  | _ => none }
def NodeBeginsWrongFalsely : Prop := nodeBeginsRow.holds Try.pinned (OpenSpec.ofChange nodeBeginsWrong)

/-- 'fourwatchlaw.NodeSenses': WHATEVER THE INPUT: true; the input reads as it did. -/
def nodeSensesSpec : ChangeSpec := { name := "nodeSenses", fn := fun _ => fun
  | [d1, d2, d3] => { results := [.lit (.bool true)], args := [d1, d2, d3] }
  | _ => none }
def nodeSensesRow : OpenClaim := { program := "ytfaielkkecphbaa", sum := "1054fcfd3c361d715f69fa3f27bdc4c651a697ae58a84af00c8f80de35bbb18d", func := "fourwatch/fourwatchlaw.NodeSenses", spec := "nodeSenses", apart := false }
def NodeSensesSaid : Prop := nodeSensesRow.holds Try.pinned (OpenSpec.ofChange nodeSensesSpec)

/-- ITS FALSE NEIGHBOUR: 'it returns false'. Refute it at one input. -/
def nodeSensesWrong : ChangeSpec := { name := "nodeSenses", fn := fun _ => fun
  | [d1, d2, d3] => { results := [.lit (.bool false)], args := [d1, d2, d3] }
  | _ => none }
def NodeSensesWrongFalsely : Prop := nodeSensesRow.holds Try.pinned (OpenSpec.ofChange nodeSensesWrong)

/-- 'fourwatchlaw.VoteVotes': WHATEVER THE INPUT: true; the input reads as it did. -/
def voteVotesSpec : ChangeSpec := { name := "voteVotes", fn := fun _ => fun
  | [d1, d2] => { results := [.lit (.bool true)], args := [d1, d2] }
  | _ => none }
def voteVotesRow : OpenClaim := { program := "ytfaielkkecphbaa", sum := "1054fcfd3c361d715f69fa3f27bdc4c651a697ae58a84af00c8f80de35bbb18d", func := "fourwatch/fourwatchlaw.VoteVotes", spec := "voteVotes", unfollowed := true, recurses := true, apart := false }
def VoteVotesSaid : Prop := voteVotesRow.holds Try.pinned (OpenSpec.ofChange voteVotesSpec)

/-- ITS FALSE NEIGHBOUR: 'it returns false'. Refute it at one input. -/
def voteVotesWrong : ChangeSpec := { name := "voteVotes", fn := fun _ => fun
  | [d1, d2] => { results := [.lit (.bool false)], args := [d1, d2] }
  | _ => none }
def VoteVotesWrongFalsely : Prop := voteVotesRow.holds Try.pinned (OpenSpec.ofChange voteVotesWrong)

/- THE SECOND FORM. 'bulk': how many values and letters a reading holds, each counted each time it is reached (what is shared counts as often as it is met; a slice's spare places count too). A statement '..UptoSaid' is the law's where the arguments, and the package variables that the reading takes, are together of bulk at most 1048576: NARROWER than '..Said'. Prove '..Said' where nothing that the law and all that it calls make is longer than what came in: it says more and counts as full. Else prove '..UptoSaid'. A law counts once. -/
mutual
def uptoBulk {H : Type} : DataW H → Nat
  | .lit (.string bytes) => bytes.length + 1
  | .lit _ => 1
  | .nil => 1
  | .ptr d => uptoBulk d + 1
  | .slice elems spare => uptoBulkAll elems + uptoBulkAll spare + 1
  | .agg parts => uptoBulkAll parts + 1
  | .iface _ d => uptoBulk d + 1
  | .map entries => uptoBulkEntries entries + 1
  | .held _ => 1
def uptoBulkAll {H : Type} : List (DataW H) → Nat
  | [] => 0
  | d :: r => uptoBulk d + uptoBulkAll r
def uptoBulkEntries {H : Type} : List (Lit × DataW H) → Nat
  | [] => 0
  | x :: r => uptoBulkEntry x + uptoBulkEntries r
def uptoBulkEntry {H : Type} : Lit × DataW H → Nat
  | (.string bytes, d) => bytes.length + uptoBulk d + 1
  | (_, d) => uptoBulk d + 1
 end
def uptoSmall : (H : Type) → List (DataW H) → Bool := fun _ ds => decide (uptoBulkAll ds ≤ 1048576)
def OpenSpec.upto (s : _root_.Go.ChangeSpec) : _root_.Go.OpenSpec := { _root_.Go.OpenSpec.ofChange s with cond := some uptoSmall }

/-- 'fourwatchlaw.SumSums', WHERE WHAT IT READS IS OF BULK AT MOST 1048576: true; the input reads as it did. -/
def sumSumsUptoRow : OpenClaim := { program := "ytfaielkkecphbaa", sum := "1054fcfd3c361d715f69fa3f27bdc4c651a697ae58a84af00c8f80de35bbb18d", func := "fourwatch/fourwatchlaw.SumSums", spec := "sumSums", apart := false, narrowed := true }
def SumSumsUptoSaid : Prop := sumSumsUptoRow.holds Try.pinned (OpenSpec.upto sumSumsSpec)

/-- 'fourwatchlaw.SumSeals', WHERE WHAT IT READS IS OF BULK AT MOST 1048576: true; the input reads as it did. -/
def sumSealsUptoRow : OpenClaim := { program := "ytfaielkkecphbaa", sum := "1054fcfd3c361d715f69fa3f27bdc4c651a697ae58a84af00c8f80de35bbb18d", func := "fourwatch/fourwatchlaw.SumSeals", spec := "sumSeals", apart := false, narrowed := true }
def SumSealsUptoSaid : Prop := sumSealsUptoRow.holds Try.pinned (OpenSpec.upto sumSealsSpec)

/-- 'fourwatchlaw.SumOpens', WHERE WHAT IT READS IS OF BULK AT MOST 1048576: true; the input reads as it did. -/
def sumOpensUptoRow : OpenClaim := { program := "ytfaielkkecphbaa", sum := "1054fcfd3c361d715f69fa3f27bdc4c651a697ae58a84af00c8f80de35bbb18d", func := "fourwatch/fourwatchlaw.SumOpens", spec := "sumOpens", apart := false, narrowed := true }
def SumOpensUptoSaid : Prop := sumOpensUptoRow.holds Try.pinned (OpenSpec.upto sumOpensSpec)

/-- 'fourwatchlaw.MemberRolls', WHERE WHAT IT READS IS OF BULK AT MOST 1048576: true; the input reads as it did. -/
def memberRollsUptoRow : OpenClaim := { program := "ytfaielkkecphbaa", sum := "1054fcfd3c361d715f69fa3f27bdc4c651a697ae58a84af00c8f80de35bbb18d", func := "fourwatch/fourwatchlaw.MemberRolls", spec := "memberRolls", apart := false, narrowed := true }
def MemberRollsUptoSaid : Prop := memberRollsUptoRow.holds Try.pinned (OpenSpec.upto memberRollsSpec)

/-- 'fourwatchlaw.WireEncodes', WHERE WHAT IT READS IS OF BULK AT MOST 1048576: true; the input reads as it did. -/
def wireEncodesUptoRow : OpenClaim := { program := "ytfaielkkecphbaa", sum := "1054fcfd3c361d715f69fa3f27bdc4c651a697ae58a84af00c8f80de35bbb18d", func := "fourwatch/fourwatchlaw.WireEncodes", spec := "wireEncodes", apart := false, narrowed := true }
def WireEncodesUptoSaid : Prop := wireEncodesUptoRow.holds Try.pinned (OpenSpec.upto wireEncodesSpec)

/-- 'fourwatchlaw.WireDecodes', WHERE WHAT IT READS IS OF BULK AT MOST 1048576: true; the input reads as it did. -/
def wireDecodesUptoRow : OpenClaim := { program := "ytfaielkkecphbaa", sum := "1054fcfd3c361d715f69fa3f27bdc4c651a697ae58a84af00c8f80de35bbb18d", func := "fourwatch/fourwatchlaw.WireDecodes", spec := "wireDecodes", unfollowed := true, recurses := true, apart := false, narrowed := true }
def WireDecodesUptoSaid : Prop := wireDecodesUptoRow.holds Try.pinned (OpenSpec.upto wireDecodesSpec)

/-- 'fourwatchlaw.AgreeVectors', WHERE WHAT IT READS IS OF BULK AT MOST 1048576: true; the input reads as it did. -/
def agreeVectorsUptoRow : OpenClaim := { program := "ytfaielkkecphbaa", sum := "1054fcfd3c361d715f69fa3f27bdc4c651a697ae58a84af00c8f80de35bbb18d", func := "fourwatch/fourwatchlaw.AgreeVectors", spec := "agreeVectors", unfollowed := true, recurses := true, apart := false, narrowed := true }
def AgreeVectorsUptoSaid : Prop := agreeVectorsUptoRow.holds Try.pinned (OpenSpec.upto agreeVectorsSpec)

/-- 'fourwatchlaw.MemberSteps', WHERE WHAT IT READS IS OF BULK AT MOST 1048576: true; the input reads as it did. -/
def memberStepsUptoRow : OpenClaim := { program := "ytfaielkkecphbaa", sum := "1054fcfd3c361d715f69fa3f27bdc4c651a697ae58a84af00c8f80de35bbb18d", func := "fourwatch/fourwatchlaw.MemberSteps", spec := "memberSteps", apart := false, narrowed := true }
def MemberStepsUptoSaid : Prop := memberStepsUptoRow.holds Try.pinned (OpenSpec.upto memberStepsSpec)

/-- 'fourwatchlaw.BusSends', WHERE WHAT IT READS IS OF BULK AT MOST 1048576: true; the input reads as it did. -/
def busSendsUptoRow : OpenClaim := { program := "ytfaielkkecphbaa", sum := "1054fcfd3c361d715f69fa3f27bdc4c651a697ae58a84af00c8f80de35bbb18d", func := "fourwatch/fourwatchlaw.BusSends", spec := "busSends", apart := false, narrowed := true }
def BusSendsUptoSaid : Prop := busSendsUptoRow.holds Try.pinned (OpenSpec.upto busSendsSpec)

/-- 'fourwatchlaw.BusTurns', WHERE WHAT IT READS IS OF BULK AT MOST 1048576: true; the input reads as it did. -/
def busTurnsUptoRow : OpenClaim := { program := "ytfaielkkecphbaa", sum := "1054fcfd3c361d715f69fa3f27bdc4c651a697ae58a84af00c8f80de35bbb18d", func := "fourwatch/fourwatchlaw.BusTurns", spec := "busTurns", unfollowed := true, recurses := true, apart := false, narrowed := true }
def BusTurnsUptoSaid : Prop := busTurnsUptoRow.holds Try.pinned (OpenSpec.upto busTurnsSpec)

/-- 'fourwatchlaw.BusSteps', WHERE WHAT IT READS IS OF BULK AT MOST 1048576: true; the input reads as it did. -/
def busStepsUptoRow : OpenClaim := { program := "ytfaielkkecphbaa", sum := "1054fcfd3c361d715f69fa3f27bdc4c651a697ae58a84af00c8f80de35bbb18d", func := "fourwatch/fourwatchlaw.BusSteps", spec := "busSteps", unfollowed := true, recurses := true, apart := false, narrowed := true }
def BusStepsUptoSaid : Prop := busStepsUptoRow.holds Try.pinned (OpenSpec.upto busStepsSpec)

/-- 'fourwatchlaw.BusPlays', WHERE WHAT IT READS IS OF BULK AT MOST 1048576: true; the input reads as it did. -/
def busPlaysUptoRow : OpenClaim := { program := "ytfaielkkecphbaa", sum := "1054fcfd3c361d715f69fa3f27bdc4c651a697ae58a84af00c8f80de35bbb18d", func := "fourwatch/fourwatchlaw.BusPlays", spec := "busPlays", unfollowed := true, recurses := true, apart := false, narrowed := true }
def BusPlaysUptoSaid : Prop := busPlaysUptoRow.holds Try.pinned (OpenSpec.upto busPlaysSpec)

/-- 'fourwatchlaw.ClusterBegins', WHERE WHAT IT READS IS OF BULK AT MOST 1048576: true; the input reads as it did. -/
def clusterBeginsUptoRow : OpenClaim := { program := "ytfaielkkecphbaa", sum := "1054fcfd3c361d715f69fa3f27bdc4c651a697ae58a84af00c8f80de35bbb18d", func := "fourwatch/fourwatchlaw.ClusterBegins", spec := "clusterBegins", apart := false, narrowed := true }
def ClusterBeginsUptoSaid : Prop := clusterBeginsUptoRow.holds Try.pinned (OpenSpec.upto clusterBeginsSpec)

/-- 'fourwatchlaw.NodePasses', WHERE WHAT IT READS IS OF BULK AT MOST 1048576: true; the input reads as it did. -/
def nodePassesUptoRow : OpenClaim := { program := "ytfaielkkecphbaa", sum := "1054fcfd3c361d715f69fa3f27bdc4c651a697ae58a84af00c8f80de35bbb18d", func := "fourwatch/fourwatchlaw.NodePasses", spec := "nodePasses", apart := false, narrowed := true }
def NodePassesUptoSaid : Prop := nodePassesUptoRow.holds Try.pinned (OpenSpec.upto nodePassesSpec)

/-- 'fourwatchlaw.NodeRelays', WHERE WHAT IT READS IS OF BULK AT MOST 1048576: true; the input reads as it did. -/
def nodeRelaysUptoRow : OpenClaim := { program := "ytfaielkkecphbaa", sum := "1054fcfd3c361d715f69fa3f27bdc4c651a697ae58a84af00c8f80de35bbb18d", func := "fourwatch/fourwatchlaw.NodeRelays", spec := "nodeRelays", apart := false, narrowed := true }
def NodeRelaysUptoSaid : Prop := nodeRelaysUptoRow.holds Try.pinned (OpenSpec.upto nodeRelaysSpec)

/-- 'fourwatchlaw.NodeCloses', WHERE WHAT IT READS IS OF BULK AT MOST 1048576: true; the input reads as it did. -/
def nodeClosesUptoRow : OpenClaim := { program := "ytfaielkkecphbaa", sum := "1054fcfd3c361d715f69fa3f27bdc4c651a697ae58a84af00c8f80de35bbb18d", func := "fourwatch/fourwatchlaw.NodeCloses", spec := "nodeCloses", apart := false, narrowed := true }
def NodeClosesUptoSaid : Prop := nodeClosesUptoRow.holds Try.pinned (OpenSpec.upto nodeClosesSpec)

/-- 'fourwatchlaw.NodeJudges', WHERE WHAT IT READS IS OF BULK AT MOST 1048576: true; the input reads as it did. -/
def nodeJudgesUptoRow : OpenClaim := { program := "ytfaielkkecphbaa", sum := "1054fcfd3c361d715f69fa3f27bdc4c651a697ae58a84af00c8f80de35bbb18d", func := "fourwatch/fourwatchlaw.NodeJudges", spec := "nodeJudges", unfollowed := true, recurses := true, apart := false, narrowed := true }
def NodeJudgesUptoSaid : Prop := nodeJudgesUptoRow.holds Try.pinned (OpenSpec.upto nodeJudgesSpec)

/-- 'fourwatchlaw.MatTurns', WHERE WHAT IT READS IS OF BULK AT MOST 1048576: true; the input reads as it did. -/
def matTurnsUptoRow : OpenClaim := { program := "ytfaielkkecphbaa", sum := "1054fcfd3c361d715f69fa3f27bdc4c651a697ae58a84af00c8f80de35bbb18d", func := "fourwatch/fourwatchlaw.MatTurns", spec := "matTurns", apart := false, narrowed := true }
def MatTurnsUptoSaid : Prop := matTurnsUptoRow.holds Try.pinned (OpenSpec.upto matTurnsSpec)

/-- 'fourwatchlaw.NodeBegins', WHERE WHAT IT READS IS OF BULK AT MOST 1048576: true; the input reads as it did. -/
def nodeBeginsUptoRow : OpenClaim := { program := "ytfaielkkecphbaa", sum := "1054fcfd3c361d715f69fa3f27bdc4c651a697ae58a84af00c8f80de35bbb18d", func := "fourwatch/fourwatchlaw.NodeBegins", spec := "nodeBegins", apart := false, narrowed := true }
def NodeBeginsUptoSaid : Prop := nodeBeginsUptoRow.holds Try.pinned (OpenSpec.upto nodeBeginsSpec)

/-- 'fourwatchlaw.NodeSenses', WHERE WHAT IT READS IS OF BULK AT MOST 1048576: true; the input reads as it did. -/
def nodeSensesUptoRow : OpenClaim := { program := "ytfaielkkecphbaa", sum := "1054fcfd3c361d715f69fa3f27bdc4c651a697ae58a84af00c8f80de35bbb18d", func := "fourwatch/fourwatchlaw.NodeSenses", spec := "nodeSenses", apart := false, narrowed := true }
def NodeSensesUptoSaid : Prop := nodeSensesUptoRow.holds Try.pinned (OpenSpec.upto nodeSensesSpec)

/-- 'fourwatchlaw.VoteVotes', WHERE WHAT IT READS IS OF BULK AT MOST 1048576: true; the input reads as it did. -/
def voteVotesUptoRow : OpenClaim := { program := "ytfaielkkecphbaa", sum := "1054fcfd3c361d715f69fa3f27bdc4c651a697ae58a84af00c8f80de35bbb18d", func := "fourwatch/fourwatchlaw.VoteVotes", spec := "voteVotes", unfollowed := true, recurses := true, apart := false, narrowed := true }
def VoteVotesUptoSaid : Prop := voteVotesUptoRow.holds Try.pinned (OpenSpec.upto voteVotesSpec)

end Rows
end Go.Proofs.Ytfaielkkecphbaa
