/-
  No cell of these rows narrows 'for every input' (looked for: loops, veiled, ifaces, maps, wideKeys, modest, calm, conditions, laid).
  DERIVED. THE GIVEN ROWS OF THIS SEAT. 10 by the template 'for every input the law returns true; each argument reads behind the call as it read before'; 0 by the template 'total and deterministic' (their statements: YthaijjcagnmilaaTotals.lean).
  GIVEN WITH THE SEED: the statements are not yours to turn. If you find one false, say at which input.
  Laid BY PROGRAM, IN A SANDBOX (cutbox-rows.mjs): the forced cells as the released guide's own fill.sh prints them over the translation 6d594e0d9b50aebe… (all of the seat's roots in one cut). By AI agents, Wed Nov 11 2026. No macro, syntax, notation, axiom, sorry.
-/
import Derived.Test.YthaijjcagnmilaaChecked
import GoSem.Claim
import GoSem.ClaimJoined
import GoSem.ClaimMapViews
import Derived.JoinedTies
import Derived.KernelRfl
namespace Go.Proofs.Ythaijjcagnmilaa
/- THE CELL 'sum', in the pinned program and in every row, IS THE sha256 OF THE DUMP (.gsa) THAT YthaijjcagnmilaaProg.lean LOADS. Nothing in Lean hashes anything: it is a label: what it is worth is what the hold of that sum in a sandbox is worth. -/
noncomputable def Try.pinned : Pinned := { name := "ythaijjcagnmilaa", sum := "6d594e0d9b50aebeef2b786b79ec9de3a675d17fbf811a5c9786e72b1e65406a", checked := Try.checked }
namespace Rows
def none {H : Type} : Left H := { results := [], args := [] }

/-- 'fourwatchlaw.SumSums': WHATEVER THE INPUT: true; the input reads as it did. -/
def sumSumsSpec : ChangeSpec := { name := "sumSums", fn := fun _ => fun
  | [d] => { results := [.lit (.bool true)], args := [d] }
  | _ => none }
def sumSumsRow : OpenClaim := { program := "ythaijjcagnmilaa", sum := "6d594e0d9b50aebeef2b786b79ec9de3a675d17fbf811a5c9786e72b1e65406a", func := "fourwatch/fourwatchlaw.SumSums", spec := "sumSums", apart := false }
def SumSumsSaid : Prop := sumSumsRow.holds Try.pinned (OpenSpec.ofChange sumSumsSpec)

/-- ITS FALSE NEIGHBOUR: 'it returns false'. Refute it at one input. -/
def sumSumsWrong : ChangeSpec := { name := "sumSums", fn := fun _ => fun
  | [d] => { results := [.lit (.bool false)], args := [d] }
  | _ => none }
def SumSumsWrongFalsely : Prop := sumSumsRow.holds Try.pinned (OpenSpec.ofChange sumSumsWrong)

/-- 'fourwatchlaw.AgreeMajorities': WHATEVER THE INPUT: true; the input reads as it did. -/
def agreeMajoritiesSpec : ChangeSpec := { name := "agreeMajorities", fn := fun _ => fun
  | [d1, d2] => { results := [.lit (.bool true)], args := [d1, d2] }
  | _ => none }
def agreeMajoritiesRow : OpenClaim := { program := "ythaijjcagnmilaa", sum := "6d594e0d9b50aebeef2b786b79ec9de3a675d17fbf811a5c9786e72b1e65406a", func := "fourwatch/fourwatchlaw.AgreeMajorities", spec := "agreeMajorities", apart := false }
def AgreeMajoritiesSaid : Prop := agreeMajoritiesRow.holds Try.pinned (OpenSpec.ofChange agreeMajoritiesSpec)

/-- ITS FALSE NEIGHBOUR: 'it returns false'. Refute it at one input. -/
def agreeMajoritiesWrong : ChangeSpec := { name := "agreeMajorities", fn := fun _ => fun
  | [d1, d2] => { results := [.lit (.bool false)], args := [d1, d2] }
  | _ => none }
def AgreeMajoritiesWrongFalsely : Prop := agreeMajoritiesRow.holds Try.pinned (OpenSpec.ofChange agreeMajoritiesWrong)

/-- 'fourwatchlaw.AgreeDecides': WHATEVER THE INPUT: true; the input reads as it did. -/
def agreeDecidesSpec : ChangeSpec := { name := "agreeDecides", fn := fun _ => fun
  | [d1, d2, d3] => { results := [.lit (.bool true)], args := [d1, d2, d3] }
  | _ => none }
def agreeDecidesRow : OpenClaim := { program := "ythaijjcagnmilaa", sum := "6d594e0d9b50aebeef2b786b79ec9de3a675d17fbf811a5c9786e72b1e65406a", func := "fourwatch/fourwatchlaw.AgreeDecides", spec := "agreeDecides", apart := false }
def AgreeDecidesSaid : Prop := agreeDecidesRow.holds Try.pinned (OpenSpec.ofChange agreeDecidesSpec)

/-- ITS FALSE NEIGHBOUR: 'it returns false'. Refute it at one input. -/
def agreeDecidesWrong : ChangeSpec := { name := "agreeDecides", fn := fun _ => fun
  | [d1, d2, d3] => { results := [.lit (.bool false)], args := [d1, d2, d3] }
  | _ => none }
def AgreeDecidesWrongFalsely : Prop := agreeDecidesRow.holds Try.pinned (OpenSpec.ofChange agreeDecidesWrong)

/-- 'fourwatchlaw.MemberRolls': WHATEVER THE INPUT: true; the input reads as it did. -/
def memberRollsSpec : ChangeSpec := { name := "memberRolls", fn := fun _ => fun
  | [d] => { results := [.lit (.bool true)], args := [d] }
  | _ => none }
def memberRollsRow : OpenClaim := { program := "ythaijjcagnmilaa", sum := "6d594e0d9b50aebeef2b786b79ec9de3a675d17fbf811a5c9786e72b1e65406a", func := "fourwatch/fourwatchlaw.MemberRolls", spec := "memberRolls", apart := false }
def MemberRollsSaid : Prop := memberRollsRow.holds Try.pinned (OpenSpec.ofChange memberRollsSpec)

/-- ITS FALSE NEIGHBOUR: 'it returns false'. Refute it at one input. -/
def memberRollsWrong : ChangeSpec := { name := "memberRolls", fn := fun _ => fun
  | [d] => { results := [.lit (.bool false)], args := [d] }
  | _ => none }
def MemberRollsWrongFalsely : Prop := memberRollsRow.holds Try.pinned (OpenSpec.ofChange memberRollsWrong)

/-- 'fourwatchlaw.SumSeals': WHATEVER THE INPUT: true; the input reads as it did. -/
def sumSealsSpec : ChangeSpec := { name := "sumSeals", fn := fun _ => fun
  | [d] => { results := [.lit (.bool true)], args := [d] }
  | _ => none }
def sumSealsRow : OpenClaim := { program := "ythaijjcagnmilaa", sum := "6d594e0d9b50aebeef2b786b79ec9de3a675d17fbf811a5c9786e72b1e65406a", func := "fourwatch/fourwatchlaw.SumSeals", spec := "sumSeals", apart := false }
def SumSealsSaid : Prop := sumSealsRow.holds Try.pinned (OpenSpec.ofChange sumSealsSpec)

/-- ITS FALSE NEIGHBOUR: 'it returns false'. Refute it at one input. -/
def sumSealsWrong : ChangeSpec := { name := "sumSeals", fn := fun _ => fun
  | [d] => { results := [.lit (.bool false)], args := [d] }
  | _ => none }
def SumSealsWrongFalsely : Prop := sumSealsRow.holds Try.pinned (OpenSpec.ofChange sumSealsWrong)

/-- 'fourwatchlaw.SumOpens': WHATEVER THE INPUT: true; the input reads as it did. -/
def sumOpensSpec : ChangeSpec := { name := "sumOpens", fn := fun _ => fun
  | [d] => { results := [.lit (.bool true)], args := [d] }
  | _ => none }
def sumOpensRow : OpenClaim := { program := "ythaijjcagnmilaa", sum := "6d594e0d9b50aebeef2b786b79ec9de3a675d17fbf811a5c9786e72b1e65406a", func := "fourwatch/fourwatchlaw.SumOpens", spec := "sumOpens", apart := false }
def SumOpensSaid : Prop := sumOpensRow.holds Try.pinned (OpenSpec.ofChange sumOpensSpec)

/-- ITS FALSE NEIGHBOUR: 'it returns false'. Refute it at one input. -/
def sumOpensWrong : ChangeSpec := { name := "sumOpens", fn := fun _ => fun
  | [d] => { results := [.lit (.bool false)], args := [d] }
  | _ => none }
def SumOpensWrongFalsely : Prop := sumOpensRow.holds Try.pinned (OpenSpec.ofChange sumOpensWrong)

/-- 'fourwatchlaw.WireEncodes': WHATEVER THE INPUT: true; the input reads as it did. -/
def wireEncodesSpec : ChangeSpec := { name := "wireEncodes", fn := fun _ => fun
  | [d] => { results := [.lit (.bool true)], args := [d] }
  | _ => none }
def wireEncodesRow : OpenClaim := { program := "ythaijjcagnmilaa", sum := "6d594e0d9b50aebeef2b786b79ec9de3a675d17fbf811a5c9786e72b1e65406a", func := "fourwatch/fourwatchlaw.WireEncodes", spec := "wireEncodes", apart := false }
def WireEncodesSaid : Prop := wireEncodesRow.holds Try.pinned (OpenSpec.ofChange wireEncodesSpec)

/-- ITS FALSE NEIGHBOUR: 'it returns false'. Refute it at one input. -/
def wireEncodesWrong : ChangeSpec := { name := "wireEncodes", fn := fun _ => fun
  | [d] => { results := [.lit (.bool false)], args := [d] }
  | _ => none }
def WireEncodesWrongFalsely : Prop := wireEncodesRow.holds Try.pinned (OpenSpec.ofChange wireEncodesWrong)

/-- 'fourwatchlaw.WireDecodes': WHATEVER THE INPUT: true; the input reads as it did. -/
def wireDecodesSpec : ChangeSpec := { name := "wireDecodes", fn := fun _ => fun
  | [d] => { results := [.lit (.bool true)], args := [d] }
  | _ => none }
def wireDecodesRow : OpenClaim := { program := "ythaijjcagnmilaa", sum := "6d594e0d9b50aebeef2b786b79ec9de3a675d17fbf811a5c9786e72b1e65406a", func := "fourwatch/fourwatchlaw.WireDecodes", spec := "wireDecodes", unfollowed := true, recurses := true, apart := false }
def WireDecodesSaid : Prop := wireDecodesRow.holds Try.pinned (OpenSpec.ofChange wireDecodesSpec)

/-- ITS FALSE NEIGHBOUR: 'it returns false'. Refute it at one input. -/
def wireDecodesWrong : ChangeSpec := { name := "wireDecodes", fn := fun _ => fun
  | [d] => { results := [.lit (.bool false)], args := [d] }
  | _ => none }
def WireDecodesWrongFalsely : Prop := wireDecodesRow.holds Try.pinned (OpenSpec.ofChange wireDecodesWrong)

/-- 'fourwatchlaw.AgreeVectors': WHATEVER THE INPUT: true; the input reads as it did. -/
def agreeVectorsSpec : ChangeSpec := { name := "agreeVectors", fn := fun _ => fun
  | [d1, d2, d3] => { results := [.lit (.bool true)], args := [d1, d2, d3] }
  | _ => none }
def agreeVectorsRow : OpenClaim := { program := "ythaijjcagnmilaa", sum := "6d594e0d9b50aebeef2b786b79ec9de3a675d17fbf811a5c9786e72b1e65406a", func := "fourwatch/fourwatchlaw.AgreeVectors", spec := "agreeVectors", unfollowed := true, recurses := true, apart := false }
def AgreeVectorsSaid : Prop := agreeVectorsRow.holds Try.pinned (OpenSpec.ofChange agreeVectorsSpec)

/-- ITS FALSE NEIGHBOUR: 'it returns false'. Refute it at one input. -/
def agreeVectorsWrong : ChangeSpec := { name := "agreeVectors", fn := fun _ => fun
  | [d1, d2, d3] => { results := [.lit (.bool false)], args := [d1, d2, d3] }
  | _ => none }
def AgreeVectorsWrongFalsely : Prop := agreeVectorsRow.holds Try.pinned (OpenSpec.ofChange agreeVectorsWrong)

/-- 'fourwatchlaw.MemberSteps': WHATEVER THE INPUT: true; the input reads as it did. -/
def memberStepsSpec : ChangeSpec := { name := "memberSteps", fn := fun _ => fun
  | [d1, d2] => { results := [.lit (.bool true)], args := [d1, d2] }
  | _ => none }
def memberStepsRow : OpenClaim := { program := "ythaijjcagnmilaa", sum := "6d594e0d9b50aebeef2b786b79ec9de3a675d17fbf811a5c9786e72b1e65406a", func := "fourwatch/fourwatchlaw.MemberSteps", spec := "memberSteps", apart := false }
def MemberStepsSaid : Prop := memberStepsRow.holds Try.pinned (OpenSpec.ofChange memberStepsSpec)

/-- ITS FALSE NEIGHBOUR: 'it returns false'. Refute it at one input. -/
def memberStepsWrong : ChangeSpec := { name := "memberSteps", fn := fun _ => fun
  | [d1, d2] => { results := [.lit (.bool false)], args := [d1, d2] }
  | _ => none }
def MemberStepsWrongFalsely : Prop := memberStepsRow.holds Try.pinned (OpenSpec.ofChange memberStepsWrong)

/- THE SECOND FORM. 'bulk': how many values and letters a reading holds, each counted each time it is reached (what is shared counts as often as it is met; a slice's spare places count too). A statement '..UptoSaid' is the law's where the arguments, and the package variables that the reading takes, are together of bulk at most 1048576: NARROWER than '..Said'. Prove '..Said' where nothing that the law and all that it calls make is longer than what came in: it says more and counts as full. Else prove '..UptoSaid'. A law counts once. -/
mutual
def uptoBulk {H : Type} : DataW H → Nat
  | .lit (.string bytes) => bytes.length + 1
  | .lit _ => 1
  | .nil => 1
  | .ptr d => uptoBulk d + 1
  | .slice elems spare => uptoBulkAll elems + uptoBulkAll spare + 1
  | .agg parts => uptoBulkAll parts + 1
  | .iface _ d => uptoBulk d + 1
  | .map entries => uptoBulkEntries entries + 1
  | .held _ => 1
def uptoBulkAll {H : Type} : List (DataW H) → Nat
  | [] => 0
  | d :: r => uptoBulk d + uptoBulkAll r
def uptoBulkEntries {H : Type} : List (Lit × DataW H) → Nat
  | [] => 0
  | x :: r => uptoBulkEntry x + uptoBulkEntries r
def uptoBulkEntry {H : Type} : Lit × DataW H → Nat
  | (.string bytes, d) => bytes.length + uptoBulk d + 1
  | (_, d) => uptoBulk d + 1
 end
def uptoSmall : (H : Type) → List (DataW H) → Bool := fun _ ds => decide (uptoBulkAll ds ≤ 1048576)
def OpenSpec.upto (s : _root_.Go.ChangeSpec) : _root_.Go.OpenSpec := { _root_.Go.OpenSpec.ofChange s with cond := some uptoSmall }

/-- 'fourwatchlaw.SumSums', WHERE WHAT IT READS IS OF BULK AT MOST 1048576: true; the input reads as it did. -/
def sumSumsUptoRow : OpenClaim := { program := "ythaijjcagnmilaa", sum := "6d594e0d9b50aebeef2b786b79ec9de3a675d17fbf811a5c9786e72b1e65406a", func := "fourwatch/fourwatchlaw.SumSums", spec := "sumSums", apart := false, narrowed := true }
def SumSumsUptoSaid : Prop := sumSumsUptoRow.holds Try.pinned (OpenSpec.upto sumSumsSpec)

/-- 'fourwatchlaw.AgreeMajorities', WHERE WHAT IT READS IS OF BULK AT MOST 1048576: true; the input reads as it did. -/
def agreeMajoritiesUptoRow : OpenClaim := { program := "ythaijjcagnmilaa", sum := "6d594e0d9b50aebeef2b786b79ec9de3a675d17fbf811a5c9786e72b1e65406a", func := "fourwatch/fourwatchlaw.AgreeMajorities", spec := "agreeMajorities", apart := false, narrowed := true }
def AgreeMajoritiesUptoSaid : Prop := agreeMajoritiesUptoRow.holds Try.pinned (OpenSpec.upto agreeMajoritiesSpec)

/-- 'fourwatchlaw.AgreeDecides', WHERE WHAT IT READS IS OF BULK AT MOST 1048576: true; the input reads as it did. -/
def agreeDecidesUptoRow : OpenClaim := { program := "ythaijjcagnmilaa", sum := "6d594e0d9b50aebeef2b786b79ec9de3a675d17fbf811a5c9786e72b1e65406a", func := "fourwatch/fourwatchlaw.AgreeDecides", spec := "agreeDecides", apart := false, narrowed := true }
def AgreeDecidesUptoSaid : Prop := agreeDecidesUptoRow.holds Try.pinned (OpenSpec.upto agreeDecidesSpec)

/-- 'fourwatchlaw.MemberRolls', WHERE WHAT IT READS IS OF BULK AT MOST 1048576: true; the input reads as it did. -/
def memberRollsUptoRow : OpenClaim := { program := "ythaijjcagnmilaa", sum := "6d594e0d9b50aebeef2b786b79ec9de3a675d17fbf811a5c9786e72b1e65406a", func := "fourwatch/fourwatchlaw.MemberRolls", spec := "memberRolls", apart := false, narrowed := true }
def MemberRollsUptoSaid : Prop := memberRollsUptoRow.holds Try.pinned (OpenSpec.upto memberRollsSpec)

/-- 'fourwatchlaw.SumSeals', WHERE WHAT IT READS IS OF BULK AT MOST 1048576: true; the input reads as it did. -/
def sumSealsUptoRow : OpenClaim := { program := "ythaijjcagnmilaa", sum := "6d594e0d9b50aebeef2b786b79ec9de3a675d17fbf811a5c9786e72b1e65406a", func := "fourwatch/fourwatchlaw.SumSeals", spec := "sumSeals", apart := false, narrowed := true }
def SumSealsUptoSaid : Prop := sumSealsUptoRow.holds Try.pinned (OpenSpec.upto sumSealsSpec)

/-- 'fourwatchlaw.SumOpens', WHERE WHAT IT READS IS OF BULK AT MOST 1048576: true; the input reads as it did. -/
def sumOpensUptoRow : OpenClaim := { program := "ythaijjcagnmilaa", sum := "6d594e0d9b50aebeef2b786b79ec9de3a675d17fbf811a5c9786e72b1e65406a", func := "fourwatch/fourwatchlaw.SumOpens", spec := "sumOpens", apart := false, narrowed := true }
def SumOpensUptoSaid : Prop := sumOpensUptoRow.holds Try.pinned (OpenSpec.upto sumOpensSpec)

/-- 'fourwatchlaw.WireEncodes', WHERE WHAT IT READS IS OF BULK AT MOST 1048576: true; the input reads as it did. -/
def wireEncodesUptoRow : OpenClaim := { program := "ythaijjcagnmilaa", sum := "6d594e0d9b50aebeef2b786b79ec9de3a675d17fbf811a5c9786e72b1e65406a", func := "fourwatch/fourwatchlaw.WireEncodes", spec := "wireEncodes", apart := false, narrowed := true }
def WireEncodesUptoSaid : Prop := wireEncodesUptoRow.holds Try.pinned (OpenSpec.upto wireEncodesSpec)

/-- 'fourwatchlaw.WireDecodes', WHERE WHAT IT READS IS OF BULK AT MOST 1048576: true; the input reads as it did. -/
def wireDecodesUptoRow : OpenClaim := { program := "ythaijjcagnmilaa", sum := "6d594e0d9b50aebeef2b786b79ec9de3a675d17fbf811a5c9786e72b1e65406a", func := "fourwatch/fourwatchlaw.WireDecodes", spec := "wireDecodes", unfollowed := true, recurses := true, apart := false, narrowed := true }
def WireDecodesUptoSaid : Prop := wireDecodesUptoRow.holds Try.pinned (OpenSpec.upto wireDecodesSpec)

/-- 'fourwatchlaw.AgreeVectors', WHERE WHAT IT READS IS OF BULK AT MOST 1048576: true; the input reads as it did. -/
def agreeVectorsUptoRow : OpenClaim := { program := "ythaijjcagnmilaa", sum := "6d594e0d9b50aebeef2b786b79ec9de3a675d17fbf811a5c9786e72b1e65406a", func := "fourwatch/fourwatchlaw.AgreeVectors", spec := "agreeVectors", unfollowed := true, recurses := true, apart := false, narrowed := true }
def AgreeVectorsUptoSaid : Prop := agreeVectorsUptoRow.holds Try.pinned (OpenSpec.upto agreeVectorsSpec)

/-- 'fourwatchlaw.MemberSteps', WHERE WHAT IT READS IS OF BULK AT MOST 1048576: true; the input reads as it did. -/
def memberStepsUptoRow : OpenClaim := { program := "ythaijjcagnmilaa", sum := "6d594e0d9b50aebeef2b786b79ec9de3a675d17fbf811a5c9786e72b1e65406a", func := "fourwatch/fourwatchlaw.MemberSteps", spec := "memberSteps", apart := false, narrowed := true }
def MemberStepsUptoSaid : Prop := memberStepsUptoRow.holds Try.pinned (OpenSpec.upto memberStepsSpec)

end Rows
end Go.Proofs.Ythaijjcagnmilaa
