/-
  No cell of these rows narrows 'for every input' (looked for: loops, veiled, ifaces, maps, wideKeys, modest, calm, conditions, laid).
  DERIVED. THE GIVEN ROWS OF THIS SEAT. 6 by the template 'for every input the law returns true; each argument reads behind the call as it read before'; 0 by the template 'total and deterministic' (their statements: YtlcpackmoolngaaTotals.lean).
  GIVEN WITH THE SEED: the statements are not yours to turn. If you find one false, say at which input.
  Laid BY PROGRAM, IN A SANDBOX (cutbox-rows.mjs): the forced cells as the released guide's own fill.sh prints them over the translation 6058620de20fb7cc… (all of the seat's roots in one cut). By AI agents, Wed Nov 11 2026. No macro, syntax, notation, axiom, sorry.
-/
import Derived.Test.YtlcpackmoolngaaChecked
import GoSem.Claim
import GoSem.ClaimJoined
import GoSem.ClaimMapViews
import Derived.JoinedTies
import Derived.KernelRfl
namespace Go.Proofs.Ytlcpackmoolngaa
/- THE CELL 'sum', in the pinned program and in every row, IS THE sha256 OF THE DUMP (.gsa) THAT YtlcpackmoolngaaProg.lean LOADS. Nothing in Lean hashes anything: it is a label: what it is worth is what the hold of that sum in a sandbox is worth. -/
noncomputable def Try.pinned : Pinned := { name := "ytlcpackmoolngaa", sum := "6058620de20fb7cc73795cdfd63557b9e19e572e886ff83ff74295d809ec361f", checked := Try.checked }
namespace Rows
def none {H : Type} : Left H := { results := [], args := [] }

/-- 'fourwatchlaw.BusTurns': WHATEVER THE INPUT: true; the input reads as it did. -/
def busTurnsSpec : ChangeSpec := { name := "busTurns", fn := fun _ => fun
  | [d1, d2, d3, d4] => { results := [.lit (.bool true)], args := [d1, d2, d3, d4] }
  | _ => none }
def busTurnsRow : OpenClaim := { program := "ytlcpackmoolngaa", sum := "6058620de20fb7cc73795cdfd63557b9e19e572e886ff83ff74295d809ec361f", func := "fourwatch/fourwatchlaw.BusTurns", spec := "busTurns", unfollowed := true, recurses := true, apart := false }
def BusTurnsSaid : Prop := busTurnsRow.holds Try.pinned (OpenSpec.ofChange busTurnsSpec)

/-- ITS FALSE NEIGHBOUR: 'it returns false'. Refute it at one input. -/
def busTurnsWrong : ChangeSpec := { name := "busTurns", fn := fun _ => fun
  | [d1, d2, d3, d4] => { results := [.lit (.bool false)], args := [d1, d2, d3, d4] }
  | _ => none }
def BusTurnsWrongFalsely : Prop := busTurnsRow.holds Try.pinned (OpenSpec.ofChange busTurnsWrong)

/-- 'fourwatchlaw.BusSteps': WHATEVER THE INPUT: true; the input reads as it did. -/
def busStepsSpec : ChangeSpec := { name := "busSteps", fn := fun _ => fun
  | [d1, d2] => { results := [.lit (.bool true)], args := [d1, d2] }
  | _ => none }
def busStepsRow : OpenClaim := { program := "ytlcpackmoolngaa", sum := "6058620de20fb7cc73795cdfd63557b9e19e572e886ff83ff74295d809ec361f", func := "fourwatch/fourwatchlaw.BusSteps", spec := "busSteps", unfollowed := true, recurses := true, apart := false }
def BusStepsSaid : Prop := busStepsRow.holds Try.pinned (OpenSpec.ofChange busStepsSpec)

/-- ITS FALSE NEIGHBOUR: 'it returns false'. Refute it at one input. -/
def busStepsWrong : ChangeSpec := { name := "busSteps", fn := fun _ => fun
  | [d1, d2] => { results := [.lit (.bool false)], args := [d1, d2] }
  | _ => none }
def BusStepsWrongFalsely : Prop := busStepsRow.holds Try.pinned (OpenSpec.ofChange busStepsWrong)

/-- 'fourwatchlaw.BusPlays': WHATEVER THE INPUT: true; the input reads as it did. -/
def busPlaysSpec : ChangeSpec := { name := "busPlays", fn := fun _ => fun
  | [d] => { results := [.lit (.bool true)], args := [d] }
  | _ => none }
def busPlaysRow : OpenClaim := { program := "ytlcpackmoolngaa", sum := "6058620de20fb7cc73795cdfd63557b9e19e572e886ff83ff74295d809ec361f", func := "fourwatch/fourwatchlaw.BusPlays", spec := "busPlays", unfollowed := true, recurses := true, apart := false }
def BusPlaysSaid : Prop := busPlaysRow.holds Try.pinned (OpenSpec.ofChange busPlaysSpec)

/-- ITS FALSE NEIGHBOUR: 'it returns false'. Refute it at one input. -/
def busPlaysWrong : ChangeSpec := { name := "busPlays", fn := fun _ => fun
  | [d] => { results := [.lit (.bool false)], args := [d] }
  | _ => none }
def BusPlaysWrongFalsely : Prop := busPlaysRow.holds Try.pinned (OpenSpec.ofChange busPlaysWrong)

/-- 'fourwatchlaw.FixTexts': WHATEVER THE INPUT: true; the input reads as it did. -/
def fixTextsSpec : ChangeSpec := { name := "fixTexts", fn := fun _ => fun
  | [d] => { results := [.lit (.bool true)], args := [d] }
  | _ => none }
def fixTextsRow : OpenClaim := { program := "ytlcpackmoolngaa", sum := "6058620de20fb7cc73795cdfd63557b9e19e572e886ff83ff74295d809ec361f", func := "fourwatch/fourwatchlaw.FixTexts", spec := "fixTexts", apart := false }
def FixTextsSaid : Prop := fixTextsRow.holds Try.pinned (OpenSpec.ofChange fixTextsSpec)

/-- ITS FALSE NEIGHBOUR: 'it returns false'. Refute it at one input. -/
def fixTextsWrong : ChangeSpec := { name := "fixTexts", fn := fun _ => fun
  | [d] => { results := [.lit (.bool false)], args := [d] }
  | _ => none }
def FixTextsWrongFalsely : Prop := fixTextsRow.holds Try.pinned (OpenSpec.ofChange fixTextsWrong)

/-- 'fourwatchlaw.FixReads': WHATEVER THE INPUT: true; the input reads as it did. -/
def fixReadsSpec : ChangeSpec := { name := "fixReads", fn := fun _ => fun
  | [d] => { results := [.lit (.bool true)], args := [d] }
  | _ => none }
def fixReadsRow : OpenClaim := { program := "ytlcpackmoolngaa", sum := "6058620de20fb7cc73795cdfd63557b9e19e572e886ff83ff74295d809ec361f", func := "fourwatch/fourwatchlaw.FixReads", spec := "fixReads", unfollowed := true, recurses := true, apart := false }
def FixReadsSaid : Prop := fixReadsRow.holds Try.pinned (OpenSpec.ofChange fixReadsSpec)

/-- ITS FALSE NEIGHBOUR: 'it returns false'. Refute it at one input. -/
def fixReadsWrong : ChangeSpec := { name := "fixReads", fn := fun _ => fun
  | [d] => { results := [.lit (.bool false)], args := [d] }
  | _ => none }
def FixReadsWrongFalsely : Prop := fixReadsRow.holds Try.pinned (OpenSpec.ofChange fixReadsWrong)

/-- 'fourwatchlaw.BusSends': WHATEVER THE INPUT: true; the input reads as it did. -/
def busSendsSpec : ChangeSpec := { name := "busSends", fn := fun _ => fun
  | [d1, d2, d3, d4, d5] => { results := [.lit (.bool true)], args := [d1, d2, d3, d4, d5] }
  | _ => none }
def busSendsRow : OpenClaim := { program := "ytlcpackmoolngaa", sum := "6058620de20fb7cc73795cdfd63557b9e19e572e886ff83ff74295d809ec361f", func := "fourwatch/fourwatchlaw.BusSends", spec := "busSends", apart := false }
def BusSendsSaid : Prop := busSendsRow.holds Try.pinned (OpenSpec.ofChange busSendsSpec)

/-- ITS FALSE NEIGHBOUR: 'it returns false'. Refute it at one input. -/
def busSendsWrong : ChangeSpec := { name := "busSends", fn := fun _ => fun
  | [d1, d2, d3, d4, d5] => { results := [.lit (.bool false)], args := [d1, d2, d3, d4, d5] }
  | _ => none }
def BusSendsWrongFalsely : Prop := busSendsRow.holds Try.pinned (OpenSpec.ofChange busSendsWrong)

/- THE SECOND FORM. 'bulk': how many values and letters a reading holds, each counted each time it is reached (what is shared counts as often as it is met; a slice's spare places count too). A statement '..UptoSaid' is the law's where the arguments, and the package variables that the reading takes, are together of bulk at most 1048576: NARROWER than '..Said'. Prove '..Said' where nothing that the law and all that it calls make is longer than what came in: it says more and counts as full. Else prove '..UptoSaid'. A law counts once. -/
mutual
def uptoBulk {H : Type} : DataW H → Nat
  | .lit (.string bytes) => bytes.length + 1
  | .lit _ => 1
  | .nil => 1
  | .ptr d => uptoBulk d + 1
  | .slice elems spare => uptoBulkAll elems + uptoBulkAll spare + 1
  | .agg parts => uptoBulkAll parts + 1
  | .iface _ d => uptoBulk d + 1
  | .map entries => uptoBulkEntries entries + 1
  | .held _ => 1
def uptoBulkAll {H : Type} : List (DataW H) → Nat
  | [] => 0
  | d :: r => uptoBulk d + uptoBulkAll r
def uptoBulkEntries {H : Type} : List (Lit × DataW H) → Nat
  | [] => 0
  | x :: r => uptoBulkEntry x + uptoBulkEntries r
def uptoBulkEntry {H : Type} : Lit × DataW H → Nat
  | (.string bytes, d) => bytes.length + uptoBulk d + 1
  | (_, d) => uptoBulk d + 1
 end
def uptoSmall : (H : Type) → List (DataW H) → Bool := fun _ ds => decide (uptoBulkAll ds ≤ 1048576)
def OpenSpec.upto (s : _root_.Go.ChangeSpec) : _root_.Go.OpenSpec := { _root_.Go.OpenSpec.ofChange s with cond := some uptoSmall }

/-- 'fourwatchlaw.BusTurns', WHERE WHAT IT READS IS OF BULK AT MOST 1048576: true; the input reads as it did. -/
def busTurnsUptoRow : OpenClaim := { program := "ytlcpackmoolngaa", sum := "6058620de20fb7cc73795cdfd63557b9e19e572e886ff83ff74295d809ec361f", func := "fourwatch/fourwatchlaw.BusTurns", spec := "busTurns", unfollowed := true, recurses := true, apart := false, narrowed := true }
def BusTurnsUptoSaid : Prop := busTurnsUptoRow.holds Try.pinned (OpenSpec.upto busTurnsSpec)

/-- 'fourwatchlaw.BusSteps', WHERE WHAT IT READS IS OF BULK AT MOST 1048576: true; the input reads as it did. -/
def busStepsUptoRow : OpenClaim := { program := "ytlcpackmoolngaa", sum := "6058620de20fb7cc73795cdfd63557b9e19e572e886ff83ff74295d809ec361f", func := "fourwatch/fourwatchlaw.BusSteps", spec := "busSteps", unfollowed := true, recurses := true, apart := false, narrowed := true }
def BusStepsUptoSaid : Prop := busStepsUptoRow.holds Try.pinned (OpenSpec.upto busStepsSpec)

/-- 'fourwatchlaw.BusPlays', WHERE WHAT IT READS IS OF BULK AT MOST 1048576: true; the input reads as it did. -/
def busPlaysUptoRow : OpenClaim := { program := "ytlcpackmoolngaa", sum := "6058620de20fb7cc73795cdfd63557b9e19e572e886ff83ff74295d809ec361f", func := "fourwatch/fourwatchlaw.BusPlays", spec := "busPlays", unfollowed := true, recurses := true, apart := false, narrowed := true }
def BusPlaysUptoSaid : Prop := busPlaysUptoRow.holds Try.pinned (OpenSpec.upto busPlaysSpec)

/-- 'fourwatchlaw.FixTexts', WHERE WHAT IT READS IS OF BULK AT MOST 1048576: true; the input reads as it did. -/
def fixTextsUptoRow : OpenClaim := { program := "ytlcpackmoolngaa", sum := "6058620de20fb7cc73795cdfd63557b9e19e572e886ff83ff74295d809ec361f", func := "fourwatch/fourwatchlaw.FixTexts", spec := "fixTexts", apart := false, narrowed := true }
def FixTextsUptoSaid : Prop := fixTextsUptoRow.holds Try.pinned (OpenSpec.upto fixTextsSpec)

/-- 'fourwatchlaw.FixReads', WHERE WHAT IT READS IS OF BULK AT MOST 1048576: true; the input reads as it did. -/
def fixReadsUptoRow : OpenClaim := { program := "ytlcpackmoolngaa", sum := "6058620de20fb7cc73795cdfd63557b9e19e572e886ff83ff74295d809ec361f", func := "fourwatch/fourwatchlaw.FixReads", spec := "fixReads", unfollowed := true, recurses := true, apart := false, narrowed := true }
def FixReadsUptoSaid : Prop := fixReadsUptoRow.holds Try.pinned (OpenSpec.upto fixReadsSpec)

/-- 'fourwatchlaw.BusSends', WHERE WHAT IT READS IS OF BULK AT MOST 1048576: true; the input reads as it did. -/
def busSendsUptoRow : OpenClaim := { program := "ytlcpackmoolngaa", sum := "6058620de20fb7cc73795cdfd63557b9e19e572e886ff83ff74295d809ec361f", func := "fourwatch/fourwatchlaw.BusSends", spec := "busSends", apart := false, narrowed := true }
def BusSendsUptoSaid : Prop := busSendsUptoRow.holds Try.pinned (OpenSpec.upto busSendsSpec)

end Rows
end Go.Proofs.Ytlcpackmoolngaa
