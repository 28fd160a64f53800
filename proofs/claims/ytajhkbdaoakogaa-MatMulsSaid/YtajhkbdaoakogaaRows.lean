/-
  No cell of these rows narrows 'for every input' (looked for: loops, veiled, ifaces, maps, wideKeys, modest, calm, conditions, laid).
  DERIVED. THE GIVEN ROWS OF THIS SEAT. 12 by the template 'for every input the law returns true; each argument reads behind the call as it read before'; 0 by the template 'total and deterministic' (their statements: YtajhkbdaoakogaaTotals.lean).
  GIVEN WITH THE SEED: the statements are not yours to turn. If you find one false, say at which input.
  Laid BY PROGRAM, IN A SANDBOX (cutbox-rows.mjs): the forced cells as the released guide's own fill.sh prints them over the translation 59da18fa2f63bcb5… (all of the seat's roots in one cut). By AI agents, Wed Nov 11 2026. No macro, syntax, notation, axiom, sorry.
-/
import Derived.Test.YtajhkbdaoakogaaChecked
import GoSem.Claim
import GoSem.ClaimJoined
import GoSem.ClaimMapViews
import Derived.JoinedTies
import Derived.KernelRfl
namespace Go.Proofs.Ytajhkbdaoakogaa
/- THE CELL 'sum', in the pinned program and in every row, IS THE sha256 OF THE DUMP (.gsa) THAT YtajhkbdaoakogaaProg.lean LOADS. Nothing in Lean hashes anything: it is a label: what it is worth is what the hold of that sum in a sandbox is worth. -/
noncomputable def Try.pinned : Pinned := { name := "ytajhkbdaoakogaa", sum := "59da18fa2f63bcb553be7ff4b5b691177bdda2dd587c463536adb67de0195152", checked := Try.checked }
namespace Rows
def none {H : Type} : Left H := { results := [], args := [] }

/-- 'fourwatchlaw.FilterUpdates': WHATEVER THE INPUT: true; the input reads as it did. -/
def filterUpdatesSpec : ChangeSpec := { name := "filterUpdates", fn := fun _ => fun
  | [d1, d2, d3, d4] => { results := [.lit (.bool true)], args := [d1, d2, d3, d4] }
  | _ => none }
def filterUpdatesRow : OpenClaim := { program := "ytajhkbdaoakogaa", sum := "59da18fa2f63bcb553be7ff4b5b691177bdda2dd587c463536adb67de0195152", func := "fourwatch/fourwatchlaw.FilterUpdates", spec := "filterUpdates", inPlace := ["math/bits.Add64"], named := ["math/bits.divideError", "math/bits.overflowError"], apart := false }
def FilterUpdatesSaid : Prop := filterUpdatesRow.holds Try.pinned (OpenSpec.ofChange filterUpdatesSpec)

/-- ITS FALSE NEIGHBOUR: 'it returns false'. Refute it at one input. -/
def filterUpdatesWrong : ChangeSpec := { name := "filterUpdates", fn := fun _ => fun
  | [d1, d2, d3, d4] => { results := [.lit (.bool false)], args := [d1, d2, d3, d4] }
  | _ => none }
def FilterUpdatesWrongFalsely : Prop := filterUpdatesRow.holds Try.pinned (OpenSpec.ofChange filterUpdatesWrong)

/-- 'fourwatchlaw.FilterSteps': WHATEVER THE INPUT: true; the input reads as it did. -/
def filterStepsSpec : ChangeSpec := { name := "filterSteps", fn := fun _ => fun
  | [d1, d2, d3] => { results := [.lit (.bool true)], args := [d1, d2, d3] }
  | _ => none }
def filterStepsRow : OpenClaim := { program := "ytajhkbdaoakogaa", sum := "59da18fa2f63bcb553be7ff4b5b691177bdda2dd587c463536adb67de0195152", func := "fourwatch/fourwatchlaw.FilterSteps", spec := "filterSteps", inPlace := ["math/bits.Add64"], named := ["math/bits.divideError", "math/bits.overflowError"], apart := false }
def FilterStepsSaid : Prop := filterStepsRow.holds Try.pinned (OpenSpec.ofChange filterStepsSpec)

/-- ITS FALSE NEIGHBOUR: 'it returns false'. Refute it at one input. -/
def filterStepsWrong : ChangeSpec := { name := "filterSteps", fn := fun _ => fun
  | [d1, d2, d3] => { results := [.lit (.bool false)], args := [d1, d2, d3] }
  | _ => none }
def FilterStepsWrongFalsely : Prop := filterStepsRow.holds Try.pinned (OpenSpec.ofChange filterStepsWrong)

/-- 'fourwatchlaw.FilterRuns': WHATEVER THE INPUT: true; the input reads as it did. -/
def filterRunsSpec : ChangeSpec := { name := "filterRuns", fn := fun _ => fun
  | [d1, d2, d3] => { results := [.lit (.bool true)], args := [d1, d2, d3] }
  | _ => none }
def filterRunsRow : OpenClaim := { program := "ytajhkbdaoakogaa", sum := "59da18fa2f63bcb553be7ff4b5b691177bdda2dd587c463536adb67de0195152", func := "fourwatch/fourwatchlaw.FilterRuns", spec := "filterRuns", inPlace := ["math/bits.Add64"], recurses := true, named := ["math/bits.divideError", "math/bits.overflowError"], apart := false }
def FilterRunsSaid : Prop := filterRunsRow.holds Try.pinned (OpenSpec.ofChange filterRunsSpec)

/-- ITS FALSE NEIGHBOUR: 'it returns false'. Refute it at one input. -/
def filterRunsWrong : ChangeSpec := { name := "filterRuns", fn := fun _ => fun
  | [d1, d2, d3] => { results := [.lit (.bool false)], args := [d1, d2, d3] }
  | _ => none }
def FilterRunsWrongFalsely : Prop := filterRunsRow.holds Try.pinned (OpenSpec.ofChange filterRunsWrong)

/-- 'fourwatchlaw.VecAdds': WHATEVER THE INPUT: true; the input reads as it did. -/
def vecAddsSpec : ChangeSpec := { name := "vecAdds", fn := fun _ => fun
  | [d1, d2] => { results := [.lit (.bool true)], args := [d1, d2] }
  | _ => none }
def vecAddsRow : OpenClaim := { program := "ytajhkbdaoakogaa", sum := "59da18fa2f63bcb553be7ff4b5b691177bdda2dd587c463536adb67de0195152", func := "fourwatch/fourwatchlaw.VecAdds", spec := "vecAdds", unfollowed := true, recurses := true, apart := false }
def VecAddsSaid : Prop := vecAddsRow.holds Try.pinned (OpenSpec.ofChange vecAddsSpec)

/-- ITS FALSE NEIGHBOUR: 'it returns false'. Refute it at one input. -/
def vecAddsWrong : ChangeSpec := { name := "vecAdds", fn := fun _ => fun
  | [d1, d2] => { results := [.lit (.bool false)], args := [d1, d2] }
  | _ => none }
def VecAddsWrongFalsely : Prop := vecAddsRow.holds Try.pinned (OpenSpec.ofChange vecAddsWrong)

/-- 'fourwatchlaw.VecScales': WHATEVER THE INPUT: true; the input reads as it did. -/
def vecScalesSpec : ChangeSpec := { name := "vecScales", fn := fun _ => fun
  | [d1, d2] => { results := [.lit (.bool true)], args := [d1, d2] }
  | _ => none }
def vecScalesRow : OpenClaim := { program := "ytajhkbdaoakogaa", sum := "59da18fa2f63bcb553be7ff4b5b691177bdda2dd587c463536adb67de0195152", func := "fourwatch/fourwatchlaw.VecScales", spec := "vecScales", inPlace := ["math/bits.Add64"], unfollowed := true, recurses := true, apart := false }
def VecScalesSaid : Prop := vecScalesRow.holds Try.pinned (OpenSpec.ofChange vecScalesSpec)

/-- ITS FALSE NEIGHBOUR: 'it returns false'. Refute it at one input. -/
def vecScalesWrong : ChangeSpec := { name := "vecScales", fn := fun _ => fun
  | [d1, d2] => { results := [.lit (.bool false)], args := [d1, d2] }
  | _ => none }
def VecScalesWrongFalsely : Prop := vecScalesRow.holds Try.pinned (OpenSpec.ofChange vecScalesWrong)

/-- 'fourwatchlaw.VecCrosses': WHATEVER THE INPUT: true; the input reads as it did. -/
def vecCrossesSpec : ChangeSpec := { name := "vecCrosses", fn := fun _ => fun
  | [d1, d2] => { results := [.lit (.bool true)], args := [d1, d2] }
  | _ => none }
def vecCrossesRow : OpenClaim := { program := "ytajhkbdaoakogaa", sum := "59da18fa2f63bcb553be7ff4b5b691177bdda2dd587c463536adb67de0195152", func := "fourwatch/fourwatchlaw.VecCrosses", spec := "vecCrosses", inPlace := ["math/bits.Add64"], unfollowed := true, recurses := true, apart := false }
def VecCrossesSaid : Prop := vecCrossesRow.holds Try.pinned (OpenSpec.ofChange vecCrossesSpec)

/-- ITS FALSE NEIGHBOUR: 'it returns false'. Refute it at one input. -/
def vecCrossesWrong : ChangeSpec := { name := "vecCrosses", fn := fun _ => fun
  | [d1, d2] => { results := [.lit (.bool false)], args := [d1, d2] }
  | _ => none }
def VecCrossesWrongFalsely : Prop := vecCrossesRow.holds Try.pinned (OpenSpec.ofChange vecCrossesWrong)

/-- 'fourwatchlaw.VecLengths': WHATEVER THE INPUT: true; the input reads as it did. -/
def vecLengthsSpec : ChangeSpec := { name := "vecLengths", fn := fun _ => fun
  | [d] => { results := [.lit (.bool true)], args := [d] }
  | _ => none }
def vecLengthsRow : OpenClaim := { program := "ytajhkbdaoakogaa", sum := "59da18fa2f63bcb553be7ff4b5b691177bdda2dd587c463536adb67de0195152", func := "fourwatch/fourwatchlaw.VecLengths", spec := "vecLengths", inPlace := ["math/bits.Add64"], apart := false }
def VecLengthsSaid : Prop := vecLengthsRow.holds Try.pinned (OpenSpec.ofChange vecLengthsSpec)

/-- ITS FALSE NEIGHBOUR: 'it returns false'. Refute it at one input. -/
def vecLengthsWrong : ChangeSpec := { name := "vecLengths", fn := fun _ => fun
  | [d] => { results := [.lit (.bool false)], args := [d] }
  | _ => none }
def VecLengthsWrongFalsely : Prop := vecLengthsRow.holds Try.pinned (OpenSpec.ofChange vecLengthsWrong)

/-- 'fourwatchlaw.FixRoots': WHATEVER THE INPUT: true; the input reads as it did. -/
def fixRootsSpec : ChangeSpec := { name := "fixRoots", fn := fun _ => fun
  | [d] => { results := [.lit (.bool true)], args := [d] }
  | _ => none }
def fixRootsRow : OpenClaim := { program := "ytajhkbdaoakogaa", sum := "59da18fa2f63bcb553be7ff4b5b691177bdda2dd587c463536adb67de0195152", func := "fourwatch/fourwatchlaw.FixRoots", spec := "fixRoots", apart := false }
def FixRootsSaid : Prop := fixRootsRow.holds Try.pinned (OpenSpec.ofChange fixRootsSpec)

/-- ITS FALSE NEIGHBOUR: 'it returns false'. Refute it at one input. -/
def fixRootsWrong : ChangeSpec := { name := "fixRoots", fn := fun _ => fun
  | [d] => { results := [.lit (.bool false)], args := [d] }
  | _ => none }
def FixRootsWrongFalsely : Prop := fixRootsRow.holds Try.pinned (OpenSpec.ofChange fixRootsWrong)

/-- 'fourwatchlaw.MatTimeses': WHATEVER THE INPUT: true; the input reads as it did. -/
def matTimesesSpec : ChangeSpec := { name := "matTimeses", fn := fun _ => fun
  | [d1, d2] => { results := [.lit (.bool true)], args := [d1, d2] }
  | _ => none }
def matTimesesRow : OpenClaim := { program := "ytajhkbdaoakogaa", sum := "59da18fa2f63bcb553be7ff4b5b691177bdda2dd587c463536adb67de0195152", func := "fourwatch/fourwatchlaw.MatTimeses", spec := "matTimeses", inPlace := ["math/bits.Add64"], unfollowed := true, recurses := true, apart := false }
def MatTimesesSaid : Prop := matTimesesRow.holds Try.pinned (OpenSpec.ofChange matTimesesSpec)

/-- ITS FALSE NEIGHBOUR: 'it returns false'. Refute it at one input. -/
def matTimesesWrong : ChangeSpec := { name := "matTimeses", fn := fun _ => fun
  | [d1, d2] => { results := [.lit (.bool false)], args := [d1, d2] }
  | _ => none }
def MatTimesesWrongFalsely : Prop := matTimesesRow.holds Try.pinned (OpenSpec.ofChange matTimesesWrong)

/-- 'fourwatchlaw.MatMuls': WHATEVER THE INPUT: true; the input reads as it did. -/
def matMulsSpec : ChangeSpec := { name := "matMuls", fn := fun _ => fun
  | [d1, d2] => { results := [.lit (.bool true)], args := [d1, d2] }
  | _ => none }
def matMulsRow : OpenClaim := { program := "ytajhkbdaoakogaa", sum := "59da18fa2f63bcb553be7ff4b5b691177bdda2dd587c463536adb67de0195152", func := "fourwatch/fourwatchlaw.MatMuls", spec := "matMuls", inPlace := ["math/bits.Add64"], unfollowed := true, recurses := true, apart := false }
def MatMulsSaid : Prop := matMulsRow.holds Try.pinned (OpenSpec.ofChange matMulsSpec)

/-- ITS FALSE NEIGHBOUR: 'it returns false'. Refute it at one input. -/
def matMulsWrong : ChangeSpec := { name := "matMuls", fn := fun _ => fun
  | [d1, d2] => { results := [.lit (.bool false)], args := [d1, d2] }
  | _ => none }
def MatMulsWrongFalsely : Prop := matMulsRow.holds Try.pinned (OpenSpec.ofChange matMulsWrong)

/-- 'fourwatchlaw.FixTexts': WHATEVER THE INPUT: true; the input reads as it did. -/
def fixTextsSpec : ChangeSpec := { name := "fixTexts", fn := fun _ => fun
  | [d] => { results := [.lit (.bool true)], args := [d] }
  | _ => none }
def fixTextsRow : OpenClaim := { program := "ytajhkbdaoakogaa", sum := "59da18fa2f63bcb553be7ff4b5b691177bdda2dd587c463536adb67de0195152", func := "fourwatch/fourwatchlaw.FixTexts", spec := "fixTexts", apart := false }
def FixTextsSaid : Prop := fixTextsRow.holds Try.pinned (OpenSpec.ofChange fixTextsSpec)

/-- ITS FALSE NEIGHBOUR: 'it returns false'. Refute it at one input. -/
def fixTextsWrong : ChangeSpec := { name := "fixTexts", fn := fun _ => fun
  | [d] => { results := [.lit (.bool false)], args := [d] }
  | _ => none }
def FixTextsWrongFalsely : Prop := fixTextsRow.holds Try.pinned (OpenSpec.ofChange fixTextsWrong)

/-- 'fourwatchlaw.FixReads': WHATEVER THE INPUT: true; the input reads as it did. -/
def fixReadsSpec : ChangeSpec := { name := "fixReads", fn := fun _ => fun
  | [d] => { results := [.lit (.bool true)], args := [d] }
  | _ => none }
def fixReadsRow : OpenClaim := { program := "ytajhkbdaoakogaa", sum := "59da18fa2f63bcb553be7ff4b5b691177bdda2dd587c463536adb67de0195152", func := "fourwatch/fourwatchlaw.FixReads", spec := "fixReads", unfollowed := true, recurses := true, apart := false }
def FixReadsSaid : Prop := fixReadsRow.holds Try.pinned (OpenSpec.ofChange fixReadsSpec)

/-- ITS FALSE NEIGHBOUR: 'it returns false'. Refute it at one input. -/
def fixReadsWrong : ChangeSpec := { name := "fixReads", fn := fun _ => fun
  | [d] => { results := [.lit (.bool false)], args := [d] }
  | _ => none }
def FixReadsWrongFalsely : Prop := fixReadsRow.holds Try.pinned (OpenSpec.ofChange fixReadsWrong)

/- THE SECOND FORM. 'bulk': how many values and letters a reading holds, each counted each time it is reached (what is shared counts as often as it is met; a slice's spare places count too). A statement '..UptoSaid' is the law's where the arguments, and the package variables that the reading takes, are together of bulk at most 1048576: NARROWER than '..Said'. Prove '..Said' where nothing that the law and all that it calls make is longer than what came in: it says more and counts as full. Else prove '..UptoSaid'. A law counts once. -/
mutual
def uptoBulk {H : Type} : DataW H → Nat
  | .lit (.string bytes) => bytes.length + 1
  | .lit _ => 1
  | .nil => 1
  | .ptr d => uptoBulk d + 1
  | .slice elems spare => uptoBulkAll elems + uptoBulkAll spare + 1
  | .agg parts => uptoBulkAll parts + 1
  | .iface _ d => uptoBulk d + 1
  | .map entries => uptoBulkEntries entries + 1
  | .held _ => 1
def uptoBulkAll {H : Type} : List (DataW H) → Nat
  | [] => 0
  | d :: r => uptoBulk d + uptoBulkAll r
def uptoBulkEntries {H : Type} : List (Lit × DataW H) → Nat
  | [] => 0
  | x :: r => uptoBulkEntry x + uptoBulkEntries r
def uptoBulkEntry {H : Type} : Lit × DataW H → Nat
  | (.string bytes, d) => bytes.length + uptoBulk d + 1
  | (_, d) => uptoBulk d + 1
 end
def uptoSmall : (H : Type) → List (DataW H) → Bool := fun _ ds => decide (uptoBulkAll ds ≤ 1048576)
def OpenSpec.upto (s : _root_.Go.ChangeSpec) : _root_.Go.OpenSpec := { _root_.Go.OpenSpec.ofChange s with cond := some uptoSmall }

/-- 'fourwatchlaw.FilterUpdates', WHERE WHAT IT READS IS OF BULK AT MOST 1048576: true; the input reads as it did. -/
def filterUpdatesUptoRow : OpenClaim := { program := "ytajhkbdaoakogaa", sum := "59da18fa2f63bcb553be7ff4b5b691177bdda2dd587c463536adb67de0195152", func := "fourwatch/fourwatchlaw.FilterUpdates", spec := "filterUpdates", inPlace := ["math/bits.Add64"], named := ["math/bits.divideError", "math/bits.overflowError"], apart := false, narrowed := true }
def FilterUpdatesUptoSaid : Prop := filterUpdatesUptoRow.holds Try.pinned (OpenSpec.upto filterUpdatesSpec)

/-- 'fourwatchlaw.FilterSteps', WHERE WHAT IT READS IS OF BULK AT MOST 1048576: true; the input reads as it did. -/
def filterStepsUptoRow : OpenClaim := { program := "ytajhkbdaoakogaa", sum := "59da18fa2f63bcb553be7ff4b5b691177bdda2dd587c463536adb67de0195152", func := "fourwatch/fourwatchlaw.FilterSteps", spec := "filterSteps", inPlace := ["math/bits.Add64"], named := ["math/bits.divideError", "math/bits.overflowError"], apart := false, narrowed := true }
def FilterStepsUptoSaid : Prop := filterStepsUptoRow.holds Try.pinned (OpenSpec.upto filterStepsSpec)

/-- 'fourwatchlaw.FilterRuns', WHERE WHAT IT READS IS OF BULK AT MOST 1048576: true; the input reads as it did. -/
def filterRunsUptoRow : OpenClaim := { program := "ytajhkbdaoakogaa", sum := "59da18fa2f63bcb553be7ff4b5b691177bdda2dd587c463536adb67de0195152", func := "fourwatch/fourwatchlaw.FilterRuns", spec := "filterRuns", inPlace := ["math/bits.Add64"], recurses := true, named := ["math/bits.divideError", "math/bits.overflowError"], apart := false, narrowed := true }
def FilterRunsUptoSaid : Prop := filterRunsUptoRow.holds Try.pinned (OpenSpec.upto filterRunsSpec)

/-- 'fourwatchlaw.VecAdds', WHERE WHAT IT READS IS OF BULK AT MOST 1048576: true; the input reads as it did. -/
def vecAddsUptoRow : OpenClaim := { program := "ytajhkbdaoakogaa", sum := "59da18fa2f63bcb553be7ff4b5b691177bdda2dd587c463536adb67de0195152", func := "fourwatch/fourwatchlaw.VecAdds", spec := "vecAdds", unfollowed := true, recurses := true, apart := false, narrowed := true }
def VecAddsUptoSaid : Prop := vecAddsUptoRow.holds Try.pinned (OpenSpec.upto vecAddsSpec)

/-- 'fourwatchlaw.VecScales', WHERE WHAT IT READS IS OF BULK AT MOST 1048576: true; the input reads as it did. -/
def vecScalesUptoRow : OpenClaim := { program := "ytajhkbdaoakogaa", sum := "59da18fa2f63bcb553be7ff4b5b691177bdda2dd587c463536adb67de0195152", func := "fourwatch/fourwatchlaw.VecScales", spec := "vecScales", inPlace := ["math/bits.Add64"], unfollowed := true, recurses := true, apart := false, narrowed := true }
def VecScalesUptoSaid : Prop := vecScalesUptoRow.holds Try.pinned (OpenSpec.upto vecScalesSpec)

/-- 'fourwatchlaw.VecCrosses', WHERE WHAT IT READS IS OF BULK AT MOST 1048576: true; the input reads as it did. -/
def vecCrossesUptoRow : OpenClaim := { program := "ytajhkbdaoakogaa", sum := "59da18fa2f63bcb553be7ff4b5b691177bdda2dd587c463536adb67de0195152", func := "fourwatch/fourwatchlaw.VecCrosses", spec := "vecCrosses", inPlace := ["math/bits.Add64"], unfollowed := true, recurses := true, apart := false, narrowed := true }
def VecCrossesUptoSaid : Prop := vecCrossesUptoRow.holds Try.pinned (OpenSpec.upto vecCrossesSpec)

/-- 'fourwatchlaw.VecLengths', WHERE WHAT IT READS IS OF BULK AT MOST 1048576: true; the input reads as it did. -/
def vecLengthsUptoRow : OpenClaim := { program := "ytajhkbdaoakogaa", sum := "59da18fa2f63bcb553be7ff4b5b691177bdda2dd587c463536adb67de0195152", func := "fourwatch/fourwatchlaw.VecLengths", spec := "vecLengths", inPlace := ["math/bits.Add64"], apart := false, narrowed := true }
def VecLengthsUptoSaid : Prop := vecLengthsUptoRow.holds Try.pinned (OpenSpec.upto vecLengthsSpec)

/-- 'fourwatchlaw.FixRoots', WHERE WHAT IT READS IS OF BULK AT MOST 1048576: true; the input reads as it did. -/
def fixRootsUptoRow : OpenClaim := { program := "ytajhkbdaoakogaa", sum := "59da18fa2f63bcb553be7ff4b5b691177bdda2dd587c463536adb67de0195152", func := "fourwatch/fourwatchlaw.FixRoots", spec := "fixRoots", apart := false, narrowed := true }
def FixRootsUptoSaid : Prop := fixRootsUptoRow.holds Try.pinned (OpenSpec.upto fixRootsSpec)

/-- 'fourwatchlaw.MatTimeses', WHERE WHAT IT READS IS OF BULK AT MOST 1048576: true; the input reads as it did. -/
def matTimesesUptoRow : OpenClaim := { program := "ytajhkbdaoakogaa", sum := "59da18fa2f63bcb553be7ff4b5b691177bdda2dd587c463536adb67de0195152", func := "fourwatch/fourwatchlaw.MatTimeses", spec := "matTimeses", inPlace := ["math/bits.Add64"], unfollowed := true, recurses := true, apart := false, narrowed := true }
def MatTimesesUptoSaid : Prop := matTimesesUptoRow.holds Try.pinned (OpenSpec.upto matTimesesSpec)

/-- 'fourwatchlaw.MatMuls', WHERE WHAT IT READS IS OF BULK AT MOST 1048576: true; the input reads as it did. -/
def matMulsUptoRow : OpenClaim := { program := "ytajhkbdaoakogaa", sum := "59da18fa2f63bcb553be7ff4b5b691177bdda2dd587c463536adb67de0195152", func := "fourwatch/fourwatchlaw.MatMuls", spec := "matMuls", inPlace := ["math/bits.Add64"], unfollowed := true, recurses := true, apart := false, narrowed := true }
def MatMulsUptoSaid : Prop := matMulsUptoRow.holds Try.pinned (OpenSpec.upto matMulsSpec)

/-- 'fourwatchlaw.FixTexts', WHERE WHAT IT READS IS OF BULK AT MOST 1048576: true; the input reads as it did. -/
def fixTextsUptoRow : OpenClaim := { program := "ytajhkbdaoakogaa", sum := "59da18fa2f63bcb553be7ff4b5b691177bdda2dd587c463536adb67de0195152", func := "fourwatch/fourwatchlaw.FixTexts", spec := "fixTexts", apart := false, narrowed := true }
def FixTextsUptoSaid : Prop := fixTextsUptoRow.holds Try.pinned (OpenSpec.upto fixTextsSpec)

/-- 'fourwatchlaw.FixReads', WHERE WHAT IT READS IS OF BULK AT MOST 1048576: true; the input reads as it did. -/
def fixReadsUptoRow : OpenClaim := { program := "ytajhkbdaoakogaa", sum := "59da18fa2f63bcb553be7ff4b5b691177bdda2dd587c463536adb67de0195152", func := "fourwatch/fourwatchlaw.FixReads", spec := "fixReads", unfollowed := true, recurses := true, apart := false, narrowed := true }
def FixReadsUptoSaid : Prop := fixReadsUptoRow.holds Try.pinned (OpenSpec.upto fixReadsSpec)

end Rows
end Go.Proofs.Ytajhkbdaoakogaa
