/-
  No cell of these rows narrows 'for every input' (looked for: loops, veiled, ifaces, maps, wideKeys, modest, calm, conditions, laid).
  DERIVED. THE GIVEN ROWS OF THIS SEAT. 5 by the template 'for every input the law returns true; each argument reads behind the call as it read before'; 0 by the template 'total and deterministic' (their statements: YtejefecglioifaaTotals.lean).
  GIVEN WITH THE SEED: the statements are not yours to turn. If you find one false, say at which input.
  Laid BY PROGRAM, IN A SANDBOX (cutbox-rows.mjs): the forced cells as the released guide's own fill.sh prints them over the translation 4b0cca172f45e2fe… (all of the seat's roots in one cut). By AI agents, Wed Nov 11 2026. No macro, syntax, notation, axiom, sorry.
-/
import Derived.Test.YtejefecglioifaaChecked
import GoSem.Claim
import GoSem.ClaimJoined
import GoSem.ClaimMapViews
import Derived.JoinedTies
import Derived.KernelRfl
namespace Go.Proofs.Ytejefecglioifaa
/- THE CELL 'sum', in the pinned program and in every row, IS THE sha256 OF THE DUMP (.gsa) THAT YtejefecglioifaaProg.lean LOADS. Nothing in Lean hashes anything: it is a label: what it is worth is what the hold of that sum in a sandbox is worth. -/
noncomputable def Try.pinned : Pinned := { name := "ytejefecglioifaa", sum := "4b0cca172f45e2fe00230fa44405d9edf4dc08a96fb54de61a040e1425dcc3e7", checked := Try.checked }
namespace Rows
def none {H : Type} : Left H := { results := [], args := [] }

/-- 'fourwatchlaw.MatFactors': WHATEVER THE INPUT: true; the input reads as it did. -/
def matFactorsSpec : ChangeSpec := { name := "matFactors", fn := fun _ => fun
  | [d] => { results := [.lit (.bool true)], args := [d] }
  | _ => none }
def matFactorsRow : OpenClaim := { program := "ytejefecglioifaa", sum := "4b0cca172f45e2fe00230fa44405d9edf4dc08a96fb54de61a040e1425dcc3e7", func := "fourwatch/fourwatchlaw.MatFactors", spec := "matFactors", inPlace := ["math/bits.Add64"], unfollowed := true, recurses := true, named := ["math/bits.divideError", "math/bits.overflowError"], apart := false }
def MatFactorsSaid : Prop := matFactorsRow.holds Try.pinned (OpenSpec.ofChange matFactorsSpec)

/-- ITS FALSE NEIGHBOUR: 'it returns false'. Refute it at one input. -/
def matFactorsWrong : ChangeSpec := { name := "matFactors", fn := fun _ => fun
  | [d] => { results := [.lit (.bool false)], args := [d] }
  | _ => none }
def MatFactorsWrongFalsely : Prop := matFactorsRow.holds Try.pinned (OpenSpec.ofChange matFactorsWrong)

/-- 'fourwatchlaw.MatSolves': WHATEVER THE INPUT: true; the input reads as it did. -/
def matSolvesSpec : ChangeSpec := { name := "matSolves", fn := fun _ => fun
  | [d1, d2] => { results := [.lit (.bool true)], args := [d1, d2] }
  | _ => none }
def matSolvesRow : OpenClaim := { program := "ytejefecglioifaa", sum := "4b0cca172f45e2fe00230fa44405d9edf4dc08a96fb54de61a040e1425dcc3e7", func := "fourwatch/fourwatchlaw.MatSolves", spec := "matSolves", inPlace := ["math/bits.Add64"], unfollowed := true, recurses := true, named := ["math/bits.divideError", "math/bits.overflowError"], apart := false }
def MatSolvesSaid : Prop := matSolvesRow.holds Try.pinned (OpenSpec.ofChange matSolvesSpec)

/-- ITS FALSE NEIGHBOUR: 'it returns false'. Refute it at one input. -/
def matSolvesWrong : ChangeSpec := { name := "matSolves", fn := fun _ => fun
  | [d1, d2] => { results := [.lit (.bool false)], args := [d1, d2] }
  | _ => none }
def MatSolvesWrongFalsely : Prop := matSolvesRow.holds Try.pinned (OpenSpec.ofChange matSolvesWrong)

/-- 'fourwatchlaw.MatTimeses': WHATEVER THE INPUT: true; the input reads as it did. -/
def matTimesesSpec : ChangeSpec := { name := "matTimeses", fn := fun _ => fun
  | [d1, d2] => { results := [.lit (.bool true)], args := [d1, d2] }
  | _ => none }
def matTimesesRow : OpenClaim := { program := "ytejefecglioifaa", sum := "4b0cca172f45e2fe00230fa44405d9edf4dc08a96fb54de61a040e1425dcc3e7", func := "fourwatch/fourwatchlaw.MatTimeses", spec := "matTimeses", inPlace := ["math/bits.Add64"], unfollowed := true, recurses := true, apart := false }
def MatTimesesSaid : Prop := matTimesesRow.holds Try.pinned (OpenSpec.ofChange matTimesesSpec)

/-- ITS FALSE NEIGHBOUR: 'it returns false'. Refute it at one input. -/
def matTimesesWrong : ChangeSpec := { name := "matTimeses", fn := fun _ => fun
  | [d1, d2] => { results := [.lit (.bool false)], args := [d1, d2] }
  | _ => none }
def MatTimesesWrongFalsely : Prop := matTimesesRow.holds Try.pinned (OpenSpec.ofChange matTimesesWrong)

/-- 'fourwatchlaw.FilterPredicts': WHATEVER THE INPUT: true; the input reads as it did. -/
def filterPredictsSpec : ChangeSpec := { name := "filterPredicts", fn := fun _ => fun
  | [d1, d2, d3] => { results := [.lit (.bool true)], args := [d1, d2, d3] }
  | _ => none }
def filterPredictsRow : OpenClaim := { program := "ytejefecglioifaa", sum := "4b0cca172f45e2fe00230fa44405d9edf4dc08a96fb54de61a040e1425dcc3e7", func := "fourwatch/fourwatchlaw.FilterPredicts", spec := "filterPredicts", inPlace := ["math/bits.Add64"], apart := false }
def FilterPredictsSaid : Prop := filterPredictsRow.holds Try.pinned (OpenSpec.ofChange filterPredictsSpec)

/-- ITS FALSE NEIGHBOUR: 'it returns false'. Refute it at one input. -/
def filterPredictsWrong : ChangeSpec := { name := "filterPredicts", fn := fun _ => fun
  | [d1, d2, d3] => { results := [.lit (.bool false)], args := [d1, d2, d3] }
  | _ => none }
def FilterPredictsWrongFalsely : Prop := filterPredictsRow.holds Try.pinned (OpenSpec.ofChange filterPredictsWrong)

/-- 'fourwatchlaw.VecDots': WHATEVER THE INPUT: true; the input reads as it did. -/
def vecDotsSpec : ChangeSpec := { name := "vecDots", fn := fun _ => fun
  | [d1, d2] => { results := [.lit (.bool true)], args := [d1, d2] }
  | _ => none }
def vecDotsRow : OpenClaim := { program := "ytejefecglioifaa", sum := "4b0cca172f45e2fe00230fa44405d9edf4dc08a96fb54de61a040e1425dcc3e7", func := "fourwatch/fourwatchlaw.VecDots", spec := "vecDots", inPlace := ["math/bits.Add64"], apart := false }
def VecDotsSaid : Prop := vecDotsRow.holds Try.pinned (OpenSpec.ofChange vecDotsSpec)

/-- ITS FALSE NEIGHBOUR: 'it returns false'. Refute it at one input. -/
def vecDotsWrong : ChangeSpec := { name := "vecDots", fn := fun _ => fun
  | [d1, d2] => { results := [.lit (.bool false)], args := [d1, d2] }
  | _ => none }
def VecDotsWrongFalsely : Prop := vecDotsRow.holds Try.pinned (OpenSpec.ofChange vecDotsWrong)

/- THE SECOND FORM. 'bulk': how many values and letters a reading holds, each counted each time it is reached (what is shared counts as often as it is met; a slice's spare places count too). A statement '..UptoSaid' is the law's where the arguments, and the package variables that the reading takes, are together of bulk at most 1048576: NARROWER than '..Said'. Prove '..Said' where nothing that the law and all that it calls make is longer than what came in: it says more and counts as full. Else prove '..UptoSaid'. A law counts once. -/
mutual
def uptoBulk {H : Type} : DataW H → Nat
  | .lit (.string bytes) => bytes.length + 1
  | .lit _ => 1
  | .nil => 1
  | .ptr d => uptoBulk d + 1
  | .slice elems spare => uptoBulkAll elems + uptoBulkAll spare + 1
  | .agg parts => uptoBulkAll parts + 1
  | .iface _ d => uptoBulk d + 1
  | .map entries => uptoBulkEntries entries + 1
  | .held _ => 1
def uptoBulkAll {H : Type} : List (DataW H) → Nat
  | [] => 0
  | d :: r => uptoBulk d + uptoBulkAll r
def uptoBulkEntries {H : Type} : List (Lit × DataW H) → Nat
  | [] => 0
  | x :: r => uptoBulkEntry x + uptoBulkEntries r
def uptoBulkEntry {H : Type} : Lit × DataW H → Nat
  | (.string bytes, d) => bytes.length + uptoBulk d + 1
  | (_, d) => uptoBulk d + 1
 end
def uptoSmall : (H : Type) → List (DataW H) → Bool := fun _ ds => decide (uptoBulkAll ds ≤ 1048576)
def OpenSpec.upto (s : _root_.Go.ChangeSpec) : _root_.Go.OpenSpec := { _root_.Go.OpenSpec.ofChange s with cond := some uptoSmall }

/-- 'fourwatchlaw.MatFactors', WHERE WHAT IT READS IS OF BULK AT MOST 1048576: true; the input reads as it did. -/
def matFactorsUptoRow : OpenClaim := { program := "ytejefecglioifaa", sum := "4b0cca172f45e2fe00230fa44405d9edf4dc08a96fb54de61a040e1425dcc3e7", func := "fourwatch/fourwatchlaw.MatFactors", spec := "matFactors", inPlace := ["math/bits.Add64"], unfollowed := true, recurses := true, named := ["math/bits.divideError", "math/bits.overflowError"], apart := false, narrowed := true }
def MatFactorsUptoSaid : Prop := matFactorsUptoRow.holds Try.pinned (OpenSpec.upto matFactorsSpec)

/-- 'fourwatchlaw.MatSolves', WHERE WHAT IT READS IS OF BULK AT MOST 1048576: true; the input reads as it did. -/
def matSolvesUptoRow : OpenClaim := { program := "ytejefecglioifaa", sum := "4b0cca172f45e2fe00230fa44405d9edf4dc08a96fb54de61a040e1425dcc3e7", func := "fourwatch/fourwatchlaw.MatSolves", spec := "matSolves", inPlace := ["math/bits.Add64"], unfollowed := true, recurses := true, named := ["math/bits.divideError", "math/bits.overflowError"], apart := false, narrowed := true }
def MatSolvesUptoSaid : Prop := matSolvesUptoRow.holds Try.pinned (OpenSpec.upto matSolvesSpec)

/-- 'fourwatchlaw.MatTimeses', WHERE WHAT IT READS IS OF BULK AT MOST 1048576: true; the input reads as it did. -/
def matTimesesUptoRow : OpenClaim := { program := "ytejefecglioifaa", sum := "4b0cca172f45e2fe00230fa44405d9edf4dc08a96fb54de61a040e1425dcc3e7", func := "fourwatch/fourwatchlaw.MatTimeses", spec := "matTimeses", inPlace := ["math/bits.Add64"], unfollowed := true, recurses := true, apart := false, narrowed := true }
def MatTimesesUptoSaid : Prop := matTimesesUptoRow.holds Try.pinned (OpenSpec.upto matTimesesSpec)

/-- 'fourwatchlaw.FilterPredicts', WHERE WHAT IT READS IS OF BULK AT MOST 1048576: true; the input reads as it did. -/
def filterPredictsUptoRow : OpenClaim := { program := "ytejefecglioifaa", sum := "4b0cca172f45e2fe00230fa44405d9edf4dc08a96fb54de61a040e1425dcc3e7", func := "fourwatch/fourwatchlaw.FilterPredicts", spec := "filterPredicts", inPlace := ["math/bits.Add64"], apart := false, narrowed := true }
def FilterPredictsUptoSaid : Prop := filterPredictsUptoRow.holds Try.pinned (OpenSpec.upto filterPredictsSpec)

/-- 'fourwatchlaw.VecDots', WHERE WHAT IT READS IS OF BULK AT MOST 1048576: true; the input reads as it did. -/
def vecDotsUptoRow : OpenClaim := { program := "ytejefecglioifaa", sum := "4b0cca172f45e2fe00230fa44405d9edf4dc08a96fb54de61a040e1425dcc3e7", func := "fourwatch/fourwatchlaw.VecDots", spec := "vecDots", inPlace := ["math/bits.Add64"], apart := false, narrowed := true }
def VecDotsUptoSaid : Prop := vecDotsUptoRow.holds Try.pinned (OpenSpec.upto vecDotsSpec)

end Rows
end Go.Proofs.Ytejefecglioifaa
