/-
  No cell of these rows narrows 'for every input' (looked for: loops, veiled, ifaces, maps, wideKeys, modest, calm, conditions, laid).
  DERIVED. THE GIVEN ROWS OF THIS SEAT. 6 by the template 'for every input the law returns true; each argument reads behind the call as it read before'; 0 by the template 'total and deterministic' (their statements: YtobigbnmbnhikaaTotals.lean).
  GIVEN WITH THE SEED: the statements are not yours to turn. If you find one false, say at which input.
  Laid BY PROGRAM, IN A SANDBOX (cutbox-rows.mjs): the forced cells as the released guide's own fill.sh prints them over the translation b0c7a8a805cc868c… (all of the seat's roots in one cut). By AI agents, Wed Nov 11 2026. No macro, syntax, notation, axiom, sorry.
-/
import Derived.Test.YtobigbnmbnhikaaChecked
import GoSem.Claim
import GoSem.ClaimJoined
import GoSem.ClaimMapViews
import Derived.JoinedTies
import Derived.KernelRfl
namespace Go.Proofs.Ytobigbnmbnhikaa
/- THE CELL 'sum', in the pinned program and in every row, IS THE sha256 OF THE DUMP (.gsa) THAT YtobigbnmbnhikaaProg.lean LOADS. Nothing in Lean hashes anything: it is a label: what it is worth is what the hold of that sum in a sandbox is worth. -/
noncomputable def Try.pinned : Pinned := { name := "ytobigbnmbnhikaa", sum := "b0c7a8a805cc868c0b249215429c3f65042d49b0793a7f15c5b2fca650568759", checked := Try.checked }
namespace Rows
def none {H : Type} : Left H := { results := [], args := [] }

/-- 'fourwatchtop.TopSame': WHATEVER THE INPUT: true; the input reads as it did. -/
def topSameSpec : ChangeSpec := { name := "topSame", fn := fun _ => fun
  | [d1, d2, d3] => { results := [.lit (.bool true)], args := [d1, d2, d3] }
  | _ => none }
def topSameRow : OpenClaim := { program := "ytobigbnmbnhikaa", sum := "b0c7a8a805cc868c0b249215429c3f65042d49b0793a7f15c5b2fca650568759", func := "fourwatch/fourwatchtop.TopSame", spec := "topSame", inPlace := ["math/bits.Add64"], unfollowed := true, recurses := true, named := ["math/bits.divideError", "math/bits.overflowError"], plainKeys := false, apart := false }
def TopSameSaid : Prop := topSameRow.holds Try.pinned (OpenSpec.ofChange topSameSpec)

/-- ITS FALSE NEIGHBOUR: 'it returns false'. Refute it at one input. -/
def topSameWrong : ChangeSpec := { name := "topSame", fn := fun _ => fun
  | [d1, d2, d3] => { results := [.lit (.bool false)], args := [d1, d2, d3] }
  | _ => none }
def TopSameWrongFalsely : Prop := topSameRow.holds Try.pinned (OpenSpec.ofChange topSameWrong)

/-- 'fourwatchtop.TopWithin': WHATEVER THE INPUT: true; the input reads as it did. -/
def topWithinSpec : ChangeSpec := { name := "topWithin", fn := fun _ => fun
  | [d1, d2, d3] => { results := [.lit (.bool true)], args := [d1, d2, d3] }
  | _ => none }
def topWithinRow : OpenClaim := { program := "ytobigbnmbnhikaa", sum := "b0c7a8a805cc868c0b249215429c3f65042d49b0793a7f15c5b2fca650568759", func := "fourwatch/fourwatchtop.TopWithin", spec := "topWithin", inPlace := ["math/bits.Add64"], unfollowed := true, recurses := true, named := ["math/bits.divideError", "math/bits.overflowError"], plainKeys := false, apart := false }
def TopWithinSaid : Prop := topWithinRow.holds Try.pinned (OpenSpec.ofChange topWithinSpec)

/-- ITS FALSE NEIGHBOUR: 'it returns false'. Refute it at one input. -/
def topWithinWrong : ChangeSpec := { name := "topWithin", fn := fun _ => fun
  | [d1, d2, d3] => { results := [.lit (.bool false)], args := [d1, d2, d3] }
  | _ => none }
def TopWithinWrongFalsely : Prop := topWithinRow.holds Try.pinned (OpenSpec.ofChange topWithinWrong)

/-- 'fourwatchtop.TopReports': WHATEVER THE INPUT: true; the input reads as it did. -/
def topReportsSpec : ChangeSpec := { name := "topReports", fn := fun _ => fun
  | [d1, d2, d3] => { results := [.lit (.bool true)], args := [d1, d2, d3] }
  | _ => none }
def topReportsRow : OpenClaim := { program := "ytobigbnmbnhikaa", sum := "b0c7a8a805cc868c0b249215429c3f65042d49b0793a7f15c5b2fca650568759", func := "fourwatch/fourwatchtop.TopReports", spec := "topReports", inPlace := ["math/bits.Add64"], unfollowed := true, recurses := true, named := ["math/bits.divideError", "math/bits.overflowError"], plainKeys := false, apart := false }
def TopReportsSaid : Prop := topReportsRow.holds Try.pinned (OpenSpec.ofChange topReportsSpec)

/-- ITS FALSE NEIGHBOUR: 'it returns false'. Refute it at one input. -/
def topReportsWrong : ChangeSpec := { name := "topReports", fn := fun _ => fun
  | [d1, d2, d3] => { results := [.lit (.bool false)], args := [d1, d2, d3] }
  | _ => none }
def TopReportsWrongFalsely : Prop := topReportsRow.holds Try.pinned (OpenSpec.ofChange topReportsWrong)

/-- 'fourwatchtop.TopNoise': WHATEVER THE INPUT: true; the input reads as it did. -/
def topNoiseSpec : ChangeSpec := { name := "topNoise", fn := fun _ => fun
  | [d1, d2, d3] => { results := [.lit (.bool true)], args := [d1, d2, d3] }
  | _ => none }
def topNoiseRow : OpenClaim := { program := "ytobigbnmbnhikaa", sum := "b0c7a8a805cc868c0b249215429c3f65042d49b0793a7f15c5b2fca650568759", func := "fourwatch/fourwatchtop.TopNoise", spec := "topNoise", inPlace := ["math/bits.Add64"], unfollowed := true, recurses := true, named := ["math/bits.divideError", "math/bits.overflowError"], plainKeys := false, apart := false }
def TopNoiseSaid : Prop := topNoiseRow.holds Try.pinned (OpenSpec.ofChange topNoiseSpec)

/-- ITS FALSE NEIGHBOUR: 'it returns false'. Refute it at one input. -/
def topNoiseWrong : ChangeSpec := { name := "topNoise", fn := fun _ => fun
  | [d1, d2, d3] => { results := [.lit (.bool false)], args := [d1, d2, d3] }
  | _ => none }
def TopNoiseWrongFalsely : Prop := topNoiseRow.holds Try.pinned (OpenSpec.ofChange topNoiseWrong)

/-- 'fourwatchtop.TopBack': WHATEVER THE INPUT: true; the input reads as it did. -/
def topBackSpec : ChangeSpec := { name := "topBack", fn := fun _ => fun
  | [d1, d2, d3, d4] => { results := [.lit (.bool true)], args := [d1, d2, d3, d4] }
  | _ => none }
def topBackRow : OpenClaim := { program := "ytobigbnmbnhikaa", sum := "b0c7a8a805cc868c0b249215429c3f65042d49b0793a7f15c5b2fca650568759", func := "fourwatch/fourwatchtop.TopBack", spec := "topBack", inPlace := ["math/bits.Add64"], unfollowed := true, recurses := true, named := ["math/bits.divideError", "math/bits.overflowError"], plainKeys := false, apart := false }
def TopBackSaid : Prop := topBackRow.holds Try.pinned (OpenSpec.ofChange topBackSpec)

/-- ITS FALSE NEIGHBOUR: 'it returns false'. Refute it at one input. -/
def topBackWrong : ChangeSpec := { name := "topBack", fn := fun _ => fun
  | [d1, d2, d3, d4] => { results := [.lit (.bool false)], args := [d1, d2, d3, d4] }
  | _ => none }
def TopBackWrongFalsely : Prop := topBackRow.holds Try.pinned (OpenSpec.ofChange topBackWrong)

/-- 'fourwatchtop.TopRun': WHATEVER THE INPUT: true; the input reads as it did. -/
def topRunSpec : ChangeSpec := { name := "topRun", fn := fun _ => fun
  | [d1, d2, d3] => { results := [.lit (.bool true)], args := [d1, d2, d3] }
  | _ => none }
def topRunRow : OpenClaim := { program := "ytobigbnmbnhikaa", sum := "b0c7a8a805cc868c0b249215429c3f65042d49b0793a7f15c5b2fca650568759", func := "fourwatch/fourwatchtop.TopRun", spec := "topRun", inPlace := ["math/bits.Add64"], unfollowed := true, recurses := true, named := ["math/bits.divideError", "math/bits.overflowError"], plainKeys := false, apart := false }
def TopRunSaid : Prop := topRunRow.holds Try.pinned (OpenSpec.ofChange topRunSpec)

/-- ITS FALSE NEIGHBOUR: 'it returns false'. Refute it at one input. -/
def topRunWrong : ChangeSpec := { name := "topRun", fn := fun _ => fun
  | [d1, d2, d3] => { results := [.lit (.bool false)], args := [d1, d2, d3] }
  | _ => none }
def TopRunWrongFalsely : Prop := topRunRow.holds Try.pinned (OpenSpec.ofChange topRunWrong)

/- THE SECOND FORM. 'bulk': how many values and letters a reading holds, each counted each time it is reached (what is shared counts as often as it is met; a slice's spare places count too). A statement '..UptoSaid' is the law's where the arguments, and the package variables that the reading takes, are together of bulk at most 1048576: NARROWER than '..Said'. Prove '..Said' where nothing that the law and all that it calls make is longer than what came in: it says more and counts as full. Else prove '..UptoSaid'. A law counts once. -/
mutual
def uptoBulk {H : Type} : DataW H → Nat
  | .lit (.string bytes) => bytes.length + 1
  | .lit _ => 1
  | .nil => 1
  | .ptr d => uptoBulk d + 1
  | .slice elems spare => uptoBulkAll elems + uptoBulkAll spare + 1
  | .agg parts => uptoBulkAll parts + 1
  | .iface _ d => uptoBulk d + 1
  | .map entries => uptoBulkEntries entries + 1
  | .held _ => 1
def uptoBulkAll {H : Type} : List (DataW H) → Nat
  | [] => 0
  | d :: r => uptoBulk d + uptoBulkAll r
def uptoBulkEntries {H : Type} : List (Lit × DataW H) → Nat
  | [] => 0
  | x :: r => uptoBulkEntry x + uptoBulkEntries r
def uptoBulkEntry {H : Type} : Lit × DataW H → Nat
  | (.string bytes, d) => bytes.length + uptoBulk d + 1
  | (_, d) => uptoBulk d + 1
 end
def uptoSmall : (H : Type) → List (DataW H) → Bool := fun _ ds => decide (uptoBulkAll ds ≤ 1048576)
def OpenSpec.upto (s : _root_.Go.ChangeSpec) : _root_.Go.OpenSpec := { _root_.Go.OpenSpec.ofChange s with cond := some uptoSmall }

/-- 'fourwatchtop.TopSame', WHERE WHAT IT READS IS OF BULK AT MOST 1048576: true; the input reads as it did. -/
def topSameUptoRow : OpenClaim := { program := "ytobigbnmbnhikaa", sum := "b0c7a8a805cc868c0b249215429c3f65042d49b0793a7f15c5b2fca650568759", func := "fourwatch/fourwatchtop.TopSame", spec := "topSame", inPlace := ["math/bits.Add64"], unfollowed := true, recurses := true, named := ["math/bits.divideError", "math/bits.overflowError"], plainKeys := false, apart := false, narrowed := true }
def TopSameUptoSaid : Prop := topSameUptoRow.holds Try.pinned (OpenSpec.upto topSameSpec)

/-- 'fourwatchtop.TopWithin', WHERE WHAT IT READS IS OF BULK AT MOST 1048576: true; the input reads as it did. -/
def topWithinUptoRow : OpenClaim := { program := "ytobigbnmbnhikaa", sum := "b0c7a8a805cc868c0b249215429c3f65042d49b0793a7f15c5b2fca650568759", func := "fourwatch/fourwatchtop.TopWithin", spec := "topWithin", inPlace := ["math/bits.Add64"], unfollowed := true, recurses := true, named := ["math/bits.divideError", "math/bits.overflowError"], plainKeys := false, apart := false, narrowed := true }
def TopWithinUptoSaid : Prop := topWithinUptoRow.holds Try.pinned (OpenSpec.upto topWithinSpec)

/-- 'fourwatchtop.TopReports', WHERE WHAT IT READS IS OF BULK AT MOST 1048576: true; the input reads as it did. -/
def topReportsUptoRow : OpenClaim := { program := "ytobigbnmbnhikaa", sum := "b0c7a8a805cc868c0b249215429c3f65042d49b0793a7f15c5b2fca650568759", func := "fourwatch/fourwatchtop.TopReports", spec := "topReports", inPlace := ["math/bits.Add64"], unfollowed := true, recurses := true, named := ["math/bits.divideError", "math/bits.overflowError"], plainKeys := false, apart := false, narrowed := true }
def TopReportsUptoSaid : Prop := topReportsUptoRow.holds Try.pinned (OpenSpec.upto topReportsSpec)

/-- 'fourwatchtop.TopNoise', WHERE WHAT IT READS IS OF BULK AT MOST 1048576: true; the input reads as it did. -/
def topNoiseUptoRow : OpenClaim := { program := "ytobigbnmbnhikaa", sum := "b0c7a8a805cc868c0b249215429c3f65042d49b0793a7f15c5b2fca650568759", func := "fourwatch/fourwatchtop.TopNoise", spec := "topNoise", inPlace := ["math/bits.Add64"], unfollowed := true, recurses := true, named := ["math/bits.divideError", "math/bits.overflowError"], plainKeys := false, apart := false, narrowed := true }
def TopNoiseUptoSaid : Prop := topNoiseUptoRow.holds Try.pinned (OpenSpec.upto topNoiseSpec)

/-- 'fourwatchtop.TopBack', WHERE WHAT IT READS IS OF BULK AT MOST 1048576: true; the input reads as it did. -/
def topBackUptoRow : OpenClaim := { program := "ytobigbnmbnhikaa", sum := "b0c7a8a805cc868c0b249215429c3f65042d49b0793a7f15c5b2fca650568759", func := "fourwatch/fourwatchtop.TopBack", spec := "topBack", inPlace := ["math/bits.Add64"], unfollowed := true, recurses := true, named := ["math/bits.divideError", "math/bits.overflowError"], plainKeys := false, apart := false, narrowed := true }
def TopBackUptoSaid : Prop := topBackUptoRow.holds Try.pinned (OpenSpec.upto topBackSpec)

/-- 'fourwatchtop.TopRun', WHERE WHAT IT READS IS OF BULK AT MOST 1048576: true; the input reads as it did. -/
def topRunUptoRow : OpenClaim := { program := "ytobigbnmbnhikaa", sum := "b0c7a8a805cc868c0b249215429c3f65042d49b0793a7f15c5b2fca650568759", func := "fourwatch/fourwatchtop.TopRun", spec := "topRun", inPlace := ["math/bits.Add64"], unfollowed := true, recurses := true, named := ["math/bits.divideError", "math/bits.overflowError"], plainKeys := false, apart := false, narrowed := true }
def TopRunUptoSaid : Prop := topRunUptoRow.holds Try.pinned (OpenSpec.upto topRunSpec)

end Rows
end Go.Proofs.Ytobigbnmbnhikaa
