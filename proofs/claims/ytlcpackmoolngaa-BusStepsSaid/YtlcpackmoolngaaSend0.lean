/- Contracts: bus.Send and the reference's Send. -/
import Derived.Test.YtlcpackmoolngaaSameBus
import Derived.Test.YtlcpackmoolngaaRegR
namespace Go.Proofs.Ytlcpackmoolngaa.Bu
open Go.ChangeShapes Go.WideShapes Go.ChangeAt Go.RowKit Go.Proofs.Ytlcpackmoolngaa.Mem Go.Proofs.Ytlcpackmoolngaa.Op Go.Proofs.Ytlcpackmoolngaa.Sm Go.Proofs.Ytlcpackmoolngaa.Nd Go.Proofs.Ytlcpackmoolngaa.Rws
set_option linter.unusedVariables false
set_option linter.unusedSimpArgs false

def inb (n : Int) : Bool := decide (0 ≤ n ∧ n < 4)
theorem node_any (n : Int) (w : World) : Calls Try.prog 32 #[.int .i64 n] w fun e w' => e = .returned (.bool (inb n)) ∧ w = w' := by
  by_cases h0 : 0 ≤ n
  · by_cases h1 : n < 4
    · have HD := Lib.hid (show inb n = true from decide_eq_true ⟨h0, h1⟩)
      go_enter Try.func32, Try.ntmps32
      go_wp2_with fail
      go_ret
      exact ⟨by rw [HD.out]; rfl, rfl⟩
    · have HD := Lib.hid (show inb n = false from decide_eq_false fun h => h1 h.2)
      have h1 : 4 ≤ n := by omega
      go_enter Try.func32, Try.ntmps32
      go_wp2_with fail
      go_ret
      exact ⟨by rw [HD.out]; rfl, rfl⟩
  · have HD := Lib.hid (show inb n = false from decide_eq_false fun h => h0 h.1)
    have h0 : n < 0 := by omega
    go_enter Try.func32, Try.ntmps32
    go_wp2_with fail
    go_ret
    exact ⟨by rw [HD.out]; rfl, rfl⟩

/-- P11.1: whether the numbers fit -/
def fitsB (now fm ot dl : Int) : Prop := (0 ≤ fm ∧ fm < 4) ∧ (0 ≤ ot ∧ ot < 4) ∧ fm ≠ ot ∧ 0 ≤ dl ∧ dl ≤ 1000 ∧ 0 ≤ now ∧ now ≤ 1099511627776
open Classical in
/-- P11.1: the bus and the error -/
noncomputable def sendR (now ser : Int) (qs : List Parc) (fm ot dl : Int) (bs : List Nat) : Int × Int × List Parc × Int :=
  if ¬ fitsB now fm ot dl then (0, 0, [], 3)
  else if 220 < bs.length then (0, 0, [], 1)
  else if 400 ≤ qs.length then (0, 0, [], 6)
  else (now, IntKind.i64.wrap (ser + 1), qs ++ [⟨fm, ot, now + dl, ser, bs⟩], 0)
def SendAs (w w' : World) (r : Int × Int × List Parc × Int) (e : Ending) : Prop :=
  ∃ A c, e = .returned (.tuple #[.agg #[.int .i64 r.1, .int .i64 r.2.1, .slice A r.2.2.1.length c], .int .i64 r.2.2.2]) ∧ ParcsAt w' w'.heap.size A r.2.2.1 ∧ Below w.heap.size w w'
theorem own_parcs_set {w : World} {base : Nat} {A : Option Addr} {c : Nat} {ps : List Parc} (h : OwnParcs w base A c ps) {g : Nat} {cs : Array Value} (hg : Blk w g 24 cs) (i : Nat) (u : Value) : OwnParcs (w.setCell ⟨g, i, none⟩ u) base A c ps := by
  obtain ⟨xs, ho, hx⟩ := h
  refine ⟨xs, own_set_typed ho hg (by decide) i u, fun j p hp => ?_⟩
  obtain ⟨a, c', h1, h2, h3⟩ := hx j p hp
  exact ⟨a, c', h1, own_set_typed h2 hg (by decide) i u, h3⟩
end Go.Proofs.Ytlcpackmoolngaa.Bu
