/- The roll's cells of a computer, laid anew. -/
import Derived.Test.YtjfllpmiajkenaaStepF
import Derived.Test.YtjfllpmiajkenaaSameN
namespace Go.Proofs.Ytjfllpmiajkenaa.Nd
open Go.RowKit Go.Proofs.Ytjfllpmiajkenaa.Mem Go.Proofs.Ytjfllpmiajkenaa.Rws Go.Proofs.Ytjfllpmiajkenaa.Flat
set_option linter.unusedVariables false

def rollW (f : Nat → Value) (r : RS) (i : Nat) : Value := if 27 ≤ i ∧ i < 39 then rollF r.f r.m r.j (i - 27) else f i
theorem ok_rollW {f : Nat → Value} (hf : ∀ i, i < 73 → okT (nodeT i) (f i)) (r : RS) : ∀ i, i < 73 → okT (nodeT i) (rollW f r i) := fun i hi => by
  unfold rollW
  by_cases h : 27 ≤ i ∧ i < 39
  · rw [if_pos h]
    unfold rollF
    by_cases h1 : i - 27 < 4
    · rw [if_pos h1]
      obtain rfl | rfl | rfl | rfl : i = 27 ∨ i = 28 ∨ i = 29 ∨ i = 30 := by omega
      all_goals exact ⟨_, rfl⟩
    · rw [if_neg h1]
      have e : nodeT i = true := by unfold nodeT; simp; omega
      rw [e]
      split
      · exact ⟨_, rfl⟩
      · exact ⟨_, rfl⟩
  · rw [if_neg h]; exact hf i hi
theorem roll_store (f : Nat → Value) (r : RS) (S : Value) : row 74 (over 27 12 (rollF r.f r.m r.j) (nodeW f S)) = row 74 (nodeW (rollW f r) S) := row_congr fun i hi => by
  unfold over nodeW rollW
  by_cases h : 27 ≤ i ∧ i < 39
  · rw [if_pos h, if_neg (by omega), if_pos h]
  · rw [if_neg h, if_neg h]
end Go.Proofs.Ytjfllpmiajkenaa.Nd
