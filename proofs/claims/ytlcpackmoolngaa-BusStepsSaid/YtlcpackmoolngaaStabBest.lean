/- The reference's inner loop: the best of the first k. -/
import Derived.Test.YtlcpackmoolngaaStabEnd
namespace Go.Proofs.Ytlcpackmoolngaa.Ss
open Go.Sort Go.Proofs.Ytlcpackmoolngaa.Stb Go.Proofs.Ytlcpackmoolngaa.Bu
set_option linter.unusedVariables false
variable {β : Type} {k1 k2 : β → Int} {due : β → Bool} {q : List (β × Nat)}

/-- b = -1: none of the first k is due; else the first of the least of them -/
def BestTo (k1 k2 : β → Int) (due : β → Bool) (q : List (β × Nat)) (k : Nat) (b : Int) : Prop :=
  (b = -1 ∧ ∀ j (h : j < q.length), j < k → due q[j].1 = false) ∨
  ∃ i, ∃ hi : i < q.length, b = (i : Int) ∧ i < k ∧ due q[i].1 = true ∧ ∀ j (h : j < q.length), j < k → due q[j].1 = true → (j < i → ltK k1 k2 q[i] q[j] = true) ∧ (i < j → ltK k1 k2 q[j] q[i] = false)
theorem BestTo.zero : BestTo k1 k2 due q 0 (-1) := .inl ⟨rfl, fun j _ h => absurd h (Nat.not_lt_zero _)⟩
theorem BestTo.skip {k : Nat} {b : Int} (h : BestTo k1 k2 due q k b) (hk : k < q.length) (hd : due q[k].1 = false) : BestTo k1 k2 due q (k + 1) b := by
  rcases h with ⟨e, h⟩ | ⟨i, hi, e, hik, hdi, h⟩
  · refine .inl ⟨e, fun j hj hjk => ?_⟩
    by_cases c : j = k
    · subst c; exact hd
    · exact h j hj (by omega)
  · refine .inr ⟨i, hi, e, by omega, hdi, fun j hj hjk hdj => ?_⟩
    by_cases c : j = k
    · subst c; rw [hd] at hdj; cases hdj
    · exact h j hj (by omega) hdj
theorem BestTo.keep {k i : Nat} (h : BestTo k1 k2 due q k (i : Int)) (hi : i < q.length) (hk : k < q.length) (hl : ltK k1 k2 q[k] q[i] = false) : BestTo k1 k2 due q (k + 1) (i : Int) := by
  rcases h with ⟨e, h⟩ | ⟨i', hi', e, hik, hdi, h⟩
  · omega
  · obtain rfl : i = i' := by omega
    refine .inr ⟨i, hi, rfl, by omega, hdi, fun j hj hjk hdj => ?_⟩
    by_cases c : j = k
    · subst c; exact ⟨fun h2 => by omega, fun _ => hl⟩
    · exact h j hj (by omega) hdj
theorem BestTo.first {k : Nat} (h : BestTo k1 k2 due q k (-1)) (hk : k < q.length) (hd : due q[k].1 = true) : BestTo k1 k2 due q (k + 1) (k : Int) := by
  rcases h with ⟨e, h⟩ | ⟨i', hi', e, hik, hdi, h⟩
  · refine .inr ⟨k, hk, rfl, by omega, hd, fun j hj hjk hdj => ?_⟩
    by_cases c : j = k
    · subst c; exact ⟨fun h2 => by omega, fun h2 => by omega⟩
    · rw [h j hj (by omega)] at hdj; cases hdj
  · omega
theorem BestTo.less {k i : Nat} (h : BestTo k1 k2 due q k (i : Int)) (hi : i < q.length) (hk : k < q.length) (hd : due q[k].1 = true) (hl : ltK k1 k2 q[k] q[i] = true) : BestTo k1 k2 due q (k + 1) (k : Int) := by
  rcases h with ⟨e, h⟩ | ⟨i', hi', e, hik, hdi, h⟩
  · omega
  · obtain rfl : i = i' := by omega
    refine .inr ⟨k, hk, rfl, by omega, hd, fun j hj hjk hdj => ⟨fun h2 => ?_, fun h2 => by omega⟩⟩
    by_cases c : j = i
    · subst c; exact hl
    · obtain ⟨g1, g2⟩ := h j hj h2 hdj
      rcases Nat.lt_or_ge j i with c2 | c2
      · have g1 := g1 c2
        simp only [ltK, decide_eq_true_eq] at *
        omega
      · have g2 := g2 (by omega)
        simp only [ltK, decide_eq_true_eq, decide_eq_false_iff_not] at *
        omega
end Go.Proofs.Ytlcpackmoolngaa.Ss
