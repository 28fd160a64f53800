/- A root rounded down, bit by bit: plain law. -/
import Derived.Test.YtajhkbdaoakogaaBigB
namespace Go.Proofs.Ytajhkbdaoakogaa.BigLaw
set_option linter.unusedVariables false

/-- r is the root of N, rounded down -/
def IsRoot (N r : Nat) : Prop := r * r ≤ N ∧ N < (r + 1) * (r + 1)
theorem root_le {N r s : Nat} (h : IsRoot N r) (k : IsRoot N s) : r ≤ s := by
  rcases Nat.lt_or_ge s r with h1 | h1
  · have h2 : (s + 1) * (s + 1) ≤ r * r := Nat.mul_le_mul h1 h1
    have h3 := h.1
    have h4 := k.2
    omega
  · exact h1
theorem root_one {N r s : Nat} (h : IsRoot N r) (k : IsRoot N s) : r = s := Nat.le_antisymm (root_le h k) (root_le k h)
/-- the bits of the root down to number k are found -/
def RootAt (N r k : Nat) : Prop := r % 2 ^ k = 0 ∧ r * r ≤ N ∧ N < (r + 2 ^ k) * (r + 2 ^ k)
theorem rootAt_zero {N k : Nat} (h : N < 2 ^ (2 * k)) : RootAt N 0 k := ⟨Nat.zero_mod _, Nat.zero_le _, by
  rw [Nat.zero_add, ← Nat.pow_add, ← Nat.two_mul]; exact h⟩
theorem rootAt_end {N r : Nat} (h : RootAt N r 0) : IsRoot N r := ⟨h.2.1, h.2.2⟩
theorem rootAt_yes {N r k : Nat} (h : RootAt N r (k + 1)) (ht : (r + 2 ^ k) * (r + 2 ^ k) ≤ N) : RootAt N (r + 2 ^ k) k := by
  obtain ⟨h1, h2, h3⟩ := h
  refine ⟨?_, ht, ?_⟩
  · have : 2 ^ (k + 1) = 2 ^ k * 2 := Nat.pow_succ 2 k
    obtain ⟨q, hq⟩ := Nat.dvd_of_mod_eq_zero h1
    rw [hq, this, show 2 ^ k * 2 * q + 2 ^ k = 2 ^ k * (2 * q + 1) by rw [Nat.mul_add, Nat.mul_assoc]; omega]
    exact Nat.mul_mod_right _ _
  · rw [show r + 2 ^ k + 2 ^ k = r + 2 ^ (k + 1) by rw [Nat.pow_succ]; omega]; exact h3
theorem rootAt_no {N r k : Nat} (h : RootAt N r (k + 1)) (ht : ¬ (r + 2 ^ k) * (r + 2 ^ k) ≤ N) : RootAt N r k := by
  obtain ⟨h1, h2, h3⟩ := h
  refine ⟨?_, h2, by omega⟩
  have : 2 ^ (k + 1) = 2 ^ k * 2 := Nat.pow_succ 2 k
  obtain ⟨q, hq⟩ := Nat.dvd_of_mod_eq_zero h1
  rw [hq, this, Nat.mul_assoc]
  exact Nat.mul_mod_right _ _
theorem rootAt_or {N r k : Nat} (h : RootAt N r (k + 1)) : r ||| 2 ^ k = r + 2 ^ k := by
  rw [Nat.or_comm]
  exact BigW.or_low (2 ^ k) r (k + 1) (Nat.pow_lt_pow_right (by omega) (by omega)) h.1
theorem rootAt_lt {N r k m : Nat} (h : RootAt N r k) (hN : N < 2 ^ (2 * m)) : r < 2 ^ m := by
  rcases Nat.lt_or_ge r (2 ^ m) with h1 | h1
  · exact h1
  · have h2 : 2 ^ m * 2 ^ m ≤ r * r := Nat.mul_le_mul h1 h1
    rw [← Nat.pow_add, ← Nat.two_mul] at h2
    have := h.2.1
    omega
theorem rootAt_room {N r k m : Nat} (h : RootAt N r (k + 1)) (hN : N < 2 ^ (2 * m)) (hk : k < m) : r + 2 ^ k < 2 ^ m := by
  have h1 := rootAt_lt h hN
  have h2 : 2 ^ m = 2 ^ (k + 1) * 2 ^ (m - (k + 1)) := by rw [← Nat.pow_add]; congr 1; omega
  obtain ⟨q, hq⟩ := Nat.dvd_of_mod_eq_zero h.1
  rw [hq, h2] at h1
  have h3 : q < 2 ^ (m - (k + 1)) := Nat.lt_of_mul_lt_mul_left h1
  have h4 : 2 ^ (k + 1) * (q + 1) ≤ 2 ^ (k + 1) * 2 ^ (m - (k + 1)) := Nat.mul_le_mul_left _ h3
  have h5 : 2 ^ (k + 1) = 2 ^ k * 2 := Nat.pow_succ 2 k
  have h6 : 0 < 2 ^ k := Nat.two_pow_pos k
  rw [Nat.mul_add, Nat.mul_one] at h4
  rw [hq, h2]
  omega
/-- a product in two words against a number in two words -/
theorem two_words {P N hi lo : Nat} (hN : N = hi * 18446744073709551616 + lo) (hlo : lo < 18446744073709551616) :
    (P / 18446744073709551616 < hi ∨ P / 18446744073709551616 = hi ∧ P % 18446744073709551616 ≤ lo) ↔ P ≤ N := by
  have h1 := Nat.div_add_mod P 18446744073709551616
  have h2 := Nat.mod_lt P (show 18446744073709551616 > 0 by omega)
  omega
end Go.Proofs.Ytajhkbdaoakogaa.BigLaw
