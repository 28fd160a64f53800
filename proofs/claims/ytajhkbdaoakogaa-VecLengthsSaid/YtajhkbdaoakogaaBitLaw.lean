/- One bit of a word and of a number in words: plain law. -/
import Derived.Test.YtajhkbdaoakogaaBigT
namespace Go.Proofs.Ytajhkbdaoakogaa.BigW
open Go.RowKit Go.Proofs.Ytajhkbdaoakogaa.Mem Go.Proofs.Ytajhkbdaoakogaa.BigLaw
set_option linter.unusedVariables false

theorem word_mod {l : List Nat} (hs : small l) (k r : Nat) (hr : r < 32) (h : val l % 2 ^ (32 * k + r + 1) = 0) : l.getD k 0 % 2 ^ (r + 1) = 0 := by
  rcases Nat.lt_or_ge k l.length with hk | hk
  · obtain ⟨R, hR⟩ := valF_at (fun i => l.getD i 0) k (l.length - (k + 1))
    rw [show k + 1 + (l.length - (k + 1)) = l.length by omega, valF_val (Nat.le_refl _)] at hR
    have hlt : valF (fun i => l.getD i 0) k < pw k := valF_lt fun i _ => getD_lt hs i
    have hp := pw_pos k
    have e1 : val l / pw k = l.getD k 0 + 4294967296 * R := by
      rw [hR, Nat.add_mul_div_left _ _ hp, Nat.div_eq_of_lt hlt, Nat.zero_add]
    obtain ⟨q, hq⟩ := Nat.dvd_of_mod_eq_zero h
    rw [show 32 * k + r + 1 = 32 * k + (r + 1) by omega, Nat.pow_add, ← pw_two, Nat.mul_assoc] at hq
    rw [hq, Nat.mul_div_cancel_left _ hp] at e1
    have e2 : (4294967296 : Nat) = 2 ^ (r + 1) * 2 ^ (31 - r) := by
      rw [← Nat.pow_add, show r + 1 + (31 - r) = 32 by omega]
    rw [e2, Nat.mul_assoc] at e1
    have h3 : (2 ^ (r + 1) * q) % 2 ^ (r + 1) = 0 := Nat.mul_mod_right _ _
    rw [e1, Nat.add_mul_mod_self_left] at h3
    exact h3
  · rw [getD_out hk, Nat.zero_mod]
theorem bit_off {x r : Nat} (h : x % 2 ^ (r + 1) = 0) : x.testBit r = false := by
  have h1 : (x % 2 ^ (r + 1)).testBit r = (decide (r < r + 1) && x.testBit r) := Nat.testBit_mod_two_pow x (r + 1) r
  rw [h, decide_eq_true (by omega), Bool.true_and, Nat.zero_testBit] at h1
  exact h1.symm
theorem andNot_keep {x r : Nat} (hx : x < 4294967296) (hr : r < 32) (h : x % 2 ^ (r + 1) = 0) : x &&& (4294967295 - 2 ^ r) = x := by
  have hb := bit_off h
  have hp : 2 ^ r < 2 ^ 32 := Nat.pow_lt_pow_right (by omega) hr
  apply Nat.eq_of_testBit_eq
  intro i
  rw [Nat.testBit_and]
  cases hi : x.testBit i with
  | false => rfl
  | true =>
    have h32 : i < 32 := by
      rcases Nat.lt_or_ge i 32 with h1 | h1
      · exact h1
      · have : x < 2 ^ i := Nat.lt_of_lt_of_le hx (Nat.pow_le_pow_right (by omega) h1 : 2 ^ 32 ≤ 2 ^ i)
        rw [Nat.testBit_lt_two_pow this] at hi
        cases hi
    have hne : r ≠ i := fun e => by subst e; rw [hb] at hi; cases hi
    rw [show 4294967295 - 2 ^ r = 2 ^ 32 - (2 ^ r + 1) by omega, Nat.testBit_two_pow_sub_succ hp, Nat.testBit_two_pow, decide_eq_true h32, decide_eq_false hne]
    rfl
theorem hor_nat {x r T : Nat} (hx : x < 4294967296) (hT : T < 4294967296) (h2 : 2 ^ r = T) (hr : r < 32) (h : x % 2 ^ (r + 1) = 0) : x ||| T = x + T := by
  rw [Nat.or_comm, ← h2, or_low (2 ^ r) x (r + 1) (Nat.pow_lt_pow_right (by omega) (by omega)) h]
theorem valF_bump (f : Nat → Nat) (k c : Nat) : ∀ n, valF (fun i => f i + if i = k then c else 0) n = valF f n + if k < n then c * pw k else 0
  | 0 => by rw [if_neg (by omega)]; rfl
  | n + 1 => by
    rw [valF_succ, valF_succ, valF_bump f k c n, Nat.add_mul]
    by_cases h : n = k
    · subst h
      rw [if_pos rfl, if_neg (by omega), if_pos (by omega)]; omega
    · rw [if_neg h, Nat.zero_mul]
      by_cases h2 : k < n
      · rw [if_pos h2, if_pos (by omega)]; omega
      · rw [if_neg h2, if_neg (by omega)]; omega
end Go.Proofs.Ytajhkbdaoakogaa.BigW
