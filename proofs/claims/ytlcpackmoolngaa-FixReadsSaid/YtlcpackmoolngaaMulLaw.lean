/- The product of words: what its steps come to. No program in sight. -/
import Derived.Test.YtlcpackmoolngaaKnuthLaw
namespace Go.Proofs.Ytlcpackmoolngaa.BigLaw

/-! ### adding a number by one word to what is there -/
def macC (f g : Nat → Nat) (x : Nat) : Nat → Nat
  | 0 => 0
  | j + 1 => (macC f g x j + (x * g j + f j)) / 4294967296
def macD (f g : Nat → Nat) (x j : Nat) : Nat := (macC f g x j + (x * g j + f j)) % 4294967296
theorem macD_lt (f g : Nat → Nat) (x j : Nat) : macD f g x j < 4294967296 := Nat.mod_lt _ (by omega)
theorem mac_room {c x y f : Nat} (hc : c < 4294967296) (hx : x < 4294967296) (hy : y < 4294967296) (hf : f < 4294967296) : c + (x * y + f) < 18446744073709551616 := by
  have := mul_le_word (x := x) (y := y) (by omega) (by omega)
  omega
theorem macC_lt {f g : Nat → Nat} {x : Nat} (hx : x < 4294967296) (hg : ∀ i, g i < 4294967296) (hf : ∀ i, f i < 4294967296) : ∀ j, macC f g x j < 4294967296
  | 0 => by simp [macC]
  | j + 1 => by
    have ih := macC_lt hx hg hf j
    have := mac_room ih hx (hg j) (hf j)
    unfold macC
    omega
theorem mac_law (f g : Nat → Nat) (x : Nat) : ∀ k, valF (macD f g x) k + macC f g x k * pw k = x * valF g k + valF f k
  | 0 => by simp [valF, macC]
  | k + 1 => by
    have ih := mac_law f g x k
    unfold valF
    have e1 : macC f g x (k + 1) * pw (k + 1) + macD f g x k * pw k = (macC f g x k + (x * g k + f k)) * pw k := by
      show (macC f g x k + (x * g k + f k)) / 4294967296 * pw (k + 1) + (macC f g x k + (x * g k + f k)) % 4294967296 * pw k = _
      rw [pw_succ, ← Nat.mul_assoc, ← Nat.add_mul]
      congr 1
      omega
    rw [Nat.add_mul, Nat.add_mul] at e1
    rw [Nat.mul_add, ← Nat.mul_assoc]
    omega

/-- the words behind one round -/
def mulF (f g : Nat → Nat) (x k n p : Nat) : Nat := if p < k then f p else if p < k + n then macD (fun i => f (k + i)) g x (p - k) else if p = k + n then macC (fun i => f (k + i)) g x n else f p
theorem mulF_lt {f g : Nat → Nat} {x k n : Nat} (hx : x < 4294967296) (hg : ∀ i, g i < 4294967296) (hf : ∀ i, f i < 4294967296) (p : Nat) : mulF f g x k n p < 4294967296 := by
  unfold mulF
  have h1 := hf p
  have h2 := macD_lt (fun i => f (k + i)) g x (p - k)
  have h3 := macC_lt (f := fun i => f (k + i)) hx hg (fun i => hf _) n
  (repeat' split) <;> assumption
theorem mulF_val (f g : Nat → Nat) (x k n : Nat) : valF (mulF f g x k n) (k + 1 + n) = valF f (k + n) + x * valF g n * pw k := by
  rw [show k + 1 + n = k + (n + 1) by omega, valF_add, valF_add f, valF_succ]
  have e1 : valF (mulF f g x k n) k = valF f k := valF_congr fun i hi => by unfold mulF; rw [if_pos hi]
  have e2 : valF (fun i => mulF f g x k n (k + i)) n = valF (macD (fun i => f (k + i)) g x) n := valF_congr fun i hi => by
    show mulF f g x k n (k + i) = _
    unfold mulF; rw [if_neg (by omega), if_pos (by omega), show k + i - k = i by omega]
  have e3 : mulF f g x k n (k + n) = macC (fun i => f (k + i)) g x n := by
    unfold mulF; rw [if_neg (by omega), if_neg (by omega), if_pos rfl]
  rw [e1, e2, e3, mac_law, Nat.add_mul]
  omega
theorem mulF_out {f g : Nat → Nat} {x k n : Nat} (h : ∀ p, k + n ≤ p → f p = 0) (p : Nat) (hp : k + 1 + n ≤ p) : mulF f g x k n p = 0 := by
  unfold mulF
  rw [if_neg (by omega), if_neg (by omega), if_neg (by omega)]
  exact h p (by omega)
end Go.Proofs.Ytlcpackmoolngaa.BigLaw
