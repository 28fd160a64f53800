/- Words moved to the right, and words divided by one word: what their steps come to. No program in sight. -/
import Derived.Test.YtlcpackmoolngaaKnuthLaw
namespace Go.Proofs.Ytlcpackmoolngaa.BigLaw

/-! ### moving to the right -/
def dRight (f : Nat → Nat) (s i : Nat) : Nat := (f i + f (i + 1) * 4294967296) / 2 ^ s % 4294967296
theorem word_cut {s : Nat} (hs : s < 32) : 2 ^ s * 2 ^ (32 - s) = 4294967296 := by
  rw [← Nat.pow_add, show s + (32 - s) = 32 by omega]
theorem dRight_eq {f : Nat → Nat} {s : Nat} (hs : s < 32) (hf : ∀ i, f i < 4294967296) (i : Nat) : dRight f s i = f i / 2 ^ s + f (i + 1) % 2 ^ s * 2 ^ (32 - s) := by
  have hc := word_cut hs
  have hp := Nat.two_pow_pos s
  have hp2 := Nat.two_pow_pos (32 - s)
  unfold dRight
  have e1 : f (i + 1) * 4294967296 = f (i + 1) * 2 ^ (32 - s) * 2 ^ s := by rw [← hc, Nat.mul_assoc, Nat.mul_comm (2 ^ s)]
  rw [e1, Nat.add_mul_div_right _ _ hp]
  have e2 : f (i + 1) * 2 ^ (32 - s) = f (i + 1) % 2 ^ s * 2 ^ (32 - s) + f (i + 1) / 2 ^ s * 4294967296 := by
    have h0 : f (i + 1) * 2 ^ (32 - s) = (2 ^ s * (f (i + 1) / 2 ^ s) + f (i + 1) % 2 ^ s) * 2 ^ (32 - s) := by rw [Nat.div_add_mod]
    rw [h0, Nat.add_mul, Nat.mul_right_comm, hc, Nat.mul_comm 4294967296, Nat.add_comm]
  rw [e2, ← Nat.add_assoc, Nat.add_mul_mod_self_right]
  have h1 : f i / 2 ^ s < 2 ^ (32 - s) := by
    rw [Nat.div_lt_iff_lt_mul hp, Nat.mul_comm, hc]; exact hf i
  have h2 : (f (i + 1) % 2 ^ s + 1) * 2 ^ (32 - s) ≤ 2 ^ s * 2 ^ (32 - s) := Nat.mul_le_mul_right _ (Nat.mod_lt _ hp)
  rw [hc, Nat.add_mul, Nat.one_mul] at h2
  generalize f i / 2 ^ s = a at h1 ⊢
  generalize f (i + 1) % 2 ^ s * 2 ^ (32 - s) = b at h2 ⊢
  omega
theorem right_law {f : Nat → Nat} {s : Nat} (hs : s < 32) (hf : ∀ i, f i < 4294967296) : ∀ k, 2 ^ s * valF (dRight f s) k + f 0 % 2 ^ s = valF f k + f k % 2 ^ s * pw k
  | 0 => by simp [valF, pw_zero]
  | k + 1 => by
    have ih := right_law hs hf k
    unfold valF
    have e1 : 2 ^ s * (dRight f s k * pw k) + f k % 2 ^ s * pw k = f k * pw k + f (k + 1) % 2 ^ s * pw (k + 1) := by
      have h0 := Nat.div_add_mod (f k) (2 ^ s)
      have h1 : 2 ^ s * dRight f s k + f k % 2 ^ s = f k + f (k + 1) % 2 ^ s * 4294967296 := by
        rw [dRight_eq hs hf, Nat.mul_add]
        have : 2 ^ s * (f (k + 1) % 2 ^ s * 2 ^ (32 - s)) = f (k + 1) % 2 ^ s * 4294967296 := by
          rw [← word_cut hs, Nat.mul_left_comm]
        omega
      rw [← Nat.mul_assoc, ← Nat.add_mul, h1, Nat.add_mul, pw_succ, ← Nat.mul_assoc]
    rw [Nat.mul_add]
    omega
theorem right_val {f : Nat → Nat} {s n : Nat} (hs : s < 32) (hf : ∀ i, f i < 4294967296) (hz : f n = 0) : valF (dRight f s) n = valF f n / 2 ^ s := by
  have h := right_law hs hf n
  have hp := Nat.two_pow_pos s
  have h0 := Nat.mod_lt (f 0) hp
  rw [hz, Nat.zero_mod, Nat.zero_mul, Nat.add_zero] at h
  symm
  rw [Nat.div_eq_iff hp, Nat.mul_comm]
  omega
theorem right_words (l : List Nat) (hl : small l) {s w : Nat} (hs : s < 32) (hw : w ≤ l.length) :
    valF (dRight (fun i => l.getD (w + i) 0) s) (l.length - w) = val l / 2 ^ (32 * w + s) := by
  rw [right_val hs (fun i => getD_lt hl _) (by rw [List.getD_eq_getElem?_getD, List.getElem?_eq_none (by omega)]; rfl)]
  rw [Nat.pow_add, ← Nat.div_div_eq_div_mul, ← pw_two]
  congr 1
  have e : val l = valF (fun i => l.getD i 0) (w + (l.length - w)) := by unfold val; rw [show w + (l.length - w) = l.length by omega]
  rw [e, valF_add]
  have h1 := valF_lt (f := fun i => l.getD i 0) (n := w) (fun i _ => getD_lt hl i)
  symm
  rw [Nat.div_eq_iff (pw_pos w)]
  omega

/-! ### by one word -/
/-- the words from k on -/
def hiV (l : List Nat) (k : Nat) : Nat := valF (fun i => l.getD (k + i) 0) (l.length - k)
theorem hiV_all (l : List Nat) : hiV l 0 = val l := by
  unfold hiV val
  exact valF_congr fun i _ => by rw [Nat.zero_add]
theorem hiV_end (l : List Nat) : hiV l l.length = 0 := by unfold hiV; rw [Nat.sub_self]; rfl
theorem hiV_step (l : List Nat) {k : Nat} (hk : k < l.length) : hiV l k = hiV l (k + 1) * 4294967296 + l.getD k 0 := by
  unfold hiV
  rw [show l.length - k = 1 + (l.length - (k + 1)) by omega, valF_add]
  have e1 : valF (fun i => l.getD (k + i) 0) 1 = l.getD k 0 := by
    show 0 + l.getD (k + 0) 0 * pw 0 = _
    rw [pw_zero]; simp
  have e2 : valF (fun i => l.getD (k + (1 + i)) 0) (l.length - (k + 1)) = valF (fun i => l.getD (k + 1 + i) 0) (l.length - (k + 1)) := valF_congr fun i _ => by rw [Nat.add_assoc]
  rw [e1, e2, show pw 1 = 4294967296 from rfl]
  omega
def smallQ (l : List Nat) (d k : Nat) : Nat := (hiV l (k + 1) % d * 4294967296 + l.getD k 0) / d
theorem smallQ_lt {l : List Nat} (hl : small l) {d : Nat} (hd : 0 < d) (k : Nat) : smallQ l d k < 4294967296 := by
  unfold smallQ
  rw [Nat.div_lt_iff_lt_mul hd]
  have h1 := Nat.mod_lt (hiV l (k + 1)) hd
  have h2 := getD_lt hl k
  have h3 : (hiV l (k + 1) % d + 1) * 4294967296 ≤ d * 4294967296 := Nat.mul_le_mul_right _ h1
  rw [Nat.mul_comm 4294967296]
  omega
theorem split_d (x d a : Nat) : x * 4294967296 + a = x % d * 4294967296 + a + x / d * 4294967296 * d := by
  have h0 : x * 4294967296 = (d * (x / d) + x % d) * 4294967296 := by rw [Nat.div_add_mod]
  rw [h0, Nat.add_mul, Nat.mul_right_comm, Nat.mul_comm (d * 4294967296), Nat.mul_comm d, ← Nat.mul_assoc, Nat.add_assoc, Nat.add_comm]
theorem small_rest (l : List Nat) (d : Nat) {k : Nat} (hk : k < l.length) : hiV l k % d = (hiV l (k + 1) % d * 4294967296 + l.getD k 0) % d := by
  rw [hiV_step l hk, split_d, Nat.add_mul_mod_self_right]
theorem small_quot (l : List Nat) {d : Nat} (hd : 0 < d) : ∀ (n k : Nat), k + n = l.length → valF (fun i => smallQ l d (k + i)) n = hiV l k / d
  | 0, k, h => by
    obtain rfl : k = l.length := by omega
    rw [hiV_end]; simp [valF]
  | n + 1, k, h => by
    have ih := small_quot l hd n (k + 1) (by omega)
    have e : valF (fun i => smallQ l d (k + i)) (1 + n) = _ := valF_add (fun i => smallQ l d (k + i)) 1 n
    have e1 : valF (fun i => smallQ l d (k + i)) 1 = smallQ l d k := by
      show 0 + smallQ l d (k + 0) * pw 0 = _
      rw [pw_zero]; simp
    have e2 : valF (fun i => smallQ l d (k + (1 + i))) n = valF (fun i => smallQ l d (k + 1 + i)) n := valF_congr fun i _ => by rw [Nat.add_assoc]
    rw [Nat.add_comm n 1, e, e1, e2, ih, show pw 1 = 4294967296 from rfl, hiV_step l (show k < l.length by omega)]
    unfold smallQ
    rw [split_d (hiV l (k + 1)) d, Nat.add_mul_div_right _ _ hd]
theorem small_all (l : List Nat) {d : Nat} (hd : 0 < d) : valF (smallQ l d) l.length = val l / d := by
  rw [← hiV_all, ← small_quot l hd l.length 0 (by omega)]
  exact valF_congr fun i _ => by rw [Nat.zero_add]
end Go.Proofs.Ytlcpackmoolngaa.BigLaw
