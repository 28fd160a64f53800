/- Decimal digits, plainly: of a whole number, of a fraction of 32 bits, and how the two texts of P1.6 are one. -/
import Derived.IntWalk
namespace Go.Proofs.Ytlcpackmoolngaa.TextLaw

/-- the decimal digits of a number, the first ahead -/
def dec (n : Nat) : List Nat := if n < 10 then [n] else dec (n / 10) ++ [n % 10]
termination_by n
decreasing_by omega

theorem dec_lo {n : Nat} (h : n < 10) : dec n = [n] := by rw [dec, if_pos h]
theorem dec_hi {n : Nat} (h : ¬ n < 10) : dec n = dec (n / 10) ++ [n % 10] := by rw [dec, if_neg h]

/-- what is left of the digits behind the first round -/
def top (w : Nat) : List Nat := if w = 0 then [] else dec w
theorem dec_top (w : Nat) : top (w / 10) ++ [w % 10] = dec w := by
  unfold top
  by_cases h : w < 10
  · rw [if_pos (by omega), dec_lo h, Nat.mod_eq_of_lt h]; rfl
  · rw [if_neg (by omega), dec_hi h]
theorem top_step {w : Nat} (h : 0 < w) : top (w / 10) ++ [w % 10] = top w := by
  rw [dec_top, top, if_neg (by omega)]

theorem dec_small (n : Nat) : ∀ x ∈ dec n, x < 10 := by
  induction n using Nat.strongRecOn with
  | _ n ih =>
    by_cases h : n < 10
    · rw [dec_lo h]; simp; exact h
    · rw [dec_hi h]
      intro x hx
      rcases List.mem_append.1 hx with h1 | h1
      · exact ih _ (by omega) x h1
      · simp at h1; omega
theorem dec_pos (n : Nat) : 0 < (dec n).length := by
  by_cases h : n < 10
  · rw [dec_lo h]; simp
  · rw [dec_hi h]; simp
theorem dec_length (k n : Nat) (h : n < 10 ^ (k + 1)) : (dec n).length ≤ k + 1 := by
  induction k generalizing n with
  | zero => rw [dec_lo (by simpa using h)]; simp
  | succ k ih =>
    by_cases h1 : n < 10
    · rw [dec_lo h1]; simp
    · rw [dec_hi h1]
      have := ih (n / 10) (by rw [Nat.pow_succ] at h; omega)
      simp; omega
theorem dec_length_le (n : Nat) : (dec n).length ≤ n + 1 := by
  induction n using Nat.strongRecOn with
  | _ n ih =>
    by_cases h : n < 10
    · rw [dec_lo h]; simp
    · rw [dec_hi h]
      have := ih (n / 10) (by omega)
      simp; omega

/-- k digits of a number, told from the right -/
def padR : Nat → Nat → List Nat
  | 0, _ => []
  | k + 1, x => padR k (x / 10) ++ [x % 10]
/-- and from the left -/
def padL : Nat → Nat → List Nat
  | 0, _ => []
  | k + 1, x => (x / 10 ^ k) :: padL k (x % 10 ^ k)

theorem padR_zero : ∀ k, padR k 0 = List.replicate k 0
  | 0 => rfl
  | k + 1 => by show padR k 0 ++ [0] = _; rw [padR_zero k, List.replicate_succ']
theorem padR_length : ∀ k x, (padR k x).length = k
  | 0, _ => rfl
  | k + 1, x => by show (padR k (x / 10) ++ [x % 10]).length = _; rw [List.length_append, padR_length k]; rfl

theorem mod_div10 (x k : Nat) : (x % 10 ^ (k + 1)) / 10 = (x / 10) % 10 ^ k := by
  rw [Nat.pow_succ, Nat.mul_comm, Nat.mod_mul_right_div_self]
theorem mod_mod10 (x k : Nat) : x % 10 ^ (k + 1) % 10 = x % 10 := by
  rw [Nat.pow_succ]; exact Nat.mod_mul_left_mod _ _ _

theorem padL_eq : ∀ k x, x < 10 ^ k → padL k x = padR k x
  | 0, _, _ => rfl
  | 1, x, h => by
    have h : x < 10 := by simpa using h
    show [x / 10 ^ 0] = [] ++ [x % 10]
    rw [Nat.pow_zero, Nat.div_one, Nat.mod_eq_of_lt h]; rfl
  | k + 2, x, h => by
    have h2 : x / 10 < 10 ^ (k + 1) := by rw [Nat.pow_succ] at h; omega
    have e1 := padL_eq (k + 1) (x / 10) h2
    have e2 := padL_eq (k + 1) (x % 10 ^ (k + 1)) (Nat.mod_lt _ (Nat.pow_pos (by omega)))
    have e3 := padL_eq k (x / 10 % 10 ^ k) (Nat.mod_lt _ (Nat.pow_pos (by omega)))
    show (x / 10 ^ (k + 1)) :: padL (k + 1) (x % 10 ^ (k + 1)) = padR (k + 1) (x / 10) ++ [x % 10]
    rw [e2, ← e1]
    show (x / 10 ^ (k + 1)) :: (padR k ((x % 10 ^ (k + 1)) / 10) ++ [x % 10 ^ (k + 1) % 10]) = (x / 10 / 10 ^ k) :: padL k (x / 10 % 10 ^ k) ++ [x % 10]
    rw [mod_div10, mod_mod10, e3, Nat.div_div_eq_div_mul, Nat.pow_succ, Nat.mul_comm 10]
    rfl

theorem dec_join (W : Nat) (hW : 0 < W) : ∀ k f, f < 10 ^ k → dec (W * 10 ^ k + f) = dec W ++ padR k f
  | 0, f, h => by
    have : f = 0 := by simpa using h
    subst this
    simp [padR]
  | k + 1, f, h => by
    have hp : 0 < 10 ^ k := Nat.pow_pos (by omega)
    have h2 : f / 10 < 10 ^ k := by rw [Nat.pow_succ] at h; omega
    have hge : 10 ^ k ≤ W * 10 ^ k := Nat.le_mul_of_pos_left _ hW
    have e : W * 10 ^ (k + 1) = 10 * (W * 10 ^ k) := by rw [Nat.pow_succ, ← Nat.mul_assoc, Nat.mul_comm]
    rw [dec_hi (by omega), show (W * 10 ^ (k + 1) + f) / 10 = W * 10 ^ k + f / 10 by omega, dec_join W hW k (f / 10) h2, show (W * 10 ^ (k + 1) + f) % 10 = f % 10 by omega, List.append_assoc]
    rfl
theorem dec_zero : ∀ k f, f < 10 ^ k → List.replicate (k + 1 - (dec f).length) 0 ++ dec f = 0 :: padR k f
  | 0, f, h => by
    have : f = 0 := by simpa using h
    subst this
    rw [dec_lo (by omega)]; rfl
  | k + 1, f, h => by
    have h2 : f / 10 < 10 ^ k := by rw [Nat.pow_succ] at h; omega
    have ih := dec_zero k (f / 10) h2
    by_cases h1 : f < 10
    · rw [dec_lo h1]
      show List.replicate (k + 1) 0 ++ [f] = 0 :: (padR k (f / 10) ++ [f % 10])
      rw [show f / 10 = 0 by omega, padR_zero, Nat.mod_eq_of_lt h1, List.replicate_succ]; rfl
    · rw [dec_hi h1]
      show _ = (0 :: padR k (f / 10)) ++ [f % 10]
      rw [← ih, List.length_append, List.length_singleton, show k + 1 + 1 - ((dec (f / 10)).length + 1) = k + 1 - (dec (f / 10)).length by omega, List.append_assoc]

/-- the reference's text ahead of its cut -/
theorem dec_pad (W f : Nat) (hf : f < 10 ^ 32) : List.replicate (33 - (dec (W * 10 ^ 32 + f)).length) 0 ++ dec (W * 10 ^ 32 + f) = dec W ++ padR 32 f := by
  by_cases hW : 0 < W
  · have hl := dec_pos W
    rw [dec_join W hW 32 f hf, show 33 - (dec W ++ padR 32 f).length = 0 by rw [List.length_append, padR_length]; omega]; rfl
  · obtain rfl : W = 0 := by omega
    rw [Nat.zero_mul, Nat.zero_add, dec_lo (show 0 < 10 by omega), List.singleton_append]
    exact dec_zero 32 f hf

/-- digits behind the point, k of them -/
def fr : Nat → Nat → List Nat
  | 0, _ => []
  | k + 1, p => (10 * p / 4294967296) :: fr k (10 * p % 4294967296)
/-- and as the program tells them: till nothing is left -/
def frT : Nat → Nat → List Nat
  | 0, _ => []
  | k + 1, p => if p = 0 then [] else (10 * p / 4294967296) :: frT k (10 * p % 4294967296)

theorem split_ten (p k B : Nat) : p * 10 ^ (k + 1) = B * ((10 * p / B) * 10 ^ k) + (10 * p % B) * 10 ^ k := by
  have h := Nat.div_add_mod (10 * p) B
  generalize 10 * p / B = q at h ⊢
  generalize 10 * p % B = r at h ⊢
  rw [← Nat.mul_assoc, ← Nat.add_mul, h, Nat.pow_succ, Nat.mul_comm (10 ^ k), ← Nat.mul_assoc, Nat.mul_comm p]
theorem split_at (u t B : Nat) (hB : 0 < B) : u * t / B = (u / B) * t + (u % B) * t / B := by
  have h := Nat.div_add_mod u B
  generalize hq : u / B = q at h ⊢
  generalize hr : u % B = r at h ⊢
  rw [← h, Nat.add_mul, Nat.mul_assoc, Nat.mul_add_div hB]

theorem fr_pad : ∀ k p, p < 4294967296 → padL k (p * 10 ^ k / 4294967296) = fr k p
  | 0, _, _ => rfl
  | k + 1, p, hp => by
    have hpk : 0 < 10 ^ k := Nat.pow_pos (by omega)
    have hr : 10 * p % 4294967296 < 4294967296 := Nat.mod_lt _ (by omega)
    have ih := fr_pad k (10 * p % 4294967296) hr
    have e0 : p * 10 ^ (k + 1) = 4294967296 * ((10 * p / 4294967296) * 10 ^ k) + (10 * p % 4294967296) * 10 ^ k := (split_ten p k 4294967296)
    have e1 : p * 10 ^ (k + 1) / 4294967296 = (10 * p / 4294967296) * 10 ^ k + (10 * p % 4294967296) * 10 ^ k / 4294967296 := by
      rw [e0, Nat.mul_add_div (by omega)]
    have hlt : (10 * p % 4294967296) * 10 ^ k / 4294967296 < 10 ^ k := by
      rw [Nat.div_lt_iff_lt_mul (by omega), Nat.mul_comm (10 ^ k)]
      exact Nat.mul_lt_mul_of_pos_right hr hpk
    show (p * 10 ^ (k + 1) / 4294967296 / 10 ^ k) :: padL k (p * 10 ^ (k + 1) / 4294967296 % 10 ^ k) = (10 * p / 4294967296) :: fr k (10 * p % 4294967296)
    rw [e1, ← ih]
    congr 1
    · rw [Nat.mul_comm, Nat.mul_add_div hpk, Nat.div_eq_of_lt hlt]; rfl
    · rw [Nat.mul_comm, Nat.mul_add_mod, Nat.mod_eq_of_lt hlt]

theorem fr_zero : ∀ k, fr k 0 = List.replicate k 0
  | 0 => rfl
  | k + 1 => by show (0 / 4294967296) :: fr k (0 % 4294967296) = _; rw [Nat.zero_div, Nat.zero_mod, fr_zero k]; rfl
theorem frT_length : ∀ k p, (frT k p).length ≤ k
  | 0, _ => Nat.le_refl _
  | k + 1, p => by
    unfold frT
    split
    · simp
    · have := frT_length k (10 * p % 4294967296); simp; omega
theorem frT_zero (k : Nat) : frT k 0 = [] := by cases k <;> simp [frT]
theorem frT_small : ∀ k p, p < 4294967296 → ∀ x ∈ frT k p, x < 10
  | 0, _, _ => by simp [frT]
  | k + 1, p, h => by
    have ih := frT_small k (10 * p % 4294967296) (Nat.mod_lt _ (by omega))
    unfold frT
    split
    · simp
    · intro x hx
      rcases List.mem_cons.1 hx with h1 | h1
      · omega
      · exact ih x h1
theorem fr_trim : ∀ k p, fr k p = frT k p ++ List.replicate (k - (frT k p).length) 0
  | 0, _ => rfl
  | k + 1, p => by
    have ih := fr_trim k (10 * p % 4294967296)
    by_cases h : p = 0
    · subst h; rw [fr_zero, frT_zero]; rfl
    · unfold fr frT
      rw [if_neg h, ih, List.length_cons, show k + 1 - ((frT k (10 * p % 4294967296)).length + 1) = k - (frT k (10 * p % 4294967296)).length by omega]; rfl

/-- p has at most k places more -/
def Ends (k p : Nat) : Prop := p < 4294967296 ∧ ∃ m, p = 2 ^ (32 - k) * m
theorem Ends.zero {p : Nat} (h : Ends 0 p) : p = 0 := by
  obtain ⟨h1, m, h2⟩ := h
  rw [show (32 : Nat) - 0 = 32 from rfl] at h2
  omega
theorem Ends.step {k p : Nat} (hk : k + 1 ≤ 32) (h : Ends (k + 1) p) : Ends k (10 * p % 4294967296) := by
  obtain ⟨h1, m, h2⟩ := h
  refine ⟨Nat.mod_lt _ (by omega), (5 * m) % 2 ^ k, ?_⟩
  have e1 : 10 * p = 2 ^ (32 - k) * (5 * m) := by
    rw [h2, show 32 - k = (32 - (k + 1)) + 1 by omega, Nat.pow_succ]
    generalize 2 ^ (32 - (k + 1)) = q
    rw [Nat.mul_assoc q 2, ← Nat.mul_assoc 2 5, show 2 * 5 = 10 from rfl, ← Nat.mul_assoc q, Nat.mul_comm q 10, Nat.mul_assoc]
  rw [e1, show 4294967296 = 2 ^ (32 - k) * 2 ^ k by rw [← Nat.pow_add, show 32 - k + k = 32 by omega], Nat.mul_mod_mul_left]
theorem ends_all {p : Nat} (h : p < 4294967296) : Ends 32 p := ⟨h, p, by simp⟩

theorem frT_step {k p : Nat} (hp : 0 < p) : frT (k + 1) p = (10 * p / 4294967296) :: frT k (10 * p % 4294967296) := by
  show (if p = 0 then [] else _) = _
  rw [if_neg (by omega)]
theorem frT_pos {k p : Nat} (hk : k ≤ 32) (h : Ends k p) (hp : 0 < p) : 0 < (frT k p).length := by
  cases k with
  | zero => have := h.zero; omega
  | succ k => rw [frT_step hp]; simp
theorem ten_ne_ {p B : Nat} (hp : ¬ p = 0) (h : 10 * p % B = 0) : 10 * p / B ≠ 0 := by
  intro h2
  have h3 := Nat.div_add_mod (10 * p) B
  rw [h, h2, Nat.mul_zero] at h3
  omega
theorem ten_ne {p : Nat} (hp : ¬ p = 0) (h : 10 * p % 4294967296 = 0) : 10 * p / 4294967296 ≠ 0 := ten_ne_ hp h
/-- its last place is no nought -/
theorem frT_last : ∀ k p, k ≤ 32 → Ends k p → ∀ h : frT k p ≠ [], (frT k p).getLast h ≠ 0
  | 0, _, _, _, h => absurd rfl h
  | k + 1, p, hk, he, h => by
    by_cases hp : p = 0
    · subst hp; exact absurd (frT_zero _) h
    · have hs := frT_step (k := k) (p := p) (by omega)
      have he2 := he.step hk
      by_cases h2 : frT k (10 * p % 4294967296) = []
      · have h3 : 10 * p % 4294967296 = 0 := by
          rcases Nat.eq_zero_or_pos (10 * p % 4294967296) with h4 | h4
          · exact h4
          · have := frT_pos (by omega) he2 h4; rw [h2] at this; simp at this
        rw [h2] at hs
        have hd : 10 * p / 4294967296 ≠ 0 := ten_ne hp h3
        simp only [hs, List.getLast_singleton]
        exact hd
      · have ih := frT_last k _ (by omega) he2 h2
        simp only [hs, List.getLast_cons h2]
        exact ih

/-- the text of P1.6, as digits: what stands ahead of the point, and what behind it -/
theorem text_whole (u : Nat) : u * 10 ^ 32 / 2 ^ 32 = (u / 4294967296) * 10 ^ 32 + (u % 4294967296) * 10 ^ 32 / 4294967296 :=
  split_at u (10 ^ 32) 4294967296 (by omega)
theorem text_part (p : Nat) (hp : p < 4294967296) : p * 10 ^ 32 / 4294967296 < 10 ^ 32 := by
  rw [Nat.div_lt_iff_lt_mul (by omega), Nat.mul_comm (10 ^ 32)]
  exact Nat.mul_lt_mul_of_pos_right hp (Nat.pow_pos (by omega))
theorem text_pad (u : Nat) : List.replicate (33 - (dec (u * 10 ^ 32 / 2 ^ 32)).length) 0 ++ dec (u * 10 ^ 32 / 2 ^ 32) = dec (u / 4294967296) ++ fr 32 (u % 4294967296) := by
  have hp : u % 4294967296 < 4294967296 := Nat.mod_lt _ (by omega)
  rw [text_whole, dec_pad _ _ (text_part _ hp), ← padL_eq 32 _ (text_part _ hp), fr_pad 32 _ hp]

/-- the program's text -/
def textOf (a : Int) : List Nat :=
  (if a < 0 then [45] else []) ++ ((dec (a.natAbs / 4294967296)).map (· + 48) ++ (if a.natAbs % 4294967296 = 0 then [] else 46 :: (frT 32 (a.natAbs % 4294967296)).map (· + 48)))
end Go.Proofs.Ytlcpackmoolngaa.TextLaw
