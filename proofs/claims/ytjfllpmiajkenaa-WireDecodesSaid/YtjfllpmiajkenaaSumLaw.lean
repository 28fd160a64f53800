/- P5.1 in plain words: one bit of the cyclic sum, eight of them, and that the table's way comes to the same. No program in sight. -/
import Derived.IntWalk
namespace Go.Proofs.Ytjfllpmiajkenaa.SumLaw

/-- one step of the register -/
def step1 (c : Nat) : Nat := if c % 2 = 1 then (c / 2) ^^^ 3988292384 else c / 2
def steps : Nat → Nat → Nat
  | 0, c => c
  | n + 1, c => step1 (steps n c)
/-- the table -/
def tab (i : Nat) : Nat := steps 8 i
/-- one byte, by the table -/
def byteT (c x : Nat) : Nat := tab ((c % 256) ^^^ x) ^^^ (c / 256)
/-- one bit of a byte, the reference's way -/
def bitR (c x k : Nat) : Nat := if (c % 2 + x / 2 ^ k) % 2 = 1 then (c / 2) ^^^ 3988292384 else c / 2
def bitsR (c x : Nat) : Nat → Nat
  | 0 => c
  | k + 1 => bitR (bitsR c x k) x k
/-- all bytes -/
def over (f : Nat → Nat → Nat) (c : Nat) (l : List Nat) : Nat := l.foldl f c
def more (s : Int) (l : List Nat) : Int := 4294967295 - (over byteT (4294967295 - (s % 4294967296).toNat) l : Nat)

theorem xor_mod2 (a b : Nat) : (a ^^^ b) % 2 = (a + b) % 2 := by
  have h := @Nat.xor_mod_two_pow a b 1
  simp only [Nat.pow_one] at h
  rw [h]
  rcases Nat.mod_two_eq_zero_or_one a with ha | ha <;> rcases Nat.mod_two_eq_zero_or_one b with hb | hb <;> rw [ha, hb]
  · rw [show (0 ^^^ 0 : Nat) = 0 from rfl]; omega
  · rw [show (0 ^^^ 1 : Nat) = 1 from rfl]; omega
  · rw [show (1 ^^^ 0 : Nat) = 1 from rfl]; omega
  · rw [show (1 ^^^ 1 : Nat) = 0 from rfl]; omega

theorem xor_div2 (a b : Nat) : (a ^^^ b) / 2 = (a / 2) ^^^ (b / 2) := by
  have h := @Nat.xor_div_two_pow a b 1
  simpa using h

theorem step1_xor (a b : Nat) : step1 (a ^^^ b) = step1 a ^^^ step1 b := by
  unfold step1
  rw [xor_mod2, xor_div2]
  rcases Nat.mod_two_eq_zero_or_one a with ha | ha <;> rcases Nat.mod_two_eq_zero_or_one b with hb | hb
  · rw [if_neg (by omega), if_neg (by omega), if_neg (by omega)]
  · rw [if_pos (by omega), if_neg (by omega), if_pos (by omega), Nat.xor_assoc]
  · rw [if_pos (by omega), if_pos (by omega), if_neg (by omega), Nat.xor_assoc, Nat.xor_assoc, Nat.xor_comm (b / 2)]
  · rw [if_neg (by omega), if_pos (by omega), if_pos (by omega), Nat.xor_assoc (a / 2), Nat.xor_comm (b / 2), ← Nat.xor_assoc 3988292384, Nat.xor_self, Nat.zero_xor]

theorem steps_xor (n a b : Nat) : steps n (a ^^^ b) = steps n a ^^^ steps n b := by
  induction n with
  | zero => rfl
  | succ n ih => unfold steps; rw [ih, step1_xor]

theorem steps_comm (n c : Nat) : steps n (step1 c) = step1 (steps n c) := by
  induction n with
  | zero => rfl
  | succ n ih => unfold steps; rw [ih]

theorem steps_shift (n h : Nat) : steps n (2 ^ n * h) = h := by
  induction n generalizing h with
  | zero => simp [steps]
  | succ n ih =>
    have e : steps (n + 1) (2 ^ (n + 1) * h) = steps n (step1 (2 ^ (n + 1) * h)) := by rw [steps_comm]; rfl
    rw [e, Nat.pow_succ]
    have e2 : step1 (2 ^ n * 2 * h) = 2 ^ n * h := by
      unfold step1
      have : 2 ^ n * 2 * h = 2 * (2 ^ n * h) := by rw [Nat.mul_comm (2 ^ n) 2, Nat.mul_assoc]
      rw [this, if_neg (by omega)]
      omega
    rw [e2, ih]

theorem split8 (a : Nat) : (a % 256) ^^^ (256 * (a / 256)) = a := by
  have h : (a % 2 ^ 8) ^^^ (2 ^ 8 * (a / 2 ^ 8)) = a := by
    apply Nat.eq_of_testBit_eq
    intro i
    rw [Nat.testBit_xor, Nat.testBit_mod_two_pow, Nat.testBit_two_pow_mul, Nat.testBit_div_two_pow]
    by_cases hi : i < 8
    · have h8 : ¬ 8 ≤ i := by omega
      simp [hi, h8]
    · have e : i - 8 + 8 = i := by omega
      have h8 : 8 ≤ i := by omega
      simp [hi, e, h8]
  simpa using h

theorem xor_mod256 (a x : Nat) (hx : x < 256) : (a ^^^ x) % 256 = (a % 256) ^^^ x := by
  have h := @Nat.xor_mod_two_pow a x 8
  rw [show (2 : Nat) ^ 8 = 256 from rfl] at h
  rw [h, Nat.mod_eq_of_lt hx]
theorem xor_div256 (a x : Nat) (hx : x < 256) : (a ^^^ x) / 256 = a / 256 := by
  have h := @Nat.xor_div_two_pow a x 8
  rw [show (2 : Nat) ^ 8 = 256 from rfl] at h
  rw [h, Nat.div_eq_of_lt hx, Nat.xor_zero]

theorem byteT_steps (c x : Nat) (hx : x < 256) : byteT c x = steps 8 (c ^^^ x) := by
  have h := split8 (c ^^^ x)
  rw [xor_mod256 c x hx, xor_div256 c x hx] at h
  rw [← h, steps_xor]
  have e := steps_shift 8 (c / 256)
  rw [show (2 : Nat) ^ 8 = 256 from rfl] at e
  rw [e]
  rfl

theorem bitsR_steps (c x : Nat) : ∀ k, bitsR c x k ^^^ (x / 2 ^ k) = steps k (c ^^^ x)
  | 0 => by simp [bitsR, steps]
  | k + 1 => by
    have ih := bitsR_steps c x k
    unfold steps
    rw [← ih, step1_xor]
    have eb : bitsR c x (k + 1) = bitR (bitsR c x k) x k := rfl
    rw [eb]
    unfold bitR
    generalize bitsR c x k = d
    have hx2 : x / 2 ^ (k + 1) = x / 2 ^ k / 2 := by rw [Nat.pow_succ, Nat.div_div_eq_div_mul]
    rw [hx2]
    generalize x / 2 ^ k = y
    unfold step1
    rcases Nat.mod_two_eq_zero_or_one d with ha | ha <;> rcases Nat.mod_two_eq_zero_or_one y with hb | hb
    · rw [if_neg (by omega), if_neg (by omega), if_neg (by omega)]
    · rw [if_pos (by omega), if_neg (by omega), if_pos (by omega), Nat.xor_assoc, Nat.xor_comm 3988292384]
    · rw [if_pos (by omega), if_pos (by omega), if_neg (by omega)]
    · rw [if_neg (by omega), if_pos (by omega), if_pos (by omega), Nat.xor_assoc (d / 2), ← Nat.xor_assoc 3988292384, Nat.xor_comm 3988292384 (y / 2), Nat.xor_assoc (y / 2), Nat.xor_self, Nat.xor_zero]

theorem bitsR_byte (c x : Nat) (hx : x < 256) : bitsR c x 8 = byteT c x := by
  have h := bitsR_steps c x 8
  rw [show (2 : Nat) ^ 8 = 256 from rfl, Nat.div_eq_of_lt hx, Nat.xor_zero] at h
  rw [h, byteT_steps c x hx]

theorem step1_lt (c : Nat) (h : c < 4294967296) : step1 c < 4294967296 := by
  unfold step1
  split
  · exact Nat.xor_lt_two_pow (n := 32) (by omega) (by omega)
  · omega
theorem steps_lt (n c : Nat) (h : c < 4294967296) : steps n c < 4294967296 := by
  induction n with
  | zero => exact h
  | succ n ih => exact step1_lt _ ih
theorem byteT_lt (c x : Nat) (hc : c < 4294967296) (hx : x < 256) : byteT c x < 4294967296 := by
  rw [byteT_steps c x hx]
  exact steps_lt 8 _ (Nat.xor_lt_two_pow (n := 32) (by omega) (by omega))
theorem bitR_lt (c x k : Nat) (hc : c < 4294967296) : bitR c x k < 4294967296 := by
  unfold bitR
  split
  · exact Nat.xor_lt_two_pow (n := 32) (by omega) (by omega)
  · omega
theorem bitsR_lt (c x k : Nat) (hc : c < 4294967296) : bitsR c x k < 4294967296 := by
  induction k with
  | zero => exact hc
  | succ k ih => exact bitR_lt _ _ _ ih
theorem over_lt (l : List Nat) (c : Nat) (hc : c < 4294967296) (hl : ∀ x ∈ l, x < 256) : over byteT c l < 4294967296 := by
  induction l generalizing c with
  | nil => exact hc
  | cons x l ih => exact ih _ (byteT_lt c x hc (hl x List.mem_cons_self)) (fun y hy => hl y (List.mem_cons_of_mem _ hy))

theorem over_snoc (f : Nat → Nat → Nat) (c : Nat) (l : List Nat) (x : Nat) : over f c (l ++ [x]) = f (over f c l) x := by simp [over]
theorem over_take (f : Nat → Nat → Nat) (c : Nat) (l : List Nat) (k : Nat) (hk : k < l.length) : over f c (l.take (k + 1)) = f (over f c (l.take k)) l[k] := by
  rw [List.take_succ_eq_append_getElem hk, over_snoc]

/-- bit k of a register -/
def bit (c k : Nat) : Nat := c / 2 ^ k % 2
theorem bit_le (c k : Nat) : bit c k ≤ 1 := by unfold bit; omega

/-- the number that the lowest bits make, from above -/
def back (c : Nat) : Nat → Int
  | 0 => 0
  | k + 1 => 2 * back c k + 1 - bit c (31 - k)

theorem bit_out (c x k : Nat) : (bit c 0 + x / 2 ^ k % 2) % 2 = (c % 2 + x / 2 ^ k) % 2 := by unfold bit; simp

/-- a register moved and combined, bit by bit -/
theorem bit_shift (c i : Nat) : bit (c / 2) i = bit c (i + 1) := by
  unfold bit; rw [Nat.div_div_eq_div_mul, Nat.pow_succ, Nat.mul_comm 2]
theorem bit_xor (a b i : Nat) : bit (a ^^^ b) i = (bit a i + bit b i) % 2 := by
  unfold bit
  rw [Nat.xor_div_two_pow, xor_mod2]; omega
theorem bit_high (c i : Nat) (h : c < 2 ^ i) : bit c i = 0 := by unfold bit; rw [Nat.div_eq_of_lt h]

theorem back_eq (c : Nat) (hc : c < 4294967296) : back c 32 = 4294967295 - (c : Int) := by
  have key : ∀ k, k ≤ 32 → back c k = (2 ^ k - 1 : Nat) - (c / 2 ^ (32 - k) : Nat) := by
    intro k
    induction k with
    | zero => intro _; simp [back, Nat.div_eq_of_lt hc]
    | succ k ih =>
      intro hk
      unfold back
      rw [ih (by omega)]
      unfold bit
      have e1 : 32 - k = (31 - k) + 1 := by omega
      have e2 : 32 - (k + 1) = 31 - k := by omega
      rw [e1, e2]
      have e3 : c / 2 ^ (31 - k + 1) = c / 2 ^ (31 - k) / 2 := by rw [Nat.pow_succ, Nat.div_div_eq_div_mul]
      rw [e3]
      have e4 : 2 ^ (k + 1) = 2 * 2 ^ k := by rw [Nat.pow_succ, Nat.mul_comm]
      rw [e4]
      have hp : 0 < 2 ^ k := Nat.two_pow_pos k
      generalize 2 ^ k = p at hp
      generalize c / 2 ^ (31 - k) = y
      omega
  have := key 32 (Nat.le_refl _)
  simp at this
  rw [this]


theorem bit_not (m k : Nat) (hm : m < 4294967296) (hk : k < 32) : (bit (4294967295 - m) k : Int) = 1 - bit m k := by
  unfold bit
  have h1 : (4294967295 - m) / 2 ^ k % 2 = ((4294967295 - m) / 2 ^ k) % 2 := rfl
  have hp : 2 ^ 32 = 2 ^ k * 2 ^ (32 - k) := by rw [← Nat.pow_add]; congr 1; omega
  have he : 2 ^ (32 - k) = 2 * 2 ^ (31 - k) := by rw [← Nat.pow_succ']; congr 1; omega
  have hpos : 0 < 2 ^ k := Nat.two_pow_pos k
  have h2 : (2 : Nat) ^ 32 = 4294967296 := rfl
  rw [h2, he] at hp
  generalize 2 ^ k = p at hp hpos
  generalize 2 ^ (31 - k) = q at hp
  have hdm := Nat.div_add_mod m p
  have hr := Nat.mod_lt m hpos
  generalize hd : m / p = d at hdm
  generalize m % p = r at hdm hr
  have hcomm : p * (2 * q) = 4294967296 := hp.symm
  have hdlt : d < 2 * q := by
    have : p * d < p * (2 * q) := by omega
    exact Nat.lt_of_mul_lt_mul_left this
  have e : 4294967295 - m = p * (2 * q - 1 - d) + (p - 1 - r) := by
    have e1 : p * (2 * q - 1 - d) = p * (2 * q) - p - p * d := by rw [Nat.mul_sub, Nat.mul_sub, Nat.mul_one]
    have hle : p + p * d ≤ p * (2 * q) := by
      have : p * (d + 1) ≤ p * (2 * q) := Nat.mul_le_mul_left _ hdlt
      rw [Nat.mul_add, Nat.mul_one] at this; omega
    omega
  rw [e, Nat.mul_add_div hpos, Nat.div_eq_of_lt (by omega : p - 1 - r < p)]
  omega

theorem bit_of_int (s : Int) (k : Nat) (hk : k < 32) : ((bit (s % 4294967296).toNat k : Nat) : Int) = s / 2 ^ k % 2 := by
  unfold bit
  have h0 : 0 ≤ s % 4294967296 := by omega
  rw [Int.natCast_emod, Int.natCast_ediv, Int.toNat_of_nonneg h0]
  have hq := Int.mul_ediv_add_emod s 4294967296
  generalize s % 4294967296 = m at hq
  generalize s / 4294967296 = q at hq
  have he : (4294967296 : Int) = 2 ^ k * (2 * 2 ^ (31 - k)) := by
    have h1 : (2 : Nat) ^ 32 = 2 ^ k * (2 * 2 ^ (31 - k)) := by rw [← Nat.pow_succ', ← Nat.pow_add]; congr 1; omega
    have h2 : ((2 ^ 32 : Nat) : Int) = ((2 ^ k * (2 * 2 ^ (31 - k)) : Nat) : Int) := by rw [h1]
    simpa using h2
  have hp : (2 : Int) ^ k ≠ 0 := Int.pow_ne_zero (by omega)
  rw [← hq, he, Int.mul_assoc, Int.mul_comm, Int.mul_assoc]
  have e3 : ((2 * 2 ^ (31 - k) * q * 2 ^ k + m : Int)) = m + 2 * (2 ^ (31 - k) * q) * 2 ^ k := by
    rw [Int.add_comm, Int.mul_assoc 2]
  have e4 : (2 * 2 ^ (31 - k) * (q * 2 ^ k) + m : Int) = m + 2 * (2 ^ (31 - k) * q) * 2 ^ k := by
    rw [← Int.mul_assoc]; exact e3
  first
    | rw [e3, Int.add_mul_ediv_right _ _ hp]; push_cast; omega
    | rw [e4, Int.add_mul_ediv_right _ _ hp]; push_cast; omega

theorem reg_begin (s : Int) (k : Nat) (hk : k < 32) : ((bit (4294967295 - (s % 4294967296).toNat) k : Nat) : Int) = 1 - s / 2 ^ k % 2 := by
  rw [bit_not _ _ (by omega) hk, bit_of_int s k hk]


theorem back_bound (c : Nat) : ∀ k, k ≤ 32 → 0 ≤ back c k ∧ back c k < 4294967296 := by
  have h : ∀ k, k ≤ 32 → 0 ≤ back c k ∧ back c k < 2 ^ k := by
    intro k
    induction k with
    | zero => intro _; simp [back]
    | succ k ih =>
      intro hk
      have := ih (by omega)
      have hb := bit_le c (31 - k)
      have e : (2 : Int) ^ (k + 1) = 2 * 2 ^ k := by rw [Int.pow_succ, Int.mul_comm]
      unfold back
      rw [e]
      omega
  intro k hk
  have h1 := h k hk
  have h2 : (2 : Int) ^ k ≤ 2 ^ 32 := by
    have : (2 : Nat) ^ k ≤ 2 ^ 32 := Nat.pow_le_pow_right (by omega) hk
    exact_mod_cast this
  have h3 : (2 : Int) ^ 32 = 4294967296 := rfl
  omega

end Go.Proofs.Ytjfllpmiajkenaa.SumLaw
