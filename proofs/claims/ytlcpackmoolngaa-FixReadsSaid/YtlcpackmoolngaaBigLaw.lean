/- Whole numbers of any size as words of 32 bits, the least first: what the word functions come to. No program in sight. -/
import Derived.IntWalk
namespace Go.Proofs.Ytlcpackmoolngaa.BigLaw

def pw (k : Nat) : Nat := 4294967296 ^ k
theorem pw_zero : pw 0 = 1 := rfl
theorem pw_succ (k : Nat) : pw (k + 1) = 4294967296 * pw k := by unfold pw; rw [Nat.pow_succ, Nat.mul_comm]
theorem pw_pos (k : Nat) : 0 < pw k := Nat.pow_pos (by omega)
theorem pw_add (a b : Nat) : pw (a + b) = pw a * pw b := by unfold pw; exact Nat.pow_add _ _ _
theorem pw_le {a b : Nat} (h : a ≤ b) : pw a ≤ pw b := Nat.pow_le_pow_right (by omega) h
theorem pw_two (k : Nat) : pw k = 2 ^ (32 * k) := by unfold pw; rw [Nat.pow_mul]

/-- the value of the first n words -/
def valF (f : Nat → Nat) : Nat → Nat
  | 0 => 0
  | n + 1 => valF f n + f n * pw n

theorem valF_succ (f : Nat → Nat) (n : Nat) : valF f (n + 1) = valF f n + f n * pw n := rfl

def val (l : List Nat) : Nat := valF (fun i => l.getD i 0) l.length
def small (l : List Nat) : Prop := ∀ x ∈ l, x < 4294967296
def trimd (l : List Nat) : Prop := 0 < l.length → l.getD (l.length - 1) 0 ≠ 0

theorem valF_congr {f g : Nat → Nat} {n : Nat} (h : ∀ i, i < n → f i = g i) : valF f n = valF g n := by
  induction n with
  | zero => rfl
  | succ n ih => unfold valF; rw [ih (fun i hi => h i (by omega)), h n (by omega)]
theorem valF_lt {f : Nat → Nat} {n : Nat} (h : ∀ i, i < n → f i < 4294967296) : valF f n < pw n := by
  induction n with
  | zero => simp [valF, pw]
  | succ n ih =>
    have h1 := ih (fun i hi => h i (by omega))
    have h2 := h n (by omega)
    unfold valF
    rw [pw_succ]
    have h3 : f n * pw n + pw n ≤ 4294967296 * pw n := by
      have : (f n + 1) * pw n ≤ 4294967296 * pw n := Nat.mul_le_mul_right _ h2
      rwa [Nat.add_mul, Nat.one_mul] at this
    omega
theorem valF_mono {f : Nat → Nat} {a b : Nat} (h : a ≤ b) : valF f a ≤ valF f b := by
  induction b with
  | zero => have : a = 0 := by omega
            subst this; exact Nat.le_refl _
  | succ b ih =>
    by_cases e : a = b + 1
    · subst e; exact Nat.le_refl _
    · have := ih (by omega)
      rw [valF_succ]; omega
theorem valF_zeros {f : Nat → Nat} {a b : Nat} (h : a ≤ b) (hz : ∀ i, a ≤ i → i < b → f i = 0) : valF f b = valF f a := by
  induction b with
  | zero => have : a = 0 := by omega
            subst this; rfl
  | succ b ih =>
    by_cases e : a = b + 1
    · subst e; rfl
    · rw [valF_succ, hz b (by omega) (by omega), Nat.zero_mul, Nat.add_zero]
      exact ih (by omega) (fun i h1 h2 => hz i h1 (by omega))
theorem valF_ge {f : Nat → Nat} {n i : Nat} (hi : i < n) : f i * pw i ≤ valF f n := by
  have h1 : valF f (i + 1) ≤ valF f n := valF_mono hi
  rw [valF_succ] at h1
  omega

theorem getD_lt {l : List Nat} (h : small l) (i : Nat) : l.getD i 0 < 4294967296 := by
  rw [List.getD_eq_getElem?_getD]
  cases hx : l[i]? with
  | none => simp
  | some x => simpa using h x (List.mem_of_getElem? hx)
theorem val_lt {l : List Nat} (h : small l) : val l < pw l.length := valF_lt fun i _ => getD_lt h i
theorem val_nil : val [] = 0 := rfl
theorem val_ge {l : List Nat} (ht : trimd l) (h : 0 < l.length) : pw (l.length - 1) ≤ val l := by
  have h1 := ht h
  have h2 : l.getD (l.length - 1) 0 * pw (l.length - 1) ≤ val l := valF_ge (f := fun i => l.getD i 0) (i := l.length - 1) (by omega)
  have h3 : 1 * pw (l.length - 1) ≤ l.getD (l.length - 1) 0 * pw (l.length - 1) := Nat.mul_le_mul_right _ (by omega)
  omega
theorem val_zero {l : List Nat} (ht : trimd l) : val l = 0 ↔ l = [] := by
  constructor
  · intro h
    rcases Nat.eq_zero_or_pos l.length with h0 | h0
    · exact List.eq_nil_of_length_eq_zero h0
    · have := val_ge ht h0
      have := pw_pos (l.length - 1)
      omega
  · intro h; subst h; rfl
/-- a trimmed number below a power has no more words -/
theorem length_le {l : List Nat} (ht : trimd l) {k : Nat} (h : val l < pw k) : l.length ≤ k := by
  rcases Nat.eq_zero_or_pos l.length with h0 | h0
  · omega
  · have h1 := val_ge ht h0
    by_cases hk : l.length ≤ k
    · exact hk
    · have := pw_le (show k ≤ l.length - 1 by omega)
      omega

/-- words cut at the end -/
theorem val_take {l : List Nat} {n : Nat} (hn : n ≤ l.length) : val (l.take n) = valF (fun i => l.getD i 0) n := by
  unfold val
  rw [List.length_take, Nat.min_eq_left hn]
  refine valF_congr fun i hi => ?_
  rw [List.getD_eq_getElem?_getD, List.getD_eq_getElem?_getD, List.getElem?_take, if_pos hi]
theorem small_take {l : List Nat} (h : small l) (n : Nat) : small (l.take n) := fun x hx => h x (List.mem_of_mem_take hx)

/-- the sign of a comparison -/
def sgn (a b : Nat) : Int := if a < b then -1 else if b < a then 1 else 0
theorem cmp_len {a b : List Nat} (ha : small a) (hb : trimd b) (h : a.length < b.length) : val a < val b := by
  have h1 := val_lt ha
  have h2 := val_ge hb (by omega)
  have := pw_le (show a.length ≤ b.length - 1 by omega)
  omega
theorem cmp_top {f g : Nat → Nat} {n i : Nat} (hi : i < n) (hf : ∀ j, j < n → f j < 4294967296) (h : f i < g i) (he : ∀ j, i < j → j < n → f j = g j) : valF f n < valF g n := by
  induction n with
  | zero => omega
  | succ n ih =>
    by_cases e : i = n
    · subst e
      unfold valF
      have h1 := valF_lt (f := f) (n := i) (fun j hj => hf j (by omega))
      have h2 : f i * pw i + pw i ≤ g i * pw i := by
        have : (f i + 1) * pw i ≤ g i * pw i := Nat.mul_le_mul_right _ h
        rwa [Nat.add_mul, Nat.one_mul] at this
      omega
    · have := ih (by omega) (fun j hj => hf j (by omega)) (fun j h1 h2 => he j h1 (by omega))
      unfold valF
      rw [he n (by omega) (by omega)]
      omega

/-! ### addition -/
def cAdd (f g : Nat → Nat) : Nat → Nat
  | 0 => 0
  | i + 1 => (f i + g i + cAdd f g i) / 4294967296
def dAdd (f g : Nat → Nat) (i : Nat) : Nat := (f i + g i + cAdd f g i) % 4294967296
theorem cAdd_le {f g : Nat → Nat} (hf : ∀ i, f i < 4294967296) (hg : ∀ i, g i < 4294967296) : ∀ i, cAdd f g i ≤ 1
  | 0 => by simp [cAdd]
  | i + 1 => by
    have := cAdd_le hf hg i
    have := hf i
    have := hg i
    unfold cAdd; omega
theorem add_law (f g : Nat → Nat) : ∀ k, valF (dAdd f g) k + cAdd f g k * pw k = valF f k + valF g k
  | 0 => by simp [valF, cAdd]
  | k + 1 => by
    have ih := add_law f g k
    unfold valF
    have e1 : cAdd f g (k + 1) * pw (k + 1) + dAdd f g k * pw k = (f k + g k + cAdd f g k) * pw k := by
      unfold dAdd
      have e : cAdd f g (k + 1) = (f k + g k + cAdd f g k) / 4294967296 := rfl
      rw [e, pw_succ, ← Nat.mul_assoc, ← Nat.add_mul]
      congr 1
      omega
    rw [Nat.add_mul, Nat.add_mul] at e1
    omega

/-! ### subtraction -/
def cSub (f g : Nat → Nat) : Nat → Nat
  | 0 => 0
  | i + 1 => if f i < g i + cSub f g i then 1 else 0
def dSub (f g : Nat → Nat) (i : Nat) : Nat := if f i < g i + cSub f g i then f i + 4294967296 - (g i + cSub f g i) else f i - (g i + cSub f g i)
theorem cSub_le (f g : Nat → Nat) : ∀ i, cSub f g i ≤ 1
  | 0 => by simp [cSub]
  | i + 1 => by unfold cSub; split <;> omega
theorem dSub_lt {f g : Nat → Nat} (hf : ∀ i, f i < 4294967296) (i : Nat) : dSub f g i < 4294967296 := by
  unfold dSub; have := hf i; split <;> omega
theorem sub_law {f g : Nat → Nat} (hg : ∀ i, g i < 4294967296) : ∀ k, valF (dSub f g) k + valF g k = valF f k + cSub f g k * pw k
  | 0 => by simp [valF, cSub]
  | k + 1 => by
    have ih := sub_law (f := f) hg k
    have hc := cSub_le f g k
    have hgk := hg k
    unfold valF
    have e1 : dSub f g k + g k + cSub f g k = f k + cSub f g (k + 1) * 4294967296 := by
      unfold dSub
      have e : cSub f g (k + 1) = if f k < g k + cSub f g k then 1 else 0 := rfl
      rw [e]
      split <;> omega
    have e2 : (dSub f g k + g k + cSub f g k) * pw k = (f k + cSub f g (k + 1) * 4294967296) * pw k := by rw [e1]
    rw [Nat.add_mul, Nat.add_mul, Nat.add_mul, Nat.mul_assoc, ← pw_succ] at e2
    omega

/-! ### moving to the left -/
/-- words moved by s bits -/
def dLeft (f : Nat → Nat) (s : Nat) : Nat → Nat
  | 0 => f 0 * 2 ^ s % 4294967296
  | i + 1 => f (i + 1) * 2 ^ s % 4294967296 + f i * 2 ^ s / 4294967296
def hiLeft (f : Nat → Nat) (s : Nat) : Nat → Nat
  | 0 => 0
  | i + 1 => f i * 2 ^ s / 4294967296
theorem dLeft_eq (f : Nat → Nat) (s i : Nat) : dLeft f s i = f i * 2 ^ s % 4294967296 + hiLeft f s i := by cases i <;> rfl
theorem left_law (f : Nat → Nat) (s : Nat) : ∀ k, valF (dLeft f s) k + hiLeft f s k * pw k = valF f k * 2 ^ s
  | 0 => by simp [valF, hiLeft]
  | k + 1 => by
    have ih := left_law f s k
    unfold valF
    rw [dLeft_eq, Nat.add_mul, Nat.add_mul]
    have e1 : hiLeft f s (k + 1) * pw (k + 1) + f k * 2 ^ s % 4294967296 * pw k = f k * 2 ^ s * pw k := by
      show f k * 2 ^ s / 4294967296 * pw (k + 1) + _ = _
      rw [pw_succ, ← Nat.mul_assoc, ← Nat.add_mul]
      congr 1
      omega
    have e2 : f k * pw k * 2 ^ s = f k * 2 ^ s * pw k := by rw [Nat.mul_assoc, Nat.mul_comm (pw k), ← Nat.mul_assoc]
    omega
theorem hiLeft_lt {f : Nat → Nat} {s : Nat} (_hs : s < 32) (hf : ∀ i, f i < 4294967296) : ∀ i, hiLeft f s i < 2 ^ s
  | 0 => Nat.two_pow_pos s
  | i + 1 => by
    show f i * 2 ^ s / 4294967296 < 2 ^ s
    rw [Nat.div_lt_iff_lt_mul (by omega)]
    have := Nat.mul_lt_mul_of_pos_right (hf i) (Nat.two_pow_pos s)
    rwa [Nat.mul_comm 4294967296] at this
theorem low_mult (x s : Nat) (_hs : s < 32) : x * 2 ^ s % 4294967296 % 2 ^ s = 0 := by
  have e : (4294967296 : Nat) = 2 ^ s * 2 ^ (32 - s) := by rw [← Nat.pow_add, show s + (32 - s) = 32 by omega]
  rw [e, Nat.mul_comm x, Nat.mul_mod_mul_left, Nat.mul_mod_right]
theorem low_room (x s : Nat) (hs : s < 32) : x * 2 ^ s % 4294967296 + 2 ^ s ≤ 4294967296 := by
  have h1 := low_mult x s hs
  have h2 : x * 2 ^ s % 4294967296 < 4294967296 := Nat.mod_lt _ (by omega)
  have e : (4294967296 : Nat) = 2 ^ s * 2 ^ (32 - s) := by rw [← Nat.pow_add, show s + (32 - s) = 32 by omega]
  generalize x * 2 ^ s % 4294967296 = y at h1 h2
  have hd := Nat.div_add_mod y (2 ^ s)
  rw [h1, Nat.add_zero] at hd
  rw [e, ← hd] at h2
  have h3 := Nat.lt_of_mul_lt_mul_left h2
  have h4 : 2 ^ s * (y / 2 ^ s + 1) ≤ 2 ^ s * 2 ^ (32 - s) := Nat.mul_le_mul_left _ h3
  rw [Nat.mul_add, Nat.mul_one, hd, ← e] at h4
  exact h4
theorem dLeft_lt {f : Nat → Nat} {s : Nat} (hs : s < 32) (hf : ∀ i, f i < 4294967296) (i : Nat) : dLeft f s i < 4294967296 := by
  rw [dLeft_eq]
  have := low_room (f i) s hs
  have := hiLeft_lt hs hf i
  omega

/-- what stands behind w noughts -/
theorem valF_shift (f : Nat → Nat) (w : Nat) : ∀ n, valF (fun j => if j < w then 0 else f (j - w)) (w + n) = valF f n * pw w
  | 0 => by
    rw [Nat.add_zero, valF_zeros (a := 0) (Nat.zero_le _) (fun i _ hi => by rw [if_pos hi])]
    simp [valF]
  | n + 1 => by
    have ih := valF_shift f w n
    rw [← Nat.add_assoc]
    unfold valF
    rw [ih, if_neg (by omega), show w + n - w = n by omega, Nat.add_mul, Nat.mul_assoc, ← pw_add, Nat.add_comm w n]

/-! ### how many bits -/
def IsLen (x n : Nat) : Prop := (x = 0 → n = 0) ∧ (0 < x → 0 < n ∧ 2 ^ (n - 1) ≤ x ∧ x < 2 ^ n)
theorem isLen_half {t n : Nat} (h : IsLen (t / 2) n) (ht : t ≠ 0) : IsLen t (n + 1) := by
  refine ⟨fun h0 => absurd h0 ht, fun _ => ⟨by omega, ?_⟩⟩
  rcases Nat.eq_zero_or_pos (t / 2) with h0 | h0
  · have := h.1 h0
    subst this
    have : t = 1 := by omega
    subst this
    decide
  · obtain ⟨h1, h2, h3⟩ := h.2 h0
    have e : n + 1 - 1 = (n - 1) + 1 := by omega
    rw [e, Nat.pow_succ, Nat.pow_succ]
    omega
theorem isLen_val {f : Nat → Nat} {n b : Nat} (hf : ∀ i, f i < 4294967296) (h0 : f n ≠ 0) (hb : IsLen (f n) b) : IsLen (valF f (n + 1)) (n * 32 + b) := by
  obtain ⟨h1, h2, h3⟩ := hb.2 (by omega)
  have hl := valF_lt (f := f) (n := n) (fun i _ => hf i)
  have e1 : valF f (n + 1) = valF f n + f n * pw n := rfl
  have hp := pw_pos n
  have hge : 2 ^ (n * 32 + b - 1) ≤ f n * pw n := by
    rw [show n * 32 + b - 1 = (b - 1) + 32 * n by omega, Nat.pow_add, ← pw_two]
    exact Nat.mul_le_mul_right _ h2
  have hlt : f n * pw n + pw n ≤ 2 ^ (n * 32 + b) := by
    rw [show n * 32 + b = b + 32 * n by omega, Nat.pow_add, ← pw_two]
    have : (f n + 1) * pw n ≤ 2 ^ b * pw n := Nat.mul_le_mul_right _ h3
    rwa [Nat.add_mul, Nat.one_mul] at this
  have hpos : 0 < f n * pw n := Nat.mul_pos (by omega) hp
  exact ⟨fun h => by omega, fun _ => ⟨by omega, by omega, by omega⟩⟩
theorem isLen_lt {x n k : Nat} (h : IsLen x n) : n ≤ k ↔ x < 2 ^ k := by
  rcases Nat.eq_zero_or_pos x with h0 | h0
  · subst h0
    have := h.1 rfl
    have := Nat.two_pow_pos k
    omega
  · obtain ⟨h1, h2, h3⟩ := h.2 h0
    constructor
    · intro hk
      have : 2 ^ n ≤ 2 ^ k := Nat.pow_le_pow_right (by omega) hk
      omega
    · intro hx
      have : 2 ^ (n - 1) < 2 ^ k := by omega
      have := (Nat.pow_lt_pow_iff_right (by omega : 1 < 2)).1 this
      omega

end Go.Proofs.Ytlcpackmoolngaa.BigLaw
