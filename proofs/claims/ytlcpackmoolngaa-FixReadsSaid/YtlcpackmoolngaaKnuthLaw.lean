/- Long division of words, word by word from above: what its steps come to. No program in sight. -/
import Derived.Test.YtlcpackmoolngaaBigLaw
namespace Go.Proofs.Ytlcpackmoolngaa.BigLaw

theorem valF_add (f : Nat → Nat) (a : Nat) : ∀ b, valF f (a + b) = valF f a + valF (fun i => f (a + i)) b * pw a
  | 0 => by simp [valF]
  | b + 1 => by
    have ih := valF_add f a b
    rw [← Nat.add_assoc, valF_succ, valF_succ, ih, Nat.add_mul, pw_add, Nat.mul_comm (pw a), Nat.mul_assoc]
    omega

/-! ### a number by one word -/
def mulC (v : Nat → Nat) (g : Nat) : Nat → Nat
  | 0 => 0
  | i + 1 => (mulC v g i + g * v i) / 4294967296
def mulD (v : Nat → Nat) (g i : Nat) : Nat := (mulC v g i + g * v i) % 4294967296
theorem mulD_lt (v : Nat → Nat) (g i : Nat) : mulD v g i < 4294967296 := Nat.mod_lt _ (by omega)
theorem mul_le_word {x y : Nat} (hx : x ≤ 4294967295) (hy : y ≤ 4294967295) : x * y ≤ 18446744065119617025 := Nat.mul_le_mul hx hy
theorem mulC_lt {v : Nat → Nat} {g : Nat} (hg : g < 4294967296) (hv : ∀ i, v i < 4294967296) : ∀ i, mulC v g i < 4294967296
  | 0 => by simp [mulC]
  | i + 1 => by
    have ih := mulC_lt hg hv i
    have := mul_le_word (x := g) (y := v i) (by omega) (by have := hv i; omega)
    unfold mulC
    omega
theorem mul_law (v : Nat → Nat) (g : Nat) : ∀ k, valF (mulD v g) k + mulC v g k * pw k = g * valF v k
  | 0 => by simp [valF, mulC]
  | k + 1 => by
    have ih := mul_law v g k
    unfold valF
    have e1 : mulC v g (k + 1) * pw (k + 1) + mulD v g k * pw k = (mulC v g k + g * v k) * pw k := by
      show (mulC v g k + g * v k) / 4294967296 * pw (k + 1) + (mulC v g k + g * v k) % 4294967296 * pw k = _
      rw [pw_succ, ← Nat.mul_assoc, ← Nat.add_mul]
      congr 1
      omega
    rw [Nat.add_mul] at e1
    rw [Nat.mul_add, ← Nat.mul_assoc]
    omega

/-! ### one step -/
/-- the first two words of the divisor, and the rest below them -/
theorem val_two (v : Nat → Nat) (n : Nat) (hv : ∀ i, v i < 4294967296) :
    (v (n + 1) * 4294967296 + v n) * pw n ≤ valF v (n + 2) ∧ valF v (n + 2) < (v (n + 1) * 4294967296 + v n + 1) * pw n := by
  have h := valF_lt (f := v) (n := n) (fun i _ => hv i)
  have e : valF v (n + 2) = valF v n + v n * pw n + v (n + 1) * pw (n + 1) := rfl
  rw [e, pw_succ, ← Nat.mul_assoc, Nat.add_mul, Nat.add_mul, Nat.add_mul, Nat.one_mul]
  omega

/-- the first three words of what is divided, and the rest below them -/
theorem val_three (u : Nat → Nat) (n : Nat) (hu : ∀ i, u i < 4294967296) :
    ((u (n + 2) * 4294967296 + u (n + 1)) * 4294967296 + u n) * pw n ≤ valF u (n + 3) ∧ valF u (n + 3) < ((u (n + 2) * 4294967296 + u (n + 1)) * 4294967296 + u n + 1) * pw n := by
  have h := valF_lt (f := u) (n := n) (fun i _ => hu i)
  have e : valF u (n + 3) = valF u n + u n * pw n + u (n + 1) * pw (n + 1) + u (n + 2) * pw (n + 2) := rfl
  have p1 : pw (n + 1) = 4294967296 * pw n := pw_succ n
  have p2 : pw (n + 2) = 4294967296 * (4294967296 * pw n) := by rw [pw_succ, pw_succ]
  rw [e, p1, p2]
  have e1 : u (n + 1) * (4294967296 * pw n) = u (n + 1) * 4294967296 * pw n := by rw [Nat.mul_assoc]
  have e2 : u (n + 2) * (4294967296 * (4294967296 * pw n)) = u (n + 2) * 4294967296 * 4294967296 * pw n := by rw [← Nat.mul_assoc, ← Nat.mul_assoc]
  rw [e1, e2]
  have e3 : ((u (n + 2) * 4294967296 + u (n + 1)) * 4294967296 + u n) * pw n = u (n + 2) * 4294967296 * 4294967296 * pw n + u (n + 1) * 4294967296 * pw n + u n * pw n := by
    rw [Nat.add_mul, Nat.add_mul, Nat.add_mul]
  have e4 : ((u (n + 2) * 4294967296 + u (n + 1)) * 4294967296 + u n + 1) * pw n = u (n + 2) * 4294967296 * 4294967296 * pw n + u (n + 1) * 4294967296 * pw n + u n * pw n + pw n := by
    rw [Nat.add_mul, Nat.one_mul, e3]
  omega

/-- what the trial quotient g (with its rest r) is worth: at least the right one -/
def Trial (U V h top g r : Nat) : Prop := g * top + r = h ∧ U / V ≤ g

structure Step (u v : Nat → Nat) (n : Nat) : Prop where
  hu : ∀ i, u i < 4294967296
  hv : ∀ i, v i < 4294967296
  top : 2147483648 ≤ v (n + 1)
  lt : valF u (n + 3) < valF v (n + 2) * 4294967296

theorem Step.pos {u v : Nat → Nat} {n : Nat} (S : Step u v n) : 0 < valF v (n + 2) := by
  have := (val_two v n S.hv).1
  have h1 := S.top
  have h2 := pw_pos n
  have : 1 * pw n ≤ (v (n + 1) * 4294967296 + v n) * pw n := Nat.mul_le_mul_right _ (by omega)
  omega

/-- the two highest words are not above the divisor's highest -/
theorem Step.high {u v : Nat → Nat} {n : Nat} (S : Step u v n) : u (n + 2) ≤ v (n + 1) := by
  have h1 := (val_two v n S.hv).2
  have h2 := (val_three u n S.hu).1
  have h3 := S.lt
  have h4 : valF v (n + 2) * 4294967296 ≤ (v (n + 1) * 4294967296 + v n + 1) * pw n * 4294967296 := Nat.mul_le_mul_right _ (by omega)
  have h5 : ((u (n + 2) * 4294967296 + u (n + 1)) * 4294967296 + u n) * pw n < (v (n + 1) * 4294967296 + v n + 1) * 4294967296 * pw n := by
    have e : (v (n + 1) * 4294967296 + v n + 1) * 4294967296 * pw n = (v (n + 1) * 4294967296 + v n + 1) * pw n * 4294967296 := by rw [Nat.mul_right_comm]
    rw [e]; omega
  have h6 := Nat.lt_of_mul_lt_mul_right h5
  have := S.hv n
  omega

theorem Step.first {u v : Nat → Nat} {n : Nat} (S : Step u v n) :
    Trial (valF u (n + 3)) (valF v (n + 2)) (u (n + 2) * 4294967296 + u (n + 1)) (v (n + 1)) ((u (n + 2) * 4294967296 + u (n + 1)) / v (n + 1)) ((u (n + 2) * 4294967296 + u (n + 1)) % v (n + 1)) := by
  have hp := S.pos
  have ht := S.top
  refine ⟨by rw [Nat.mul_comm]; exact Nat.div_add_mod _ _, ?_⟩
  rw [Nat.le_div_iff_mul_le (by omega)]
  have hq : valF u (n + 3) / valF v (n + 2) * valF v (n + 2) ≤ valF u (n + 3) := Nat.div_mul_le_self _ _
  generalize valF u (n + 3) / valF v (n + 2) = q at hq
  have h1 := (val_two v n S.hv).1
  have h2 := (val_three u n S.hu).2
  have h3 : q * ((v (n + 1) * 4294967296 + v n) * pw n) ≤ q * valF v (n + 2) := Nat.mul_le_mul_left _ h1
  have h4 : q * (v (n + 1) * 4294967296 + v n) * pw n < ((u (n + 2) * 4294967296 + u (n + 1)) * 4294967296 + u n + 1) * pw n := by
    rw [Nat.mul_assoc]; omega
  have h5 := Nat.lt_of_mul_lt_mul_right h4
  rw [Nat.mul_add, ← Nat.mul_assoc] at h5
  have := S.hu n
  omega

/-- the trial quotient was too great: one less will do -/
theorem Step.less {u v : Nat → Nat} {n : Nat} (S : Step u v n) {g r : Nat}
    (h : Trial (valF u (n + 3)) (valF v (n + 2)) (u (n + 2) * 4294967296 + u (n + 1)) (v (n + 1)) g r) (hc : 4294967296 ≤ g ∨ r * 4294967296 + u n < g * v n) :
    0 < g ∧ Trial (valF u (n + 3)) (valF v (n + 2)) (u (n + 2) * 4294967296 + u (n + 1)) (v (n + 1)) (g - 1) (r + v (n + 1)) := by
  have hp := S.pos
  obtain ⟨h1, h2⟩ := h
  have hlt : valF u (n + 3) / valF v (n + 2) < g := by
    rcases hc with hc | hc
    · have : valF u (n + 3) / valF v (n + 2) < 4294967296 := by
        rw [Nat.div_lt_iff_lt_mul hp, Nat.mul_comm]; exact S.lt
      omega
    · rw [Nat.div_lt_iff_lt_mul hp]
      have h3 := (val_two v n S.hv).1
      have h4 := (val_three u n S.hu).2
      have h5 : g * ((v (n + 1) * 4294967296 + v n) * pw n) ≤ g * valF v (n + 2) := Nat.mul_le_mul_left _ h3
      have h6 : ((u (n + 2) * 4294967296 + u (n + 1)) * 4294967296 + u n + 1) * pw n ≤ g * (v (n + 1) * 4294967296 + v n) * pw n := by
        refine Nat.mul_le_mul_right _ ?_
        rw [Nat.mul_add, ← Nat.mul_assoc, ← h1, Nat.add_mul]
        omega
      rw [Nat.mul_assoc] at h6
      omega
  refine ⟨Nat.lt_of_le_of_lt (Nat.zero_le _) hlt, ?_, Nat.le_sub_one_of_lt hlt⟩
  have hg0 : 0 < g := Nat.lt_of_le_of_lt (Nat.zero_le _) hlt
  obtain ⟨k, rfl⟩ : ∃ k, g = k + 1 := ⟨g - 1, by omega⟩
  rw [Nat.add_mul, Nat.one_mul] at h1
  rw [Nat.add_sub_cancel]
  omega

/-- the trial quotient at the end of the trials: right, or one too great -/
theorem Step.last {u v : Nat → Nat} {n : Nat} (S : Step u v n) {g r : Nat}
    (h : Trial (valF u (n + 3)) (valF v (n + 2)) (u (n + 2) * 4294967296 + u (n + 1)) (v (n + 1)) g r) (hc : (g < 4294967296 ∧ g * v n ≤ r * 4294967296 + u n) ∨ 4294967296 ≤ r) :
    g < 4294967296 ∧ g * valF v (n + 2) < valF u (n + 3) + valF v (n + 2) := by
  have hhigh := S.high
  have ht := S.top
  have hv0 := S.hv n
  have hu1 := S.hu (n + 1)
  obtain ⟨h1, h2⟩ := h
  have hg : g < 4294967296 := by
    rcases hc with hc | hc
    · exact hc.1
    · have h3 : g * v (n + 1) < 4294967296 * v (n + 1) := by
        have : u (n + 2) * 4294967296 ≤ v (n + 1) * 4294967296 := Nat.mul_le_mul_right _ hhigh
        omega
      exact Nat.lt_of_mul_lt_mul_right h3
  have hm : g * v n ≤ r * 4294967296 + u n := by
    rcases hc with hc | hc
    · exact hc.2
    · have := mul_le_word (x := g) (y := v n) (by omega) (by omega)
      have : 4294967296 * 4294967296 ≤ r * 4294967296 := Nat.mul_le_mul_right _ hc
      omega
  refine ⟨hg, ?_⟩
  have h3 := (val_two v n S.hv)
  have h4 := (val_three u n S.hu).1
  have e1 : g * (v (n + 1) * 4294967296 + v n + 1) ≤ (u (n + 2) * 4294967296 + u (n + 1)) * 4294967296 + u n + 4294967296 := by
    rw [Nat.mul_add, Nat.mul_add, ← Nat.mul_assoc, ← h1, Nat.add_mul, Nat.mul_one]
    omega
  have e2 : g * valF v (n + 2) ≤ g * ((v (n + 1) * 4294967296 + v n + 1) * pw n) := Nat.mul_le_mul_left _ (by omega)
  have e3 : g * (v (n + 1) * 4294967296 + v n + 1) * pw n ≤ ((u (n + 2) * 4294967296 + u (n + 1)) * 4294967296 + u n + 4294967296) * pw n := Nat.mul_le_mul_right _ e1
  have e5 : ((u (n + 2) * 4294967296 + u (n + 1)) * 4294967296 + u n + 4294967296) * pw n = ((u (n + 2) * 4294967296 + u (n + 1)) * 4294967296 + u n) * pw n + 4294967296 * pw n := Nat.add_mul _ _ _
  rw [Nat.mul_assoc, e5] at e3
  have e4 : (4294967296 + 1) * pw n ≤ (v (n + 1) * 4294967296 + v n) * pw n := Nat.mul_le_mul_right _ (by omega)
  have hp := pw_pos n
  rw [Nat.add_mul] at e4
  omega

/-- what is taken away -/
theorem sub_step {u v : Nat → Nat} {n g : Nat} (_hu : ∀ i, u i < 4294967296) (hv : ∀ i, v i < 4294967296) (hz : v (n + 2) = 0) (hg : g < 4294967296) :
    valF (dSub u (mulD v g)) (n + 3) + g * valF v (n + 2) = valF u (n + 3) + cSub u (mulD v g) (n + 3) * pw (n + 3) := by
  have h1 := sub_law (f := u) (g := mulD v g) (fun i => mulD_lt v g i) (n + 3)
  have h2 := mul_law v g (n + 2)
  have h3 : valF (mulD v g) (n + 3) = valF (mulD v g) (n + 2) + mulD v g (n + 2) * pw (n + 2) := rfl
  have h4 : mulD v g (n + 2) = mulC v g (n + 2) := by
    have := mulC_lt hg hv (n + 2)
    unfold mulD; rw [hz]; omega
  rw [h4] at h3
  omega

/-- the words behind a step that took what was right -/
theorem Step.right_ {u v : Nat → Nat} {n g : Nat} (S : Step u v n) (hz : v (n + 2) = 0) (hg : g < 4294967296) (hge : valF u (n + 3) / valF v (n + 2) ≤ g) (hc : cSub u (mulD v g) (n + 3) = 0) :
    g = valF u (n + 3) / valF v (n + 2) ∧ valF (dSub u (mulD v g)) (n + 3) = valF u (n + 3) % valF v (n + 2) := by
  have h1 := sub_step S.hu S.hv hz hg
  rw [hc, Nat.zero_mul, Nat.add_zero] at h1
  have hp := S.pos
  have h2 : g ≤ valF u (n + 3) / valF v (n + 2) := by rw [Nat.le_div_iff_mul_le hp]; omega
  have e : g = valF u (n + 3) / valF v (n + 2) := by omega
  refine ⟨e, ?_⟩
  have := Nat.div_add_mod (valF u (n + 3)) (valF v (n + 2))
  rw [← e, Nat.mul_comm] at this
  omega

/-- the words behind a step that took too much and gave back -/
theorem Step.back {u v : Nat → Nat} {n g : Nat} (S : Step u v n) (hz : v (n + 2) = 0) (hg : g < 4294967296) (hl : g * valF v (n + 2) < valF u (n + 3) + valF v (n + 2)) (hc : cSub u (mulD v g) (n + 3) ≠ 0) :
    0 < g ∧ g - 1 = valF u (n + 3) / valF v (n + 2) ∧ valF (dAdd (dSub u (mulD v g)) v) (n + 3) = valF u (n + 3) % valF v (n + 2) := by
  have h1 := sub_step S.hu S.hv hz hg
  have hc1 : cSub u (mulD v g) (n + 3) = 1 := by have := cSub_le u (mulD v g) (n + 3); omega
  rw [hc1, Nat.one_mul] at h1
  have hp := S.pos
  have hD := valF_lt (f := dSub u (mulD v g)) (n := n + 3) (fun i _ => dSub_lt S.hu i)
  have hgp : 0 < g := by
    rcases Nat.eq_zero_or_pos g with e | e
    · subst e; rw [Nat.zero_mul] at h1; omega
    · exact e
  obtain ⟨k, rfl⟩ : ∃ k, g = k + 1 := ⟨g - 1, by omega⟩
  rw [Nat.add_sub_cancel]
  rw [Nat.add_mul, Nat.one_mul] at h1 hl
  have hk : k = valF u (n + 3) / valF v (n + 2) := by
    symm
    rw [Nat.div_eq_iff hp]
    omega
  have h3 := add_law (dSub u (mulD v (k + 1))) v (n + 3)
  have hV : valF v (n + 3) = valF v (n + 2) := by
    show valF v (n + 2) + v (n + 2) * pw (n + 2) = _
    rw [hz, Nat.zero_mul, Nat.add_zero]
  rw [hV] at h3
  have hA := valF_lt (f := dAdd (dSub u (mulD v (k + 1))) v) (n := n + 3) (fun i _ => Nat.mod_lt _ (by omega))
  have hca := cAdd_le (f := dSub u (mulD v (k + 1))) (g := v) (fun i => dSub_lt S.hu i) S.hv (n + 3)
  have hmod := Nat.div_add_mod (valF u (n + 3)) (valF v (n + 2))
  rw [← hk, Nat.mul_comm] at hmod
  have hlt := Nat.mod_lt (valF u (n + 3)) hp
  refine ⟨by omega, hk, ?_⟩
  have hVlt := valF_lt (f := v) (n := n + 2) (fun i _ => S.hv i)
  have hpw := pw_le (show n + 2 ≤ n + 3 by omega)
  rcases Nat.eq_zero_or_pos (cAdd (dSub u (mulD v (k + 1))) v (n + 3)) with e | e
  · rw [e, Nat.zero_mul] at h3
    omega
  · have e1 : cAdd (dSub u (mulD v (k + 1))) v (n + 3) = 1 := by omega
    rw [e1, Nat.one_mul] at h3
    omega

/-! ### the whole -/
theorem trial_bound {h top : Nat} (_ht : 2147483648 ≤ top) (hh : h ≤ top * 4294967296 + 4294967295) : h / top ≤ 4294967297 :=
  Nat.le_of_lt_succ (Nat.div_lt_of_lt_mul (show h < top * 4294967298 by omega))

/-- a window of other words -/
def win (u d : Nat → Nat) (j a p : Nat) : Nat := if p < j then u p else if p < j + a then d (p - j) else u p
theorem win_at (u d : Nat → Nat) (j a : Nat) : win u d j a (j + a) = u (j + a) := by
  unfold win; rw [if_neg (by omega), if_neg (by omega)]
theorem win_in (u d : Nat → Nat) {j a i : Nat} (hi : i < a) : win u d j a (j + i) = d i := by
  unfold win; rw [if_neg (by omega), if_pos (by omega), Nat.add_sub_cancel_left]
theorem win_out (u d : Nat → Nat) {j a p : Nat} (h : p < j ∨ j + a ≤ p) : win u d j a p = u p := by
  unfold win
  rcases h with h | h
  · rw [if_pos h]
  · rw [if_neg (by omega), if_neg (by omega)]
theorem win_win (u d e : Nat → Nat) (j a p : Nat) : win (win u d j a) e j a p = win u e j a p := by
  by_cases h : p < j ∨ j + a ≤ p
  · rw [win_out _ _ h, win_out _ _ h, win_out _ _ h]
  · obtain ⟨i, rfl⟩ : ∃ i, p = j + i := ⟨p - j, by omega⟩
    rw [win_in _ _ (show i < a by omega), win_in _ _ (show i < a by omega)]

/-- how it stands where the quotient's words from k on are found -/
structure Whole (U0 V : Nat) (u q : Nat → Nat) (n m k : Nat) : Prop where
  hu : ∀ i, u i < 4294967296
  hq : ∀ i, q i < 4294967296
  low : ∀ i, i < k → q i = 0
  high : ∀ i, k + n ≤ i → u i = 0
  lt : valF (fun i => u (k + i)) n < V
  sum : valF q (m + 1) * V + valF u (m + n + 1) = U0

theorem valF_set {f g : Nat → Nat} {L j a b : Nat} (h : L = j + a + b) (hlo : ∀ i, i < j → g i = f i) (hhi : ∀ i, j + a ≤ i → g i = f i) :
    valF g L + valF (fun i => f (j + i)) a * pw j = valF f L + valF (fun i => g (j + i)) a * pw j := by
  subst h
  rw [valF_add, valF_add, valF_add f, valF_add f, valF_congr (f := g) (g := f) (n := j) hlo, valF_congr (f := fun i => g (j + a + i)) (g := fun i => f (j + a + i)) (n := b) (fun i _ => hhi _ (by omega))]
  omega

theorem Whole.next {U0 V : Nat} {u q : Nat → Nat} {n m j : Nat} (h : Whole U0 V u q (n + 2) m (j + 1)) (hj : j ≤ m) (hVlt : V < pw (n + 2)) {d : Nat → Nat} {g : Nat} (hd : ∀ i, d i < 4294967296) (hg : g < 4294967296)
    (hsum : g * V + valF d (n + 3) = valF (fun i => u (j + i)) (n + 3)) (hlt : valF d (n + 3) < V) :
    Whole U0 V (fun i => if i < j then u i else if i < j + n + 3 then d (i - j) else u i) (fun i => if i = j then g else q i) (n + 2) m j := by
  have hu2 : valF (fun i => if j + i < j then u (j + i) else if j + i < j + n + 3 then d (j + i - j) else u (j + i)) (n + 3) = valF d (n + 3) :=
    valF_congr fun i hi => by
      show (if j + i < j then u (j + i) else if j + i < j + n + 3 then d (j + i - j) else u (j + i)) = d i
      rw [if_neg (by omega), if_pos (by omega), show j + i - j = i by omega]
  have htop : d (n + 2) = 0 := by
    have e : valF d (n + 3) = valF d (n + 2) + d (n + 2) * pw (n + 2) := rfl
    rcases Nat.eq_zero_or_pos (d (n + 2)) with h0 | h0
    · exact h0
    · have : 1 * pw (n + 2) ≤ d (n + 2) * pw (n + 2) := Nat.mul_le_mul_right _ h0
      omega
  refine ⟨fun i => ?_, fun i => ?_, fun i hi => ?_, fun i hi => ?_, ?_, ?_⟩
  · show (if i < j then u i else if i < j + n + 3 then d (i - j) else u i) < _
    have := h.hu i
    have := hd (i - j)
    split
    · assumption
    · split <;> assumption
  · show (if i = j then g else q i) < _
    have := h.hq i
    split <;> assumption
  · show (if i = j then g else q i) = 0
    rw [if_neg (by omega)]
    exact h.low i (by omega)
  · show (if i < j then u i else if i < j + n + 3 then d (i - j) else u i) = 0
    rw [if_neg (by omega)]
    split
    · rw [show i - j = n + 2 by omega]; exact htop
    · exact h.high i (by omega)
  · have e : valF (fun i => if j + i < j then u (j + i) else if j + i < j + n + 3 then d (j + i - j) else u (j + i)) (n + 3) = valF (fun i => if j + i < j then u (j + i) else if j + i < j + n + 3 then d (j + i - j) else u (j + i)) (n + 2) + (if j + (n + 2) < j then u (j + (n + 2)) else if j + (n + 2) < j + n + 3 then d (j + (n + 2) - j) else u (j + (n + 2))) * pw (n + 2) := rfl
    show valF (fun i => if j + i < j then u (j + i) else if j + i < j + n + 3 then d (j + i - j) else u (j + i)) (n + 2) < V
    omega
  · have hs := h.sum
    have e1 := valF_set (f := u) (g := fun i => if i < j then u i else if i < j + n + 3 then d (i - j) else u i) (L := m + (n + 2) + 1) (j := j) (a := n + 3) (b := m - j) (by omega)
      (fun i hi => by show (if i < j then u i else _) = _; rw [if_pos hi]) (fun i hi => by show (if i < j then u i else if i < j + n + 3 then d (i - j) else u i) = _; rw [if_neg (by omega), if_neg (by omega)])
    rw [hu2] at e1
    have e2 := valF_set (f := q) (g := fun i => if i = j then g else q i) (L := m + 1) (j := j) (a := 1) (b := m - j) (by omega)
      (fun i hi => by show (if i = j then g else q i) = _; rw [if_neg (by omega)]) (fun i hi => by show (if i = j then g else q i) = _; rw [if_neg (by omega)])
    have e3 : valF (fun i => if j + i = j then g else q (j + i)) 1 = g := by
      show 0 + (if j + 0 = j then g else q (j + 0)) * pw 0 = g
      rw [Nat.add_zero, if_pos rfl, pw_zero]; omega
    have e4 : valF (fun i => q (j + i)) 1 = 0 := by
      show 0 + q (j + 0) * pw 0 = 0
      rw [Nat.add_zero, h.low j (by omega)]; omega
    rw [e3, e4, Nat.zero_mul, Nat.add_zero] at e2
    show valF (fun i => if i = j then g else q i) (m + 1) * V + valF (fun i => if i < j then u i else if i < j + n + 3 then d (i - j) else u i) (m + (n + 2) + 1) = U0
    rw [e2, Nat.add_mul, ← hs]
    have e5 : g * pw j * V + valF d (n + 3) * pw j = valF (fun i => u (j + i)) (n + 3) * pw j := by
      rw [← hsum, Nat.add_mul, Nat.mul_right_comm]
    omega

theorem Whole.next' {U0 V : Nat} {u q : Nat → Nat} {n m j : Nat} (h : Whole U0 V u q (n + 2) m (j + 1)) (hj : j ≤ m) (hVlt : V < pw (n + 2)) {d : Nat → Nat} {g : Nat} (hd : ∀ i, d i < 4294967296) (hg : g < 4294967296)
    (hq : g = valF (fun i => u (j + i)) (n + 3) / V) (hr : valF d (n + 3) = valF (fun i => u (j + i)) (n + 3) % V) (hp : 0 < V) :
    Whole U0 V (win u d j (n + 3)) (fun i => if i = j then g else q i) (n + 2) m j :=
  h.next hj hVlt hd hg (by rw [hq, hr, Nat.mul_comm]; exact Nat.div_add_mod _ _) (by rw [hr]; exact Nat.mod_lt _ hp)

/-- at its end: the quotient and the rest -/
theorem Whole.done {U0 V : Nat} {u q : Nat → Nat} {n m : Nat} (h : Whole U0 V u q n m 0) : valF q (m + 1) = U0 / V ∧ valF u (m + n + 1) = U0 % V := by
  have h1 := h.sum
  have h2 := h.lt
  have e : valF u (m + n + 1) = valF u n := valF_zeros (by omega) (fun i hi _ => h.high i (by omega))
  have e2 : valF (fun i => u (0 + i)) n = valF u n := valF_congr fun i _ => by rw [Nat.zero_add]
  rw [e2] at h2
  rw [e] at h1 ⊢
  have hp : 0 < V := by omega
  constructor
  · symm
    rw [Nat.div_eq_iff hp]
    omega
  · rw [← h1, Nat.mul_add_mod_self_right, Nat.mod_eq_of_lt h2]

/-- the words above those that a step works on -/
theorem Whole.step {U0 V : Nat} {u q : Nat → Nat} {n m j : Nat} {v : Nat → Nat} (h : Whole U0 V u q (n + 2) m (j + 1)) (hv : ∀ i, v i < 4294967296) (hV : valF v (n + 2) = V) (ht : 2147483648 ≤ v (n + 1)) : Step (fun i => u (j + i)) v n := by
  refine ⟨fun i => h.hu _, hv, ht, ?_⟩
  have h1 := h.lt
  have h2 := h.hu j
  rw [hV]
  have e : valF (fun i => u (j + i)) (1 + (n + 2)) = _ := valF_add (fun i => u (j + i)) 1 (n + 2)
  have e1 : valF (fun i => u (j + i)) 1 = u j := by
    show 0 + u (j + 0) * pw 0 = _
    rw [pw_zero]; simp
  have e2 : valF (fun i => u (j + (1 + i))) (n + 2) = valF (fun i => u (j + 1 + i)) (n + 2) := valF_congr fun i _ => by rw [Nat.add_assoc]
  rw [show n + 3 = 1 + (n + 2) by omega, e, e1, e2, show pw 1 = 4294967296 from rfl]
  omega

/-- at its beginning -/
theorem Whole.first {U0 V : Nat} {u : Nat → Nat} {n m : Nat} (hu : ∀ i, u i < 4294967296) (hz : ∀ i, m + n + 2 ≤ i → u i = 0) (hV : pw (n + 1) ≤ V) (hs : valF u (m + n + 3) = U0) : Whole U0 V u (fun _ => 0) (n + 2) m (m + 1) := by
  refine ⟨hu, fun _ => by omega, fun _ _ => rfl, fun i hi => hz i (by omega), ?_, ?_⟩
  · have e : valF (fun i => u (m + 1 + i)) (n + 2) = valF (fun i => u (m + 1 + i)) (n + 1) + u (m + 1 + (n + 1)) * pw (n + 1) := rfl
    have h1 := valF_lt (f := fun i => u (m + 1 + i)) (n := n + 1) (fun i _ => hu _)
    rw [e, hz _ (by omega)]
    omega
  · have e : valF (fun _ => 0) (m + 1) = 0 := valF_zeros (a := 0) (Nat.zero_le _) (fun _ _ _ => rfl)
    rw [e, show m + (n + 2) + 1 = m + n + 3 by omega]
    omega

/-! ### how far the divisor is moved -/
theorem norm_len {b N s : Nat} (hN : IsLen b N) (hb : 4294967296 ≤ b) (hs : s + (N - 1) % 32 = 31) : ∃ n, n + 1 = (N - 1) / 32 ∧ b * 2 ^ s < pw (n + 2) ∧ 2147483648 * pw (n + 1) ≤ b * 2 ^ s := by
  obtain ⟨h1, h2, h3⟩ := hN.2 (by omega)
  have hN33 : 33 ≤ N := by
    rcases Nat.lt_or_ge N 33 with h | h
    · have : 2 ^ N ≤ 2 ^ 32 := Nat.pow_le_pow_right (by omega) (by omega)
      omega
    · exact h
  refine ⟨(N - 1) / 32 - 1, by omega, ?_, ?_⟩
  · rw [pw_two]
    have e : 2 ^ (32 * ((N - 1) / 32 - 1 + 2)) = 2 ^ N * 2 ^ s := by rw [← Nat.pow_add]; congr 1; omega
    rw [e]
    exact Nat.mul_lt_mul_of_pos_right h3 (Nat.two_pow_pos s)
  · have e : 2147483648 * pw ((N - 1) / 32 - 1 + 1) = 2 ^ (N - 1) * 2 ^ s := by
      rw [pw_two, show (2147483648 : Nat) = 2 ^ 31 from rfl, ← Nat.pow_add, ← Nat.pow_add]; congr 1; omega
    rw [e]
    exact Nat.mul_le_mul_right _ h2

theorem norm_top {l : List Nat} (hs : small l) (ht : trimd l) {n : Nat} (h1 : val l < pw (n + 2)) (h2 : 2147483648 * pw (n + 1) ≤ val l) : l.length = n + 2 ∧ 2147483648 ≤ l.getD (n + 1) 0 ∧ valF (fun i => l.getD i 0) (n + 2) = val l := by
  have hl := length_le ht h1
  have hl2 : n + 2 ≤ l.length := by
    rcases Nat.lt_or_ge l.length (n + 2) with h | h
    · have h3 := val_lt hs
      have := pw_le (show l.length ≤ n + 1 by omega)
      have := pw_pos (n + 1)
      omega
    · exact h
  have e : l.length = n + 2 := by omega
  have hv : valF (fun i => l.getD i 0) (n + 2) = val l := by unfold val; rw [e]
  refine ⟨e, ?_, hv⟩
  have h3 : valF (fun i => l.getD i 0) (n + 2) = valF (fun i => l.getD i 0) (n + 1) + l.getD (n + 1) 0 * pw (n + 1) := rfl
  have h4 := valF_lt (f := fun i => l.getD i 0) (n := n + 1) (fun i _ => getD_lt hs i)
  have h5 : 2147483648 * pw (n + 1) < (l.getD (n + 1) 0 + 1) * pw (n + 1) := by rw [Nat.add_mul]; omega
  have := Nat.lt_of_mul_lt_mul_right h5
  omega

end Go.Proofs.Ytlcpackmoolngaa.BigLaw
