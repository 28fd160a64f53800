import Derived.Test.YtjfllpmiajkenaaGreatPk9
import Derived.Test.YtjfllpmiajkenaaGreatPk10
import Derived.IntWalk
namespace Go.Proofs.YtjfllpmiajkenaaGreat.BigLaw
theorem valF_add (f : Nat → Nat) (a : Nat) : ∀ b, valF f (a + b) = valF f a + valF (fun i => f (a + i)) b * pw a
  | 0 => by simp [valF]
  | b + 1 => by
    have ih := valF_add f a b
    rw [← Nat.add_assoc, valF_succ, valF_succ, ih, Nat.add_mul, pw_add, Nat.mul_comm (pw a), Nat.mul_assoc]
    omega
def mulC (v : Nat → Nat) (g : Nat) : Nat → Nat
  | 0 => 0
  | i + 1 => (mulC v g i + g * v i) / 4294967296
def mulD (v : Nat → Nat) (g i : Nat) : Nat := (mulC v g i + g * v i) % 4294967296
theorem mulD_lt (v : Nat → Nat) (g i : Nat) : mulD v g i < 4294967296 := Nat.mod_lt _ (by omega)
theorem mul_le_word {x y : Nat} (hx : x ≤ 4294967295) (hy : y ≤ 4294967295) : x * y ≤ 18446744065119617025 := Nat.mul_le_mul hx hy
theorem mulC_lt {v : Nat → Nat} {g : Nat} (hg : g < 4294967296) (hv : ∀ i, v i < 4294967296) : ∀ i, mulC v g i < 4294967296
  | 0 => by simp [mulC]
  | i + 1 => by
    have ih := mulC_lt hg hv i
    have := mul_le_word (x := g) (y := v i) (by omega) (by have := hv i; omega)
    unfold mulC
    omega
theorem mul_law (v : Nat → Nat) (g : Nat) : ∀ k, valF (mulD v g) k + mulC v g k * pw k = g * valF v k
  | 0 => by simp [valF, mulC]
  | k + 1 => by
    have ih := mul_law v g k
    unfold valF
    have e1 : mulC v g (k + 1) * pw (k + 1) + mulD v g k * pw k = (mulC v g k + g * v k) * pw k := by
      show (mulC v g k + g * v k) / 4294967296 * pw (k + 1) + (mulC v g k + g * v k) % 4294967296 * pw k = _
      rw [pw_succ, ← Nat.mul_assoc, ← Nat.add_mul]
      congr 1
      omega
    rw [Nat.add_mul] at e1
    rw [Nat.mul_add, ← Nat.mul_assoc]
    omega
theorem val_two (v : Nat → Nat) (n : Nat) (hv : ∀ i, v i < 4294967296) :
    (v (n + 1) * 4294967296 + v n) * pw n ≤ valF v (n + 2) ∧ valF v (n + 2) < (v (n + 1) * 4294967296 + v n + 1) * pw n := by
  have h := valF_lt (f := v) (n := n) (fun i _ => hv i)
  have e : valF v (n + 2) = valF v n + v n * pw n + v (n + 1) * pw (n + 1) := rfl
  rw [e, pw_succ, ← Nat.mul_assoc, Nat.add_mul, Nat.add_mul, Nat.add_mul, Nat.one_mul]
  omega
theorem val_three (u : Nat → Nat) (n : Nat) (hu : ∀ i, u i < 4294967296) :
    ((u (n + 2) * 4294967296 + u (n + 1)) * 4294967296 + u n) * pw n ≤ valF u (n + 3) ∧ valF u (n + 3) < ((u (n + 2) * 4294967296 + u (n + 1)) * 4294967296 + u n + 1) * pw n := by
  have h := valF_lt (f := u) (n := n) (fun i _ => hu i)
  have e : valF u (n + 3) = valF u n + u n * pw n + u (n + 1) * pw (n + 1) + u (n + 2) * pw (n + 2) := rfl
  have p1 : pw (n + 1) = 4294967296 * pw n := pw_succ n
  have p2 : pw (n + 2) = 4294967296 * (4294967296 * pw n) := by rw [pw_succ, pw_succ]
  rw [e, p1, p2]
  have e1 : u (n + 1) * (4294967296 * pw n) = u (n + 1) * 4294967296 * pw n := by rw [Nat.mul_assoc]
  have e2 : u (n + 2) * (4294967296 * (4294967296 * pw n)) = u (n + 2) * 4294967296 * 4294967296 * pw n := by rw [← Nat.mul_assoc, ← Nat.mul_assoc]
  rw [e1, e2]
  have e3 : ((u (n + 2) * 4294967296 + u (n + 1)) * 4294967296 + u n) * pw n = u (n + 2) * 4294967296 * 4294967296 * pw n + u (n + 1) * 4294967296 * pw n + u n * pw n := by
    rw [Nat.add_mul, Nat.add_mul, Nat.add_mul]
  have e4 : ((u (n + 2) * 4294967296 + u (n + 1)) * 4294967296 + u n + 1) * pw n = u (n + 2) * 4294967296 * 4294967296 * pw n + u (n + 1) * 4294967296 * pw n + u n * pw n + pw n := by
    rw [Nat.add_mul, Nat.one_mul, e3]
  omega
def Trial (U V h top g r : Nat) : Prop := g * top + r = h ∧ U / V ≤ g
structure Step (u v : Nat → Nat) (n : Nat) : Prop where
  hu : ∀ i, u i < 4294967296
  hv : ∀ i, v i < 4294967296
  top : 2147483648 ≤ v (n + 1)
  lt : valF u (n + 3) < valF v (n + 2) * 4294967296
theorem Step.pos {u v : Nat → Nat} {n : Nat} (S : Step u v n) : 0 < valF v (n + 2) := by
  have := (val_two v n S.hv).1
  have h1 := S.top
  have h2 := pw_pos n
  have : 1 * pw n ≤ (v (n + 1) * 4294967296 + v n) * pw n := Nat.mul_le_mul_right _ (by omega)
  omega
theorem Step.high {u v : Nat → Nat} {n : Nat} (S : Step u v n) : u (n + 2) ≤ v (n + 1) := by
  have h1 := (val_two v n S.hv).2
  have h2 := (val_three u n S.hu).1
  have h3 := S.lt
  have h4 : valF v (n + 2) * 4294967296 ≤ (v (n + 1) * 4294967296 + v n + 1) * pw n * 4294967296 := Nat.mul_le_mul_right _ (by omega)
  have h5 : ((u (n + 2) * 4294967296 + u (n + 1)) * 4294967296 + u n) * pw n < (v (n + 1) * 4294967296 + v n + 1) * 4294967296 * pw n := by
    have e : (v (n + 1) * 4294967296 + v n + 1) * 4294967296 * pw n = (v (n + 1) * 4294967296 + v n + 1) * pw n * 4294967296 := by rw [Nat.mul_right_comm]
    rw [e]; omega
  have h6 := Nat.lt_of_mul_lt_mul_right h5
  have := S.hv n
  omega
theorem Step.first {u v : Nat → Nat} {n : Nat} (S : Step u v n) :
    Trial (valF u (n + 3)) (valF v (n + 2)) (u (n + 2) * 4294967296 + u (n + 1)) (v (n + 1)) ((u (n + 2) * 4294967296 + u (n + 1)) / v (n + 1)) ((u (n + 2) * 4294967296 + u (n + 1)) % v (n + 1)) := by
  have hp := S.pos
  have ht := S.top
  refine ⟨by rw [Nat.mul_comm]; exact Nat.div_add_mod _ _, ?_⟩
  rw [Nat.le_div_iff_mul_le (by omega)]
  have hq : valF u (n + 3) / valF v (n + 2) * valF v (n + 2) ≤ valF u (n + 3) := Nat.div_mul_le_self _ _
  generalize valF u (n + 3) / valF v (n + 2) = q at hq
  have h1 := (val_two v n S.hv).1
  have h2 := (val_three u n S.hu).2
  have h3 : q * ((v (n + 1) * 4294967296 + v n) * pw n) ≤ q * valF v (n + 2) := Nat.mul_le_mul_left _ h1
  have h4 : q * (v (n + 1) * 4294967296 + v n) * pw n < ((u (n + 2) * 4294967296 + u (n + 1)) * 4294967296 + u n + 1) * pw n := by
    rw [Nat.mul_assoc]; omega
  have h5 := Nat.lt_of_mul_lt_mul_right h4
  rw [Nat.mul_add, ← Nat.mul_assoc] at h5
  have := S.hu n
  omega
theorem Step.less {u v : Nat → Nat} {n : Nat} (S : Step u v n) {g r : Nat}
    (h : Trial (valF u (n + 3)) (valF v (n + 2)) (u (n + 2) * 4294967296 + u (n + 1)) (v (n + 1)) g r) (hc : 4294967296 ≤ g ∨ r * 4294967296 + u n < g * v n) :
    0 < g ∧ Trial (valF u (n + 3)) (valF v (n + 2)) (u (n + 2) * 4294967296 + u (n + 1)) (v (n + 1)) (g - 1) (r + v (n + 1)) := by
  have hp := S.pos
  obtain ⟨h1, h2⟩ := h
  have hlt : valF u (n + 3) / valF v (n + 2) < g := by
    rcases hc with hc | hc
    · have : valF u (n + 3) / valF v (n + 2) < 4294967296 := by
        rw [Nat.div_lt_iff_lt_mul hp, Nat.mul_comm]; exact S.lt
      omega
    · rw [Nat.div_lt_iff_lt_mul hp]
      have h3 := (val_two v n S.hv).1
      have h4 := (val_three u n S.hu).2
      have h5 : g * ((v (n + 1) * 4294967296 + v n) * pw n) ≤ g * valF v (n + 2) := Nat.mul_le_mul_left _ h3
      have h6 : ((u (n + 2) * 4294967296 + u (n + 1)) * 4294967296 + u n + 1) * pw n ≤ g * (v (n + 1) * 4294967296 + v n) * pw n := by
        refine Nat.mul_le_mul_right _ ?_
        rw [Nat.mul_add, ← Nat.mul_assoc, ← h1, Nat.add_mul]
        omega
      rw [Nat.mul_assoc] at h6
      omega
  refine ⟨Nat.lt_of_le_of_lt (Nat.zero_le _) hlt, ?_, Nat.le_sub_one_of_lt hlt⟩
  have hg0 : 0 < g := Nat.lt_of_le_of_lt (Nat.zero_le _) hlt
  obtain ⟨k, rfl⟩ : ∃ k, g = k + 1 := ⟨g - 1, by omega⟩
  rw [Nat.add_mul, Nat.one_mul] at h1
  rw [Nat.add_sub_cancel]
  omega
theorem Step.last {u v : Nat → Nat} {n : Nat} (S : Step u v n) {g r : Nat}
    (h : Trial (valF u (n + 3)) (valF v (n + 2)) (u (n + 2) * 4294967296 + u (n + 1)) (v (n + 1)) g r) (hc : (g < 4294967296 ∧ g * v n ≤ r * 4294967296 + u n) ∨ 4294967296 ≤ r) :
    g < 4294967296 ∧ g * valF v (n + 2) < valF u (n + 3) + valF v (n + 2) := by
  have hhigh := S.high
  have ht := S.top
  have hv0 := S.hv n
  have hu1 := S.hu (n + 1)
  obtain ⟨h1, h2⟩ := h
  have hg : g < 4294967296 := by
    rcases hc with hc | hc
    · exact hc.1
    · have h3 : g * v (n + 1) < 4294967296 * v (n + 1) := by
        have : u (n + 2) * 4294967296 ≤ v (n + 1) * 4294967296 := Nat.mul_le_mul_right _ hhigh
        omega
      exact Nat.lt_of_mul_lt_mul_right h3
  have hm : g * v n ≤ r * 4294967296 + u n := by
    rcases hc with hc | hc
    · exact hc.2
    · have := mul_le_word (x := g) (y := v n) (by omega) (by omega)
      have : 4294967296 * 4294967296 ≤ r * 4294967296 := Nat.mul_le_mul_right _ hc
      omega
  refine ⟨hg, ?_⟩
  have h3 := (val_two v n S.hv)
  have h4 := (val_three u n S.hu).1
  have e1 : g * (v (n + 1) * 4294967296 + v n + 1) ≤ (u (n + 2) * 4294967296 + u (n + 1)) * 4294967296 + u n + 4294967296 := by
    rw [Nat.mul_add, Nat.mul_add, ← Nat.mul_assoc, ← h1, Nat.add_mul, Nat.mul_one]
    omega
  have e2 : g * valF v (n + 2) ≤ g * ((v (n + 1) * 4294967296 + v n + 1) * pw n) := Nat.mul_le_mul_left _ (by omega)
  have e3 : g * (v (n + 1) * 4294967296 + v n + 1) * pw n ≤ ((u (n + 2) * 4294967296 + u (n + 1)) * 4294967296 + u n + 4294967296) * pw n := Nat.mul_le_mul_right _ e1
  have e5 : ((u (n + 2) * 4294967296 + u (n + 1)) * 4294967296 + u n + 4294967296) * pw n = ((u (n + 2) * 4294967296 + u (n + 1)) * 4294967296 + u n) * pw n + 4294967296 * pw n := Nat.add_mul _ _ _
  rw [Nat.mul_assoc, e5] at e3
  have e4 : (4294967296 + 1) * pw n ≤ (v (n + 1) * 4294967296 + v n) * pw n := Nat.mul_le_mul_right _ (by omega)
  have hp := pw_pos n
  rw [Nat.add_mul] at e4
  omega
theorem sub_step {u v : Nat → Nat} {n g : Nat} (_hu : ∀ i, u i < 4294967296) (hv : ∀ i, v i < 4294967296) (hz : v (n + 2) = 0) (hg : g < 4294967296) :
    valF (dSub u (mulD v g)) (n + 3) + g * valF v (n + 2) = valF u (n + 3) + cSub u (mulD v g) (n + 3) * pw (n + 3) := by
  have h1 := sub_law (f := u) (g := mulD v g) (fun i => mulD_lt v g i) (n + 3)
  have h2 := mul_law v g (n + 2)
  have h3 : valF (mulD v g) (n + 3) = valF (mulD v g) (n + 2) + mulD v g (n + 2) * pw (n + 2) := rfl
  have h4 : mulD v g (n + 2) = mulC v g (n + 2) := by
    have := mulC_lt hg hv (n + 2)
    unfold mulD; rw [hz]; omega
  rw [h4] at h3
  omega
theorem Step.right_ {u v : Nat → Nat} {n g : Nat} (S : Step u v n) (hz : v (n + 2) = 0) (hg : g < 4294967296) (hge : valF u (n + 3) / valF v (n + 2) ≤ g) (hc : cSub u (mulD v g) (n + 3) = 0) :
    g = valF u (n + 3) / valF v (n + 2) ∧ valF (dSub u (mulD v g)) (n + 3) = valF u (n + 3) % valF v (n + 2) := by
  have h1 := sub_step S.hu S.hv hz hg
  rw [hc, Nat.zero_mul, Nat.add_zero] at h1
  have hp := S.pos
  have h2 : g ≤ valF u (n + 3) / valF v (n + 2) := by rw [Nat.le_div_iff_mul_le hp]; omega
  have e : g = valF u (n + 3) / valF v (n + 2) := by omega
  refine ⟨e, ?_⟩
  have := Nat.div_add_mod (valF u (n + 3)) (valF v (n + 2))
  rw [← e, Nat.mul_comm] at this
  omega
theorem Step.back {u v : Nat → Nat} {n g : Nat} (S : Step u v n) (hz : v (n + 2) = 0) (hg : g < 4294967296) (hl : g * valF v (n + 2) < valF u (n + 3) + valF v (n + 2)) (hc : cSub u (mulD v g) (n + 3) ≠ 0) :
    0 < g ∧ g - 1 = valF u (n + 3) / valF v (n + 2) ∧ valF (dAdd (dSub u (mulD v g)) v) (n + 3) = valF u (n + 3) % valF v (n + 2) := by
  have h1 := sub_step S.hu S.hv hz hg
  have hc1 : cSub u (mulD v g) (n + 3) = 1 := by have := cSub_le u (mulD v g) (n + 3); omega
  rw [hc1, Nat.one_mul] at h1
  have hp := S.pos
  have hD := valF_lt (f := dSub u (mulD v g)) (n := n + 3) (fun i _ => dSub_lt S.hu i)
  have hgp : 0 < g := by
    rcases Nat.eq_zero_or_pos g with e | e
    · subst e; rw [Nat.zero_mul] at h1; omega
    · exact e
  obtain ⟨k, rfl⟩ : ∃ k, g = k + 1 := ⟨g - 1, by omega⟩
  rw [Nat.add_sub_cancel]
  rw [Nat.add_mul, Nat.one_mul] at h1 hl
  have hk : k = valF u (n + 3) / valF v (n + 2) := by
    symm
    rw [Nat.div_eq_iff hp]
    omega
  have h3 := add_law (dSub u (mulD v (k + 1))) v (n + 3)
  have hV : valF v (n + 3) = valF v (n + 2) := by
    show valF v (n + 2) + v (n + 2) * pw (n + 2) = _
    rw [hz, Nat.zero_mul, Nat.add_zero]
  rw [hV] at h3
  have hA := valF_lt (f := dAdd (dSub u (mulD v (k + 1))) v) (n := n + 3) (fun i _ => Nat.mod_lt _ (by omega))
  have hca := cAdd_le (f := dSub u (mulD v (k + 1))) (g := v) (fun i => dSub_lt S.hu i) S.hv (n + 3)
  have hmod := Nat.div_add_mod (valF u (n + 3)) (valF v (n + 2))
  rw [← hk, Nat.mul_comm] at hmod
  have hlt := Nat.mod_lt (valF u (n + 3)) hp
  refine ⟨by omega, hk, ?_⟩
  have hVlt := valF_lt (f := v) (n := n + 2) (fun i _ => S.hv i)
  have hpw := pw_le (show n + 2 ≤ n + 3 by omega)
  rcases Nat.eq_zero_or_pos (cAdd (dSub u (mulD v (k + 1))) v (n + 3)) with e | e
  · rw [e, Nat.zero_mul] at h3
    omega
  · have e1 : cAdd (dSub u (mulD v (k + 1))) v (n + 3) = 1 := by omega
    rw [e1, Nat.one_mul] at h3
    omega
theorem trial_bound {h top : Nat} (_ht : 2147483648 ≤ top) (hh : h ≤ top * 4294967296 + 4294967295) : h / top ≤ 4294967297 :=
  Nat.le_of_lt_succ (Nat.div_lt_of_lt_mul (show h < top * 4294967298 by omega))
def win (u d : Nat → Nat) (j a p : Nat) : Nat := if p < j then u p else if p < j + a then d (p - j) else u p
theorem win_at (u d : Nat → Nat) (j a : Nat) : win u d j a (j + a) = u (j + a) := by
  unfold win; rw [if_neg (by omega), if_neg (by omega)]
theorem win_in (u d : Nat → Nat) {j a i : Nat} (hi : i < a) : win u d j a (j + i) = d i := by
  unfold win; rw [if_neg (by omega), if_pos (by omega), Nat.add_sub_cancel_left]
theorem win_out (u d : Nat → Nat) {j a p : Nat} (h : p < j ∨ j + a ≤ p) : win u d j a p = u p := by
  unfold win
  rcases h with h | h
  · rw [if_pos h]
  · rw [if_neg (by omega), if_neg (by omega)]
theorem win_win (u d e : Nat → Nat) (j a p : Nat) : win (win u d j a) e j a p = win u e j a p := by
  by_cases h : p < j ∨ j + a ≤ p
  · rw [win_out _ _ h, win_out _ _ h, win_out _ _ h]
  · obtain ⟨i, rfl⟩ : ∃ i, p = j + i := ⟨p - j, by omega⟩
    rw [win_in _ _ (show i < a by omega), win_in _ _ (show i < a by omega)]
structure Whole (U0 V : Nat) (u q : Nat → Nat) (n m k : Nat) : Prop where
  hu : ∀ i, u i < 4294967296
  hq : ∀ i, q i < 4294967296
  low : ∀ i, i < k → q i = 0
  high : ∀ i, k + n ≤ i → u i = 0
  lt : valF (fun i => u (k + i)) n < V
  sum : valF q (m + 1) * V + valF u (m + n + 1) = U0
theorem valF_set {f g : Nat → Nat} {L j a b : Nat} (h : L = j + a + b) (hlo : ∀ i, i < j → g i = f i) (hhi : ∀ i, j + a ≤ i → g i = f i) :
    valF g L + valF (fun i => f (j + i)) a * pw j = valF f L + valF (fun i => g (j + i)) a * pw j := by
  subst h
  rw [valF_add, valF_add, valF_add f, valF_add f, valF_congr (f := g) (g := f) (n := j) hlo, valF_congr (f := fun i => g (j + a + i)) (g := fun i => f (j + a + i)) (n := b) (fun i _ => hhi _ (by omega))]
  omega
theorem Whole.next {U0 V : Nat} {u q : Nat → Nat} {n m j : Nat} (h : Whole U0 V u q (n + 2) m (j + 1)) (hj : j ≤ m) (hVlt : V < pw (n + 2)) {d : Nat → Nat} {g : Nat} (hd : ∀ i, d i < 4294967296) (hg : g < 4294967296)
    (hsum : g * V + valF d (n + 3) = valF (fun i => u (j + i)) (n + 3)) (hlt : valF d (n + 3) < V) :
    Whole U0 V (fun i => if i < j then u i else if i < j + n + 3 then d (i - j) else u i) (fun i => if i = j then g else q i) (n + 2) m j := by
  have hu2 : valF (fun i => if j + i < j then u (j + i) else if j + i < j + n + 3 then d (j + i - j) else u (j + i)) (n + 3) = valF d (n + 3) :=
    valF_congr fun i hi => by
      show (if j + i < j then u (j + i) else if j + i < j + n + 3 then d (j + i - j) else u (j + i)) = d i
      rw [if_neg (by omega), if_pos (by omega), show j + i - j = i by omega]
  have htop : d (n + 2) = 0 := by
    have e : valF d (n + 3) = valF d (n + 2) + d (n + 2) * pw (n + 2) := rfl
    rcases Nat.eq_zero_or_pos (d (n + 2)) with h0 | h0
    · exact h0
    · have : 1 * pw (n + 2) ≤ d (n + 2) * pw (n + 2) := Nat.mul_le_mul_right _ h0
      omega
  refine ⟨fun i => ?_, fun i => ?_, fun i hi => ?_, fun i hi => ?_, ?_, ?_⟩
  · show (if i < j then u i else if i < j + n + 3 then d (i - j) else u i) < _
    have := h.hu i
    have := hd (i - j)
    split
    · assumption
    · split <;> assumption
  · show (if i = j then g else q i) < _
    have := h.hq i
    split <;> assumption
  · show (if i = j then g else q i) = 0
    rw [if_neg (by omega)]
    exact h.low i (by omega)
  · show (if i < j then u i else if i < j + n + 3 then d (i - j) else u i) = 0
    rw [if_neg (by omega)]
    split
    · rw [show i - j = n + 2 by omega]; exact htop
    · exact h.high i (by omega)
  · have e : valF (fun i => if j + i < j then u (j + i) else if j + i < j + n + 3 then d (j + i - j) else u (j + i)) (n + 3) = valF (fun i => if j + i < j then u (j + i) else if j + i < j + n + 3 then d (j + i - j) else u (j + i)) (n + 2) + (if j + (n + 2) < j then u (j + (n + 2)) else if j + (n + 2) < j + n + 3 then d (j + (n + 2) - j) else u (j + (n + 2))) * pw (n + 2) := rfl
    show valF (fun i => if j + i < j then u (j + i) else if j + i < j + n + 3 then d (j + i - j) else u (j + i)) (n + 2) < V
    omega
  · have hs := h.sum
    have e1 := valF_set (f := u) (g := fun i => if i < j then u i else if i < j + n + 3 then d (i - j) else u i) (L := m + (n + 2) + 1) (j := j) (a := n + 3) (b := m - j) (by omega)
      (fun i hi => by show (if i < j then u i else _) = _; rw [if_pos hi]) (fun i hi => by show (if i < j then u i else if i < j + n + 3 then d (i - j) else u i) = _; rw [if_neg (by omega), if_neg (by omega)])
    rw [hu2] at e1
    have e2 := valF_set (f := q) (g := fun i => if i = j then g else q i) (L := m + 1) (j := j) (a := 1) (b := m - j) (by omega)
      (fun i hi => by show (if i = j then g else q i) = _; rw [if_neg (by omega)]) (fun i hi => by show (if i = j then g else q i) = _; rw [if_neg (by omega)])
    have e3 : valF (fun i => if j + i = j then g else q (j + i)) 1 = g := by
      show 0 + (if j + 0 = j then g else q (j + 0)) * pw 0 = g
      rw [Nat.add_zero, if_pos rfl, pw_zero]; omega
    have e4 : valF (fun i => q (j + i)) 1 = 0 := by
      show 0 + q (j + 0) * pw 0 = 0
      rw [Nat.add_zero, h.low j (by omega)]; omega
    rw [e3, e4, Nat.zero_mul, Nat.add_zero] at e2
    show valF (fun i => if i = j then g else q i) (m + 1) * V + valF (fun i => if i < j then u i else if i < j + n + 3 then d (i - j) else u i) (m + (n + 2) + 1) = U0
    rw [e2, Nat.add_mul, ← hs]
    have e5 : g * pw j * V + valF d (n + 3) * pw j = valF (fun i => u (j + i)) (n + 3) * pw j := by
      rw [← hsum, Nat.add_mul, Nat.mul_right_comm]
    omega
theorem Whole.next' {U0 V : Nat} {u q : Nat → Nat} {n m j : Nat} (h : Whole U0 V u q (n + 2) m (j + 1)) (hj : j ≤ m) (hVlt : V < pw (n + 2)) {d : Nat → Nat} {g : Nat} (hd : ∀ i, d i < 4294967296) (hg : g < 4294967296)
    (hq : g = valF (fun i => u (j + i)) (n + 3) / V) (hr : valF d (n + 3) = valF (fun i => u (j + i)) (n + 3) % V) (hp : 0 < V) :
    Whole U0 V (win u d j (n + 3)) (fun i => if i = j then g else q i) (n + 2) m j :=
  h.next hj hVlt hd hg (by rw [hq, hr, Nat.mul_comm]; exact Nat.div_add_mod _ _) (by rw [hr]; exact Nat.mod_lt _ hp)
theorem Whole.done {U0 V : Nat} {u q : Nat → Nat} {n m : Nat} (h : Whole U0 V u q n m 0) : valF q (m + 1) = U0 / V ∧ valF u (m + n + 1) = U0 % V := by
  have h1 := h.sum
  have h2 := h.lt
  have e : valF u (m + n + 1) = valF u n := valF_zeros (by omega) (fun i hi _ => h.high i (by omega))
  have e2 : valF (fun i => u (0 + i)) n = valF u n := valF_congr fun i _ => by rw [Nat.zero_add]
  rw [e2] at h2
  rw [e] at h1 ⊢
  have hp : 0 < V := by omega
  constructor
  · symm
    rw [Nat.div_eq_iff hp]
    omega
  · rw [← h1, Nat.mul_add_mod_self_right, Nat.mod_eq_of_lt h2]
theorem Whole.step {U0 V : Nat} {u q : Nat → Nat} {n m j : Nat} {v : Nat → Nat} (h : Whole U0 V u q (n + 2) m (j + 1)) (hv : ∀ i, v i < 4294967296) (hV : valF v (n + 2) = V) (ht : 2147483648 ≤ v (n + 1)) : Step (fun i => u (j + i)) v n := by
  refine ⟨fun i => h.hu _, hv, ht, ?_⟩
  have h1 := h.lt
  have h2 := h.hu j
  rw [hV]
  have e : valF (fun i => u (j + i)) (1 + (n + 2)) = _ := valF_add (fun i => u (j + i)) 1 (n + 2)
  have e1 : valF (fun i => u (j + i)) 1 = u j := by
    show 0 + u (j + 0) * pw 0 = _
    rw [pw_zero]; simp
  have e2 : valF (fun i => u (j + (1 + i))) (n + 2) = valF (fun i => u (j + 1 + i)) (n + 2) := valF_congr fun i _ => by rw [Nat.add_assoc]
  rw [show n + 3 = 1 + (n + 2) by omega, e, e1, e2, show pw 1 = 4294967296 from rfl]
  omega
theorem Whole.first {U0 V : Nat} {u : Nat → Nat} {n m : Nat} (hu : ∀ i, u i < 4294967296) (hz : ∀ i, m + n + 2 ≤ i → u i = 0) (hV : pw (n + 1) ≤ V) (hs : valF u (m + n + 3) = U0) : Whole U0 V u (fun _ => 0) (n + 2) m (m + 1) := by
  refine ⟨hu, fun _ => by omega, fun _ _ => rfl, fun i hi => hz i (by omega), ?_, ?_⟩
  · have e : valF (fun i => u (m + 1 + i)) (n + 2) = valF (fun i => u (m + 1 + i)) (n + 1) + u (m + 1 + (n + 1)) * pw (n + 1) := rfl
    have h1 := valF_lt (f := fun i => u (m + 1 + i)) (n := n + 1) (fun i _ => hu _)
    rw [e, hz _ (by omega)]
    omega
  · have e : valF (fun _ => 0) (m + 1) = 0 := valF_zeros (a := 0) (Nat.zero_le _) (fun _ _ _ => rfl)
    rw [e, show m + (n + 2) + 1 = m + n + 3 by omega]
    omega
theorem norm_len {b N s : Nat} (hN : IsLen b N) (hb : 4294967296 ≤ b) (hs : s + (N - 1) % 32 = 31) : ∃ n, n + 1 = (N - 1) / 32 ∧ b * 2 ^ s < pw (n + 2) ∧ 2147483648 * pw (n + 1) ≤ b * 2 ^ s := by
  obtain ⟨h1, h2, h3⟩ := hN.2 (by omega)
  have hN33 : 33 ≤ N := by
    rcases Nat.lt_or_ge N 33 with h | h
    · have : 2 ^ N ≤ 2 ^ 32 := Nat.pow_le_pow_right (by omega) (by omega)
      omega
    · exact h
  refine ⟨(N - 1) / 32 - 1, by omega, ?_, ?_⟩
  · rw [pw_two]
    have e : 2 ^ (32 * ((N - 1) / 32 - 1 + 2)) = 2 ^ N * 2 ^ s := by rw [← Nat.pow_add]; congr 1; omega
    rw [e]
    exact Nat.mul_lt_mul_of_pos_right h3 (Nat.two_pow_pos s)
  · have e : 2147483648 * pw ((N - 1) / 32 - 1 + 1) = 2 ^ (N - 1) * 2 ^ s := by
      rw [pw_two, show (2147483648 : Nat) = 2 ^ 31 from rfl, ← Nat.pow_add, ← Nat.pow_add]; congr 1; omega
    rw [e]
    exact Nat.mul_le_mul_right _ h2
theorem norm_top {l : List Nat} (hs : small l) (ht : trimd l) {n : Nat} (h1 : val l < pw (n + 2)) (h2 : 2147483648 * pw (n + 1) ≤ val l) : l.length = n + 2 ∧ 2147483648 ≤ l.getD (n + 1) 0 ∧ valF (fun i => l.getD i 0) (n + 2) = val l := by
  have hl := length_le ht h1
  have hl2 : n + 2 ≤ l.length := by
    rcases Nat.lt_or_ge l.length (n + 2) with h | h
    · have h3 := val_lt hs
      have := pw_le (show l.length ≤ n + 1 by omega)
      have := pw_pos (n + 1)
      omega
    · exact h
  have e : l.length = n + 2 := by omega
  have hv : valF (fun i => l.getD i 0) (n + 2) = val l := by unfold val; rw [e]
  refine ⟨e, ?_, hv⟩
  have h3 : valF (fun i => l.getD i 0) (n + 2) = valF (fun i => l.getD i 0) (n + 1) + l.getD (n + 1) 0 * pw (n + 1) := rfl
  have h4 := valF_lt (f := fun i => l.getD i 0) (n := n + 1) (fun i _ => getD_lt hs i)
  have h5 : 2147483648 * pw (n + 1) < (l.getD (n + 1) 0 + 1) * pw (n + 1) := by rw [Nat.add_mul]; omega
  have := Nat.lt_of_mul_lt_mul_right h5
  omega
end Go.Proofs.YtjfllpmiajkenaaGreat.BigLaw
namespace Go.Proofs.YtjfllpmiajkenaaGreat.BigLaw
def dRight (f : Nat → Nat) (s i : Nat) : Nat := (f i + f (i + 1) * 4294967296) / 2 ^ s % 4294967296
theorem word_cut {s : Nat} (hs : s < 32) : 2 ^ s * 2 ^ (32 - s) = 4294967296 := by
  rw [← Nat.pow_add, show s + (32 - s) = 32 by omega]
theorem dRight_eq {f : Nat → Nat} {s : Nat} (hs : s < 32) (hf : ∀ i, f i < 4294967296) (i : Nat) : dRight f s i = f i / 2 ^ s + f (i + 1) % 2 ^ s * 2 ^ (32 - s) := by
  have hc := word_cut hs
  have hp := Nat.two_pow_pos s
  have hp2 := Nat.two_pow_pos (32 - s)
  unfold dRight
  have e1 : f (i + 1) * 4294967296 = f (i + 1) * 2 ^ (32 - s) * 2 ^ s := by rw [← hc, Nat.mul_assoc, Nat.mul_comm (2 ^ s)]
  rw [e1, Nat.add_mul_div_right _ _ hp]
  have e2 : f (i + 1) * 2 ^ (32 - s) = f (i + 1) % 2 ^ s * 2 ^ (32 - s) + f (i + 1) / 2 ^ s * 4294967296 := by
    have h0 : f (i + 1) * 2 ^ (32 - s) = (2 ^ s * (f (i + 1) / 2 ^ s) + f (i + 1) % 2 ^ s) * 2 ^ (32 - s) := by rw [Nat.div_add_mod]
    rw [h0, Nat.add_mul, Nat.mul_right_comm, hc, Nat.mul_comm 4294967296, Nat.add_comm]
  rw [e2, ← Nat.add_assoc, Nat.add_mul_mod_self_right]
  have h1 : f i / 2 ^ s < 2 ^ (32 - s) := by
    rw [Nat.div_lt_iff_lt_mul hp, Nat.mul_comm, hc]; exact hf i
  have h2 : (f (i + 1) % 2 ^ s + 1) * 2 ^ (32 - s) ≤ 2 ^ s * 2 ^ (32 - s) := Nat.mul_le_mul_right _ (Nat.mod_lt _ hp)
  rw [hc, Nat.add_mul, Nat.one_mul] at h2
  generalize f i / 2 ^ s = a at h1 ⊢
  generalize f (i + 1) % 2 ^ s * 2 ^ (32 - s) = b at h2 ⊢
  omega
theorem right_law {f : Nat → Nat} {s : Nat} (hs : s < 32) (hf : ∀ i, f i < 4294967296) : ∀ k, 2 ^ s * valF (dRight f s) k + f 0 % 2 ^ s = valF f k + f k % 2 ^ s * pw k
  | 0 => by simp [valF, pw_zero]
  | k + 1 => by
    have ih := right_law hs hf k
    unfold valF
    have e1 : 2 ^ s * (dRight f s k * pw k) + f k % 2 ^ s * pw k = f k * pw k + f (k + 1) % 2 ^ s * pw (k + 1) := by
      have h0 := Nat.div_add_mod (f k) (2 ^ s)
      have h1 : 2 ^ s * dRight f s k + f k % 2 ^ s = f k + f (k + 1) % 2 ^ s * 4294967296 := by
        rw [dRight_eq hs hf, Nat.mul_add]
        have : 2 ^ s * (f (k + 1) % 2 ^ s * 2 ^ (32 - s)) = f (k + 1) % 2 ^ s * 4294967296 := by
          rw [← word_cut hs, Nat.mul_left_comm]
        omega
      rw [← Nat.mul_assoc, ← Nat.add_mul, h1, Nat.add_mul, pw_succ, ← Nat.mul_assoc]
    rw [Nat.mul_add]
    omega
theorem right_val {f : Nat → Nat} {s n : Nat} (hs : s < 32) (hf : ∀ i, f i < 4294967296) (hz : f n = 0) : valF (dRight f s) n = valF f n / 2 ^ s := by
  have h := right_law hs hf n
  have hp := Nat.two_pow_pos s
  have h0 := Nat.mod_lt (f 0) hp
  rw [hz, Nat.zero_mod, Nat.zero_mul, Nat.add_zero] at h
  symm
  rw [Nat.div_eq_iff hp, Nat.mul_comm]
  omega
theorem right_words (l : List Nat) (hl : small l) {s w : Nat} (hs : s < 32) (hw : w ≤ l.length) :
    valF (dRight (fun i => l.getD (w + i) 0) s) (l.length - w) = val l / 2 ^ (32 * w + s) := by
  rw [right_val hs (fun i => getD_lt hl _) (by rw [List.getD_eq_getElem?_getD, List.getElem?_eq_none (by omega)]; rfl)]
  rw [Nat.pow_add, ← Nat.div_div_eq_div_mul, ← pw_two]
  congr 1
  have e : val l = valF (fun i => l.getD i 0) (w + (l.length - w)) := by unfold val; rw [show w + (l.length - w) = l.length by omega]
  rw [e, valF_add]
  have h1 := valF_lt (f := fun i => l.getD i 0) (n := w) (fun i _ => getD_lt hl i)
  symm
  rw [Nat.div_eq_iff (pw_pos w)]
  omega
def hiV (l : List Nat) (k : Nat) : Nat := valF (fun i => l.getD (k + i) 0) (l.length - k)
theorem hiV_all (l : List Nat) : hiV l 0 = val l := by
  unfold hiV val
  exact valF_congr fun i _ => by rw [Nat.zero_add]
theorem hiV_end (l : List Nat) : hiV l l.length = 0 := by unfold hiV; rw [Nat.sub_self]; rfl
theorem hiV_step (l : List Nat) {k : Nat} (hk : k < l.length) : hiV l k = hiV l (k + 1) * 4294967296 + l.getD k 0 := by
  unfold hiV
  rw [show l.length - k = 1 + (l.length - (k + 1)) by omega, valF_add]
  have e1 : valF (fun i => l.getD (k + i) 0) 1 = l.getD k 0 := by
    show 0 + l.getD (k + 0) 0 * pw 0 = _
    rw [pw_zero]; simp
  have e2 : valF (fun i => l.getD (k + (1 + i)) 0) (l.length - (k + 1)) = valF (fun i => l.getD (k + 1 + i) 0) (l.length - (k + 1)) := valF_congr fun i _ => by rw [Nat.add_assoc]
  rw [e1, e2, show pw 1 = 4294967296 from rfl]
  omega
def smallQ (l : List Nat) (d k : Nat) : Nat := (hiV l (k + 1) % d * 4294967296 + l.getD k 0) / d
theorem smallQ_lt {l : List Nat} (hl : small l) {d : Nat} (hd : 0 < d) (k : Nat) : smallQ l d k < 4294967296 := by
  unfold smallQ
  rw [Nat.div_lt_iff_lt_mul hd]
  have h1 := Nat.mod_lt (hiV l (k + 1)) hd
  have h2 := getD_lt hl k
  have h3 : (hiV l (k + 1) % d + 1) * 4294967296 ≤ d * 4294967296 := Nat.mul_le_mul_right _ h1
  rw [Nat.mul_comm 4294967296]
  omega
theorem split_d (x d a : Nat) : x * 4294967296 + a = x % d * 4294967296 + a + x / d * 4294967296 * d := by
  have h0 : x * 4294967296 = (d * (x / d) + x % d) * 4294967296 := by rw [Nat.div_add_mod]
  rw [h0, Nat.add_mul, Nat.mul_right_comm, Nat.mul_comm (d * 4294967296), Nat.mul_comm d, ← Nat.mul_assoc, Nat.add_assoc, Nat.add_comm]
theorem small_rest (l : List Nat) (d : Nat) {k : Nat} (hk : k < l.length) : hiV l k % d = (hiV l (k + 1) % d * 4294967296 + l.getD k 0) % d := by
  rw [hiV_step l hk, split_d, Nat.add_mul_mod_self_right]
theorem small_quot (l : List Nat) {d : Nat} (hd : 0 < d) : ∀ (n k : Nat), k + n = l.length → valF (fun i => smallQ l d (k + i)) n = hiV l k / d
  | 0, k, h => by
    obtain rfl : k = l.length := by omega
    rw [hiV_end]; simp [valF]
  | n + 1, k, h => by
    have ih := small_quot l hd n (k + 1) (by omega)
    have e : valF (fun i => smallQ l d (k + i)) (1 + n) = _ := valF_add (fun i => smallQ l d (k + i)) 1 n
    have e1 : valF (fun i => smallQ l d (k + i)) 1 = smallQ l d k := by
      show 0 + smallQ l d (k + 0) * pw 0 = _
      rw [pw_zero]; simp
    have e2 : valF (fun i => smallQ l d (k + (1 + i))) n = valF (fun i => smallQ l d (k + 1 + i)) n := valF_congr fun i _ => by rw [Nat.add_assoc]
    rw [Nat.add_comm n 1, e, e1, e2, ih, show pw 1 = 4294967296 from rfl, hiV_step l (show k < l.length by omega)]
    unfold smallQ
    rw [split_d (hiV l (k + 1)) d, Nat.add_mul_div_right _ _ hd]
theorem small_all (l : List Nat) {d : Nat} (hd : 0 < d) : valF (smallQ l d) l.length = val l / d := by
  rw [← hiV_all, ← small_quot l hd l.length 0 (by omega)]
  exact valF_congr fun i _ => by rw [Nat.zero_add]
end Go.Proofs.YtjfllpmiajkenaaGreat.BigLaw
namespace Go.Proofs.YtjfllpmiajkenaaGreat.BigW
open Go.RowKit Go.Proofs.YtjfllpmiajkenaaGreat.Mem Go.Proofs.YtjfllpmiajkenaaGreat.BigLaw
set_option linter.unusedVariables false
set_option maxHeartbeats 4000000 in
theorem right_any (A : Option Addr) (c : Nat) (l : List Nat) (n wd s : Nat) (B : Nat) (w : World) (hB : B ≤ w.heap.size) (h : Wd w B A c l) (hsz : l.length ≤ 1000000) (hn : n = 32 * wd + s) (hs : s < 32) (hw : wd ≤ 1000000) :
    Calls Tryz.prog 192 #[.slice A l.length c, .int .u64 (n : Int)] w fun e w' => GaveW w w' (val l / 2 ^ n) e := by
  have hq : (n : Int) / 32 = (wd : Int) := by omega
  have hr : (n : Int) % 32 = (s : Int) := by omega
  have HN := Lib.hid hn
  have H := Lib.hid h
  clear hn h
  by_cases hz : l.length ≤ wd
  · have HZ := Lib.hid (show val l / 2 ^ n = 0 by
      refine Nat.div_eq_of_lt (Nat.lt_of_lt_of_le (val_lt H.out.small) (Nat.le_trans (pw_le hz) ?_))
      rw [pw_two]
      exact Nat.pow_le_pow_right (by omega) (by have := HN.out; omega))
    have hlim : n ≤ 32000031 := by have := HN.out; omega
    go_enter Tryz.func192, Tryz.ntmps192
    go_wp2_with fail
    go_ret
    exact ⟨none, 0, [], rfl, Wd.nil _ _, fun h => by simp at h, by rw [HZ.out]; rfl, Below.refl _ _⟩
  · have hlim : n ≤ 32000031 := by have := HN.out; omega
    obtain ⟨m, hm⟩ : ∃ m, l.length = wd + m := ⟨l.length - wd, by omega⟩
    have hm0 : 0 < m := by omega
    have hm1 : m ≤ 1000000 := by omega
    have HM := Lib.hid hm
    clear hz hm
    have hml : (l.length : Int) = (wd : Int) + (m : Int) := by have := HM.out; omega
    rw [HM.out]
    have hwd0 : ¬ ((wd : Int) + (m : Int)) ≤ (wd : Int) := by omega
    clear hml
    have hmm : ((wd : Int) + (m : Int)) - (wd : Int) = (m : Int) := by omega
    go_enter Tryz.func192, Tryz.ntmps192
    go_wp2_with (refine wpList_make_row rfl _ _ _ rfl elemU32 m rfl rfl (by go_num) (by go_num) (by omega) (by omega) ?_)
    go_loopw [8] (fun i wr => ∃ k : Nat, k ≤ m ∧ i = .int .i64 k ∧ Blk wr w.heap.size 173 (rowF .u32 m fun j => if j < k then (dRight (fun i => l.getD (wd + i) 0) s j : Int) else 0) ∧ Below w.heap.size w wr) (fun i _ => m - (intOf i).toNat)
    case atStart => exact ⟨0, by omega, rfl, Blk.none (Blk.new rfl), (Below.refl _ _).alloc (Nat.le_refl _) _⟩
    case round =>
      obtain ⟨k, hk, rfl, hblk, hb⟩ := hrel
      by_cases hlt : k < m
      · obtain ⟨b, o, rfl, hbB, hcx⟩ := (H.out.keep (w' := wr) (fun b o hb' => below_cell hb b o (by omega))).at_ (show wd + k < l.length by have := HM.out; omega)
        have hx := getD_lt H.out.small (wd + k)
        have hcell := hblk.upto_cell hlt
        have hthaw := hblk.thaw k
        have HD := Lib.hid (show dRight (fun i => l.getD (wd + i) 0) s k = (l.getD (wd + k) 0 + l.getD (wd + (k + 1)) 0 * 4294967296) / 2 ^ s % 4294967296 from rfl)
        have hk1 : IntKind.i64.wrap ((k : Int) + (wd : Int)) = (k : Int) + (wd : Int) := IntWalk.i64_in _ (by omega)
        have hk2 : (0 : Int) ≤ (k : Int) + (wd : Int) := by omega
        have hk3 : (k : Int) + (wd : Int) < (wd : Int) + (m : Int) := by omega
        have hk4 : ((k : Int) + (wd : Int)).toNat = wd + k := by omega
        have hlt1 : (k : Int) < (m : Int) := by omega
        by_cases hlt2 : wd + k + 1 < l.length
        · obtain ⟨b', o', e, _, hcy⟩ := (H.out.keep (w' := wr) (fun b o hb' => below_cell hb b o (by omega))).at_ hlt2
          injection e with e
          injection e with e1 e2
          subst e1 e2
          have hy := getD_lt H.out.small (wd + (k + 1))
          rw [Nat.add_assoc wd k 1] at hcy
          generalize l.getD (wd + k) 0 = x at hcx hx HD
          generalize l.getD (wd + (k + 1)) 0 = y at hcy hy HD
          have hor := or64 x y hx hy
          have hk5 : (k : Int) + (wd : Int) + 1 < (wd : Int) + (m : Int) := by have := HM.out; omega
          have hk6 : ((k : Int) + (wd : Int) + 1).toNat = wd + (k + 1) := by omega
          have HV := Lib.hid (show ((x : Int) + (y : Int) * 4294967296) / 2 ^ s = (((x + y * 4294967296) / 2 ^ s : Nat) : Int) by
            rw [Int.natCast_ediv, Int.natCast_add, Int.natCast_mul, Int.natCast_pow]; rfl)
          clear hlt2
          go_wp2_with fail
          refine ⟨⟨k + 1, by omega, by go_num, hblk.upto (by rw [HD.out, HV.out, Int.natCast_emod]; rfl), hb.setCell (Nat.le_refl _) _⟩, by simp [intOf]; omega⟩
        · have HY := Lib.hid (getD_out (l := l) (i := wd + (k + 1)) (by omega))
          generalize l.getD (wd + k) 0 = x at hcx hx HD
          rw [HY.out] at HD
          have hk5 : ¬ (k : Int) + (wd : Int) + 1 < (wd : Int) + (m : Int) := by have := HM.out; omega
          have HV := Lib.hid (show (x : Int) / 2 ^ s = ((x / 2 ^ s : Nat) : Int) by
            rw [Int.natCast_ediv, Int.natCast_pow]; rfl)
          clear hlt2
          go_wp2_with fail
          refine ⟨⟨k + 1, by omega, by go_num, hblk.upto (by rw [HD.out, HV.out, Nat.zero_mul, Nat.add_zero, Int.natCast_emod]; rfl), hb.setCell (Nat.le_refl _) _⟩, by simp [intOf]; omega⟩
      · obtain rfl : k = m := by omega
        have hblk2 := hblk.all
        have hg := hblk2.lt
        have HW := Lib.hid (wd_of_blk hblk2 (by omega) (fun i _ => Nat.mod_lt _ (by omega)))
        have HV := Lib.hid (show val ((List.range k).map (dRight (fun i => l.getD (wd + i) 0) s)) = val l / 2 ^ n by
          rw [val_map, HN.out, ← right_words l H.out.small hs (show wd ≤ l.length by have := HM.out; omega)]
          congr 1
          have := HM.out; omega)
        have hT := trim_any _ _ _ _ _ HW.out
        rw [List.length_map, List.length_range] at hT
        have HT := Lib.hid hT
        clear hlt hT
        go_wp2_with fail
        refine HT.out.mono ?_
        rintro e w' ⟨ht, rfl⟩
        obtain ⟨A, c, l1, rfl, h2⟩ := gave_of_trim (n := val l / 2 ^ n) HW.out (by omega) hb HV.out ht
        have H2 := Lib.hid h2
        clear h2 ht
        go_wp2_with fail
        go_ret
        exact ⟨A, c, l1, rfl, H2.out⟩
def GaveS (w w' : World) (q r : Nat) (e : Ending) : Prop := ∃ A c l, e = .returned (.tuple #[.slice A l.length c, .int .u32 (r : Int)]) ∧ Wd w' w'.heap.size A c l ∧ trimd l ∧ val l = q ∧ Below w.heap.size w w'
set_option maxHeartbeats 4000000 in
theorem small_any (A : Option Addr) (c : Nat) (l : List Nat) (d : Nat) (B : Nat) (w : World) (hB : B ≤ w.heap.size) (h : Wd w B A c l) (hsz : l.length ≤ 1000000) (hd : 0 < d) (hd2 : d < 4294967296) :
    Calls Tryz.prog 190 #[.slice A l.length c, .int .u32 (d : Int)] w fun e w' => GaveS w w' (val l / d) (val l % d) e := by
  have H := Lib.hid h
  clear h
  go_enter Tryz.func190, Tryz.ntmps190
  go_wp2_with (refine wpList_make_row rfl _ _ _ rfl elemU32 l.length rfl rfl (by go_num) (by go_num) (by omega) (by omega) ?_)
  go_loopw [7, 8] (fun r i wr => ∃ k : Nat, k ≤ l.length ∧ i = .int .i64 ((k : Int) - 1) ∧ r = .int .u64 (hiV l k % d : Nat) ∧ Blk wr w.heap.size 173 (rowF .u32 l.length fun j => if j < k then 0 else (smallQ l d j : Int)) ∧ Below w.heap.size w wr) (fun _ i _ => (intOf i + 1).toNat)
  case atStart =>
    refine ⟨l.length, Nat.le_refl _, rfl, by rw [hiV_end, Nat.zero_mod]; rfl, ?_, (Below.refl _ _).alloc (Nat.le_refl _) _⟩
    rw [rowF_congr (g := fun _ => 0) (fun i hi => if_pos hi)]
    exact Blk.new rfl
  case round =>
    obtain ⟨k, hk, rfl, rfl, hblk, hb⟩ := hrel
    have hrl : hiV l k % d < d := Nat.mod_lt _ hd
    by_cases hpos : 0 < k
    · obtain ⟨q, rfl⟩ : ∃ q, k = q + 1 := ⟨k - 1, by omega⟩
      rw [show ((q + 1 : Nat) : Int) - 1 = (q : Int) by omega]
      obtain ⟨b, o, rfl, hbB, hcx⟩ := (H.out.keep (w' := wr) (fun b o hb' => below_cell hb b o (by omega))).at_ (show q < l.length by omega)
      have hx := getD_lt H.out.small q
      have hcell := hblk.cell q
      rw [rowF_at _ _ _ _ (by omega), if_pos (by omega)] at hcell
      have hthaw := hblk.thaw q
      have hQ := smallQ_lt H.out.small hd q
      have HQ := Lib.hid (show smallQ l d q = (hiV l (q + 1) % d * 4294967296 + l.getD q 0) / d from rfl)
      have HR := Lib.hid (small_rest l d (show q < l.length by omega))
      have HB := Lib.hid (show (rowF .u32 l.length fun j => if j < q + 1 then 0 else (smallQ l d j : Int)).setIfInBounds q (.int .u32 (smallQ l d q : Nat)) = rowF .u32 l.length fun j => if j < q then 0 else (smallQ l d j : Int) from rowF_set fun i hi => by
        by_cases e : i = q
        · subst e; rw [if_pos rfl, if_neg (by omega)]
        · rw [if_neg e]
          by_cases h1 : i < q
          · rw [if_pos h1, if_pos (by omega)]
          · rw [if_neg h1, if_neg (by omega)])
      generalize hiV l (q + 1) % d = r at hrl HQ HR
      generalize l.getD q 0 = x at hcx hx HQ HR
      have hor := or64 x r hx (by omega)
      have hor2 : bits .or .u64 ((r : Int) * 4294967296) (x : Int) = ((r * 4294967296 + x : Nat) : Int) := by
        have h := u64_or_nat (r * 4294967296) x (by omega) (by omega)
        rw [Nat.or_comm, or_low x (r * 4294967296) 32 (by omega) (by omega)] at h
        have e : ((r * 4294967296 : Nat) : Int) = (r : Int) * 4294967296 := by omega
        rw [e] at h
        exact h
      clear hor
      generalize hX : r * 4294967296 + x = X at hor2 HQ HR
      have hXl : X < 18446744073709551616 := by omega
      have hd0 : ¬ (d : Int) = 0 := by omega
      have hd1 : ¬ d = 0 := by omega
      have hq : IntKind.u64.wrap ((X : Int) / (d : Int)) = ((X / d : Nat) : Int) := by
        have e : (X : Int) / (d : Int) = ((X / d : Nat) : Int) := rfl
        have := Nat.div_le_self X d
        rw [e, u64wrap]; generalize X / d = Q at this ⊢; omega
      have hr : (X : Int).tmod (d : Int) = ((X % d : Nat) : Int) := rfl
      rw [HQ.out] at hQ
      have HX := Lib.hid hX
      generalize hQQ : X / d = Q at hq hQ HQ
      generalize hRR : X % d = R at hr HR
      have HQQ := Lib.hid (And.intro hQQ hRR)
      clear hX hQQ hRR
      go_wp2_with fail
      refine ⟨⟨q, by omega, rfl, by rw [HR.out], ?_, hb.setCell (Nat.le_refl _) _⟩, by simp [intOf]⟩
      rw [← HB.out, HQ.out]
      exact hblk.set _ _
    · obtain rfl : k = 0 := by omega
      have hblk2 : Blk wr w.heap.size 173 (rowF .u32 l.length fun j => (smallQ l d j : Int)) := by
        rw [← rowF_congr (f := fun j => if j < 0 then 0 else (smallQ l d j : Int)) (fun i hi => if_neg (by omega))]; exact hblk
      have hg := hblk2.lt
      have HW := Lib.hid (wd_of_blk hblk2 (by omega) (fun i _ => smallQ_lt H.out.small hd i))
      have HV := Lib.hid (show val ((List.range l.length).map (smallQ l d)) = val l / d by rw [val_map, small_all l hd])
      have hT := trim_any _ _ _ _ _ HW.out
      rw [List.length_map, List.length_range] at hT
      have HT := Lib.hid hT
      rw [hiV_all] at hrl ⊢
      generalize hR : val l % d = r at hrl ⊢
      have HR := Lib.hid hR
      clear hpos hT hR
      go_wp2_with fail
      refine HT.out.mono ?_
      rintro e w' ⟨ht, rfl⟩
      obtain ⟨A, c, l1, rfl, h2⟩ := gave_of_trim (n := val l / d) HW.out (by omega) hb HV.out ht
      have H2 := Lib.hid h2
      clear h2 ht
      go_wp2_with fail
      go_ret2
      exact ⟨A, c, l1, by rw [HR.out]; rfl, H2.out⟩
end Go.Proofs.YtjfllpmiajkenaaGreat.BigW
