/- The library's stable sort, plain: rotations by swaps, the cut of a symmetric merge, insertion of tagged elements (for BusSteps: slices.SortStableFunc). -/
import Derived.Sort.LotA
namespace Go.Proofs.Ytlcpackmoolngaa.Stb
open Go.Sort
set_option linter.unusedVariables false
set_option linter.unusedSimpArgs false
section
variable {α : Type} [Inhabited α] {lt : α → α → Bool}

/-- insertion looks at (later, earlier) pairs alone -/
theorem insInner_perm (l : α → α → Bool) (a b : Nat) : ∀ (j : Nat) (d : Array α), j < b → b ≤ d.size → PermIn a b d (insInner l a j d)
  | 0, d, _, _ => by
    unfold insInner
    exact permIn_refl _ _ _
  | j + 1, d, hj, hb => by
    unfold insInner
    split
    · rename_i hc
      simp only [Bool.and_eq_true, decide_eq_true_eq] at hc
      exact permIn_trans _ _ _ _ _ (swp_permIn d a b (j + 1) j (by omega) hj (by omega) (by omega) hb) (insInner_perm l a b j _ (by omega) (by rw [size_swp]; exact hb))
    · exact permIn_refl _ _ _
theorem insInner_eq (l1 l2 : α → α → Bool) (a : Nat) : ∀ (j : Nat) (d : Array α), j < d.size → (∀ k, a ≤ k → k < j → l1 d[j]! d[k]! = l2 d[j]! d[k]!) → insInner l1 a j d = insInner l2 a j d
  | 0, d, _, _ => by
    unfold insInner
    rfl
  | j + 1, d, hj, h => by
    unfold insInner
    by_cases haj : j + 1 > a
    · rw [h j (by omega) (by omega)]
      split
      · refine insInner_eq l1 l2 a j _ (by rw [size_swp]; omega) fun k h1 h2 => ?_
        rw [swp_right d (j + 1) j (by omega), swp_other d (j + 1) j k (by omega) (by omega)]
        exact h k h1 (by omega)
      · rfl
    · simp [haj]
theorem insOuter_eq (l1 l2 : α → α → Bool) (τ : α → Nat) (hx : ∀ x y, τ x < τ y → l1 y x = l2 y x) (a b : Nat) : ∀ (n i : Nat) (d : Array α), b - i = n → a ≤ i → i ≤ b → b ≤ d.size →
    (∀ k j, a ≤ k → k < j → i ≤ j → j < b → τ d[k]! < τ d[j]!) → insOuter l1 a b i d = insOuter l2 a b i d
  | 0, i, d, hn, hai, hib, hb, h => by
    have e : ∀ l : α → α → Bool, insOuter l a b i d = d := fun l => by
      rw [insOuter]
      exact if_neg (by omega)
    rw [e, e]
  | n + 1, i, d, hn, hai, hib, hb, h => by
    have e : ∀ l : α → α → Bool, insOuter l a b i d = insOuter l a b (i + 1) (insInner l a i d) := fun l => by
      conv => lhs; rw [insOuter]
      exact if_pos (by omega)
    rw [e l1, e l2, insInner_eq l1 l2 a i d (by omega) (fun k h1 h2 => hx _ _ (h k i h1 h2 (Nat.le_refl _) (by omega)))]
    have hp := insInner_perm l2 a (i + 1) i d (by omega) (by omega)
    refine insOuter_eq l1 l2 τ hx a b n (i + 1) _ (by omega) (by omega) (by omega) (by rw [hp.1]; exact hb) fun k j h1 h2 h3 h4 => ?_
    rw [hp.2.1 j (.inr h3)]
    by_cases hk : k < i + 1
    · exact permIn_all d _ a (i + 1) (fun x => τ x < τ d[j]!) (by omega) hp (fun q h5 h6 => h q j h5 (by omega) (by omega) h4) k h1 hk
    · rw [hp.2.1 k (.inr (by omega))]
      exact h k j h1 h2 (by omega) h4
theorem insertion_eq (l1 l2 : α → α → Bool) (τ : α → Nat) (hx : ∀ x y, τ x < τ y → l1 y x = l2 y x) (d : Array α) (a b : Nat) (hb : b ≤ d.size) (h : ∀ k j, a ≤ k → k < j → j < b → τ d[k]! < τ d[j]!) : insertionSort l1 d a b = insertionSort l2 d a b := by
  unfold insertionSort
  by_cases hab : a < b
  · exact insOuter_eq l1 l2 τ hx a b _ (a + 1) d rfl (by omega) hab hb (fun k j h1 h2 _ h4 => h k j h1 h2 h4)
  · have e : ∀ l : α → α → Bool, insOuter l a b (a + 1) d = d := fun l => by
      rw [insOuter]
      exact if_neg (by omega)
    rw [e, e]

/-- n places from a on and from b on, swapped -/
def Sw (a b n : Nat) (f g : Array α) : Prop := PermIn a (b + n) f g ∧ (∀ k, k < n → g[a + k]! = f[b + k]! ∧ g[b + k]! = f[a + k]!) ∧ ∀ i, a + n ≤ i → i < b → g[i]! = f[i]!
theorem Sw.zero (a b : Nat) (f : Array α) : Sw a b 0 f f := ⟨permIn_refl _ _ _, fun k h => absurd h (Nat.not_lt_zero _), fun _ _ _ => rfl⟩
theorem Sw.step {a b n : Nat} {f g : Array α} (h : Sw a b n f g) (hab : a + n < b) (hb : b + n < f.size) : Sw a b (n + 1) f (swp g (a + n) (b + n)) := by
  obtain ⟨h1, h2, h3⟩ := h
  have hs := h1.1
  refine ⟨permIn_trans _ _ _ _ _ (permIn_mono _ _ a (b + n) a (b + (n + 1)) (Nat.le_refl _) (by omega) (by omega) h1) (swp_permIn g a (b + (n + 1)) (a + n) (b + n) (by omega) (by omega) (by omega) (by omega) (by omega)), fun k hk => ?_, fun i h4 h5 => ?_⟩
  · by_cases e : k = n
    · subst e
      rw [swp_left g _ _ (by omega) (by omega), swp_right g _ _ (by omega)]
      exact ⟨h1.2.1 _ (.inr (Nat.le_refl _)), h3 _ (Nat.le_refl _) hab⟩
    · rw [swp_other g _ _ _ (by omega) (by omega), swp_other g _ _ _ (by omega) (by omega)]
      exact h2 k (by omega)
  · rw [swp_other g _ _ _ (by omega) (by omega)]
    exact h3 i (by omega) h5

/-- [m, e) laid ahead of [s, m) -/
def Rot (s m e : Nat) (f g : Array α) : Prop := PermIn s e f g ∧ (∀ k, k < e - m → g[s + k]! = f[m + k]!) ∧ ∀ k, k < m - s → g[s + (e - m) + k]! = f[s + k]!
theorem rot_big {m i j : Nat} {f f' g : Array α} (hi : i ≤ m) (hij : j < i) (hb : m + j ≤ f.size) (h1 : Sw (m - i) m j f f') (h2 : Rot (m - (i - j)) m (m + j) f' g) : Rot (m - i) m (m + j) f g := by
  obtain ⟨p1, s1, u1⟩ := h1
  obtain ⟨p2, a2, b2⟩ := h2
  refine ⟨permIn_trans _ _ _ _ _ p1 (permIn_mono _ _ _ _ _ _ (by omega) (Nat.le_refl _) (by rw [p1.1]; exact hb) p2), fun k hk => ?_, fun k hk => ?_⟩
  · rw [p2.2.1 (m - i + k) (.inl (by omega))]
    exact (s1 k (by omega)).1
  · by_cases hkj : k < j
    · rw [show m - i + (m + j - m) + k = m - (i - j) + k by omega, a2 k (by omega)]
      exact (s1 k hkj).2
    · rw [show m - i + (m + j - m) + k = m - (i - j) + (m + j - m) + (k - j) by omega, b2 (k - j) (by omega), u1 _ (by omega) (by omega), show m - (i - j) + (k - j) = m - i + k by omega]
theorem rot_small {m i j : Nat} {f f' g : Array α} (hi : i ≤ m) (hij : i < j) (hb : m + j ≤ f.size) (h1 : Sw (m - i) (m + j - i) i f f') (h2 : Rot (m - i) m (m + (j - i)) f' g) : Rot (m - i) m (m + j) f g := by
  obtain ⟨p1, s1, u1⟩ := h1
  obtain ⟨p2, a2, b2⟩ := h2
  rw [show m + j - i + i = m + j by omega] at p1
  refine ⟨permIn_trans _ _ _ _ _ p1 (permIn_mono _ _ _ _ _ _ (Nat.le_refl _) (by omega) (by rw [p1.1]; exact hb) p2), fun k hk => ?_, fun k hk => ?_⟩
  · by_cases hkj : k < j - i
    · rw [a2 k (by omega)]
      exact u1 _ (by omega) (by omega)
    · rw [show m - i + k = m - i + (m + (j - i) - m) + (k - (j - i)) by omega, b2 _ (by omega), (s1 (k - (j - i)) (by omega)).1, show m + j - i + (k - (j - i)) = m + k by omega]
  · rw [p2.2.1 _ (.inr (by omega)), show m - i + (m + j - m) + k = m + j - i + k by omega]
    exact (s1 k (by omega)).2
theorem rot_same {m i : Nat} {f g : Array α} (hi : i ≤ m) (h : Sw (m - i) m i f g) : Rot (m - i) m (m + i) f g :=
  ⟨h.1, fun k hk => (h.2.1 k (by omega)).1, fun k hk => by
    rw [show m - i + (m + i - m) + k = m + k by omega]
    exact (h.2.1 k (by omega)).2⟩
theorem rot_right0 (a : Nat) (f : Array α) : Rot a (a + 1) (a + 1) f f := ⟨permIn_refl _ _ _, fun k hk => absurd hk (by omega), fun k hk => by rw [show a + (a + 1 - (a + 1)) + k = a + k by omega]⟩
theorem rot_right1 {a k : Nat} {f g : Array α} (h : Rot a (a + 1) (k + 1) f g) (hak : a ≤ k) (hb : k + 1 < f.size) : Rot a (a + 1) (k + 2) f (swp g k (k + 1)) := by
  obtain ⟨h1, h2, h3⟩ := h
  have hs := h1.1
  refine ⟨permIn_trans _ _ _ _ _ (permIn_mono _ _ _ _ _ _ (Nat.le_refl _) (by omega) (by omega) h1) (swp_permIn g a (k + 2) k (k + 1) (by omega) (by omega) (by omega) (by omega) (by omega)), fun q hq => ?_, fun q hq => ?_⟩
  · by_cases e : a + q = k
    · rw [e, swp_left g _ _ (by omega) (by omega), h1.2.1 _ (.inr (Nat.le_refl _)), show a + 1 + q = k + 1 by omega]
    · rw [swp_other g _ _ _ (by omega) (by omega)]
      exact h2 q (by omega)
  · have e := h3 0 (by omega)
    rw [show a + (k + 1 - (a + 1)) + 0 = k by omega] at e
    rw [show a + (k + 2 - (a + 1)) + q = k + 1 by omega, swp_right g _ _ (by omega), e, show a + 0 = a + q by omega]
theorem rot_left0 (m : Nat) (f : Array α) : Rot m m (m + 1) f f := ⟨permIn_refl _ _ _, fun k hk => rfl, fun k hk => absurd hk (by omega)⟩
theorem rot_left1 {m k : Nat} {f g : Array α} (h : Rot k m (m + 1) f g) (hk : 0 < k) (hkm : k ≤ m) (hb : m + 1 ≤ f.size) : Rot (k - 1) m (m + 1) f (swp g k (k - 1)) := by
  obtain ⟨h1, h2, h3⟩ := h
  have hs := h1.1
  refine ⟨permIn_trans _ _ _ _ _ (permIn_mono _ _ _ _ _ _ (by omega) (Nat.le_refl _) hb h1) (swp_permIn g (k - 1) (m + 1) k (k - 1) (by omega) (by omega) (by omega) (by omega) (by omega)), fun q hq => ?_, fun q hq => ?_⟩
  · have e := h2 0 (by omega)
    rw [Nat.add_zero] at e
    rw [show k - 1 + q = k - 1 by omega, swp_right g _ _ (by omega), e, show m + 0 = m + q by omega]
  · by_cases e : q = 0
    · subst e
      rw [show k - 1 + (m + 1 - m) + 0 = k by omega, swp_left g _ _ (by omega) (by omega), h1.2.1 _ (.inl (by omega)), Nat.add_zero]
    · have e2 := h3 (q - 1) (by omega)
      rw [show k + (m + 1 - m) + (q - 1) = k - 1 + (m + 1 - m) + q by omega] at e2
      rw [swp_other g _ _ _ (by omega) (by omega), e2, show k + (q - 1) = k - 1 + q by omega]
end
end Go.Proofs.Ytlcpackmoolngaa.Stb
