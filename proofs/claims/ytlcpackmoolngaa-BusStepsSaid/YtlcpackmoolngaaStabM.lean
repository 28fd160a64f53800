/- The library's stable sort, plain: the symmetric merge's cut and its ends; the order with tags. -/
import Derived.Test.YtlcpackmoolngaaStab
namespace Go.Proofs.Ytlcpackmoolngaa.Stb
open Go.Sort
set_option linter.unusedVariables false
set_option linter.unusedSimpArgs false
section
variable {α : Type} [Inhabited α] {lt : α → α → Bool}
theorem asymm {γ : Type} {l : γ → γ → Bool} (hS : SWO l) {x y : γ} (h : l x y = true) : l y x = false := by
  cases hq : l y x with
  | false => rfl
  | true =>
    have := hS.trans _ _ _ h hq
    rw [hS.irrefl] at this
    cases this
theorem SortedIn.weak (hS : SWO lt) {a b : Nat} {f : Array α} (h : SortedIn lt a b f) {x y : Nat} (h1 : a ≤ x) (h2 : x ≤ y) (h3 : y < b) : lt f[y]! f[x]! = false := by
  by_cases e : x = y
  · subst e
    exact hS.irrefl _
  · exact h x y h1 (by omega) h3
/-- what a cut of the symmetric merge brings -/
theorem merge_cut (hS : SWO lt) {a s m e b : Nat} {f g : Array α} (hL : SortedIn lt a m f) (hR : SortedIn lt m b f) (h1 : a ≤ s) (h2 : s ≤ m) (h3 : m ≤ e) (h4 : e ≤ b) (hr : Rot s m e f g)
    (E1 : s = a ∨ e = b ∨ lt f[e]! f[s - 1]! = false) (E2 : s = m ∨ e = m ∨ lt f[e - 1]! f[s]! = true) :
    SortedIn lt a s g ∧ SortedIn lt s (s + (e - m)) g ∧ SortedIn lt (s + (e - m)) e g ∧ SortedIn lt e b g ∧ ∀ x y, a ≤ x → x < s + (e - m) → s + (e - m) ≤ y → y < b → lt g[y]! g[x]! = false := by
  have A : ∀ x, x < s → g[x]! = f[x]! := fun x h => hr.1.2.1 x (.inl h)
  have B : ∀ y, e ≤ y → g[y]! = f[y]! := fun y h => hr.1.2.1 y (.inr h)
  have C : ∀ x, s ≤ x → x < s + (e - m) → g[x]! = f[m + (x - s)]! := fun x h h' => by
    have := hr.2.1 (x - s) (by omega)
    rwa [show s + (x - s) = x by omega] at this
  have D : ∀ y, s + (e - m) ≤ y → y < e → g[y]! = f[y - (e - m)]! := fun y h h' => by
    have := hr.2.2 (y - (s + (e - m))) (by omega)
    rwa [show s + (e - m) + (y - (s + (e - m))) = y by omega, show s + (y - (s + (e - m))) = y - (e - m) by omega] at this
  have K1 : ∀ x y, a ≤ x → x < s → e ≤ y → y < b → lt f[y]! f[x]! = false := fun x y q1 q2 q3 q4 => by
    rcases E1 with e1 | e1 | e1
    · omega
    · omega
    · exact hS.ntrans _ _ _ (SortedIn.weak hS hR h3 q3 q4) (hS.ntrans _ _ _ e1 (SortedIn.weak hS hL q1 (by omega) (by omega)))
  have K2 : ∀ x y, s ≤ x → x < m → m ≤ y → y < e → lt f[x]! f[y]! = false := fun x y q1 q2 q3 q4 => by
    rcases E2 with e2 | e2 | e2
    · omega
    · omega
    · exact hS.ntrans _ _ _ (SortedIn.weak hS hL h1 q1 q2) (hS.ntrans _ _ _ (asymm hS e2) (SortedIn.weak hS hR q3 (by omega) (by omega)))
  refine ⟨fun i j h h' h'' => ?_, fun i j h h' h'' => ?_, fun i j h h' h'' => ?_, fun i j h h' h'' => ?_, fun x y hx1 hx2 hy1 hy2 => ?_⟩
  · rw [A i (by omega), A j h'']
    exact hL i j h h' (by omega)
  · rw [C i h (by omega), C j (by omega) h'']
    exact hR _ _ (by omega) (by omega) (by omega)
  · rw [D i h (by omega), D j (by omega) h'']
    exact hL _ _ (by omega) (by omega) (by omega)
  · rw [B i h, B j (by omega)]
    exact hR i j (by omega) h' h''
  · by_cases c1 : x < s
    · rw [A x c1]
      by_cases c2 : y < e
      · rw [D y hy1 c2]
        exact SortedIn.weak hS hL hx1 (by omega) (by omega)
      · rw [B y (by omega)]
        exact K1 x y hx1 c1 (by omega) hy2
    · rw [C x (by omega) hx2]
      by_cases c2 : y < e
      · rw [D y hy1 c2]
        exact K2 _ _ (by omega) (by omega) (by omega) (by omega)
      · rw [B y (by omega)]
        exact SortedIn.weak hS hR (by omega) (by omega) hy2
/-- the two halves sorted: the whole is -/
theorem merge_fin {a mid b : Nat} {g g' g'' : Array α} (h1 : a ≤ mid) (h2 : mid ≤ b) (hb : b ≤ g.size) (hc : ∀ x y, a ≤ x → x < mid → mid ≤ y → y < b → lt g[y]! g[x]! = false)
    (p1 : PermIn a mid g g') (s1 : SortedIn lt a mid g') (p2 : PermIn mid b g' g'') (s2 : SortedIn lt mid b g'') : PermIn a b g g'' ∧ SortedIn lt a b g'' := by
  have hs := p1.1
  refine ⟨permIn_trans _ _ _ _ _ (permIn_mono _ _ _ _ _ _ (Nat.le_refl _) h2 hb p1) (permIn_mono _ _ _ _ _ _ h1 (Nat.le_refl _) (by omega) p2), fun i j h h' h'' => ?_⟩
  by_cases c1 : mid ≤ i
  · exact s2 i j c1 h' h''
  · rw [p2.2.1 i (.inl (by omega))]
    by_cases c2 : mid ≤ j
    · refine permIn_all g' g'' mid b (fun v => lt v g'[i]! = false) (by omega) p2 (fun y q1 q2 => ?_) j c2 h''
      show lt g'[y]! g'[i]! = false
      rw [p1.2.1 y (.inr q1)]
      exact permIn_all g g' a mid (fun v => lt g[y]! v = false) (by omega) p1 (fun x q3 q4 => hc x y q3 q4 q1 q2) i h (by omega)
    · rw [p2.2.1 j (.inl (by omega))]
      exact s1 i j h h' (by omega)
theorem merge_left1 (hS : SWO lt) {a i b : Nat} {f g : Array α} (hR : SortedIn lt (a + 1) b f) (hi : a + 1 ≤ i) (hib : i ≤ b) (hb : b ≤ f.size) (hr : Rot a (a + 1) i f g) (e1 : i = b ∨ lt f[i]! f[a]! = false)
    (e2 : i = a + 1 ∨ lt f[i - 1]! f[a]! = true) : PermIn a b f g ∧ SortedIn lt a b g := by
  refine ⟨permIn_mono _ _ _ _ _ _ (Nat.le_refl _) hib hb hr.1, fun x y h h' h'' => ?_⟩
  have A : ∀ x, a ≤ x → x < i - 1 → g[x]! = f[x + 1]! := fun x h h' => by
    have := hr.2.1 (x - a) (by omega)
    rwa [show a + (x - a) = x by omega, show a + 1 + (x - a) = x + 1 by omega] at this
  have C : g[i - 1]! = f[a]! := by
    have := hr.2.2 0 (by omega)
    rwa [show a + (i - (a + 1)) + 0 = i - 1 by omega] at this
  have B : ∀ y, i ≤ y → g[y]! = f[y]! := fun y h => hr.1.2.1 y (.inr h)
  by_cases c1 : y < i - 1
  · rw [A x h (by omega), A y (by omega) c1]
    exact hR _ _ (by omega) (by omega) (by omega)
  by_cases c2 : y = i - 1
  · rw [c2, C, A x h (by omega)]
    rcases e2 with e2 | e2
    · omega
    · exact hS.ntrans _ _ _ (asymm hS e2) (SortedIn.weak hS hR (by omega) (by omega) (by omega))
  rw [B y (by omega)]
  by_cases c3 : x < i - 1
  · rw [A x h c3]
    exact hR _ _ (by omega) (by omega) h''
  by_cases c4 : x = i - 1
  · rw [c4, C]
    rcases e1 with e1 | e1
    · omega
    · exact hS.ntrans _ _ _ (SortedIn.weak hS hR hi (by omega) h'') e1
  rw [B x (by omega)]
  exact hR x y (by omega) h' h''
theorem merge_right1 (hS : SWO lt) {a i m : Nat} {f g : Array α} (hL : SortedIn lt a m f) (ha : a ≤ i) (him : i ≤ m) (hb : m + 1 ≤ f.size) (hr : Rot i m (m + 1) f g) (e1 : i = a ∨ lt f[m]! f[i - 1]! = false)
    (e2 : i = m ∨ lt f[m]! f[i]! = true) : PermIn a (m + 1) f g ∧ SortedIn lt a (m + 1) g := by
  refine ⟨permIn_mono _ _ _ _ _ _ ha (Nat.le_refl _) hb hr.1, fun x y h h' h'' => ?_⟩
  have A : ∀ x, x < i → g[x]! = f[x]! := fun x h => hr.1.2.1 x (.inl h)
  have C : g[i]! = f[m]! := by
    have := hr.2.1 0 (by omega)
    rwa [Nat.add_zero, Nat.add_zero] at this
  have D : ∀ k, i < k → k ≤ m → g[k]! = f[k - 1]! := fun k h h' => by
    have := hr.2.2 (k - 1 - i) (by omega)
    rwa [show i + (m + 1 - m) + (k - 1 - i) = k by omega, show i + (k - 1 - i) = k - 1 by omega] at this
  by_cases c1 : y < i
  · rw [A x (by omega), A y c1]
    exact hL x y h h' (by omega)
  by_cases c2 : y = i
  · rw [c2, C, A x (by omega)]
    rcases e1 with e1 | e1
    · omega
    · exact hS.ntrans _ _ _ e1 (SortedIn.weak hS hL h (by omega) (by omega))
  rw [D y (by omega) (by omega)]
  by_cases c3 : x < i
  · rw [A x c3]
    exact hL x _ h (by omega) (by omega)
  by_cases c4 : x = i
  · rw [c4, C]
    rcases e2 with e2 | e2
    · omega
    · exact hS.ntrans _ _ _ (SortedIn.weak hS hL ha (by omega) (by omega)) (asymm hS e2)
  rw [D x (by omega) (by omega)]
  exact hL _ _ (by omega) (by omega) (by omega)
end
section
variable {β : Type} (k1 k2 : β → Int)
/-- the order of the keys, then of the tags -/
def ltT (x y : β × Nat) : Bool := decide (k1 x.1 < k1 y.1 ∨ k1 x.1 = k1 y.1 ∧ (k2 x.1 < k2 y.1 ∨ k2 x.1 = k2 y.1 ∧ x.2 < y.2))
def ltK (x y : β × Nat) : Bool := decide (k1 x.1 < k1 y.1 ∨ k1 x.1 = k1 y.1 ∧ k2 x.1 < k2 y.1)
theorem ltT_swo : SWO (ltT k1 k2) := ⟨fun x => by
    simp only [ltT, decide_eq_false_iff_not]
    omega, fun x y z => by
    simp only [ltT, decide_eq_true_eq]
    omega, fun x y z => by
    simp only [ltT, decide_eq_false_iff_not]
    omega⟩
theorem ltK_tag {x y : β × Nat} (h : x.2 < y.2) : ltK k1 k2 y x = ltT k1 k2 y x := by
  unfold ltK ltT
  exact decide_eq_decide.2 ⟨by omega, by omega⟩
end
end Go.Proofs.Ytlcpackmoolngaa.Stb
