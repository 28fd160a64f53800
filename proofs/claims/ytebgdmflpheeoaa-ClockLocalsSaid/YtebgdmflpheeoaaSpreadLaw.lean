/- P7.4 in plain words: what the program's one walk over the offsets keeps, what the reference's double walk keeps, and that both come to one number. No program in sight. -/
import Derived.IntWalk
namespace Go.Proofs.Ytebgdmflpheeoaa.SpreadLaw

def at4 (a b c d : Int) (k : Nat) : Int := [a, b, c, d].getD k 0

/-- the program: least, greatest, none yet, of the first k but the bad one -/
def acc (f : Nat → Int) (bad : Int) : Nat → Int × Int × Bool
  | 0 => (0, 0, true)
  | k + 1 =>
    let s := acc f bad k
    if (k : Int) = bad then s else (if s.2.2 || decide (f k < s.1) then f k else s.1, if s.2.2 || decide (s.2.1 < f k) then f k else s.2.1, false)

/-- the reference: the greatest difference, row i, up to column k -/
def row (f : Nat → Int) (bad : Int) (m : Int) (i : Nat) : Nat → Int
  | 0 => m
  | k + 1 => if (i : Int) ≠ bad ∧ (k : Int) ≠ bad then max (row f bad m i k) (f i - f k) else row f bad m i k
def most (f : Nat → Int) (bad : Int) : Nat → Int
  | 0 => 0
  | i + 1 => row f bad (most f bad i) i 4

def ok (f : Nat → Int) (k : Nat) : Prop := ∀ j, j < k → -2199023255552 ≤ f j ∧ f j ≤ 2199023255552

def Inv (f : Nat → Int) (bad : Int) (k : Nat) (s : Int × Int × Bool) : Prop :=
  (s.2.2 = true ∧ s.1 = 0 ∧ s.2.1 = 0 ∧ ∀ j, j < k → (j : Int) = bad) ∨
  (s.2.2 = false ∧ (∀ j, j < k → (j : Int) ≠ bad → s.1 ≤ f j ∧ f j ≤ s.2.1) ∧ (∃ j, j < k ∧ (j : Int) ≠ bad ∧ s.1 = f j) ∧ ∃ j, j < k ∧ (j : Int) ≠ bad ∧ s.2.1 = f j)

theorem acc_inv (f : Nat → Int) (bad : Int) : ∀ k, Inv f bad k (acc f bad k)
  | 0 => .inl ⟨rfl, rfl, rfl, fun j hj => by omega⟩
  | k + 1 => by
    have ih := acc_inv f bad k
    unfold acc
    by_cases hb : (k : Int) = bad
    · simp only [hb, if_true]
      rcases ih with ⟨h1, h2, h3, h4⟩ | ⟨h1, h2, ⟨j, hj, hjb, hje⟩, ⟨i, hi, hib, hie⟩⟩
      · exact .inl ⟨h1, h2, h3, fun j hj => by by_cases e : j = k; exact e ▸ hb; exact h4 j (by omega)⟩
      · exact .inr ⟨h1, fun j hj hjb => h2 j (by by_cases e : j = k; exact absurd (e ▸ hb) hjb; omega) hjb, ⟨j, by omega, hjb, hje⟩, ⟨i, by omega, hib, hie⟩⟩
    · simp only [hb, if_false]
      refine .inr ⟨rfl, ?_, ?_, ?_⟩
      · intro j hj hjb
        rcases ih with ⟨h1, h2, h3, h4⟩ | ⟨h1, h2, _, _⟩
        · have e : j = k := by by_cases e : j = k; exact e; exact absurd (h4 j (by omega)) hjb
          subst e
          simp [h1]
        · by_cases e : j = k
          · subst e
            simp only [h1, Bool.false_or, decide_eq_true_eq]
            split <;> split <;> omega
          · obtain ⟨h5, h6⟩ := h2 j (by omega) hjb
            simp only [h1, Bool.false_or, decide_eq_true_eq]
            split <;> split <;> omega
      · rcases ih with ⟨h1, _, _, _⟩ | ⟨h1, _, ⟨j, hj, hjb, hje⟩, _⟩
        · exact ⟨k, by omega, hb, by simp [h1]⟩
        · by_cases hlt : f k < (acc f bad k).1
          · exact ⟨k, by omega, hb, by simp [hlt]⟩
          · exact ⟨j, by omega, hjb, by simp only [h1, Bool.false_or, decide_eq_true_eq]; rw [if_neg hlt]; exact hje⟩
      · rcases ih with ⟨h1, _, _, _⟩ | ⟨h1, _, _, ⟨j, hj, hjb, hje⟩⟩
        · exact ⟨k, by omega, hb, by simp [h1]⟩
        · by_cases hlt : (acc f bad k).2.1 < f k
          · exact ⟨k, by omega, hb, by simp [hlt]⟩
          · exact ⟨j, by omega, hjb, by simp only [h1, Bool.false_or, decide_eq_true_eq]; rw [if_neg hlt]; exact hje⟩

theorem row_spec (f : Nat → Int) (bad m : Int) (i : Nat) : ∀ k, m ≤ row f bad m i k ∧ (∀ j : Nat, j < k → (i : Int) ≠ bad → (j : Int) ≠ bad → f i - f j ≤ row f bad m i k) ∧
    (row f bad m i k = m ∨ ∃ j : Nat, j < k ∧ (i : Int) ≠ bad ∧ (j : Int) ≠ bad ∧ row f bad m i k = f i - f j)
  | 0 => ⟨Int.le_refl _, fun j hj => by omega, .inl rfl⟩
  | k + 1 => by
    obtain ⟨h1, h2, h3⟩ := row_spec f bad m i k
    unfold row
    by_cases hc : (i : Int) ≠ bad ∧ (k : Int) ≠ bad
    · rw [if_pos hc]
      refine ⟨by omega, fun j hj ha hb => ?_, ?_⟩
      · by_cases e : j = k
        · subst e; omega
        · have := h2 j (by omega) ha hb; omega
      · by_cases hm : row f bad m i k ≤ f i - f k
        · exact .inr ⟨k, by omega, hc.1, hc.2, by omega⟩
        · rw [show max (row f bad m i k) (f i - f k) = row f bad m i k by omega]
          rcases h3 with h3 | ⟨j, hj, ha, hb, he⟩
          · exact .inl h3
          · exact .inr ⟨j, by omega, ha, hb, he⟩
    · rw [if_neg hc]
      refine ⟨h1, fun j hj ha hb => ?_, ?_⟩
      · by_cases e : j = k
        · subst e; exact absurd ⟨ha, hb⟩ hc
        · exact h2 j (by omega) ha hb
      · rcases h3 with h3 | ⟨j, hj, ha, hb, he⟩
        · exact .inl h3
        · exact .inr ⟨j, by omega, ha, hb, he⟩

theorem most_spec (f : Nat → Int) (bad : Int) : ∀ n, 0 ≤ most f bad n ∧ (∀ i j : Nat, i < n → j < 4 → (i : Int) ≠ bad → (j : Int) ≠ bad → f i - f j ≤ most f bad n) ∧
    (most f bad n = 0 ∨ ∃ i j : Nat, i < n ∧ j < 4 ∧ (i : Int) ≠ bad ∧ (j : Int) ≠ bad ∧ most f bad n = f i - f j)
  | 0 => ⟨Int.le_refl _, fun i j hi => by omega, .inl rfl⟩
  | n + 1 => by
    obtain ⟨h1, h2, h3⟩ := most_spec f bad n
    obtain ⟨g1, g2, g3⟩ := row_spec f bad (most f bad n) n 4
    unfold most
    refine ⟨by omega, fun i j hi hj ha hb => ?_, ?_⟩
    · by_cases e : i = n
      · subst e; exact g2 j hj ha hb
      · have := h2 i j (by omega) hj ha hb; omega
    · rcases g3 with g3 | ⟨j, hj, ha, hb, he⟩
      · rw [g3]
        rcases h3 with h3 | ⟨i, j, hi, hj, ha, hb, he⟩
        · exact .inl h3
        · exact .inr ⟨i, j, by omega, hj, ha, hb, he⟩
      · exact .inr ⟨n, j, by omega, hj, ha, hb, he⟩

/-- the two come to one number -/
theorem same (f : Nat → Int) (bad : Int) : (acc f bad 4).2.1 - (acc f bad 4).1 = most f bad 4 := by
  obtain ⟨h1, h2, h3⟩ := most_spec f bad 4
  rcases acc_inv f bad 4 with ⟨_, e1, e2, h4⟩ | ⟨_, h4, ⟨j, hj, hjb, hje⟩, ⟨i, hi, hib, hie⟩⟩
  · rcases h3 with h3 | ⟨i, j, hi, hj, ha, hb, he⟩
    · omega
    · exact absurd (h4 i hi) ha
  · have := h2 i j hi hj hib hjb
    rcases h3 with h3 | ⟨i', j', hi', hj', ha, hb, he⟩
    · have := h4 i hi hib; omega
    · have a := h4 i' hi' ha
      have b := h4 j' hj' hb
      omega

theorem acc_bound (f : Nat → Int) (bad : Int) (k : Nat) (h : ok f k) : -2199023255552 ≤ (acc f bad k).1 ∧ (acc f bad k).1 ≤ 2199023255552 ∧ -2199023255552 ≤ (acc f bad k).2.1 ∧ (acc f bad k).2.1 ≤ 2199023255552 := by
  rcases acc_inv f bad k with ⟨_, e1, e2, h4⟩ | ⟨_, h4, ⟨j, hj, hjb, hje⟩, ⟨i, hi, hib, hie⟩⟩
  · rw [e1, e2]; omega
  · have a := h j hj; have b := h i hi; rw [hje, hie]; omega

theorem row_bound (f : Nat → Int) (bad m : Int) (i k : Nat) (h : ok f 4) (hi : i < 4) (hk : k ≤ 4) (hm : 0 ≤ m ∧ m ≤ 4398046511104) : 0 ≤ row f bad m i k ∧ row f bad m i k ≤ 4398046511104 := by
  obtain ⟨g1, g2, g3⟩ := row_spec f bad m i k
  rcases g3 with g3 | ⟨j, hj, ha, hb, he⟩
  · rw [g3]; exact hm
  · have a := h j (by omega); have b := h i hi; omega

theorem most_bound (f : Nat → Int) (bad : Int) (n : Nat) (h : ok f 4) (hn : n ≤ 4) : 0 ≤ most f bad n ∧ most f bad n ≤ 4398046511104 := by
  obtain ⟨h1, h2, h3⟩ := most_spec f bad n
  rcases h3 with h3 | ⟨i, j, hi, hj, ha, hb, he⟩
  · omega
  · have a := h j (by omega); have b := h i (by omega); omega

end Go.Proofs.Ytebgdmflpheeoaa.SpreadLaw
