/- The majority of a list: whoever is left over, and whether they are more than half. No program in sight. -/
namespace Go.Proofs.Ytjfllpmiajkenaa.MajLaw

/-- one more vote -/
def vstep (s : Nat × Int) (v : Int) : Nat × Int := if s.1 = 0 then (1, v) else if v = s.2 then (s.1 + 1, s.2) else (s.1 - 1, s.2)
def left (l : List Int) : Nat × Int := l.foldl vstep (0, 0)
def cnt (x : Int) (l : List Int) : Nat := l.count x

theorem left_snoc (l : List Int) (v : Int) : left (l ++ [v]) = vstep (left l) v := by simp [left]
theorem cnt_snoc (x : Int) (l : List Int) (v : Int) : cnt x (l ++ [v]) = cnt x l + if v = x then 1 else 0 := by
  unfold cnt
  rw [List.count_append, List.count_singleton]
  simp
theorem cnt_le (x : Int) (l : List Int) : cnt x l ≤ l.length := List.count_le_length

theorem left_inv (l : List Int) : ∀ x, 2 * cnt x l + (left l).1 ≤ l.length + (if x = (left l).2 then 2 * (left l).1 else 0) := by
  suffices h : ∀ (r : List Int), (∀ x, 2 * cnt x r.reverse + (left r.reverse).1 ≤ r.reverse.length + (if x = (left r.reverse).2 then 2 * (left r.reverse).1 else 0)) by
    have := h l.reverse
    rwa [List.reverse_reverse] at this
  intro r
  induction r with
  | nil => intro x; simp [cnt, left]
  | cons v r ih =>
    intro x
    have h := ih x
    have hv := ih v
    rw [List.reverse_cons, left_snoc, cnt_snoc, List.length_append, List.length_singleton]
    generalize left r.reverse = s at h hv ⊢
    obtain ⟨n, a⟩ := s
    simp only at h hv ⊢
    unfold vstep
    simp only
    by_cases h0 : n = 0
    · subst h0
      rw [if_pos rfl]
      by_cases e : v = x
      · subst e; simp at *; omega
      · rw [if_neg e]; simp [Ne.symm e] at *; omega
    · rw [if_neg h0]
      by_cases e1 : v = a
      · subst e1
        rw [if_pos rfl]
        by_cases e : v = x
        · subst e; simp at *; omega
        · rw [if_neg e]; simp [Ne.symm e] at *; omega
      · rw [if_neg e1]
        by_cases e : v = x
        · subst e
          rw [if_pos rfl]; simp [e1] at *; omega
        · rw [if_neg e]
          by_cases e2 : x = a
          · subst e2; simp at *; omega
          · simp [e2] at *; omega

/-- P8.1 -/
def maj (l : List Int) (other : Int) : Int := if l.length < 2 * cnt (left l).2 l then (left l).2 else other

theorem left_of_more {l : List Int} {x : Int} (h : l.length < 2 * cnt x l) : (left l).2 = x := by
  have := left_inv l x
  by_cases e : x = (left l).2
  · exact e.symm
  · rw [if_neg e] at this; omega
theorem maj_found {l : List Int} {x o : Int} (h : l.length < 2 * cnt x l) : maj l o = x := by
  have e := left_of_more h
  unfold maj; rw [e, if_pos h]
theorem maj_none {l : List Int} {o : Int} (h : ∀ i (hi : i < l.length), ¬ l.length < 2 * cnt l[i] l) : maj l o = o := by
  unfold maj
  refine if_neg fun hm => ?_
  have h0 : 0 < cnt (left l).2 l := by omega
  obtain ⟨i, hi, e⟩ := List.getElem_of_mem (List.count_pos_iff.1 h0)
  exact h i hi (by rw [e]; exact hm)

theorem left_take (l : List Int) (k : Nat) (hk : k < l.length) : left (l.take (k + 1)) = vstep (left (l.take k)) l[k] := by
  rw [List.take_succ_eq_append_getElem hk, left_snoc]
theorem left_le (l : List Int) : (left l).1 ≤ l.length := by
  have h := left_inv l ((left l).2 + 1)
  rw [if_neg (by omega)] at h
  omega
theorem cnt_take (x : Int) (l : List Int) (k : Nat) (hk : k < l.length) : cnt x (l.take (k + 1)) = cnt x (l.take k) + if l[k] = x then 1 else 0 := by
  rw [List.take_succ_eq_append_getElem hk, cnt_snoc]
theorem vstep_zero {n : Nat} {a v : Int} (h : n = 0) : vstep (n, a) v = (1, v) := by unfold vstep; rw [if_pos h]
theorem vstep_same {n : Nat} {a v : Int} (h : n ≠ 0) (e : v = a) : vstep (n, a) v = (n + 1, a) := by unfold vstep; rw [if_neg h, if_pos e]
theorem vstep_other {n : Nat} {a v : Int} (h : n ≠ 0) (e : v ≠ a) : vstep (n, a) v = (n - 1, a) := by unfold vstep; rw [if_neg h, if_neg e]
end Go.Proofs.Ytjfllpmiajkenaa.MajLaw
