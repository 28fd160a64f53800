/- P10.2, plainly: a roll's step, node by node. -/
import Derived.Test.YtjfllpmiajkenaaMember
namespace Go.Proofs.Ytjfllpmiajkenaa.Nd
open Go.RowKit Go.Proofs.Ytjfllpmiajkenaa.Mem Go.Proofs.Ytjfllpmiajkenaa.Rws
set_option linter.unusedVariables false

def upd {α : Type} (g : Nat → α) (i : Nat) (v : α) (k : Nat) : α := if k = i then v else g k
theorem upd_same {α : Type} (g : Nat → α) (i : Nat) (v : α) : upd g i v i = v := if_pos rfl
theorem upd_other {α : Type} (g : Nat → α) {i k : Nat} (v : α) (h : k ≠ i) : upd g i v k = g k := if_neg h

theorem roll_in (f : Nat → Bool) (m j : Nat → Int) (i : Nat) (hi : i < 4) (b : Bool) : (row 12 (rollF f m j)).setIfInBounds i (.bool b) = row 12 (rollF (upd f i b) m j) := by
  rw [row_set]
  refine row_congr fun k hk => ?_
  by_cases e : k = i
  · subst e; rw [if_pos rfl]; unfold rollF; rw [if_pos hi, upd_same]
  · rw [if_neg e]; unfold rollF; rw [upd_other _ _ e]
theorem roll_miss (f : Nat → Bool) (m j : Nat → Int) (i : Nat) (hi : i < 4) (v : Int) : (row 12 (rollF f m j)).setIfInBounds (4 + i) (.int .i64 v) = row 12 (rollF f (upd m i v) j) := by
  rw [row_set]
  refine row_congr fun k hk => ?_
  by_cases e : k = 4 + i
  · subst e; rw [if_pos rfl]; unfold rollF; rw [if_neg (show ¬ (4 + i < 4) by omega), if_pos (show 4 + i < 8 by omega), Nat.add_sub_cancel_left, upd_same]
  · rw [if_neg e]; unfold rollF
    by_cases h : k < 4
    · rw [if_pos h, if_pos h]
    · rw [if_neg h, if_neg h]
      by_cases h8 : k < 8
      · rw [if_pos h8, if_pos h8, upd_other _ _ (by omega)]
      · rw [if_neg h8, if_neg h8]
theorem roll_join (f : Nat → Bool) (m j : Nat → Int) (i : Nat) (hi : i < 4) (v : Int) : (row 12 (rollF f m j)).setIfInBounds (8 + i) (.int .i64 v) = row 12 (rollF f m (upd j i v)) := by
  rw [row_set]
  refine row_congr fun k hk => ?_
  by_cases e : k = 8 + i
  · subst e; rw [if_pos rfl]; unfold rollF; rw [if_neg (show ¬ (8 + i < 4) by omega), if_neg (show ¬ (8 + i < 8) by omega), Nat.add_sub_cancel_left, upd_same]
  · rw [if_neg e]; unfold rollF
    by_cases h : k < 4
    · rw [if_pos h, if_pos h]
    · rw [if_neg h, if_neg h]
      by_cases h8 : k < 8
      · rw [if_pos h8, if_pos h8]
      · rw [if_neg h8, if_neg h8, upd_other _ _ (by omega)]
theorem roll_congr {f f' : Nat → Bool} {m m' j j' : Nat → Int} (hf : ∀ i, i < 4 → f i = f' i) (hm : ∀ i, i < 4 → m i = m' i) (hj : ∀ i, i < 4 → j i = j' i) : row 12 (rollF f m j) = row 12 (rollF f' m' j') := row_congr fun k hk => by
  unfold rollF
  by_cases h : k < 4
  · rw [if_pos h, if_pos h, hf k h]
  · rw [if_neg h, if_neg h]
    by_cases h8 : k < 8
    · rw [if_pos h8, if_pos h8, hm _ (by omega)]
    · rw [if_neg h8, if_neg h8, hj _ (by omega)]

structure RS where
  f : Nat → Bool
  m : Nat → Int
  j : Nat → Int
def RS.row (s : RS) : Array Value := Rws.row 12 (rollF s.f s.m s.j)
/-- node i's turn -/
def one (s : RS) (i : Nat) (b : Bool) : RS × List (Int × Int) :=
  if s.f i = true then
    if b = true then (⟨s.f, upd s.m i 0, s.j⟩, [])
    else if 2 ≤ s.m i + 1 ∧ 2 < cntTo s.f 4 then (⟨upd s.f i false, upd s.m i 0, s.j⟩, [(1, (i : Int))])
    else (⟨s.f, upd s.m i (min (s.m i + 1) 2), s.j⟩, [])
  else if b = false then (⟨s.f, s.m, upd s.j i 0⟩, [])
  else if 3 ≤ s.j i + 1 then (⟨upd s.f i true, s.m, upd s.j i 0⟩, [(2, (i : Int))])
  else (⟨s.f, s.m, upd s.j i (s.j i + 1)⟩, [])
def many (s : RS) (ag : Nat → Bool) : Nat → RS × List (Int × Int)
  | 0 => (s, [])
  | k + 1 => ((one (many s ag k).1 k (ag k)).1, (many s ag k).2 ++ (one (many s ag k).1 k (ag k)).2)
/-- at node i the roll is good -/
def GoodAt (s : RS) (i : Nat) : Prop := okAt s.f s.m s.j i = true
theorem one_other (s : RS) {i k : Nat} (b : Bool) (h : k ≠ i) : (one s i b).1.f k = s.f k ∧ (one s i b).1.m k = s.m k ∧ (one s i b).1.j k = s.j k := by
  unfold one
  (repeat' split) <;> simp [upd_other _ _ h]
theorem okAt_congr {f f' : Nat → Bool} {m m' j j' : Nat → Int} {k : Nat} (hf : f k = f' k) (hm : m k = m' k) (hj : j k = j' k) : okAt f m j k = okAt f' m' j' k := by
  rw [okAt_is (f := f) (m := m) (j := j) rfl rfl rfl, okAt_is (f := f') (m := m') (j := j') rfl rfl rfl, hf, hm, hj]
theorem many_good (s : RS) (ag : Nat → Bool) : ∀ k, ∀ i, k ≤ i → GoodAt s i → GoodAt (many s ag k).1 i
  | 0, i, _, h => h
  | k + 1, i, hk, h => by
    have h1 := many_good s ag k i (by omega) h
    obtain ⟨e1, e2, e3⟩ := one_other (many s ag k).1 (ag k) (show i ≠ k by omega)
    unfold GoodAt at h1 ⊢
    rw [← h1]
    exact okAt_congr e1 e2 e3
theorem good_in {s : RS} {i : Nat} (h : GoodAt s i) (hf : s.f i = true) : 0 ≤ s.m i ∧ s.m i ≤ 2 ∧ s.j i = 0 := by
  unfold GoodAt at h
  rw [okAt_is hf rfl rfl, okP_in] at h
  simpa [and_assoc] using h
theorem good_out {s : RS} {i : Nat} (h : GoodAt s i) (hf : s.f i = false) : s.m i = 0 ∧ 0 ≤ s.j i ∧ s.j i < 3 := by
  unfold GoodAt at h
  rw [okAt_is hf rfl rfl, okP_out] at h
  simpa [and_assoc] using h
theorem okTo_at {f : Nat → Bool} {m j : Nat → Int} : ∀ {n : Nat}, okTo f m j n = true → ∀ i, i < n → okAt f m j i = true
  | 0, _, i, h => by omega
  | n + 1, h, i, hi => by
    unfold okTo at h
    simp only [Bool.and_eq_true] at h
    by_cases e : i = n
    · subst e; exact h.2
    · exact okTo_at h.1 i (by omega)
theorem many_len (s : RS) (ag : Nat → Bool) : ∀ k, (many s ag k).2.length ≤ k
  | 0 => Nat.le_refl _
  | k + 1 => by
    have := many_len s ag k
    unfold many
    rw [List.length_append]
    have h1 : (one (many s ag k).1 k (ag k)).2.length ≤ 1 := by unfold one; (repeat' split) <;> simp
    omega
end Go.Proofs.Ytjfllpmiajkenaa.Nd
