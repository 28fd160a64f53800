/- P8.3 in plain words: what each node takes for said by one of them, when one lies. -/
import Derived.Test.YtjfllpmiajkenaaMajLaw
import Derived.Test.YtjfllpmiajkenaaInts
namespace Go.Proofs.Ytjfllpmiajkenaa.Av
set_option linter.unusedVariables false

/-- one number of a list written -/
def putI (f : Nat → Int) (i : Nat) (v : Int) : Nat → Int := fun j => if j = i then v else f j
/-- one number of a square written -/
def upd (S : Nat → Nat → Int) (i j : Nat) (v : Int) : Nat → Nat → Int := fun a b => if a = i ∧ b = j then v else S a b
/-- what s says to the first r; how many lies are told -/
def dirF (s : Nat) (bad v : Int) (lie : Nat → Int) (n : Nat) : Nat → (Nat → Int) × Nat
  | 0 => (fun _ => v, n)
  | r + 1 => if (s : Int) = bad ∧ r ≠ s then (putI (dirF s bad v lie n r).1 r (lie (dirF s bad v lie n r).2), (dirF s bad v lie n r).2 + 1) else dirF s bad v lie n r
/-- whether r tells q of what s said -/
def tells (s r q : Nat) : Prop := r ≠ s ∧ q ≠ s ∧ q ≠ r
instance (s r q : Nat) : Decidable (tells s r q) := inferInstanceAs (Decidable (_ ∧ _ ∧ _))
/-- what r tells the first q of them -/
def saidQ (s r : Nat) (bad : Int) (d lie : Nat → Int) (S : Nat → Nat → Int) (n : Nat) : Nat → (Nat → Nat → Int) × Nat
  | 0 => (S, n)
  | q + 1 =>
    if tells s r q then
      if (r : Int) = bad then (upd (saidQ s r bad d lie S n q).1 r q (lie (saidQ s r bad d lie S n q).2), (saidQ s r bad d lie S n q).2 + 1)
      else (upd (saidQ s r bad d lie S n q).1 r q (d r), (saidQ s r bad d lie S n q).2)
    else saidQ s r bad d lie S n q
/-- what the first r tell -/
def saidR (s : Nat) (bad : Int) (d lie : Nat → Int) (n : Nat) : Nat → (Nat → Nat → Int) × Nat
  | 0 => (fun _ _ => 0, n)
  | r + 1 => saidQ s r bad d lie (saidR s bad d lie n r).1 (saidR s bad d lie n r).2 4
/-- what q was told by the first r, in order -/
def toldF (s q : Nat) (S : Nat → Nat → Int) (r : Nat) : List Int := ((List.range r).filter fun p => decide (p ≠ s ∧ p ≠ q)).map fun p => S p q
theorem toldF_succ (s q : Nat) (S : Nat → Nat → Int) (r : Nat) : toldF s q S (r + 1) = toldF s q S r ++ if r ≠ s ∧ r ≠ q then [S r q] else [] := by
  unfold toldF
  rw [List.range_succ, List.filter_append, List.map_append]
  congr 1
  by_cases h : r ≠ s ∧ r ≠ q
  · rw [if_pos h]; simp [h]
  · rw [if_neg h]; simp [h]
theorem toldF_congr {s q : Nat} {S S' : Nat → Nat → Int} (r : Nat) (h : ∀ p, p < r → S p q = S' p q) : toldF s q S r = toldF s q S' r := by
  unfold toldF
  apply List.map_congr_left
  intro p hp
  exact h p (List.mem_range.mp (List.mem_filter.mp hp).1)
theorem toldF_length : ∀ s q, s < 4 → q < 4 → q ≠ s → ∀ S, (toldF s q S 4).length = 2 := by
  intro s q hs hq hne S
  unfold toldF
  rw [List.length_map]
  rcases (show s = 0 ∨ s = 1 ∨ s = 2 ∨ s = 3 by omega) with rfl | rfl | rfl | rfl <;> rcases (show q = 0 ∨ q = 1 ∨ q = 2 ∨ q = 3 by omega) with rfl | rfl | rfl | rfl <;> first | rfl | exact absurd rfl hne
theorem dirF_count (s : Nat) (bad v : Int) (lie : Nat → Int) (n : Nat) : ∀ r, (dirF s bad v lie n r).2 ≤ n + r
  | 0 => Nat.le_refl _
  | r + 1 => by
    have h := dirF_count s bad v lie n r
    unfold dirF
    split
    · show _ + 1 ≤ _; omega
    · omega
theorem dirF_later (s : Nat) (bad v : Int) (lie : Nat → Int) (n : Nat) : ∀ r j, r ≤ j → (dirF s bad v lie n r).1 j = v
  | 0, j, _ => rfl
  | r + 1, j, h => by
    have h1 := dirF_later s bad v lie n r j (by omega)
    unfold dirF
    split
    · show putI _ r _ j = v
      unfold putI
      rw [if_neg (by omega)]
      exact h1
    · exact h1
theorem saidQ_count (s r : Nat) (bad : Int) (d lie : Nat → Int) (S : Nat → Nat → Int) (n : Nat) : ∀ q, (saidQ s r bad d lie S n q).2 ≤ n + q
  | 0 => Nat.le_refl _
  | q + 1 => by
    have h := saidQ_count s r bad d lie S n q
    unfold saidQ
    split
    · split
      · show _ + 1 ≤ _; omega
      · show (saidQ s r bad d lie S n q).2 ≤ _; omega
    · omega
theorem saidR_count (s : Nat) (bad : Int) (d lie : Nat → Int) (n : Nat) : ∀ r, (saidR s bad d lie n r).2 ≤ n + 4 * r
  | 0 => Nat.le_refl _
  | r + 1 => by
    have h := saidR_count s bad d lie n r
    have h1 := saidQ_count s r bad d lie (saidR s bad d lie n r).1 (saidR s bad d lie n r).2 4
    unfold saidR
    omega
/-- what q takes for said by s -/
def takeF (s : Nat) (v : Int) (D : Nat → Int) (S : Nat → Nat → Int) (q : Nat) : Int := if q = s then v else Go.Proofs.Ytjfllpmiajkenaa.MajLaw.maj (D q :: toldF s q S 4) 0
/-- what s says to all, with the lies told so far -/
def dirA (bad : Int) (vals lie : Nat → Int) (s n : Nat) : (Nat → Int) × Nat := dirF s bad (vals s) lie n 4
def saidA (bad : Int) (vals lie : Nat → Int) (s n : Nat) : (Nat → Nat → Int) × Nat := saidR s bad (dirA bad vals lie s n).1 lie (dirA bad vals lie s n).2 4
/-- one column written, the first a rows of it -/
def colF (O : Nat → Nat → Int) (s a : Nat) (f : Nat → Int) : Nat → Nat → Int := fun i j => if j = s ∧ i < a then f i else O i j
/-- the first s of them -/
def vecF (bad : Int) (vals lie : Nat → Int) : Nat → (Nat → Nat → Int) × Nat
  | 0 => (fun _ _ => 0, 0)
  | s + 1 => (colF (vecF bad vals lie s).1 s 4 (takeF s (vals s) (dirA bad vals lie s (vecF bad vals lie s).2).1 (saidA bad vals lie s (vecF bad vals lie s).2).1), (saidA bad vals lie s (vecF bad vals lie s).2).2)
theorem vecF_count (bad : Int) (vals lie : Nat → Int) : ∀ s, (vecF bad vals lie s).2 ≤ 20 * s
  | 0 => Nat.le_refl _
  | s + 1 => by
    have h := vecF_count bad vals lie s
    have h1 := dirF_count s bad (vals s) lie (vecF bad vals lie s).2 4
    have h2 := saidR_count s bad (dirA bad vals lie s (vecF bad vals lie s).2).1 lie (dirA bad vals lie s (vecF bad vals lie s).2).2 4
    unfold vecF saidA
    have h3 : (dirA bad vals lie s (vecF bad vals lie s).2).2 ≤ (vecF bad vals lie s).2 + 4 := h1
    show (saidR s bad (dirA bad vals lie s (vecF bad vals lie s).2).1 lie (dirA bad vals lie s (vecF bad vals lie s).2).2 4).2 ≤ _
    omega
theorem colF_zero (O : Nat → Nat → Int) (s : Nat) (f : Nat → Int) : colF O s 0 f = O := by
  funext i j
  simp [colF]
theorem colF_succ (O : Nat → Nat → Int) (s a : Nat) (f : Nat → Int) : upd (colF O s a f) a s (f a) = colF O s (a + 1) f := by
  funext i j
  simp only [upd, colF]
  by_cases h : i = a
  · subst h
    by_cases hj : j = s
    · simp [hj]
    · simp [hj]
  · by_cases hj : j = s
    · by_cases h2 : i < a
      · simp [hj, h, h2, show i < a + 1 by omega]
      · simp [hj, h, h2, show ¬ i < a + 1 by omega]
    · simp [hj]
/-- what a was told by the first r, when only others are told -/
def tlF (s : Nat) (S : Nat → Nat → Int) (a r : Nat) : List Int := if a = s then [] else toldF s a S r
theorem tlF_le (s : Nat) (S : Nat → Nat → Int) (a r : Nat) : (tlF s S a r).length ≤ r := by
  unfold tlF
  split
  · simp
  · unfold toldF
    rw [List.length_map]
    exact Nat.le_trans (List.length_filter_le _ _) (by simp)
theorem tl_skip {s r q : Nat} {S : Nat → Nat → Int} (h : ¬ tells s r q) (a : Nat) : tlF s S a (if a < q then r + 1 else r) = tlF s S a (if a < q + 1 then r + 1 else r) := by
  unfold tlF
  by_cases ha : a = s
  · rw [if_pos ha, if_pos ha]
  · rw [if_neg ha, if_neg ha]
    by_cases e : a = q
    · subst e
      rw [if_neg (by omega), if_pos (by omega), toldF_succ, if_neg (fun h2 => h ⟨h2.1, ha, fun e => h2.2 e.symm⟩), List.append_nil]
    · by_cases h1 : a < q
      · rw [if_pos h1, if_pos (by omega)]
      · rw [if_neg h1, if_neg (by omega)]
theorem tl_put {s r q : Nat} {S : Nat → Nat → Int} (x : Int) (h : tells s r q) (a : Nat) : (if a = q then tlF s S q r ++ [x] else tlF s S a (if a < q then r + 1 else r)) = tlF s (upd S r q x) a (if a < q + 1 then r + 1 else r) := by
  unfold tlF
  by_cases e : a = q
  · subst e
    rw [if_pos rfl, if_neg h.2.1, if_neg h.2.1, if_pos (by omega), toldF_succ, if_pos ⟨h.1, fun e => h.2.2 e.symm⟩, toldF_congr r (S' := upd S r a x) (fun p hp => by unfold upd; rw [if_neg (fun h3 => by omega)])]
    congr 1
    unfold upd
    rw [if_pos ⟨rfl, rfl⟩]
  · rw [if_neg e]
    by_cases ha : a = s
    · rw [if_pos ha, if_pos ha]
    · rw [if_neg ha, if_neg ha]
      have hc : ∀ t, toldF s a S t = toldF s a (upd S r q x) t := fun t => toldF_congr t (fun p _ => by unfold upd; rw [if_neg (fun h3 => e h3.2)])
      by_cases h1 : a < q
      · rw [if_pos h1, if_pos (by omega), hc]
      · rw [if_neg h1, if_neg (by omega), hc]
end Go.Proofs.Ytjfllpmiajkenaa.Av
