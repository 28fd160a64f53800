/- The vote, plainly: what vote.Vote and the reference's Vote reckon is one. -/
import Derived.Test.YtjfllpmiajkenaaMem
namespace Go.Proofs.Ytjfllpmiajkenaa.Vt

def cnt (L : Nat → Int) (I : Nat → Bool) (v : Int) : Nat → Nat
  | 0 => 0
  | k + 1 => cnt L I v k + if I k = true ∧ L k = v then 1 else 0
def tot (I : Nat → Bool) : Nat → Nat
  | 0 => 0
  | k + 1 => tot I k + if I k = true then 1 else 0
def vt (L : Nat → Int) (I : Nat → Bool) : Nat → Nat × Int
  | 0 => (0, 0)
  | k + 1 => if I k = true ∧ (vt L I k).1 < cnt L I (L k) 4 then (cnt L I (L k) 4, L k) else vt L I k
def rv (L : Nat → Int) (I : Nat → Bool) : Nat → Int
  | 0 => 0
  | k + 1 => if I k = true ∧ (cnt L I (rv L I k) 4 < cnt L I (L k) 4 ∨ tot I k = 0) then L k else rv L I k
theorem cnt_le (L : Nat → Int) (I : Nat → Bool) (v : Int) : ∀ k, cnt L I v k ≤ k
  | 0 => Nat.le_refl _
  | k + 1 => by have := cnt_le L I v k; unfold cnt; split <;> omega
theorem tot_le (I : Nat → Bool) : ∀ k, tot I k ≤ k
  | 0 => Nat.le_refl _
  | k + 1 => by have := tot_le I k; unfold tot; split <;> omega
theorem cnt_pos {L : Nat → Int} {I : Nat → Bool} {k : Nat} (h : I k = true) : ∀ {n : Nat}, k < n → 0 < cnt L I (L k) n
  | 0, hk => by omega
  | n + 1, hk => by
    unfold cnt
    by_cases e : k = n
    · subst e; rw [if_pos ⟨h, rfl⟩]; omega
    · have := cnt_pos (L := L) h (show k < n by omega); omega
theorem vt_le (L : Nat → Int) (I : Nat → Bool) : ∀ k, (vt L I k).1 ≤ 4
  | 0 => Nat.zero_le _
  | k + 1 => by unfold vt; split; exact cnt_le L I _ 4; exact vt_le L I k
theorem vt_rv (L : Nat → Int) (I : Nat → Bool) : ∀ k, k ≤ 4 → (tot I k = 0 → vt L I k = (0, 0) ∧ rv L I k = 0) ∧ (0 < tot I k → vt L I k = (cnt L I (rv L I k) 4, rv L I k))
  | 0, _ => ⟨fun _ => ⟨rfl, rfl⟩, fun h => absurd h (Nat.lt_irrefl 0)⟩
  | k + 1, hk => by
    obtain ⟨h0, h1⟩ := vt_rv L I k (by omega)
    cases hI : I k with
    | false =>
      have e1 : tot I (k + 1) = tot I k := by simp [tot, hI]
      have e2 : vt L I (k + 1) = vt L I k := by simp [vt, hI]
      have e3 : rv L I (k + 1) = rv L I k := by simp [rv, hI]
      rw [e1, e2, e3]; exact ⟨h0, h1⟩
    | true =>
      have e1 : tot I (k + 1) = tot I k + 1 := by simp [tot, hI]
      refine ⟨fun h => by omega, fun _ => ?_⟩
      have hp := cnt_pos (L := L) hI (show k < 4 by omega)
      rcases Nat.eq_zero_or_pos (tot I k) with ht | ht
      · obtain ⟨hv, hr⟩ := h0 ht
        have e2 : vt L I (k + 1) = (cnt L I (L k) 4, L k) := by simp [vt, hI, hv, hp]
        have e3 : rv L I (k + 1) = L k := by simp [rv, hI, ht]
        rw [e2, e3]
      · have hv := h1 ht
        by_cases hc : cnt L I (rv L I k) 4 < cnt L I (L k) 4
        · have e2 : vt L I (k + 1) = (cnt L I (L k) 4, L k) := by simp [vt, hI, hv, hc]
          have e3 : rv L I (k + 1) = L k := by simp [rv, hI, hc]
          rw [e2, e3]
        · have e2 : vt L I (k + 1) = vt L I k := by simp [vt, hI, hv, hc]
          have e3 : rv L I (k + 1) = rv L I k := by simp [rv, hI, hc]; omega
          rw [e2, e3]; exact hv
/-- the verdict -/
def val (L : Nat → Int) (I : Nat → Bool) : Int := rv L I 4
def strong (L : Nat → Int) (I : Nat → Bool) : Bool := decide (tot I 4 < 2 * (vt L I 4).1)
def agrees (L : Nat → Int) (I : Nat → Bool) (i : Nat) : Bool := decide (0 < tot I 4) && decide (L i = val L I)
theorem vt_val (L : Nat → Int) (I : Nat → Bool) : (vt L I 4).2 = val L I := by
  obtain ⟨h0, h1⟩ := vt_rv L I 4 (by omega)
  unfold val
  rcases Nat.eq_zero_or_pos (tot I 4) with ht | ht
  · rw [(h0 ht).1, (h0 ht).2]
  · rw [h1 ht]
theorem ref_strong (L : Nat → Int) (I : Nat → Bool) : (decide (0 < tot I 4) && decide (tot I 4 < 2 * cnt L I (rv L I 4) 4)) = strong L I := by
  obtain ⟨h0, h1⟩ := vt_rv L I 4 (by omega)
  unfold strong
  rcases Nat.eq_zero_or_pos (tot I 4) with ht | ht
  · rw [(h0 ht).1, ht]; rfl
  · rw [h1 ht]; simp [ht]
end Go.Proofs.Ytjfllpmiajkenaa.Vt
