/- The library's stable sort, plain: the merging rounds; a list sorted by a strict order is the only one of its permutations. -/
import Derived.Test.YtlcpackmoolngaaStabB
namespace Go.Proofs.Ytlcpackmoolngaa.Stb
open Go.Sort
set_option linter.unusedVariables false
set_option linter.unusedSimpArgs false
section
variable {α : Type} [Inhabited α] {lt : α → α → Bool} {τ : α → Nat}
/-- all blocks of B are done -/
def Done (lt : α → α → Bool) (τ : α → Nat) (B n : Nat) (d : Array α) : Prop := ∀ q, q * B < n → Bk lt τ (q * B) (min ((q + 1) * B) n) d
/-- the insertion loop's end: the last, short block -/
theorem Ins.done {B k n : Nat} {d0 d d' : Array α} (h : Ins lt τ B k n d0 d) (hn : n = d0.size) (hk : k * B ≤ n) (hk2 : n < (k + 1) * B) (ht : ∀ i, i < n → τ d0[i]! = i) (hp : PermIn (k * B) n d d') (hs : SortedIn lt (k * B) n d') : PermIn 0 n d0 d' ∧ Done lt τ B n d' := by
  have hz := h.1.1
  refine ⟨permIn_trans _ _ _ _ _ (permIn_mono _ _ _ _ _ _ (Nat.le_refl _) hk (by omega) h.1) (permIn_mono _ _ _ _ _ _ (Nat.zero_le _) (Nat.le_refl _) (by omega) hp), fun q hq => ?_⟩
  by_cases c : q < k
  · have hq2 : (q + 1) * B ≤ k * B := Nat.mul_le_mul_right _ (by omega)
    rw [Nat.min_eq_left (by omega)]
    exact (h.2 q c).keep fun i h1 h2 => hp.2.1 i (.inl (by omega))
  · have hqk : q = k := by
      by_cases c3 : q = k
      · exact c3
      · have : (k + 1) * B ≤ q * B := Nat.mul_le_mul_right _ (by omega)
        omega
    subst hqk
    rw [Nat.min_eq_right (by omega)]
    exact Bk.first (by omega) (fun i h1 h2 => by rw [h.1.2.1 i (.inr h1)]; exact ht i h2) hp hs
/-- a round of merging: the first k pairs are done -/
def Mrg (lt : α → α → Bool) (τ : α → Nat) (B k n : Nat) (d : Array α) : Prop := (∀ q, q < k → Bk lt τ (q * (2 * B)) ((q + 1) * (2 * B)) d) ∧ ∀ q, 2 * k ≤ q → q * B < n → Bk lt τ (q * B) (min ((q + 1) * B) n) d
theorem Mrg.zero {B n : Nat} {d : Array α} (h : Done lt τ B n d) : Mrg lt τ B 0 n d := ⟨fun q hq => absurd hq (Nat.not_lt_zero _), fun q _ hq => h q hq⟩
theorem Mrg.pair {B k n : Nat} {d : Array α} (hB : 0 < B) (h : Mrg lt τ B k n d) (hm : k * (2 * B) + B < n) : Bk lt τ (k * (2 * B)) (k * (2 * B) + B) d ∧ Bk lt τ (k * (2 * B) + B) (min ((k + 1) * (2 * B)) n) d := by
  have e1 : (2 * k + 1) * B = 2 * k * B + B := Nat.succ_mul _ _
  have e2 : (2 * k + 1 + 1) * B = (2 * k + 1) * B + B := Nat.succ_mul _ _
  have e3 : k * (2 * B) = 2 * k * B := by rw [← Nat.mul_assoc, Nat.mul_comm k 2]
  have e4 : (k + 1) * (2 * B) = k * (2 * B) + 2 * B := Nat.succ_mul _ _
  have b1 := h.2 (2 * k) (Nat.le_refl _) (by omega)
  have b2 := h.2 (2 * k + 1) (by omega) (by omega)
  rw [e1, Nat.min_eq_left (by omega)] at b1
  rw [e2, e1] at b2
  rw [e4, e3, show 2 * k * B + 2 * B = 2 * k * B + B + B by omega]
  exact ⟨b1, b2⟩
theorem Mrg.step {B k n : Nat} {d d' : Array α} (hB : 0 < B) (h : Mrg lt τ B k n d) (hk : (k + 1) * (2 * B) ≤ n) (hn : n ≤ d.size) (hp : PermIn (k * (2 * B)) ((k + 1) * (2 * B)) d d') (hs : SortedIn lt (k * (2 * B)) ((k + 1) * (2 * B)) d') : Mrg lt τ B (k + 1) n d' := by
  have e4 : (k + 1) * (2 * B) = k * (2 * B) + 2 * B := Nat.succ_mul _ _
  obtain ⟨b1, b2⟩ := h.pair hB (by omega)
  rw [Nat.min_eq_left hk] at b2
  refine ⟨fun q hq => ?_, fun q h1 h2 => ?_⟩
  · by_cases c : q = k
    · subst c
      exact Bk.merge (by omega) (by omega) (by omega) b1 b2 hp hs
    · have hq2 : (q + 1) * (2 * B) ≤ k * (2 * B) := Nat.mul_le_mul_right _ (by omega)
      exact (h.1 q (by omega)).keep fun i h1 h2 => hp.2.1 i (.inl (by omega))
  · have hq2 : (2 * (k + 1)) * B ≤ q * B := Nat.mul_le_mul_right _ h1
    have e3 : (k + 1) * (2 * B) = 2 * (k + 1) * B := by rw [← Nat.mul_assoc, Nat.mul_comm (k + 1) 2]
    exact (h.2 q (by omega) h2).keep fun i h3 h4 => hp.2.1 i (.inr (by omega))
/-- the round's end: no pair is left, or a pair whose second is short -/
theorem Mrg.done {B k n : Nat} {d : Array α} (hB : 0 < B) (h : Mrg lt τ B k n d) (h0 : k * (2 * B) ≤ n) (h1 : n < (k + 1) * (2 * B)) (h2 : n ≤ k * (2 * B) + B) : Done lt τ (2 * B) n d := by
  intro q hq
  by_cases c : q < k
  · have hq2 : (q + 1) * (2 * B) ≤ k * (2 * B) := Nat.mul_le_mul_right _ (by omega)
    rw [Nat.min_eq_left (by omega)]
    exact h.1 q c
  · have hq3 : k * (2 * B) ≤ q * (2 * B) := Nat.mul_le_mul_right _ (by omega)
    have e4 : (k + 1) * (2 * B) = k * (2 * B) + 2 * B := Nat.succ_mul _ _
    have hqk : q = k := by
      by_cases c3 : q = k
      · exact c3
      · have : (k + 1) * (2 * B) ≤ q * (2 * B) := Nat.mul_le_mul_right _ (by omega)
        omega
    subst hqk
    have e3 : q * (2 * B) = 2 * q * B := by rw [← Nat.mul_assoc, Nat.mul_comm q 2]
    have e1 : (2 * q + 1) * B = 2 * q * B + B := Nat.succ_mul _ _
    have b := h.2 (2 * q) (Nat.le_refl _) (by omega)
    rw [Nat.min_eq_right (by omega)] at b
    rw [Nat.min_eq_right (by omega), e3]
    exact b
theorem Mrg.last {B k n : Nat} {d d' : Array α} (hB : 0 < B) (h : Mrg lt τ B k n d) (h1 : n < (k + 1) * (2 * B)) (h2 : k * (2 * B) + B < n) (hn : n ≤ d.size) (hp : PermIn (k * (2 * B)) n d d') (hs : SortedIn lt (k * (2 * B)) n d') : Done lt τ (2 * B) n d' := by
  obtain ⟨b1, b2⟩ := h.pair hB h2
  rw [Nat.min_eq_right (by omega)] at b2
  have hm := Bk.merge (by omega) (by omega) hn b1 b2 hp hs
  intro q hq
  by_cases c : q < k
  · have hq2 : (q + 1) * (2 * B) ≤ k * (2 * B) := Nat.mul_le_mul_right _ (by omega)
    rw [Nat.min_eq_left (by omega)]
    exact (h.1 q c).keep fun i h1 h2 => hp.2.1 i (.inl (by omega))
  · have e4 : (k + 1) * (2 * B) = k * (2 * B) + 2 * B := Nat.succ_mul _ _
    have hqk : q = k := by
      by_cases c3 : q = k
      · exact c3
      · have : (k + 1) * (2 * B) ≤ q * (2 * B) := Nat.mul_le_mul_right _ (by omega)
        omega
    subst hqk
    rw [Nat.min_eq_right (by omega)]
    exact hm
/-- one block holds all: sorted -/
theorem Done.sorted {B n : Nat} {d : Array α} (h : Done lt τ B n d) (hB : n ≤ B) : SortedIn lt 0 n d := by
  intro i j h1 h2 h3
  have := h 0 (by rw [Nat.zero_mul]; omega)
  rw [Nat.zero_mul, Nat.zero_add, Nat.one_mul, Nat.min_eq_right hB] at this
  exact this.1 i j h1 h2 h3
end
end Go.Proofs.Ytlcpackmoolngaa.Stb
