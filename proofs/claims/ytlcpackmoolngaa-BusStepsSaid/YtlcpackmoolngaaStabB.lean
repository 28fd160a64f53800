/- The library's stable sort, plain: blocks that are sorted and hold their own tags; what a block's sorting and the merging of two neighbours do to them. -/
import Derived.Test.YtlcpackmoolngaaStabM
namespace Go.Proofs.Ytlcpackmoolngaa.Stb
open Go.Sort
set_option linter.unusedVariables false
set_option linter.unusedSimpArgs false
section
variable {α : Type} [Inhabited α] {lt : α → α → Bool} {τ : α → Nat}
/-- [a, b) is sorted and holds the tags of [a, b) -/
def Bk (lt : α → α → Bool) (τ : α → Nat) (a b : Nat) (d : Array α) : Prop := SortedIn lt a b d ∧ ∀ i, a ≤ i → i < b → a ≤ τ d[i]! ∧ τ d[i]! < b
theorem Bk.keep {a b : Nat} {d d' : Array α} (h : Bk lt τ a b d) (he : ∀ i, a ≤ i → i < b → d'[i]! = d[i]!) : Bk lt τ a b d' := by
  refine ⟨fun i j h1 h2 h3 => ?_, fun i h1 h2 => ?_⟩
  · rw [he i h1 (by omega), he j (by omega) h3]
    exact h.1 i j h1 h2 h3
  · rw [he i h1 h2]
    exact h.2 i h1 h2
theorem Bk.first {a b : Nat} {d d' : Array α} (hb : b ≤ d.size) (ht : ∀ i, a ≤ i → i < b → τ d[i]! = i) (hp : PermIn a b d d') (hs : SortedIn lt a b d') : Bk lt τ a b d' :=
  ⟨hs, fun i h1 h2 => permIn_all d d' a b (fun x => a ≤ τ x ∧ τ x < b) hb hp (fun q h3 h4 => by rw [ht q h3 h4]; exact ⟨h3, h4⟩) i h1 h2⟩
theorem Bk.merge {a m b : Nat} {d d' : Array α} (ham : a ≤ m) (hmb : m ≤ b) (hb : b ≤ d.size) (h1 : Bk lt τ a m d) (h2 : Bk lt τ m b d) (hp : PermIn a b d d') (hs : SortedIn lt a b d') : Bk lt τ a b d' :=
  ⟨hs, fun i h3 h4 => permIn_all d d' a b (fun x => a ≤ τ x ∧ τ x < b) hb hp (fun q h5 h6 => by
    by_cases c : q < m
    · have := h1.2 q h5 c
      exact ⟨this.1, by omega⟩
    · have := h2.2 q (by omega) h6
      exact ⟨by omega, this.2⟩) i h3 h4⟩
theorem Bk.cross {a m b : Nat} {d : Array α} (h1 : Bk lt τ a m d) (h2 : Bk lt τ m b d) {x y : Nat} (hx : a ≤ x) (hx2 : x < m) (hy : m ≤ y) (hy2 : y < b) : τ d[x]! < τ d[y]! := by
  have := h1.2 x hx hx2
  have := h2.2 y hy hy2
  omega
/-- the insertion loop at a = k * 20: the blocks behind it are done, what lies ahead is as it was -/
def Ins (lt : α → α → Bool) (τ : α → Nat) (B k n : Nat) (d0 d : Array α) : Prop := PermIn 0 (k * B) d0 d ∧ ∀ q, q < k → Bk lt τ (q * B) ((q + 1) * B) d
theorem Ins.zero (B n : Nat) (d : Array α) : Ins lt τ B 0 n d d := ⟨permIn_refl _ _ _, fun q h => absurd h (Nat.not_lt_zero _)⟩
theorem Ins.step {B k n : Nat} {d0 d d' : Array α} (h : Ins lt τ B k n d0 d) (hn : n = d0.size) (hk : (k + 1) * B ≤ n) (ht : ∀ i, i < n → τ d0[i]! = i) (hp : PermIn (k * B) ((k + 1) * B) d d') (hs : SortedIn lt (k * B) ((k + 1) * B) d') : Ins lt τ B (k + 1) n d0 d' := by
  have e : (k + 1) * B = k * B + B := Nat.succ_mul k B
  have hz := h.1.1
  refine ⟨permIn_trans _ _ _ _ _ (permIn_mono _ _ _ _ _ _ (Nat.le_refl _) (by omega) (by omega) h.1) (permIn_mono _ _ _ _ _ _ (Nat.zero_le _) (Nat.le_refl _) (by omega) hp), fun q hq => ?_⟩
  by_cases c : q = k
  · subst c
    exact Bk.first (by omega) (fun i h1 h2 => by rw [h.1.2.1 i (.inr h1)]; exact ht i (by omega)) hp hs
  · have hq2 : (q + 1) * B ≤ k * B := Nat.mul_le_mul_right B (by omega)
    exact (h.2 q (by omega)).keep fun i h1 h2 => hp.2.1 i (.inl (by omega))
end
end Go.Proofs.Ytlcpackmoolngaa.Stb
