/- A list in a strict order is the only one of its permutations; a list sorted by keys and places is in the strict order. -/
import Derived.Test.YtlcpackmoolngaaStabM
namespace Go.Proofs.Ytlcpackmoolngaa.Stb
open Go.Sort
theorem uniq {γ : Type} {l : γ → γ → Bool} (hS : SWO l) : ∀ xs ys : List γ, xs.Perm ys → xs.Pairwise (fun a b => l a b = true) → ys.Pairwise (fun a b => l a b = true) → xs = ys
  | [], ys, h, _, _ => h.nil_eq
  | x :: xs, [], h, _, _ => by
    have := h.length_eq
    simp at this
  | x :: xs, y :: ys, h, h1, h2 => by
    have hx : x ∈ y :: ys := h.mem_iff.1 (by simp)
    have hy : y ∈ x :: xs := h.mem_iff.2 (by simp)
    have e : x = y := by
      rcases List.mem_cons.1 hx with e | m1
      · exact e
      rcases List.mem_cons.1 hy with e | m2
      · exact e.symm
      have q1 := (List.pairwise_cons.1 h1).1 y m2
      have q2 := (List.pairwise_cons.1 h2).1 x m1
      have := asymm hS q1
      rw [q2] at this
      cases this
    subst e
    rw [uniq hS xs ys ((List.perm_cons x).1 h) (List.pairwise_cons.1 h1).2 (List.pairwise_cons.1 h2).2]
theorem strict_list {β : Type} {k1 k2 : β → Int} {l l0 : List (β × Nat)} (hp : l.Perm l0) (ht : (l0.map Prod.snd).Nodup) (hs : l.Pairwise fun x y => ltT k1 k2 y x = false) : l.Pairwise fun x y => ltT k1 k2 x y = true := by
  have hn : (l.map Prod.snd).Nodup := (hp.map Prod.snd).nodup_iff.2 ht
  rw [List.Nodup, List.pairwise_map] at hn
  have h := List.pairwise_and_iff.2 ⟨hs, hn⟩
  exact h.imp fun {x y} h => by
    obtain ⟨h1, h2⟩ := h
    simp only [ltT, decide_eq_false_iff_not] at h1
    simp only [ltT, decide_eq_true_eq]
    omega
end Go.Proofs.Ytlcpackmoolngaa.Stb
