/- The reference's choosing: the least of those that are due, the first of equals, again and again. -/
import Derived.Test.YtlcpackmoolngaaStabD
namespace Go.Proofs.Ytlcpackmoolngaa.Stb
open Go.Sort
section
variable {β : Type} {k1 k2 : β → Int} {due : β → Bool}
theorem best_least {q : List (β × Nat)} (hq : q.Pairwise fun x y => x.2 < y.2) {i : Nat} (hi : i < q.length)
    (h : ∀ j (hj : j < q.length), due q[j].1 = true → (j < i → ltK k1 k2 q[i] q[j] = true) ∧ (i < j → ltK k1 k2 q[j] q[i] = false)) (j : Nat) (hj : j < q.length) (hne : j ≠ i) (hd : due q[j].1 = true) : ltT k1 k2 q[i] q[j] = true := by
  obtain ⟨h1, h2⟩ := h j hj hd
  by_cases c : j < i
  · have := h1 c
    simp only [ltK, decide_eq_true_eq] at this
    simp only [ltT, decide_eq_true_eq]
    omega
  · have := h2 (by omega)
    have ht := List.pairwise_iff_getElem.1 hq i j hi hj (by omega)
    simp only [ltK, decide_eq_false_iff_not] at this
    simp only [ltT, decide_eq_true_eq]
    omega
/-- what has been chosen, and what is queued still -/
def Sel (k1 k2 : β → Int) (due : β → Bool) (l0 come q : List (β × Nat)) : Prop :=
  q.Pairwise (fun x y => x.2 < y.2) ∧ come.Pairwise (fun x y => ltT k1 k2 x y = true) ∧ (∀ c ∈ come, ∀ x ∈ q, due x.1 = true → ltT k1 k2 c x = true) ∧
    (come ++ q.filter fun x => due x.1).Perm (l0.filter fun x => due x.1) ∧ (q.filter fun x => !due x.1) = l0.filter fun x => !due x.1
theorem Sel.zero {l : List (β × Nat)} (h : l.Pairwise fun x y => x.2 < y.2) : Sel k1 k2 due l [] l := ⟨h, List.Pairwise.nil, fun c hc x _ _ => absurd hc (by simp), List.Perm.refl _, rfl⟩
theorem Sel.step {l0 come q : List (β × Nat)} (h : Sel k1 k2 due l0 come q) {i : Nat} (hi : i < q.length) (hd : due q[i].1 = true)
    (hb : ∀ j (hj : j < q.length), due q[j].1 = true → (j < i → ltK k1 k2 q[i] q[j] = true) ∧ (i < j → ltK k1 k2 q[j] q[i] = false)) : Sel k1 k2 due l0 (come ++ [q[i]]) (q.eraseIdx i) := by
  obtain ⟨h1, h2, h3, h4, h5⟩ := h
  have eq : q = q.take i ++ q[i] :: q.drop (i + 1) := by
    rw [← List.drop_eq_getElem_cons hi, List.take_append_drop]
  have ee : q.eraseIdx i = q.take i ++ q.drop (i + 1) := List.eraseIdx_eq_take_drop_succ q i
  refine ⟨h1.sublist (List.eraseIdx_sublist q i), ?_, fun c hc x hx hdx => ?_, ?_, ?_⟩
  · rw [List.pairwise_append]
    exact ⟨h2, List.pairwise_singleton _ _, fun c hc x hx => by
      rw [List.mem_singleton] at hx
      subst hx
      exact h3 c hc _ (List.getElem_mem hi) hd⟩
  · obtain ⟨j, hj, hne, rfl⟩ := List.mem_eraseIdx_iff_getElem.1 hx
    rcases List.mem_append.1 hc with hc | hc
    · exact h3 c hc _ (List.getElem_mem hj) hdx
    · rw [List.mem_singleton] at hc
      subst hc
      exact best_least h1 hi hb j hj hne hdx
  · refine List.Perm.trans ?_ h4
    rw [List.append_assoc]
    refine List.Perm.append_left _ ?_
    rw [ee]
    conv => rhs; rw [eq]
    rw [List.filter_append, List.filter_append, List.filter_cons_of_pos (by simpa using hd)]
    rw [List.singleton_append]
    exact List.perm_middle.symm
  · rw [← h5, ee]
    conv => rhs; rw [eq]
    rw [List.filter_append, List.filter_append, List.filter_cons_of_neg (by simp [hd])]
end
end Go.Proofs.Ytlcpackmoolngaa.Stb
