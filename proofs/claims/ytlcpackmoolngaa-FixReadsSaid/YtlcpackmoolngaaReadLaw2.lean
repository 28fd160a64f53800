/- P1.7, plainly: the cases of a text's reading. -/
import Derived.Test.YtlcpackmoolngaaReadLaw
namespace Go.Proofs.Ytlcpackmoolngaa.ReadLaw

theorem digits_parts {l : List Nat} (h : digitsOf l = true) : l ≠ [] ∧ l.all dg = true := by
  unfold digitsOf at h
  rw [Bool.and_eq_true] at h
  exact ⟨of_decide_eq_true h.1, h.2⟩
theorem cut_ok {t a b : List Nat} (h : cutOf t = (a, b, true)) : a ≠ [] ∧ a.all dg = true ∧ b.all dg = true := by
  unfold cutOf at h
  split at h
  · injection h with h1 h2
    injection h2 with h2 h3
    subst h1 h2
    obtain ⟨h4, h5⟩ := digits_parts h3
    exact ⟨h4, h5, rfl⟩
  · injection h with h1 h2
    injection h2 with h2 h3
    rw [Bool.and_eq_true] at h3
    rw [h2, h1] at h3
    exact ⟨(digits_parts h3.1).1, (digits_parts h3.1).2, (digits_parts h3.2).2⟩
theorem cut_length (t : List Nat) : (cutOf t).1.length ≤ t.length ∧ (cutOf t).2.1.length ≤ t.length := by
  unfold cutOf
  split
  · exact ⟨Nat.le_refl _, Nat.zero_le _⟩
  · refine ⟨?_, by simp only [List.length_drop]; omega⟩
    exact (List.takeWhile_sublist (l := t) (· != 46)).length_le
theorem body_form {neg : Bool} {t a b : List Nat} {ok : Bool} (h : cutOf t = (a, b, ok)) (hf : ok = false ∨ (1 < a.length ∧ a.getD 0 0 = 48)) : bodyOf neg t = (0, 2) := by
  unfold bodyOf
  rw [h]
  exact if_pos hf
theorem body_val {neg : Bool} {t a b : List Nat} (h : cutOf t = (a, b, true)) (hf : ¬ (1 < a.length ∧ a.getD 0 0 = 48)) : bodyOf neg t = valOf neg (num a * 10 ^ b.length + num b) b.length := by
  unfold bodyOf
  rw [h]
  rw [← num_append]
  refine if_neg (fun e => ?_)
  rcases e with e | e
  · cases e
  · exact hf e
theorem fr_all (B k : Nat) : ∃ p r, FrAt B (10 ^ k) 32 p r := by
  have hP : 0 < 10 ^ k := Nat.pow_pos (by omega)
  refine ⟨B * 2 ^ 32 / 10 ^ k, B * 2 ^ 32 % 10 ^ k, ?_, Nat.mod_lt _ hP⟩
  have := Nat.div_add_mod (B * 2 ^ 32) (10 ^ k)
  rw [Nat.mul_comm] at this
  exact this.symm
theorem prog_big {neg : Bool} {W p : Nat} {c : Int} (h : 2147483648 < W) : progOf neg W p c = (0, 3) := by
  unfold progOf
  exact if_pos (.inl h)
theorem body_long {neg : Bool} {t a b : List Nat} (h : cutOf t = (a, b, true)) (hf : ¬ (1 < a.length ∧ a.getD 0 0 = 48)) (hl : 10 < a.length) : bodyOf neg t = (0, 3) := by
  obtain ⟨h1, h2, h3⟩ := cut_ok h
  obtain ⟨p, r, hr⟩ := fr_all (num b) b.length
  rw [body_val h hf, ← prog_val neg (num a) (num b) b.length p r hr]
  refine prog_big ?_
  obtain ⟨c, l, rfl⟩ : ∃ c l, a = c :: l := by cases a with | nil => exact absurd rfl h1 | cons c l => exact ⟨c, l, rfl⟩
  have hc : c ≠ 48 := fun e => hf ⟨by omega, e⟩
  have hg := num_ge h2 hc
  have hm : 10 ^ 10 ≤ 10 ^ l.length := Nat.pow_le_pow_right (by omega) (by rw [List.length_cons] at hl; omega)
  omega
theorem num_take (a : List Nat) (k : Nat) (h : k < a.length) : num (a.take (k + 1)) = num (a.take k) * 10 + (a.getD k 0 - 48) := by
  have e : a.take (k + 1) = a.take k ++ [a.getD k 0] := by rw [List.take_add_one, List.getD_eq_getElem?_getD, List.getElem?_eq_getElem h]; rfl
  rw [e, num_snoc]
theorem num_take_lt {a : List Nat} (h : a.all dg = true) (k : Nat) : num (a.take k) < 10 ^ k := by
  have h1 : (a.take k).all dg = true := by
    rw [List.all_eq_true] at h ⊢
    exact fun x hx => h x (List.mem_of_mem_take hx)
  refine Nat.lt_of_lt_of_le (num_lt h1) (Nat.pow_le_pow_right (by omega) ?_)
  rw [List.length_take]; omega
end Go.Proofs.Ytlcpackmoolngaa.ReadLaw
