/- P1.7, plainly: how the reference goes through a text, character by character. -/
import Derived.Test.YtlcpackmoolngaaReadLaw2
namespace Go.Proofs.Ytlcpackmoolngaa.ReadLaw

theorem cut_shape {t a b : List Nat} (h : cutOf t = (a, b, true)) : t = a ∧ b = [] ∨ t = a ++ 46 :: b := by
  unfold cutOf at h
  split at h
  · injection h with h1 h2
    injection h2 with h2 h3
    exact .inl ⟨h1, h2.symm⟩
  · rename_i hne
    right
    injection h with h1 h2
    injection h2 with h2 h3
    have key : ∀ (t : List Nat), t.takeWhile (· != 46) ≠ t → t = t.takeWhile (· != 46) ++ 46 :: t.drop ((t.takeWhile (· != 46)).length + 1) := by
      intro t
      induction t with
      | nil => intro h; exact absurd rfl h
      | cons c t ih =>
        intro h
        by_cases hc : c = 46
        · subst hc; rfl
        · have e : (c :: t).takeWhile (· != 46) = c :: t.takeWhile (· != 46) := by rw [List.takeWhile_cons, if_pos (by simp; exact hc)]
          rw [e] at h ⊢
          have h2 := ih (fun e => h (by rw [e]))
          show c :: t = c :: (_ ++ 46 :: t.drop (_ + 1))
          rw [← h2]
    have h4 := key t hne
    rw [h1] at h4 h2
    rw [h2] at h4
    exact h4
theorem dg46 : dg 46 = false := rfl
/-- a character that is no digit and no point -/
theorem body_bad {neg : Bool} {t : List Nat} {c : Nat} (hc : c ∈ t) (hd : ¬ dg c = true) (h46 : c ≠ 46) : bodyOf neg t = (0, 2) := by
  obtain ⟨a, b, ok, hcut⟩ : ∃ a b ok, cutOf t = (a, b, ok) := ⟨_, _, _, rfl⟩
  refine body_form hcut (.inl ?_)
  cases ok
  · rfl
  · exfalso
    obtain ⟨h1, h2, h3⟩ := cut_ok hcut
    rw [List.all_eq_true] at h2 h3
    rcases cut_shape hcut with ⟨e, _⟩ | e
    · rw [e] at hc; exact hd (h2 c hc)
    · rw [e] at hc
      rcases List.mem_append.1 hc with h | h
      · exact hd (h2 c h)
      · rcases List.mem_cons.1 h with h | h
        · exact h46 h
        · exact hd (h3 c h)
theorem all_no46 {a : List Nat} (h : a.all dg = true) : ∀ c ∈ a, c ≠ 46 := fun c hc e => by
  have := (List.all_eq_true.1 h) c hc
  rw [e] at this
  cases this
theorem body_two {neg : Bool} {a b : List Nat} (ha : ∀ c ∈ a, c ≠ 46) (h : a = [] ∨ b = [] ∨ ∃ c ∈ b, ¬ dg c = true) : bodyOf neg (a ++ 46 :: b) = (0, 2) := by
  refine body_form (cut_some ha) (.inl ?_)
  rw [Bool.and_eq_false_iff]
  rcases h with h | h | ⟨c, hc, hd⟩
  · left; rw [h]; rfl
  · right; rw [h]; rfl
  · right
    unfold digitsOf
    rw [Bool.and_eq_false_iff]; right
    rw [List.all_eq_false]
    exact ⟨c, hc, hd⟩

/-- where the reference stands behind k characters: all digits so far, and where the point was -/
def RdAt (t : List Nat) (k : Nat) (al : List Nat) (pt : Int) : Prop :=
  ((t.take k).all dg = true ∧ al = t.take k ∧ pt = -1) ∨
  ∃ a b, t.take k = a ++ 46 :: b ∧ 0 < a.length ∧ a.length + 1 < t.length ∧ a.all dg = true ∧ b.all dg = true ∧ al = a ++ b ∧ pt = (a.length : Int)
theorem take_next (l : List Nat) (k : Nat) (h : k < l.length) : l.take (k + 1) = l.take k ++ [l.getD k 0] := by
  rw [List.take_add_one, List.getD_eq_getElem?_getD, List.getElem?_eq_getElem h]; rfl
theorem split_at_k (l : List Nat) (k : Nat) (h : k < l.length) : l = l.take k ++ l.getD k 0 :: l.drop (k + 1) := by
  have e : l.drop k = l.getD k 0 :: l.drop (k + 1) := by
    rw [List.drop_eq_getElem_cons h, List.getD_eq_getElem?_getD, List.getElem?_eq_getElem h]; rfl
  rw [← e, List.take_append_drop]
theorem RdAt.zero (t : List Nat) : RdAt t 0 [] (-1) := .inl ⟨rfl, rfl, rfl⟩
theorem RdAt.digit {t al : List Nat} {k x : Nat} {pt : Int} (h : RdAt t k al pt) (hk : k < t.length) (hx : t.getD k 0 = x) (hd : dg x = true) : RdAt t (k + 1) (al ++ [x]) pt := by
  have e := take_next t k hk
  rw [hx] at e
  rcases h with ⟨h1, h2, h3⟩ | ⟨a, b, h1, h2, h3, h4, h5, h6, h7⟩
  · left
    exact ⟨by rw [e, List.all_append, h1]; simp [hd], by rw [e, h2], h3⟩
  · right
    exact ⟨a, b ++ [x], by rw [e, h1, List.append_assoc]; rfl, h2, h3, h4, by rw [List.all_append, h5]; simp [hd], by rw [h6, List.append_assoc], h7⟩
theorem RdAt.point {t al : List Nat} {k : Nat} {pt : Int} (h : RdAt t k al pt) (hk : k + 1 < t.length) (hx : t.getD k 0 = 46) (hp : pt < 0) (h0 : 0 < k) : RdAt t (k + 1) al (k : Int) := by
  have e := take_next t k (by omega)
  rw [hx] at e
  rcases h with ⟨h1, h2, h3⟩ | ⟨a, b, h1, h2, h3, h4, h5, h6, h7⟩
  · right
    have hl : (t.take k).length = k := by rw [List.length_take]; omega
    exact ⟨t.take k, [], by rw [e], by omega, by omega, h1, rfl, by rw [h2, List.append_nil], by omega⟩
  · omega
theorem RdAt.cases_pt {t al : List Nat} {k : Nat} {pt : Int} (h : RdAt t k al pt) : pt = -1 ∨ 0 ≤ pt := by
  rcases h with ⟨_, _, h3⟩ | ⟨a, b, _, _, _, _, _, _, h7⟩
  · exact .inl h3
  · right; omega
theorem RdAt.again {neg : Bool} {t al : List Nat} {k : Nat} {pt : Int} (h : RdAt t k al pt) (hk : k < t.length) (hx : t.getD k 0 = 46) (hp : 0 ≤ pt) : bodyOf neg t = (0, 2) := by
  rcases h with ⟨h1, h2, h3⟩ | ⟨a, b, h1, h2, h3, h4, h5, h6, h7⟩
  · omega
  · have e := split_at_k t k hk
    rw [h1, hx, List.append_assoc] at e
    rw [e]
    exact body_two (all_no46 h4) (.inr (.inr ⟨46, by simp, by rw [dg46]; decide⟩))
theorem RdAt.edge {neg : Bool} {t al : List Nat} {k : Nat} {pt : Int} (h : RdAt t k al pt) (hk : k < t.length) (hx : t.getD k 0 = 46) (hp : pt < 0) (he : k = 0 ∨ t.length ≤ k + 1) : bodyOf neg t = (0, 2) := by
  rcases h with ⟨h1, h2, h3⟩ | ⟨a, b, h1, h2, h3, h4, h5, h6, h7⟩
  · have e := split_at_k t k hk
    rw [hx] at e
    rw [e]
    refine body_two (all_no46 h1) ?_
    rcases he with he | he
    · left; rw [he]; rfl
    · right; left; exact List.drop_eq_nil_of_le he
  · omega
/-- behind the last character -/
theorem RdAt.end_ {t al : List Nat} {pt : Int} (h : RdAt t t.length al pt) : (t = [] ∧ al = []) ∨ ∃ a b, cutOf t = (a, b, true) ∧ al = a ++ b ∧ a ≠ [] ∧ al.all dg = true ∧ al.length ≤ t.length ∧ (if 0 ≤ pt then pt else (al.length : Int)) = (a.length : Int) := by
  rcases h with ⟨h1, h2, h3⟩ | ⟨a, b, h1, h2, h3, h4, h5, h6, h7⟩
  · rw [List.take_length] at h1 h2
    by_cases ht : t = []
    · exact .inl ⟨ht, by rw [h2, ht]⟩
    · right
      refine ⟨t, [], ?_, by rw [h2, List.append_nil], ht, by rw [h2]; exact h1, by rw [h2]; exact Nat.le_refl _, by rw [h3, if_neg (by omega), h2]⟩
      rw [cut_none (all_no46 h1)]
      unfold digitsOf
      rw [h1, decide_eq_true ht]; rfl
  · rw [List.take_length] at h1
    right
    have hb : b ≠ [] := fun e => by rw [h1, e] at h3; simp at h3
    have ha : a ≠ [] := fun e => by rw [e] at h2; simp at h2
    refine ⟨a, b, ?_, h6, ha, by rw [h6, List.all_append, h4, h5]; rfl, by rw [h6, h1]; simp, by rw [h7, if_pos (by omega)]⟩
    rw [h1, cut_some (all_no46 h4)]
    unfold digitsOf
    rw [h4, h5, decide_eq_true ha, decide_eq_true hb]; rfl
end Go.Proofs.Ytlcpackmoolngaa.ReadLaw
