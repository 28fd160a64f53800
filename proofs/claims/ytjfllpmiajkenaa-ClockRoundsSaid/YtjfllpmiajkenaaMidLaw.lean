/- Plain law: the middle of a list: ranks in a list, sorted lists, the mean of two numbers by bits. -/
import Derived.Laws.BitsAllLaws
import Derived.IntWalk
namespace Go.Proofs.Ytjfllpmiajkenaa.Md
set_option linter.unusedVariables false
set_option linter.unusedSimpArgs false

/-- the list in order -/
def srt (l : List Int) : List Int := l.mergeSort (fun x y => decide (x ≤ y))
def lessN (l : List Int) (v : Int) : Nat := l.countP (fun w => decide (w < v))
def sameN (l : List Int) (v : Int) : Nat := l.countP (fun w => decide (w = v))
/-- the number of which k stand ahead, as the reference looks for it -/
def isRank (l : List Int) (k : Nat) (v : Int) : Bool := decide (lessN l v ≤ k ∧ k < lessN l v + sameN l v)
def rankOf (l : List Int) (k : Nat) : Int := (l.find? (isRank l k)).getD 0

theorem srt_perm (l : List Int) : (srt l).Perm l := List.mergeSort_perm l _
theorem srt_len (l : List Int) : (srt l).length = l.length := (srt_perm l).length_eq
theorem srt_sorted (l : List Int) : (srt l).Pairwise (fun x y => x ≤ y) := by
  have h := List.pairwise_mergeSort (le := fun x y : Int => decide (x ≤ y)) (fun a b c h1 h2 => by simp at *; omega) (fun a b => by simp; omega) l
  exact h.imp (fun h => by simpa using h)
theorem less_srt (l : List Int) (v : Int) : lessN l v = lessN (srt l) v := ((srt_perm l).countP_eq _).symm
theorem same_srt (l : List Int) (v : Int) : sameN l v = sameN (srt l) v := ((srt_perm l).countP_eq _).symm

theorem sorted_at {s : List Int} (h : s.Pairwise (fun x y => x ≤ y)) {i j : Nat} (hij : i ≤ j) (hj : j < s.length) : s[i]'(by omega) ≤ s[j] := by
  rcases Nat.lt_or_eq_of_le hij with hlt | rfl
  · exact List.pairwise_iff_getElem.1 h i j (by omega) hj hlt
  · exact Int.le_refl _

theorem count_split (s : List Int) (p : Int → Bool) (k : Nat) : s.countP p = (s.take k).countP p + (s.drop k).countP p := by
  conv => lhs; rw [← List.take_append_drop k s]
  exact List.countP_append
theorem drop_none {s : List Int} {p : Int → Bool} {k : Nat} (h : ∀ i (hi : i < s.length), k ≤ i → p s[i] = false) : (s.drop k).countP p = 0 := by
  rw [List.countP_eq_zero]
  intro a ha
  obtain ⟨i, hi, rfl⟩ := List.mem_iff_getElem.1 ha
  rw [List.getElem_drop]
  rw [h (k + i) (by rw [List.length_drop] at hi; omega) (by omega)]
  simp
theorem take_whole {s : List Int} {p : Int → Bool} {k : Nat} (hk : k ≤ s.length) (h : ∀ i (hi : i < s.length), i < k → p s[i] = true) : (s.take k).countP p = k := by
  have e : (s.take k).countP p = (s.take k).length := by
    rw [List.countP_eq_length]
    intro a ha
    obtain ⟨i, hi, rfl⟩ := List.mem_iff_getElem.1 ha
    rw [List.getElem_take]
    rw [List.length_take] at hi
    exact h i (by omega) (by omega)
  rw [e, List.length_take]; omega
theorem count_le_take {s : List Int} {p : Int → Bool} {k : Nat} (h : ∀ i (hi : i < s.length), k ≤ i → p s[i] = false) : s.countP p ≤ k := by
  rw [count_split s p k, drop_none h]
  have := List.countP_le_length (p := p) (l := s.take k)
  rw [List.length_take] at this
  omega
theorem count_ge_take {s : List Int} {p : Int → Bool} {k : Nat} (hk : k ≤ s.length) (h : ∀ i (hi : i < s.length), i < k → p s[i] = true) : k ≤ s.countP p := by
  rw [count_split s p k, take_whole hk h]; omega
theorem both (s : List Int) (v : Int) : lessN s v + sameN s v = s.countP (fun w => decide (w ≤ v)) := by
  unfold lessN sameN
  induction s with
  | nil => rfl
  | cons x s ih =>
    simp only [List.countP_cons]
    have e : (if decide (x ≤ v) = true then 1 else 0) = (if decide (x < v) = true then 1 else 0) + (if decide (x = v) = true then 1 else 0) := by
      simp only [decide_eq_true_eq]
      split <;> split <;> split <;> omega
    omega

theorem sorted_rank {s : List Int} (h : s.Pairwise (fun x y => x ≤ y)) {k : Nat} (hk : k < s.length) (v : Int) : (lessN s v ≤ k ∧ k < lessN s v + sameN s v) ↔ v = s[k] := by
  rw [both]
  constructor
  · rintro ⟨h1, h2⟩
    have a : ¬ s[k] < v := fun hlt => by
      have : k + 1 ≤ lessN s v := count_ge_take (by omega) (fun i hi hik => by
        have := sorted_at h (show i ≤ k by omega) hk
        exact decide_eq_true (by omega))
      omega
    have b : ¬ v < s[k] := fun hlt => by
      have : s.countP (fun w => decide (w ≤ v)) ≤ k := count_le_take (fun i hi hik => by
        have := sorted_at h hik hi
        exact decide_eq_false (by omega))
      omega
    omega
  · rintro rfl
    refine ⟨count_le_take (fun i hi hik => decide_eq_false (by have := sorted_at h hik hi; omega)), ?_⟩
    have : k + 1 ≤ s.countP (fun w => decide (w ≤ s[k])) := count_ge_take (by omega) (fun i hi hik => decide_eq_true (by have := sorted_at h (show i ≤ k by omega) hk; omega))
    omega

theorem isRank_iff (l : List Int) {k : Nat} (hk : k < l.length) (v : Int) : isRank l k v = true ↔ v = (srt l)[k]'(by rw [srt_len]; exact hk) := by
  unfold isRank
  rw [decide_eq_true_eq, less_srt, same_srt]
  exact sorted_rank (srt_sorted l) (by rw [srt_len]; exact hk) v
theorem rankOf_eq (l : List Int) {k : Nat} (hk : k < l.length) : rankOf l k = (srt l).getD k 0 := by
  have hs : k < (srt l).length := by rw [srt_len]; exact hk
  have hm : (srt l)[k] ∈ l := (srt_perm l).mem_iff.1 (List.getElem_mem hs)
  unfold rankOf
  rw [List.getD_eq_getElem?_getD, List.getElem?_eq_getElem hs]
  cases hf : l.find? (isRank l k) with
  | none => exact absurd ((isRank_iff l hk _).2 rfl) (by simpa using List.find?_eq_none.1 hf _ hm)
  | some v => exact (isRank_iff l hk v).1 (List.find?_some hf)

/-! ### the mean of two numbers -/
theorem nat_and_xor (a b : Nat) : 2 * (a &&& b) + (a ^^^ b) = a + b := by
  induction a using Nat.strongRecOn generalizing b with
  | _ a ih =>
    by_cases h0 : a = 0
    · subst h0; simp
    · have h := ih (a / 2) (by omega) (b / 2)
      have e1 : (a &&& b) = 2 * (a / 2 &&& b / 2) + (a % 2 &&& b % 2) := by
        have d : (a &&& b) / 2 = a / 2 &&& b / 2 := Nat.and_div_two
        have m : (a &&& b) % 2 = a % 2 &&& b % 2 := by
          have := Nat.and_mod_two_pow (a := a) (b := b) (n := 1); simpa using this
        omega
      have e2 : (a ^^^ b) = 2 * (a / 2 ^^^ b / 2) + (a % 2 ^^^ b % 2) := by
        have d : (a ^^^ b) / 2 = a / 2 ^^^ b / 2 := Nat.xor_div_two
        have m : (a ^^^ b) % 2 = a % 2 ^^^ b % 2 := by
          have := Nat.xor_mod_two_pow (a := a) (b := b) (n := 1); simpa using this
        omega
      have e3 : 2 * (a % 2 &&& b % 2) + (a % 2 ^^^ b % 2) = a % 2 + b % 2 := by
        rcases Nat.mod_two_eq_zero_or_one a with x | x <;> rcases Nat.mod_two_eq_zero_or_one b with y | y <;> rw [x, y] <;> rfl
      omega

theorem top_and (a b : Nat) : (a &&& b) / 2 ^ 63 = a / 2 ^ 63 &&& b / 2 ^ 63 := Nat.and_div_two_pow
theorem top_xor (a b : Nat) : (a ^^^ b) / 2 ^ 63 = a / 2 ^ 63 ^^^ b / 2 ^ 63 := Nat.xor_div_two_pow
/-- a number of 64 bits as it lies: its bits -/
theorem ofInt_nat {a : Int} {u : Nat} (h : a % 18446744073709551616 = (u : Int)) : (BitVec.ofInt 64 a).toNat = u := by
  rw [BitVec.toNat_ofInt]
  have : ((2 : Int) ^ 64) = 18446744073709551616 := by decide
  omega
theorem and_xor (a b : Int) (ha : -9223372036854775808 ≤ a ∧ a ≤ 9223372036854775807) (hb : -9223372036854775808 ≤ b ∧ b ≤ 9223372036854775807) :
    2 * bits .and .i64 a b + bits .xor .i64 a b = a + b ∧ (-9223372036854775808 ≤ bits .and .i64 a b ∧ bits .and .i64 a b ≤ 9223372036854775807) ∧ (-9223372036854775808 ≤ bits .xor .i64 a b ∧ bits .xor .i64 a b ≤ 9223372036854775807) := by
  obtain ⟨u, hu⟩ : ∃ u : Nat, a % 18446744073709551616 = (u : Int) := ⟨(a % 18446744073709551616).toNat, by omega⟩
  obtain ⟨v, hv⟩ : ∃ v : Nat, b % 18446744073709551616 = (v : Int) := ⟨(b % 18446744073709551616).toNat, by omega⟩
  have e1 : bits .and .i64 a b = IntKind.i64.wrap ((u &&& v : Nat) : Int) := by
    show IntKind.i64.wrap (((BitVec.ofInt 64 a &&& BitVec.ofInt 64 b).toNat : Nat) : Int) = _
    rw [BitVec.toNat_and, ofInt_nat hu, ofInt_nat hv]
  have e2 : bits .xor .i64 a b = IntKind.i64.wrap ((u ^^^ v : Nat) : Int) := by
    show IntKind.i64.wrap (((BitVec.ofInt 64 a ^^^ BitVec.ofInt 64 b).toNat : Nat) : Int) = _
    rw [BitVec.toNat_xor, ofInt_nat hu, ofInt_nat hv]
  have hs := nat_and_xor u v
  have ta := top_and u v
  have tx := top_xor u v
  have p63 : (2 : Nat) ^ 63 = 9223372036854775808 := by decide
  rw [p63] at ta tx
  rw [e1, e2, IntKind.wrap_i64, IntKind.wrap_i64]
  have hu2 : u / 9223372036854775808 = 0 ∨ u / 9223372036854775808 = 1 := by omega
  have hv2 : v / 9223372036854775808 = 0 ∨ v / 9223372036854775808 = 1 := by omega
  generalize (u &&& v) = A at *
  generalize (u ^^^ v) = X at *
  have hA : A ≤ u + v := by omega
  rcases hu2 with p | p <;> rcases hv2 with q | q <;> rw [p, q] at ta tx <;> simp at ta tx <;> omega
/-- 'a&b + (a^b)>>1' -/
theorem half_eq (a b : Int) (ha : -9223372036854775808 ≤ a ∧ a ≤ 9223372036854775807) (hb : -9223372036854775808 ≤ b ∧ b ≤ 9223372036854775807) :
    bits .and .i64 a b + bits .xor .i64 a b / 2 = (a + b) / 2 := by
  have h := (and_xor a b ha hb).1
  omega

/-- what Middle answers: the number, and the error's -/
def midOf (l : List Int) : Int := ((srt l).getD ((l.length - 1) / 3) 0 + (srt l).getD (l.length - 1 - (l.length - 1) / 3) 0) / 2
def midZ (l : List Int) : Int × Int := if l.length = 0 ∨ 64 < l.length then (0, 8) else (midOf l, 0)

theorem srt_map (l : List Int) (c : Int) : srt (l.map (fun x => x - c)) = (srt l).map (fun x => x - c) := by
  unfold srt
  exact (List.map_mergeSort (fun a _ b _ => by simp)).symm
theorem srt_mem {l : List Int} {k : Nat} (hk : k < l.length) : (srt l).getD k 0 ∈ l := by
  have hs : k < (srt l).length := by rw [srt_len]; exact hk
  rw [List.getD_eq_getElem?_getD, List.getElem?_eq_getElem hs]
  exact (srt_perm l).mem_iff.1 (List.getElem_mem hs)
/-- the middle of numbers that are all off by c -/
theorem mid_map (l : List Int) (c : Int) (h : 0 < l.length) : midOf (l.map (fun x => x - c)) = midOf l - c := by
  unfold midOf
  rw [srt_map, List.length_map]
  have h1 : (l.length - 1) / 3 < (srt l).length := by rw [srt_len]; omega
  have h2 : l.length - 1 - (l.length - 1) / 3 < (srt l).length := by rw [srt_len]; omega
  simp only [List.getD_eq_getElem?_getD, List.getElem?_map, List.getElem?_eq_getElem h1, List.getElem?_eq_getElem h2, Option.map_some, Option.getD_some]
  omega
end Go.Proofs.Ytjfllpmiajkenaa.Md
