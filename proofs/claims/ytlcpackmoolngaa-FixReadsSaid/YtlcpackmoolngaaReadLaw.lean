/- P1.7, plainly: what a decimal text reads as; the program's halving of digits, and its rounding. -/
import Derived.IntWalk
namespace Go.Proofs.Ytlcpackmoolngaa.ReadLaw

def dg (c : Nat) : Bool := decide (48 ≤ c ∧ c ≤ 57)
def digitsOf (l : List Nat) : Bool := decide (l ≠ []) && l.all dg
/-- a number by its digits' characters -/
def num (l : List Nat) : Nat := l.foldl (fun n c => n * 10 + (c - 48)) 0
/-- a number by its digits -/
def numD (l : List Nat) : Nat := l.foldl (fun n c => n * 10 + c) 0

theorem foldl_num (f : Nat → Nat) : ∀ (l : List Nat) (n : Nat), l.foldl (fun n c => n * 10 + f c) n = n * 10 ^ l.length + l.foldl (fun n c => n * 10 + f c) 0
  | [], n => by simp
  | c :: l, n => by
    rw [List.foldl_cons, List.foldl_cons, foldl_num f l, foldl_num f l (0 * 10 + f c), List.length_cons, Nat.pow_succ]
    rw [Nat.add_mul, Nat.zero_mul, Nat.zero_add, Nat.mul_assoc, Nat.mul_comm 10, Nat.add_assoc]
theorem num_append (a b : List Nat) : num (a ++ b) = num a * 10 ^ b.length + num b := by
  unfold num; rw [List.foldl_append, foldl_num]
theorem num_snoc (a : List Nat) (c : Nat) : num (a ++ [c]) = num a * 10 + (c - 48) := by
  unfold num; rw [List.foldl_append]; rfl
theorem numD_cons (c : Nat) (l : List Nat) : numD (c :: l) = c * 10 ^ l.length + numD l := by
  unfold numD; rw [List.foldl_cons, foldl_num (fun x => x)]; simp
theorem num_map (l : List Nat) : numD (l.map (· - 48)) = num l := by
  unfold numD num; rw [List.foldl_map]
theorem numD_lt : ∀ (l : List Nat), (∀ c ∈ l, c < 10) → numD l < 10 ^ l.length
  | [], _ => by decide
  | c :: l, h => by
    have h1 := numD_lt l (fun x hx => h x (List.mem_cons_of_mem _ hx))
    have h2 := h c List.mem_cons_self
    rw [numD_cons, List.length_cons, Nat.pow_succ]
    have h3 : c * 10 ^ l.length ≤ 9 * 10 ^ l.length := Nat.mul_le_mul_right _ (by omega)
    omega
theorem dg_sub {l : List Nat} (h : l.all dg = true) : ∀ c ∈ l.map (· - 48), c < 10 := fun c hc => by
  obtain ⟨x, hx, rfl⟩ := List.mem_map.1 hc
  have := (List.all_eq_true.1 h) x hx
  have := of_decide_eq_true this
  omega
theorem num_lt {l : List Nat} (h : l.all dg = true) : num l < 10 ^ l.length := by
  have := numD_lt _ (dg_sub h)
  rwa [num_map, List.length_map] at this
theorem num_ge {c : Nat} {l : List Nat} (h : (c :: l).all dg = true) (hc : c ≠ 48) : 10 ^ l.length ≤ num (c :: l) := by
  have h1 : dg c = true := by
    rw [List.all_cons, Bool.and_eq_true] at h; exact h.1
  have h2 := of_decide_eq_true h1
  have e := num_append [c] l
  rw [List.singleton_append] at e
  rw [e, show num [c] = c - 48 by simp [num]]
  have : 10 ^ l.length ≤ (c - 48) * 10 ^ l.length := Nat.le_mul_of_pos_left _ (by omega)
  omega

/-- the digits ahead of the point, those behind it, and whether the text is in form -/
def cutOf (t : List Nat) : List Nat × List Nat × Bool :=
  if t.takeWhile (· != 46) = t then (t, [], digitsOf t)
    else (t.takeWhile (· != 46), t.drop ((t.takeWhile (· != 46)).length + 1), digitsOf (t.takeWhile (· != 46)) && digitsOf (t.drop ((t.takeWhile (· != 46)).length + 1)))
theorem take_none {t : List Nat} (h : ∀ c ∈ t, c ≠ 46) : t.takeWhile (· != 46) = t := by
  induction t with
  | nil => rfl
  | cons c t ih =>
    rw [List.takeWhile_cons, if_pos (by simp; exact h c List.mem_cons_self), ih (fun x hx => h x (List.mem_cons_of_mem _ hx))]
theorem take_some {a b : List Nat} (h : ∀ c ∈ a, c ≠ 46) : (a ++ 46 :: b).takeWhile (· != 46) = a := by
  induction a with
  | nil => rfl
  | cons c t ih =>
    rw [List.cons_append, List.takeWhile_cons, if_pos (by simp; exact h c List.mem_cons_self), ih (fun x hx => h x (List.mem_cons_of_mem _ hx))]
theorem cut_none {t : List Nat} (h : ∀ c ∈ t, c ≠ 46) : cutOf t = (t, [], digitsOf t) := by
  unfold cutOf; rw [if_pos (take_none h)]
theorem cut_some {a b : List Nat} (h : ∀ c ∈ a, c ≠ 46) : cutOf (a ++ 46 :: b) = (a, b, digitsOf a && digitsOf b) := by
  have e : (a ++ 46 :: b).drop (a.length + 1) = b := by
    rw [← List.drop_drop, List.drop_left]; rfl
  unfold cutOf
  rw [take_some h, if_neg (fun e => by have := congrArg List.length e; simp at this), e]

def in64 (X : Int) : Bool := decide (-9223372036854775808 ≤ X ∧ X ≤ 9223372036854775807)
/-- a number N over 10^k, to the nearest, halves up; or ErrRange -/
def valOf (neg : Bool) (N k : Nat) : Int × Int :=
  let r := ((if neg then -(N : Int) else (N : Int)) * 8589934592 + ((10 ^ k : Nat) : Int)) / ((10 ^ k * 2 : Nat) : Int)
  if in64 r then (r, 0) else (0, 3)
/-- behind the sign -/
def bodyOf (neg : Bool) (t : List Nat) : Int × Int :=
  let p := cutOf t
  if p.2.2 = false ∨ (1 < p.1.length ∧ p.1.getD 0 0 = 48) then (0, 2) else valOf neg (num (p.1 ++ p.2.1)) p.2.1.length
def negOf (s : List Nat) : Bool := decide (s.getD 0 0 = 45)
def readOf (s : List Nat) : Int × Int :=
  if 60 < s.length then (0, 1) else bodyOf (negOf s) (if negOf s then s.drop 1 else s)

/-- the digits twice as great, and what is carried out -/
def twd : List Nat → List Nat × Nat
  | [] => ([], 0)
  | x :: xs => ((2 * x + (twd xs).2) % 10 :: (twd xs).1, (2 * x + (twd xs).2) / 10)
theorem twd_length : ∀ l, (twd l).1.length = l.length
  | [] => rfl
  | x :: xs => by show (twd xs).1.length + 1 = _; rw [twd_length xs]; rfl
theorem twd_small : ∀ l, ∀ c ∈ (twd l).1, c < 10
  | [], _, h => by cases h
  | x :: xs, c, h => by
    rcases List.mem_cons.1 h with h | h
    · omega
    · exact twd_small xs c h
theorem twd_carry : ∀ l, (∀ c ∈ l, c < 10) → (twd l).2 ≤ 1
  | [], _ => Nat.zero_le _
  | x :: xs, h => by
    have := twd_carry xs (fun c hc => h c (List.mem_cons_of_mem _ hc))
    have := h x List.mem_cons_self
    show (2 * x + (twd xs).2) / 10 ≤ 1
    omega
theorem twd_law : ∀ l, numD (twd l).1 + (twd l).2 * 10 ^ l.length = 2 * numD l
  | [] => rfl
  | x :: xs => by
    have ih := twd_law xs
    show numD ((2 * x + (twd xs).2) % 10 :: (twd xs).1) + (2 * x + (twd xs).2) / 10 * 10 ^ (xs.length + 1) = _
    rw [numD_cons, numD_cons, twd_length, Nat.pow_succ]
    generalize (twd xs).2 = c at ih ⊢
    generalize numD (twd xs).1 = a at ih ⊢
    generalize numD xs = b at ih ⊢
    generalize 10 ^ xs.length = p at ih ⊢
    have h1 : (2 * x + c) % 10 * p + (2 * x + c) / 10 * (p * 10) = (2 * x + c) * p := by
      have := Nat.div_add_mod (2 * x + c) 10
      generalize (2 * x + c) / 10 = q at this ⊢
      generalize (2 * x + c) % 10 = r at this ⊢
      rw [← this, Nat.add_mul, Nat.mul_comm p 10, ← Nat.mul_assoc, Nat.mul_comm q 10, Nat.add_comm]
    have h2 : (2 * x + c) * p = 2 * (x * p) + c * p := by rw [Nat.add_mul, Nat.mul_assoc]
    omega

/-- where the halving loop stands after j rounds: what has come out, and what is left -/
structure FrAt (B P j u r : Nat) : Prop where
  eq : B * 2 ^ j = u * P + r
  lt : r < P
theorem FrAt.zero {B P : Nat} (h : B < P) : FrAt B P 0 0 B := ⟨by simp, h⟩
theorem FrAt.step {B P j u r c r' : Nat} (h : FrAt B P j u r) (hc : r' + c * P = 2 * r) (hr : r' < P) : FrAt B P (j + 1) (2 * u + c) r' := by
  refine ⟨?_, hr⟩
  rw [Nat.pow_succ, ← Nat.mul_assoc, h.eq, Nat.add_mul, Nat.add_mul, Nat.mul_comm (u * P) 2, ← Nat.mul_assoc, Nat.mul_comm r 2]
  omega
theorem FrAt.lt_pow {B P j u r : Nat} (h : FrAt B P j u r) (hB : B < P) : u < 2 ^ j := by
  have h1 := h.eq
  have h2 : B * 2 ^ j < P * 2 ^ j := Nat.mul_lt_mul_of_pos_right hB (Nat.two_pow_pos j)
  rcases Nat.lt_or_ge u (2 ^ j) with h3 | h3
  · exact h3
  · have h4 : 2 ^ j * P ≤ u * P := Nat.mul_le_mul_right _ h3
    rw [Nat.mul_comm] at h4
    omega

/-- how what is left compares with a half: -1, 0, 1 -/
def half (P r : Nat) : Int := if 2 * r < P then -1 else if 2 * r = P then 0 else 1

theorem div_of {X D Q : Int} (hD : 0 < D) (h1 : Q * D ≤ X) (h2 : X < (Q + 1) * D) : X / D = Q := by
  apply Int.le_antisymm
  · exact Int.lt_add_one_iff.1 (Int.ediv_lt_of_lt_mul hD h2)
  · exact Int.le_ediv_of_mul_le hD h1

theorem twice_ (u P : Int) : u * (P * 2) = 2 * (u * P) := by rw [← Int.mul_assoc, Int.mul_comm]
/-- the nearest of a number that is not below 0 -/
theorem near_pos {N P u r : Int} (hP : 0 < P) (h : N * 4294967296 = u * P + r) (h0 : 0 ≤ r) (h1 : r < P) : (N * 8589934592 + P) / (P * 2) = if 2 * r < P then u else u + 1 := by
  have e : N * 8589934592 = 2 * (u * P) + 2 * r := by omega
  rw [e]
  by_cases hr : 2 * r < P
  · rw [if_pos hr]
    exact div_of (by omega) (by rw [twice_]; omega) (by rw [Int.add_mul, twice_]; omega)
  · rw [if_neg hr]
    exact div_of (by omega) (by rw [Int.add_mul, twice_]; omega) (by rw [Int.add_mul, Int.add_mul, twice_]; omega)
/-- and of one below 0 -/
theorem near_neg {N P u r : Int} (hP : 0 < P) (h : N * 4294967296 = u * P + r) (h0 : 0 ≤ r) (h1 : r < P) : ((-N) * 8589934592 + P) / (P * 2) = if 2 * r ≤ P then -u else -(u + 1) := by
  have e : (-N) * 8589934592 = -(2 * (u * P)) - 2 * r := by omega
  rw [e]
  by_cases hr : 2 * r ≤ P
  · rw [if_pos hr]
    exact div_of (by omega) (by rw [Int.neg_mul, twice_]; omega) (by rw [Int.add_mul, Int.neg_mul, twice_]; omega)
  · rw [if_neg hr]
    exact div_of (by omega) (by rw [Int.neg_mul, Int.add_mul, twice_]; omega) (by rw [Int.add_mul, Int.neg_mul, Int.add_mul, twice_]; omega)

/-- what the program makes of the whole part, the 32 bits behind the point, and how what is left compares with a half -/
def progOf (neg : Bool) (W p : Nat) (c : Int) : Int × Int :=
  let q := if c = 1 ∨ (c = 0 ∧ neg = false) then p + 1 else p
  let u := W * 4294967296 + q
  if 2147483648 < W ∨ (neg = false ∧ 9223372036854775807 < u) ∨ 9223372036854775808 < u then (0, 3) else (if neg then -(u : Int) else (u : Int), 0)

theorem prog_val (neg : Bool) (W B k p r : Nat) (h : FrAt B (10 ^ k) 32 p r) : progOf neg W p (half (10 ^ k) r) = valOf neg (W * 10 ^ k + B) k := by
  have hP0 : 0 < 10 ^ k := Nat.pow_pos (by omega)
  obtain ⟨he, hlt⟩ := h
  have hpB : p * 10 ^ k ≤ B * 2 ^ 32 := by omega
  unfold progOf valOf
  generalize 10 ^ k = P at *
  rw [show (2 : Nat) ^ 32 = 4294967296 from rfl] at he
  have hI : (((W * P + B : Nat)) : Int) * 4294967296 = ((W * 4294967296 + p : Nat) : Int) * (P : Int) + (r : Int) := by
    have e1 : (W * P + B) * 4294967296 = (W * 4294967296 + p) * P + r := by
      rw [Nat.add_mul, he, Nat.add_mul, Nat.mul_assoc, Nat.mul_comm P, ← Nat.mul_assoc]; omega
    have e2 := congrArg (fun n : Nat => (n : Int)) e1
    simpa using e2
  have hPI : (0 : Int) < (P : Int) := by omega
  have hri : (r : Int) < (P : Int) := by omega
  have e2 : ((P * 2 : Nat) : Int) = (P : Int) * 2 := by omega
  rw [e2]
  generalize hN : ((W * P + B : Nat) : Int) = N at hI
  cases neg with
  | false =>
    have h1 := near_pos hPI hI (by omega) hri
    simp only [Bool.false_eq_true, if_false, and_true, true_and]
    rw [h1]
    unfold half in64
    by_cases a : 2 * r < P
    · have a' : 2 * (r : Int) < (P : Int) := by omega
      simp only [if_pos a, if_pos a']
      rw [if_neg (show ¬ ((-1 : Int) = 1 ∨ (-1 : Int) = 0) by decide)]
      by_cases g : 2147483648 < W ∨ 9223372036854775807 < W * 4294967296 + p ∨ 9223372036854775808 < W * 4294967296 + p
      · rw [if_pos g, if_neg (by simp; omega)]
      · rw [if_neg g, if_pos (by simp; omega)]
    · have a' : ¬ 2 * (r : Int) < (P : Int) := by omega
      simp only [if_neg a, if_neg a']
      have hc : (if 2 * r = P then (0 : Int) else 1) = 1 ∨ (if 2 * r = P then (0 : Int) else 1) = 0 := by split <;> simp
      rw [if_pos hc]
      by_cases g : 2147483648 < W ∨ 9223372036854775807 < W * 4294967296 + (p + 1) ∨ 9223372036854775808 < W * 4294967296 + (p + 1)
      · rw [if_pos g, if_neg (by simp; omega)]
      · rw [if_neg g, if_pos (by simp; omega)]
        refine Prod.ext ?_ rfl
        show ((W * 4294967296 + (p + 1) : Nat) : Int) = ((W * 4294967296 + p : Nat) : Int) + 1
        omega
  | true =>
    have h1 := near_neg hPI hI (by omega) hri
    simp only [if_true, Bool.true_eq_false, false_and, and_false, false_or, or_false]
    rw [h1]
    unfold half in64
    by_cases a : 2 * r ≤ P
    · have a' : 2 * (r : Int) ≤ (P : Int) := by omega
      rw [if_pos a']
      have hc : ¬ (if 2 * r < P then (-1 : Int) else if 2 * r = P then 0 else 1) = 1 := by
        split
        · decide
        · rw [if_pos (by omega)]; decide
      rw [if_neg hc]
      by_cases g : 2147483648 < W ∨ 9223372036854775808 < W * 4294967296 + p
      · rw [if_pos g, if_neg (by simp; omega)]
      · rw [if_neg g, if_pos (by simp; omega)]
    · have a' : ¬ 2 * (r : Int) ≤ (P : Int) := by omega
      rw [if_neg a']
      have hc : (if 2 * r < P then (-1 : Int) else if 2 * r = P then 0 else 1) = 1 := by
        rw [if_neg (by omega), if_neg (by omega)]
      rw [if_pos hc]
      by_cases g : 2147483648 < W ∨ 9223372036854775808 < W * 4294967296 + (p + 1)
      · rw [if_pos g, if_neg (by simp; omega)]
      · rw [if_neg g, if_pos (by simp; omega)]
        refine Prod.ext ?_ rfl
        show -((W * 4294967296 + (p + 1) : Nat) : Int) = -(((W * 4294967296 + p : Nat) : Int) + 1)
        omega
end Go.Proofs.Ytlcpackmoolngaa.ReadLaw
