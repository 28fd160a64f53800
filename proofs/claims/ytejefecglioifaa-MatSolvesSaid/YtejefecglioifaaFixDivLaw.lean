/- The quotient to the nearest, halves up: what the steps come to. No program in sight. -/
namespace Go.Proofs.Ytejefecglioifaa.FixDivLaw

/-- P1.3 where the divisor is not 0 -/
def nearest (a b : Int) : Int := if b < 0 then (-a * 8589934592 + -b) / (2 * -b) else (a * 8589934592 + b) / (2 * b)

theorem near_pos {q d r : Int} (hr : 0 ≤ r) (hrd : r < d) : (2 * (q * d + r) + d) / (2 * d) = q + if d ≤ 2 * r then 1 else 0 := by
  have e : 2 * (q * d + r) + d = (2 * r + d) + (2 * d) * q := by
    rw [Int.mul_add, Int.mul_assoc 2 d q, Int.mul_comm d q]; omega
  rw [e, Int.add_mul_ediv_left _ _ (by omega)]
  split
  · have : (2 * r + d) / (2 * d) = 1 := by
      refine Int.le_antisymm ?_ ?_
      · exact Int.le_of_lt_add_one (Int.ediv_lt_of_lt_mul (by omega) (by omega))
      · exact (Int.le_ediv_iff_mul_le (by omega)).2 (by omega)
    omega
  · have : (2 * r + d) / (2 * d) = 0 := Int.ediv_eq_zero_of_lt (by omega) (by omega)
    omega

theorem near_neg {q d r : Int} (hr : 0 ≤ r) (hrd : r < d) : (-(2 * (q * d + r)) + d) / (2 * d) = -(q + if d < 2 * r then 1 else 0) := by
  have e : -(2 * (q * d + r)) + d = (d - 2 * r) + (2 * d) * (-q) := by
    rw [Int.mul_add, Int.mul_neg, Int.mul_assoc 2 d q, Int.mul_comm d q]; omega
  rw [e, Int.add_mul_ediv_left _ _ (by omega)]
  split
  · have : (d - 2 * r) / (2 * d) = -1 := by
      refine Int.le_antisymm ?_ ?_
      · exact Int.le_of_lt_add_one (Int.ediv_lt_of_lt_mul (by omega) (by omega))
      · exact (Int.le_ediv_iff_mul_le (by omega)).2 (by omega)
    omega
  · have : (d - 2 * r) / (2 * d) = 0 := Int.ediv_eq_zero_of_lt (by omega) (by omega)
    omega

/-- the quotient's two words -/
theorem quot_two (N hi lo d : Nat) (hd : 0 < d) (h1 : N = hi * 18446744073709551616 + lo) :
    (hi / d) * 18446744073709551616 + (hi % d * 18446744073709551616 + lo) / d = N / d ∧ (hi % d * 18446744073709551616 + lo) % d = N % d := by
  have h2 := Nat.div_add_mod hi d
  have e : N = (hi % d * 18446744073709551616 + lo) + d * (hi / d * 18446744073709551616) := by
    have h3 : hi * 18446744073709551616 = (d * (hi / d) + hi % d) * 18446744073709551616 := congrArg (· * 18446744073709551616) h2.symm
    rw [h1, h3, Nat.add_mul, Nat.mul_assoc]
    omega
  rw [e]
  exact ⟨by rw [Nat.add_mul_div_left _ _ hd, Nat.add_comm], by rw [Nat.add_mul_mod_self_left]⟩

theorem quot_sum (N d : Nat) : (N : Int) = ((N / d : Nat) : Int) * (d : Int) + ((N % d : Nat) : Int) := by
  have := Nat.div_add_mod N d
  rw [Nat.mul_comm] at this
  rw [← Int.natCast_mul, ← Int.natCast_add, this]

/-- of the sizes: both signs alike -/
theorem nearest_same {a b : Int} (h : (a < 0 ∧ b < 0) ∨ (0 ≤ a ∧ 0 < b)) : nearest a b = ((a.natAbs * 4294967296 / b.natAbs + if b.natAbs ≤ 2 * (a.natAbs * 4294967296 % b.natAbs) then 1 else 0 : Nat) : Int) := by
  have hb : 0 < b.natAbs := by omega
  have hr := Nat.mod_lt (a.natAbs * 4294967296) hb
  have hs := quot_sum (a.natAbs * 4294967296) b.natAbs
  have hn := near_pos (q := ((a.natAbs * 4294967296 / b.natAbs : Nat) : Int)) (d := (b.natAbs : Int)) (r := ((a.natAbs * 4294967296 % b.natAbs : Nat) : Int)) (by omega) (by omega)
  rw [← hs] at hn
  have e : nearest a b = (2 * ((a.natAbs * 4294967296 : Nat) : Int) + (b.natAbs : Int)) / (2 * (b.natAbs : Int)) := by
    unfold nearest
    rcases h with ⟨h1, h2⟩ | ⟨h1, h2⟩
    · rw [if_pos h2]
      have e1 : -a * 8589934592 + -b = 2 * ((a.natAbs * 4294967296 : Nat) : Int) + (b.natAbs : Int) := by omega
      have e2 : -b = (b.natAbs : Int) := by omega
      rw [e1, e2]
    · rw [if_neg (by omega)]
      have e1 : a * 8589934592 + b = 2 * ((a.natAbs * 4294967296 : Nat) : Int) + (b.natAbs : Int) := by omega
      have e2 : b = (b.natAbs : Int) := by omega
      rw [e1, ← e2]
  rw [e, hn]
  generalize a.natAbs * 4294967296 / b.natAbs = q
  generalize a.natAbs * 4294967296 % b.natAbs = r
  by_cases hc : b.natAbs ≤ 2 * r
  · rw [if_pos hc, if_pos (by omega)]; omega
  · rw [if_neg hc, if_neg (by omega)]; omega
theorem nearest_other {a b : Int} (h : (a < 0 ∧ 0 < b) ∨ (0 ≤ a ∧ b < 0)) : nearest a b = -((a.natAbs * 4294967296 / b.natAbs + if b.natAbs < 2 * (a.natAbs * 4294967296 % b.natAbs) then 1 else 0 : Nat) : Int) := by
  have hb : 0 < b.natAbs := by omega
  have hr := Nat.mod_lt (a.natAbs * 4294967296) hb
  have hs := quot_sum (a.natAbs * 4294967296) b.natAbs
  have hn := near_neg (q := ((a.natAbs * 4294967296 / b.natAbs : Nat) : Int)) (d := (b.natAbs : Int)) (r := ((a.natAbs * 4294967296 % b.natAbs : Nat) : Int)) (by omega) (by omega)
  rw [← hs] at hn
  have e : nearest a b = (-(2 * ((a.natAbs * 4294967296 : Nat) : Int)) + (b.natAbs : Int)) / (2 * (b.natAbs : Int)) := by
    unfold nearest
    rcases h with ⟨h1, h2⟩ | ⟨h1, h2⟩
    · rw [if_neg (by omega)]
      have e1 : a * 8589934592 + b = -(2 * ((a.natAbs * 4294967296 : Nat) : Int)) + (b.natAbs : Int) := by omega
      have e2 : b = (b.natAbs : Int) := by omega
      rw [e1, ← e2]
    · rw [if_pos h2]
      have e1 : -a * 8589934592 + -b = -(2 * ((a.natAbs * 4294967296 : Nat) : Int)) + (b.natAbs : Int) := by omega
      have e2 : -b = (b.natAbs : Int) := by omega
      rw [e1, e2]
  rw [e, hn]
  generalize a.natAbs * 4294967296 / b.natAbs = q
  generalize a.natAbs * 4294967296 % b.natAbs = r
  by_cases hc : b.natAbs < 2 * r
  · rw [if_pos hc, if_pos (by omega)]; omega
  · rw [if_neg hc, if_neg (by omega)]; omega
end Go.Proofs.Ytejefecglioifaa.FixDivLaw
