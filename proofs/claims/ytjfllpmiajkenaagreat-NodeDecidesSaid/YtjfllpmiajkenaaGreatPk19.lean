import Derived.Test.YtjfllpmiajkenaaGreatPk17
import Derived.Test.YtjfllpmiajkenaaGreatPk18
import Derived.RegionTactic
namespace Go.Proofs.YtjfllpmiajkenaaGreat.BigW
open Go.RowKit Go.Proofs.YtjfllpmiajkenaaGreat.Mem Go.Proofs.YtjfllpmiajkenaaGreat.BigLaw Go.Proofs.YtjfllpmiajkenaaGreat.FixDivLaw
set_option linter.unusedVariables false
theorem carry_of (N Q h0 C L1 K : Nat) (h : h0 * K + Q = N) (hC : K * C + L1 = Q + 1) : (h0 + C) * K + L1 = N + 1 := by
  rw [Nat.add_mul, Nat.mul_comm C K]; omega
theorem div_carry (N Q h0 C L1 : Nat) (h : h0 * 18446744073709551616 + Q = N) (hC : (Q + 1) / 18446744073709551616 = C) (hL : (Q + 1) % 18446744073709551616 = L1) : wideN (h0 + C) L1 = N + 1 := by
  refine carry_of N Q h0 C L1 _ h ?_
  rw [← hC, ← hL]
  exact Nat.div_add_mod _ _
theorem div_plain (N Q h0 : Nat) (h : h0 * 18446744073709551616 + Q = N) : wideN h0 Q = N := h
theorem sgd_pos (n : Nat) : sgd false n = (n : Int) := by unfold sgd; rw [if_neg (by simp)]
theorem sgd_neg (n : Nat) : sgd true n = -(n : Int) := by unfold sgd; rw [if_pos rfl]
set_option maxHeartbeats 1000000 in
theorem fixDiv_0 (a b : Int) (w : World) (h1 : a < 0) (h2 : b < 0) (hu : b.natAbs ≤ 2 * (a.natAbs * 4294967296 % b.natAbs)) (ha : -9223372036854775808 ≤ a ∧ a ≤ 9223372036854775807) (hb : -9223372036854775808 ≤ b ∧ b ≤ 9223372036854775807) :
    Calls Tryz.prog 126 #[.int .i64 a, .int .i64 b] w fun e w' => e = .returned (.tuple #[.int .i64 (fdiv a b).1, .bool (fdiv a b).2]) ∧ Below w.heap.size w w' := by
  have HF := Lib.hid (show fdiv a b = stop (nearest a b) by unfold fdiv; rw [if_neg (by omega)])
  have HE := Lib.hid (show nearest a b = sgd false (a.natAbs * 4294967296 / b.natAbs + 1) by rw [nearest_same (.inl ⟨h1, h2⟩), if_pos hu, sgd_pos])
  have HA := Lib.hid ha
  have HB := Lib.hid hb
  have hb0 : (b == 0) = false := by rw [beq_eq_false_iff_ne]; omega
  have hAl : a.natAbs ≤ 9223372036854775808 := by omega
  have hdl : b.natAbs ≤ 9223372036854775808 := by omega
  have hd0 : 0 < b.natAbs := by omega
  clear ha hb
  go_enter Tryz.func126, Tryz.ntmps126
  go_wp2_with fail
  refine (size_any b _ HB.out).mono ?_
  rintro e w1 ⟨rfl, rfl⟩
  go_wp2_with fail
  refine (size_any a _ HA.out).mono ?_
  rintro e w1 ⟨rfl, rfl⟩
  go_wp2_with fail
  refine (size_any a _ HA.out).mono ?_
  rintro e w1 ⟨rfl, rfl⟩
  generalize a.natAbs = A at hAl hu HE ⊢
  generalize b.natAbs = d at hdl hd0 hu HE ⊢
  obtain ⟨N, hNe⟩ : ∃ N, A * 4294967296 = N := ⟨_, rfl⟩
  rw [hNe] at hu HE
  obtain ⟨hi, hhi⟩ : ∃ hi, A / 4294967296 = hi := ⟨_, rfl⟩
  obtain ⟨lo, hlo⟩ : ∃ lo, N % 18446744073709551616 = lo := ⟨_, rfl⟩
  have eHi : (A : Int) / 4294967296 = (hi : Int) := by omega
  have eLo : IntKind.u64.wrap ((A : Int) * 4294967296) = (lo : Int) := by rw [u64wrap]; omega
  have hN : N = hi * 18446744073709551616 + lo := by omega
  have hlol : lo < 18446744073709551616 := by omega
  have hhil : hi ≤ 2147483648 := by omega
  obtain ⟨k1, k2⟩ := quot_two _ hi lo d hd0 hN
  have HHI := Lib.hid hhi
  have HLO := Lib.hid hlo
  have dz0 : ¬ (d : Int) = 0 := by omega
  have dz1 : ¬ d = 0 := by omega
  have eq0 : IntKind.u64.wrap ((hi : Int) / (d : Int)) = ((hi / d : Nat) : Int) := by
    have e : (hi : Int) / (d : Int) = ((hi / d : Nat) : Int) := rfl
    have := Nat.div_le_self hi d
    rw [e, u64wrap]; generalize hi / d = x at this ⊢; omega
  have er0 : (hi : Int).tmod (d : Int) = ((hi % d : Nat) : Int) := rfl
  have hh0 : hi / d ≤ 2147483648 := Nat.le_trans (Nat.div_le_self _ _) hhil
  have hr0 : hi % d < d := Nat.mod_lt _ hd0
  generalize hi / d = h0 at eq0 k1 hh0
  generalize hi % d = r0 at er0 k1 k2 hr0
  obtain ⟨Q, hQ⟩ : ∃ Q, (r0 * 18446744073709551616 + lo) / d = Q := ⟨_, rfl⟩
  obtain ⟨R, hR⟩ : ∃ R, (r0 * 18446744073709551616 + lo) % d = R := ⟨_, rfl⟩
  rw [hQ] at k1
  rw [← k2, hR] at hu
  have hRd : R < d := by rw [← hR]; exact Nat.mod_lt _ hd0
  have hQl : Q < 18446744073709551616 := by
    rw [← hQ, Nat.div_lt_iff_lt_mul hd0]
    have h3 : (r0 + 1) * 18446744073709551616 ≤ d * 18446744073709551616 := Nat.mul_le_mul_right _ hr0
    rw [Nat.add_mul, Nat.one_mul] at h3
    exact Nat.lt_of_lt_of_le (Nat.add_lt_add_left hlol _) (by rw [Nat.mul_comm 18446744073709551616]; exact h3)
  have HQ := Lib.hid hQ
  have HR := Lib.hid hR
  have HK1 := Lib.hid k1
  clear hhi hlo hN hNe hQ hR k1 k2
  go_wp2_with fail
  go_region
  go_wp2_with fail
  refine (div64_any r0 lo d _ hr0 hlol (by omega)).mono ?_
  rintro e w1 ⟨rfl, nq, rfl⟩
  rw [HQ.out, HR.out]
  have hup : (d : Int) - (R : Int) ≤ (R : Int) := by omega
  have HAdd := fun w => add64_at Q 1 1 (by omega) w
  obtain ⟨C, hC⟩ : ∃ C, (Q + 1) / 18446744073709551616 = C := ⟨_, rfl⟩
  obtain ⟨L1, hL⟩ : ∃ L1, (Q + 1) % 18446744073709551616 = L1 := ⟨_, rfl⟩
  rw [hC, hL] at HAdd
  have HW := Lib.hid (div_carry (N / d) Q h0 C L1 HK1.out hC hL)
  have hCl : C ≤ 1 := by omega
  have hL1 : L1 < 18446744073709551616 := by omega
  clear hC hL hu
  rw [← HW.out] at HE
  go_wp2_with fail
  refine (bound_any false (h0 + C) L1 _ (by omega) hL1).mono ?_
  rintro e w1 ⟨rfl, hb⟩
  rw [← HE.out, ← HF.out]
  have HBL := Lib.hid (onward (B := w.heap.size) (a := w) (by repeat (first | exact Below.refl _ _ | refine Below.setCell ?_ (by simp) _ | refine below_drewN ?_ _ | refine Below.drew ?_ | refine Below.alloc ?_ (by simp) _)) (Nat.le_refl _) hb)
  obtain ⟨r, hr⟩ : ∃ r, fdiv a b = r := ⟨_, rfl⟩
  have HRR := Lib.hid hr
  rw [hr]
  clear HE HF hb hr
  go_wp2_with fail
  go_ret2
  exact ⟨by rw [HRR.out]; rfl, HBL.out⟩
set_option maxHeartbeats 1000000 in
theorem fixDiv_1 (a b : Int) (w : World) (h1 : a < 0) (h2 : b < 0) (hu : ¬ b.natAbs ≤ 2 * (a.natAbs * 4294967296 % b.natAbs)) (ha : -9223372036854775808 ≤ a ∧ a ≤ 9223372036854775807) (hb : -9223372036854775808 ≤ b ∧ b ≤ 9223372036854775807) :
    Calls Tryz.prog 126 #[.int .i64 a, .int .i64 b] w fun e w' => e = .returned (.tuple #[.int .i64 (fdiv a b).1, .bool (fdiv a b).2]) ∧ Below w.heap.size w w' := by
  have HF := Lib.hid (show fdiv a b = stop (nearest a b) by unfold fdiv; rw [if_neg (by omega)])
  have HE := Lib.hid (show nearest a b = sgd false (a.natAbs * 4294967296 / b.natAbs + 0) by rw [nearest_same (.inl ⟨h1, h2⟩), if_neg hu, sgd_pos])
  have HA := Lib.hid ha
  have HB := Lib.hid hb
  have hb0 : (b == 0) = false := by rw [beq_eq_false_iff_ne]; omega
  have hAl : a.natAbs ≤ 9223372036854775808 := by omega
  have hdl : b.natAbs ≤ 9223372036854775808 := by omega
  have hd0 : 0 < b.natAbs := by omega
  clear ha hb
  go_enter Tryz.func126, Tryz.ntmps126
  go_wp2_with fail
  refine (size_any b _ HB.out).mono ?_
  rintro e w1 ⟨rfl, rfl⟩
  go_wp2_with fail
  refine (size_any a _ HA.out).mono ?_
  rintro e w1 ⟨rfl, rfl⟩
  go_wp2_with fail
  refine (size_any a _ HA.out).mono ?_
  rintro e w1 ⟨rfl, rfl⟩
  generalize a.natAbs = A at hAl hu HE ⊢
  generalize b.natAbs = d at hdl hd0 hu HE ⊢
  obtain ⟨N, hNe⟩ : ∃ N, A * 4294967296 = N := ⟨_, rfl⟩
  rw [hNe] at hu HE
  obtain ⟨hi, hhi⟩ : ∃ hi, A / 4294967296 = hi := ⟨_, rfl⟩
  obtain ⟨lo, hlo⟩ : ∃ lo, N % 18446744073709551616 = lo := ⟨_, rfl⟩
  have eHi : (A : Int) / 4294967296 = (hi : Int) := by omega
  have eLo : IntKind.u64.wrap ((A : Int) * 4294967296) = (lo : Int) := by rw [u64wrap]; omega
  have hN : N = hi * 18446744073709551616 + lo := by omega
  have hlol : lo < 18446744073709551616 := by omega
  have hhil : hi ≤ 2147483648 := by omega
  obtain ⟨k1, k2⟩ := quot_two _ hi lo d hd0 hN
  have HHI := Lib.hid hhi
  have HLO := Lib.hid hlo
  have dz0 : ¬ (d : Int) = 0 := by omega
  have dz1 : ¬ d = 0 := by omega
  have eq0 : IntKind.u64.wrap ((hi : Int) / (d : Int)) = ((hi / d : Nat) : Int) := by
    have e : (hi : Int) / (d : Int) = ((hi / d : Nat) : Int) := rfl
    have := Nat.div_le_self hi d
    rw [e, u64wrap]; generalize hi / d = x at this ⊢; omega
  have er0 : (hi : Int).tmod (d : Int) = ((hi % d : Nat) : Int) := rfl
  have hh0 : hi / d ≤ 2147483648 := Nat.le_trans (Nat.div_le_self _ _) hhil
  have hr0 : hi % d < d := Nat.mod_lt _ hd0
  generalize hi / d = h0 at eq0 k1 hh0
  generalize hi % d = r0 at er0 k1 k2 hr0
  obtain ⟨Q, hQ⟩ : ∃ Q, (r0 * 18446744073709551616 + lo) / d = Q := ⟨_, rfl⟩
  obtain ⟨R, hR⟩ : ∃ R, (r0 * 18446744073709551616 + lo) % d = R := ⟨_, rfl⟩
  rw [hQ] at k1
  rw [← k2, hR] at hu
  have hRd : R < d := by rw [← hR]; exact Nat.mod_lt _ hd0
  have hQl : Q < 18446744073709551616 := by
    rw [← hQ, Nat.div_lt_iff_lt_mul hd0]
    have h3 : (r0 + 1) * 18446744073709551616 ≤ d * 18446744073709551616 := Nat.mul_le_mul_right _ hr0
    rw [Nat.add_mul, Nat.one_mul] at h3
    exact Nat.lt_of_lt_of_le (Nat.add_lt_add_left hlol _) (by rw [Nat.mul_comm 18446744073709551616]; exact h3)
  have HQ := Lib.hid hQ
  have HR := Lib.hid hR
  have HK1 := Lib.hid k1
  clear hhi hlo hN hNe hQ hR k1 k2
  go_wp2_with fail
  go_region
  go_wp2_with fail
  refine (div64_any r0 lo d _ hr0 hlol (by omega)).mono ?_
  rintro e w1 ⟨rfl, nq, rfl⟩
  rw [HQ.out, HR.out]
  have hup : ¬ (d : Int) - (R : Int) ≤ (R : Int) := by omega
  have HW := Lib.hid (div_plain (N / d) Q h0 HK1.out)
  rw [Nat.add_zero, ← HW.out] at HE
  clear hu
  go_wp2_with fail
  refine (bound_any false h0 Q _ (by omega) hQl).mono ?_
  rintro e w1 ⟨rfl, hb⟩
  rw [← HE.out, ← HF.out]
  have HBL := Lib.hid (onward (B := w.heap.size) (a := w) (by repeat (first | exact Below.refl _ _ | refine Below.setCell ?_ (by simp) _ | refine below_drewN ?_ _ | refine Below.drew ?_ | refine Below.alloc ?_ (by simp) _)) (Nat.le_refl _) hb)
  obtain ⟨r, hr⟩ : ∃ r, fdiv a b = r := ⟨_, rfl⟩
  have HRR := Lib.hid hr
  rw [hr]
  clear HE HF hb hr
  go_wp2_with fail
  go_ret2
  exact ⟨by rw [HRR.out]; rfl, HBL.out⟩
set_option maxHeartbeats 1000000 in
theorem fixDiv_2 (a b : Int) (w : World) (h1 : 0 ≤ a) (h2 : 0 < b) (hu : b.natAbs ≤ 2 * (a.natAbs * 4294967296 % b.natAbs)) (ha : -9223372036854775808 ≤ a ∧ a ≤ 9223372036854775807) (hb : -9223372036854775808 ≤ b ∧ b ≤ 9223372036854775807) :
    Calls Tryz.prog 126 #[.int .i64 a, .int .i64 b] w fun e w' => e = .returned (.tuple #[.int .i64 (fdiv a b).1, .bool (fdiv a b).2]) ∧ Below w.heap.size w w' := by
  have HF := Lib.hid (show fdiv a b = stop (nearest a b) by unfold fdiv; rw [if_neg (by omega)])
  have HE := Lib.hid (show nearest a b = sgd false (a.natAbs * 4294967296 / b.natAbs + 1) by rw [nearest_same (.inr ⟨h1, h2⟩), if_pos hu, sgd_pos])
  have HA := Lib.hid ha
  have HB := Lib.hid hb
  have hb0 : (b == 0) = false := by rw [beq_eq_false_iff_ne]; omega
  have hAl : a.natAbs ≤ 9223372036854775808 := by omega
  have hdl : b.natAbs ≤ 9223372036854775808 := by omega
  have hd0 : 0 < b.natAbs := by omega
  have h1n : ¬ a < 0 := by omega
  have h2n : ¬ b < 0 := by omega
  clear ha hb h1 h2
  go_enter Tryz.func126, Tryz.ntmps126
  go_wp2_with fail
  refine (size_any b _ HB.out).mono ?_
  rintro e w1 ⟨rfl, rfl⟩
  have h1m : decide (a < 0) = false := by simp; omega
  have h2m : decide (b < 0) = false := by simp; omega
  go_wp2_with fail
  refine (size_any a _ HA.out).mono ?_
  rintro e w1 ⟨rfl, rfl⟩
  go_wp2_with fail
  refine (size_any a _ HA.out).mono ?_
  rintro e w1 ⟨rfl, rfl⟩
  generalize a.natAbs = A at hAl hu HE ⊢
  generalize b.natAbs = d at hdl hd0 hu HE ⊢
  obtain ⟨N, hNe⟩ : ∃ N, A * 4294967296 = N := ⟨_, rfl⟩
  rw [hNe] at hu HE
  obtain ⟨hi, hhi⟩ : ∃ hi, A / 4294967296 = hi := ⟨_, rfl⟩
  obtain ⟨lo, hlo⟩ : ∃ lo, N % 18446744073709551616 = lo := ⟨_, rfl⟩
  have eHi : (A : Int) / 4294967296 = (hi : Int) := by omega
  have eLo : IntKind.u64.wrap ((A : Int) * 4294967296) = (lo : Int) := by rw [u64wrap]; omega
  have hN : N = hi * 18446744073709551616 + lo := by omega
  have hlol : lo < 18446744073709551616 := by omega
  have hhil : hi ≤ 2147483648 := by omega
  obtain ⟨k1, k2⟩ := quot_two _ hi lo d hd0 hN
  have HHI := Lib.hid hhi
  have HLO := Lib.hid hlo
  have dz0 : ¬ (d : Int) = 0 := by omega
  have dz1 : ¬ d = 0 := by omega
  have eq0 : IntKind.u64.wrap ((hi : Int) / (d : Int)) = ((hi / d : Nat) : Int) := by
    have e : (hi : Int) / (d : Int) = ((hi / d : Nat) : Int) := rfl
    have := Nat.div_le_self hi d
    rw [e, u64wrap]; generalize hi / d = x at this ⊢; omega
  have er0 : (hi : Int).tmod (d : Int) = ((hi % d : Nat) : Int) := rfl
  have hh0 : hi / d ≤ 2147483648 := Nat.le_trans (Nat.div_le_self _ _) hhil
  have hr0 : hi % d < d := Nat.mod_lt _ hd0
  generalize hi / d = h0 at eq0 k1 hh0
  generalize hi % d = r0 at er0 k1 k2 hr0
  obtain ⟨Q, hQ⟩ : ∃ Q, (r0 * 18446744073709551616 + lo) / d = Q := ⟨_, rfl⟩
  obtain ⟨R, hR⟩ : ∃ R, (r0 * 18446744073709551616 + lo) % d = R := ⟨_, rfl⟩
  rw [hQ] at k1
  rw [← k2, hR] at hu
  have hRd : R < d := by rw [← hR]; exact Nat.mod_lt _ hd0
  have hQl : Q < 18446744073709551616 := by
    rw [← hQ, Nat.div_lt_iff_lt_mul hd0]
    have h3 : (r0 + 1) * 18446744073709551616 ≤ d * 18446744073709551616 := Nat.mul_le_mul_right _ hr0
    rw [Nat.add_mul, Nat.one_mul] at h3
    exact Nat.lt_of_lt_of_le (Nat.add_lt_add_left hlol _) (by rw [Nat.mul_comm 18446744073709551616]; exact h3)
  have HQ := Lib.hid hQ
  have HR := Lib.hid hR
  have HK1 := Lib.hid k1
  clear hhi hlo hN hNe hQ hR k1 k2
  go_wp2_with fail
  go_region
  go_wp2_with fail
  refine (div64_any r0 lo d _ hr0 hlol (by omega)).mono ?_
  rintro e w1 ⟨rfl, nq, rfl⟩
  rw [HQ.out, HR.out]
  have hup : (d : Int) - (R : Int) ≤ (R : Int) := by omega
  have HAdd := fun w => add64_at Q 1 1 (by omega) w
  obtain ⟨C, hC⟩ : ∃ C, (Q + 1) / 18446744073709551616 = C := ⟨_, rfl⟩
  obtain ⟨L1, hL⟩ : ∃ L1, (Q + 1) % 18446744073709551616 = L1 := ⟨_, rfl⟩
  rw [hC, hL] at HAdd
  have HW := Lib.hid (div_carry (N / d) Q h0 C L1 HK1.out hC hL)
  have hCl : C ≤ 1 := by omega
  have hL1 : L1 < 18446744073709551616 := by omega
  clear hC hL hu
  rw [← HW.out] at HE
  go_wp2_with fail
  refine (bound_any false (h0 + C) L1 _ (by omega) hL1).mono ?_
  rintro e w1 ⟨rfl, hb⟩
  rw [← HE.out, ← HF.out]
  have HBL := Lib.hid (onward (B := w.heap.size) (a := w) (by repeat (first | exact Below.refl _ _ | refine Below.setCell ?_ (by simp) _ | refine below_drewN ?_ _ | refine Below.drew ?_ | refine Below.alloc ?_ (by simp) _)) (Nat.le_refl _) hb)
  obtain ⟨r, hr⟩ : ∃ r, fdiv a b = r := ⟨_, rfl⟩
  have HRR := Lib.hid hr
  rw [hr]
  clear HE HF hb hr
  go_wp2_with fail
  go_ret2
  exact ⟨by rw [HRR.out]; rfl, HBL.out⟩
set_option maxHeartbeats 1000000 in
theorem fixDiv_3 (a b : Int) (w : World) (h1 : 0 ≤ a) (h2 : 0 < b) (hu : ¬ b.natAbs ≤ 2 * (a.natAbs * 4294967296 % b.natAbs)) (ha : -9223372036854775808 ≤ a ∧ a ≤ 9223372036854775807) (hb : -9223372036854775808 ≤ b ∧ b ≤ 9223372036854775807) :
    Calls Tryz.prog 126 #[.int .i64 a, .int .i64 b] w fun e w' => e = .returned (.tuple #[.int .i64 (fdiv a b).1, .bool (fdiv a b).2]) ∧ Below w.heap.size w w' := by
  have HF := Lib.hid (show fdiv a b = stop (nearest a b) by unfold fdiv; rw [if_neg (by omega)])
  have HE := Lib.hid (show nearest a b = sgd false (a.natAbs * 4294967296 / b.natAbs + 0) by rw [nearest_same (.inr ⟨h1, h2⟩), if_neg hu, sgd_pos])
  have HA := Lib.hid ha
  have HB := Lib.hid hb
  have hb0 : (b == 0) = false := by rw [beq_eq_false_iff_ne]; omega
  have hAl : a.natAbs ≤ 9223372036854775808 := by omega
  have hdl : b.natAbs ≤ 9223372036854775808 := by omega
  have hd0 : 0 < b.natAbs := by omega
  have h1n : ¬ a < 0 := by omega
  have h2n : ¬ b < 0 := by omega
  clear ha hb h1 h2
  go_enter Tryz.func126, Tryz.ntmps126
  go_wp2_with fail
  refine (size_any b _ HB.out).mono ?_
  rintro e w1 ⟨rfl, rfl⟩
  have h1m : decide (a < 0) = false := by simp; omega
  have h2m : decide (b < 0) = false := by simp; omega
  go_wp2_with fail
  refine (size_any a _ HA.out).mono ?_
  rintro e w1 ⟨rfl, rfl⟩
  go_wp2_with fail
  refine (size_any a _ HA.out).mono ?_
  rintro e w1 ⟨rfl, rfl⟩
  generalize a.natAbs = A at hAl hu HE ⊢
  generalize b.natAbs = d at hdl hd0 hu HE ⊢
  obtain ⟨N, hNe⟩ : ∃ N, A * 4294967296 = N := ⟨_, rfl⟩
  rw [hNe] at hu HE
  obtain ⟨hi, hhi⟩ : ∃ hi, A / 4294967296 = hi := ⟨_, rfl⟩
  obtain ⟨lo, hlo⟩ : ∃ lo, N % 18446744073709551616 = lo := ⟨_, rfl⟩
  have eHi : (A : Int) / 4294967296 = (hi : Int) := by omega
  have eLo : IntKind.u64.wrap ((A : Int) * 4294967296) = (lo : Int) := by rw [u64wrap]; omega
  have hN : N = hi * 18446744073709551616 + lo := by omega
  have hlol : lo < 18446744073709551616 := by omega
  have hhil : hi ≤ 2147483648 := by omega
  obtain ⟨k1, k2⟩ := quot_two _ hi lo d hd0 hN
  have HHI := Lib.hid hhi
  have HLO := Lib.hid hlo
  have dz0 : ¬ (d : Int) = 0 := by omega
  have dz1 : ¬ d = 0 := by omega
  have eq0 : IntKind.u64.wrap ((hi : Int) / (d : Int)) = ((hi / d : Nat) : Int) := by
    have e : (hi : Int) / (d : Int) = ((hi / d : Nat) : Int) := rfl
    have := Nat.div_le_self hi d
    rw [e, u64wrap]; generalize hi / d = x at this ⊢; omega
  have er0 : (hi : Int).tmod (d : Int) = ((hi % d : Nat) : Int) := rfl
  have hh0 : hi / d ≤ 2147483648 := Nat.le_trans (Nat.div_le_self _ _) hhil
  have hr0 : hi % d < d := Nat.mod_lt _ hd0
  generalize hi / d = h0 at eq0 k1 hh0
  generalize hi % d = r0 at er0 k1 k2 hr0
  obtain ⟨Q, hQ⟩ : ∃ Q, (r0 * 18446744073709551616 + lo) / d = Q := ⟨_, rfl⟩
  obtain ⟨R, hR⟩ : ∃ R, (r0 * 18446744073709551616 + lo) % d = R := ⟨_, rfl⟩
  rw [hQ] at k1
  rw [← k2, hR] at hu
  have hRd : R < d := by rw [← hR]; exact Nat.mod_lt _ hd0
  have hQl : Q < 18446744073709551616 := by
    rw [← hQ, Nat.div_lt_iff_lt_mul hd0]
    have h3 : (r0 + 1) * 18446744073709551616 ≤ d * 18446744073709551616 := Nat.mul_le_mul_right _ hr0
    rw [Nat.add_mul, Nat.one_mul] at h3
    exact Nat.lt_of_lt_of_le (Nat.add_lt_add_left hlol _) (by rw [Nat.mul_comm 18446744073709551616]; exact h3)
  have HQ := Lib.hid hQ
  have HR := Lib.hid hR
  have HK1 := Lib.hid k1
  clear hhi hlo hN hNe hQ hR k1 k2
  go_wp2_with fail
  go_region
  go_wp2_with fail
  refine (div64_any r0 lo d _ hr0 hlol (by omega)).mono ?_
  rintro e w1 ⟨rfl, nq, rfl⟩
  rw [HQ.out, HR.out]
  have hup : ¬ (d : Int) - (R : Int) ≤ (R : Int) := by omega
  have HW := Lib.hid (div_plain (N / d) Q h0 HK1.out)
  rw [Nat.add_zero, ← HW.out] at HE
  clear hu
  go_wp2_with fail
  refine (bound_any false h0 Q _ (by omega) hQl).mono ?_
  rintro e w1 ⟨rfl, hb⟩
  rw [← HE.out, ← HF.out]
  have HBL := Lib.hid (onward (B := w.heap.size) (a := w) (by repeat (first | exact Below.refl _ _ | refine Below.setCell ?_ (by simp) _ | refine below_drewN ?_ _ | refine Below.drew ?_ | refine Below.alloc ?_ (by simp) _)) (Nat.le_refl _) hb)
  obtain ⟨r, hr⟩ : ∃ r, fdiv a b = r := ⟨_, rfl⟩
  have HRR := Lib.hid hr
  rw [hr]
  clear HE HF hb hr
  go_wp2_with fail
  go_ret2
  exact ⟨by rw [HRR.out]; rfl, HBL.out⟩
set_option maxHeartbeats 1000000 in
theorem fixDiv_4 (a b : Int) (w : World) (h1 : a < 0) (h2 : 0 < b) (hu : b.natAbs < 2 * (a.natAbs * 4294967296 % b.natAbs)) (ha : -9223372036854775808 ≤ a ∧ a ≤ 9223372036854775807) (hb : -9223372036854775808 ≤ b ∧ b ≤ 9223372036854775807) :
    Calls Tryz.prog 126 #[.int .i64 a, .int .i64 b] w fun e w' => e = .returned (.tuple #[.int .i64 (fdiv a b).1, .bool (fdiv a b).2]) ∧ Below w.heap.size w w' := by
  have HF := Lib.hid (show fdiv a b = stop (nearest a b) by unfold fdiv; rw [if_neg (by omega)])
  have HE := Lib.hid (show nearest a b = sgd true (a.natAbs * 4294967296 / b.natAbs + 1) by rw [nearest_other (.inl ⟨h1, h2⟩), if_pos hu, sgd_neg])
  have HA := Lib.hid ha
  have HB := Lib.hid hb
  have hb0 : (b == 0) = false := by rw [beq_eq_false_iff_ne]; omega
  have hAl : a.natAbs ≤ 9223372036854775808 := by omega
  have hdl : b.natAbs ≤ 9223372036854775808 := by omega
  have hd0 : 0 < b.natAbs := by omega
  have h2n : ¬ b < 0 := by omega
  clear ha hb h2
  go_enter Tryz.func126, Tryz.ntmps126
  go_wp2_with fail
  refine (size_any b _ HB.out).mono ?_
  rintro e w1 ⟨rfl, rfl⟩
  have h2m : decide (b < 0) = false := by simp; omega
  go_wp2_with fail
  refine (size_any a _ HA.out).mono ?_
  rintro e w1 ⟨rfl, rfl⟩
  go_wp2_with fail
  refine (size_any a _ HA.out).mono ?_
  rintro e w1 ⟨rfl, rfl⟩
  generalize a.natAbs = A at hAl hu HE ⊢
  generalize b.natAbs = d at hdl hd0 hu HE ⊢
  obtain ⟨N, hNe⟩ : ∃ N, A * 4294967296 = N := ⟨_, rfl⟩
  rw [hNe] at hu HE
  obtain ⟨hi, hhi⟩ : ∃ hi, A / 4294967296 = hi := ⟨_, rfl⟩
  obtain ⟨lo, hlo⟩ : ∃ lo, N % 18446744073709551616 = lo := ⟨_, rfl⟩
  have eHi : (A : Int) / 4294967296 = (hi : Int) := by omega
  have eLo : IntKind.u64.wrap ((A : Int) * 4294967296) = (lo : Int) := by rw [u64wrap]; omega
  have hN : N = hi * 18446744073709551616 + lo := by omega
  have hlol : lo < 18446744073709551616 := by omega
  have hhil : hi ≤ 2147483648 := by omega
  obtain ⟨k1, k2⟩ := quot_two _ hi lo d hd0 hN
  have HHI := Lib.hid hhi
  have HLO := Lib.hid hlo
  have dz0 : ¬ (d : Int) = 0 := by omega
  have dz1 : ¬ d = 0 := by omega
  have eq0 : IntKind.u64.wrap ((hi : Int) / (d : Int)) = ((hi / d : Nat) : Int) := by
    have e : (hi : Int) / (d : Int) = ((hi / d : Nat) : Int) := rfl
    have := Nat.div_le_self hi d
    rw [e, u64wrap]; generalize hi / d = x at this ⊢; omega
  have er0 : (hi : Int).tmod (d : Int) = ((hi % d : Nat) : Int) := rfl
  have hh0 : hi / d ≤ 2147483648 := Nat.le_trans (Nat.div_le_self _ _) hhil
  have hr0 : hi % d < d := Nat.mod_lt _ hd0
  generalize hi / d = h0 at eq0 k1 hh0
  generalize hi % d = r0 at er0 k1 k2 hr0
  obtain ⟨Q, hQ⟩ : ∃ Q, (r0 * 18446744073709551616 + lo) / d = Q := ⟨_, rfl⟩
  obtain ⟨R, hR⟩ : ∃ R, (r0 * 18446744073709551616 + lo) % d = R := ⟨_, rfl⟩
  rw [hQ] at k1
  rw [← k2, hR] at hu
  have hRd : R < d := by rw [← hR]; exact Nat.mod_lt _ hd0
  have hQl : Q < 18446744073709551616 := by
    rw [← hQ, Nat.div_lt_iff_lt_mul hd0]
    have h3 : (r0 + 1) * 18446744073709551616 ≤ d * 18446744073709551616 := Nat.mul_le_mul_right _ hr0
    rw [Nat.add_mul, Nat.one_mul] at h3
    exact Nat.lt_of_lt_of_le (Nat.add_lt_add_left hlol _) (by rw [Nat.mul_comm 18446744073709551616]; exact h3)
  have HQ := Lib.hid hQ
  have HR := Lib.hid hR
  have HK1 := Lib.hid k1
  clear hhi hlo hN hNe hQ hR k1 k2
  go_wp2_with fail
  go_region
  go_wp2_with fail
  refine (div64_any r0 lo d _ hr0 hlol (by omega)).mono ?_
  rintro e w1 ⟨rfl, nq, rfl⟩
  rw [HQ.out, HR.out]
  have hup : (d : Int) - (R : Int) < (R : Int) := by omega
  have HAdd := fun w => add64_at Q 1 1 (by omega) w
  obtain ⟨C, hC⟩ : ∃ C, (Q + 1) / 18446744073709551616 = C := ⟨_, rfl⟩
  obtain ⟨L1, hL⟩ : ∃ L1, (Q + 1) % 18446744073709551616 = L1 := ⟨_, rfl⟩
  rw [hC, hL] at HAdd
  have HW := Lib.hid (div_carry (N / d) Q h0 C L1 HK1.out hC hL)
  have hCl : C ≤ 1 := by omega
  have hL1 : L1 < 18446744073709551616 := by omega
  clear hC hL hu
  rw [← HW.out] at HE
  go_wp2_with fail
  refine (bound_any true (h0 + C) L1 _ (by omega) hL1).mono ?_
  rintro e w1 ⟨rfl, hb⟩
  rw [← HE.out, ← HF.out]
  have HBL := Lib.hid (onward (B := w.heap.size) (a := w) (by repeat (first | exact Below.refl _ _ | refine Below.setCell ?_ (by simp) _ | refine below_drewN ?_ _ | refine Below.drew ?_ | refine Below.alloc ?_ (by simp) _)) (Nat.le_refl _) hb)
  obtain ⟨r, hr⟩ : ∃ r, fdiv a b = r := ⟨_, rfl⟩
  have HRR := Lib.hid hr
  rw [hr]
  clear HE HF hb hr
  go_wp2_with fail
  go_ret2
  exact ⟨by rw [HRR.out]; rfl, HBL.out⟩
set_option maxHeartbeats 1000000 in
theorem fixDiv_5 (a b : Int) (w : World) (h1 : a < 0) (h2 : 0 < b) (hu : ¬ b.natAbs < 2 * (a.natAbs * 4294967296 % b.natAbs)) (ha : -9223372036854775808 ≤ a ∧ a ≤ 9223372036854775807) (hb : -9223372036854775808 ≤ b ∧ b ≤ 9223372036854775807) :
    Calls Tryz.prog 126 #[.int .i64 a, .int .i64 b] w fun e w' => e = .returned (.tuple #[.int .i64 (fdiv a b).1, .bool (fdiv a b).2]) ∧ Below w.heap.size w w' := by
  have HF := Lib.hid (show fdiv a b = stop (nearest a b) by unfold fdiv; rw [if_neg (by omega)])
  have HE := Lib.hid (show nearest a b = sgd true (a.natAbs * 4294967296 / b.natAbs + 0) by rw [nearest_other (.inl ⟨h1, h2⟩), if_neg hu, sgd_neg])
  have HA := Lib.hid ha
  have HB := Lib.hid hb
  have hb0 : (b == 0) = false := by rw [beq_eq_false_iff_ne]; omega
  have hAl : a.natAbs ≤ 9223372036854775808 := by omega
  have hdl : b.natAbs ≤ 9223372036854775808 := by omega
  have hd0 : 0 < b.natAbs := by omega
  have h2n : ¬ b < 0 := by omega
  clear ha hb h2
  go_enter Tryz.func126, Tryz.ntmps126
  go_wp2_with fail
  refine (size_any b _ HB.out).mono ?_
  rintro e w1 ⟨rfl, rfl⟩
  have h2m : decide (b < 0) = false := by simp; omega
  go_wp2_with fail
  refine (size_any a _ HA.out).mono ?_
  rintro e w1 ⟨rfl, rfl⟩
  go_wp2_with fail
  refine (size_any a _ HA.out).mono ?_
  rintro e w1 ⟨rfl, rfl⟩
  generalize a.natAbs = A at hAl hu HE ⊢
  generalize b.natAbs = d at hdl hd0 hu HE ⊢
  obtain ⟨N, hNe⟩ : ∃ N, A * 4294967296 = N := ⟨_, rfl⟩
  rw [hNe] at hu HE
  obtain ⟨hi, hhi⟩ : ∃ hi, A / 4294967296 = hi := ⟨_, rfl⟩
  obtain ⟨lo, hlo⟩ : ∃ lo, N % 18446744073709551616 = lo := ⟨_, rfl⟩
  have eHi : (A : Int) / 4294967296 = (hi : Int) := by omega
  have eLo : IntKind.u64.wrap ((A : Int) * 4294967296) = (lo : Int) := by rw [u64wrap]; omega
  have hN : N = hi * 18446744073709551616 + lo := by omega
  have hlol : lo < 18446744073709551616 := by omega
  have hhil : hi ≤ 2147483648 := by omega
  obtain ⟨k1, k2⟩ := quot_two _ hi lo d hd0 hN
  have HHI := Lib.hid hhi
  have HLO := Lib.hid hlo
  have dz0 : ¬ (d : Int) = 0 := by omega
  have dz1 : ¬ d = 0 := by omega
  have eq0 : IntKind.u64.wrap ((hi : Int) / (d : Int)) = ((hi / d : Nat) : Int) := by
    have e : (hi : Int) / (d : Int) = ((hi / d : Nat) : Int) := rfl
    have := Nat.div_le_self hi d
    rw [e, u64wrap]; generalize hi / d = x at this ⊢; omega
  have er0 : (hi : Int).tmod (d : Int) = ((hi % d : Nat) : Int) := rfl
  have hh0 : hi / d ≤ 2147483648 := Nat.le_trans (Nat.div_le_self _ _) hhil
  have hr0 : hi % d < d := Nat.mod_lt _ hd0
  generalize hi / d = h0 at eq0 k1 hh0
  generalize hi % d = r0 at er0 k1 k2 hr0
  obtain ⟨Q, hQ⟩ : ∃ Q, (r0 * 18446744073709551616 + lo) / d = Q := ⟨_, rfl⟩
  obtain ⟨R, hR⟩ : ∃ R, (r0 * 18446744073709551616 + lo) % d = R := ⟨_, rfl⟩
  rw [hQ] at k1
  rw [← k2, hR] at hu
  have hRd : R < d := by rw [← hR]; exact Nat.mod_lt _ hd0
  have hQl : Q < 18446744073709551616 := by
    rw [← hQ, Nat.div_lt_iff_lt_mul hd0]
    have h3 : (r0 + 1) * 18446744073709551616 ≤ d * 18446744073709551616 := Nat.mul_le_mul_right _ hr0
    rw [Nat.add_mul, Nat.one_mul] at h3
    exact Nat.lt_of_lt_of_le (Nat.add_lt_add_left hlol _) (by rw [Nat.mul_comm 18446744073709551616]; exact h3)
  have HQ := Lib.hid hQ
  have HR := Lib.hid hR
  have HK1 := Lib.hid k1
  clear hhi hlo hN hNe hQ hR k1 k2
  go_wp2_with fail
  go_region
  go_wp2_with fail
  refine (div64_any r0 lo d _ hr0 hlol (by omega)).mono ?_
  rintro e w1 ⟨rfl, nq, rfl⟩
  rw [HQ.out, HR.out]
  have hup : ¬ (d : Int) - (R : Int) < (R : Int) := by omega
  have HW := Lib.hid (div_plain (N / d) Q h0 HK1.out)
  rw [Nat.add_zero, ← HW.out] at HE
  clear hu
  go_wp2_with fail
  refine (bound_any true h0 Q _ (by omega) hQl).mono ?_
  rintro e w1 ⟨rfl, hb⟩
  rw [← HE.out, ← HF.out]
  have HBL := Lib.hid (onward (B := w.heap.size) (a := w) (by repeat (first | exact Below.refl _ _ | refine Below.setCell ?_ (by simp) _ | refine below_drewN ?_ _ | refine Below.drew ?_ | refine Below.alloc ?_ (by simp) _)) (Nat.le_refl _) hb)
  obtain ⟨r, hr⟩ : ∃ r, fdiv a b = r := ⟨_, rfl⟩
  have HRR := Lib.hid hr
  rw [hr]
  clear HE HF hb hr
  go_wp2_with fail
  go_ret2
  exact ⟨by rw [HRR.out]; rfl, HBL.out⟩
set_option maxHeartbeats 1000000 in
theorem fixDiv_6 (a b : Int) (w : World) (h1 : 0 ≤ a) (h2 : b < 0) (hu : b.natAbs < 2 * (a.natAbs * 4294967296 % b.natAbs)) (ha : -9223372036854775808 ≤ a ∧ a ≤ 9223372036854775807) (hb : -9223372036854775808 ≤ b ∧ b ≤ 9223372036854775807) :
    Calls Tryz.prog 126 #[.int .i64 a, .int .i64 b] w fun e w' => e = .returned (.tuple #[.int .i64 (fdiv a b).1, .bool (fdiv a b).2]) ∧ Below w.heap.size w w' := by
  have HF := Lib.hid (show fdiv a b = stop (nearest a b) by unfold fdiv; rw [if_neg (by omega)])
  have HE := Lib.hid (show nearest a b = sgd true (a.natAbs * 4294967296 / b.natAbs + 1) by rw [nearest_other (.inr ⟨h1, h2⟩), if_pos hu, sgd_neg])
  have HA := Lib.hid ha
  have HB := Lib.hid hb
  have hb0 : (b == 0) = false := by rw [beq_eq_false_iff_ne]; omega
  have hAl : a.natAbs ≤ 9223372036854775808 := by omega
  have hdl : b.natAbs ≤ 9223372036854775808 := by omega
  have hd0 : 0 < b.natAbs := by omega
  have h1n : ¬ a < 0 := by omega
  clear ha hb h1 
  go_enter Tryz.func126, Tryz.ntmps126
  go_wp2_with fail
  refine (size_any b _ HB.out).mono ?_
  rintro e w1 ⟨rfl, rfl⟩
  have h1m : decide (a < 0) = false := by simp; omega
  go_wp2_with fail
  refine (size_any a _ HA.out).mono ?_
  rintro e w1 ⟨rfl, rfl⟩
  go_wp2_with fail
  refine (size_any a _ HA.out).mono ?_
  rintro e w1 ⟨rfl, rfl⟩
  generalize a.natAbs = A at hAl hu HE ⊢
  generalize b.natAbs = d at hdl hd0 hu HE ⊢
  obtain ⟨N, hNe⟩ : ∃ N, A * 4294967296 = N := ⟨_, rfl⟩
  rw [hNe] at hu HE
  obtain ⟨hi, hhi⟩ : ∃ hi, A / 4294967296 = hi := ⟨_, rfl⟩
  obtain ⟨lo, hlo⟩ : ∃ lo, N % 18446744073709551616 = lo := ⟨_, rfl⟩
  have eHi : (A : Int) / 4294967296 = (hi : Int) := by omega
  have eLo : IntKind.u64.wrap ((A : Int) * 4294967296) = (lo : Int) := by rw [u64wrap]; omega
  have hN : N = hi * 18446744073709551616 + lo := by omega
  have hlol : lo < 18446744073709551616 := by omega
  have hhil : hi ≤ 2147483648 := by omega
  obtain ⟨k1, k2⟩ := quot_two _ hi lo d hd0 hN
  have HHI := Lib.hid hhi
  have HLO := Lib.hid hlo
  have dz0 : ¬ (d : Int) = 0 := by omega
  have dz1 : ¬ d = 0 := by omega
  have eq0 : IntKind.u64.wrap ((hi : Int) / (d : Int)) = ((hi / d : Nat) : Int) := by
    have e : (hi : Int) / (d : Int) = ((hi / d : Nat) : Int) := rfl
    have := Nat.div_le_self hi d
    rw [e, u64wrap]; generalize hi / d = x at this ⊢; omega
  have er0 : (hi : Int).tmod (d : Int) = ((hi % d : Nat) : Int) := rfl
  have hh0 : hi / d ≤ 2147483648 := Nat.le_trans (Nat.div_le_self _ _) hhil
  have hr0 : hi % d < d := Nat.mod_lt _ hd0
  generalize hi / d = h0 at eq0 k1 hh0
  generalize hi % d = r0 at er0 k1 k2 hr0
  obtain ⟨Q, hQ⟩ : ∃ Q, (r0 * 18446744073709551616 + lo) / d = Q := ⟨_, rfl⟩
  obtain ⟨R, hR⟩ : ∃ R, (r0 * 18446744073709551616 + lo) % d = R := ⟨_, rfl⟩
  rw [hQ] at k1
  rw [← k2, hR] at hu
  have hRd : R < d := by rw [← hR]; exact Nat.mod_lt _ hd0
  have hQl : Q < 18446744073709551616 := by
    rw [← hQ, Nat.div_lt_iff_lt_mul hd0]
    have h3 : (r0 + 1) * 18446744073709551616 ≤ d * 18446744073709551616 := Nat.mul_le_mul_right _ hr0
    rw [Nat.add_mul, Nat.one_mul] at h3
    exact Nat.lt_of_lt_of_le (Nat.add_lt_add_left hlol _) (by rw [Nat.mul_comm 18446744073709551616]; exact h3)
  have HQ := Lib.hid hQ
  have HR := Lib.hid hR
  have HK1 := Lib.hid k1
  clear hhi hlo hN hNe hQ hR k1 k2
  go_wp2_with fail
  go_region
  go_wp2_with fail
  refine (div64_any r0 lo d _ hr0 hlol (by omega)).mono ?_
  rintro e w1 ⟨rfl, nq, rfl⟩
  rw [HQ.out, HR.out]
  have hup : (d : Int) - (R : Int) < (R : Int) := by omega
  have HAdd := fun w => add64_at Q 1 1 (by omega) w
  obtain ⟨C, hC⟩ : ∃ C, (Q + 1) / 18446744073709551616 = C := ⟨_, rfl⟩
  obtain ⟨L1, hL⟩ : ∃ L1, (Q + 1) % 18446744073709551616 = L1 := ⟨_, rfl⟩
  rw [hC, hL] at HAdd
  have HW := Lib.hid (div_carry (N / d) Q h0 C L1 HK1.out hC hL)
  have hCl : C ≤ 1 := by omega
  have hL1 : L1 < 18446744073709551616 := by omega
  clear hC hL hu
  rw [← HW.out] at HE
  go_wp2_with fail
  refine (bound_any true (h0 + C) L1 _ (by omega) hL1).mono ?_
  rintro e w1 ⟨rfl, hb⟩
  rw [← HE.out, ← HF.out]
  have HBL := Lib.hid (onward (B := w.heap.size) (a := w) (by repeat (first | exact Below.refl _ _ | refine Below.setCell ?_ (by simp) _ | refine below_drewN ?_ _ | refine Below.drew ?_ | refine Below.alloc ?_ (by simp) _)) (Nat.le_refl _) hb)
  obtain ⟨r, hr⟩ : ∃ r, fdiv a b = r := ⟨_, rfl⟩
  have HRR := Lib.hid hr
  rw [hr]
  clear HE HF hb hr
  go_wp2_with fail
  go_ret2
  exact ⟨by rw [HRR.out]; rfl, HBL.out⟩
set_option maxHeartbeats 1000000 in
theorem fixDiv_7 (a b : Int) (w : World) (h1 : 0 ≤ a) (h2 : b < 0) (hu : ¬ b.natAbs < 2 * (a.natAbs * 4294967296 % b.natAbs)) (ha : -9223372036854775808 ≤ a ∧ a ≤ 9223372036854775807) (hb : -9223372036854775808 ≤ b ∧ b ≤ 9223372036854775807) :
    Calls Tryz.prog 126 #[.int .i64 a, .int .i64 b] w fun e w' => e = .returned (.tuple #[.int .i64 (fdiv a b).1, .bool (fdiv a b).2]) ∧ Below w.heap.size w w' := by
  have HF := Lib.hid (show fdiv a b = stop (nearest a b) by unfold fdiv; rw [if_neg (by omega)])
  have HE := Lib.hid (show nearest a b = sgd true (a.natAbs * 4294967296 / b.natAbs + 0) by rw [nearest_other (.inr ⟨h1, h2⟩), if_neg hu, sgd_neg])
  have HA := Lib.hid ha
  have HB := Lib.hid hb
  have hb0 : (b == 0) = false := by rw [beq_eq_false_iff_ne]; omega
  have hAl : a.natAbs ≤ 9223372036854775808 := by omega
  have hdl : b.natAbs ≤ 9223372036854775808 := by omega
  have hd0 : 0 < b.natAbs := by omega
  have h1n : ¬ a < 0 := by omega
  clear ha hb h1 
  go_enter Tryz.func126, Tryz.ntmps126
  go_wp2_with fail
  refine (size_any b _ HB.out).mono ?_
  rintro e w1 ⟨rfl, rfl⟩
  have h1m : decide (a < 0) = false := by simp; omega
  go_wp2_with fail
  refine (size_any a _ HA.out).mono ?_
  rintro e w1 ⟨rfl, rfl⟩
  go_wp2_with fail
  refine (size_any a _ HA.out).mono ?_
  rintro e w1 ⟨rfl, rfl⟩
  generalize a.natAbs = A at hAl hu HE ⊢
  generalize b.natAbs = d at hdl hd0 hu HE ⊢
  obtain ⟨N, hNe⟩ : ∃ N, A * 4294967296 = N := ⟨_, rfl⟩
  rw [hNe] at hu HE
  obtain ⟨hi, hhi⟩ : ∃ hi, A / 4294967296 = hi := ⟨_, rfl⟩
  obtain ⟨lo, hlo⟩ : ∃ lo, N % 18446744073709551616 = lo := ⟨_, rfl⟩
  have eHi : (A : Int) / 4294967296 = (hi : Int) := by omega
  have eLo : IntKind.u64.wrap ((A : Int) * 4294967296) = (lo : Int) := by rw [u64wrap]; omega
  have hN : N = hi * 18446744073709551616 + lo := by omega
  have hlol : lo < 18446744073709551616 := by omega
  have hhil : hi ≤ 2147483648 := by omega
  obtain ⟨k1, k2⟩ := quot_two _ hi lo d hd0 hN
  have HHI := Lib.hid hhi
  have HLO := Lib.hid hlo
  have dz0 : ¬ (d : Int) = 0 := by omega
  have dz1 : ¬ d = 0 := by omega
  have eq0 : IntKind.u64.wrap ((hi : Int) / (d : Int)) = ((hi / d : Nat) : Int) := by
    have e : (hi : Int) / (d : Int) = ((hi / d : Nat) : Int) := rfl
    have := Nat.div_le_self hi d
    rw [e, u64wrap]; generalize hi / d = x at this ⊢; omega
  have er0 : (hi : Int).tmod (d : Int) = ((hi % d : Nat) : Int) := rfl
  have hh0 : hi / d ≤ 2147483648 := Nat.le_trans (Nat.div_le_self _ _) hhil
  have hr0 : hi % d < d := Nat.mod_lt _ hd0
  generalize hi / d = h0 at eq0 k1 hh0
  generalize hi % d = r0 at er0 k1 k2 hr0
  obtain ⟨Q, hQ⟩ : ∃ Q, (r0 * 18446744073709551616 + lo) / d = Q := ⟨_, rfl⟩
  obtain ⟨R, hR⟩ : ∃ R, (r0 * 18446744073709551616 + lo) % d = R := ⟨_, rfl⟩
  rw [hQ] at k1
  rw [← k2, hR] at hu
  have hRd : R < d := by rw [← hR]; exact Nat.mod_lt _ hd0
  have hQl : Q < 18446744073709551616 := by
    rw [← hQ, Nat.div_lt_iff_lt_mul hd0]
    have h3 : (r0 + 1) * 18446744073709551616 ≤ d * 18446744073709551616 := Nat.mul_le_mul_right _ hr0
    rw [Nat.add_mul, Nat.one_mul] at h3
    exact Nat.lt_of_lt_of_le (Nat.add_lt_add_left hlol _) (by rw [Nat.mul_comm 18446744073709551616]; exact h3)
  have HQ := Lib.hid hQ
  have HR := Lib.hid hR
  have HK1 := Lib.hid k1
  clear hhi hlo hN hNe hQ hR k1 k2
  go_wp2_with fail
  go_region
  go_wp2_with fail
  refine (div64_any r0 lo d _ hr0 hlol (by omega)).mono ?_
  rintro e w1 ⟨rfl, nq, rfl⟩
  rw [HQ.out, HR.out]
  have hup : ¬ (d : Int) - (R : Int) < (R : Int) := by omega
  have HW := Lib.hid (div_plain (N / d) Q h0 HK1.out)
  rw [Nat.add_zero, ← HW.out] at HE
  clear hu
  go_wp2_with fail
  refine (bound_any true h0 Q _ (by omega) hQl).mono ?_
  rintro e w1 ⟨rfl, hb⟩
  rw [← HE.out, ← HF.out]
  have HBL := Lib.hid (onward (B := w.heap.size) (a := w) (by repeat (first | exact Below.refl _ _ | refine Below.setCell ?_ (by simp) _ | refine below_drewN ?_ _ | refine Below.drew ?_ | refine Below.alloc ?_ (by simp) _)) (Nat.le_refl _) hb)
  obtain ⟨r, hr⟩ : ∃ r, fdiv a b = r := ⟨_, rfl⟩
  have HRR := Lib.hid hr
  rw [hr]
  clear HE HF hb hr
  go_wp2_with fail
  go_ret2
  exact ⟨by rw [HRR.out]; rfl, HBL.out⟩
theorem fixDiv_any (a b : Int) (w : World) (ha : -9223372036854775808 ≤ a ∧ a ≤ 9223372036854775807) (hb : -9223372036854775808 ≤ b ∧ b ≤ 9223372036854775807) :
    Calls Tryz.prog 126 #[.int .i64 a, .int .i64 b] w fun e w' => e = .returned (.tuple #[.int .i64 (fdiv a b).1, .bool (fdiv a b).2]) ∧ Below w.heap.size w w' := by
  by_cases h0 : b = 0
  · subst h0
    rcases Int.lt_trichotomy a 0 with h | h | h
    · have HF := Lib.hid (show fdiv a 0 = (-9223372036854775808, true) by unfold fdiv; rw [if_pos rfl, if_neg (by omega), if_pos h])
      clear ha hb
      go_enter Tryz.func126, Tryz.ntmps126
      go_wp2_with fail
      go_ret2
      exact ⟨by rw [HF.out]; rfl, Below.refl _ _⟩
    · subst h
      have HF := Lib.hid (show fdiv 0 0 = (0, true) by unfold fdiv; rw [if_pos rfl, if_neg (by omega), if_neg (by omega)])
      clear ha hb
      go_enter Tryz.func126, Tryz.ntmps126
      go_wp2_with fail
      go_ret2
      exact ⟨by rw [HF.out]; rfl, Below.refl _ _⟩
    · have HF := Lib.hid (show fdiv a 0 = (9223372036854775807, true) by unfold fdiv; rw [if_pos rfl, if_pos h])
      clear ha hb
      go_enter Tryz.func126, Tryz.ntmps126
      go_wp2_with fail
      go_ret2
      exact ⟨by rw [HF.out]; rfl, Below.refl _ _⟩
  · rcases Int.lt_or_le a 0 with h1 | h1 <;> rcases Int.lt_or_lt_of_ne h0 with h2 | h2
    · by_cases hu : b.natAbs ≤ 2 * (a.natAbs * 4294967296 % b.natAbs)
      · exact fixDiv_0 a b w h1 h2 hu ha hb
      · exact fixDiv_1 a b w h1 h2 hu ha hb
    · by_cases hu : b.natAbs < 2 * (a.natAbs * 4294967296 % b.natAbs)
      · exact fixDiv_4 a b w h1 h2 hu ha hb
      · exact fixDiv_5 a b w h1 h2 hu ha hb
    · by_cases hu : b.natAbs < 2 * (a.natAbs * 4294967296 % b.natAbs)
      · exact fixDiv_6 a b w h1 h2 hu ha hb
      · exact fixDiv_7 a b w h1 h2 hu ha hb
    · by_cases hu : b.natAbs ≤ 2 * (a.natAbs * 4294967296 % b.natAbs)
      · exact fixDiv_2 a b w h1 h2 hu ha hb
      · exact fixDiv_3 a b w h1 h2 hu ha hb
end Go.Proofs.YtjfllpmiajkenaaGreat.BigW
namespace Go.Proofs.YtjfllpmiajkenaaGreat.BigW
open Go.RowKit Go.Proofs.YtjfllpmiajkenaaGreat.Mem Go.Proofs.YtjfllpmiajkenaaGreat.BigLaw
set_option linter.unusedVariables false
theorem fdiv_range (a b : Int) : In64 (fdiv a b).1 := by
  unfold fdiv
  split
  · split
    · unfold In64; omega
    · split <;> (unfold In64; omega)
  · exact stop_range _
theorem rdiv_any (g : Nat) (x : Bool) (a b : Int) (w : World) (h : Bent w 154 g x) (ha : In64 a) (hb : In64 b) :
    Calls Tryz.prog 102 #[.pointer (some ⟨g, 0, none⟩), .int .i64 a, .int .i64 b] w fun e w' => Stepd w w' 154 g x (fdiv a b) e := by
  have HB := Lib.hid h
  have HA := Lib.hid ha
  have HC := Lib.hid hb
  clear h ha hb
  go_enter Tryz.func102, Tryz.ntmps102
  go_wp2_with fail
  refine (refDiv_any a b _ HA.out HC.out).mono ?_
  rintro e w1 ⟨rfl, hb1⟩
  have HB1 := Lib.hid (HB.out.below hb1)
  obtain ⟨r, hr⟩ : ∃ r, fdiv a b = r := ⟨_, rfl⟩
  have HR := Lib.hid hr
  rw [hr]
  clear hr
  obtain ⟨n, b'⟩ := r
  go_wp2_with fail
  refine (rsee_any g x n b' _ HB1.out).mono ?_
  rintro e w2 ⟨rfl, hbe, hg⟩
  have HBE := Lib.hid hbe
  have HG := Lib.hid ((grown_of_below hb1).trans hg)
  clear hbe hg
  go_wp2_with fail
  go_ret
  exact ⟨by rw [HR.out]; rfl, by rw [HR.out]; exact HBE.out, HG.out⟩
end Go.Proofs.YtjfllpmiajkenaaGreat.BigW
