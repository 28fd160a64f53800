import Derived.Test.YtobigbnmbnhikaaPb0
import Derived.Test.YtobigbnmbnhikaaPb12
import Derived.RegionTactic
import Derived.Deep.RegionHeld3
import Derived.Test.YtobigbnmbnhikaaPb1
set_option linter.unusedVariables false
set_option linter.unusedSimpArgs false
namespace Go.Proofs.Ytobigbnmbnhikaa
namespace BigW
open Go.RowKit Mem BigLaw FixDivLaw
theorem carry_of (N Q h0 C L1 K : Nat) (h : h0 * K + Q = N) (hC : K * C + L1 = Q + 1) : (h0 + C) * K + L1 = N + 1 := by
 rw [Nat.add_mul, Nat.mul_comm C K]; omega
theorem div_carry (N Q h0 C L1 : Nat) (h : h0 * 18446744073709551616 + Q = N) (hC : (Q + 1) / 18446744073709551616 = C) (hL : (Q + 1) % 18446744073709551616 = L1) : wideN (h0 + C) L1 = N + 1 := by
 refine carry_of N Q h0 C L1 _ h ?_; rw [← hC, ← hL]; exact Nat.div_add_mod _ _
theorem div_plain (N Q h0 : Nat) (h : h0 * 18446744073709551616 + Q = N) : wideN h0 Q = N := h
theorem sgd_pos (n : Nat) : sgd false n = (n : Int) := by unfold sgd; rw [if_neg (by simp)]
theorem sgd_neg (n : Nat) : sgd true n = -(n : Int) := by unfold sgd; rw [if_pos rfl]
set_option maxHeartbeats 1000000 in
theorem fixDiv_0 (a b : Int) (w : World) (h1 : a < 0) (h2 : b < 0) (hu : b.natAbs ≤ 2 * (a.natAbs * 4294967296 % b.natAbs)) (ha : -9223372036854775808 ≤ a ∧ a ≤ 9223372036854775807) (hb : -9223372036854775808 ≤ b ∧ b ≤ 9223372036854775807) :
  Calls Try.prog 81 #[.int .i64 a, .int .i64 b] w fun e w' => e = .returned (.tuple #[.int .i64 (fdiv a b).1, .bool (fdiv a b).2]) ∧ Below w.heap.size w w' := by
 have HF := zz (show fdiv a b = stop (nearest a b) by unfold fdiv; rw [if_neg (by omega)])
 have HE := zz (show nearest a b = sgd false (a.natAbs * 4294967296 / b.natAbs + 1) by rw [nearest_same (.inl ⟨h1, h2⟩), if_pos hu, sgd_pos])
 have HA := zz ha; have HB := zz hb
 have hb0 : (b == 0) = false := by rw [beq_eq_false_iff_ne]; omega
 have hAl : a.natAbs ≤ 9223372036854775808 := by omega
 have hdl : b.natAbs ≤ 9223372036854775808 := by omega
 have hd0 : 0 < b.natAbs := by omega
 clear ha hb
 go_enter Try.func81, Try.ntmps81
 go_wp2_with fail; refine (size_any b _ HB.out).mono ?_; rintro e w1 ⟨rfl, rfl⟩; go_wp2_with fail; refine (size_any a _ HA.out).mono ?_; rintro e w1 ⟨rfl, rfl⟩; go_wp2_with fail; refine (size_any a _ HA.out).mono ?_; rintro e w1 ⟨rfl, rfl⟩; generalize a.natAbs = A at hAl hu HE ⊢; generalize b.natAbs = d at hdl hd0 hu HE ⊢; obtain ⟨N, hNe⟩ : ∃ N, A * 4294967296 = N := ⟨_, rfl⟩; rw [hNe] at hu HE; obtain ⟨hi, hhi⟩ : ∃ hi, A / 4294967296 = hi := ⟨_, rfl⟩; obtain ⟨lo, hlo⟩ : ∃ lo, N % 18446744073709551616 = lo := ⟨_, rfl⟩
 have eHi : (A : Int) / 4294967296 = (hi : Int) := by omega
 have eLo : IntKind.u64.wrap ((A : Int) * 4294967296) = (lo : Int) := by rw [u64wrap]; omega
 have hN : N = hi * 18446744073709551616 + lo := by omega
 have hlol : lo < 18446744073709551616 := by omega
 have hhil : hi ≤ 2147483648 := by omega
 obtain ⟨k1, k2⟩ := quot_two _ hi lo d hd0 hN; have HHI := zz hhi; have HLO := zz hlo
 have dz0 : ¬ (d : Int) = 0 := by omega
 have dz1 : ¬ d = 0 := by omega
 have eq0 : IntKind.u64.wrap ((hi : Int) / (d : Int)) = ((hi / d : Nat) : Int) := by
  have e : (hi : Int) / (d : Int) = ((hi / d : Nat) : Int) := rfl; have := Nat.div_le_self hi d; rw [e, u64wrap]; generalize hi / d = x at this ⊢; omega
 have er0 : (hi : Int).tmod (d : Int) = ((hi % d : Nat) : Int) := rfl; have hh0 : hi / d ≤ 2147483648 := Nat.le_trans (Nat.div_le_self _ _) hhil; have hr0 : hi % d < d := Nat.mod_lt _ hd0; generalize hi / d = h0 at eq0 k1 hh0; generalize hi % d = r0 at er0 k1 k2 hr0; obtain ⟨Q, hQ⟩ : ∃ Q, (r0 * 18446744073709551616 + lo) / d = Q := ⟨_, rfl⟩; obtain ⟨R, hR⟩ : ∃ R, (r0 * 18446744073709551616 + lo) % d = R := ⟨_, rfl⟩; rw [hQ] at k1; rw [← k2, hR] at hu
 have hRd : R < d := by rw [← hR]; exact Nat.mod_lt _ hd0
 have hQl : Q < 18446744073709551616 := by
  rw [← hQ, Nat.div_lt_iff_lt_mul hd0]; have h3 : (r0 + 1) * 18446744073709551616 ≤ d * 18446744073709551616 := Nat.mul_le_mul_right _ hr0; rw [Nat.add_mul, Nat.one_mul] at h3; exact Nat.lt_of_lt_of_le (Nat.add_lt_add_left hlol _) (by rw [Nat.mul_comm 18446744073709551616]; exact h3)
 have HQ := zz hQ; have HR := zz hR; have HK1 := zz k1; clear hhi hlo hN hNe hQ hR k1 k2; go_wp2_with fail
 go_region
 go_wp2_with fail; refine (div64_any r0 lo d _ hr0 hlol (by omega)).mono ?_; rintro e w1 ⟨rfl, nq, rfl⟩; rw [HQ.out, HR.out]
 have hup : (d : Int) - (R : Int) ≤ (R : Int) := by omega
 have HAdd := fun w => add64_at Q 1 1 (by omega) w; obtain ⟨C, hC⟩ : ∃ C, (Q + 1) / 18446744073709551616 = C := ⟨_, rfl⟩; obtain ⟨L1, hL⟩ : ∃ L1, (Q + 1) % 18446744073709551616 = L1 := ⟨_, rfl⟩; rw [hC, hL] at HAdd; have HW := zz (div_carry (N / d) Q h0 C L1 HK1.out hC hL)
 have hCl : C ≤ 1 := by omega
 have hL1 : L1 < 18446744073709551616 := by omega
 clear hC hL hu; rw [← HW.out] at HE; go_wp2_with fail; refine (bound_any false (h0 + C) L1 _ (by omega) hL1).mono ?_; rintro e w1 ⟨rfl, hb⟩; rw [← HE.out, ← HF.out]; have HBL := zz (onward (B := w.heap.size) (a := w) (by repeat (first | exact Below.refl _ _ | refine Below.setCell ?_ (by simp) _ | refine below_drewN ?_ _ | refine Below.drew ?_ | refine Below.alloc ?_ (by simp) _)) (Nat.le_refl _) hb); obtain ⟨r, hr⟩ : ∃ r, fdiv a b = r := ⟨_, rfl⟩; have HRR := zz hr; rw [hr]; clear HE HF hb hr; go_wp2_with fail
 go_ret2
 exact ⟨by rw [HRR.out]; rfl, HBL.out⟩
set_option maxHeartbeats 1000000 in
theorem fixDiv_1 (a b : Int) (w : World) (h1 : a < 0) (h2 : b < 0) (hu : ¬ b.natAbs ≤ 2 * (a.natAbs * 4294967296 % b.natAbs)) (ha : -9223372036854775808 ≤ a ∧ a ≤ 9223372036854775807) (hb : -9223372036854775808 ≤ b ∧ b ≤ 9223372036854775807) :
  Calls Try.prog 81 #[.int .i64 a, .int .i64 b] w fun e w' => e = .returned (.tuple #[.int .i64 (fdiv a b).1, .bool (fdiv a b).2]) ∧ Below w.heap.size w w' := by
 have HF := zz (show fdiv a b = stop (nearest a b) by unfold fdiv; rw [if_neg (by omega)])
 have HE := zz (show nearest a b = sgd false (a.natAbs * 4294967296 / b.natAbs + 0) by rw [nearest_same (.inl ⟨h1, h2⟩), if_neg hu, sgd_pos])
 have HA := zz ha; have HB := zz hb
 have hb0 : (b == 0) = false := by rw [beq_eq_false_iff_ne]; omega
 have hAl : a.natAbs ≤ 9223372036854775808 := by omega
 have hdl : b.natAbs ≤ 9223372036854775808 := by omega
 have hd0 : 0 < b.natAbs := by omega
 clear ha hb
 go_enter Try.func81, Try.ntmps81
 go_wp2_with fail; refine (size_any b _ HB.out).mono ?_; rintro e w1 ⟨rfl, rfl⟩; go_wp2_with fail; refine (size_any a _ HA.out).mono ?_; rintro e w1 ⟨rfl, rfl⟩; go_wp2_with fail; refine (size_any a _ HA.out).mono ?_; rintro e w1 ⟨rfl, rfl⟩; generalize a.natAbs = A at hAl hu HE ⊢; generalize b.natAbs = d at hdl hd0 hu HE ⊢; obtain ⟨N, hNe⟩ : ∃ N, A * 4294967296 = N := ⟨_, rfl⟩; rw [hNe] at hu HE; obtain ⟨hi, hhi⟩ : ∃ hi, A / 4294967296 = hi := ⟨_, rfl⟩; obtain ⟨lo, hlo⟩ : ∃ lo, N % 18446744073709551616 = lo := ⟨_, rfl⟩
 have eHi : (A : Int) / 4294967296 = (hi : Int) := by omega
 have eLo : IntKind.u64.wrap ((A : Int) * 4294967296) = (lo : Int) := by rw [u64wrap]; omega
 have hN : N = hi * 18446744073709551616 + lo := by omega
 have hlol : lo < 18446744073709551616 := by omega
 have hhil : hi ≤ 2147483648 := by omega
 obtain ⟨k1, k2⟩ := quot_two _ hi lo d hd0 hN; have HHI := zz hhi; have HLO := zz hlo
 have dz0 : ¬ (d : Int) = 0 := by omega
 have dz1 : ¬ d = 0 := by omega
 have eq0 : IntKind.u64.wrap ((hi : Int) / (d : Int)) = ((hi / d : Nat) : Int) := by
  have e : (hi : Int) / (d : Int) = ((hi / d : Nat) : Int) := rfl; have := Nat.div_le_self hi d; rw [e, u64wrap]; generalize hi / d = x at this ⊢; omega
 have er0 : (hi : Int).tmod (d : Int) = ((hi % d : Nat) : Int) := rfl; have hh0 : hi / d ≤ 2147483648 := Nat.le_trans (Nat.div_le_self _ _) hhil; have hr0 : hi % d < d := Nat.mod_lt _ hd0; generalize hi / d = h0 at eq0 k1 hh0; generalize hi % d = r0 at er0 k1 k2 hr0; obtain ⟨Q, hQ⟩ : ∃ Q, (r0 * 18446744073709551616 + lo) / d = Q := ⟨_, rfl⟩; obtain ⟨R, hR⟩ : ∃ R, (r0 * 18446744073709551616 + lo) % d = R := ⟨_, rfl⟩; rw [hQ] at k1; rw [← k2, hR] at hu
 have hRd : R < d := by rw [← hR]; exact Nat.mod_lt _ hd0
 have hQl : Q < 18446744073709551616 := by
  rw [← hQ, Nat.div_lt_iff_lt_mul hd0]; have h3 : (r0 + 1) * 18446744073709551616 ≤ d * 18446744073709551616 := Nat.mul_le_mul_right _ hr0; rw [Nat.add_mul, Nat.one_mul] at h3; exact Nat.lt_of_lt_of_le (Nat.add_lt_add_left hlol _) (by rw [Nat.mul_comm 18446744073709551616]; exact h3)
 have HQ := zz hQ; have HR := zz hR; have HK1 := zz k1; clear hhi hlo hN hNe hQ hR k1 k2; go_wp2_with fail
 go_region
 go_wp2_with fail; refine (div64_any r0 lo d _ hr0 hlol (by omega)).mono ?_; rintro e w1 ⟨rfl, nq, rfl⟩; rw [HQ.out, HR.out]
 have hup : ¬ (d : Int) - (R : Int) ≤ (R : Int) := by omega
 have HW := zz (div_plain (N / d) Q h0 HK1.out); rw [Nat.add_zero, ← HW.out] at HE; clear hu; go_wp2_with fail; refine (bound_any false h0 Q _ (by omega) hQl).mono ?_; rintro e w1 ⟨rfl, hb⟩; rw [← HE.out, ← HF.out]; have HBL := zz (onward (B := w.heap.size) (a := w) (by repeat (first | exact Below.refl _ _ | refine Below.setCell ?_ (by simp) _ | refine below_drewN ?_ _ | refine Below.drew ?_ | refine Below.alloc ?_ (by simp) _)) (Nat.le_refl _) hb); obtain ⟨r, hr⟩ : ∃ r, fdiv a b = r := ⟨_, rfl⟩; have HRR := zz hr; rw [hr]; clear HE HF hb hr; go_wp2_with fail
 go_ret2
 exact ⟨by rw [HRR.out]; rfl, HBL.out⟩
set_option maxHeartbeats 1000000 in
theorem fixDiv_2 (a b : Int) (w : World) (h1 : 0 ≤ a) (h2 : 0 < b) (hu : b.natAbs ≤ 2 * (a.natAbs * 4294967296 % b.natAbs)) (ha : -9223372036854775808 ≤ a ∧ a ≤ 9223372036854775807) (hb : -9223372036854775808 ≤ b ∧ b ≤ 9223372036854775807) :
  Calls Try.prog 81 #[.int .i64 a, .int .i64 b] w fun e w' => e = .returned (.tuple #[.int .i64 (fdiv a b).1, .bool (fdiv a b).2]) ∧ Below w.heap.size w w' := by
 have HF := zz (show fdiv a b = stop (nearest a b) by unfold fdiv; rw [if_neg (by omega)])
 have HE := zz (show nearest a b = sgd false (a.natAbs * 4294967296 / b.natAbs + 1) by rw [nearest_same (.inr ⟨h1, h2⟩), if_pos hu, sgd_pos])
 have HA := zz ha; have HB := zz hb
 have hb0 : (b == 0) = false := by rw [beq_eq_false_iff_ne]; omega
 have hAl : a.natAbs ≤ 9223372036854775808 := by omega
 have hdl : b.natAbs ≤ 9223372036854775808 := by omega
 have hd0 : 0 < b.natAbs := by omega
 have h1n : ¬ a < 0 := by omega
 have h2n : ¬ b < 0 := by omega
 clear ha hb h1 h2
 go_enter Try.func81, Try.ntmps81
 go_wp2_with fail; refine (size_any b _ HB.out).mono ?_; rintro e w1 ⟨rfl, rfl⟩
 have h1m : decide (a < 0) = false := by simp; omega
 have h2m : decide (b < 0) = false := by simp; omega
 go_wp2_with fail; refine (size_any a _ HA.out).mono ?_; rintro e w1 ⟨rfl, rfl⟩; go_wp2_with fail; refine (size_any a _ HA.out).mono ?_; rintro e w1 ⟨rfl, rfl⟩; generalize a.natAbs = A at hAl hu HE ⊢; generalize b.natAbs = d at hdl hd0 hu HE ⊢; obtain ⟨N, hNe⟩ : ∃ N, A * 4294967296 = N := ⟨_, rfl⟩; rw [hNe] at hu HE; obtain ⟨hi, hhi⟩ : ∃ hi, A / 4294967296 = hi := ⟨_, rfl⟩; obtain ⟨lo, hlo⟩ : ∃ lo, N % 18446744073709551616 = lo := ⟨_, rfl⟩
 have eHi : (A : Int) / 4294967296 = (hi : Int) := by omega
 have eLo : IntKind.u64.wrap ((A : Int) * 4294967296) = (lo : Int) := by rw [u64wrap]; omega
 have hN : N = hi * 18446744073709551616 + lo := by omega
 have hlol : lo < 18446744073709551616 := by omega
 have hhil : hi ≤ 2147483648 := by omega
 obtain ⟨k1, k2⟩ := quot_two _ hi lo d hd0 hN; have HHI := zz hhi; have HLO := zz hlo
 have dz0 : ¬ (d : Int) = 0 := by omega
 have dz1 : ¬ d = 0 := by omega
 have eq0 : IntKind.u64.wrap ((hi : Int) / (d : Int)) = ((hi / d : Nat) : Int) := by
  have e : (hi : Int) / (d : Int) = ((hi / d : Nat) : Int) := rfl; have := Nat.div_le_self hi d; rw [e, u64wrap]; generalize hi / d = x at this ⊢; omega
 have er0 : (hi : Int).tmod (d : Int) = ((hi % d : Nat) : Int) := rfl; have hh0 : hi / d ≤ 2147483648 := Nat.le_trans (Nat.div_le_self _ _) hhil; have hr0 : hi % d < d := Nat.mod_lt _ hd0; generalize hi / d = h0 at eq0 k1 hh0; generalize hi % d = r0 at er0 k1 k2 hr0; obtain ⟨Q, hQ⟩ : ∃ Q, (r0 * 18446744073709551616 + lo) / d = Q := ⟨_, rfl⟩; obtain ⟨R, hR⟩ : ∃ R, (r0 * 18446744073709551616 + lo) % d = R := ⟨_, rfl⟩; rw [hQ] at k1; rw [← k2, hR] at hu
 have hRd : R < d := by rw [← hR]; exact Nat.mod_lt _ hd0
 have hQl : Q < 18446744073709551616 := by
  rw [← hQ, Nat.div_lt_iff_lt_mul hd0]; have h3 : (r0 + 1) * 18446744073709551616 ≤ d * 18446744073709551616 := Nat.mul_le_mul_right _ hr0; rw [Nat.add_mul, Nat.one_mul] at h3; exact Nat.lt_of_lt_of_le (Nat.add_lt_add_left hlol _) (by rw [Nat.mul_comm 18446744073709551616]; exact h3)
 have HQ := zz hQ; have HR := zz hR; have HK1 := zz k1; clear hhi hlo hN hNe hQ hR k1 k2; go_wp2_with fail
 go_region
 go_wp2_with fail; refine (div64_any r0 lo d _ hr0 hlol (by omega)).mono ?_; rintro e w1 ⟨rfl, nq, rfl⟩; rw [HQ.out, HR.out]
 have hup : (d : Int) - (R : Int) ≤ (R : Int) := by omega
 have HAdd := fun w => add64_at Q 1 1 (by omega) w; obtain ⟨C, hC⟩ : ∃ C, (Q + 1) / 18446744073709551616 = C := ⟨_, rfl⟩; obtain ⟨L1, hL⟩ : ∃ L1, (Q + 1) % 18446744073709551616 = L1 := ⟨_, rfl⟩; rw [hC, hL] at HAdd; have HW := zz (div_carry (N / d) Q h0 C L1 HK1.out hC hL)
 have hCl : C ≤ 1 := by omega
 have hL1 : L1 < 18446744073709551616 := by omega
 clear hC hL hu; rw [← HW.out] at HE; go_wp2_with fail; refine (bound_any false (h0 + C) L1 _ (by omega) hL1).mono ?_; rintro e w1 ⟨rfl, hb⟩; rw [← HE.out, ← HF.out]; have HBL := zz (onward (B := w.heap.size) (a := w) (by repeat (first | exact Below.refl _ _ | refine Below.setCell ?_ (by simp) _ | refine below_drewN ?_ _ | refine Below.drew ?_ | refine Below.alloc ?_ (by simp) _)) (Nat.le_refl _) hb); obtain ⟨r, hr⟩ : ∃ r, fdiv a b = r := ⟨_, rfl⟩; have HRR := zz hr; rw [hr]; clear HE HF hb hr; go_wp2_with fail
 go_ret2
 exact ⟨by rw [HRR.out]; rfl, HBL.out⟩
set_option maxHeartbeats 1000000 in
theorem fixDiv_3 (a b : Int) (w : World) (h1 : 0 ≤ a) (h2 : 0 < b) (hu : ¬ b.natAbs ≤ 2 * (a.natAbs * 4294967296 % b.natAbs)) (ha : -9223372036854775808 ≤ a ∧ a ≤ 9223372036854775807) (hb : -9223372036854775808 ≤ b ∧ b ≤ 9223372036854775807) :
  Calls Try.prog 81 #[.int .i64 a, .int .i64 b] w fun e w' => e = .returned (.tuple #[.int .i64 (fdiv a b).1, .bool (fdiv a b).2]) ∧ Below w.heap.size w w' := by
 have HF := zz (show fdiv a b = stop (nearest a b) by unfold fdiv; rw [if_neg (by omega)])
 have HE := zz (show nearest a b = sgd false (a.natAbs * 4294967296 / b.natAbs + 0) by rw [nearest_same (.inr ⟨h1, h2⟩), if_neg hu, sgd_pos])
 have HA := zz ha; have HB := zz hb
 have hb0 : (b == 0) = false := by rw [beq_eq_false_iff_ne]; omega
 have hAl : a.natAbs ≤ 9223372036854775808 := by omega
 have hdl : b.natAbs ≤ 9223372036854775808 := by omega
 have hd0 : 0 < b.natAbs := by omega
 have h1n : ¬ a < 0 := by omega
 have h2n : ¬ b < 0 := by omega
 clear ha hb h1 h2
 go_enter Try.func81, Try.ntmps81
 go_wp2_with fail; refine (size_any b _ HB.out).mono ?_; rintro e w1 ⟨rfl, rfl⟩
 have h1m : decide (a < 0) = false := by simp; omega
 have h2m : decide (b < 0) = false := by simp; omega
 go_wp2_with fail; refine (size_any a _ HA.out).mono ?_; rintro e w1 ⟨rfl, rfl⟩; go_wp2_with fail; refine (size_any a _ HA.out).mono ?_; rintro e w1 ⟨rfl, rfl⟩; generalize a.natAbs = A at hAl hu HE ⊢; generalize b.natAbs = d at hdl hd0 hu HE ⊢; obtain ⟨N, hNe⟩ : ∃ N, A * 4294967296 = N := ⟨_, rfl⟩; rw [hNe] at hu HE; obtain ⟨hi, hhi⟩ : ∃ hi, A / 4294967296 = hi := ⟨_, rfl⟩; obtain ⟨lo, hlo⟩ : ∃ lo, N % 18446744073709551616 = lo := ⟨_, rfl⟩
 have eHi : (A : Int) / 4294967296 = (hi : Int) := by omega
 have eLo : IntKind.u64.wrap ((A : Int) * 4294967296) = (lo : Int) := by rw [u64wrap]; omega
 have hN : N = hi * 18446744073709551616 + lo := by omega
 have hlol : lo < 18446744073709551616 := by omega
 have hhil : hi ≤ 2147483648 := by omega
 obtain ⟨k1, k2⟩ := quot_two _ hi lo d hd0 hN; have HHI := zz hhi; have HLO := zz hlo
 have dz0 : ¬ (d : Int) = 0 := by omega
 have dz1 : ¬ d = 0 := by omega
 have eq0 : IntKind.u64.wrap ((hi : Int) / (d : Int)) = ((hi / d : Nat) : Int) := by
  have e : (hi : Int) / (d : Int) = ((hi / d : Nat) : Int) := rfl; have := Nat.div_le_self hi d; rw [e, u64wrap]; generalize hi / d = x at this ⊢; omega
 have er0 : (hi : Int).tmod (d : Int) = ((hi % d : Nat) : Int) := rfl; have hh0 : hi / d ≤ 2147483648 := Nat.le_trans (Nat.div_le_self _ _) hhil; have hr0 : hi % d < d := Nat.mod_lt _ hd0; generalize hi / d = h0 at eq0 k1 hh0; generalize hi % d = r0 at er0 k1 k2 hr0; obtain ⟨Q, hQ⟩ : ∃ Q, (r0 * 18446744073709551616 + lo) / d = Q := ⟨_, rfl⟩; obtain ⟨R, hR⟩ : ∃ R, (r0 * 18446744073709551616 + lo) % d = R := ⟨_, rfl⟩; rw [hQ] at k1; rw [← k2, hR] at hu
 have hRd : R < d := by rw [← hR]; exact Nat.mod_lt _ hd0
 have hQl : Q < 18446744073709551616 := by
  rw [← hQ, Nat.div_lt_iff_lt_mul hd0]; have h3 : (r0 + 1) * 18446744073709551616 ≤ d * 18446744073709551616 := Nat.mul_le_mul_right _ hr0; rw [Nat.add_mul, Nat.one_mul] at h3; exact Nat.lt_of_lt_of_le (Nat.add_lt_add_left hlol _) (by rw [Nat.mul_comm 18446744073709551616]; exact h3)
 have HQ := zz hQ; have HR := zz hR; have HK1 := zz k1; clear hhi hlo hN hNe hQ hR k1 k2; go_wp2_with fail
 go_region
 go_wp2_with fail; refine (div64_any r0 lo d _ hr0 hlol (by omega)).mono ?_; rintro e w1 ⟨rfl, nq, rfl⟩; rw [HQ.out, HR.out]
 have hup : ¬ (d : Int) - (R : Int) ≤ (R : Int) := by omega
 have HW := zz (div_plain (N / d) Q h0 HK1.out); rw [Nat.add_zero, ← HW.out] at HE; clear hu; go_wp2_with fail; refine (bound_any false h0 Q _ (by omega) hQl).mono ?_; rintro e w1 ⟨rfl, hb⟩; rw [← HE.out, ← HF.out]; have HBL := zz (onward (B := w.heap.size) (a := w) (by repeat (first | exact Below.refl _ _ | refine Below.setCell ?_ (by simp) _ | refine below_drewN ?_ _ | refine Below.drew ?_ | refine Below.alloc ?_ (by simp) _)) (Nat.le_refl _) hb); obtain ⟨r, hr⟩ : ∃ r, fdiv a b = r := ⟨_, rfl⟩; have HRR := zz hr; rw [hr]; clear HE HF hb hr; go_wp2_with fail
 go_ret2
 exact ⟨by rw [HRR.out]; rfl, HBL.out⟩
set_option maxHeartbeats 1000000 in
theorem fixDiv_4 (a b : Int) (w : World) (h1 : a < 0) (h2 : 0 < b) (hu : b.natAbs < 2 * (a.natAbs * 4294967296 % b.natAbs)) (ha : -9223372036854775808 ≤ a ∧ a ≤ 9223372036854775807) (hb : -9223372036854775808 ≤ b ∧ b ≤ 9223372036854775807) :
  Calls Try.prog 81 #[.int .i64 a, .int .i64 b] w fun e w' => e = .returned (.tuple #[.int .i64 (fdiv a b).1, .bool (fdiv a b).2]) ∧ Below w.heap.size w w' := by
 have HF := zz (show fdiv a b = stop (nearest a b) by unfold fdiv; rw [if_neg (by omega)])
 have HE := zz (show nearest a b = sgd true (a.natAbs * 4294967296 / b.natAbs + 1) by rw [nearest_other (.inl ⟨h1, h2⟩), if_pos hu, sgd_neg])
 have HA := zz ha; have HB := zz hb
 have hb0 : (b == 0) = false := by rw [beq_eq_false_iff_ne]; omega
 have hAl : a.natAbs ≤ 9223372036854775808 := by omega
 have hdl : b.natAbs ≤ 9223372036854775808 := by omega
 have hd0 : 0 < b.natAbs := by omega
 have h2n : ¬ b < 0 := by omega
 clear ha hb h2
 go_enter Try.func81, Try.ntmps81
 go_wp2_with fail; refine (size_any b _ HB.out).mono ?_; rintro e w1 ⟨rfl, rfl⟩
 have h2m : decide (b < 0) = false := by simp; omega
 go_wp2_with fail; refine (size_any a _ HA.out).mono ?_; rintro e w1 ⟨rfl, rfl⟩; go_wp2_with fail; refine (size_any a _ HA.out).mono ?_; rintro e w1 ⟨rfl, rfl⟩; generalize a.natAbs = A at hAl hu HE ⊢; generalize b.natAbs = d at hdl hd0 hu HE ⊢; obtain ⟨N, hNe⟩ : ∃ N, A * 4294967296 = N := ⟨_, rfl⟩; rw [hNe] at hu HE; obtain ⟨hi, hhi⟩ : ∃ hi, A / 4294967296 = hi := ⟨_, rfl⟩; obtain ⟨lo, hlo⟩ : ∃ lo, N % 18446744073709551616 = lo := ⟨_, rfl⟩
 have eHi : (A : Int) / 4294967296 = (hi : Int) := by omega
 have eLo : IntKind.u64.wrap ((A : Int) * 4294967296) = (lo : Int) := by rw [u64wrap]; omega
 have hN : N = hi * 18446744073709551616 + lo := by omega
 have hlol : lo < 18446744073709551616 := by omega
 have hhil : hi ≤ 2147483648 := by omega
 obtain ⟨k1, k2⟩ := quot_two _ hi lo d hd0 hN; have HHI := zz hhi; have HLO := zz hlo
 have dz0 : ¬ (d : Int) = 0 := by omega
 have dz1 : ¬ d = 0 := by omega
 have eq0 : IntKind.u64.wrap ((hi : Int) / (d : Int)) = ((hi / d : Nat) : Int) := by
  have e : (hi : Int) / (d : Int) = ((hi / d : Nat) : Int) := rfl; have := Nat.div_le_self hi d; rw [e, u64wrap]; generalize hi / d = x at this ⊢; omega
 have er0 : (hi : Int).tmod (d : Int) = ((hi % d : Nat) : Int) := rfl; have hh0 : hi / d ≤ 2147483648 := Nat.le_trans (Nat.div_le_self _ _) hhil; have hr0 : hi % d < d := Nat.mod_lt _ hd0; generalize hi / d = h0 at eq0 k1 hh0; generalize hi % d = r0 at er0 k1 k2 hr0; obtain ⟨Q, hQ⟩ : ∃ Q, (r0 * 18446744073709551616 + lo) / d = Q := ⟨_, rfl⟩; obtain ⟨R, hR⟩ : ∃ R, (r0 * 18446744073709551616 + lo) % d = R := ⟨_, rfl⟩; rw [hQ] at k1; rw [← k2, hR] at hu
 have hRd : R < d := by rw [← hR]; exact Nat.mod_lt _ hd0
 have hQl : Q < 18446744073709551616 := by
  rw [← hQ, Nat.div_lt_iff_lt_mul hd0]; have h3 : (r0 + 1) * 18446744073709551616 ≤ d * 18446744073709551616 := Nat.mul_le_mul_right _ hr0; rw [Nat.add_mul, Nat.one_mul] at h3; exact Nat.lt_of_lt_of_le (Nat.add_lt_add_left hlol _) (by rw [Nat.mul_comm 18446744073709551616]; exact h3)
 have HQ := zz hQ; have HR := zz hR; have HK1 := zz k1; clear hhi hlo hN hNe hQ hR k1 k2; go_wp2_with fail
 go_region
 go_wp2_with fail; refine (div64_any r0 lo d _ hr0 hlol (by omega)).mono ?_; rintro e w1 ⟨rfl, nq, rfl⟩; rw [HQ.out, HR.out]
 have hup : (d : Int) - (R : Int) < (R : Int) := by omega
 have HAdd := fun w => add64_at Q 1 1 (by omega) w; obtain ⟨C, hC⟩ : ∃ C, (Q + 1) / 18446744073709551616 = C := ⟨_, rfl⟩; obtain ⟨L1, hL⟩ : ∃ L1, (Q + 1) % 18446744073709551616 = L1 := ⟨_, rfl⟩; rw [hC, hL] at HAdd; have HW := zz (div_carry (N / d) Q h0 C L1 HK1.out hC hL)
 have hCl : C ≤ 1 := by omega
 have hL1 : L1 < 18446744073709551616 := by omega
 clear hC hL hu; rw [← HW.out] at HE; go_wp2_with fail; refine (bound_any true (h0 + C) L1 _ (by omega) hL1).mono ?_; rintro e w1 ⟨rfl, hb⟩; rw [← HE.out, ← HF.out]; have HBL := zz (onward (B := w.heap.size) (a := w) (by repeat (first | exact Below.refl _ _ | refine Below.setCell ?_ (by simp) _ | refine below_drewN ?_ _ | refine Below.drew ?_ | refine Below.alloc ?_ (by simp) _)) (Nat.le_refl _) hb); obtain ⟨r, hr⟩ : ∃ r, fdiv a b = r := ⟨_, rfl⟩; have HRR := zz hr; rw [hr]; clear HE HF hb hr; go_wp2_with fail
 go_ret2
 exact ⟨by rw [HRR.out]; rfl, HBL.out⟩
set_option maxHeartbeats 1000000 in
theorem fixDiv_5 (a b : Int) (w : World) (h1 : a < 0) (h2 : 0 < b) (hu : ¬ b.natAbs < 2 * (a.natAbs * 4294967296 % b.natAbs)) (ha : -9223372036854775808 ≤ a ∧ a ≤ 9223372036854775807) (hb : -9223372036854775808 ≤ b ∧ b ≤ 9223372036854775807) :
  Calls Try.prog 81 #[.int .i64 a, .int .i64 b] w fun e w' => e = .returned (.tuple #[.int .i64 (fdiv a b).1, .bool (fdiv a b).2]) ∧ Below w.heap.size w w' := by
 have HF := zz (show fdiv a b = stop (nearest a b) by unfold fdiv; rw [if_neg (by omega)])
 have HE := zz (show nearest a b = sgd true (a.natAbs * 4294967296 / b.natAbs + 0) by rw [nearest_other (.inl ⟨h1, h2⟩), if_neg hu, sgd_neg])
 have HA := zz ha; have HB := zz hb
 have hb0 : (b == 0) = false := by rw [beq_eq_false_iff_ne]; omega
 have hAl : a.natAbs ≤ 9223372036854775808 := by omega
 have hdl : b.natAbs ≤ 9223372036854775808 := by omega
 have hd0 : 0 < b.natAbs := by omega
 have h2n : ¬ b < 0 := by omega
 clear ha hb h2
 go_enter Try.func81, Try.ntmps81
 go_wp2_with fail; refine (size_any b _ HB.out).mono ?_; rintro e w1 ⟨rfl, rfl⟩
 have h2m : decide (b < 0) = false := by simp; omega
 go_wp2_with fail; refine (size_any a _ HA.out).mono ?_; rintro e w1 ⟨rfl, rfl⟩; go_wp2_with fail; refine (size_any a _ HA.out).mono ?_; rintro e w1 ⟨rfl, rfl⟩; generalize a.natAbs = A at hAl hu HE ⊢; generalize b.natAbs = d at hdl hd0 hu HE ⊢; obtain ⟨N, hNe⟩ : ∃ N, A * 4294967296 = N := ⟨_, rfl⟩; rw [hNe] at hu HE; obtain ⟨hi, hhi⟩ : ∃ hi, A / 4294967296 = hi := ⟨_, rfl⟩; obtain ⟨lo, hlo⟩ : ∃ lo, N % 18446744073709551616 = lo := ⟨_, rfl⟩
 have eHi : (A : Int) / 4294967296 = (hi : Int) := by omega
 have eLo : IntKind.u64.wrap ((A : Int) * 4294967296) = (lo : Int) := by rw [u64wrap]; omega
 have hN : N = hi * 18446744073709551616 + lo := by omega
 have hlol : lo < 18446744073709551616 := by omega
 have hhil : hi ≤ 2147483648 := by omega
 obtain ⟨k1, k2⟩ := quot_two _ hi lo d hd0 hN; have HHI := zz hhi; have HLO := zz hlo
 have dz0 : ¬ (d : Int) = 0 := by omega
 have dz1 : ¬ d = 0 := by omega
 have eq0 : IntKind.u64.wrap ((hi : Int) / (d : Int)) = ((hi / d : Nat) : Int) := by
  have e : (hi : Int) / (d : Int) = ((hi / d : Nat) : Int) := rfl; have := Nat.div_le_self hi d; rw [e, u64wrap]; generalize hi / d = x at this ⊢; omega
 have er0 : (hi : Int).tmod (d : Int) = ((hi % d : Nat) : Int) := rfl; have hh0 : hi / d ≤ 2147483648 := Nat.le_trans (Nat.div_le_self _ _) hhil; have hr0 : hi % d < d := Nat.mod_lt _ hd0; generalize hi / d = h0 at eq0 k1 hh0; generalize hi % d = r0 at er0 k1 k2 hr0; obtain ⟨Q, hQ⟩ : ∃ Q, (r0 * 18446744073709551616 + lo) / d = Q := ⟨_, rfl⟩; obtain ⟨R, hR⟩ : ∃ R, (r0 * 18446744073709551616 + lo) % d = R := ⟨_, rfl⟩; rw [hQ] at k1; rw [← k2, hR] at hu
 have hRd : R < d := by rw [← hR]; exact Nat.mod_lt _ hd0
 have hQl : Q < 18446744073709551616 := by
  rw [← hQ, Nat.div_lt_iff_lt_mul hd0]; have h3 : (r0 + 1) * 18446744073709551616 ≤ d * 18446744073709551616 := Nat.mul_le_mul_right _ hr0; rw [Nat.add_mul, Nat.one_mul] at h3; exact Nat.lt_of_lt_of_le (Nat.add_lt_add_left hlol _) (by rw [Nat.mul_comm 18446744073709551616]; exact h3)
 have HQ := zz hQ; have HR := zz hR; have HK1 := zz k1; clear hhi hlo hN hNe hQ hR k1 k2; go_wp2_with fail
 go_region
 go_wp2_with fail; refine (div64_any r0 lo d _ hr0 hlol (by omega)).mono ?_; rintro e w1 ⟨rfl, nq, rfl⟩; rw [HQ.out, HR.out]
 have hup : ¬ (d : Int) - (R : Int) < (R : Int) := by omega
 have HW := zz (div_plain (N / d) Q h0 HK1.out); rw [Nat.add_zero, ← HW.out] at HE; clear hu; go_wp2_with fail; refine (bound_any true h0 Q _ (by omega) hQl).mono ?_; rintro e w1 ⟨rfl, hb⟩; rw [← HE.out, ← HF.out]; have HBL := zz (onward (B := w.heap.size) (a := w) (by repeat (first | exact Below.refl _ _ | refine Below.setCell ?_ (by simp) _ | refine below_drewN ?_ _ | refine Below.drew ?_ | refine Below.alloc ?_ (by simp) _)) (Nat.le_refl _) hb); obtain ⟨r, hr⟩ : ∃ r, fdiv a b = r := ⟨_, rfl⟩; have HRR := zz hr; rw [hr]; clear HE HF hb hr; go_wp2_with fail
 go_ret2
 exact ⟨by rw [HRR.out]; rfl, HBL.out⟩
set_option maxHeartbeats 1000000 in
theorem fixDiv_6 (a b : Int) (w : World) (h1 : 0 ≤ a) (h2 : b < 0) (hu : b.natAbs < 2 * (a.natAbs * 4294967296 % b.natAbs)) (ha : -9223372036854775808 ≤ a ∧ a ≤ 9223372036854775807) (hb : -9223372036854775808 ≤ b ∧ b ≤ 9223372036854775807) :
  Calls Try.prog 81 #[.int .i64 a, .int .i64 b] w fun e w' => e = .returned (.tuple #[.int .i64 (fdiv a b).1, .bool (fdiv a b).2]) ∧ Below w.heap.size w w' := by
 have HF := zz (show fdiv a b = stop (nearest a b) by unfold fdiv; rw [if_neg (by omega)])
 have HE := zz (show nearest a b = sgd true (a.natAbs * 4294967296 / b.natAbs + 1) by rw [nearest_other (.inr ⟨h1, h2⟩), if_pos hu, sgd_neg])
 have HA := zz ha; have HB := zz hb
 have hb0 : (b == 0) = false := by rw [beq_eq_false_iff_ne]; omega
 have hAl : a.natAbs ≤ 9223372036854775808 := by omega
 have hdl : b.natAbs ≤ 9223372036854775808 := by omega
 have hd0 : 0 < b.natAbs := by omega
 have h1n : ¬ a < 0 := by omega
 clear ha hb h1 
 go_enter Try.func81, Try.ntmps81
 go_wp2_with fail; refine (size_any b _ HB.out).mono ?_; rintro e w1 ⟨rfl, rfl⟩
 have h1m : decide (a < 0) = false := by simp; omega
 go_wp2_with fail; refine (size_any a _ HA.out).mono ?_; rintro e w1 ⟨rfl, rfl⟩; go_wp2_with fail; refine (size_any a _ HA.out).mono ?_; rintro e w1 ⟨rfl, rfl⟩; generalize a.natAbs = A at hAl hu HE ⊢; generalize b.natAbs = d at hdl hd0 hu HE ⊢; obtain ⟨N, hNe⟩ : ∃ N, A * 4294967296 = N := ⟨_, rfl⟩; rw [hNe] at hu HE; obtain ⟨hi, hhi⟩ : ∃ hi, A / 4294967296 = hi := ⟨_, rfl⟩; obtain ⟨lo, hlo⟩ : ∃ lo, N % 18446744073709551616 = lo := ⟨_, rfl⟩
 have eHi : (A : Int) / 4294967296 = (hi : Int) := by omega
 have eLo : IntKind.u64.wrap ((A : Int) * 4294967296) = (lo : Int) := by rw [u64wrap]; omega
 have hN : N = hi * 18446744073709551616 + lo := by omega
 have hlol : lo < 18446744073709551616 := by omega
 have hhil : hi ≤ 2147483648 := by omega
 obtain ⟨k1, k2⟩ := quot_two _ hi lo d hd0 hN; have HHI := zz hhi; have HLO := zz hlo
 have dz0 : ¬ (d : Int) = 0 := by omega
 have dz1 : ¬ d = 0 := by omega
 have eq0 : IntKind.u64.wrap ((hi : Int) / (d : Int)) = ((hi / d : Nat) : Int) := by
  have e : (hi : Int) / (d : Int) = ((hi / d : Nat) : Int) := rfl; have := Nat.div_le_self hi d; rw [e, u64wrap]; generalize hi / d = x at this ⊢; omega
 have er0 : (hi : Int).tmod (d : Int) = ((hi % d : Nat) : Int) := rfl; have hh0 : hi / d ≤ 2147483648 := Nat.le_trans (Nat.div_le_self _ _) hhil; have hr0 : hi % d < d := Nat.mod_lt _ hd0; generalize hi / d = h0 at eq0 k1 hh0; generalize hi % d = r0 at er0 k1 k2 hr0; obtain ⟨Q, hQ⟩ : ∃ Q, (r0 * 18446744073709551616 + lo) / d = Q := ⟨_, rfl⟩; obtain ⟨R, hR⟩ : ∃ R, (r0 * 18446744073709551616 + lo) % d = R := ⟨_, rfl⟩; rw [hQ] at k1; rw [← k2, hR] at hu
 have hRd : R < d := by rw [← hR]; exact Nat.mod_lt _ hd0
 have hQl : Q < 18446744073709551616 := by
  rw [← hQ, Nat.div_lt_iff_lt_mul hd0]; have h3 : (r0 + 1) * 18446744073709551616 ≤ d * 18446744073709551616 := Nat.mul_le_mul_right _ hr0; rw [Nat.add_mul, Nat.one_mul] at h3; exact Nat.lt_of_lt_of_le (Nat.add_lt_add_left hlol _) (by rw [Nat.mul_comm 18446744073709551616]; exact h3)
 have HQ := zz hQ; have HR := zz hR; have HK1 := zz k1; clear hhi hlo hN hNe hQ hR k1 k2; go_wp2_with fail
 go_region
 go_wp2_with fail; refine (div64_any r0 lo d _ hr0 hlol (by omega)).mono ?_; rintro e w1 ⟨rfl, nq, rfl⟩; rw [HQ.out, HR.out]
 have hup : (d : Int) - (R : Int) < (R : Int) := by omega
 have HAdd := fun w => add64_at Q 1 1 (by omega) w; obtain ⟨C, hC⟩ : ∃ C, (Q + 1) / 18446744073709551616 = C := ⟨_, rfl⟩; obtain ⟨L1, hL⟩ : ∃ L1, (Q + 1) % 18446744073709551616 = L1 := ⟨_, rfl⟩; rw [hC, hL] at HAdd; have HW := zz (div_carry (N / d) Q h0 C L1 HK1.out hC hL)
 have hCl : C ≤ 1 := by omega
 have hL1 : L1 < 18446744073709551616 := by omega
 clear hC hL hu; rw [← HW.out] at HE; go_wp2_with fail; refine (bound_any true (h0 + C) L1 _ (by omega) hL1).mono ?_; rintro e w1 ⟨rfl, hb⟩; rw [← HE.out, ← HF.out]; have HBL := zz (onward (B := w.heap.size) (a := w) (by repeat (first | exact Below.refl _ _ | refine Below.setCell ?_ (by simp) _ | refine below_drewN ?_ _ | refine Below.drew ?_ | refine Below.alloc ?_ (by simp) _)) (Nat.le_refl _) hb); obtain ⟨r, hr⟩ : ∃ r, fdiv a b = r := ⟨_, rfl⟩; have HRR := zz hr; rw [hr]; clear HE HF hb hr; go_wp2_with fail
 go_ret2
 exact ⟨by rw [HRR.out]; rfl, HBL.out⟩
set_option maxHeartbeats 1000000 in
theorem fixDiv_7 (a b : Int) (w : World) (h1 : 0 ≤ a) (h2 : b < 0) (hu : ¬ b.natAbs < 2 * (a.natAbs * 4294967296 % b.natAbs)) (ha : -9223372036854775808 ≤ a ∧ a ≤ 9223372036854775807) (hb : -9223372036854775808 ≤ b ∧ b ≤ 9223372036854775807) :
  Calls Try.prog 81 #[.int .i64 a, .int .i64 b] w fun e w' => e = .returned (.tuple #[.int .i64 (fdiv a b).1, .bool (fdiv a b).2]) ∧ Below w.heap.size w w' := by
 have HF := zz (show fdiv a b = stop (nearest a b) by unfold fdiv; rw [if_neg (by omega)])
 have HE := zz (show nearest a b = sgd true (a.natAbs * 4294967296 / b.natAbs + 0) by rw [nearest_other (.inr ⟨h1, h2⟩), if_neg hu, sgd_neg])
 have HA := zz ha; have HB := zz hb
 have hb0 : (b == 0) = false := by rw [beq_eq_false_iff_ne]; omega
 have hAl : a.natAbs ≤ 9223372036854775808 := by omega
 have hdl : b.natAbs ≤ 9223372036854775808 := by omega
 have hd0 : 0 < b.natAbs := by omega
 have h1n : ¬ a < 0 := by omega
 clear ha hb h1 
 go_enter Try.func81, Try.ntmps81
 go_wp2_with fail; refine (size_any b _ HB.out).mono ?_; rintro e w1 ⟨rfl, rfl⟩
 have h1m : decide (a < 0) = false := by simp; omega
 go_wp2_with fail; refine (size_any a _ HA.out).mono ?_; rintro e w1 ⟨rfl, rfl⟩; go_wp2_with fail; refine (size_any a _ HA.out).mono ?_; rintro e w1 ⟨rfl, rfl⟩; generalize a.natAbs = A at hAl hu HE ⊢; generalize b.natAbs = d at hdl hd0 hu HE ⊢; obtain ⟨N, hNe⟩ : ∃ N, A * 4294967296 = N := ⟨_, rfl⟩; rw [hNe] at hu HE; obtain ⟨hi, hhi⟩ : ∃ hi, A / 4294967296 = hi := ⟨_, rfl⟩; obtain ⟨lo, hlo⟩ : ∃ lo, N % 18446744073709551616 = lo := ⟨_, rfl⟩
 have eHi : (A : Int) / 4294967296 = (hi : Int) := by omega
 have eLo : IntKind.u64.wrap ((A : Int) * 4294967296) = (lo : Int) := by rw [u64wrap]; omega
 have hN : N = hi * 18446744073709551616 + lo := by omega
 have hlol : lo < 18446744073709551616 := by omega
 have hhil : hi ≤ 2147483648 := by omega
 obtain ⟨k1, k2⟩ := quot_two _ hi lo d hd0 hN; have HHI := zz hhi; have HLO := zz hlo
 have dz0 : ¬ (d : Int) = 0 := by omega
 have dz1 : ¬ d = 0 := by omega
 have eq0 : IntKind.u64.wrap ((hi : Int) / (d : Int)) = ((hi / d : Nat) : Int) := by
  have e : (hi : Int) / (d : Int) = ((hi / d : Nat) : Int) := rfl; have := Nat.div_le_self hi d; rw [e, u64wrap]; generalize hi / d = x at this ⊢; omega
 have er0 : (hi : Int).tmod (d : Int) = ((hi % d : Nat) : Int) := rfl; have hh0 : hi / d ≤ 2147483648 := Nat.le_trans (Nat.div_le_self _ _) hhil; have hr0 : hi % d < d := Nat.mod_lt _ hd0; generalize hi / d = h0 at eq0 k1 hh0; generalize hi % d = r0 at er0 k1 k2 hr0; obtain ⟨Q, hQ⟩ : ∃ Q, (r0 * 18446744073709551616 + lo) / d = Q := ⟨_, rfl⟩; obtain ⟨R, hR⟩ : ∃ R, (r0 * 18446744073709551616 + lo) % d = R := ⟨_, rfl⟩; rw [hQ] at k1; rw [← k2, hR] at hu
 have hRd : R < d := by rw [← hR]; exact Nat.mod_lt _ hd0
 have hQl : Q < 18446744073709551616 := by
  rw [← hQ, Nat.div_lt_iff_lt_mul hd0]; have h3 : (r0 + 1) * 18446744073709551616 ≤ d * 18446744073709551616 := Nat.mul_le_mul_right _ hr0; rw [Nat.add_mul, Nat.one_mul] at h3; exact Nat.lt_of_lt_of_le (Nat.add_lt_add_left hlol _) (by rw [Nat.mul_comm 18446744073709551616]; exact h3)
 have HQ := zz hQ; have HR := zz hR; have HK1 := zz k1; clear hhi hlo hN hNe hQ hR k1 k2; go_wp2_with fail
 go_region
 go_wp2_with fail; refine (div64_any r0 lo d _ hr0 hlol (by omega)).mono ?_; rintro e w1 ⟨rfl, nq, rfl⟩; rw [HQ.out, HR.out]
 have hup : ¬ (d : Int) - (R : Int) < (R : Int) := by omega
 have HW := zz (div_plain (N / d) Q h0 HK1.out); rw [Nat.add_zero, ← HW.out] at HE; clear hu; go_wp2_with fail; refine (bound_any true h0 Q _ (by omega) hQl).mono ?_; rintro e w1 ⟨rfl, hb⟩; rw [← HE.out, ← HF.out]; have HBL := zz (onward (B := w.heap.size) (a := w) (by repeat (first | exact Below.refl _ _ | refine Below.setCell ?_ (by simp) _ | refine below_drewN ?_ _ | refine Below.drew ?_ | refine Below.alloc ?_ (by simp) _)) (Nat.le_refl _) hb); obtain ⟨r, hr⟩ : ∃ r, fdiv a b = r := ⟨_, rfl⟩; have HRR := zz hr; rw [hr]; clear HE HF hb hr; go_wp2_with fail
 go_ret2
 exact ⟨by rw [HRR.out]; rfl, HBL.out⟩
theorem fixDiv_any (a b : Int) (w : World) (ha : -9223372036854775808 ≤ a ∧ a ≤ 9223372036854775807) (hb : -9223372036854775808 ≤ b ∧ b ≤ 9223372036854775807) :
  Calls Try.prog 81 #[.int .i64 a, .int .i64 b] w fun e w' => e = .returned (.tuple #[.int .i64 (fdiv a b).1, .bool (fdiv a b).2]) ∧ Below w.heap.size w w' := by
 by_cases h0 : b = 0
 ·
  subst h0
  rcases Int.lt_trichotomy a 0 with h | h | h
  ·
   have HF := zz (show fdiv a 0 = (-9223372036854775808, true) by unfold fdiv; rw [if_pos rfl, if_neg (by omega), if_pos h])
   clear ha hb
   go_enter Try.func81, Try.ntmps81
   go_wp2_with fail
   go_ret2
   exact ⟨by rw [HF.out]; rfl, Below.refl _ _⟩
  ·
   subst h
   have HF := zz (show fdiv 0 0 = (0, true) by unfold fdiv; rw [if_pos rfl, if_neg (by omega), if_neg (by omega)])
   clear ha hb
   go_enter Try.func81, Try.ntmps81
   go_wp2_with fail
   go_ret2
   exact ⟨by rw [HF.out]; rfl, Below.refl _ _⟩
  ·
   have HF := zz (show fdiv a 0 = (9223372036854775807, true) by unfold fdiv; rw [if_pos rfl, if_pos h])
   clear ha hb
   go_enter Try.func81, Try.ntmps81
   go_wp2_with fail
   go_ret2
   exact ⟨by rw [HF.out]; rfl, Below.refl _ _⟩
 ·
  rcases Int.lt_or_le a 0 with h1 | h1 <;> rcases Int.lt_or_lt_of_ne h0 with h2 | h2
  ·
   by_cases hu : b.natAbs ≤ 2 * (a.natAbs * 4294967296 % b.natAbs)
   · exact fixDiv_0 a b w h1 h2 hu ha hb
   · exact fixDiv_1 a b w h1 h2 hu ha hb
  ·
   by_cases hu : b.natAbs < 2 * (a.natAbs * 4294967296 % b.natAbs)
   · exact fixDiv_4 a b w h1 h2 hu ha hb
   · exact fixDiv_5 a b w h1 h2 hu ha hb
  ·
   by_cases hu : b.natAbs < 2 * (a.natAbs * 4294967296 % b.natAbs)
   · exact fixDiv_6 a b w h1 h2 hu ha hb
   · exact fixDiv_7 a b w h1 h2 hu ha hb
  ·
   by_cases hu : b.natAbs ≤ 2 * (a.natAbs * 4294967296 % b.natAbs)
   · exact fixDiv_2 a b w h1 h2 hu ha hb
   · exact fixDiv_3 a b w h1 h2 hu ha hb
end BigW
namespace BigW
open Go.RowKit Mem BigLaw
theorem fdiv_range (a b : Int) : In64 (fdiv a b).1 := by
 unfold fdiv
 split
 ·
  split
  · unfold In64; omega
  · split <;> (unfold In64; omega)
 · exact stop_range _
end BigW
namespace BigW
open Go.RowKit Mem BigLaw
structure St where
 X : Int
 V : Int
 P00 : Int
 P01 : Int
 P11 : Int
 bent : Bool
 missed : Int
def stC (s : St) : Array Value := #[.int .i64 s.X, .int .i64 s.V, .int .i64 s.P00, .int .i64 s.P01, .int .i64 s.P11, .bool s.bent, .int .i64 s.missed]
def StAt (w : World) (g : Nat) (s : St) : Prop := Blk w g 33 (stC s)
def Handd (w w' : World) (g : Nat) (s : St) (r : Int × Bool) (e : Ending) : Prop :=
 e = .returned (.int .i64 r.1) ∧ StAt w' g { s with bent := s.bent || r.2 } ∧ w.grownBy w' (some g)
theorem StAt.below {w w' : World} {g : Nat} {s : St} (h : StAt w g s) (hb : Below w.heap.size w w') : StAt w' g s := Blk.below h hb (Blk.lt h)
theorem grown_one {w w' : World} {g : Nat} {row : Nat} (h : w.grownBy w' (some row)) (hg : g < w.heap.size) (hne : g ≠ row) : ∀ o, w'.cell? ⟨g, o, none⟩ = w.cell? ⟨g, o, none⟩ := fun o => World.cell?_of_block (h.block g hg (fun e => hne (by injection e)))
theorem hsee_any (g : Nat) (s : St) (n : Int) (b : Bool) (w : World) (h : StAt w g s) :
  Calls Try.prog 77 #[.agg #[.pointer (some ⟨g, 0, none⟩)], .int .i64 n, .bool b] w fun e w' => Handd w w' g s (n, b) e := by
 obtain ⟨X, V, P00, P01, P11, bent, missed⟩ := s; have c5 := Blk.cell h 5; have f5 := Blk.thaw h 5; simp only [stC, List.getElem?_toArray, List.getElem?_cons_zero, List.getElem?_cons_succ] at c5; have HB := zz h; have hgl := Blk.lt h; clear h
 cases bent <;> cases b
 all_goals
  go_enter Try.func77, Try.ntmps77
  go_wp2_with fail
  go_region
  go_wp2_with fail
  go_ret
  exact ⟨rfl, ((Blk.set HB.out 5 _).alloc _).drew, (grown_setCell _ _ _ _).trans (grown_of_below (((Below.refl _ _).alloc (Nat.le_refl _) _).drew))⟩
theorem hadd_any (g : Nat) (s : St) (a b : Int) (w : World) (h : StAt w g s) (ha : In64 a) (hb : In64 b) :
  Calls Try.prog 69 #[.agg #[.pointer (some ⟨g, 0, none⟩)], .int .i64 a, .int .i64 b] w fun e w' => Handd w w' g s (fadd a b) e := by
 have hA : Below w.heap.size w (w.alloc (.cells #[.pointer (some ⟨g, 0, none⟩)] 143)).drew := ((Below.refl _ _).alloc (Nat.le_refl _) _).drew; have HB := zz (h.below hA); have hgl := Blk.lt h
 have hs : w.heap.size + 1 ≤ (w.alloc (.cells #[.pointer (some ⟨g, 0, none⟩)] 143)).drew.heap.size := by simp
 have HAA := zz hA; have HA := zz ha; have HC := zz hb; clear h ha hb hA
 go_enter Try.func69, Try.ntmps69
 go_wp2_with fail
 go_region_held3 (fun w' => w'.cell? ⟨w.heap.size, 0, none⟩ = some (.pointer (some ⟨g, 0, none⟩))) (go_keep) (first
  | (go_at_call 79; refine (fixAdd_any a b _ HA.out HC.out).mono ?_; rintro e w1 ⟨rfl, rfl⟩)
  | (go_at_call 77; refine (hsee_any g s (stop (a + b)).1 (stop (a + b)).2 _ HB.out).mono ?_; rintro e w2 ⟨rfl, hbe, hg⟩; have hk0 := grown_one hg (g := w.heap.size) (by omega) (by omega) 0))
 have HBE := zz hbe; have HG := zz ((grown_of_below HAA.out).trans hg); clear hbe hg hs hk0; go_wp2_with fail
 go_ret
 exact ⟨rfl, HBE.out, HG.out⟩
theorem hsub_any (g : Nat) (s : St) (a b : Int) (w : World) (h : StAt w g s) (ha : In64 a) (hb : In64 b) :
  Calls Try.prog 68 #[.agg #[.pointer (some ⟨g, 0, none⟩)], .int .i64 a, .int .i64 b] w fun e w' => Handd w w' g s (fsub a b) e := by
 have hA : Below w.heap.size w (w.alloc (.cells #[.pointer (some ⟨g, 0, none⟩)] 143)).drew := ((Below.refl _ _).alloc (Nat.le_refl _) _).drew; have HB := zz (h.below hA); have hgl := Blk.lt h
 have hs : w.heap.size + 1 ≤ (w.alloc (.cells #[.pointer (some ⟨g, 0, none⟩)] 143)).drew.heap.size := by simp
 have HAA := zz hA; have HA := zz ha; have HC := zz hb; clear h ha hb hA
 go_enter Try.func68, Try.ntmps68
 go_wp2_with fail
 go_region_held3 (fun w' => w'.cell? ⟨w.heap.size, 0, none⟩ = some (.pointer (some ⟨g, 0, none⟩))) (go_keep) (first
  | (go_at_call 78; refine (fixSub_any a b _ HA.out HC.out).mono ?_; rintro e w1 ⟨rfl, rfl⟩)
  | (go_at_call 77; refine (hsee_any g s (stop (a - b)).1 (stop (a - b)).2 _ HB.out).mono ?_; rintro e w2 ⟨rfl, hbe, hg⟩; have hk0 := grown_one hg (g := w.heap.size) (by omega) (by omega) 0))
 have HBE := zz hbe; have HG := zz ((grown_of_below HAA.out).trans hg); clear hbe hg hs hk0; go_wp2_with fail
 go_ret
 exact ⟨rfl, HBE.out, HG.out⟩
theorem hmul_any (g : Nat) (s : St) (a b : Int) (w : World) (h : StAt w g s) (ha : In64 a) (hb : In64 b) :
  Calls Try.prog 70 #[.agg #[.pointer (some ⟨g, 0, none⟩)], .int .i64 a, .int .i64 b] w fun e w' => Handd w w' g s (fmul a b) e := by
 have hA : Below w.heap.size w (w.alloc (.cells #[.pointer (some ⟨g, 0, none⟩)] 143)).drew := ((Below.refl _ _).alloc (Nat.le_refl _) _).drew; have HB := zz (h.below hA); have hgl := Blk.lt h
 have hs : w.heap.size + 1 ≤ (w.alloc (.cells #[.pointer (some ⟨g, 0, none⟩)] 143)).drew.heap.size := by simp
 have HAA := zz hA; have HA := zz ha; have HC := zz hb; clear h ha hb hA
 go_enter Try.func70, Try.ntmps70
 go_wp2_with fail
 go_region_held3 (fun w' => w'.cell? ⟨w.heap.size, 0, none⟩ = some (.pointer (some ⟨g, 0, none⟩))) (go_keep) (first
  | (go_at_call 80; refine (fixMul_any a b _ HA.out HC.out).mono ?_; rintro e w1 ⟨rfl, hb1⟩; have hk0 := below_cell hb1 w.heap.size 0 (by simp); have hs := Nat.le_trans hs hb1.size; have HB := zz (HB.out.below hb1); have HAA := zz (onward HAA.out (Nat.le_refl _) hb1))
  | (go_at_call 77; refine (hsee_any g s (fmul a b).1 (fmul a b).2 _ HB.out).mono ?_; rintro e w2 ⟨rfl, hbe, hg⟩; have hk0 := grown_one hg (g := w.heap.size) (by omega) (by omega) 0))
 have HBE := zz hbe; have HG := zz ((grown_of_below HAA.out).trans hg); clear hbe hg hs hk0; go_wp2_with fail
 go_ret
 exact ⟨rfl, HBE.out, HG.out⟩
theorem hdiv_any (g : Nat) (s : St) (a b : Int) (w : World) (h : StAt w g s) (ha : In64 a) (hb : In64 b) :
  Calls Try.prog 71 #[.agg #[.pointer (some ⟨g, 0, none⟩)], .int .i64 a, .int .i64 b] w fun e w' => Handd w w' g s (fdiv a b) e := by
 have hA : Below w.heap.size w (w.alloc (.cells #[.pointer (some ⟨g, 0, none⟩)] 143)).drew := ((Below.refl _ _).alloc (Nat.le_refl _) _).drew; have HB := zz (h.below hA); have hgl := Blk.lt h
 have hs : w.heap.size + 1 ≤ (w.alloc (.cells #[.pointer (some ⟨g, 0, none⟩)] 143)).drew.heap.size := by simp
 have HAA := zz hA; have HA := zz ha; have HC := zz hb; clear h ha hb hA
 go_enter Try.func71, Try.ntmps71
 go_wp2_with fail
 go_region_held3 (fun w' => w'.cell? ⟨w.heap.size, 0, none⟩ = some (.pointer (some ⟨g, 0, none⟩))) (go_keep) (first
  | (go_at_call 81; refine (fixDiv_any a b _ HA.out HC.out).mono ?_; rintro e w1 ⟨rfl, hb1⟩; have hk0 := below_cell hb1 w.heap.size 0 (by simp); have hs := Nat.le_trans hs hb1.size; have HB := zz (HB.out.below hb1); have HAA := zz (onward HAA.out (Nat.le_refl _) hb1))
  | (go_at_call 77; refine (hsee_any g s (fdiv a b).1 (fdiv a b).2 _ HB.out).mono ?_; rintro e w2 ⟨rfl, hbe, hg⟩; have hk0 := grown_one hg (g := w.heap.size) (by omega) (by omega) 0))
 have HBE := zz hbe; have HG := zz ((grown_of_below HAA.out).trans hg); clear hbe hg hs hk0; go_wp2_with fail
 go_ret
 exact ⟨rfl, HBE.out, HG.out⟩
end BigW
namespace Rg
section
variable {P : Program} {md : Region.Mode} {ops : Array Oper} {Q : Exit → Act → World → Prop} {reads : List Nat} {S : World → Prop}
theorem threeR {i j l : Nat} {oi oj ol : Oper} {fuel : Nat} {listed : Array Bool} {a : Act} {w : World} (hr : Region.ready md ops listed = [i, j, l]) (hi : ops[i]? = some oi) (hj : ops[j]? = some oj) (hl : ops[l]? = some ol)
  (h1 : StepR P md ops Q reads S fuel listed i oi a w) (h2 : StepR P md ops Q reads S fuel listed j oj a w) (h3 : StepR P md ops Q reads S fuel listed l ol a w) : wpAnyR P md ops Q reads S (fuel + 1) listed a w :=
 ⟨fun h0 => absurd (hr ▸ h0) (by simp), fun k hk => by
  rw [hr] at hk
  rcases List.mem_cons.1 hk with rfl | hk
  · exact wpOp_step hi fun K' hK => h1 K' fun a w' h1 h2 => hK a w' ⟨h1, h2⟩
  ·
   rcases List.mem_cons.1 hk with rfl | hk
   · exact wpOp_step hj fun K' hK => h2 K' fun a w' h1 h2 => hK a w' ⟨h1, h2⟩
   ·
    obtain rfl : k = l := by simpa using hk
    exact wpOp_step hl fun K' hK => h3 K' fun a w' h1 h2 => hK a w' ⟨h1, h2⟩⟩
end
end Rg
namespace BigW
open Go.RowKit Mem
theorem neq_of {r g : Nat} (h : r ≠ g) : some r ≠ some g := fun e => h (by injection e)
theorem exec_load_st {P : Program} {op : Oper} {a : Act} {w : World} (ty : TypeId) (x : Operand) (ho : op.op = .load ty x) (b : Nat) (hx : a.eval x = .pointer (some ⟨b, 0, none⟩)) {t : TypeId} {cs : Array Value} (h : Blk w b t cs)
  {d : TypeDesc} (hu : P.underlying ty = some d) (hd : (match d with | .struct _ | .array _ _ => true | _ => false) = true) (hi : (P.info? ty).map (·.size) = some cs.size) : (execOp a.eval op).run P w = .ok (.value (.agg cs)) w := by
 unfold execOp
 simp only [ho, hx, Instr.loadAt, Instr.sureAddr, Sem.run_bind, Sem.run_pure, Result.andThen_ok, run_loadVar_row w b t ty cs _ d h hu hd hi]
end BigW
namespace BigW
open Go.RowKit Mem BigLaw
theorem st_cells {w : World} {g : Nat} {X V P00 P01 P11 : Int} {b : Bool} {m : Int} (h : StAt w g ⟨X, V, P00, P01, P11, b, m⟩) :
  w.cell? ⟨g, 0, none⟩ = some (.int .i64 X) ∧ w.cell? ⟨g, 1, none⟩ = some (.int .i64 V) ∧ w.cell? ⟨g, 2, none⟩ = some (.int .i64 P00) ∧ w.cell? ⟨g, 3, none⟩ = some (.int .i64 P01) ∧ w.cell? ⟨g, 4, none⟩ = some (.int .i64 P11) ∧ w.cell? ⟨g, 5, none⟩ = some (.bool b) ∧ w.cell? ⟨g, 6, none⟩ = some (.int .i64 m) :=
 ⟨(Blk.cell h 0).trans rfl, (Blk.cell h 1).trans rfl, (Blk.cell h 2).trans rfl, (Blk.cell h 3).trans rfl, (Blk.cell h 4).trans rfl, (Blk.cell h 5).trans rfl, (Blk.cell h 6).trans rfl⟩
theorem st_thaws {w : World} {g : Nat} {s : St} (h : StAt w g s) :
  w.frozen? ⟨g, 0, none⟩ = false ∧ w.frozen? ⟨g, 1, none⟩ = false ∧ w.frozen? ⟨g, 2, none⟩ = false ∧ w.frozen? ⟨g, 3, none⟩ = false ∧ w.frozen? ⟨g, 4, none⟩ = false ∧ w.frozen? ⟨g, 5, none⟩ = false ∧ w.frozen? ⟨g, 6, none⟩ = false :=
 ⟨Blk.thaw h 0, Blk.thaw h 1, Blk.thaw h 2, Blk.thaw h 3, Blk.thaw h 4, Blk.thaw h 5, Blk.thaw h 6⟩
theorem one_cell {w : World} {g : Nat} {t : TypeId} {v : Value} (h : Blk w g t #[v]) : w.cell? ⟨g, 0, none⟩ = some v := (Blk.cell h 0).trans rfl
def predict (s : St) (dt q : Int) : St :=
 let t := fmul s.P01 dt
 let u := fmul s.P11 dt
 let m := fmul s.V dt
 let x := fadd s.X m.1
 let a := fadd s.P00 t.1
 let b := fadd a.1 t.1
 let c := fmul u.1 dt
 let d := fadd b.1 c.1
 let e := fadd s.P01 u.1
 let f := fadd s.P11 q
 { X := x.1, V := s.V, P00 := d.1, P01 := e.1, P11 := f.1, bent := s.bent || t.2 || u.2 || m.2 || x.2 || a.2 || b.2 || c.2 || d.2 || e.2 || f.2, missed := s.missed }
def update (s : St) (z r gate : Int) : St × Bool :=
 let y := fsub z s.X
 let w := fadd s.P00 r
 let yy := fmul y.1 y.1
 let gw := fmul gate w.1
 if w.1 ≤ 0 ∨ gw.1 < yy.1 then ({ s with missed := IntKind.i64.wrap (s.missed + 1) }, false)
 else
  let k := fdiv s.P00 w.1
  let l := fdiv s.P01 w.1
  let m1 := fmul k.1 y.1
  let x := fadd s.X m1.1
  let m2 := fmul l.1 y.1
  let v := fadd s.V m2.1
  let m3 := fmul k.1 s.P00
  let p00 := fsub s.P00 m3.1
  let m4 := fmul k.1 s.P01
  let p01 := fsub s.P01 m4.1
  let m5 := fmul l.1 s.P01
  let p11 := fsub s.P11 m5.1
  ({ X := x.1, V := v.1, P00 := p00.1, P01 := p01.1, P11 := p11.1, bent := s.bent || y.2 || w.2 || yy.2 || gw.2 || k.2 || l.2 || m1.2 || x.2 || m2.2 || v.2 || m3.2 || p00.2 || m4.2 || p01.2 || m5.2 || p11.2, missed := 0 }, true)
def StIn (s : St) : Prop := In64 s.X ∧ In64 s.V ∧ In64 s.P00 ∧ In64 s.P01 ∧ In64 s.P11
def stV (s : St) : Value := .agg (stC s)
def GaveSt (w w' : World) (s : St) (e : Ending) : Prop := e = .returned (stV s) ∧ Below w.heap.size w w'
def GaveSt2 (w w' : World) (r : St × Bool) (e : Ending) : Prop := e = .returned (.tuple #[stV r.1, .bool r.2]) ∧ Below w.heap.size w w'
theorem predict_in {s : St} (h : StIn s) (dt q : Int) : StIn (predict s dt q) := ⟨fadd_range _ _, h.2.1, fadd_range _ _, fadd_range _ _, fadd_range _ _⟩
theorem update_in {s : St} (h : StIn s) (z r gate : Int) : StIn (update s z r gate).1 := by
 unfold update
 dsimp only
 split
 · exact h
 · exact ⟨fadd_range _ _, fadd_range _ _, fsub_range _ _, fsub_range _ _, fsub_range _ _⟩
end BigW
end Go.Proofs.Ytobigbnmbnhikaa
