/- Contracts of fix.Mul and of the reference's Mul: the product and a half, rounded down, stopped. -/
import Derived.Test.YtejefecglioifaaFixW
import Derived.Test.YtejefecglioifaaBigMul
import Derived.Test.YtejefecglioifaaBigDiv
import Derived.Deep.DeepCutAuto
namespace Go.Proofs.Ytejefecglioifaa.BigW
open Go.RowKit Go.Proofs.Ytejefecglioifaa.Mem Go.Proofs.Ytejefecglioifaa.BigLaw
set_option linter.unusedVariables false

/-- P1.2 -/
def fmul (a b : Int) : Int × Bool := stop ((a * b + 2147483648) / 4294967296)

theorem mul_bd {a b : Int} (ha : -9223372036854775808 ≤ a ∧ a ≤ 9223372036854775807) (hb : -9223372036854775808 ≤ b ∧ b ≤ 9223372036854775807) : a.natAbs * b.natAbs ≤ 85070591730234615865843651857942052864 :=
  Nat.mul_le_mul (show a.natAbs ≤ 9223372036854775808 by omega) (show b.natAbs ≤ 9223372036854775808 by omega)
theorem mul_neg1 {a b : Int} (h : (a < 0 ∧ 0 ≤ b) ∨ (0 ≤ a ∧ b < 0)) : a * b = -((a.natAbs * b.natAbs : Nat) : Int) := by
  rw [Int.natCast_mul]
  rcases h with ⟨h1, h2⟩ | ⟨h1, h2⟩
  · rw [show (a.natAbs : Int) = -a by omega, show (b.natAbs : Int) = b by omega, Int.neg_mul, Int.neg_neg]
  · rw [show (a.natAbs : Int) = a by omega, show (b.natAbs : Int) = -b by omega, Int.mul_neg, Int.neg_neg]
theorem mul_pos1 {a b : Int} (h : (a < 0 ∧ b < 0) ∨ (0 ≤ a ∧ 0 ≤ b)) : a * b = ((a.natAbs * b.natAbs : Nat) : Int) := by
  rw [Int.natCast_mul]
  rcases h with ⟨h1, h2⟩ | ⟨h1, h2⟩
  · rw [show (a.natAbs : Int) = -a by omega, show (b.natAbs : Int) = -b by omega, Int.neg_mul_neg]
  · rw [show (a.natAbs : Int) = a by omega, show (b.natAbs : Int) = b by omega]

/-- two words put together -/
theorem or_halves (x y : Nat) (hx : x < 18446744073709551616) (hy : y < 4294967296) : bits .or .u64 ((x : Int) / 4294967296) ((y : Int) * 4294967296) = ((y * 4294967296 + x / 4294967296 : Nat) : Int) := by
  have h := or64 (x / 4294967296) y (by omega) hy
  have e : ((x / 4294967296 : Nat) : Int) = (x : Int) / 4294967296 := by omega
  rw [e] at h
  rw [h]
  omega

theorem mul_tail (P h : Nat) (hP : P ≤ 85070591730234615865843651857942052864) (hh : h ≤ 2147483648) :
    wideN ((P / 18446744073709551616 + (P % 18446744073709551616 + h) / 18446744073709551616) / 4294967296)
      ((P / 18446744073709551616 + (P % 18446744073709551616 + h) / 18446744073709551616) % 4294967296 * 4294967296 + (P % 18446744073709551616 + h) % 18446744073709551616 / 4294967296) = (P + h) / 4294967296 := by
  unfold wideN
  omega

set_option maxHeartbeats 1000000 in
theorem fixMul_0 (a b : Int) (w : World) (h1 : a < 0) (h2 : b < 0) (ha : -9223372036854775808 ≤ a ∧ a ≤ 9223372036854775807) (hb : -9223372036854775808 ≤ b ∧ b ≤ 9223372036854775807) :
    Calls Try.prog 35 #[.int .i64 a, .int .i64 b] w fun e w' => e = .returned (.tuple #[.int .i64 (fmul a b).1, .bool (fmul a b).2]) ∧ Below w.heap.size w w' := by
  have HA := Lib.hid ha
  have HB := Lib.hid hb
  have hbd := mul_bd ha hb
  have HNA := Lib.hid (show a.natAbs < 18446744073709551616 by omega)
  have HNB := Lib.hid (show b.natAbs < 18446744073709551616 by omega)
  have HBD := Lib.hid hbd
  clear ha hb
  have HE := Lib.hid (show sgd false ((a.natAbs * b.natAbs + 2147483648) / 4294967296) = (a * b + 2147483648) / 4294967296 by
    rw [mul_pos1 (.inl ⟨h1, h2⟩)]; show (((a.natAbs * b.natAbs + 2147483648) / 4294967296 : Nat) : Int) = _; omega)
  have HT := Lib.hid (mul_tail (a.natAbs * b.natAbs) 2147483648 HBD.out (by omega))
  clear hbd
  go_enter Try.func35, Try.ntmps35
  go_wp2_with fail
  refine (size_any a _ HA.out).mono ?_
  rintro e w1 ⟨rfl, rfl⟩
  go_wp2_with fail
  refine (size_any b _ HB.out).mono ?_
  rintro e w1 ⟨rfl, rfl⟩
  go_wp2_with fail
  refine (mul64_any a.natAbs b.natAbs HNA.out HNB.out _).mono ?_
  rintro e w1 ⟨rfl, rfl⟩
  generalize a.natAbs * b.natAbs = P at HBD HE HT ⊢
  have hH0 : P / 18446744073709551616 ≤ 4611686018427387904 := by have := HBD.out; omega
  have hL0 : P % 18446744073709551616 < 18446744073709551616 := by omega
  generalize P / 18446744073709551616 = H0 at hH0 HT ⊢
  generalize P % 18446744073709551616 = L0 at hL0 HT ⊢
  have HAdd := fun w => add64_at L0 2147483648 2147483648 (by omega) w
  have hC : (L0 + 2147483648) / 18446744073709551616 ≤ 1 := by omega
  have hL1 : (L0 + 2147483648) % 18446744073709551616 < 18446744073709551616 := by omega
  generalize (L0 + 2147483648) / 18446744073709551616 = C at hC HT HAdd
  generalize (L0 + 2147483648) % 18446744073709551616 = L1 at hL1 HT HAdd
  have hM : (H0 + C) % 4294967296 < 4294967296 := by omega
  have hw : IntKind.u64.wrap (((H0 : Int) + (C : Int)) * 4294967296) = (((H0 + C) % 4294967296 : Nat) : Int) * 4294967296 := by rw [u64wrap]; omega
  have hor := or_halves L1 _ hL1 hM
  generalize (H0 + C) % 4294967296 = M at hM hw hor HT
  have hL2 : M * 4294967296 + L1 / 4294967296 < 18446744073709551616 := by omega
  have hH2 : (H0 + C) / 4294967296 < 18446744073709551616 := by omega
  generalize hq : M * 4294967296 + L1 / 4294967296 = L2 at hL2 hor HT
  have hq2 : ((H0 : Int) + (C : Int)) / 4294967296 = (((H0 + C) / 4294967296 : Nat) : Int) := by omega
  generalize (H0 + C) / 4294967296 = H2 at hH2 hq2 HT
  clear hq
  rw [← HT.out] at HE
  go_wp2_with fail
  refine (bound_any false H2 L2 _ hH2 hL2).mono ?_
  rintro e w1 ⟨rfl, hb⟩
  rw [HE.out]
  have HF := Lib.hid (show stop ((a * b + 2147483648) / 4294967296) = fmul a b from rfl)
  rw [HF.out]
  have HBL := Lib.hid (onward ((Below.refl w.heap.size w).alloc (Nat.le_refl _) _) (Nat.le_refl _) hb)
  generalize hr : fmul a b = r
  have HR := Lib.hid hr
  clear HE HT hb hr
  go_wp2_with fail
  go_ret2
  exact ⟨by rw [HR.out]; rfl, HBL.out⟩

set_option maxHeartbeats 1000000 in
theorem fixMul_1 (a b : Int) (w : World) (h1 : a < 0) (h2 : ¬ b < 0) (ha : -9223372036854775808 ≤ a ∧ a ≤ 9223372036854775807) (hb : -9223372036854775808 ≤ b ∧ b ≤ 9223372036854775807) :
    Calls Try.prog 35 #[.int .i64 a, .int .i64 b] w fun e w' => e = .returned (.tuple #[.int .i64 (fmul a b).1, .bool (fmul a b).2]) ∧ Below w.heap.size w w' := by
  have HA := Lib.hid ha
  have HB := Lib.hid hb
  have hbd := mul_bd ha hb
  have HNA := Lib.hid (show a.natAbs < 18446744073709551616 by omega)
  have HNB := Lib.hid (show b.natAbs < 18446744073709551616 by omega)
  have HBD := Lib.hid hbd
  clear ha hb
  have HE := Lib.hid (show sgd true ((a.natAbs * b.natAbs + 2147483647) / 4294967296) = (a * b + 2147483648) / 4294967296 by
    rw [mul_neg1 (.inl ⟨h1, by omega⟩)]; unfold sgd; rw [if_pos rfl]; omega)
  have HT := Lib.hid (mul_tail (a.natAbs * b.natAbs) 2147483647 HBD.out (by omega))
  clear hbd
  go_enter Try.func35, Try.ntmps35
  go_wp2_with fail
  refine (size_any a _ HA.out).mono ?_
  rintro e w1 ⟨rfl, rfl⟩
  go_wp2_with fail
  refine (size_any b _ HB.out).mono ?_
  rintro e w1 ⟨rfl, rfl⟩
  go_wp2_with fail
  refine (mul64_any a.natAbs b.natAbs HNA.out HNB.out _).mono ?_
  rintro e w1 ⟨rfl, rfl⟩
  generalize a.natAbs * b.natAbs = P at HBD HE HT ⊢
  have hH0 : P / 18446744073709551616 ≤ 4611686018427387904 := by have := HBD.out; omega
  have hL0 : P % 18446744073709551616 < 18446744073709551616 := by omega
  generalize P / 18446744073709551616 = H0 at hH0 HT ⊢
  generalize P % 18446744073709551616 = L0 at hL0 HT ⊢
  go_upto_region 3 with fail
  go_cut [7] (fun s7 wx => ∃ hf : Nat, s7 = .int .u64 (hf : Int) ∧ Hid (hf = 2147483648) ∧ wx = w.alloc (.cells #[.bool true, .int .u64 (H0 : Int), .int .u64 (L0 : Int)] 72))
  case first =>
    go_wp2_with fail
    go_meet
    exact ⟨2147483648, rfl, Lib.hid rfl, rfl⟩
  obtain ⟨hf, rfl, HHF, rfl⟩ := hcut
  have hf1 : (1 : Int) ≤ (hf : Int) := by have := HHF.out; omega
  have hf2 : (hf : Int) ≤ 4294967296 := by have := HHF.out; omega
  have HAdd := fun w => add64_at L0 2147483647 ((hf : Int) - 1) (by have := HHF.out; omega) w
  have hC : (L0 + 2147483647) / 18446744073709551616 ≤ 1 := by omega
  have hL1 : (L0 + 2147483647) % 18446744073709551616 < 18446744073709551616 := by omega
  generalize (L0 + 2147483647) / 18446744073709551616 = C at hC HT HAdd
  generalize (L0 + 2147483647) % 18446744073709551616 = L1 at hL1 HT HAdd
  have hM : (H0 + C) % 4294967296 < 4294967296 := by omega
  have hw : IntKind.u64.wrap (((H0 : Int) + (C : Int)) * 4294967296) = (((H0 + C) % 4294967296 : Nat) : Int) * 4294967296 := by rw [u64wrap]; omega
  have hor := or_halves L1 _ hL1 hM
  generalize (H0 + C) % 4294967296 = M at hM hw hor HT
  have hL2 : M * 4294967296 + L1 / 4294967296 < 18446744073709551616 := by omega
  have hH2 : (H0 + C) / 4294967296 < 18446744073709551616 := by omega
  generalize hq : M * 4294967296 + L1 / 4294967296 = L2 at hL2 hor HT
  have hq2 : ((H0 : Int) + (C : Int)) / 4294967296 = (((H0 + C) / 4294967296 : Nat) : Int) := by omega
  generalize (H0 + C) / 4294967296 = H2 at hH2 hq2 HT
  clear hq
  rw [← HT.out] at HE
  go_wp2_with fail
  refine (bound_any true H2 L2 _ hH2 hL2).mono ?_
  rintro e w1 ⟨rfl, hb⟩
  rw [HE.out]
  have HF := Lib.hid (show stop ((a * b + 2147483648) / 4294967296) = fmul a b from rfl)
  rw [HF.out]
  have HBL := Lib.hid (onward ((Below.refl w.heap.size w).alloc (Nat.le_refl _) _) (Nat.le_refl _) hb)
  generalize hr : fmul a b = r
  have HR := Lib.hid hr
  clear HE HT hb hr
  go_wp2_with fail
  go_ret2
  exact ⟨by rw [HR.out]; rfl, HBL.out⟩

set_option maxHeartbeats 1000000 in
theorem fixMul_2 (a b : Int) (w : World) (h1 : ¬ a < 0) (h2 : b < 0) (ha : -9223372036854775808 ≤ a ∧ a ≤ 9223372036854775807) (hb : -9223372036854775808 ≤ b ∧ b ≤ 9223372036854775807) :
    Calls Try.prog 35 #[.int .i64 a, .int .i64 b] w fun e w' => e = .returned (.tuple #[.int .i64 (fmul a b).1, .bool (fmul a b).2]) ∧ Below w.heap.size w w' := by
  have HA := Lib.hid ha
  have HB := Lib.hid hb
  have hbd := mul_bd ha hb
  have HNA := Lib.hid (show a.natAbs < 18446744073709551616 by omega)
  have HNB := Lib.hid (show b.natAbs < 18446744073709551616 by omega)
  have HBD := Lib.hid hbd
  clear ha hb
  have HE := Lib.hid (show sgd true ((a.natAbs * b.natAbs + 2147483647) / 4294967296) = (a * b + 2147483648) / 4294967296 by
    rw [mul_neg1 (.inr ⟨by omega, h2⟩)]; unfold sgd; rw [if_pos rfl]; omega)
  have HT := Lib.hid (mul_tail (a.natAbs * b.natAbs) 2147483647 HBD.out (by omega))
  clear hbd
  go_enter Try.func35, Try.ntmps35
  go_wp2_with fail
  refine (size_any a _ HA.out).mono ?_
  rintro e w1 ⟨rfl, rfl⟩
  go_wp2_with fail
  refine (size_any b _ HB.out).mono ?_
  rintro e w1 ⟨rfl, rfl⟩
  go_wp2_with fail
  refine (mul64_any a.natAbs b.natAbs HNA.out HNB.out _).mono ?_
  rintro e w1 ⟨rfl, rfl⟩
  generalize a.natAbs * b.natAbs = P at HBD HE HT ⊢
  have hH0 : P / 18446744073709551616 ≤ 4611686018427387904 := by have := HBD.out; omega
  have hL0 : P % 18446744073709551616 < 18446744073709551616 := by omega
  generalize P / 18446744073709551616 = H0 at hH0 HT ⊢
  generalize P % 18446744073709551616 = L0 at hL0 HT ⊢
  go_upto_region 3 with fail
  go_cut [7] (fun s7 wx => ∃ hf : Nat, s7 = .int .u64 (hf : Int) ∧ Hid (hf = 2147483648) ∧ wx = w.alloc (.cells #[.bool true, .int .u64 (H0 : Int), .int .u64 (L0 : Int)] 72))
  case first =>
    go_wp2_with fail
    go_meet
    exact ⟨2147483648, rfl, Lib.hid rfl, rfl⟩
  obtain ⟨hf, rfl, HHF, rfl⟩ := hcut
  have hf1 : (1 : Int) ≤ (hf : Int) := by have := HHF.out; omega
  have hf2 : (hf : Int) ≤ 4294967296 := by have := HHF.out; omega
  have HAdd := fun w => add64_at L0 2147483647 ((hf : Int) - 1) (by have := HHF.out; omega) w
  have hC : (L0 + 2147483647) / 18446744073709551616 ≤ 1 := by omega
  have hL1 : (L0 + 2147483647) % 18446744073709551616 < 18446744073709551616 := by omega
  generalize (L0 + 2147483647) / 18446744073709551616 = C at hC HT HAdd
  generalize (L0 + 2147483647) % 18446744073709551616 = L1 at hL1 HT HAdd
  have hM : (H0 + C) % 4294967296 < 4294967296 := by omega
  have hw : IntKind.u64.wrap (((H0 : Int) + (C : Int)) * 4294967296) = (((H0 + C) % 4294967296 : Nat) : Int) * 4294967296 := by rw [u64wrap]; omega
  have hor := or_halves L1 _ hL1 hM
  generalize (H0 + C) % 4294967296 = M at hM hw hor HT
  have hL2 : M * 4294967296 + L1 / 4294967296 < 18446744073709551616 := by omega
  have hH2 : (H0 + C) / 4294967296 < 18446744073709551616 := by omega
  generalize hq : M * 4294967296 + L1 / 4294967296 = L2 at hL2 hor HT
  have hq2 : ((H0 : Int) + (C : Int)) / 4294967296 = (((H0 + C) / 4294967296 : Nat) : Int) := by omega
  generalize (H0 + C) / 4294967296 = H2 at hH2 hq2 HT
  clear hq
  rw [← HT.out] at HE
  go_wp2_with fail
  refine (bound_any true H2 L2 _ hH2 hL2).mono ?_
  rintro e w1 ⟨rfl, hb⟩
  rw [HE.out]
  have HF := Lib.hid (show stop ((a * b + 2147483648) / 4294967296) = fmul a b from rfl)
  rw [HF.out]
  have HBL := Lib.hid (onward ((Below.refl w.heap.size w).alloc (Nat.le_refl _) _) (Nat.le_refl _) hb)
  generalize hr : fmul a b = r
  have HR := Lib.hid hr
  clear HE HT hb hr
  go_wp2_with fail
  go_ret2
  exact ⟨by rw [HR.out]; rfl, HBL.out⟩

set_option maxHeartbeats 1000000 in
theorem fixMul_3 (a b : Int) (w : World) (h1 : ¬ a < 0) (h2 : ¬ b < 0) (ha : -9223372036854775808 ≤ a ∧ a ≤ 9223372036854775807) (hb : -9223372036854775808 ≤ b ∧ b ≤ 9223372036854775807) :
    Calls Try.prog 35 #[.int .i64 a, .int .i64 b] w fun e w' => e = .returned (.tuple #[.int .i64 (fmul a b).1, .bool (fmul a b).2]) ∧ Below w.heap.size w w' := by
  have HA := Lib.hid ha
  have HB := Lib.hid hb
  have hbd := mul_bd ha hb
  have HNA := Lib.hid (show a.natAbs < 18446744073709551616 by omega)
  have HNB := Lib.hid (show b.natAbs < 18446744073709551616 by omega)
  have HBD := Lib.hid hbd
  clear ha hb
  have HE := Lib.hid (show sgd false ((a.natAbs * b.natAbs + 2147483648) / 4294967296) = (a * b + 2147483648) / 4294967296 by
    rw [mul_pos1 (.inr ⟨by omega, by omega⟩)]; show (((a.natAbs * b.natAbs + 2147483648) / 4294967296 : Nat) : Int) = _; omega)
  have HT := Lib.hid (mul_tail (a.natAbs * b.natAbs) 2147483648 HBD.out (by omega))
  clear hbd
  go_enter Try.func35, Try.ntmps35
  go_wp2_with fail
  refine (size_any a _ HA.out).mono ?_
  rintro e w1 ⟨rfl, rfl⟩
  go_wp2_with fail
  refine (size_any b _ HB.out).mono ?_
  rintro e w1 ⟨rfl, rfl⟩
  go_wp2_with fail
  refine (mul64_any a.natAbs b.natAbs HNA.out HNB.out _).mono ?_
  rintro e w1 ⟨rfl, rfl⟩
  generalize a.natAbs * b.natAbs = P at HBD HE HT ⊢
  have hH0 : P / 18446744073709551616 ≤ 4611686018427387904 := by have := HBD.out; omega
  have hL0 : P % 18446744073709551616 < 18446744073709551616 := by omega
  generalize P / 18446744073709551616 = H0 at hH0 HT ⊢
  generalize P % 18446744073709551616 = L0 at hL0 HT ⊢
  have HAdd := fun w => add64_at L0 2147483648 2147483648 (by omega) w
  have hC : (L0 + 2147483648) / 18446744073709551616 ≤ 1 := by omega
  have hL1 : (L0 + 2147483648) % 18446744073709551616 < 18446744073709551616 := by omega
  generalize (L0 + 2147483648) / 18446744073709551616 = C at hC HT HAdd
  generalize (L0 + 2147483648) % 18446744073709551616 = L1 at hL1 HT HAdd
  have hM : (H0 + C) % 4294967296 < 4294967296 := by omega
  have hw : IntKind.u64.wrap (((H0 : Int) + (C : Int)) * 4294967296) = (((H0 + C) % 4294967296 : Nat) : Int) * 4294967296 := by rw [u64wrap]; omega
  have hor := or_halves L1 _ hL1 hM
  generalize (H0 + C) % 4294967296 = M at hM hw hor HT
  have hL2 : M * 4294967296 + L1 / 4294967296 < 18446744073709551616 := by omega
  have hH2 : (H0 + C) / 4294967296 < 18446744073709551616 := by omega
  generalize hq : M * 4294967296 + L1 / 4294967296 = L2 at hL2 hor HT
  have hq2 : ((H0 : Int) + (C : Int)) / 4294967296 = (((H0 + C) / 4294967296 : Nat) : Int) := by omega
  generalize (H0 + C) / 4294967296 = H2 at hH2 hq2 HT
  clear hq
  rw [← HT.out] at HE
  go_wp2_with fail
  refine (bound_any false H2 L2 _ hH2 hL2).mono ?_
  rintro e w1 ⟨rfl, hb⟩
  rw [HE.out]
  have HF := Lib.hid (show stop ((a * b + 2147483648) / 4294967296) = fmul a b from rfl)
  rw [HF.out]
  have HBL := Lib.hid (onward ((Below.refl w.heap.size w).alloc (Nat.le_refl _) _) (Nat.le_refl _) hb)
  generalize hr : fmul a b = r
  have HR := Lib.hid hr
  clear HE HT hb hr
  go_wp2_with fail
  go_ret2
  exact ⟨by rw [HR.out]; rfl, HBL.out⟩

theorem fixMul_any (a b : Int) (w : World) (ha : -9223372036854775808 ≤ a ∧ a ≤ 9223372036854775807) (hb : -9223372036854775808 ≤ b ∧ b ≤ 9223372036854775807) :
    Calls Try.prog 35 #[.int .i64 a, .int .i64 b] w fun e w' => e = .returned (.tuple #[.int .i64 (fmul a b).1, .bool (fmul a b).2]) ∧ Below w.heap.size w w' := by
  by_cases h1 : a < 0 <;> by_cases h2 : b < 0
  · exact fixMul_0 a b w h1 h2 ha hb
  · exact fixMul_1 a b w h1 h2 ha hb
  · exact fixMul_2 a b w h1 h2 ha hb
  · exact fixMul_3 a b w h1 h2 ha hb

theorem refMul_any (a b : Int) (w : World) (ha : -9223372036854775808 ≤ a ∧ a ≤ 9223372036854775807) (hb : -9223372036854775808 ≤ b ∧ b ≤ 9223372036854775807) :
    Calls Try.prog 50 #[.int .i64 a, .int .i64 b] w fun e w' => e = .returned (.tuple #[.int .i64 (fmul a b).1, .bool (fmul a b).2]) ∧ Below w.heap.size w w' := by
  have HA := Lib.hid ha
  have HB := Lib.hid hb
  have HI := Lib.hid (isInt_new w)
  have HBD := Lib.hid (show (a * b).natAbs ≤ 85070591730234615865843651857942052864 by rw [Int.natAbs_mul]; exact mul_bd ha hb)
  clear ha hb
  go_enter Try.func50, Try.ntmps50
  go_wp2_with fail
  refine (whole_any a _ HA.out).mono ?_
  rintro e w1 ⟨p1, rfl, hp1, hz1, hb1⟩
  have HZ1 := Lib.hid hz1
  have HI1 := Lib.hid (HI.out.below hb1 HI.out.lt)
  clear hz1
  go_wp2_with fail
  refine (whole_any b _ HB.out).mono ?_
  rintro e w2 ⟨p2, rfl, hp2, hz2, hb2⟩
  have HZ2 := Lib.hid hz2
  have HI2 := Lib.hid (HI1.out.below hb2 HI1.out.lt)
  have HZ1' := Lib.hid (HZ1.out.below hb2)
  clear hz2
  go_wp2_with fail
  refine (bigMul_any w.heap.size p1 p2 a b _ HI2.out HZ1'.out HZ2.out (small_pw (by have := HA.out; omega)) (small_pw (by have := HB.out; omega))).mono ?_
  rintro e w3 ⟨rfl, hz3, hg3⟩
  have HZ3 := Lib.hid hz3
  have HB3 := Lib.hid (below_grown (onward (onward ((Below.refl w.heap.size w).alloc (Nat.le_refl _) (.cells #[.bool false, .slice none 0 0] 84)) (Nat.le_refl _) hb1) (Nat.le_refl _) hb2) (Nat.le_refl _) hg3 (fun g e => by injection e with e; omega))
  clear hz3 hg3
  have HF : Hid (fmul a b = stop ((a * b + 2 ^ 31) / 2 ^ 32)) := Lib.hid rfl
  generalize a * b = X at HZ3 HBD HF ⊢
  go_wp2_with fail
  refine (power_any 31 0 31 _ rfl (by omega) (by omega)).mono ?_
  rintro e w4 ⟨p4, rfl, hp4, hz4, hb4⟩
  have HZ4 := Lib.hid hz4
  have HZ34 := Lib.hid (HZ3.out.below hb4)
  have HB4 := Lib.hid (onward HB3.out (Nat.le_refl _) hb4)
  clear hz4
  go_wp2_with fail
  refine (bigAdd_any w.heap.size w.heap.size p4 X (2 ^ 31) _ HZ34.out.isInt HZ34.out HZ4.out (small_pw (by have := HBD.out; omega)) (small_pw (by decide))).mono ?_
  rintro e w5 ⟨rfl, hz5, hg5⟩
  have HZ5 := Lib.hid hz5
  have HB5 := Lib.hid (below_grown HB4.out (Nat.le_refl _) hg5 (fun g e => by injection e with e; omega))
  clear hz5 hg5
  go_wp2_with fail
  refine (power_any 32 1 0 _ rfl (by omega) (by omega)).mono ?_
  rintro e w6 ⟨p6, rfl, hp6, hz6, hb6⟩
  have HZ6 := Lib.hid hz6
  have HZ56 := Lib.hid (HZ5.out.below hb6)
  have HB6 := Lib.hid (onward HB5.out (Nat.le_refl _) hb6)
  clear hz6
  go_wp2_with fail
  refine (down_any w.heap.size p6 (X + 2 ^ 31) (2 ^ 32) _ HZ56.out HZ6.out (small_pw (by have := HBD.out; omega)) (by decide) (small_pw (by decide))).mono ?_
  rintro e w7 ⟨p7, rfl, hp7, hz7, hb7⟩
  have HZ7 := Lib.hid hz7
  have HB7 := Lib.hid (onward HB6.out (Nat.le_refl _) hb7)
  clear hz7
  go_wp2_with fail
  refine (stop_any p7 _ _ HZ7.out (small_pw (by have := HBD.out; omega))).mono ?_
  rintro e w8 ⟨rfl, rfl⟩
  generalize hss : stop ((X + 2 ^ 31) / 2 ^ 32) = r
  have HSS := Lib.hid hss
  clear hss
  go_wp2_with fail
  go_ret2
  exact ⟨by rw [HF.out, HSS.out]; rfl, HB7.out⟩
end Go.Proofs.Ytejefecglioifaa.BigW
