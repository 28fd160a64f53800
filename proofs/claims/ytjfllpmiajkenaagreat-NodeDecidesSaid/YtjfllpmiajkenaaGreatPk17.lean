import Derived.Test.YtjfllpmiajkenaaGreatPk16
import Derived.Deep.DeepCutAuto
import Derived.Test.YtjfllpmiajkenaaGreatPk14
import Derived.Shelf.Small.Bits
import Derived.Test.YtjfllpmiajkenaaGreatProg
namespace Go.Proofs.YtjfllpmiajkenaaGreat.BigW
open Go.RowKit Go.Proofs.YtjfllpmiajkenaaGreat.Mem Go.Proofs.YtjfllpmiajkenaaGreat.BigLaw
set_option linter.unusedVariables false
def fmul (a b : Int) : Int × Bool := stop ((a * b + 2147483648) / 4294967296)
theorem mul_bd {a b : Int} (ha : -9223372036854775808 ≤ a ∧ a ≤ 9223372036854775807) (hb : -9223372036854775808 ≤ b ∧ b ≤ 9223372036854775807) : a.natAbs * b.natAbs ≤ 85070591730234615865843651857942052864 :=
  Nat.mul_le_mul (show a.natAbs ≤ 9223372036854775808 by omega) (show b.natAbs ≤ 9223372036854775808 by omega)
theorem mul_neg1 {a b : Int} (h : (a < 0 ∧ 0 ≤ b) ∨ (0 ≤ a ∧ b < 0)) : a * b = -((a.natAbs * b.natAbs : Nat) : Int) := by
  rw [Int.natCast_mul]
  rcases h with ⟨h1, h2⟩ | ⟨h1, h2⟩
  · rw [show (a.natAbs : Int) = -a by omega, show (b.natAbs : Int) = b by omega, Int.neg_mul, Int.neg_neg]
  · rw [show (a.natAbs : Int) = a by omega, show (b.natAbs : Int) = -b by omega, Int.mul_neg, Int.neg_neg]
theorem mul_pos1 {a b : Int} (h : (a < 0 ∧ b < 0) ∨ (0 ≤ a ∧ 0 ≤ b)) : a * b = ((a.natAbs * b.natAbs : Nat) : Int) := by
  rw [Int.natCast_mul]
  rcases h with ⟨h1, h2⟩ | ⟨h1, h2⟩
  · rw [show (a.natAbs : Int) = -a by omega, show (b.natAbs : Int) = -b by omega, Int.neg_mul_neg]
  · rw [show (a.natAbs : Int) = a by omega, show (b.natAbs : Int) = b by omega]
theorem or_halves (x y : Nat) (hx : x < 18446744073709551616) (hy : y < 4294967296) : bits .or .u64 ((x : Int) / 4294967296) ((y : Int) * 4294967296) = ((y * 4294967296 + x / 4294967296 : Nat) : Int) := by
  have h := or64 (x / 4294967296) y (by omega) hy
  have e : ((x / 4294967296 : Nat) : Int) = (x : Int) / 4294967296 := by omega
  rw [e] at h
  rw [h]
  omega
theorem mul_tail (P h : Nat) (hP : P ≤ 85070591730234615865843651857942052864) (hh : h ≤ 2147483648) :
    wideN ((P / 18446744073709551616 + (P % 18446744073709551616 + h) / 18446744073709551616) / 4294967296)
      ((P / 18446744073709551616 + (P % 18446744073709551616 + h) / 18446744073709551616) % 4294967296 * 4294967296 + (P % 18446744073709551616 + h) % 18446744073709551616 / 4294967296) = (P + h) / 4294967296 := by
  unfold wideN
  omega
set_option maxHeartbeats 1000000 in
theorem fixMul_0 (a b : Int) (w : World) (h1 : a < 0) (h2 : b < 0) (ha : -9223372036854775808 ≤ a ∧ a ≤ 9223372036854775807) (hb : -9223372036854775808 ≤ b ∧ b ≤ 9223372036854775807) :
    Calls Tryz.prog 125 #[.int .i64 a, .int .i64 b] w fun e w' => e = .returned (.tuple #[.int .i64 (fmul a b).1, .bool (fmul a b).2]) ∧ Below w.heap.size w w' := by
  have HA := Lib.hid ha
  have HB := Lib.hid hb
  have hbd := mul_bd ha hb
  have HNA := Lib.hid (show a.natAbs < 18446744073709551616 by omega)
  have HNB := Lib.hid (show b.natAbs < 18446744073709551616 by omega)
  have HBD := Lib.hid hbd
  clear ha hb
  have HE := Lib.hid (show sgd false ((a.natAbs * b.natAbs + 2147483648) / 4294967296) = (a * b + 2147483648) / 4294967296 by
    rw [mul_pos1 (.inl ⟨h1, h2⟩)]; show (((a.natAbs * b.natAbs + 2147483648) / 4294967296 : Nat) : Int) = _; omega)
  have HT := Lib.hid (mul_tail (a.natAbs * b.natAbs) 2147483648 HBD.out (by omega))
  clear hbd
  go_enter Tryz.func125, Tryz.ntmps125
  go_wp2_with fail
  refine (size_any a _ HA.out).mono ?_
  rintro e w1 ⟨rfl, rfl⟩
  go_wp2_with fail
  refine (size_any b _ HB.out).mono ?_
  rintro e w1 ⟨rfl, rfl⟩
  go_wp2_with fail
  refine (mul64_any a.natAbs b.natAbs HNA.out HNB.out _).mono ?_
  rintro e w1 ⟨rfl, rfl⟩
  generalize a.natAbs * b.natAbs = P at HBD HE HT ⊢
  have hH0 : P / 18446744073709551616 ≤ 4611686018427387904 := by have := HBD.out; omega
  have hL0 : P % 18446744073709551616 < 18446744073709551616 := by omega
  generalize P / 18446744073709551616 = H0 at hH0 HT ⊢
  generalize P % 18446744073709551616 = L0 at hL0 HT ⊢
  have HAdd := fun w => add64_at L0 2147483648 2147483648 (by omega) w
  have hC : (L0 + 2147483648) / 18446744073709551616 ≤ 1 := by omega
  have hL1 : (L0 + 2147483648) % 18446744073709551616 < 18446744073709551616 := by omega
  generalize (L0 + 2147483648) / 18446744073709551616 = C at hC HT HAdd
  generalize (L0 + 2147483648) % 18446744073709551616 = L1 at hL1 HT HAdd
  have hM : (H0 + C) % 4294967296 < 4294967296 := by omega
  have hw : IntKind.u64.wrap (((H0 : Int) + (C : Int)) * 4294967296) = (((H0 + C) % 4294967296 : Nat) : Int) * 4294967296 := by rw [u64wrap]; omega
  have hor := or_halves L1 _ hL1 hM
  generalize (H0 + C) % 4294967296 = M at hM hw hor HT
  have hL2 : M * 4294967296 + L1 / 4294967296 < 18446744073709551616 := by omega
  have hH2 : (H0 + C) / 4294967296 < 18446744073709551616 := by omega
  generalize hq : M * 4294967296 + L1 / 4294967296 = L2 at hL2 hor HT
  have hq2 : ((H0 : Int) + (C : Int)) / 4294967296 = (((H0 + C) / 4294967296 : Nat) : Int) := by omega
  generalize (H0 + C) / 4294967296 = H2 at hH2 hq2 HT
  clear hq
  rw [← HT.out] at HE
  go_wp2_with fail
  refine (bound_any false H2 L2 _ hH2 hL2).mono ?_
  rintro e w1 ⟨rfl, hb⟩
  rw [HE.out]
  have HF := Lib.hid (show stop ((a * b + 2147483648) / 4294967296) = fmul a b from rfl)
  rw [HF.out]
  have HBL := Lib.hid (onward ((Below.refl w.heap.size w).alloc (Nat.le_refl _) _) (Nat.le_refl _) hb)
  generalize hr : fmul a b = r
  have HR := Lib.hid hr
  clear HE HT hb hr
  go_wp2_with fail
  go_ret2
  exact ⟨by rw [HR.out]; rfl, HBL.out⟩
set_option maxHeartbeats 1000000 in
theorem fixMul_1 (a b : Int) (w : World) (h1 : a < 0) (h2 : ¬ b < 0) (ha : -9223372036854775808 ≤ a ∧ a ≤ 9223372036854775807) (hb : -9223372036854775808 ≤ b ∧ b ≤ 9223372036854775807) :
    Calls Tryz.prog 125 #[.int .i64 a, .int .i64 b] w fun e w' => e = .returned (.tuple #[.int .i64 (fmul a b).1, .bool (fmul a b).2]) ∧ Below w.heap.size w w' := by
  have HA := Lib.hid ha
  have HB := Lib.hid hb
  have hbd := mul_bd ha hb
  have HNA := Lib.hid (show a.natAbs < 18446744073709551616 by omega)
  have HNB := Lib.hid (show b.natAbs < 18446744073709551616 by omega)
  have HBD := Lib.hid hbd
  clear ha hb
  have HE := Lib.hid (show sgd true ((a.natAbs * b.natAbs + 2147483647) / 4294967296) = (a * b + 2147483648) / 4294967296 by
    rw [mul_neg1 (.inl ⟨h1, by omega⟩)]; unfold sgd; rw [if_pos rfl]; omega)
  have HT := Lib.hid (mul_tail (a.natAbs * b.natAbs) 2147483647 HBD.out (by omega))
  clear hbd
  go_enter Tryz.func125, Tryz.ntmps125
  go_wp2_with fail
  refine (size_any a _ HA.out).mono ?_
  rintro e w1 ⟨rfl, rfl⟩
  go_wp2_with fail
  refine (size_any b _ HB.out).mono ?_
  rintro e w1 ⟨rfl, rfl⟩
  go_wp2_with fail
  refine (mul64_any a.natAbs b.natAbs HNA.out HNB.out _).mono ?_
  rintro e w1 ⟨rfl, rfl⟩
  generalize a.natAbs * b.natAbs = P at HBD HE HT ⊢
  have hH0 : P / 18446744073709551616 ≤ 4611686018427387904 := by have := HBD.out; omega
  have hL0 : P % 18446744073709551616 < 18446744073709551616 := by omega
  generalize P / 18446744073709551616 = H0 at hH0 HT ⊢
  generalize P % 18446744073709551616 = L0 at hL0 HT ⊢
  go_upto_region 3 with fail
  go_cut [7] (fun s7 wx => ∃ hf : Nat, s7 = .int .u64 (hf : Int) ∧ Hid (hf = 2147483648) ∧ wx = w.alloc (.cells #[.bool true, .int .u64 (H0 : Int), .int .u64 (L0 : Int)] 186))
  case first =>
    go_wp2_with fail
    go_meet
    exact ⟨2147483648, rfl, Lib.hid rfl, rfl⟩
  obtain ⟨hf, rfl, HHF, rfl⟩ := hcut
  have hf1 : (1 : Int) ≤ (hf : Int) := by have := HHF.out; omega
  have hf2 : (hf : Int) ≤ 4294967296 := by have := HHF.out; omega
  have HAdd := fun w => add64_at L0 2147483647 ((hf : Int) - 1) (by have := HHF.out; omega) w
  have hC : (L0 + 2147483647) / 18446744073709551616 ≤ 1 := by omega
  have hL1 : (L0 + 2147483647) % 18446744073709551616 < 18446744073709551616 := by omega
  generalize (L0 + 2147483647) / 18446744073709551616 = C at hC HT HAdd
  generalize (L0 + 2147483647) % 18446744073709551616 = L1 at hL1 HT HAdd
  have hM : (H0 + C) % 4294967296 < 4294967296 := by omega
  have hw : IntKind.u64.wrap (((H0 : Int) + (C : Int)) * 4294967296) = (((H0 + C) % 4294967296 : Nat) : Int) * 4294967296 := by rw [u64wrap]; omega
  have hor := or_halves L1 _ hL1 hM
  generalize (H0 + C) % 4294967296 = M at hM hw hor HT
  have hL2 : M * 4294967296 + L1 / 4294967296 < 18446744073709551616 := by omega
  have hH2 : (H0 + C) / 4294967296 < 18446744073709551616 := by omega
  generalize hq : M * 4294967296 + L1 / 4294967296 = L2 at hL2 hor HT
  have hq2 : ((H0 : Int) + (C : Int)) / 4294967296 = (((H0 + C) / 4294967296 : Nat) : Int) := by omega
  generalize (H0 + C) / 4294967296 = H2 at hH2 hq2 HT
  clear hq
  rw [← HT.out] at HE
  go_wp2_with fail
  refine (bound_any true H2 L2 _ hH2 hL2).mono ?_
  rintro e w1 ⟨rfl, hb⟩
  rw [HE.out]
  have HF := Lib.hid (show stop ((a * b + 2147483648) / 4294967296) = fmul a b from rfl)
  rw [HF.out]
  have HBL := Lib.hid (onward ((Below.refl w.heap.size w).alloc (Nat.le_refl _) _) (Nat.le_refl _) hb)
  generalize hr : fmul a b = r
  have HR := Lib.hid hr
  clear HE HT hb hr
  go_wp2_with fail
  go_ret2
  exact ⟨by rw [HR.out]; rfl, HBL.out⟩
set_option maxHeartbeats 1000000 in
theorem fixMul_2 (a b : Int) (w : World) (h1 : ¬ a < 0) (h2 : b < 0) (ha : -9223372036854775808 ≤ a ∧ a ≤ 9223372036854775807) (hb : -9223372036854775808 ≤ b ∧ b ≤ 9223372036854775807) :
    Calls Tryz.prog 125 #[.int .i64 a, .int .i64 b] w fun e w' => e = .returned (.tuple #[.int .i64 (fmul a b).1, .bool (fmul a b).2]) ∧ Below w.heap.size w w' := by
  have HA := Lib.hid ha
  have HB := Lib.hid hb
  have hbd := mul_bd ha hb
  have HNA := Lib.hid (show a.natAbs < 18446744073709551616 by omega)
  have HNB := Lib.hid (show b.natAbs < 18446744073709551616 by omega)
  have HBD := Lib.hid hbd
  clear ha hb
  have HE := Lib.hid (show sgd true ((a.natAbs * b.natAbs + 2147483647) / 4294967296) = (a * b + 2147483648) / 4294967296 by
    rw [mul_neg1 (.inr ⟨by omega, h2⟩)]; unfold sgd; rw [if_pos rfl]; omega)
  have HT := Lib.hid (mul_tail (a.natAbs * b.natAbs) 2147483647 HBD.out (by omega))
  clear hbd
  go_enter Tryz.func125, Tryz.ntmps125
  go_wp2_with fail
  refine (size_any a _ HA.out).mono ?_
  rintro e w1 ⟨rfl, rfl⟩
  go_wp2_with fail
  refine (size_any b _ HB.out).mono ?_
  rintro e w1 ⟨rfl, rfl⟩
  go_wp2_with fail
  refine (mul64_any a.natAbs b.natAbs HNA.out HNB.out _).mono ?_
  rintro e w1 ⟨rfl, rfl⟩
  generalize a.natAbs * b.natAbs = P at HBD HE HT ⊢
  have hH0 : P / 18446744073709551616 ≤ 4611686018427387904 := by have := HBD.out; omega
  have hL0 : P % 18446744073709551616 < 18446744073709551616 := by omega
  generalize P / 18446744073709551616 = H0 at hH0 HT ⊢
  generalize P % 18446744073709551616 = L0 at hL0 HT ⊢
  go_upto_region 3 with fail
  go_cut [7] (fun s7 wx => ∃ hf : Nat, s7 = .int .u64 (hf : Int) ∧ Hid (hf = 2147483648) ∧ wx = w.alloc (.cells #[.bool true, .int .u64 (H0 : Int), .int .u64 (L0 : Int)] 186))
  case first =>
    go_wp2_with fail
    go_meet
    exact ⟨2147483648, rfl, Lib.hid rfl, rfl⟩
  obtain ⟨hf, rfl, HHF, rfl⟩ := hcut
  have hf1 : (1 : Int) ≤ (hf : Int) := by have := HHF.out; omega
  have hf2 : (hf : Int) ≤ 4294967296 := by have := HHF.out; omega
  have HAdd := fun w => add64_at L0 2147483647 ((hf : Int) - 1) (by have := HHF.out; omega) w
  have hC : (L0 + 2147483647) / 18446744073709551616 ≤ 1 := by omega
  have hL1 : (L0 + 2147483647) % 18446744073709551616 < 18446744073709551616 := by omega
  generalize (L0 + 2147483647) / 18446744073709551616 = C at hC HT HAdd
  generalize (L0 + 2147483647) % 18446744073709551616 = L1 at hL1 HT HAdd
  have hM : (H0 + C) % 4294967296 < 4294967296 := by omega
  have hw : IntKind.u64.wrap (((H0 : Int) + (C : Int)) * 4294967296) = (((H0 + C) % 4294967296 : Nat) : Int) * 4294967296 := by rw [u64wrap]; omega
  have hor := or_halves L1 _ hL1 hM
  generalize (H0 + C) % 4294967296 = M at hM hw hor HT
  have hL2 : M * 4294967296 + L1 / 4294967296 < 18446744073709551616 := by omega
  have hH2 : (H0 + C) / 4294967296 < 18446744073709551616 := by omega
  generalize hq : M * 4294967296 + L1 / 4294967296 = L2 at hL2 hor HT
  have hq2 : ((H0 : Int) + (C : Int)) / 4294967296 = (((H0 + C) / 4294967296 : Nat) : Int) := by omega
  generalize (H0 + C) / 4294967296 = H2 at hH2 hq2 HT
  clear hq
  rw [← HT.out] at HE
  go_wp2_with fail
  refine (bound_any true H2 L2 _ hH2 hL2).mono ?_
  rintro e w1 ⟨rfl, hb⟩
  rw [HE.out]
  have HF := Lib.hid (show stop ((a * b + 2147483648) / 4294967296) = fmul a b from rfl)
  rw [HF.out]
  have HBL := Lib.hid (onward ((Below.refl w.heap.size w).alloc (Nat.le_refl _) _) (Nat.le_refl _) hb)
  generalize hr : fmul a b = r
  have HR := Lib.hid hr
  clear HE HT hb hr
  go_wp2_with fail
  go_ret2
  exact ⟨by rw [HR.out]; rfl, HBL.out⟩
set_option maxHeartbeats 1000000 in
theorem fixMul_3 (a b : Int) (w : World) (h1 : ¬ a < 0) (h2 : ¬ b < 0) (ha : -9223372036854775808 ≤ a ∧ a ≤ 9223372036854775807) (hb : -9223372036854775808 ≤ b ∧ b ≤ 9223372036854775807) :
    Calls Tryz.prog 125 #[.int .i64 a, .int .i64 b] w fun e w' => e = .returned (.tuple #[.int .i64 (fmul a b).1, .bool (fmul a b).2]) ∧ Below w.heap.size w w' := by
  have HA := Lib.hid ha
  have HB := Lib.hid hb
  have hbd := mul_bd ha hb
  have HNA := Lib.hid (show a.natAbs < 18446744073709551616 by omega)
  have HNB := Lib.hid (show b.natAbs < 18446744073709551616 by omega)
  have HBD := Lib.hid hbd
  clear ha hb
  have HE := Lib.hid (show sgd false ((a.natAbs * b.natAbs + 2147483648) / 4294967296) = (a * b + 2147483648) / 4294967296 by
    rw [mul_pos1 (.inr ⟨by omega, by omega⟩)]; show (((a.natAbs * b.natAbs + 2147483648) / 4294967296 : Nat) : Int) = _; omega)
  have HT := Lib.hid (mul_tail (a.natAbs * b.natAbs) 2147483648 HBD.out (by omega))
  clear hbd
  go_enter Tryz.func125, Tryz.ntmps125
  go_wp2_with fail
  refine (size_any a _ HA.out).mono ?_
  rintro e w1 ⟨rfl, rfl⟩
  go_wp2_with fail
  refine (size_any b _ HB.out).mono ?_
  rintro e w1 ⟨rfl, rfl⟩
  go_wp2_with fail
  refine (mul64_any a.natAbs b.natAbs HNA.out HNB.out _).mono ?_
  rintro e w1 ⟨rfl, rfl⟩
  generalize a.natAbs * b.natAbs = P at HBD HE HT ⊢
  have hH0 : P / 18446744073709551616 ≤ 4611686018427387904 := by have := HBD.out; omega
  have hL0 : P % 18446744073709551616 < 18446744073709551616 := by omega
  generalize P / 18446744073709551616 = H0 at hH0 HT ⊢
  generalize P % 18446744073709551616 = L0 at hL0 HT ⊢
  have HAdd := fun w => add64_at L0 2147483648 2147483648 (by omega) w
  have hC : (L0 + 2147483648) / 18446744073709551616 ≤ 1 := by omega
  have hL1 : (L0 + 2147483648) % 18446744073709551616 < 18446744073709551616 := by omega
  generalize (L0 + 2147483648) / 18446744073709551616 = C at hC HT HAdd
  generalize (L0 + 2147483648) % 18446744073709551616 = L1 at hL1 HT HAdd
  have hM : (H0 + C) % 4294967296 < 4294967296 := by omega
  have hw : IntKind.u64.wrap (((H0 : Int) + (C : Int)) * 4294967296) = (((H0 + C) % 4294967296 : Nat) : Int) * 4294967296 := by rw [u64wrap]; omega
  have hor := or_halves L1 _ hL1 hM
  generalize (H0 + C) % 4294967296 = M at hM hw hor HT
  have hL2 : M * 4294967296 + L1 / 4294967296 < 18446744073709551616 := by omega
  have hH2 : (H0 + C) / 4294967296 < 18446744073709551616 := by omega
  generalize hq : M * 4294967296 + L1 / 4294967296 = L2 at hL2 hor HT
  have hq2 : ((H0 : Int) + (C : Int)) / 4294967296 = (((H0 + C) / 4294967296 : Nat) : Int) := by omega
  generalize (H0 + C) / 4294967296 = H2 at hH2 hq2 HT
  clear hq
  rw [← HT.out] at HE
  go_wp2_with fail
  refine (bound_any false H2 L2 _ hH2 hL2).mono ?_
  rintro e w1 ⟨rfl, hb⟩
  rw [HE.out]
  have HF := Lib.hid (show stop ((a * b + 2147483648) / 4294967296) = fmul a b from rfl)
  rw [HF.out]
  have HBL := Lib.hid (onward ((Below.refl w.heap.size w).alloc (Nat.le_refl _) _) (Nat.le_refl _) hb)
  generalize hr : fmul a b = r
  have HR := Lib.hid hr
  clear HE HT hb hr
  go_wp2_with fail
  go_ret2
  exact ⟨by rw [HR.out]; rfl, HBL.out⟩
theorem fixMul_any (a b : Int) (w : World) (ha : -9223372036854775808 ≤ a ∧ a ≤ 9223372036854775807) (hb : -9223372036854775808 ≤ b ∧ b ≤ 9223372036854775807) :
    Calls Tryz.prog 125 #[.int .i64 a, .int .i64 b] w fun e w' => e = .returned (.tuple #[.int .i64 (fmul a b).1, .bool (fmul a b).2]) ∧ Below w.heap.size w w' := by
  by_cases h1 : a < 0 <;> by_cases h2 : b < 0
  · exact fixMul_0 a b w h1 h2 ha hb
  · exact fixMul_1 a b w h1 h2 ha hb
  · exact fixMul_2 a b w h1 h2 ha hb
  · exact fixMul_3 a b w h1 h2 ha hb
theorem refMul_any (a b : Int) (w : World) (ha : -9223372036854775808 ≤ a ∧ a ≤ 9223372036854775807) (hb : -9223372036854775808 ≤ b ∧ b ≤ 9223372036854775807) :
    Calls Tryz.prog 136 #[.int .i64 a, .int .i64 b] w fun e w' => e = .returned (.tuple #[.int .i64 (fmul a b).1, .bool (fmul a b).2]) ∧ Below w.heap.size w w' := by
  have HA := Lib.hid ha
  have HB := Lib.hid hb
  have HI := Lib.hid (isInt_new w)
  have HBD := Lib.hid (show (a * b).natAbs ≤ 85070591730234615865843651857942052864 by rw [Int.natAbs_mul]; exact mul_bd ha hb)
  clear ha hb
  go_enter Tryz.func136, Tryz.ntmps136
  go_wp2_with fail
  refine (whole_any a _ HA.out).mono ?_
  rintro e w1 ⟨p1, rfl, hp1, hz1, hb1⟩
  have HZ1 := Lib.hid hz1
  have HI1 := Lib.hid (HI.out.below hb1 HI.out.lt)
  clear hz1
  go_wp2_with fail
  refine (whole_any b _ HB.out).mono ?_
  rintro e w2 ⟨p2, rfl, hp2, hz2, hb2⟩
  have HZ2 := Lib.hid hz2
  have HI2 := Lib.hid (HI1.out.below hb2 HI1.out.lt)
  have HZ1' := Lib.hid (HZ1.out.below hb2)
  clear hz2
  go_wp2_with fail
  refine (bigMul_any w.heap.size p1 p2 a b _ HI2.out HZ1'.out HZ2.out (small_pw (by have := HA.out; omega)) (small_pw (by have := HB.out; omega))).mono ?_
  rintro e w3 ⟨rfl, hz3, hg3⟩
  have HZ3 := Lib.hid hz3
  have HB3 := Lib.hid (below_grown (onward (onward ((Below.refl w.heap.size w).alloc (Nat.le_refl _) (.cells #[.bool false, .slice none 0 0] 149)) (Nat.le_refl _) hb1) (Nat.le_refl _) hb2) (Nat.le_refl _) hg3 (fun g e => by injection e with e; omega))
  clear hz3 hg3
  have HF : Hid (fmul a b = stop ((a * b + 2 ^ 31) / 2 ^ 32)) := Lib.hid rfl
  generalize a * b = X at HZ3 HBD HF ⊢
  go_wp2_with fail
  refine (power_any 31 0 31 _ rfl (by omega) (by omega)).mono ?_
  rintro e w4 ⟨p4, rfl, hp4, hz4, hb4⟩
  have HZ4 := Lib.hid hz4
  have HZ34 := Lib.hid (HZ3.out.below hb4)
  have HB4 := Lib.hid (onward HB3.out (Nat.le_refl _) hb4)
  clear hz4
  go_wp2_with fail
  refine (bigAdd_any w.heap.size w.heap.size p4 X (2 ^ 31) _ HZ34.out.isInt HZ34.out HZ4.out (small_pw (by have := HBD.out; omega)) (small_pw (by decide))).mono ?_
  rintro e w5 ⟨rfl, hz5, hg5⟩
  have HZ5 := Lib.hid hz5
  have HB5 := Lib.hid (below_grown HB4.out (Nat.le_refl _) hg5 (fun g e => by injection e with e; omega))
  clear hz5 hg5
  go_wp2_with fail
  refine (power_any 32 1 0 _ rfl (by omega) (by omega)).mono ?_
  rintro e w6 ⟨p6, rfl, hp6, hz6, hb6⟩
  have HZ6 := Lib.hid hz6
  have HZ56 := Lib.hid (HZ5.out.below hb6)
  have HB6 := Lib.hid (onward HB5.out (Nat.le_refl _) hb6)
  clear hz6
  go_wp2_with fail
  refine (down_any w.heap.size p6 (X + 2 ^ 31) (2 ^ 32) _ HZ56.out HZ6.out (small_pw (by have := HBD.out; omega)) (by decide) (small_pw (by decide))).mono ?_
  rintro e w7 ⟨p7, rfl, hp7, hz7, hb7⟩
  have HZ7 := Lib.hid hz7
  have HB7 := Lib.hid (onward HB6.out (Nat.le_refl _) hb7)
  clear hz7
  go_wp2_with fail
  refine (stop_any p7 _ _ HZ7.out (small_pw (by have := HBD.out; omega))).mono ?_
  rintro e w8 ⟨rfl, rfl⟩
  generalize hss : stop ((X + 2 ^ 31) / 2 ^ 32) = r
  have HSS := Lib.hid hss
  clear hss
  go_wp2_with fail
  go_ret2
  exact ⟨by rw [HF.out, HSS.out]; rfl, HB7.out⟩
end Go.Proofs.YtjfllpmiajkenaaGreat.BigW
namespace Go.Proofs.YtjfllpmiajkenaaGreat.BigW
open Go.RowKit Go.Proofs.YtjfllpmiajkenaaGreat.Mem Go.Proofs.YtjfllpmiajkenaaGreat.BigLaw
set_option linter.unusedVariables false
def fadd (a b : Int) : Int × Bool := stop (a + b)
def fsub (a b : Int) : Int × Bool := stop (a - b)
def In64 (a : Int) : Prop := -9223372036854775808 ≤ a ∧ a ≤ 9223372036854775807
theorem stop_range (X : Int) : In64 (stop X).1 := by
  unfold stop in64 In64
  split
  · rename_i h; exact of_decide_eq_true h
  · split <;> exact ⟨by decide, by decide⟩
theorem fmul_range (a b : Int) : In64 (fmul a b).1 := stop_range _
theorem fadd_range (a b : Int) : In64 (fadd a b).1 := stop_range _
theorem fsub_range (a b : Int) : In64 (fsub a b).1 := stop_range _
def Bent (w : World) (T : TypeId) (g : Nat) (x : Bool) : Prop := Blk w g T #[.bool x]
def Stepd (w w' : World) (T : TypeId) (g : Nat) (x : Bool) (r : Int × Bool) (e : Ending) : Prop :=
  e = .returned (.int .i64 r.1) ∧ Bent w' T g (x || r.2) ∧ w.grownBy w' (some g)
theorem Bent.grown {w w' : World} {T : TypeId} {g : Nat} {x : Bool} (h : Bent w T g x) {row : Option Nat} (hg : w.grownBy w' row) (hne : some g ≠ row) : Bent w' T g x := Blk.grown h hg hne
theorem Bent.below {w w' : World} {T : TypeId} {g : Nat} {x : Bool} (h : Bent w T g x) (hb : Below w.heap.size w w') : Bent w' T g x := Blk.below h hb (Blk.lt h)
theorem rsee_any (g : Nat) (x : Bool) (n : Int) (b : Bool) (w : World) (h : Bent w 154 g x) :
    Calls Tryz.prog 134 #[.pointer (some ⟨g, 0, none⟩), .int .i64 n, .bool b] w fun e w' => Stepd w w' 154 g x (n, b) e := by
  have c0 := Blk.cell h 0
  have f0 := Blk.thaw h 0
  simp only [List.getElem?_toArray, List.getElem?_cons_zero] at c0
  have HB := Lib.hid h
  clear h
  cases b
  · go_enter Tryz.func134, Tryz.ntmps134
    go_wp2_with fail
    go_ret
    exact ⟨rfl, by rw [Bool.or_false]; exact HB.out, grown_same _ _⟩
  · go_enter Tryz.func134, Tryz.ntmps134
    go_wp2_with fail
    go_ret
    exact ⟨rfl, by rw [Bool.or_true]; exact HB.out.set 0 _, grown_setCell _ _ _ _⟩
theorem radd_any (g : Nat) (x : Bool) (a b : Int) (w : World) (h : Bent w 154 g x) (ha : In64 a) (hb : In64 b) :
    Calls Tryz.prog 100 #[.pointer (some ⟨g, 0, none⟩), .int .i64 a, .int .i64 b] w fun e w' => Stepd w w' 154 g x (fadd a b) e := by
  have HB := Lib.hid h
  have HA := Lib.hid ha
  have HC := Lib.hid hb
  clear h ha hb
  go_enter Tryz.func100, Tryz.ntmps100
  go_wp2_with fail
  refine (refAdd_any a b _ HA.out HC.out).mono ?_
  rintro e w1 ⟨rfl, hb1⟩
  have HB1 := Lib.hid (HB.out.below hb1)
  obtain ⟨r, hr⟩ : ∃ r, fadd a b = r := ⟨_, rfl⟩
  have HR := Lib.hid hr
  rw [show stop (a + b) = r from hr]
  clear hr
  obtain ⟨n, b'⟩ := r
  go_wp2_with fail
  refine (rsee_any g x n b' _ HB1.out).mono ?_
  rintro e w2 ⟨rfl, hbe, hg⟩
  have HBE := Lib.hid hbe
  have HG := Lib.hid ((grown_of_below hb1).trans hg)
  clear hbe hg
  go_wp2_with fail
  go_ret
  exact ⟨by rw [HR.out]; rfl, by rw [HR.out]; exact HBE.out, HG.out⟩
theorem rsub_any (g : Nat) (x : Bool) (a b : Int) (w : World) (h : Bent w 154 g x) (ha : In64 a) (hb : In64 b) :
    Calls Tryz.prog 99 #[.pointer (some ⟨g, 0, none⟩), .int .i64 a, .int .i64 b] w fun e w' => Stepd w w' 154 g x (fsub a b) e := by
  have HB := Lib.hid h
  have HA := Lib.hid ha
  have HC := Lib.hid hb
  clear h ha hb
  go_enter Tryz.func99, Tryz.ntmps99
  go_wp2_with fail
  refine (refSub_any a b _ HA.out HC.out).mono ?_
  rintro e w1 ⟨rfl, hb1⟩
  have HB1 := Lib.hid (HB.out.below hb1)
  obtain ⟨r, hr⟩ : ∃ r, fsub a b = r := ⟨_, rfl⟩
  have HR := Lib.hid hr
  rw [show stop (a - b) = r from hr]
  clear hr
  obtain ⟨n, b'⟩ := r
  go_wp2_with fail
  refine (rsee_any g x n b' _ HB1.out).mono ?_
  rintro e w2 ⟨rfl, hbe, hg⟩
  have HBE := Lib.hid hbe
  have HG := Lib.hid ((grown_of_below hb1).trans hg)
  clear hbe hg
  go_wp2_with fail
  go_ret
  exact ⟨by rw [HR.out]; rfl, by rw [HR.out]; exact HBE.out, HG.out⟩
theorem rmul_any (g : Nat) (x : Bool) (a b : Int) (w : World) (h : Bent w 154 g x) (ha : In64 a) (hb : In64 b) :
    Calls Tryz.prog 101 #[.pointer (some ⟨g, 0, none⟩), .int .i64 a, .int .i64 b] w fun e w' => Stepd w w' 154 g x (fmul a b) e := by
  have HB := Lib.hid h
  have HA := Lib.hid ha
  have HC := Lib.hid hb
  clear h ha hb
  go_enter Tryz.func101, Tryz.ntmps101
  go_wp2_with fail
  refine (refMul_any a b _ HA.out HC.out).mono ?_
  rintro e w1 ⟨rfl, hb1⟩
  have HB1 := Lib.hid (HB.out.below hb1)
  obtain ⟨r, hr⟩ : ∃ r, fmul a b = r := ⟨_, rfl⟩
  have HR := Lib.hid hr
  rw [hr]
  clear hr
  obtain ⟨n, b'⟩ := r
  go_wp2_with fail
  refine (rsee_any g x n b' _ HB1.out).mono ?_
  rintro e w2 ⟨rfl, hbe, hg⟩
  have HBE := Lib.hid hbe
  have HG := Lib.hid ((grown_of_below hb1).trans hg)
  clear hbe hg
  go_wp2_with fail
  go_ret
  exact ⟨by rw [HR.out]; rfl, by rw [HR.out]; exact HBE.out, HG.out⟩
end Go.Proofs.YtjfllpmiajkenaaGreat.BigW
namespace Go.Proofs.YtjfllpmiajkenaaGreat.BigW
open Go.RowKit Go.Proofs.YtjfllpmiajkenaaGreat.Mem Go.Proofs.YtjfllpmiajkenaaGreat.BigLaw
set_option linter.unusedVariables false
set_option maxRecDepth 100000 in
set_option maxHeartbeats 8000000 in
theorem bigNeg_any (p px : Nat) (X : Int) (w : World) (hp : IsInt w p) (hx : BigAt w px X) (bx : X.natAbs < pw 100) :
    Calls Tryz.prog 160 #[.pointer (some ⟨p, 0, none⟩), .pointer (some ⟨px, 0, none⟩)] w fun e w' => e = .returned (.pointer (some ⟨p, 0, none⟩)) ∧ BigAt w' p (-X) ∧ w.grownBy w' (some p) := by
  obtain ⟨A, c, l, x0, x1, xw, xt, xv⟩ := hx.parts
  have HL := Lib.hid (len_of xt xv bx)
  have HXW := Lib.hid xw
  have HXT := Lib.hid xt
  have HXV := Lib.hid (show val l = (-X).natAbs by rw [Int.natAbs_neg]; exact xv)
  have HSG := Lib.hid ((sg_self X).neg)
  have HP := Lib.hid hp
  have HPX := Lib.hid hx.lt
  clear xw xt xv hp hx bx
  generalize -X = Z at HXV HSG ⊢
  generalize decide (X < 0) = xn at x0 HSG
  go_enter Tryz.func160, Tryz.ntmps160
  go_wp2_with fail
  go_region_law (first
    | (go_simp; go_at_call 176; refine (twin_any A c l _ _ (Nat.le_refl _) HXW.out.drew HL.out).mono ?_; rintro e w1 ⟨A1, c1, rfl, hw1, hb1⟩; have x0' := (below_cell hb1 px 0 HPX.out).trans x0)
    | (go_simp; go_at_call 95; refine (give_big p _ A1 l c1 _ Z (HP.out.drew.below hb1 HP.out.lt) hw1 HXT.out HXV.out (sign_of HXT.out HXV.out _ HSG.out)).mono ?_; rintro e w2 ⟨rfl, hz2, hg2⟩))
  all_goals
    have HZ := Lib.hid hz2
    clear hz2
    go_wp2_with fail
    go_ret
    exact ⟨rfl, HZ.out, (show w.grownBy w1 (some p) from ⟨hb1.os, hb1.tape, hb1.output, hb1.size, fun g hg _ => hb1.block g hg⟩).trans hg2⟩
end Go.Proofs.YtjfllpmiajkenaaGreat.BigW
namespace Go.Proofs.YtjfllpmiajkenaaGreat.FixDivLaw
def nearest (a b : Int) : Int := if b < 0 then (-a * 8589934592 + -b) / (2 * -b) else (a * 8589934592 + b) / (2 * b)
theorem near_pos {q d r : Int} (hr : 0 ≤ r) (hrd : r < d) : (2 * (q * d + r) + d) / (2 * d) = q + if d ≤ 2 * r then 1 else 0 := by
  have e : 2 * (q * d + r) + d = (2 * r + d) + (2 * d) * q := by
    rw [Int.mul_add, Int.mul_assoc 2 d q, Int.mul_comm d q]; omega
  rw [e, Int.add_mul_ediv_left _ _ (by omega)]
  split
  · have : (2 * r + d) / (2 * d) = 1 := by
      refine Int.le_antisymm ?_ ?_
      · exact Int.le_of_lt_add_one (Int.ediv_lt_of_lt_mul (by omega) (by omega))
      · exact (Int.le_ediv_iff_mul_le (by omega)).2 (by omega)
    omega
  · have : (2 * r + d) / (2 * d) = 0 := Int.ediv_eq_zero_of_lt (by omega) (by omega)
    omega
theorem near_neg {q d r : Int} (hr : 0 ≤ r) (hrd : r < d) : (-(2 * (q * d + r)) + d) / (2 * d) = -(q + if d < 2 * r then 1 else 0) := by
  have e : -(2 * (q * d + r)) + d = (d - 2 * r) + (2 * d) * (-q) := by
    rw [Int.mul_add, Int.mul_neg, Int.mul_assoc 2 d q, Int.mul_comm d q]; omega
  rw [e, Int.add_mul_ediv_left _ _ (by omega)]
  split
  · have : (d - 2 * r) / (2 * d) = -1 := by
      refine Int.le_antisymm ?_ ?_
      · exact Int.le_of_lt_add_one (Int.ediv_lt_of_lt_mul (by omega) (by omega))
      · exact (Int.le_ediv_iff_mul_le (by omega)).2 (by omega)
    omega
  · have : (d - 2 * r) / (2 * d) = 0 := Int.ediv_eq_zero_of_lt (by omega) (by omega)
    omega
theorem quot_two (N hi lo d : Nat) (hd : 0 < d) (h1 : N = hi * 18446744073709551616 + lo) :
    (hi / d) * 18446744073709551616 + (hi % d * 18446744073709551616 + lo) / d = N / d ∧ (hi % d * 18446744073709551616 + lo) % d = N % d := by
  have h2 := Nat.div_add_mod hi d
  have e : N = (hi % d * 18446744073709551616 + lo) + d * (hi / d * 18446744073709551616) := by
    have h3 : hi * 18446744073709551616 = (d * (hi / d) + hi % d) * 18446744073709551616 := congrArg (· * 18446744073709551616) h2.symm
    rw [h1, h3, Nat.add_mul, Nat.mul_assoc]
    omega
  rw [e]
  exact ⟨by rw [Nat.add_mul_div_left _ _ hd, Nat.add_comm], by rw [Nat.add_mul_mod_self_left]⟩
theorem quot_sum (N d : Nat) : (N : Int) = ((N / d : Nat) : Int) * (d : Int) + ((N % d : Nat) : Int) := by
  have := Nat.div_add_mod N d
  rw [Nat.mul_comm] at this
  rw [← Int.natCast_mul, ← Int.natCast_add, this]
theorem nearest_same {a b : Int} (h : (a < 0 ∧ b < 0) ∨ (0 ≤ a ∧ 0 < b)) : nearest a b = ((a.natAbs * 4294967296 / b.natAbs + if b.natAbs ≤ 2 * (a.natAbs * 4294967296 % b.natAbs) then 1 else 0 : Nat) : Int) := by
  have hb : 0 < b.natAbs := by omega
  have hr := Nat.mod_lt (a.natAbs * 4294967296) hb
  have hs := quot_sum (a.natAbs * 4294967296) b.natAbs
  have hn := near_pos (q := ((a.natAbs * 4294967296 / b.natAbs : Nat) : Int)) (d := (b.natAbs : Int)) (r := ((a.natAbs * 4294967296 % b.natAbs : Nat) : Int)) (by omega) (by omega)
  rw [← hs] at hn
  have e : nearest a b = (2 * ((a.natAbs * 4294967296 : Nat) : Int) + (b.natAbs : Int)) / (2 * (b.natAbs : Int)) := by
    unfold nearest
    rcases h with ⟨h1, h2⟩ | ⟨h1, h2⟩
    · rw [if_pos h2]
      have e1 : -a * 8589934592 + -b = 2 * ((a.natAbs * 4294967296 : Nat) : Int) + (b.natAbs : Int) := by omega
      have e2 : -b = (b.natAbs : Int) := by omega
      rw [e1, e2]
    · rw [if_neg (by omega)]
      have e1 : a * 8589934592 + b = 2 * ((a.natAbs * 4294967296 : Nat) : Int) + (b.natAbs : Int) := by omega
      have e2 : b = (b.natAbs : Int) := by omega
      rw [e1, ← e2]
  rw [e, hn]
  generalize a.natAbs * 4294967296 / b.natAbs = q
  generalize a.natAbs * 4294967296 % b.natAbs = r
  by_cases hc : b.natAbs ≤ 2 * r
  · rw [if_pos hc, if_pos (by omega)]; omega
  · rw [if_neg hc, if_neg (by omega)]; omega
theorem nearest_other {a b : Int} (h : (a < 0 ∧ 0 < b) ∨ (0 ≤ a ∧ b < 0)) : nearest a b = -((a.natAbs * 4294967296 / b.natAbs + if b.natAbs < 2 * (a.natAbs * 4294967296 % b.natAbs) then 1 else 0 : Nat) : Int) := by
  have hb : 0 < b.natAbs := by omega
  have hr := Nat.mod_lt (a.natAbs * 4294967296) hb
  have hs := quot_sum (a.natAbs * 4294967296) b.natAbs
  have hn := near_neg (q := ((a.natAbs * 4294967296 / b.natAbs : Nat) : Int)) (d := (b.natAbs : Int)) (r := ((a.natAbs * 4294967296 % b.natAbs : Nat) : Int)) (by omega) (by omega)
  rw [← hs] at hn
  have e : nearest a b = (-(2 * ((a.natAbs * 4294967296 : Nat) : Int)) + (b.natAbs : Int)) / (2 * (b.natAbs : Int)) := by
    unfold nearest
    rcases h with ⟨h1, h2⟩ | ⟨h1, h2⟩
    · rw [if_neg (by omega)]
      have e1 : a * 8589934592 + b = -(2 * ((a.natAbs * 4294967296 : Nat) : Int)) + (b.natAbs : Int) := by omega
      have e2 : b = (b.natAbs : Int) := by omega
      rw [e1, ← e2]
    · rw [if_pos h2]
      have e1 : -a * 8589934592 + -b = -(2 * ((a.natAbs * 4294967296 : Nat) : Int)) + (b.natAbs : Int) := by omega
      have e2 : -b = (b.natAbs : Int) := by omega
      rw [e1, e2]
  rw [e, hn]
  generalize a.natAbs * 4294967296 / b.natAbs = q
  generalize a.natAbs * 4294967296 % b.natAbs = r
  by_cases hc : b.natAbs < 2 * r
  · rw [if_pos hc, if_pos (by omega)]; omega
  · rw [if_neg hc, if_neg (by omega)]; omega
end Go.Proofs.YtjfllpmiajkenaaGreat.FixDivLaw
namespace Go.Proofs.YtjfllpmiajkenaaGreat.BigW
open Go.RowKit Go.Proofs.YtjfllpmiajkenaaGreat.Mem Go.Proofs.YtjfllpmiajkenaaGreat.BigLaw Go.Proofs.YtjfllpmiajkenaaGreat.FixDivLaw
set_option linter.unusedVariables false
def fdiv (a b : Int) : Int × Bool := if b = 0 then (if 0 < a then (9223372036854775807, true) else if a < 0 then (-9223372036854775808, true) else (0, true)) else stop (nearest a b)
set_option maxRecDepth 100000 in
set_option maxHeartbeats 2000000 in
theorem refDiv_any (a b : Int) (w : World) (ha : -9223372036854775808 ≤ a ∧ a ≤ 9223372036854775807) (hb : -9223372036854775808 ≤ b ∧ b ≤ 9223372036854775807) :
    Calls Tryz.prog 137 #[.int .i64 a, .int .i64 b] w fun e w' => e = .returned (.tuple #[.int .i64 (fdiv a b).1, .bool (fdiv a b).2]) ∧ Below w.heap.size w w' := by
  have HA := Lib.hid ha
  have HB := Lib.hid hb
  by_cases h0 : b = 0
  · subst h0
    rcases Int.lt_trichotomy a 0 with h | h | h
    · have HF := Lib.hid (show fdiv a 0 = (-9223372036854775808, true) by unfold fdiv; rw [if_pos rfl, if_neg (by omega), if_pos h])
      clear ha hb
      go_enter Tryz.func137, Tryz.ntmps137
      go_wp2_with fail
      go_ret2
      exact ⟨by rw [HF.out]; rfl, Below.refl _ _⟩
    · subst h
      have HF := Lib.hid (show fdiv 0 0 = (0, true) by unfold fdiv; rw [if_pos rfl, if_neg (by omega), if_neg (by omega)])
      clear ha hb
      go_enter Tryz.func137, Tryz.ntmps137
      go_wp2_with fail
      go_ret2
      exact ⟨by rw [HF.out]; rfl, Below.refl _ _⟩
    · have HF := Lib.hid (show fdiv a 0 = (9223372036854775807, true) by unfold fdiv; rw [if_pos rfl, if_pos h])
      clear ha hb
      go_enter Tryz.func137, Tryz.ntmps137
      go_wp2_with fail
      go_ret2
      exact ⟨by rw [HF.out]; rfl, Below.refl _ _⟩
  · have hb0 : (b == 0) = false := by simp [h0]
    have HF := Lib.hid (show fdiv a b = stop (nearest a b) by unfold fdiv; rw [if_neg h0])
    have HI := Lib.hid (isInt_new w)
    have H0 := Lib.hid h0
    clear ha hb h0
    go_enter Tryz.func137, Tryz.ntmps137
    go_wp2_with fail
    refine (whole_any a _ HA.out).mono ?_
    rintro e w1 ⟨p1, rfl, hp1, hz1, hb1⟩
    have HZ1 := Lib.hid hz1
    have HI1 := Lib.hid (HI.out.below hb1 HI.out.lt)
    have HB1 := Lib.hid (onward ((Below.refl w.heap.size w).alloc (Nat.le_refl _) (.cells #[.bool false, .slice none 0 0] 149)) (Nat.le_refl _) hb1)
    clear hz1
    go_wp2_with fail
    refine (bigLsh_any w.heap.size p1 a 33 1 1 _ HI1.out HZ1.out (small_pw (by have := HA.out; omega)) rfl (by omega) (by omega)).mono ?_
    rintro e w2 ⟨rfl, hz2, hg2⟩
    have HZ2 := Lib.hid hz2
    have HB2 := Lib.hid (below_grown HB1.out (Nat.le_refl _) hg2 (fun g e => by injection e with e; omega))
    clear hz2 hg2
    go_wp2_with fail
    refine (whole_any b _ HB.out).mono ?_
    rintro e w3 ⟨p3, rfl, hp3, hz3, hb3⟩
    have HZ3 := Lib.hid hz3
    have HZ23 := Lib.hid (HZ2.out.below hb3)
    have HB3 := Lib.hid (onward HB2.out (Nat.le_refl _) hb3)
    clear hz3
    have hps : w.heap.size ≠ p3 := by have := HZ2.out.lt; omega
    by_cases hn : b < 0
    · have HXB := Lib.hid (show (-(a * 2 ^ 33)).natAbs ≤ 79228162514264337593543950336 by have := HA.out; omega)
      have HYB := Lib.hid (show 0 < -b ∧ -b ≤ 9223372036854775808 by have := HB.out; omega)
      have HNE := Lib.hid (show (-(a * 2 ^ 33) + -b) / (-b * 2 ^ 1) = nearest a b by
        unfold nearest; rw [if_pos hn]
        rw [show -(a * 2 ^ 33) + -b = -a * 8589934592 + -b by omega, show -b * 2 ^ 1 = 2 * -b by omega])
      go_wp2_with fail
      refine (bigNeg_any w.heap.size w.heap.size (a * 2 ^ 33) _ HZ23.out.isInt HZ23.out (small_pw (by have := HA.out; omega))).mono ?_
      rintro e w4 ⟨rfl, hz4, hg4⟩
      have HZ4 := Lib.hid hz4
      have HZ34 := Lib.hid (HZ3.out.grown HZ23.out.isInt hg4 (fun e => hps e.symm))
      have HB4 := Lib.hid (below_grown HB3.out (Nat.le_refl _) hg4 (fun g e => by injection e with e; omega))
      clear hz4 hg4
      go_wp2_with fail
      refine (bigNeg_any p3 p3 b _ HZ34.out.isInt HZ34.out (small_pw (by have := HB.out; omega))).mono ?_
      rintro e w5 ⟨rfl, hz5, hg5⟩
      have HD := Lib.hid hz5
      have HN := Lib.hid (HZ4.out.grown HZ34.out.isInt hg5 hps)
      have HB5 := Lib.hid (below_grown HB4.out (Nat.le_refl _) hg5 (fun g e => by injection e with e; have := HB2.out.size; omega))
      clear hz5 hg5
      generalize -(a * 2 ^ 33) = X at HXB HNE HN
      generalize -b = Y at HYB HNE HD
      clear hn
      go_wp2_with fail
      refine (bigAdd_any w.heap.size w.heap.size p3 X Y _ HN.out.isInt HN.out HD.out (small_pw (by have := HXB.out; omega)) (small_pw (by have := HYB.out; omega))).mono ?_
      rintro e w6 ⟨rfl, hz6, hg6⟩
      have HZ6 := Lib.hid hz6
      have HD6 := Lib.hid (HD.out.grown HN.out.isInt hg6 (by omega))
      have HB6 := Lib.hid (below_grown HB5.out (Nat.le_refl _) hg6 (fun g e => by injection e with e; omega))
      have HI6 := Lib.hid (isInt_new w6)
      have HD7 := Lib.hid (HD6.out.alloc (.cells #[.bool false, .slice none 0 0] 149))
      have HZ7 := Lib.hid (HZ6.out.alloc (.cells #[.bool false, .slice none 0 0] 149))
      have HB7 := Lib.hid (HB6.out.alloc HB6.out.size (.cells #[.bool false, .slice none 0 0] 149))
      clear hz6 hg6
      go_wp2_with fail
      refine (bigLsh_any w6.heap.size p3 Y 1 0 1 _ HI6.out HD7.out (small_pw (by have := HYB.out; omega)) rfl (by omega) (by omega)).mono ?_
      rintro e w8 ⟨rfl, hz8, hg8⟩
      have HZ8 := Lib.hid hz8
      have HZ68 := Lib.hid (HZ7.out.grown HI6.out hg8 (by have := HZ6.out.lt; omega))
      have HB8 := Lib.hid (below_grown HB7.out (Nat.le_refl _) hg8 (fun g e => by injection e with e; have := HB6.out.size; omega))
      clear hz8 hg8
      go_wp2_with fail
      refine (down_any w.heap.size w6.heap.size (X + Y) (Y * 2 ^ 1) _ HZ68.out HZ8.out (small_pw (by have := HXB.out; have := HYB.out; omega)) (by have := HYB.out; omega) (small_pw (by have := HYB.out; omega))).mono ?_
      rintro e w9 ⟨p9, rfl, hp9, hz9, hb9⟩
      have HZ9 := Lib.hid hz9
      have HB9 := Lib.hid (onward HB8.out (Nat.le_refl _) hb9)
      have HQB := Lib.hid (show ((X + Y) / (Y * 2 ^ 1)).natAbs ≤ (X + Y).natAbs from Int.natAbs_ediv_le_natAbs _ _)
      clear hz9
      go_wp2_with fail
      refine (stop_any p9 _ _ HZ9.out (small_pw (by have := HQB.out; have := HXB.out; have := HYB.out; omega))).mono ?_
      rintro e w10 ⟨rfl, rfl⟩
      rw [show (X + Y) / (Y * 2 ^ 1) = nearest a b from HNE.out]
      obtain ⟨r, hr⟩ : ∃ r, stop (nearest a b) = r := ⟨_, rfl⟩
      have HR := Lib.hid (HF.out.trans hr)
      rw [hr]
      clear hr
      go_wp2_with fail
      go_ret2
      exact ⟨by rw [HR.out]; rfl, HB9.out⟩
    · have HXB := Lib.hid (show (a * 2 ^ 33).natAbs ≤ 79228162514264337593543950336 by have := HA.out; omega)
      have HYB := Lib.hid (show 0 < b ∧ b ≤ 9223372036854775808 by have := HB.out; have := H0.out; omega)
      have HNE := Lib.hid (show (a * 2 ^ 33 + b) / (b * 2 ^ 1) = nearest a b by
        unfold nearest; rw [if_neg hn]
        rw [show a * 2 ^ 33 + b = a * 8589934592 + b by omega, show b * 2 ^ 1 = 2 * b by omega])
      have HD := HZ3
      have HN := HZ23
      have HB5 := HB3
      obtain ⟨X, hX⟩ : ∃ X, a * 2 ^ 33 = X := ⟨_, rfl⟩
      obtain ⟨Y, hY⟩ : ∃ Y, b = Y := ⟨_, rfl⟩
      rw [hX] at HXB HNE HN
      rw [hY] at HYB HD
      have HNE : Hid ((X + Y) / (Y * 2 ^ 1) = nearest a b) := Lib.hid (by rw [← hY]; exact HNE.out)
      clear hX hY HZ3 HZ23
      go_wp2_with fail
      refine (bigAdd_any w.heap.size w.heap.size p3 X Y _ HN.out.isInt HN.out HD.out (small_pw (by have := HXB.out; omega)) (small_pw (by have := HYB.out; omega))).mono ?_
      rintro e w6 ⟨rfl, hz6, hg6⟩
      have HZ6 := Lib.hid hz6
      have HD6 := Lib.hid (HD.out.grown HN.out.isInt hg6 (by omega))
      have HB6 := Lib.hid (below_grown HB5.out (Nat.le_refl _) hg6 (fun g e => by injection e with e; omega))
      have HI6 := Lib.hid (isInt_new w6)
      have HD7 := Lib.hid (HD6.out.alloc (.cells #[.bool false, .slice none 0 0] 149))
      have HZ7 := Lib.hid (HZ6.out.alloc (.cells #[.bool false, .slice none 0 0] 149))
      have HB7 := Lib.hid (HB6.out.alloc HB6.out.size (.cells #[.bool false, .slice none 0 0] 149))
      clear hz6 hg6
      go_wp2_with fail
      refine (bigLsh_any w6.heap.size p3 Y 1 0 1 _ HI6.out HD7.out (small_pw (by have := HYB.out; omega)) rfl (by omega) (by omega)).mono ?_
      rintro e w8 ⟨rfl, hz8, hg8⟩
      have HZ8 := Lib.hid hz8
      have HZ68 := Lib.hid (HZ7.out.grown HI6.out hg8 (by have := HZ6.out.lt; omega))
      have HB8 := Lib.hid (below_grown HB7.out (Nat.le_refl _) hg8 (fun g e => by injection e with e; have := HB6.out.size; omega))
      clear hz8 hg8
      go_wp2_with fail
      refine (down_any w.heap.size w6.heap.size (X + Y) (Y * 2 ^ 1) _ HZ68.out HZ8.out (small_pw (by have := HXB.out; have := HYB.out; omega)) (by have := HYB.out; omega) (small_pw (by have := HYB.out; omega))).mono ?_
      rintro e w9 ⟨p9, rfl, hp9, hz9, hb9⟩
      have HZ9 := Lib.hid hz9
      have HB9 := Lib.hid (onward HB8.out (Nat.le_refl _) hb9)
      have HQB := Lib.hid (show ((X + Y) / (Y * 2 ^ 1)).natAbs ≤ (X + Y).natAbs from Int.natAbs_ediv_le_natAbs _ _)
      clear hz9
      go_wp2_with fail
      refine (stop_any p9 _ _ HZ9.out (small_pw (by have := HQB.out; have := HXB.out; have := HYB.out; omega))).mono ?_
      rintro e w10 ⟨rfl, rfl⟩
      rw [show (X + Y) / (Y * 2 ^ 1) = nearest a b from HNE.out]
      obtain ⟨r, hr⟩ : ∃ r, stop (nearest a b) = r := ⟨_, rfl⟩
      have HR := Lib.hid (HF.out.trans hr)
      rw [hr]
      clear hr
      go_wp2_with fail
      go_ret2
      exact ⟨by rw [HR.out]; rfl, HB9.out⟩
end Go.Proofs.YtjfllpmiajkenaaGreat.BigW
namespace Go.Proofs.YtjfllpmiajkenaaGreat.Len
open Go.Shelf
def lays134_ren : Go.Shelf.Ren := ⟨fun | 134 => 175 | 129 => 174 | n => n, fun | 53 => 150 | 3 => 3 | 4 => 4 | 46 => 109 | 5 => 5 | 9 => 9 | n => n, fun | n => n⟩
theorem lays134 : Go.Proofs.Lays.n134 Tryz.prog lays134_ren := {
  mixed := by kernel_rfl
  f129 := Tryz.func174.trans (congrArg some (by kernel_rfl))
  f134 := Tryz.func175.trans (congrArg some (by kernel_rfl))
  t3 := Tryz.underlying3
  a3 := Tryz.isAgg3
  z3 := Tryz.sizeOf3
  v3 := Tryz.zeroValue3
  t4 := Tryz.underlying4
  a4 := Tryz.isAgg4
  z4 := Tryz.sizeOf4
  v4 := Tryz.zeroValue4
  t5 := Tryz.underlying5
  a5 := Tryz.isAgg5
  z5 := Tryz.sizeOf5
  v5 := Tryz.zeroValue5
  t9 := Tryz.underlying9
  a9 := Tryz.isAgg9
  z9 := Tryz.sizeOf9
  v9 := Tryz.zeroValue9
  t46 := Tryz.underlying109
  a46 := Tryz.isAgg109
  z46 := Tryz.sizeOf109
  v46 := Tryz.zeroValue109
  t53 := Tryz.underlying150
  a53 := Tryz.isAgg150
  z53 := Tryz.sizeOf150
  v53 := Tryz.zeroValue150 }
theorem leadingZeros_any (x : Int) (w : World) (h0 : 0 ≤ x) (h1 : x ≤ 18446744073709551615) :
    Calls Tryz.prog 175 #[.int .u64 x] w fun e w' => e = .returned (.int .i64 (64 - (Lib.bitLen x.toNat : Int))) ∧ w' = w := Any.bits_LeadingZeros64 lays134 x w h0 h1
end Go.Proofs.YtjfllpmiajkenaaGreat.Len
