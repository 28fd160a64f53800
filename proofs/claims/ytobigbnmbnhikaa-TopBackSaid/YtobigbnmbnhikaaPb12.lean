import Derived.Test.YtobigbnmbnhikaaPb0
import Derived.Test.YtobigbnmbnhikaaPb11
import Derived.Deep.DeepCutAuto
import Derived.Shelf.Small.Bits
import Derived.Test.YtobigbnmbnhikaaProg
import Derived.IntWalk
import Derived.Deep.CutBlock
set_option linter.unusedVariables false
set_option linter.unusedSimpArgs false
namespace Go.Proofs.Ytobigbnmbnhikaa
namespace BigW
open Go.RowKit Mem BigLaw
def fmul (a b : Int) : Int × Bool := stop ((a * b + 2147483648) / 4294967296)
theorem mul_bd {a b : Int} (ha : -9223372036854775808 ≤ a ∧ a ≤ 9223372036854775807) (hb : -9223372036854775808 ≤ b ∧ b ≤ 9223372036854775807) : a.natAbs * b.natAbs ≤ 85070591730234615865843651857942052864 :=
 Nat.mul_le_mul (show a.natAbs ≤ 9223372036854775808 by omega) (show b.natAbs ≤ 9223372036854775808 by omega)
theorem mul_neg1 {a b : Int} (h : (a < 0 ∧ 0 ≤ b) ∨ (0 ≤ a ∧ b < 0)) : a * b = -((a.natAbs * b.natAbs : Nat) : Int) := by
 rw [Int.natCast_mul]
 rcases h with ⟨h1, h2⟩ | ⟨h1, h2⟩
 · rw [show (a.natAbs : Int) = -a by omega, show (b.natAbs : Int) = b by omega, Int.neg_mul, Int.neg_neg]
 · rw [show (a.natAbs : Int) = a by omega, show (b.natAbs : Int) = -b by omega, Int.mul_neg, Int.neg_neg]
theorem mul_pos1 {a b : Int} (h : (a < 0 ∧ b < 0) ∨ (0 ≤ a ∧ 0 ≤ b)) : a * b = ((a.natAbs * b.natAbs : Nat) : Int) := by
 rw [Int.natCast_mul]
 rcases h with ⟨h1, h2⟩ | ⟨h1, h2⟩
 · rw [show (a.natAbs : Int) = -a by omega, show (b.natAbs : Int) = -b by omega, Int.neg_mul_neg]
 · rw [show (a.natAbs : Int) = a by omega, show (b.natAbs : Int) = b by omega]
theorem or_halves (x y : Nat) (hx : x < 18446744073709551616) (hy : y < 4294967296) : bits .or .u64 ((x : Int) / 4294967296) ((y : Int) * 4294967296) = ((y * 4294967296 + x / 4294967296 : Nat) : Int) := by
 have h := or64 (x / 4294967296) y (by omega) hy
 have e : ((x / 4294967296 : Nat) : Int) = (x : Int) / 4294967296 := by omega
 rw [e] at h; rw [h]; omega
theorem mul_tail (P h : Nat) (hP : P ≤ 85070591730234615865843651857942052864) (hh : h ≤ 2147483648) :
  wideN ((P / 18446744073709551616 + (P % 18446744073709551616 + h) / 18446744073709551616) / 4294967296)
   ((P / 18446744073709551616 + (P % 18446744073709551616 + h) / 18446744073709551616) % 4294967296 * 4294967296 + (P % 18446744073709551616 + h) % 18446744073709551616 / 4294967296) = (P + h) / 4294967296 := by
 unfold wideN
 omega
set_option maxHeartbeats 1000000 in
theorem fixMul_0 (a b : Int) (w : World) (h1 : a < 0) (h2 : b < 0) (ha : -9223372036854775808 ≤ a ∧ a ≤ 9223372036854775807) (hb : -9223372036854775808 ≤ b ∧ b ≤ 9223372036854775807) :
  Calls Try.prog 80 #[.int .i64 a, .int .i64 b] w fun e w' => e = .returned (.tuple #[.int .i64 (fmul a b).1, .bool (fmul a b).2]) ∧ Below w.heap.size w w' := by
 have HA := zz ha; have HB := zz hb; have hbd := mul_bd ha hb
 have HNA := zz (show a.natAbs < 18446744073709551616 by omega)
 have HNB := zz (show b.natAbs < 18446744073709551616 by omega)
 have HBD := zz hbd; clear ha hb
 have HE := zz (show sgd false ((a.natAbs * b.natAbs + 2147483648) / 4294967296) = (a * b + 2147483648) / 4294967296 by
  rw [mul_pos1 (.inl ⟨h1, h2⟩)]; show (((a.natAbs * b.natAbs + 2147483648) / 4294967296 : Nat) : Int) = _; omega)
 have HT := zz (mul_tail (a.natAbs * b.natAbs) 2147483648 HBD.out (by omega)); clear hbd
 go_enter Try.func80, Try.ntmps80
 go_wp2_with fail; refine (size_any a _ HA.out).mono ?_; rintro e w1 ⟨rfl, rfl⟩; go_wp2_with fail; refine (size_any b _ HB.out).mono ?_; rintro e w1 ⟨rfl, rfl⟩; go_wp2_with fail; refine (mul64_any a.natAbs b.natAbs HNA.out HNB.out _).mono ?_; rintro e w1 ⟨rfl, rfl⟩; generalize a.natAbs * b.natAbs = P at HBD HE HT ⊢
 have hH0 : P / 18446744073709551616 ≤ 4611686018427387904 := by have := HBD.out; omega
 have hL0 : P % 18446744073709551616 < 18446744073709551616 := by omega
 generalize P / 18446744073709551616 = H0 at hH0 HT ⊢; generalize P % 18446744073709551616 = L0 at hL0 HT ⊢; have HAdd := fun w => add64_at L0 2147483648 2147483648 (by omega) w
 have hC : (L0 + 2147483648) / 18446744073709551616 ≤ 1 := by omega
 have hL1 : (L0 + 2147483648) % 18446744073709551616 < 18446744073709551616 := by omega
 generalize (L0 + 2147483648) / 18446744073709551616 = C at hC HT HAdd; generalize (L0 + 2147483648) % 18446744073709551616 = L1 at hL1 HT HAdd
 have hM : (H0 + C) % 4294967296 < 4294967296 := by omega
 have hw : IntKind.u64.wrap (((H0 : Int) + (C : Int)) * 4294967296) = (((H0 + C) % 4294967296 : Nat) : Int) * 4294967296 := by rw [u64wrap]; omega
 have hor := or_halves L1 _ hL1 hM; generalize (H0 + C) % 4294967296 = M at hM hw hor HT
 have hL2 : M * 4294967296 + L1 / 4294967296 < 18446744073709551616 := by omega
 have hH2 : (H0 + C) / 4294967296 < 18446744073709551616 := by omega
 generalize hq : M * 4294967296 + L1 / 4294967296 = L2 at hL2 hor HT
 have hq2 : ((H0 : Int) + (C : Int)) / 4294967296 = (((H0 + C) / 4294967296 : Nat) : Int) := by omega
 generalize (H0 + C) / 4294967296 = H2 at hH2 hq2 HT; clear hq; rw [← HT.out] at HE; go_wp2_with fail; refine (bound_any false H2 L2 _ hH2 hL2).mono ?_; rintro e w1 ⟨rfl, hb⟩; rw [HE.out]
 have HF := zz (show stop ((a * b + 2147483648) / 4294967296) = fmul a b from rfl)
 rw [HF.out]; have HBL := zz (onward ((Below.refl w.heap.size w).alloc (Nat.le_refl _) _) (Nat.le_refl _) hb); generalize hr : fmul a b = r; have HR := zz hr; clear HE HT hb hr; go_wp2_with fail
 go_ret2
 exact ⟨by rw [HR.out]; rfl, HBL.out⟩
set_option maxHeartbeats 1000000 in
theorem fixMul_1 (a b : Int) (w : World) (h1 : a < 0) (h2 : ¬ b < 0) (ha : -9223372036854775808 ≤ a ∧ a ≤ 9223372036854775807) (hb : -9223372036854775808 ≤ b ∧ b ≤ 9223372036854775807) :
  Calls Try.prog 80 #[.int .i64 a, .int .i64 b] w fun e w' => e = .returned (.tuple #[.int .i64 (fmul a b).1, .bool (fmul a b).2]) ∧ Below w.heap.size w w' := by
 have HA := zz ha; have HB := zz hb; have hbd := mul_bd ha hb
 have HNA := zz (show a.natAbs < 18446744073709551616 by omega)
 have HNB := zz (show b.natAbs < 18446744073709551616 by omega)
 have HBD := zz hbd; clear ha hb
 have HE := zz (show sgd true ((a.natAbs * b.natAbs + 2147483647) / 4294967296) = (a * b + 2147483648) / 4294967296 by
  rw [mul_neg1 (.inl ⟨h1, by omega⟩)]; unfold sgd; rw [if_pos rfl]; omega)
 have HT := zz (mul_tail (a.natAbs * b.natAbs) 2147483647 HBD.out (by omega)); clear hbd
 go_enter Try.func80, Try.ntmps80
 go_wp2_with fail; refine (size_any a _ HA.out).mono ?_; rintro e w1 ⟨rfl, rfl⟩; go_wp2_with fail; refine (size_any b _ HB.out).mono ?_; rintro e w1 ⟨rfl, rfl⟩; go_wp2_with fail; refine (mul64_any a.natAbs b.natAbs HNA.out HNB.out _).mono ?_; rintro e w1 ⟨rfl, rfl⟩; generalize a.natAbs * b.natAbs = P at HBD HE HT ⊢
 have hH0 : P / 18446744073709551616 ≤ 4611686018427387904 := by have := HBD.out; omega
 have hL0 : P % 18446744073709551616 < 18446744073709551616 := by omega
 generalize P / 18446744073709551616 = H0 at hH0 HT ⊢; generalize P % 18446744073709551616 = L0 at hL0 HT ⊢
 go_upto_region 3 with fail
 go_cut [7] (fun s7 wx => ∃ hf : Nat, s7 = .int .u64 (hf : Int) ∧ Hid (hf = 2147483648) ∧ wx = w.alloc (.cells #[.bool true, .int .u64 (H0 : Int), .int .u64 (L0 : Int)] 158))
 case first =>
  go_wp2_with fail
  go_meet
  exact ⟨2147483648, rfl, zz rfl, rfl⟩
 obtain ⟨hf, rfl, HHF, rfl⟩ := hcut
 have hf1 : (1 : Int) ≤ (hf : Int) := by have := HHF.out; omega
 have hf2 : (hf : Int) ≤ 4294967296 := by have := HHF.out; omega
 have HAdd := fun w => add64_at L0 2147483647 ((hf : Int) - 1) (by have := HHF.out; omega) w
 have hC : (L0 + 2147483647) / 18446744073709551616 ≤ 1 := by omega
 have hL1 : (L0 + 2147483647) % 18446744073709551616 < 18446744073709551616 := by omega
 generalize (L0 + 2147483647) / 18446744073709551616 = C at hC HT HAdd; generalize (L0 + 2147483647) % 18446744073709551616 = L1 at hL1 HT HAdd
 have hM : (H0 + C) % 4294967296 < 4294967296 := by omega
 have hw : IntKind.u64.wrap (((H0 : Int) + (C : Int)) * 4294967296) = (((H0 + C) % 4294967296 : Nat) : Int) * 4294967296 := by rw [u64wrap]; omega
 have hor := or_halves L1 _ hL1 hM; generalize (H0 + C) % 4294967296 = M at hM hw hor HT
 have hL2 : M * 4294967296 + L1 / 4294967296 < 18446744073709551616 := by omega
 have hH2 : (H0 + C) / 4294967296 < 18446744073709551616 := by omega
 generalize hq : M * 4294967296 + L1 / 4294967296 = L2 at hL2 hor HT
 have hq2 : ((H0 : Int) + (C : Int)) / 4294967296 = (((H0 + C) / 4294967296 : Nat) : Int) := by omega
 generalize (H0 + C) / 4294967296 = H2 at hH2 hq2 HT; clear hq; rw [← HT.out] at HE; go_wp2_with fail; refine (bound_any true H2 L2 _ hH2 hL2).mono ?_; rintro e w1 ⟨rfl, hb⟩; rw [HE.out]
 have HF := zz (show stop ((a * b + 2147483648) / 4294967296) = fmul a b from rfl)
 rw [HF.out]; have HBL := zz (onward ((Below.refl w.heap.size w).alloc (Nat.le_refl _) _) (Nat.le_refl _) hb); generalize hr : fmul a b = r; have HR := zz hr; clear HE HT hb hr; go_wp2_with fail
 go_ret2
 exact ⟨by rw [HR.out]; rfl, HBL.out⟩
set_option maxHeartbeats 1000000 in
theorem fixMul_2 (a b : Int) (w : World) (h1 : ¬ a < 0) (h2 : b < 0) (ha : -9223372036854775808 ≤ a ∧ a ≤ 9223372036854775807) (hb : -9223372036854775808 ≤ b ∧ b ≤ 9223372036854775807) :
  Calls Try.prog 80 #[.int .i64 a, .int .i64 b] w fun e w' => e = .returned (.tuple #[.int .i64 (fmul a b).1, .bool (fmul a b).2]) ∧ Below w.heap.size w w' := by
 have HA := zz ha; have HB := zz hb; have hbd := mul_bd ha hb
 have HNA := zz (show a.natAbs < 18446744073709551616 by omega)
 have HNB := zz (show b.natAbs < 18446744073709551616 by omega)
 have HBD := zz hbd; clear ha hb
 have HE := zz (show sgd true ((a.natAbs * b.natAbs + 2147483647) / 4294967296) = (a * b + 2147483648) / 4294967296 by
  rw [mul_neg1 (.inr ⟨by omega, h2⟩)]; unfold sgd; rw [if_pos rfl]; omega)
 have HT := zz (mul_tail (a.natAbs * b.natAbs) 2147483647 HBD.out (by omega)); clear hbd
 go_enter Try.func80, Try.ntmps80
 go_wp2_with fail; refine (size_any a _ HA.out).mono ?_; rintro e w1 ⟨rfl, rfl⟩; go_wp2_with fail; refine (size_any b _ HB.out).mono ?_; rintro e w1 ⟨rfl, rfl⟩; go_wp2_with fail; refine (mul64_any a.natAbs b.natAbs HNA.out HNB.out _).mono ?_; rintro e w1 ⟨rfl, rfl⟩; generalize a.natAbs * b.natAbs = P at HBD HE HT ⊢
 have hH0 : P / 18446744073709551616 ≤ 4611686018427387904 := by have := HBD.out; omega
 have hL0 : P % 18446744073709551616 < 18446744073709551616 := by omega
 generalize P / 18446744073709551616 = H0 at hH0 HT ⊢; generalize P % 18446744073709551616 = L0 at hL0 HT ⊢
 go_upto_region 3 with fail
 go_cut [7] (fun s7 wx => ∃ hf : Nat, s7 = .int .u64 (hf : Int) ∧ Hid (hf = 2147483648) ∧ wx = w.alloc (.cells #[.bool true, .int .u64 (H0 : Int), .int .u64 (L0 : Int)] 158))
 case first =>
  go_wp2_with fail
  go_meet
  exact ⟨2147483648, rfl, zz rfl, rfl⟩
 obtain ⟨hf, rfl, HHF, rfl⟩ := hcut
 have hf1 : (1 : Int) ≤ (hf : Int) := by have := HHF.out; omega
 have hf2 : (hf : Int) ≤ 4294967296 := by have := HHF.out; omega
 have HAdd := fun w => add64_at L0 2147483647 ((hf : Int) - 1) (by have := HHF.out; omega) w
 have hC : (L0 + 2147483647) / 18446744073709551616 ≤ 1 := by omega
 have hL1 : (L0 + 2147483647) % 18446744073709551616 < 18446744073709551616 := by omega
 generalize (L0 + 2147483647) / 18446744073709551616 = C at hC HT HAdd; generalize (L0 + 2147483647) % 18446744073709551616 = L1 at hL1 HT HAdd
 have hM : (H0 + C) % 4294967296 < 4294967296 := by omega
 have hw : IntKind.u64.wrap (((H0 : Int) + (C : Int)) * 4294967296) = (((H0 + C) % 4294967296 : Nat) : Int) * 4294967296 := by rw [u64wrap]; omega
 have hor := or_halves L1 _ hL1 hM; generalize (H0 + C) % 4294967296 = M at hM hw hor HT
 have hL2 : M * 4294967296 + L1 / 4294967296 < 18446744073709551616 := by omega
 have hH2 : (H0 + C) / 4294967296 < 18446744073709551616 := by omega
 generalize hq : M * 4294967296 + L1 / 4294967296 = L2 at hL2 hor HT
 have hq2 : ((H0 : Int) + (C : Int)) / 4294967296 = (((H0 + C) / 4294967296 : Nat) : Int) := by omega
 generalize (H0 + C) / 4294967296 = H2 at hH2 hq2 HT; clear hq; rw [← HT.out] at HE; go_wp2_with fail; refine (bound_any true H2 L2 _ hH2 hL2).mono ?_; rintro e w1 ⟨rfl, hb⟩; rw [HE.out]
 have HF := zz (show stop ((a * b + 2147483648) / 4294967296) = fmul a b from rfl)
 rw [HF.out]; have HBL := zz (onward ((Below.refl w.heap.size w).alloc (Nat.le_refl _) _) (Nat.le_refl _) hb); generalize hr : fmul a b = r; have HR := zz hr; clear HE HT hb hr; go_wp2_with fail
 go_ret2
 exact ⟨by rw [HR.out]; rfl, HBL.out⟩
set_option maxHeartbeats 1000000 in
theorem fixMul_3 (a b : Int) (w : World) (h1 : ¬ a < 0) (h2 : ¬ b < 0) (ha : -9223372036854775808 ≤ a ∧ a ≤ 9223372036854775807) (hb : -9223372036854775808 ≤ b ∧ b ≤ 9223372036854775807) :
  Calls Try.prog 80 #[.int .i64 a, .int .i64 b] w fun e w' => e = .returned (.tuple #[.int .i64 (fmul a b).1, .bool (fmul a b).2]) ∧ Below w.heap.size w w' := by
 have HA := zz ha; have HB := zz hb; have hbd := mul_bd ha hb
 have HNA := zz (show a.natAbs < 18446744073709551616 by omega)
 have HNB := zz (show b.natAbs < 18446744073709551616 by omega)
 have HBD := zz hbd; clear ha hb
 have HE := zz (show sgd false ((a.natAbs * b.natAbs + 2147483648) / 4294967296) = (a * b + 2147483648) / 4294967296 by
  rw [mul_pos1 (.inr ⟨by omega, by omega⟩)]; show (((a.natAbs * b.natAbs + 2147483648) / 4294967296 : Nat) : Int) = _; omega)
 have HT := zz (mul_tail (a.natAbs * b.natAbs) 2147483648 HBD.out (by omega)); clear hbd
 go_enter Try.func80, Try.ntmps80
 go_wp2_with fail; refine (size_any a _ HA.out).mono ?_; rintro e w1 ⟨rfl, rfl⟩; go_wp2_with fail; refine (size_any b _ HB.out).mono ?_; rintro e w1 ⟨rfl, rfl⟩; go_wp2_with fail; refine (mul64_any a.natAbs b.natAbs HNA.out HNB.out _).mono ?_; rintro e w1 ⟨rfl, rfl⟩; generalize a.natAbs * b.natAbs = P at HBD HE HT ⊢
 have hH0 : P / 18446744073709551616 ≤ 4611686018427387904 := by have := HBD.out; omega
 have hL0 : P % 18446744073709551616 < 18446744073709551616 := by omega
 generalize P / 18446744073709551616 = H0 at hH0 HT ⊢; generalize P % 18446744073709551616 = L0 at hL0 HT ⊢; have HAdd := fun w => add64_at L0 2147483648 2147483648 (by omega) w
 have hC : (L0 + 2147483648) / 18446744073709551616 ≤ 1 := by omega
 have hL1 : (L0 + 2147483648) % 18446744073709551616 < 18446744073709551616 := by omega
 generalize (L0 + 2147483648) / 18446744073709551616 = C at hC HT HAdd; generalize (L0 + 2147483648) % 18446744073709551616 = L1 at hL1 HT HAdd
 have hM : (H0 + C) % 4294967296 < 4294967296 := by omega
 have hw : IntKind.u64.wrap (((H0 : Int) + (C : Int)) * 4294967296) = (((H0 + C) % 4294967296 : Nat) : Int) * 4294967296 := by rw [u64wrap]; omega
 have hor := or_halves L1 _ hL1 hM; generalize (H0 + C) % 4294967296 = M at hM hw hor HT
 have hL2 : M * 4294967296 + L1 / 4294967296 < 18446744073709551616 := by omega
 have hH2 : (H0 + C) / 4294967296 < 18446744073709551616 := by omega
 generalize hq : M * 4294967296 + L1 / 4294967296 = L2 at hL2 hor HT
 have hq2 : ((H0 : Int) + (C : Int)) / 4294967296 = (((H0 + C) / 4294967296 : Nat) : Int) := by omega
 generalize (H0 + C) / 4294967296 = H2 at hH2 hq2 HT; clear hq; rw [← HT.out] at HE; go_wp2_with fail; refine (bound_any false H2 L2 _ hH2 hL2).mono ?_; rintro e w1 ⟨rfl, hb⟩; rw [HE.out]
 have HF := zz (show stop ((a * b + 2147483648) / 4294967296) = fmul a b from rfl)
 rw [HF.out]; have HBL := zz (onward ((Below.refl w.heap.size w).alloc (Nat.le_refl _) _) (Nat.le_refl _) hb); generalize hr : fmul a b = r; have HR := zz hr; clear HE HT hb hr; go_wp2_with fail
 go_ret2
 exact ⟨by rw [HR.out]; rfl, HBL.out⟩
theorem fixMul_any (a b : Int) (w : World) (ha : -9223372036854775808 ≤ a ∧ a ≤ 9223372036854775807) (hb : -9223372036854775808 ≤ b ∧ b ≤ 9223372036854775807) :
  Calls Try.prog 80 #[.int .i64 a, .int .i64 b] w fun e w' => e = .returned (.tuple #[.int .i64 (fmul a b).1, .bool (fmul a b).2]) ∧ Below w.heap.size w w' := by
 by_cases h1 : a < 0 <;> by_cases h2 : b < 0
 · exact fixMul_0 a b w h1 h2 ha hb
 · exact fixMul_1 a b w h1 h2 ha hb
 · exact fixMul_2 a b w h1 h2 ha hb
 · exact fixMul_3 a b w h1 h2 ha hb
end BigW
namespace BigW
open Go.RowKit Mem BigLaw
def fadd (a b : Int) : Int × Bool := stop (a + b)
def fsub (a b : Int) : Int × Bool := stop (a - b)
def In64 (a : Int) : Prop := -9223372036854775808 ≤ a ∧ a ≤ 9223372036854775807
theorem stop_range (X : Int) : In64 (stop X).1 := by
 unfold stop in64 In64
 split
 · rename_i h; exact of_decide_eq_true h
 · split <;> exact ⟨by decide, by decide⟩
theorem fmul_range (a b : Int) : In64 (fmul a b).1 := stop_range _
theorem fadd_range (a b : Int) : In64 (fadd a b).1 := stop_range _
theorem fsub_range (a b : Int) : In64 (fsub a b).1 := stop_range _
def Bent (w : World) (T : TypeId) (g : Nat) (x : Bool) : Prop := Blk w g T #[.bool x]
theorem Bent.grown {w w' : World} {T : TypeId} {g : Nat} {x : Bool} (h : Bent w T g x) {row : Option Nat} (hg : w.grownBy w' row) (hne : some g ≠ row) : Bent w' T g x := Blk.grown h hg hne
theorem Bent.below {w w' : World} {T : TypeId} {g : Nat} {x : Bool} (h : Bent w T g x) (hb : Below w.heap.size w w') : Bent w' T g x := Blk.below h hb (Blk.lt h)
end BigW
namespace FixDivLaw
def nearest (a b : Int) : Int := if b < 0 then (-a * 8589934592 + -b) / (2 * -b) else (a * 8589934592 + b) / (2 * b)
theorem near_pos {q d r : Int} (hr : 0 ≤ r) (hrd : r < d) : (2 * (q * d + r) + d) / (2 * d) = q + if d ≤ 2 * r then 1 else 0 := by
 have e : 2 * (q * d + r) + d = (2 * r + d) + (2 * d) * q := by
  rw [Int.mul_add, Int.mul_assoc 2 d q, Int.mul_comm d q]; omega
 rw [e, Int.add_mul_ediv_left _ _ (by omega)]
 split
 ·
  have : (2 * r + d) / (2 * d) = 1 := by
   refine Int.le_antisymm ?_ ?_
   · exact Int.le_of_lt_add_one (Int.ediv_lt_of_lt_mul (by omega) (by omega))
   · exact (Int.le_ediv_iff_mul_le (by omega)).2 (by omega)
  omega
 ·
  have : (2 * r + d) / (2 * d) = 0 := Int.ediv_eq_zero_of_lt (by omega) (by omega); omega
theorem near_neg {q d r : Int} (hr : 0 ≤ r) (hrd : r < d) : (-(2 * (q * d + r)) + d) / (2 * d) = -(q + if d < 2 * r then 1 else 0) := by
 have e : -(2 * (q * d + r)) + d = (d - 2 * r) + (2 * d) * (-q) := by
  rw [Int.mul_add, Int.mul_neg, Int.mul_assoc 2 d q, Int.mul_comm d q]; omega
 rw [e, Int.add_mul_ediv_left _ _ (by omega)]
 split
 ·
  have : (d - 2 * r) / (2 * d) = -1 := by
   refine Int.le_antisymm ?_ ?_
   · exact Int.le_of_lt_add_one (Int.ediv_lt_of_lt_mul (by omega) (by omega))
   · exact (Int.le_ediv_iff_mul_le (by omega)).2 (by omega)
  omega
 ·
  have : (d - 2 * r) / (2 * d) = 0 := Int.ediv_eq_zero_of_lt (by omega) (by omega); omega
theorem quot_two (N hi lo d : Nat) (hd : 0 < d) (h1 : N = hi * 18446744073709551616 + lo) :
  (hi / d) * 18446744073709551616 + (hi % d * 18446744073709551616 + lo) / d = N / d ∧ (hi % d * 18446744073709551616 + lo) % d = N % d := by
 have h2 := Nat.div_add_mod hi d
 have e : N = (hi % d * 18446744073709551616 + lo) + d * (hi / d * 18446744073709551616) := by
  have h3 : hi * 18446744073709551616 = (d * (hi / d) + hi % d) * 18446744073709551616 := congrArg (· * 18446744073709551616) h2.symm; rw [h1, h3, Nat.add_mul, Nat.mul_assoc]; omega
 rw [e]; exact ⟨by rw [Nat.add_mul_div_left _ _ hd, Nat.add_comm], by rw [Nat.add_mul_mod_self_left]⟩
theorem quot_sum (N d : Nat) : (N : Int) = ((N / d : Nat) : Int) * (d : Int) + ((N % d : Nat) : Int) := by
 have := Nat.div_add_mod N d; rw [Nat.mul_comm] at this; rw [← Int.natCast_mul, ← Int.natCast_add, this]
theorem nearest_same {a b : Int} (h : (a < 0 ∧ b < 0) ∨ (0 ≤ a ∧ 0 < b)) : nearest a b = ((a.natAbs * 4294967296 / b.natAbs + if b.natAbs ≤ 2 * (a.natAbs * 4294967296 % b.natAbs) then 1 else 0 : Nat) : Int) := by
 have hb : 0 < b.natAbs := by omega
 have hr := Nat.mod_lt (a.natAbs * 4294967296) hb; have hs := quot_sum (a.natAbs * 4294967296) b.natAbs; have hn := near_pos (q := ((a.natAbs * 4294967296 / b.natAbs : Nat) : Int)) (d := (b.natAbs : Int)) (r := ((a.natAbs * 4294967296 % b.natAbs : Nat) : Int)) (by omega) (by omega); rw [← hs] at hn
 have e : nearest a b = (2 * ((a.natAbs * 4294967296 : Nat) : Int) + (b.natAbs : Int)) / (2 * (b.natAbs : Int)) := by
  unfold nearest
  rcases h with ⟨h1, h2⟩ | ⟨h1, h2⟩
  ·
   rw [if_pos h2]
   have e1 : -a * 8589934592 + -b = 2 * ((a.natAbs * 4294967296 : Nat) : Int) + (b.natAbs : Int) := by omega
   have e2 : -b = (b.natAbs : Int) := by omega
   rw [e1, e2]
  ·
   rw [if_neg (by omega)]
   have e1 : a * 8589934592 + b = 2 * ((a.natAbs * 4294967296 : Nat) : Int) + (b.natAbs : Int) := by omega
   have e2 : b = (b.natAbs : Int) := by omega
   rw [e1, ← e2]
 rw [e, hn]; generalize a.natAbs * 4294967296 / b.natAbs = q; generalize a.natAbs * 4294967296 % b.natAbs = r
 by_cases hc : b.natAbs ≤ 2 * r
 · rw [if_pos hc, if_pos (by omega)]; omega
 · rw [if_neg hc, if_neg (by omega)]; omega
theorem nearest_other {a b : Int} (h : (a < 0 ∧ 0 < b) ∨ (0 ≤ a ∧ b < 0)) : nearest a b = -((a.natAbs * 4294967296 / b.natAbs + if b.natAbs < 2 * (a.natAbs * 4294967296 % b.natAbs) then 1 else 0 : Nat) : Int) := by
 have hb : 0 < b.natAbs := by omega
 have hr := Nat.mod_lt (a.natAbs * 4294967296) hb; have hs := quot_sum (a.natAbs * 4294967296) b.natAbs; have hn := near_neg (q := ((a.natAbs * 4294967296 / b.natAbs : Nat) : Int)) (d := (b.natAbs : Int)) (r := ((a.natAbs * 4294967296 % b.natAbs : Nat) : Int)) (by omega) (by omega); rw [← hs] at hn
 have e : nearest a b = (-(2 * ((a.natAbs * 4294967296 : Nat) : Int)) + (b.natAbs : Int)) / (2 * (b.natAbs : Int)) := by
  unfold nearest
  rcases h with ⟨h1, h2⟩ | ⟨h1, h2⟩
  ·
   rw [if_neg (by omega)]
   have e1 : a * 8589934592 + b = -(2 * ((a.natAbs * 4294967296 : Nat) : Int)) + (b.natAbs : Int) := by omega
   have e2 : b = (b.natAbs : Int) := by omega
   rw [e1, ← e2]
  ·
   rw [if_pos h2]
   have e1 : -a * 8589934592 + -b = -(2 * ((a.natAbs * 4294967296 : Nat) : Int)) + (b.natAbs : Int) := by omega
   have e2 : -b = (b.natAbs : Int) := by omega
   rw [e1, e2]
 rw [e, hn]; generalize a.natAbs * 4294967296 / b.natAbs = q; generalize a.natAbs * 4294967296 % b.natAbs = r
 by_cases hc : b.natAbs < 2 * r
 · rw [if_pos hc, if_pos (by omega)]; omega
 · rw [if_neg hc, if_neg (by omega)]; omega
end FixDivLaw
namespace BigW
open Go.RowKit Mem BigLaw FixDivLaw
def fdiv (a b : Int) : Int × Bool := if b = 0 then (if 0 < a then (9223372036854775807, true) else if a < 0 then (-9223372036854775808, true) else (0, true)) else stop (nearest a b)
end BigW
namespace Len
open Go.Shelf
def lays134_ren : Go.Shelf.Ren := ⟨fun | 134 => 101 | 129 => 100 | n => n, fun | 53 => 156 | 3 => 3 | 4 => 4 | 46 => 116 | 5 => 5 | 9 => 9 | n => n, fun | n => n⟩
theorem lays134 : Go.Proofs.Lays.n134 Try.prog lays134_ren := {
 mixed := by kernel_rfl
 f129 := Try.func100.trans (congrArg some (by kernel_rfl))
 f134 := Try.func101.trans (congrArg some (by kernel_rfl))
 t3 := Try.underlying3
 a3 := Try.isAgg3
 z3 := Try.sizeOf3
 v3 := Try.zeroValue3
 t4 := Try.underlying4
 a4 := Try.isAgg4
 z4 := Try.sizeOf4
 v4 := Try.zeroValue4
 t5 := Try.underlying5
 a5 := Try.isAgg5
 z5 := Try.sizeOf5
 v5 := Try.zeroValue5
 t9 := Try.underlying9
 a9 := Try.isAgg9
 z9 := Try.sizeOf9
 v9 := Try.zeroValue9
 t46 := Try.underlying116
 a46 := Try.isAgg116
 z46 := Try.sizeOf116
 v46 := Try.zeroValue116
 t53 := Try.underlying156
 a53 := Try.isAgg156
 z53 := Try.sizeOf156
 v53 := Try.zeroValue156 }
theorem leadingZeros_any (x : Int) (w : World) (h0 : 0 ≤ x) (h1 : x ≤ 18446744073709551615) :
  Calls Try.prog 101 #[.int .u64 x] w fun e w' => e = .returned (.int .i64 (64 - (Lib.bitLen x.toNat : Int))) ∧ w' = w := Any.bits_LeadingZeros64 lays134 x w h0 h1
end Len
namespace Div64Law
structure Trial (U V h top g r : Nat) : Prop where
 sum : g * top + r = h
 ge : U / V ≤ g
structure Half (U V h x top next : Nat) : Prop where
 hU : U = h * 4294967296 + x
 hV : V = top * 4294967296 + next
 hx : x < 4294967296
 hn : next < 4294967296
 ht : 2147483648 ≤ top
 ht2 : top < 4294967296
 lt : h < V
theorem mul_le_word {x y : Nat} (hx : x ≤ 4294967295) (hy : y ≤ 4294967295) : x * y ≤ 18446744065119617025 := Nat.mul_le_mul hx hy
theorem Half.pos {U V h x top next : Nat} (S : Half U V h x top next) : 0 < V := by
 have := S.hV; have := S.ht; omega
theorem Half.first {U V h x top next : Nat} (S : Half U V h x top next) : Trial U V h top (h / top) (h % top) := by
 have ht := S.ht; refine ⟨by rw [Nat.mul_comm]; exact Nat.div_add_mod _ _, ?_⟩; rw [Nat.le_div_iff_mul_le (by omega)]; have hq : U / V * V ≤ U := Nat.div_mul_le_self _ _; generalize U / V = q at hq
 have e1 : q * V = q * top * 4294967296 + q * next := by rw [S.hV, Nat.mul_add q (top * 4294967296) next, ← Nat.mul_assoc q top 4294967296]
 rw [e1, S.hU] at hq; have := S.hx; omega
theorem Half.less {U V h x top next g r : Nat} (S : Half U V h x top next) (T : Trial U V h top g r) (hc : 4294967296 ≤ g ∨ r * 4294967296 + x < g * next) :
  0 < g ∧ Trial U V h top (g - 1) (r + top) := by
 have hp := S.pos; obtain ⟨h1, h2⟩ := T
 have hlt : U / V < g := by
  rcases hc with hc | hc
  ·
   have : U / V < 4294967296 := by
    rw [Nat.div_lt_iff_lt_mul hp, S.hU]; have := S.lt; have := S.hx; omega
   omega
  ·
   have e1 : g * V = g * top * 4294967296 + g * next := by rw [S.hV, Nat.mul_add g (top * 4294967296) next, ← Nat.mul_assoc g top 4294967296]
   rw [Nat.div_lt_iff_lt_mul hp, S.hU, e1, ← h1, Nat.add_mul (g * top) r 4294967296]; rw [Nat.add_assoc]; exact Nat.add_lt_add_left hc _
 have hg0 : 0 < g := Nat.lt_of_le_of_lt (Nat.zero_le _) hlt; refine ⟨hg0, ?_, Nat.le_sub_one_of_lt hlt⟩; obtain ⟨k, rfl⟩ : ∃ k, g = k + 1 := ⟨g - 1, by omega⟩; rw [Nat.add_mul, Nat.one_mul] at h1; rw [Nat.add_sub_cancel]; omega
theorem Half.last {U V h x top next g r : Nat} (S : Half U V h x top next) (T : Trial U V h top g r) (hc : (g < 4294967296 ∧ g * next ≤ r * 4294967296 + x) ∨ 4294967296 ≤ r) : g = U / V := by
 have hp := S.pos; obtain ⟨h1, h2⟩ := T
 have hle : g * V ≤ U := by
  have hm : g * next ≤ r * 4294967296 + x := by
   rcases hc with hc | hc
   · exact hc.2
   ·
    have hg : g < 4294967296 := by
     have h3 : g * top < 4294967296 * top := by
      have := S.lt; have := S.hV; have := S.hn; omega
     exact Nat.lt_of_mul_lt_mul_right h3
    have := mul_le_word (x := g) (y := next) (by omega) (by have := S.hn; omega); have : 4294967296 * 4294967296 ≤ r * 4294967296 := Nat.mul_le_mul_right _ hc; omega
  have e1 : g * V = g * top * 4294967296 + g * next := by rw [S.hV, Nat.mul_add g (top * 4294967296) next, ← Nat.mul_assoc g top 4294967296]
  rw [S.hU, e1]; omega
 have := (Nat.le_div_iff_mul_le hp).2 hle; omega
theorem Half.bound {U V h x top next : Nat} (S : Half U V h x top next) : h / top ≤ 4294967297 :=
 Nat.le_of_lt_succ (Nat.div_lt_of_lt_mul (show h < top * 4294967298 by have := S.lt; have := S.hV; have := S.hn; have := S.ht; omega))
theorem Half.word {U V h x top next : Nat} (S : Half U V h x top next) : U / V < 4294967296 := by
 rw [Nat.div_lt_iff_lt_mul S.pos, S.hU]; have := S.lt; have := S.hx; omega
theorem both {hi lo un1 un0 q1 q0 r1 r0 V : Nat} (h1 : hi * 4294967296 + un1 = q1 * V + r1) (h0 : r1 * 4294967296 + un0 = q0 * V + r0) (hr : r0 < V) (hlo : lo = un1 * 4294967296 + un0) :
  (hi * 18446744073709551616 + lo) / V = q1 * 4294967296 + q0 ∧ (hi * 18446744073709551616 + lo) % V = r0 := by
 have hp : 0 < V := by omega
 have e : hi * 18446744073709551616 + lo = r0 + V * (q1 * 4294967296 + q0) := by
  have e1 : V * (q1 * 4294967296 + q0) = q1 * V * 4294967296 + q0 * V := by
   rw [Nat.mul_add V (q1 * 4294967296) q0, Nat.mul_comm V q0, ← Nat.mul_assoc V q1 4294967296, Nat.mul_comm V q1]
  rw [e1]
  have a1 : hi * 18446744073709551616 + un1 * 4294967296 = q1 * V * 4294967296 + r1 * 4294967296 := by
   have h := congrArg (· * 4294967296) h1; simp only [Nat.add_mul, Nat.mul_assoc, Nat.reduceMul] at h ⊢; exact h
  clear e1 hr h1; rw [hlo, ← Nat.add_assoc, a1, Nat.add_assoc, h0, Nat.add_comm r0, Nat.add_assoc]
 rw [e]; exact ⟨by rw [Nat.add_mul_div_left _ _ hp, Nat.div_eq_of_lt hr, Nat.zero_add], by rw [Nat.add_mul_mod_self_left, Nat.mod_eq_of_lt hr]⟩
end Div64Law
namespace BigW
open Go.RowKit Mem BigLaw
theorem isLen_aux : ∀ (f x : Nat), x < 2 ^ f → IsLen x (Lib.bitLenAux f x)
 | 0, x, h => by
  obtain rfl : x = 0 := by simpa using h
  exact ⟨fun _ => rfl, fun h => absurd h (by omega)⟩
 | f + 1, x, h => by
  unfold Lib.bitLenAux
  by_cases h0 : x = 0
  · rw [if_pos h0]; subst h0; exact ⟨fun _ => rfl, fun h => absurd h (by omega)⟩
  ·
   rw [if_neg h0, Nat.add_comm]; exact isLen_half (isLen_aux f (x / 2) (by rw [Nat.pow_succ] at h; omega)) h0
theorem isLen_bitLen {x : Nat} (h : x < 18446744073709551616) : IsLen x (Lib.bitLen x) := isLen_aux 64 x h
theorem norm64 {y : Nat} (h0 : 0 < y) (h : y < 18446744073709551616) : ∃ s, Lib.bitLen y + s = 64 ∧ s ≤ 63 ∧ 9223372036854775808 ≤ y * 2 ^ s ∧ y * 2 ^ s < 18446744073709551616 := by
 obtain ⟨h1, h2, h3⟩ := (isLen_bitLen h).2 h0; have hN : Lib.bitLen y ≤ 64 := (isLen_lt (isLen_bitLen h)).2 h; refine ⟨64 - Lib.bitLen y, by omega, by omega, ?_, ?_⟩
 ·
  have e : 9223372036854775808 = 2 ^ (Lib.bitLen y - 1) * 2 ^ (64 - Lib.bitLen y) := by
   rw [← Nat.pow_add, show Lib.bitLen y - 1 + (64 - Lib.bitLen y) = 63 by omega]
  rw [e]; exact Nat.mul_le_mul_right _ h2
 ·
  have e : 18446744073709551616 = 2 ^ Lib.bitLen y * 2 ^ (64 - Lib.bitLen y) := by
   rw [← Nat.pow_add, show Lib.bitLen y + (64 - Lib.bitLen y) = 64 by omega]
  rw [e]; exact Nat.mul_lt_mul_of_pos_right h3 (Nat.two_pow_pos _)
theorem moved64 {hi lo s : Nat} (hlo : lo < 18446744073709551616) (hs : s ≤ 63) (hh : hi * 2 ^ s < 18446744073709551616) :
  ∃ U L, hi * 2 ^ s ||| lo / 2 ^ (64 - s) = U ∧ lo * 2 ^ s % 18446744073709551616 = L ∧ U * 18446744073709551616 + L = (hi * 18446744073709551616 + lo) * 2 ^ s ∧ U = hi * 2 ^ s + lo / 2 ^ (64 - s) ∧ lo / 2 ^ (64 - s) < 2 ^ s := by
 have hp := Nat.two_pow_pos s; have hp2 := Nat.two_pow_pos (64 - s)
 have hc : 2 ^ (64 - s) * 2 ^ s = 18446744073709551616 := by rw [← Nat.pow_add, show 64 - s + s = 64 by omega]
 have hlt : lo / 2 ^ (64 - s) < 2 ^ s := by
  rw [Nat.div_lt_iff_lt_mul hp2, Nat.mul_comm, hc]; exact hlo
 have hor : hi * 2 ^ s ||| lo / 2 ^ (64 - s) = hi * 2 ^ s + lo / 2 ^ (64 - s) := by
  rw [Nat.mul_comm]; exact (Nat.two_pow_add_eq_or_of_lt hlt hi).symm
 refine ⟨_, _, rfl, rfl, ?_, hor, hlt⟩; rw [hor]
 have h1 : lo * 2 ^ s = lo / 2 ^ (64 - s) * 18446744073709551616 + lo % 2 ^ (64 - s) * 2 ^ s := by
  have h := congrArg (· * 2 ^ s) (Nat.div_add_mod lo (2 ^ (64 - s))); simp only [Nat.add_mul] at h; rw [← h, Nat.mul_comm (2 ^ (64 - s)) (lo / 2 ^ (64 - s)), Nat.mul_assoc (lo / 2 ^ (64 - s)), hc]
 have h2 : lo % 2 ^ (64 - s) * 2 ^ s < 18446744073709551616 := by
  rw [← hc]; exact Nat.mul_lt_mul_of_pos_right (Nat.mod_lt _ hp2) hp
 have h3 : lo * 2 ^ s % 18446744073709551616 = lo % 2 ^ (64 - s) * 2 ^ s := by
  rw [h1, Nat.add_comm, Nat.add_mul_mod_self_right, Nat.mod_eq_of_lt h2]
 rw [h3, Nat.add_mul, Nat.add_mul, h1, Nat.mul_right_comm hi (2 ^ s) 18446744073709551616, Nat.add_assoc]
theorem wrap_rest (U x q V r : Nat) (h : U * 4294967296 + x = q * V + r) (hr : r < 18446744073709551616) :
  IntKind.u64.wrap (IntKind.u64.wrap (IntKind.u64.wrap ((U : Int) * 4294967296) + (x : Int)) - IntKind.u64.wrap ((q : Int) * (V : Int))) = (r : Int) := by
 have e : (q : Int) * (V : Int) = ((q * V : Nat) : Int) := (Int.natCast_mul _ _).symm; rw [e]; simp only [u64wrap]; generalize q * V = p at h ⊢; omega
def TrialAt2 (U V h top : Nat) (sg sr : Value) : Prop := ∃ g r : Nat, sg = .int .u64 (g : Int) ∧ sr = .int .u64 (r : Int) ∧ g ≤ 4294967297 ∧ r < 4294967296 ∧ Hid (Div64Law.Trial U V h top g r)
set_option maxRecDepth 100000 in
set_option maxHeartbeats 4000000 in
theorem div64_any (hi lo y : Nat) (w : World) (hhy : hi < y) (hlo : lo < 18446744073709551616) (hy : y < 18446744073709551616) :
  Calls Try.prog 89 #[.int .u64 (hi : Int), .int .u64 (lo : Int), .int .u64 (y : Int)] w fun e w' => e = .returned (.tuple #[.int .u64 (((hi * 18446744073709551616 + lo) / y : Nat) : Int), .int .u64 (((hi * 18446744073709551616 + lo) % y : Nat) : Int)]) ∧ ∃ n, w' = w.drewN n := by
 obtain ⟨Q, hQ⟩ : ∃ Q, (hi * 18446744073709551616 + lo) / y = Q := ⟨_, rfl⟩; obtain ⟨R, hR⟩ : ∃ R, (hi * 18446744073709551616 + lo) % y = R := ⟨_, rfl⟩; rw [hQ, hR]; have HQ := zz hQ; have HR := zz hR
 have hy0 : ((y : Int) == 0) = false := by rw [beq_eq_false_iff_ne]; omega
 have hle : ¬ (y : Int) ≤ (hi : Int) := by omega
 by_cases h0 : hi = 0
 ·
  subst h0; rw [Nat.zero_mul, Nat.zero_add] at hQ hR
  have hyn : ¬ (y : Int) = 0 := by omega
  have hyn1 : ¬ y = 0 := by omega
  have hq : IntKind.u64.wrap ((lo : Int) / (y : Int)) = (Q : Int) := by
   have e : (lo : Int) / (y : Int) = ((lo / y : Nat) : Int) := rfl; have := Nat.div_le_self lo y; rw [e, hQ, u64wrap]; rw [hQ] at this; omega
  have hr : (lo : Int).tmod (y : Int) = (R : Int) := by
   have e : (lo : Int).tmod (y : Int) = ((lo % y : Nat) : Int) := rfl; rw [e, hR]
  clear hQ hR
  go_enter Try.func89, Try.ntmps89
  go_wp2_with fail
  go_quiet (fail)
  go_wp2_with fail
  go_ret2
  exact ⟨rfl, _, rfl⟩
 ·
  have h0' : ((hi : Int) == 0) = false := by rw [beq_eq_false_iff_ne]; omega
  clear hQ hR
  obtain ⟨s, hs1, hs2, hY1, hY2⟩ := norm64 (show 0 < y by omega) hy
  have hHs : hi * 2 ^ s < 18446744073709551616 := Nat.lt_of_le_of_lt (Nat.mul_le_mul_right _ (Nat.le_of_lt hhy)) hY2; obtain ⟨U, L, hU, hL, hUL, hU2, hU3⟩ := moved64 (s := s) hlo hs2 hHs; have HN := zz hs1; have HUL := zz hUL; have HY1 := zz hY1; have HYY := zz hY2
  have hLl : L < 18446744073709551616 := by rw [← hL]; exact Nat.mod_lt _ (by omega)
  have eY : IntKind.u64.wrap ((y : Int) * 2 ^ s) = ((y * 2 ^ s : Nat) : Int) := by
   have e : (y : Int) * 2 ^ s = ((y * 2 ^ s : Nat) : Int) := by push_cast; rfl
   rw [e, u64wrap]; generalize y * 2 ^ s = Y at hY2; omega
  have eH : IntKind.u64.wrap ((hi : Int) * 2 ^ s) = ((hi * 2 ^ s : Nat) : Int) := by
   have e : (hi : Int) * 2 ^ s = ((hi * 2 ^ s : Nat) : Int) := by push_cast; rfl
   rw [e, u64wrap]; generalize hi * 2 ^ s = Y at hHs; omega
  have eL : IntKind.u64.wrap ((lo : Int) * 2 ^ s) = (L : Int) := by
   have e : (lo : Int) * 2 ^ s = ((lo * 2 ^ s : Nat) : Int) := by push_cast; rfl
   rw [e, u64wrap, ← hL]; generalize lo * 2 ^ s = Y; omega
  have eU : bits .or .u64 ((hi * 2 ^ s : Nat) : Int) ((lo : Int) / 2 ^ (64 - s)) = (U : Int) := by
   have e : (lo : Int) / 2 ^ (64 - s) = ((lo / 2 ^ (64 - s) : Nat) : Int) := by rw [Int.natCast_ediv, Int.natCast_pow]; rfl
   rw [e, bits_or_u64_nat _ _ hHs (by have := Nat.div_le_self lo (2 ^ (64 - s)); omega), hU]
  have hUV : U < y * 2 ^ s := by
   have h1 : (hi + 1) * 2 ^ s ≤ y * 2 ^ s := Nat.mul_le_mul_right _ hhy; rw [Nat.add_mul, Nat.one_mul] at h1; omega
  have HU0 : Hid (∀ q r, U * 18446744073709551616 + L = q * (y * 2 ^ s) + r * 1 → r < y * 2 ^ s → q = Q ∧ r / 2 ^ s = R) := zz fun q r h1 h2 => by
   rw [Nat.mul_one, hUL] at h1; have hp := Nat.two_pow_pos s
   have hyp : 0 < y * 2 ^ s := by omega
   have e1 : (hi * 18446744073709551616 + lo) * 2 ^ s / (y * 2 ^ s) = (hi * 18446744073709551616 + lo) / y := Nat.mul_div_mul_right _ _ hp; have e2 : (hi * 18446744073709551616 + lo) * 2 ^ s % (y * 2 ^ s) = (hi * 18446744073709551616 + lo) % y * 2 ^ s := Nat.mul_mod_mul_right _ _ _; rw [h1, Nat.add_comm, Nat.add_mul_div_right _ _ hyp, Nat.div_eq_of_lt h2, HQ.out, Nat.zero_add] at e1; rw [h1, Nat.add_comm, Nat.add_mul_mod_self_right, Nat.mod_eq_of_lt h2, HR.out] at e2; exact ⟨e1, by rw [e2, Nat.mul_div_cancel _ hp]⟩
  clear hU hL hUL hU2 hU3 hs1 HUL HY1 HYY; generalize hi * 2 ^ s = H at eH eU; generalize y * 2 ^ s = V at eY hUV hY1 hY2 HU0; obtain ⟨top, htop⟩ : ∃ top, V / 4294967296 = top := ⟨_, rfl⟩; obtain ⟨next, hnext⟩ : ∃ next, V % 4294967296 = next := ⟨_, rfl⟩; obtain ⟨u1, hu1⟩ : ∃ u1, L / 4294967296 = u1 := ⟨_, rfl⟩; obtain ⟨u0, hu0⟩ : ∃ u0, L % 4294967296 = u0 := ⟨_, rfl⟩
  have eTop : (V : Int) / 4294967296 = (top : Int) := by omega
  have eNext : bits .and .u64 (V : Int) 4294967295 = (next : Int) := by rw [maskN V hY2, hnext]
  have eU1 : (L : Int) / 4294967296 = (u1 : Int) := by omega
  have eU0 : bits .and .u64 (L : Int) 4294967295 = (u0 : Int) := by rw [maskN L hLl, hu0]
  have S1 : Div64Law.Half (U * 4294967296 + u1) V U u1 top next := ⟨rfl, by omega, by omega, by omega, by omega, by omega, hUV⟩; have HS1 := zz S1; have htp : 2147483648 ≤ top := S1.ht; have htp2 : top < 4294967296 := S1.ht2; have hnx : next < 4294967296 := S1.hn; have hu1l : u1 < 4294967296 := S1.hx
  have hu0l : u0 < 4294967296 := by omega
  have HLL := zz (show L = u1 * 4294967296 + u0 by omega)
  have hUl : U < 18446744073709551616 := by omega
  have hd0 : ¬ (top : Int) = 0 := by omega
  have hd1 : ¬ top = 0 := by omega
  have hg0 : U / top ≤ 4294967297 := S1.bound; have hr0 : U % top < top := Nat.mod_lt _ (by omega); have HT0 := zz S1.first
  have hq : IntKind.u64.wrap ((U : Int) / (top : Int)) = ((U / top : Nat) : Int) := by
   have e : (U : Int) / (top : Int) = ((U / top : Nat) : Int) := rfl; rw [e, u64wrap]; generalize U / top = g at hg0 ⊢; omega
  have hrs : (U : Int) - ((U / top : Nat) : Int) * (top : Int) = ((U % top : Nat) : Int) := by
   have h := Nat.div_add_mod U top
   have h2 : (U : Int) = (top : Int) * ((U / top : Nat) : Int) + ((U % top : Nat) : Int) := by
    rw [← Int.natCast_mul, ← Int.natCast_add, h]
   rw [Int.mul_comm]; omega
  have hpl : ((U / top : Nat) : Int) * (top : Int) ≤ (U : Int) := by omega
  have hpl0 : 0 ≤ ((U / top : Nat) : Int) * (top : Int) := Int.mul_nonneg (Int.natCast_nonneg _) (Int.natCast_nonneg _); generalize U / top = g0 at hq hrs hpl hpl0 hg0 HT0; generalize U % top = r0 at hrs hr0 HT0; clear hHs hY1 htop hnext hu1 hu0 S1
  go_enter Try.func89, Try.ntmps89
  go_wp2_with fail; refine (Len.leadingZeros_any (y : Int) _ (by omega) (by omega)).mono ?_; rintro e w1 ⟨rfl, rfl⟩
  rw [show (64 - (Lib.bitLen (y : Int).toNat : Int)) = (s : Int) by rw [Int.toNat_natCast]; have := HN.out; omega]
  go_upto_block 0 with fail
  obtain ⟨q1, hq1⟩ : ∃ q1, (U * 4294967296 + u1) / V = q1 := ⟨_, rfl⟩; have HQ1 := zz hq1; clear hq1
  go_cut [15] (fun s15 wx => s15 = .int .u64 (q1 : Int) ∧ wx = w1)
  case first =>
   clear eY eH eL eU eTop eNext eU1 eU0 hq hrs hpl hpl0 hd0 hd1 h0 h0' hy0 hle; go_wp2_with fail
   go_loop [15, 16] (fun sg sr => TrialAt2 (U * 4294967296 + u1) V U top sg sr) (fun _ sr => 4294967296 - (intOf sr).toNat)
   case atStart => exact ⟨g0, r0, rfl, rfl, hg0, by omega, HT0⟩
   case round =>
    obtain ⟨g, r, rfl, rfl, hg, hrl, HTR⟩ := hrel; have HL := zz (fun hc => HS1.out.less HTR.out hc); have HE := zz (fun hc => HS1.out.last HTR.out hc)
    by_cases hgb : 4294967295 < g
    ·
     obtain ⟨h1, h2⟩ := HL.out (.inl (by omega)); have HT1 := zz h2; have HE1 := zz (fun hc => HS1.out.last h2 hc); clear h2
     have hgb' : (4294967296 : Int) ≤ (g : Int) := by omega
     have hg1 : (1 : Int) ≤ (g : Int) := by omega
     by_cases hrb : 4294967295 < r + top
     ·
      have hrb' : (4294967296 : Int) ≤ (r : Int) + (top : Int) := by omega
      clear hgb hrb; go_wp2_with fail
      go_meet
      exact ⟨congrArg (Value.int .u64) (by have h := HE1.out (.inr (by omega)); rw [HQ1.out] at h; omega), rfl⟩
     ·
      have hrb' : ¬ (4294967296 : Int) ≤ (r : Int) + (top : Int) := by omega
      clear hgb hrb; go_wp2_with fail; exact ⟨⟨g - 1, r + top, congrArg (Value.int .u64) (by omega), congrArg (Value.int .u64) (by omega), by omega, by omega, HT1⟩, by simp [intOf]; omega⟩
    ·
     have hgb' : ¬ (4294967296 : Int) ≤ (g : Int) := by omega
     have hp0 : 0 ≤ (g : Int) * (next : Int) := Int.mul_nonneg (by omega) (by omega)
     have hp1 : (g : Int) * (next : Int) < 18446744073709551616 := by
      have := Div64Law.mul_le_word (x := g) (y := next) (by omega) (by omega); rw [← Int.natCast_mul]; omega
     have HC := zz (Int.natCast_mul g next)
     by_cases hcmp : 4294967296 * (r : Int) + (u1 : Int) < (g : Int) * (next : Int)
     ·
      have hcn : r * 4294967296 + u1 < g * next := by have := HC.out; omega
      obtain ⟨h1, h2⟩ := HL.out (.inr hcn); have HT1 := zz h2; have HE1 := zz (fun hc => HS1.out.last h2 hc); clear h2 hcn
      have hg1 : (1 : Int) ≤ (g : Int) := by omega
      by_cases hrb : 4294967295 < r + top
      ·
       have hrb' : (4294967296 : Int) ≤ (r : Int) + (top : Int) := by omega
       clear hgb hrb; go_wp2_with fail
       go_meet
       exact ⟨congrArg (Value.int .u64) (by have h := HE1.out (.inr (by omega)); rw [HQ1.out] at h; omega), rfl⟩
      ·
       have hrb' : ¬ (4294967296 : Int) ≤ (r : Int) + (top : Int) := by omega
       clear hgb hrb; go_wp2_with fail; exact ⟨⟨g - 1, r + top, congrArg (Value.int .u64) (by omega), congrArg (Value.int .u64) (by omega), by omega, by omega, HT1⟩, by simp [intOf]; omega⟩
     ·
      have hcn : g * next ≤ r * 4294967296 + u1 := by have := HC.out; omega
      have h1 := zz (HE.out (.inl ⟨by omega, hcn⟩)); clear hgb hcn; go_wp2_with fail
      go_meet
      exact ⟨congrArg (Value.int .u64) (by have h := h1.out; rw [HQ1.out] at h; omega), rfl⟩
  case rest =>
   obtain ⟨rfl, rfl⟩ := hcut; clear eY eH eL eU eTop eNext eU1 eU0 hq hrs hpl hpl0 h0 h0' hy0; obtain ⟨r1, hr1⟩ : ∃ r1, (U * 4294967296 + u1) % V = r1 := ⟨_, rfl⟩
   have h1l : q1 < 4294967296 := by rw [← HQ1.out]; exact HS1.out.word
   have hsum : U * 4294967296 + u1 = q1 * V + r1 := by
    have h := Nat.div_add_mod (U * 4294967296 + u1) V; rw [HQ1.out, hr1, Nat.mul_comm] at h; exact h.symm
   have hr1V : r1 < V := by rw [← hr1]; exact Nat.mod_lt _ HS1.out.pos
   have eR1 := wrap_rest U u1 q1 V r1 hsum (by omega); have HSUM := zz hsum; have S2 : Div64Law.Half (r1 * 4294967296 + u0) V r1 u0 top next := ⟨rfl, HS1.out.hV, hu0l, hnx, htp, htp2, hr1V⟩; have HS2 := zz S2; have hg2 : r1 / top ≤ 4294967297 := S2.bound; have hr2 : r1 % top < top := Nat.mod_lt _ (by omega); have HT2 := zz S2.first
   have hq : IntKind.u64.wrap ((r1 : Int) / (top : Int)) = ((r1 / top : Nat) : Int) := by
    have e : (r1 : Int) / (top : Int) = ((r1 / top : Nat) : Int) := rfl; rw [e, u64wrap]; generalize r1 / top = g at hg2 ⊢; omega
   have hrs : (r1 : Int) - ((r1 / top : Nat) : Int) * (top : Int) = ((r1 % top : Nat) : Int) := by
    have h := Nat.div_add_mod r1 top
    have h2 : (r1 : Int) = (top : Int) * ((r1 / top : Nat) : Int) + ((r1 % top : Nat) : Int) := by
     rw [← Int.natCast_mul, ← Int.natCast_add, h]
    rw [Int.mul_comm]; omega
   have hpl : ((r1 / top : Nat) : Int) * (top : Int) ≤ (r1 : Int) := by omega
   have hpl0 : 0 ≤ ((r1 / top : Nat) : Int) * (top : Int) := Int.mul_nonneg (Int.natCast_nonneg _) (Int.natCast_nonneg _)
   have hr1l : r1 < 18446744073709551616 := by omega
   generalize r1 / top = g2 at hq hrs hpl hpl0 hg2 HT2; generalize r1 % top = r2 at hrs hr2 HT2; clear hsum hr1 S2 HT0 hg0 hr0
   go_upto_block 2 with fail
   obtain ⟨q2, hq2⟩ : ∃ q2, (r1 * 4294967296 + u0) / V = q2 := ⟨_, rfl⟩; have HQ2 := zz hq2; clear hq2
   go_cut [18] (fun s18 wx => s18 = .int .u64 (q2 : Int) ∧ wx = wc)
   case first =>
    clear eR1 hq hrs hpl hpl0 hd0 hd1 hle; go_wp2_with fail
    go_loop [18, 16] (fun sg sr => TrialAt2 (r1 * 4294967296 + u0) V r1 top sg sr) (fun _ sr => 4294967296 - (intOf sr).toNat)
    case atStart => exact ⟨g2, r2, rfl, rfl, hg2, by omega, HT2⟩
    case round =>
     obtain ⟨g, r, rfl, rfl, hg, hrl, HTR⟩ := hrel; have HL := zz (fun hc => HS2.out.less HTR.out hc); have HE := zz (fun hc => HS2.out.last HTR.out hc)
     by_cases hgb : 4294967295 < g
     ·
      obtain ⟨h1, h2⟩ := HL.out (.inl (by omega)); have HT1 := zz h2; have HE1 := zz (fun hc => HS2.out.last h2 hc); clear h2
      have hgb' : (4294967296 : Int) ≤ (g : Int) := by omega
      have hg1 : (1 : Int) ≤ (g : Int) := by omega
      by_cases hrb : 4294967295 < r + top
      ·
       have hrb' : (4294967296 : Int) ≤ (r : Int) + (top : Int) := by omega
       clear hgb hrb; go_wp2_with fail
       go_meet
       exact ⟨congrArg (Value.int .u64) (by have h := HE1.out (.inr (by omega)); rw [HQ2.out] at h; omega), rfl⟩
      ·
       have hrb' : ¬ (4294967296 : Int) ≤ (r : Int) + (top : Int) := by omega
       clear hgb hrb; go_wp2_with fail; exact ⟨⟨g - 1, r + top, congrArg (Value.int .u64) (by omega), congrArg (Value.int .u64) (by omega), by omega, by omega, HT1⟩, by simp [intOf]; omega⟩
     ·
      have hgb' : ¬ (4294967296 : Int) ≤ (g : Int) := by omega
      have hp0 : 0 ≤ (g : Int) * (next : Int) := Int.mul_nonneg (by omega) (by omega)
      have hp1 : (g : Int) * (next : Int) < 18446744073709551616 := by
       have := Div64Law.mul_le_word (x := g) (y := next) (by omega) (by omega); rw [← Int.natCast_mul]; omega
      have HC := zz (Int.natCast_mul g next)
      by_cases hcmp : 4294967296 * (r : Int) + (u0 : Int) < (g : Int) * (next : Int)
      ·
       have hcn : r * 4294967296 + u0 < g * next := by have := HC.out; omega
       obtain ⟨h1, h2⟩ := HL.out (.inr hcn); have HT1 := zz h2; have HE1 := zz (fun hc => HS2.out.last h2 hc); clear h2 hcn
       have hg1 : (1 : Int) ≤ (g : Int) := by omega
       by_cases hrb : 4294967295 < r + top
       ·
        have hrb' : (4294967296 : Int) ≤ (r : Int) + (top : Int) := by omega
        clear hgb hrb; go_wp2_with fail
        go_meet
        exact ⟨congrArg (Value.int .u64) (by have h := HE1.out (.inr (by omega)); rw [HQ2.out] at h; omega), rfl⟩
       ·
        have hrb' : ¬ (4294967296 : Int) ≤ (r : Int) + (top : Int) := by omega
        clear hgb hrb; go_wp2_with fail; exact ⟨⟨g - 1, r + top, congrArg (Value.int .u64) (by omega), congrArg (Value.int .u64) (by omega), by omega, by omega, HT1⟩, by simp [intOf]; omega⟩
      ·
       have hcn : g * next ≤ r * 4294967296 + u0 := by have := HC.out; omega
       have h1 := zz (HE.out (.inl ⟨by omega, hcn⟩)); clear hgb hcn; go_wp2_with fail
       go_meet
       exact ⟨congrArg (Value.int .u64) (by have h := h1.out; rw [HQ2.out] at h; omega), rfl⟩
   case rest =>
    obtain ⟨rfl, rfl⟩ := hcut; obtain ⟨r3, hr3⟩ : ∃ r3, (r1 * 4294967296 + u0) % V = r3 := ⟨_, rfl⟩
    have h2l : q2 < 4294967296 := by rw [← HQ2.out]; exact HS2.out.word
    have hsum : r1 * 4294967296 + u0 = q2 * V + r3 := by
     have h := Nat.div_add_mod (r1 * 4294967296 + u0) V; rw [HQ2.out, hr3, Nat.mul_comm] at h; exact h.symm
    have hr3V : r3 < V := by rw [← hr3]; exact Nat.mod_lt _ HS2.out.pos
    have eR3 := wrap_rest r1 u0 q2 V r3 hsum (by omega); obtain ⟨b1, b2⟩ := Div64Law.both HSUM.out hsum hr3V HLL.out
    have hfin := HU0.out (q1 * 4294967296 + q2) r3 (by
     have h := Nat.div_add_mod (U * 18446744073709551616 + L) V; rw [b1, b2, Nat.mul_comm] at h
     rw [Nat.mul_one]; exact h.symm) hr3V
    have eQ : IntKind.u64.wrap ((q1 : Int) * 4294967296 + (q2 : Int)) = (Q : Int) := by
     have := hfin.1; rw [u64wrap]; omega
    have eR4 : (r3 : Int) / 2 ^ s = (R : Int) := by
     rw [← hfin.2, Int.natCast_ediv, Int.natCast_pow]; rfl
    clear hsum hr3 b1 b2 hfin; go_wp2_with fail
    go_ret2
    exact ⟨rfl, 0, rfl⟩
end BigW
end Go.Proofs.Ytobigbnmbnhikaa
