/- Contracts of fix.size, fix.bound, math/bits.Mul64 and math/bits.Add64. -/
import Derived.Test.YtejefecglioifaaFixAdd
import Derived.Lib.Mul64
import Derived.Laws.Bits64b
import Derived.Laws.Externs
import Derived.IntWalk
namespace Go.Proofs.Ytejefecglioifaa.BigW
open Go.RowKit Go.Proofs.Ytejefecglioifaa.Mem Go.Proofs.Ytejefecglioifaa.BigLaw
set_option linter.unusedVariables false

theorem size_any (a : Int) (w : World) (ha : -9223372036854775808 ≤ a ∧ a ≤ 9223372036854775807) :
    Calls Try.prog 46 #[.int .i64 a] w fun e w' => e = .returned (.int .u64 (a.natAbs : Nat)) ∧ w = w' := by
  have HA := Lib.hid ha
  obtain ⟨m, hm⟩ : ∃ m : Nat, a.natAbs = m := ⟨_, rfl⟩
  have HM := Lib.hid hm
  rw [hm]
  by_cases h : a < 0
  · have e2 : IntKind.u64.wrap (-IntKind.u64.wrap a) = (m : Int) := by rw [u64wrap, u64wrap]; omega
    clear hm ha
    go_enter Try.func46, Try.ntmps46
    go_wp2_with fail
    go_ret
    exact ⟨rfl, rfl⟩
  · obtain rfl : a = (m : Int) := by omega
    clear hm HM
    go_enter Try.func46, Try.ntmps46
    go_wp2_with fail
    go_ret
    exact ⟨rfl, rfl⟩

/-- a wide number: its sign, its 128 bits -/
def wideV (neg : Bool) (hi lo : Nat) : Value := .agg #[.bool neg, .int .u64 (hi : Int), .int .u64 (lo : Int)]
def wideN (hi lo : Nat) : Nat := hi * 18446744073709551616 + lo
def sgd (neg : Bool) (n : Nat) : Int := if neg then -(n : Int) else (n : Int)

def Bounded (w w' : World) (X : Int) (e : Ending) : Prop := e = .returned (.tuple #[.int .i64 (stop X).1, .bool (stop X).2]) ∧ Below w.heap.size w w'

theorem bound_any (neg : Bool) (hi lo : Nat) (w : World) (hh : hi < 18446744073709551616) (hl : lo < 18446744073709551616) :
    Calls Try.prog 49 #[wideV neg hi lo] w fun e w' => Bounded w w' (sgd neg (wideN hi lo)) e := by
  unfold wideV
  have hbel : Below w.heap.size w (w.alloc (.cells #[.bool neg, .int .u64 (hi : Int), .int .u64 (lo : Int)] 72)) := (Below.refl _ _).alloc (Nat.le_refl _) _
  have HB := Lib.hid hbel
  clear hbel
  obtain ⟨X, hX⟩ : ∃ X, sgd neg (wideN hi lo) = X := ⟨_, rfl⟩
  rw [hX]
  have HX := Lib.hid (show X = if neg then -((hi * 18446744073709551616 + lo : Nat) : Int) else ((hi * 18446744073709551616 + lo : Nat) : Int) from hX.symm)
  clear hX
  cases neg with
  | true =>
    by_cases h1 : 0 < hi
    · have HS := Lib.hid (show stop X = (-9223372036854775808, true) from stop_lo (by have := HX.out; rw [if_pos rfl] at this; omega))
      have h1' : (0 : Int) < (hi : Int) := by omega
      go_enter Try.func49, Try.ntmps49
      go_wp2_with fail
      go_ret2
      exact ⟨by rw [HS.out]; rfl, HB.out⟩
    · obtain rfl : hi = 0 := by omega
      by_cases h2 : 9223372036854775808 < lo
      · have HS := Lib.hid (show stop X = (-9223372036854775808, true) from stop_lo (by have := HX.out; rw [if_pos rfl] at this; omega))
        have h2' : (9223372036854775808 : Int) < (lo : Int) := by omega
        clear h1 h2
        go_enter Try.func49, Try.ntmps49
        go_wp2_with fail
        go_ret2
        exact ⟨by rw [HS.out]; rfl, HB.out⟩
      · have HS := Lib.hid (show stop X = (-(lo : Int), false) from by have := HX.out; rw [if_pos rfl] at this; exact stop_in (by omega) (by omega) (by omega))
        have h2' : ¬ (9223372036854775808 : Int) < (lo : Int) := by omega
        have h3 : IntKind.i64.wrap (IntKind.u64.wrap (-(lo : Int))) = -(lo : Int) := by rw [u64wrap, IntKind.wrap_i64]; omega
        clear h1 h2
        go_enter Try.func49, Try.ntmps49
        go_wp2_with fail
        go_ret2
        exact ⟨by rw [HS.out]; rfl, HB.out⟩
  | false =>
    by_cases h1 : 0 < hi
    · have HS := Lib.hid (show stop X = (9223372036854775807, true) from stop_hi (by have := HX.out; rw [if_neg (by simp)] at this; omega))
      have h1' : (0 : Int) < (hi : Int) := by omega
      go_enter Try.func49, Try.ntmps49
      go_wp2_with fail
      go_ret2
      exact ⟨by rw [HS.out]; rfl, HB.out⟩
    · obtain rfl : hi = 0 := by omega
      by_cases h2 : 9223372036854775807 < lo
      · have HS := Lib.hid (show stop X = (9223372036854775807, true) from stop_hi (by have := HX.out; rw [if_neg (by simp)] at this; omega))
        have h2' : (9223372036854775807 : Int) < (lo : Int) := by omega
        clear h1 h2
        go_enter Try.func49, Try.ntmps49
        go_wp2_with fail
        go_ret2
        exact ⟨by rw [HS.out]; rfl, HB.out⟩
      · have HS := Lib.hid (show stop X = ((lo : Int), false) from by have := HX.out; rw [if_neg (by simp)] at this; exact stop_in (by omega) (by omega) (by omega))
        have h2' : ¬ (9223372036854775807 : Int) < (lo : Int) := by omega
        clear h1 h2
        go_enter Try.func49, Try.ntmps49
        go_wp2_with fail
        go_ret2
        exact ⟨by rw [HS.out]; rfl, HB.out⟩

theorem maskN (a : Nat) (ha : a < 18446744073709551616) : bits .and .u64 (a : Int) 4294967295 = ((a % 4294967296 : Nat) : Int) := by
  have h := bits_and_u64_nat a 4294967295 ha (by omega)
  have e : a &&& 4294967295 = a % 4294967296 := Nat.and_two_pow_sub_one_eq_mod a 32
  rw [e] at h
  exact h
theorem divN (a : Nat) : (a : Int) / 4294967296 = ((a / 4294967296 : Nat) : Int) := by omega
theorem mulN (a b : Nat) : (a : Int) * (b : Int) = ((a * b : Nat) : Int) := (Int.natCast_mul a b).symm
theorem addN (a b : Nat) : (a : Int) + (b : Int) = ((a + b : Nat) : Int) := (Int.natCast_add a b).symm
theorem wrapN (a : Nat) (ha : a < 18446744073709551616) : IntKind.u64.wrap (a : Int) = (a : Int) := by rw [IntKind.wrap_u64]; omega
theorem wrapM (a : Nat) : IntKind.u64.wrap (a : Int) = ((a % 18446744073709551616 : Nat) : Int) := by rw [IntKind.wrap_u64]; omega

set_option maxHeartbeats 1000000 in
theorem mul64_any (x y : Nat) (hx : x < 18446744073709551616) (hy : y < 18446744073709551616) (w : World) :
    Calls Try.prog 54 #[.int .u64 x, .int .u64 y] w fun e w' => e = .returned (.tuple #[.int .u64 ((x * y / 18446744073709551616 : Nat) : Int), .int .u64 ((x * y % 18446744073709551616 : Nat) : Int)]) ∧ w = w' := by
  obtain ⟨bd, bt, bw, hhi⟩ := Lib.mul64_hi x y hx hy
  have ba := Lib.half_mul_le (a := x / 4294967296) (b := y / 4294967296) (by omega) (by omega)
  have bb := Lib.half_mul_le (a := x / 4294967296) (b := y % 4294967296) (by omega) (by omega)
  have bc := Lib.half_mul_le (a := x % 4294967296) (b := y / 4294967296) (by omega) (by omega)
  have ba' : x / 4294967296 * (y / 4294967296) < 18446744073709551616 := by omega
  have bb' : x / 4294967296 * (y % 4294967296) < 18446744073709551616 := by omega
  have bc' : x % 4294967296 * (y / 4294967296) < 18446744073709551616 := by omega
  have bh1 : x / 4294967296 * (y / 4294967296) + (x / 4294967296 * (y % 4294967296) + x % 4294967296 * (y % 4294967296) / 4294967296) / 4294967296 < 18446744073709551616 := by omega
  have bh : x / 4294967296 * (y / 4294967296) + (x / 4294967296 * (y % 4294967296) + x % 4294967296 * (y % 4294967296) / 4294967296) / 4294967296 + ((x / 4294967296 * (y % 4294967296) + x % 4294967296 * (y % 4294967296) / 4294967296) % 4294967296 + x % 4294967296 * (y / 4294967296)) / 4294967296 < 18446744073709551616 := by omega
  go_enter Try.func54, Try.ntmps54
  go_wp2
  simp only [maskN x hx, maskN y hy, divN, mulN, addN, wrapN _ bd, wrapN _ bb', wrapN _ bt, maskN _ bt, wrapN _ bc', wrapN _ bw, wrapN _ ba', wrapN _ bh1, wrapN _ bh, wrapM (x * y)]
  rw [hhi]
  go_ret2
  exact ⟨rfl, rfl⟩

theorem add64_run (x y : Nat) (w : World) :
    (callFunc 48 #[.int .u64 x, .int .u64 y, .int .u64 0]).run Try.prog w =
      .ok (.value (.tuple #[.int .u64 (((x + y) % 18446744073709551616 : Nat) : Int), .int .u64 (((x + y) / 18446744073709551616 : Nat) : Int)])) w := by
  rw [run_callFunc_extern Try.func48 (by kernel_rfl) (by kernel_rfl) (by kernel_rfl) (e := add64Entry) (by kernel_rfl), run_add64 x y 0 (by omega) (by omega) (by omega) (by omega)]
  simp only [Result.andThen]
  congr 5 <;> omega
theorem add64_at (x n : Nat) (y : Int) (hy : y = (n : Int)) (w : World) :
    (callFunc 48 #[.int .u64 x, .int .u64 y, .int .u64 0]).run Try.prog w =
      .ok (.value (.tuple #[.int .u64 (((x + n) % 18446744073709551616 : Nat) : Int), .int .u64 (((x + n) / 18446744073709551616 : Nat) : Int)])) w := by
  subst hy; exact add64_run x n w
end Go.Proofs.Ytejefecglioifaa.BigW
