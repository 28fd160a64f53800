import Derived.Test.YtjfllpmiajkenaaGreatPk15
import Derived.Lib.Mul64
import Derived.Laws.Bits64b
import Derived.Laws.Externs
import Derived.IntWalk
import Derived.Test.YtjfllpmiajkenaaGreatPk12
import Derived.Test.YtjfllpmiajkenaaGreatPk11
import Derived.Deep.RegionLaw
import Derived.Test.YtjfllpmiajkenaaGreatPk14
namespace Go.Proofs.YtjfllpmiajkenaaGreat.BigW
open Go.RowKit Go.Proofs.YtjfllpmiajkenaaGreat.Mem Go.Proofs.YtjfllpmiajkenaaGreat.BigLaw
set_option linter.unusedVariables false
theorem size_any (a : Int) (w : World) (ha : -9223372036854775808 ≤ a ∧ a ≤ 9223372036854775807) :
    Calls Tryz.prog 147 #[.int .i64 a] w fun e w' => e = .returned (.int .u64 (a.natAbs : Nat)) ∧ w = w' := by
  have HA := Lib.hid ha
  obtain ⟨m, hm⟩ : ∃ m : Nat, a.natAbs = m := ⟨_, rfl⟩
  have HM := Lib.hid hm
  rw [hm]
  by_cases h : a < 0
  · have e2 : IntKind.u64.wrap (-IntKind.u64.wrap a) = (m : Int) := by rw [u64wrap, u64wrap]; omega
    clear hm ha
    go_enter Tryz.func147, Tryz.ntmps147
    go_wp2_with fail
    go_ret
    exact ⟨rfl, rfl⟩
  · obtain rfl : a = (m : Int) := by omega
    clear hm HM
    go_enter Tryz.func147, Tryz.ntmps147
    go_wp2_with fail
    go_ret
    exact ⟨rfl, rfl⟩
def wideV (neg : Bool) (hi lo : Nat) : Value := .agg #[.bool neg, .int .u64 (hi : Int), .int .u64 (lo : Int)]
def wideN (hi lo : Nat) : Nat := hi * 18446744073709551616 + lo
def sgd (neg : Bool) (n : Nat) : Int := if neg then -(n : Int) else (n : Int)
def Bounded (w w' : World) (X : Int) (e : Ending) : Prop := e = .returned (.tuple #[.int .i64 (stop X).1, .bool (stop X).2]) ∧ Below w.heap.size w w'
theorem bound_any (neg : Bool) (hi lo : Nat) (w : World) (hh : hi < 18446744073709551616) (hl : lo < 18446744073709551616) :
    Calls Tryz.prog 149 #[wideV neg hi lo] w fun e w' => Bounded w w' (sgd neg (wideN hi lo)) e := by
  unfold wideV
  have hbel : Below w.heap.size w (w.alloc (.cells #[.bool neg, .int .u64 (hi : Int), .int .u64 (lo : Int)] 186)) := (Below.refl _ _).alloc (Nat.le_refl _) _
  have HB := Lib.hid hbel
  clear hbel
  obtain ⟨X, hX⟩ : ∃ X, sgd neg (wideN hi lo) = X := ⟨_, rfl⟩
  rw [hX]
  have HX := Lib.hid (show X = if neg then -((hi * 18446744073709551616 + lo : Nat) : Int) else ((hi * 18446744073709551616 + lo : Nat) : Int) from hX.symm)
  clear hX
  cases neg with
  | true =>
    by_cases h1 : 0 < hi
    · have HS := Lib.hid (show stop X = (-9223372036854775808, true) from stop_lo (by have := HX.out; rw [if_pos rfl] at this; omega))
      have h1' : (0 : Int) < (hi : Int) := by omega
      go_enter Tryz.func149, Tryz.ntmps149
      go_wp2_with fail
      go_ret2
      exact ⟨by rw [HS.out]; rfl, HB.out⟩
    · obtain rfl : hi = 0 := by omega
      by_cases h2 : 9223372036854775808 < lo
      · have HS := Lib.hid (show stop X = (-9223372036854775808, true) from stop_lo (by have := HX.out; rw [if_pos rfl] at this; omega))
        have h2' : (9223372036854775808 : Int) < (lo : Int) := by omega
        clear h1 h2
        go_enter Tryz.func149, Tryz.ntmps149
        go_wp2_with fail
        go_ret2
        exact ⟨by rw [HS.out]; rfl, HB.out⟩
      · have HS := Lib.hid (show stop X = (-(lo : Int), false) from by have := HX.out; rw [if_pos rfl] at this; exact stop_in (by omega) (by omega) (by omega))
        have h2' : ¬ (9223372036854775808 : Int) < (lo : Int) := by omega
        have h3 : IntKind.i64.wrap (IntKind.u64.wrap (-(lo : Int))) = -(lo : Int) := by rw [u64wrap, IntKind.wrap_i64]; omega
        clear h1 h2
        go_enter Tryz.func149, Tryz.ntmps149
        go_wp2_with fail
        go_ret2
        exact ⟨by rw [HS.out]; rfl, HB.out⟩
  | false =>
    by_cases h1 : 0 < hi
    · have HS := Lib.hid (show stop X = (9223372036854775807, true) from stop_hi (by have := HX.out; rw [if_neg (by simp)] at this; omega))
      have h1' : (0 : Int) < (hi : Int) := by omega
      go_enter Tryz.func149, Tryz.ntmps149
      go_wp2_with fail
      go_ret2
      exact ⟨by rw [HS.out]; rfl, HB.out⟩
    · obtain rfl : hi = 0 := by omega
      by_cases h2 : 9223372036854775807 < lo
      · have HS := Lib.hid (show stop X = (9223372036854775807, true) from stop_hi (by have := HX.out; rw [if_neg (by simp)] at this; omega))
        have h2' : (9223372036854775807 : Int) < (lo : Int) := by omega
        clear h1 h2
        go_enter Tryz.func149, Tryz.ntmps149
        go_wp2_with fail
        go_ret2
        exact ⟨by rw [HS.out]; rfl, HB.out⟩
      · have HS := Lib.hid (show stop X = ((lo : Int), false) from by have := HX.out; rw [if_neg (by simp)] at this; exact stop_in (by omega) (by omega) (by omega))
        have h2' : ¬ (9223372036854775807 : Int) < (lo : Int) := by omega
        clear h1 h2
        go_enter Tryz.func149, Tryz.ntmps149
        go_wp2_with fail
        go_ret2
        exact ⟨by rw [HS.out]; rfl, HB.out⟩
theorem maskN (a : Nat) (ha : a < 18446744073709551616) : bits .and .u64 (a : Int) 4294967295 = ((a % 4294967296 : Nat) : Int) := by
  have h := bits_and_u64_nat a 4294967295 ha (by omega)
  have e : a &&& 4294967295 = a % 4294967296 := Nat.and_two_pow_sub_one_eq_mod a 32
  rw [e] at h
  exact h
theorem divN (a : Nat) : (a : Int) / 4294967296 = ((a / 4294967296 : Nat) : Int) := by omega
theorem mulN (a b : Nat) : (a : Int) * (b : Int) = ((a * b : Nat) : Int) := (Int.natCast_mul a b).symm
theorem addN (a b : Nat) : (a : Int) + (b : Int) = ((a + b : Nat) : Int) := (Int.natCast_add a b).symm
theorem wrapN (a : Nat) (ha : a < 18446744073709551616) : IntKind.u64.wrap (a : Int) = (a : Int) := by rw [IntKind.wrap_u64]; omega
theorem wrapM (a : Nat) : IntKind.u64.wrap (a : Int) = ((a % 18446744073709551616 : Nat) : Int) := by rw [IntKind.wrap_u64]; omega
set_option maxHeartbeats 1000000 in
theorem mul64_any (x y : Nat) (hx : x < 18446744073709551616) (hy : y < 18446744073709551616) (w : World) :
    Calls Tryz.prog 146 #[.int .u64 x, .int .u64 y] w fun e w' => e = .returned (.tuple #[.int .u64 ((x * y / 18446744073709551616 : Nat) : Int), .int .u64 ((x * y % 18446744073709551616 : Nat) : Int)]) ∧ w = w' := by
  obtain ⟨bd, bt, bw, hhi⟩ := Lib.mul64_hi x y hx hy
  have ba := Lib.half_mul_le (a := x / 4294967296) (b := y / 4294967296) (by omega) (by omega)
  have bb := Lib.half_mul_le (a := x / 4294967296) (b := y % 4294967296) (by omega) (by omega)
  have bc := Lib.half_mul_le (a := x % 4294967296) (b := y / 4294967296) (by omega) (by omega)
  have ba' : x / 4294967296 * (y / 4294967296) < 18446744073709551616 := by omega
  have bb' : x / 4294967296 * (y % 4294967296) < 18446744073709551616 := by omega
  have bc' : x % 4294967296 * (y / 4294967296) < 18446744073709551616 := by omega
  have bh1 : x / 4294967296 * (y / 4294967296) + (x / 4294967296 * (y % 4294967296) + x % 4294967296 * (y % 4294967296) / 4294967296) / 4294967296 < 18446744073709551616 := by omega
  have bh : x / 4294967296 * (y / 4294967296) + (x / 4294967296 * (y % 4294967296) + x % 4294967296 * (y % 4294967296) / 4294967296) / 4294967296 + ((x / 4294967296 * (y % 4294967296) + x % 4294967296 * (y % 4294967296) / 4294967296) % 4294967296 + x % 4294967296 * (y / 4294967296)) / 4294967296 < 18446744073709551616 := by omega
  go_enter Tryz.func146, Tryz.ntmps146
  go_wp2
  simp only [maskN x hx, maskN y hy, divN, mulN, addN, wrapN _ bd, wrapN _ bb', wrapN _ bt, maskN _ bt, wrapN _ bc', wrapN _ bw, wrapN _ ba', wrapN _ bh1, wrapN _ bh, wrapM (x * y)]
  rw [hhi]
  go_ret2
  exact ⟨rfl, rfl⟩
theorem add64_run (x y : Nat) (w : World) :
    (callFunc 148 #[.int .u64 x, .int .u64 y, .int .u64 0]).run Tryz.prog w =
      .ok (.value (.tuple #[.int .u64 (((x + y) % 18446744073709551616 : Nat) : Int), .int .u64 (((x + y) / 18446744073709551616 : Nat) : Int)])) w := by
  rw [run_callFunc_extern Tryz.func148 (by kernel_rfl) (by kernel_rfl) (by kernel_rfl) (e := add64Entry) (by kernel_rfl), run_add64 x y 0 (by omega) (by omega) (by omega) (by omega)]
  simp only [Result.andThen]
  congr 5 <;> omega
theorem add64_at (x n : Nat) (y : Int) (hy : y = (n : Int)) (w : World) :
    (callFunc 148 #[.int .u64 x, .int .u64 y, .int .u64 0]).run Tryz.prog w =
      .ok (.value (.tuple #[.int .u64 (((x + n) % 18446744073709551616 : Nat) : Int), .int .u64 (((x + n) / 18446744073709551616 : Nat) : Int)])) w := by
  subst hy; exact add64_run x n w
end Go.Proofs.YtjfllpmiajkenaaGreat.BigW
namespace Go.Proofs.YtjfllpmiajkenaaGreat.BigLaw
def macC (f g : Nat → Nat) (x : Nat) : Nat → Nat
  | 0 => 0
  | j + 1 => (macC f g x j + (x * g j + f j)) / 4294967296
def macD (f g : Nat → Nat) (x j : Nat) : Nat := (macC f g x j + (x * g j + f j)) % 4294967296
theorem macD_lt (f g : Nat → Nat) (x j : Nat) : macD f g x j < 4294967296 := Nat.mod_lt _ (by omega)
theorem mac_room {c x y f : Nat} (hc : c < 4294967296) (hx : x < 4294967296) (hy : y < 4294967296) (hf : f < 4294967296) : c + (x * y + f) < 18446744073709551616 := by
  have := mul_le_word (x := x) (y := y) (by omega) (by omega)
  omega
theorem macC_lt {f g : Nat → Nat} {x : Nat} (hx : x < 4294967296) (hg : ∀ i, g i < 4294967296) (hf : ∀ i, f i < 4294967296) : ∀ j, macC f g x j < 4294967296
  | 0 => by simp [macC]
  | j + 1 => by
    have ih := macC_lt hx hg hf j
    have := mac_room ih hx (hg j) (hf j)
    unfold macC
    omega
theorem mac_law (f g : Nat → Nat) (x : Nat) : ∀ k, valF (macD f g x) k + macC f g x k * pw k = x * valF g k + valF f k
  | 0 => by simp [valF, macC]
  | k + 1 => by
    have ih := mac_law f g x k
    unfold valF
    have e1 : macC f g x (k + 1) * pw (k + 1) + macD f g x k * pw k = (macC f g x k + (x * g k + f k)) * pw k := by
      show (macC f g x k + (x * g k + f k)) / 4294967296 * pw (k + 1) + (macC f g x k + (x * g k + f k)) % 4294967296 * pw k = _
      rw [pw_succ, ← Nat.mul_assoc, ← Nat.add_mul]
      congr 1
      omega
    rw [Nat.add_mul, Nat.add_mul] at e1
    rw [Nat.mul_add, ← Nat.mul_assoc]
    omega
def mulF (f g : Nat → Nat) (x k n p : Nat) : Nat := if p < k then f p else if p < k + n then macD (fun i => f (k + i)) g x (p - k) else if p = k + n then macC (fun i => f (k + i)) g x n else f p
theorem mulF_lt {f g : Nat → Nat} {x k n : Nat} (hx : x < 4294967296) (hg : ∀ i, g i < 4294967296) (hf : ∀ i, f i < 4294967296) (p : Nat) : mulF f g x k n p < 4294967296 := by
  unfold mulF
  have h1 := hf p
  have h2 := macD_lt (fun i => f (k + i)) g x (p - k)
  have h3 := macC_lt (f := fun i => f (k + i)) hx hg (fun i => hf _) n
  (repeat' split) <;> assumption
theorem mulF_val (f g : Nat → Nat) (x k n : Nat) : valF (mulF f g x k n) (k + 1 + n) = valF f (k + n) + x * valF g n * pw k := by
  rw [show k + 1 + n = k + (n + 1) by omega, valF_add, valF_add f, valF_succ]
  have e1 : valF (mulF f g x k n) k = valF f k := valF_congr fun i hi => by unfold mulF; rw [if_pos hi]
  have e2 : valF (fun i => mulF f g x k n (k + i)) n = valF (macD (fun i => f (k + i)) g x) n := valF_congr fun i hi => by
    show mulF f g x k n (k + i) = _
    unfold mulF; rw [if_neg (by omega), if_pos (by omega), show k + i - k = i by omega]
  have e3 : mulF f g x k n (k + n) = macC (fun i => f (k + i)) g x n := by
    unfold mulF; rw [if_neg (by omega), if_neg (by omega), if_pos rfl]
  rw [e1, e2, e3, mac_law, Nat.add_mul]
  omega
theorem mulF_out {f g : Nat → Nat} {x k n : Nat} (h : ∀ p, k + n ≤ p → f p = 0) (p : Nat) (hp : k + 1 + n ≤ p) : mulF f g x k n p = 0 := by
  unfold mulF
  rw [if_neg (by omega), if_neg (by omega), if_neg (by omega)]
  exact h p (by omega)
end Go.Proofs.YtjfllpmiajkenaaGreat.BigLaw
namespace Go.Proofs.YtjfllpmiajkenaaGreat.BigW
open Go.RowKit Go.Proofs.YtjfllpmiajkenaaGreat.Mem Go.Proofs.YtjfllpmiajkenaaGreat.BigLaw
set_option linter.unusedVariables false
def mulM (f g : Nat → Nat) (x k j p : Nat) : Nat := if p < k then f p else if p < k + j then macD (fun i => f (k + i)) g x (p - k) else f p
theorem mulM_zero (f g : Nat → Nat) (x k n : Nat) : rowF .u32 n (fun p => (f p : Int)) = rowF .u32 n (fun p => (mulM f g x k 0 p : Int)) :=
  rowF_congr fun i hi => by unfold mulM; split; rfl; rw [if_neg (by omega)]
theorem mulM_step (f g : Nat → Nat) (x k j n : Nat) : (rowF .u32 n fun p => (mulM f g x k j p : Int)).setIfInBounds (k + j) (.int .u32 (macD (fun i => f (k + i)) g x j : Nat)) = rowF .u32 n fun p => (mulM f g x k (j + 1) p : Int) := by
  refine rowF_set fun i hi => ?_
  unfold mulM
  by_cases e : i = k + j
  · subst e
    rw [if_pos rfl, if_neg (by omega), if_pos (by omega), show k + j - k = j by omega]
  · rw [if_neg e]
    by_cases h0 : i < k
    · rw [if_pos h0, if_pos h0]
    · rw [if_neg h0, if_neg h0]
      by_cases h1 : i < k + j
      · rw [if_pos h1, if_pos (by omega)]
      · rw [if_neg h1, if_neg (by omega)]
theorem mulM_end (f g : Nat → Nat) (x k m n : Nat) : (rowF .u32 n fun p => (mulM f g x k m p : Int)).setIfInBounds (k + m) (.int .u32 (macC (fun i => f (k + i)) g x m : Nat)) = rowF .u32 n fun p => (mulF f g x k m p : Int) := by
  refine rowF_set fun i hi => ?_
  unfold mulM mulF
  by_cases e : i = k + m
  · subst e
    rw [if_pos rfl, if_neg (by omega), if_neg (by omega), if_pos rfl]
  · rw [if_neg e, if_neg e]
theorem mac_div (c x y z : Nat) : ((c : Int) + ((x : Int) * (y : Int) + (z : Int))) / 4294967296 = (((c + (x * y + z)) / 4294967296 : Nat) : Int) := by
  have : ((x * y : Nat) : Int) = (x : Int) * (y : Int) := Int.natCast_mul _ _
  omega
theorem mac_mod (c x y z : Nat) : ((c : Int) + ((x : Int) * (y : Int) + (z : Int))) % 4294967296 = (((c + (x * y + z)) % 4294967296 : Nat) : Int) := by
  have : ((x * y : Nat) : Int) = (x : Int) * (y : Int) := Int.natCast_mul _ _
  omega
theorem mulM_at (f g : Nat → Nat) (x k j : Nat) : mulM f g x k j (k + j) = f (k + j) := by
  unfold mulM; rw [if_neg (by omega), if_neg (by omega)]
set_option maxRecDepth 100000 in
set_option maxHeartbeats 4000000 in
theorem mul_any (A A' : Option Addr) (c c' : Nat) (l l' : List Nat) (B : Nat) (w : World) (hB : B ≤ w.heap.size) (h : Wd w B A c l) (h' : Wd w B A' c' l') (hsz : l.length ≤ 1000000) (hsz' : l'.length ≤ 1000000) :
    Calls Tryz.prog 180 #[.slice A l.length c, .slice A' l'.length c'] w fun e w' => GaveW w w' (val l * val l') e := by
  have H := Lib.hid h
  have H' := Lib.hid h'
  clear h h'
  by_cases hz : l.length = 0
  · have hz' : ((l.length : Int) == 0) = true := by simp [hz]
    have HZ := Lib.hid (show val l = 0 by rw [List.eq_nil_of_length_eq_zero hz]; rfl)
    clear hz
    go_enter Tryz.func180, Tryz.ntmps180
    go_wp2_with fail
    go_ret
    exact ⟨none, 0, [], rfl, Wd.nil _ _, fun h => by simp at h, by rw [HZ.out, Nat.zero_mul]; rfl, Below.refl _ _⟩
  have hz1 : ((l.length : Int) == 0) = false := by rw [beq_eq_false_iff_ne]; omega
  by_cases hz' : l'.length = 0
  · have hz2 : ((l'.length : Int) == 0) = true := by simp [hz']
    have HZ := Lib.hid (show val l' = 0 by rw [List.eq_nil_of_length_eq_zero hz']; rfl)
    clear hz hz'
    go_enter Tryz.func180, Tryz.ntmps180
    go_wp2_with fail
    go_ret
    exact ⟨none, 0, [], rfl, Wd.nil _ _, fun h => by simp at h, by rw [HZ.out, Nat.mul_zero]; rfl, Below.refl _ _⟩
  have hz2 : ((l'.length : Int) == 0) = false := by rw [beq_eq_false_iff_ne]; omega
  clear hz hz'
  go_enter Tryz.func180, Tryz.ntmps180
  go_wp2_with (refine wpList_make_row rfl _ _ _ rfl elemU32 (l.length + l'.length) rfl rfl (by go_num) (by go_num) (by omega) (by omega) ?_)
  go_loopw [6] (fun i wr => ∃ (k : Nat) (f : Nat → Nat), k ≤ l.length ∧ i = .int .i64 k ∧ Hid ((∀ p, f p < 4294967296) ∧ (∀ p, k + l'.length ≤ p → f p = 0) ∧ valF f (k + l'.length) = valF (fun i => l.getD i 0) k * val l') ∧ Blk wr w.heap.size 173 (rowF .u32 (l.length + l'.length) fun j => (f j : Int)) ∧ Below w.heap.size w wr) (fun i _ => l.length - (intOf i).toNat)
  case atStart => exact ⟨0, fun _ => 0, by omega, rfl, Lib.hid ⟨fun _ => Nat.zero_lt_succ _, fun _ _ => rfl, by rw [valF_zeros (a := 0) (Nat.zero_le _) (fun _ _ _ => rfl)]; simp [valF]⟩, Blk.new rfl, (Below.refl _ _).alloc (Nat.le_refl _) _⟩
  case round =>
    obtain ⟨k, f, hk, rfl, hf, hblk, hb⟩ := hrel
    by_cases hlt : k < l.length
    · obtain ⟨b, o, rfl, hbB, hcx⟩ := (H.out.keep (w' := wr) (fun b o hb' => below_cell hb b o (by omega))).at_ hlt
      have hx := getD_lt H.out.small k
      have HX := Lib.hid (show valF (fun i => l.getD i 0) (k + 1) = valF (fun i => l.getD i 0) k + l.getD k 0 * pw k from rfl)
      have HCX := Lib.hid (show ∀ wr', Below w.heap.size w wr' → wr'.cell? ⟨b, o + k, none⟩ = some (.int .u32 (l.getD k 0 : Int)) from fun wr' hb' => by
        obtain ⟨b', o', e, _, h⟩ := (H.out.keep (w' := wr') (fun b o hb'' => below_cell hb' b o (by omega))).at_ hlt
        injection e with e; injection e with e1 e2; subst e1 e2; exact h)
      generalize l.getD k 0 = x at hcx hx HX HCX
      have hlt1 : (k : Int) < (l.length : Int) := by omega
      clear hcx
      go_wp2_with fail
      go_loopw [7, 8] (fun c j wr => ∃ j' : Nat, j' ≤ l'.length ∧ j = .int .i64 j' ∧ c = .int .u64 (macC (fun i => f (k + i)) (fun i => l'.getD i 0) x j' : Nat) ∧ Blk wr w.heap.size 173 (rowF .u32 (l.length + l'.length) fun p => (mulM f (fun i => l'.getD i 0) x k j' p : Int)) ∧ Below w.heap.size w wr) (fun _ j _ => l'.length - (intOf j).toNat)
      case atStart => exact ⟨0, by omega, rfl, rfl, by rw [← mulM_zero]; exact hblk, hb⟩
      case round =>
        clear hblk hb
        obtain ⟨j, hj, rfl, rfl, hblk, hb⟩ := hrel
        have hcl := macC_lt (f := fun i => f (k + i)) hx (fun i => getD_lt H'.out.small i) (fun i => hf.out.1 _) j
        by_cases hjl : j < l'.length
        · obtain ⟨b', o', rfl, hbB', hcy⟩ := (H'.out.keep (w' := wr) (fun b o hb' => below_cell hb b o (by omega))).at_ hjl
          have hcx := HCX.out wr hb
          have hy := getD_lt H'.out.small j
          have hz := hf.out.1 (k + j)
          have c1 := hblk.cell (k + j)
          rw [rowF_at _ _ _ _ (by omega), mulM_at] at c1
          have t1 := hblk.thaw (k + j)
          have hroom := mac_room hcl hx hy hz
          have HS := Lib.hid (show macC (fun i => f (k + i)) (fun i => l'.getD i 0) x (j + 1) = (macC (fun i => f (k + i)) (fun i => l'.getD i 0) x j + (x * l'.getD j 0 + f (k + j))) / 4294967296 from rfl)
          have HD := Lib.hid (show macD (fun i => f (k + i)) (fun i => l'.getD i 0) x j = (macC (fun i => f (k + i)) (fun i => l'.getD i 0) x j + (x * l'.getD j 0 + f (k + j))) % 4294967296 from rfl)
          generalize macC (fun i => f (k + i)) (fun i => l'.getD i 0) x j = cc at hcl hroom HS HD
          generalize l'.getD j 0 = y at hcy hy hroom HS HD
          generalize f (k + j) = z at hz c1 hroom HS HD
          have hjl1 : (j : Int) < (l'.length : Int) := by omega
          have hp0 : 0 ≤ (x : Int) * (y : Int) := Int.mul_nonneg (by omega) (by omega)
          have hp1 : (cc : Int) + ((x : Int) * (y : Int) + (z : Int)) < 18446744073709551616 := by have := hroom; rw [← Int.natCast_mul]; omega
          clear hroom
          have hk1 : IntKind.i64.wrap ((k : Int) + (j : Int)) = (k : Int) + (j : Int) := IntWalk.i64_in _ (by omega)
          have hk2 : (0 : Int) ≤ (k : Int) + (j : Int) := by omega
          have hk3 : (k : Int) + (j : Int) < (l.length : Int) + (l'.length : Int) := by omega
          have hk4 : ((k : Int) + (j : Int)).toNat = k + j := by omega
          go_wp2_with fail
          go_quiet (fail)
          go_wp2_with fail
          have e : ((cc : Int) + ((x : Int) * (y : Int) + (z : Int))) % 4294967296 = ((macD (fun i => f (k + i)) (fun i => l'.getD i 0) x j : Nat) : Int) := by rw [HD.out]; exact mac_mod _ _ _ _
          refine ⟨⟨j + 1, by omega, by go_num, by rw [HS.out, ← mac_div], ?_, (below_drewN hb nq).setCell (Nat.le_refl _) _⟩, by simp [intOf]; omega⟩
          rw [e, ← mulM_step]
          exact (hblk.drewN nq).set _ _
        · obtain rfl : j = l'.length := by omega
          have c1 := hblk.cell (k + l'.length)
          rw [rowF_at _ _ _ _ (by omega), mulM_at, hf.out.2.1 _ (Nat.le_refl _)] at c1
          have t1 := hblk.thaw (k + l'.length)
          have HE := Lib.hid (mulM_end f (fun i => l'.getD i 0) x k l'.length (l.length + l'.length))
          have HF := Lib.hid (show (∀ p, mulF f (fun i => l'.getD i 0) x k l'.length p < 4294967296) ∧ (∀ p, k + 1 + l'.length ≤ p → mulF f (fun i => l'.getD i 0) x k l'.length p = 0) ∧ valF (mulF f (fun i => l'.getD i 0) x k l'.length) (k + 1 + l'.length) = valF (fun i => l.getD i 0) (k + 1) * val l' from
            ⟨mulF_lt hx (fun i => getD_lt H'.out.small i) hf.out.1, mulF_out hf.out.2.1, by rw [mulF_val, hf.out.2.2, HX.out, valF_val (Nat.le_refl _), Nat.add_mul, Nat.mul_right_comm x]⟩)
          generalize macC (fun i => f (k + i)) (fun i => l'.getD i 0) x l'.length = cc at hcl HE
          have hk1 : IntKind.i64.wrap ((k : Int) + (l'.length : Int)) = (k : Int) + (l'.length : Int) := IntWalk.i64_in _ (by omega)
          have hk2 : (0 : Int) ≤ (k : Int) + (l'.length : Int) := by omega
          have hk3 : (k : Int) + (l'.length : Int) < (l.length : Int) + (l'.length : Int) := by omega
          have hk4 : ((k : Int) + (l'.length : Int)).toNat = k + l'.length := by omega
          clear hjl
          go_wp2_with fail
          refine ⟨⟨k + 1, mulF f (fun i => l'.getD i 0) x k l'.length, by omega, by go_num, HF, ?_, hb.setCell (Nat.le_refl _) _⟩, by simp [intOf]; omega⟩
          rw [← HE.out]
          exact hblk.set _ _
    · obtain rfl : k = l.length := by omega
      have hg := hblk.lt
      have HW := Lib.hid (wd_of_blk hblk (by omega) (fun i _ => hf.out.1 i))
      have HV := Lib.hid (show val ((List.range (l.length + l'.length)).map f) = val l * val l' by rw [val_map, hf.out.2.2]; rfl)
      have hT := trim_any _ _ _ _ _ HW.out
      rw [List.length_map, List.length_range] at hT
      have HT := Lib.hid hT
      clear hlt hT
      go_wp2_with fail
      refine HT.out.mono ?_
      rintro e w' ⟨ht, rfl⟩
      obtain ⟨A, c, l1, rfl, h2⟩ := gave_of_trim (n := val l * val l') HW.out (by omega) hb HV.out ht
      have H2 := Lib.hid h2
      clear h2 ht
      go_wp2_with fail
      go_ret
      exact ⟨A, c, l1, rfl, H2.out⟩
theorem mul_sg {X Y : Int} : Sg (decide (X < 0) != decide (Y < 0)) (X * Y) := by
  refine sg_mk ?_
  rcases Int.lt_trichotomy X 0 with h | h | h <;> rcases Int.lt_trichotomy Y 0 with h' | h' | h'
  · right; right; exact ⟨by simp [h, h'], Int.mul_pos_of_neg_of_neg h h'⟩
  · left; rw [h', Int.mul_zero]
  · right; left; exact ⟨by simp [h]; omega, Int.mul_neg_of_neg_of_pos h h'⟩
  · left; rw [h, Int.zero_mul]
  · left; rw [h, Int.zero_mul]
  · left; rw [h, Int.zero_mul]
  · right; left; exact ⟨by simp [h']; omega, Int.mul_neg_of_pos_of_neg h h'⟩
  · left; rw [h', Int.mul_zero]
  · have h1 : ¬ X < 0 := by omega
    have h2 : ¬ Y < 0 := by omega
    right; right; exact ⟨by simp [h1, h2], Int.mul_pos h h'⟩
set_option maxRecDepth 100000 in
set_option maxHeartbeats 8000000 in
theorem bigMul_any (p px py : Nat) (X Y : Int) (w : World) (hp : IsInt w p) (hx : BigAt w px X) (hy : BigAt w py Y) (bx : X.natAbs < pw 100) (bY : Y.natAbs < pw 100) :
    Calls Tryz.prog 157 #[.pointer (some ⟨p, 0, none⟩), .pointer (some ⟨px, 0, none⟩), .pointer (some ⟨py, 0, none⟩)] w fun e w' => e = .returned (.pointer (some ⟨p, 0, none⟩)) ∧ BigAt w' p (X * Y) ∧ w.grownBy w' (some p) := by
  obtain ⟨A, c, l, x0, x1, xw, xt, xv⟩ := hx.parts
  obtain ⟨A', c', l', y0, y1, yw, yt, yv⟩ := hy.parts
  have HL := Lib.hid (len_of xt xv bx)
  have HL' := Lib.hid (len_of yt yv bY)
  have HXW := Lib.hid xw
  have HYW := Lib.hid yw
  have HV := Lib.hid (show val l * val l' = (X * Y).natAbs by rw [Int.natAbs_mul, xv, yv])
  have HSG := Lib.hid (mul_sg (X := X) (Y := Y))
  have HP := Lib.hid hp
  have HPX := Lib.hid hx.lt
  have HPY := Lib.hid hy.lt
  clear xw xt xv yw yt yv hp hx hy bx bY
  generalize X * Y = Z at HV HSG ⊢
  generalize decide (X < 0) = xn at x0 HSG
  generalize decide (Y < 0) = yn at y0 HSG
  go_enter Tryz.func157, Tryz.ntmps157
  go_wp2_with fail
  go_region_law (first
    | (go_simp; go_at_call 180; refine (mul_any A A' c c' l l' _ _ (Nat.le_refl _) HXW.out.drew HYW.out.drew HL.out HL'.out).mono ?_; rintro e w1 ⟨A1, c1, l1, rfl, hw1, ht1, hv1, hb1⟩; have x0' := (below_cell hb1 px 0 HPX.out).trans x0; have y0' := (below_cell hb1 py 0 HPY.out).trans y0)
    | (go_simp; go_at_call 95; refine (give_big p _ A1 l1 c1 _ Z (HP.out.drew.below hb1 HP.out.lt) hw1 ht1 (hv1.trans HV.out) (sign_of ht1 (hv1.trans HV.out) _ HSG.out)).mono ?_; rintro e w2 ⟨rfl, hz2, hg2⟩))
  all_goals
    have HZ := Lib.hid hz2
    clear hz2
    go_wp2_with fail
    go_ret
    exact ⟨rfl, HZ.out, (show w.grownBy w1 (some p) from ⟨hb1.os, hb1.tape, hb1.output, hb1.size, fun g hg _ => hb1.block g hg⟩).trans hg2⟩
end Go.Proofs.YtjfllpmiajkenaaGreat.BigW
namespace Go.Proofs.YtjfllpmiajkenaaGreat.BigW
open Go.RowKit Go.Proofs.YtjfllpmiajkenaaGreat.Mem Go.Proofs.YtjfllpmiajkenaaGreat.BigLaw
set_option linter.unusedVariables false
theorem power_any (k wd s : Nat) (w : World) (hk : k = 32 * wd + s) (hs : s < 32) (hwd : wd ≤ 1000000) :
    Calls Tryz.prog 158 #[.int .u64 (k : Int)] w fun e w' => NewBig w w' (2 ^ k) e := by
  have HI := Lib.hid (isInt_new w)
  have HK := Lib.hid hk
  have HS := Lib.hid hs
  have HW := Lib.hid hwd
  clear hk hs hwd
  go_enter Tryz.func158, Tryz.ntmps158
  go_wp2_with fail
  refine (newInt_any 1 _ (by omega)).mono ?_
  rintro e w1 ⟨p, rfl, hp, hz, hb⟩
  have HZ := Lib.hid hz
  clear hz
  go_wp2_with fail
  refine (bigLsh_any w.heap.size p 1 k wd s _ (HI.out.below hb HI.out.lt) HZ.out (pw_small (by omega)) HK.out HS.out HW.out).mono ?_
  rintro e w2 ⟨rfl, hz2, hg2⟩
  rw [Int.one_mul] at hz2
  have HZ2 := Lib.hid hz2
  clear hz2
  go_wp2_with fail
  go_ret
  exact ⟨w.heap.size, rfl, Nat.le_refl _, HZ2.out, below_grown (onward ((Below.refl _ _).alloc (Nat.le_refl _) _) (Nat.le_refl _) hb) (Nat.le_refl _) hg2 (fun g e => by injection e with e; omega)⟩
end Go.Proofs.YtjfllpmiajkenaaGreat.BigW
