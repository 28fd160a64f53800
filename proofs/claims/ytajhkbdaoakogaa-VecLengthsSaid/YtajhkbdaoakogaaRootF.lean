/- Contract: fix.Sqrt. -/
import Derived.Test.YtajhkbdaoakogaaRootLaw
import Derived.Test.YtajhkbdaoakogaaFixW
import Derived.Test.YtajhkbdaoakogaaReck
namespace Go.Proofs.Ytajhkbdaoakogaa.BigW
open Go.RowKit Go.Proofs.Ytajhkbdaoakogaa.Mem Go.Proofs.Ytajhkbdaoakogaa.BigLaw
set_option linter.unusedVariables false
set_option linter.unusedSimpArgs false

def rootGo (N : Nat) : Nat → Nat → Nat
  | 0, r => r
  | k + 1, r => rootGo N k (if (r + 2 ^ k) * (r + 2 ^ k) ≤ N then r + 2 ^ k else r)
def rootOf (N : Nat) : Nat := rootGo N 48 0
theorem rootGo_at {N : Nat} : ∀ (k r : Nat), RootAt N r k → RootAt N (rootGo N k r) 0
  | 0, _, h => h
  | k + 1, r, h => by
    unfold rootGo
    by_cases ht : (r + 2 ^ k) * (r + 2 ^ k) ≤ N
    · rw [if_pos ht]; exact rootGo_at k _ (rootAt_yes h ht)
    · rw [if_neg ht]; exact rootGo_at k _ (rootAt_no h ht)
theorem rootOf_is {N : Nat} (h : N < 2 ^ 96) : IsRoot N (rootOf N) := rootAt_end (rootGo_at 48 0 (rootAt_zero (k := 48) h))
/-- P1.4 -/
def froot (a : Int) : Int × Bool := if a < 0 then (0, true) else ((rootOf (a.toNat * 4294967296) : Nat), false)
theorem froot_range (a : Int) (h : In64 a) : In64 (froot a).1 := by
  unfold froot
  split
  · unfold In64; simp
  · have h1 := h.2
    have h2 : rootOf (a.toNat * 4294967296) < 2 ^ 48 := rootAt_lt (rootGo_at 48 0 (rootAt_zero (k := 48) (show a.toNat * 4294967296 < 2 ^ (2 * 48) by omega))) (by omega)
    unfold In64
    simp only
    omega

set_option maxRecDepth 100000 in
set_option maxHeartbeats 1000000 in
theorem fixSqrt_any (a : Int) (w : World) (h : In64 a) :
    Calls Try.prog 32 #[.int .i64 a] w fun e w' => e = .returned (.tuple #[.int .i64 (froot a).1, .bool (froot a).2]) ∧ w = w' := by
  obtain ⟨ha1, ha2⟩ := h
  by_cases ha : a < 0
  · have HF := Lib.hid (show froot a = (0, true) from if_pos ha)
    go_enter Try.func32, Try.ntmps32
    go_wp2_with fail
    go_ret2
    exact ⟨by rw [HF.out]; rfl, rfl⟩
  · obtain ⟨A, rfl⟩ := Int.eq_ofNat_of_zero_le (Int.not_lt.1 ha)
    obtain ⟨hi, hhi⟩ : ∃ x, A / 4294967296 = x := ⟨_, rfl⟩
    obtain ⟨lo, hlo⟩ : ∃ x, A % 4294967296 * 4294967296 = x := ⟨_, rfl⟩
    have hA : A < 9223372036854775808 := by omega
    have hh : (A : Int) / 4294967296 = (hi : Int) := by omega
    have hl : IntKind.u64.wrap ((A : Int) * 4294967296) = (lo : Int) := by
      have e : (A : Int) * 4294967296 = (lo : Int) + 18446744073709551616 * (hi : Int) := by omega
      rw [u64wrap, e, Int.add_mul_emod_self_left, Int.emod_eq_of_lt (by omega) (by omega)]
    have hi1 : hi < 2147483648 := by omega
    have lo1 : lo < 18446744073709551616 := by omega
    have HF := Lib.hid (show froot (A : Int) = (((rootOf (A * 4294967296) : Nat) : Int), false) from by unfold froot; rw [if_neg ha]; rfl)
    have HR := Lib.hid (rootOf_is (N := A * 4294967296) (by omega))
    have HN96 := Lib.hid (show A * 4294967296 < 2 ^ (2 * 48) by omega)
    obtain ⟨N, hN⟩ : ∃ N, A * 4294967296 = N := ⟨_, rfl⟩
    rw [hN] at HF HR HN96
    have HN := Lib.hid (show N = hi * 18446744073709551616 + lo by omega)
    clear hhi hlo hN ha ha1 ha2
    have ha0 : ¬ (A : Int) < 0 := by omega
    have hA1 : (A : Int) < 9223372036854775808 := by omega
    go_enter Try.func32, Try.ntmps32
    go_wp2_with fail
    clear hh hl hA hA1 ha0
    go_loop [6, 7] (fun r i => ∃ (k R : Nat), k ≤ 48 ∧ i = .int .i64 ((k : Int) - 1) ∧ r = .int .u64 (R : Int) ∧ Hid (RootAt N R k)) (fun _ i => (intOf i + 1).toNat)
    case atStart => exact ⟨48, 0, by omega, rfl, rfl, Lib.hid (rootAt_zero HN96.out)⟩
    case round =>
      obtain ⟨k, R, hk, rfl, rfl, HAT⟩ := hrel
      have hR : R < 281474976710656 := rootAt_lt HAT.out HN96.out
      by_cases hk0 : k = 0
      · subst hk0
        have HE := Lib.hid (root_one (rootAt_end HAT.out) HR.out)
        go_wp2_with fail
        go_ret2
        exact ⟨by rw [HF.out, ← HE.out]; rfl, rfl⟩
      · obtain ⟨k', rfl⟩ : ∃ j, k = j + 1 := ⟨k - 1, by omega⟩
        rw [show ((k' + 1 : Nat) : Int) - 1 = (k' : Int) by omega]
        obtain ⟨T, hT⟩ : ∃ T, 2 ^ k' = T := ⟨_, rfl⟩
        have hsh : (2 : Int) ^ k' = (T : Int) := by rw [← hT]; push_cast; rfl
        have hroom : R + T < 281474976710656 := by rw [← hT]; exact rootAt_room HAT.out HN96.out (by omega)
        have hor : bits .or .u64 (R : Int) (T : Int) = ((R + T : Nat) : Int) := by rw [u64_or_nat R T (by omega) (by omega), ← hT, rootAt_or HAT.out]
        have HY := Lib.hid (fun (h : (R + T) * (R + T) ≤ N) => show RootAt N (R + T) k' from by rw [← hT] at h ⊢; exact rootAt_yes HAT.out h)
        have HO := Lib.hid (fun (h : ¬ (R + T) * (R + T) ≤ N) => show RootAt N R k' from by rw [← hT] at h; exact rootAt_no HAT.out h)
        have hT1 : T < 281474976710656 := by omega
        have hk1 : k' < 48 := by omega
        clear hT hk0 hk
        obtain ⟨t, ht⟩ : ∃ t, R + T = t := ⟨_, rfl⟩
        rw [ht] at hor hroom HY HO
        clear ht
        go_wp2_with fail
        refine (mul64_any t t (by omega) (by omega) _).mono ?_
        rintro e w1 ⟨rfl, rfl⟩
        obtain ⟨P, hP⟩ : ∃ P, t * t = P := ⟨_, rfl⟩
        rw [hP] at HY HO ⊢
        have HC := Lib.hid (two_words (P := P) HN.out lo1)
        obtain ⟨ph, hph⟩ : ∃ x, P / 18446744073709551616 = x := ⟨_, rfl⟩
        obtain ⟨pl, hpl⟩ : ∃ x, P % 18446744073709551616 = x := ⟨_, rfl⟩
        rw [hph, hpl] at HC ⊢
        clear hP hph hpl
        by_cases hy : P ≤ N
        · have HY := Lib.hid (HY.out hy)
          rcases HC.out.2 hy with h1 | ⟨h1, h2⟩
          · have h1' : (ph : Int) < (hi : Int) := by omega
            clear hy h1
            go_wp2_with fail
            exact ⟨⟨k', t, by omega, rfl, rfl, HY⟩, by first | (simp [intOf]; done) | (simp [intOf]; omega)⟩
          · subst h1
            have h2' : (pl : Int) ≤ (lo : Int) := by omega
            clear hy h2
            go_wp2_with fail
            exact ⟨⟨k', t, by omega, rfl, rfl, HY⟩, by first | (simp [intOf]; done) | (simp [intOf]; omega)⟩
        · have HO := Lib.hid (HO.out hy)
          have h0 : ¬ (ph < hi ∨ ph = hi ∧ pl ≤ lo) := fun h => hy (HC.out.1 h)
          by_cases h1 : ph = hi
          · subst h1
            have h2' : ¬ (pl : Int) ≤ (lo : Int) := by omega
            have h2n : ¬ (ph : Int) < (ph : Int) := by omega
            clear hy h0
            go_wp2_with fail
            exact ⟨⟨k', R, by omega, rfl, rfl, HO⟩, by first | (simp [intOf]; done) | (simp [intOf]; omega)⟩
          · have h1' : ¬ (ph : Int) < (hi : Int) := by omega
            have h1b : ((ph : Int) == (hi : Int)) = false := by rw [beq_eq_false_iff_ne]; omega
            clear hy h0 h1
            go_wp2_with fail
            exact ⟨⟨k', R, by omega, rfl, rfl, HO⟩, by first | (simp [intOf]; done) | (simp [intOf]; omega)⟩
end Go.Proofs.Ytajhkbdaoakogaa.BigW
