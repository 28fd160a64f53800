/- fourwatchbig.Int: bit, TrailingZeroBits, IsInt64. -/
import Derived.Test.YtlcpackmoolngaaBigLsh
namespace Go.Proofs.Ytlcpackmoolngaa.BigW
open Go.RowKit Go.Proofs.Ytlcpackmoolngaa.Mem Go.Proofs.Ytlcpackmoolngaa.BigLaw
set_option linter.unusedVariables false

theorem valF_at (f : Nat → Nat) (k : Nat) : ∀ m, ∃ R, valF f (k + 1 + m) = valF f k + pw k * (f k + 4294967296 * R)
  | 0 => ⟨0, by rw [Nat.add_zero, valF_succ, Nat.mul_zero, Nat.add_zero, Nat.mul_comm]⟩
  | m + 1 => by
    obtain ⟨R, h⟩ := valF_at f k m
    refine ⟨R + pw m * f (k + 1 + m), ?_⟩
    rw [show k + 1 + (m + 1) = (k + 1 + m) + 1 by omega, valF_succ, h, pw_add, pw_succ, Nat.mul_add, Nat.mul_add, Nat.mul_add, Nat.mul_add]
    have e : f (k + 1 + m) * (4294967296 * pw k * pw m) = pw k * (4294967296 * (pw m * f (k + 1 + m))) := by
      rw [Nat.mul_comm (f (k + 1 + m)), Nat.mul_comm 4294967296 (pw k), Nat.mul_assoc (pw k), Nat.mul_assoc (pw k), Nat.mul_assoc 4294967296]
    rw [e]; omega

theorem bit_val {l : List Nat} (hs : small l) (k r : Nat) (hr : r < 32) : val l / 2 ^ (32 * k + r) % 2 = l.getD k 0 / 2 ^ r % 2 := by
  rw [Nat.pow_add, ← pw_two, ← Nat.div_div_eq_div_mul]
  have hp := pw_pos k
  rcases Nat.lt_or_ge k l.length with hk | hk
  · obtain ⟨R, h⟩ := valF_at (fun i => l.getD i 0) k (l.length - (k + 1))
    rw [show k + 1 + (l.length - (k + 1)) = l.length by omega, valF_val (Nat.le_refl _)] at h
    have hlt : valF (fun i => l.getD i 0) k < pw k := valF_lt fun i _ => getD_lt hs i
    have e1 : val l / pw k = l.getD k 0 + 4294967296 * R := by
      rw [h, Nat.add_mul_div_left _ _ hp, Nat.div_eq_of_lt hlt, Nat.zero_add]
    have e2 : (4294967296 : Nat) = 2 ^ r * (2 * 2 ^ (31 - r)) := by
      rw [show 2 * 2 ^ (31 - r) = 2 ^ (32 - r) by rw [show 32 - r = (31 - r) + 1 by omega, Nat.pow_succ, Nat.mul_comm], ← Nat.pow_add, show r + (32 - r) = 32 by omega]
    rw [e1, e2, Nat.mul_assoc, Nat.add_mul_div_left _ _ (Nat.two_pow_pos r), Nat.mul_assoc, Nat.add_mul_mod_self_left]
  · have h1 : val l < pw k := Nat.lt_of_lt_of_le (val_lt hs) (pw_le hk)
    rw [Nat.div_eq_of_lt h1, getD_out hk]

theorem and64_1 (x : Nat) (h : x < 18446744073709551616) : bits .and .u64 (x : Int) 1 = ((x % 2 : Nat) : Int) := by
  have := u64_and_nat x 1 h (by omega)
  rwa [nat_mask1] at this

theorem bit_any (A : Option Addr) (c : Nat) (l : List Nat) (B : Nat) (i : Nat) (w : World) (h : Wd w B A c l) (hi : i ≤ 1000000000) :
    Calls Try.prog 63 #[.slice A l.length c, .int .i64 (i : Int)] w fun e w' => e = .returned (.int .u64 (val l / 2 ^ i % 2 : Nat)) ∧ w' = w := by
  obtain ⟨k, r, hr, rfl⟩ : ∃ k r, r < 32 ∧ i = 32 * k + r := ⟨i / 32, i % 32, by omega, by omega⟩
  rw [bit_val h.small k r hr]
  have hq : ((32 * k + r : Nat) : Int) / 32 = (k : Int) := by omega
  have hm : ((32 * k + r : Nat) : Int) % 32 = (r : Int) := by omega
  generalize 32 * k + r = i at hq hm hi ⊢
  by_cases hk : k < l.length
  · obtain ⟨b, o, rfl, hbB, hcx⟩ := h.at_ hk
    have hx := getD_lt h.small k
    generalize l.getD k 0 = x at hcx hx ⊢
    have hk' : ¬ (l.length : Int) ≤ (k : Int) := by omega
    have hk2 : (k : Int) < (l.length : Int) := by omega
    have hxs : (x : Int) / 2 ^ r = ((x / 2 ^ r : Nat) : Int) := by push_cast; rfl
    have hle : x / 2 ^ r ≤ x := Nat.div_le_self _ _
    have hand := and64_1 (x / 2 ^ r) (by omega)
    generalize x / 2 ^ r = y at hxs hle hand ⊢
    clear h
    go_enter Try.func63, Try.ntmps63
    go_wp2_with fail
    go_ret
    exact ⟨rfl, rfl⟩
  · have hk' : (l.length : Int) ≤ (k : Int) := by omega
    rw [getD_out (by omega), Nat.zero_div]
    clear h
    go_enter Try.func63, Try.ntmps63
    go_wp2_with fail
    go_ret
    exact ⟨rfl, rfl⟩

/-- k noughts at the low end of v, just -/
def IsTz (v k : Nat) : Prop := v % 2 ^ k = 0 ∧ v / 2 ^ k % 2 = 1
theorem tz_next {v k : Nat} (h : v % 2 ^ k = 0) (h2 : v / 2 ^ k % 2 = 0) : v % 2 ^ (k + 1) = 0 := by
  rw [Nat.pow_succ, Nat.mod_mul, h, h2, Nat.mul_zero]

theorem tz_any (p : Nat) (X : Int) (w : World) (hx : BigAt w p X) (h0 : X ≠ 0) (bx : X.natAbs < pw 100) :
    Calls Try.prog 75 #[.pointer (some ⟨p, 0, none⟩)] w fun e w' => (∃ k : Nat, k ≤ 3200 ∧ e = .returned (.int .u64 k) ∧ IsTz X.natAbs k) ∧ w' = w := by
  obtain ⟨A, c, l, x0, x1, xw, xt, xv⟩ := hx.parts
  have hl : ((l.length : Int) == 0) = false := by
    rw [beq_eq_false_iff_ne]
    intro e
    have : l = [] := List.eq_nil_of_length_eq_zero (by omega)
    have := (val_zero xt).2 this
    omega
  have HW := Lib.hid xw
  have HV := Lib.hid xv
  obtain ⟨m, hm⟩ : ∃ m, m = 100 := ⟨_, rfl⟩
  rw [← hm, pw_two] at bx
  obtain ⟨N, hN, hNB⟩ : ∃ N, N = 3200 ∧ X.natAbs < 2 ^ N := ⟨32 * m, by omega, bx⟩
  have HB := Lib.hid hNB
  have HN := Lib.hid hN
  have HZ := Lib.hid h0
  clear xw xt xv hx h0 bx hN hNB
  go_enter Try.func75, Try.ntmps75
  go_wp2_with fail
  go_loop [3] (fun i => ∃ k : Nat, i = .int .u64 k ∧ X.natAbs % 2 ^ k = 0) (fun i => 3201 - (intOf i).toNat)
  case atStart => exact ⟨0, rfl, by simp [Nat.mod_one]⟩
  case round =>
    obtain ⟨k, rfl, hz⟩ := hrel
    have hk : k ≤ 3200 := by
      have h1 : 2 ^ k ≤ X.natAbs := Nat.le_of_dvd (by have := HZ.out; omega) (Nat.dvd_of_mod_eq_zero hz)
      have h2 : 2 ^ k < 2 ^ N := Nat.lt_of_le_of_lt h1 HB.out
      have := (Nat.pow_lt_pow_iff_right (by omega : 1 < 2)).1 h2
      have := HN.out
      omega
    have HK := Lib.hid hz
    clear hz
    go_wp2_with fail
    refine (bit_any A c l _ k w HW.out (by omega)).mono ?_
    rintro e w' ⟨rfl, rfl⟩
    rw [HV.out]
    by_cases hb : X.natAbs / 2 ^ k % 2 = 0
    · have HN := Lib.hid (tz_next HK.out hb)
      rw [hb]
      clear hb
      go_wp2_with fail
      exact ⟨⟨k + 1, by go_num, HN.out⟩, by simp [intOf]; omega⟩
    · have hb1 : X.natAbs / 2 ^ k % 2 = 1 := by omega
      have HN := Lib.hid hb1
      rw [hb1]
      clear hb hb1
      go_wp2_with fail
      go_ret
      exact ⟨⟨k, hk, rfl, HK.out, HN.out⟩, rfl⟩
def in64 (X : Int) : Bool := decide (-9223372036854775808 ≤ X ∧ X ≤ 9223372036854775807)

theorem isInt64_any (p : Nat) (X : Int) (w : World) (hx : BigAt w p X) (bx : X.natAbs < pw 100) :
    Calls Try.prog 50 #[.pointer (some ⟨p, 0, none⟩)] w fun e w' => e = .returned (.bool (in64 X)) ∧ w' = w := by
  obtain ⟨A, c, l, x0, x1, xw, xt, xv⟩ := hx.parts
  have HL := Lib.hid (len_of xt xv bx)
  have HW := Lib.hid xw
  have HT := Lib.hid xt
  have HV := Lib.hid xv
  have HX := Lib.hid hx
  have HB := Lib.hid bx
  clear xw xt xv hx bx
  go_enter Try.func50, Try.ntmps50
  go_wp2_with fail
  refine (length_any A c l _ w HW.out HT.out HL.out).mono ?_
  rintro e w' ⟨⟨n, rfl, hn, hnl⟩, rfl⟩
  rw [HV.out] at hn
  have HN := Lib.hid hn
  have hn2 : n ≤ 32000000 := by have := HL.out; omega
  have H63 := Lib.hid (isLen_lt (k := 63) hn)
  have H64 := Lib.hid (isLen_lt (k := 64) hn)
  clear hn hnl
  rcases Nat.lt_trichotomy n 64 with h | h | h
  · have HR := Lib.hid (show in64 X = true by
      have := H63.out.1 (by omega)
      unfold in64
      rw [decide_eq_true_eq]
      omega)
    go_wp2_with fail
    go_ret
    exact ⟨by rw [HR.out]; rfl, rfl⟩
  · subst h
    by_cases hneg : X < 0
    · rw [decide_eq_true hneg] at x0
      go_wp2_with fail
      refine (tz_any p X _ HX.out (by omega) HB.out).mono ?_
      rintro e w1 ⟨⟨k, hk, rfl, hz⟩, rfl⟩
      have HZ := Lib.hid hz
      clear hz
      have h64 := H64.out.1 (Nat.le_refl _)
      have h63 : ¬ X.natAbs < 2 ^ 63 := fun h => by have := H63.out.2 h; omega
      by_cases hk63 : k = 63
      · subst hk63
        have HR := Lib.hid (show in64 X = true by
          have h1 := HZ.out.1
          unfold in64
          rw [decide_eq_true_eq]
          omega)
        clear h64 h63
        go_wp2_with fail
        go_ret
        exact ⟨by rw [HR.out]; rfl, rfl⟩
      · have hk' : ((k : Int) == 63) = false := by rw [beq_eq_false_iff_ne]; omega
        have HR := Lib.hid (show in64 X = false by
          obtain ⟨h1, h2⟩ := HZ.out
          unfold in64
          rw [decide_eq_false_iff_not]
          intro h3
          have e : X.natAbs = 2 ^ 63 := by omega
          rw [e] at h1 h2
          rcases Nat.lt_or_ge k 63 with h4 | h4
          · rw [Nat.pow_div (by omega) (by omega), show 63 - k = (63 - k - 1) + 1 by omega, Nat.pow_succ, Nat.mul_mod_left] at h2
            omega
          · have h5 : 2 ^ 64 ≤ 2 ^ k := Nat.pow_le_pow_right (by omega) (by omega)
            rw [Nat.div_eq_of_lt (by omega)] at h2
            omega)
        clear h64 h63 hk63
        go_wp2_with fail
        go_ret
        exact ⟨by rw [HR.out]; rfl, rfl⟩
    · have HR := Lib.hid (show in64 X = false by
        have h63 : ¬ X.natAbs < 2 ^ 63 := fun h => by have := H63.out.2 h; omega
        unfold in64
        rw [decide_eq_false_iff_not]
        omega)
      rw [decide_eq_false hneg] at x0
      go_wp2_with fail
      go_ret
      exact ⟨by rw [HR.out]; rfl, rfl⟩
  · have HR := Lib.hid (show in64 X = false by
      have h64 : ¬ X.natAbs < 2 ^ 64 := fun h => by have := H64.out.2 h; omega
      unfold in64
      rw [decide_eq_false_iff_not]
      omega)
    have hne : ((n : Int) == 64) = false := by rw [beq_eq_false_iff_ne]; omega
    go_wp2_with fail
    go_ret
    exact ⟨by rw [HR.out]; show Ending.returned (.bool (decide ((n : Int) < 64))) = _; rw [decide_eq_false (by omega)], rfl⟩
end Go.Proofs.Ytlcpackmoolngaa.BigW
