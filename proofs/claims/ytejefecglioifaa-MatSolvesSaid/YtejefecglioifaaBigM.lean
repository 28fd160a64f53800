/- fourwatchbig.Int: Lsh, Sign, Uint64, Int64. -/
import Derived.Test.YtejefecglioifaaBigS
import Derived.Deep.RegionLaw
namespace Go.Proofs.Ytejefecglioifaa.BigW
open Go.RowKit Go.Proofs.Ytejefecglioifaa.Mem Go.Proofs.Ytejefecglioifaa.BigLaw
set_option linter.unusedVariables false

theorem lsh_abs (X : Int) (n : Nat) : (X * 2 ^ n).natAbs = X.natAbs * 2 ^ n := by
  rw [Int.natAbs_mul, Int.natAbs_pow]; rfl
theorem lsh_sg (X : Int) (n : Nat) : Sg (decide (X < 0)) (X * 2 ^ n) := by
  have hp : (0 : Int) < 2 ^ n := Int.pow_pos (by omega)
  refine sg_mk ?_
  rcases Int.lt_trichotomy X 0 with h | h | h
  · right; left; exact ⟨by simp [h], Int.mul_neg_of_neg_of_pos h hp⟩
  · left; rw [h, Int.zero_mul]
  · right; right; exact ⟨by simp; omega, Int.mul_pos h hp⟩

set_option maxRecDepth 100000 in
set_option maxHeartbeats 8000000 in
theorem bigLsh_any (p px : Nat) (X : Int) (n wd s : Nat) (w : World) (hp : IsInt w p) (hx : BigAt w px X) (bx : X.natAbs < pw 100) (hn : n = 32 * wd + s) (hs : s < 32) (hwd : wd ≤ 1000000) :
    Calls Try.prog 67 #[.pointer (some ⟨p, 0, none⟩), .pointer (some ⟨px, 0, none⟩), .int .u64 (n : Int)] w fun e w' => e = .returned (.pointer (some ⟨p, 0, none⟩)) ∧ BigAt w' p (X * 2 ^ n) ∧ w.grownBy w' (some p) := by
  obtain ⟨A, c, l, x0, x1, xw, xt, xv⟩ := hx.parts
  have HL := Lib.hid (len_of xt xv bx)
  have HXW := Lib.hid xw
  have HXT := Lib.hid xt
  have HXV := Lib.hid (show val l * 2 ^ n = (X * 2 ^ n).natAbs by rw [lsh_abs, xv])
  have HP := Lib.hid hp
  have HN := Lib.hid hn
  have HS := Lib.hid hs
  have HWD := Lib.hid hwd
  have HSG := Lib.hid (lsh_sg X n)
  have HPX := Lib.hid hx.lt
  clear xw xt xv hp hx bx hn hs hwd
  generalize X * 2 ^ n = Z at HXV HSG ⊢
  go_enter Try.func67, Try.ntmps67
  go_wp2_with fail
  go_region_law (first
    | (go_simp; go_at_call 79; refine (left_any A c l n wd s _ _ (Nat.le_refl _) HXW.out.drew HL.out HN.out HS.out HWD.out).mono ?_; rintro e w1 ⟨A1, c1, l1, rfl, hw1, ht1, hv1, hb1⟩; have x0' := (below_cell hb1 px 0 HPX.out).trans x0)
    | (go_simp; go_at_call 71; refine (give_big p _ A1 l1 c1 _ Z (HP.out.drew.below hb1 HP.out.lt) hw1 ht1 (hv1.trans HXV.out) (sign_of ht1 (hv1.trans HXV.out) _ HSG.out)).mono ?_; rintro e w2 ⟨rfl, hz2, hg2⟩))
  all_goals
    have HZ := Lib.hid hz2
    clear hz2
    go_wp2_with fail
    go_ret
    exact ⟨rfl, HZ.out, (show w.grownBy w1 (some p) from ⟨hb1.os, hb1.tape, hb1.output, hb1.size, fun g hg _ => hb1.block g hg⟩).trans hg2⟩

theorem bigSign_any (p : Nat) (X : Int) (w : World) (hx : BigAt w p X) :
    Calls Try.prog 76 #[.pointer (some ⟨p, 0, none⟩)] w fun e w' => e = .returned (.int .i64 X.sign) ∧ w' = w := by
  obtain ⟨A, c, l, x0, x1, xw, xt, xv⟩ := hx.parts
  have HZ := Lib.hid (show l.length = 0 ↔ X = 0 by
    rw [List.length_eq_zero_iff, ← val_zero xt, xv]; omega)
  clear xw xt xv hx
  rcases Int.lt_trichotomy X 0 with h | h | h
  · have hl : ((l.length : Int) == 0) = false := by rw [beq_eq_false_iff_ne]; have := HZ.out; omega
    have HS := Lib.hid (Int.sign_eq_neg_one_of_neg h)
    rw [decide_eq_true h] at x0
    go_enter Try.func76, Try.ntmps76
    go_wp2_with fail
    go_ret
    exact ⟨by rw [HS.out]; rfl, rfl⟩
  · subst h
    have hl : ((l.length : Int) == 0) = true := by rw [beq_iff_eq]; have := HZ.out; omega
    go_enter Try.func76, Try.ntmps76
    go_wp2_with fail
    go_ret
    exact ⟨rfl, rfl⟩
  · have hl : ((l.length : Int) == 0) = false := by rw [beq_eq_false_iff_ne]; have := HZ.out; omega
    have HS := Lib.hid (Int.sign_eq_one_of_pos h)
    rw [decide_eq_false (by omega)] at x0
    go_enter Try.func76, Try.ntmps76
    go_wp2_with fail
    go_ret
    exact ⟨by rw [HS.out]; rfl, rfl⟩

theorem bigUint64_any (p : Nat) (X : Int) (w : World) (hx : BigAt w p X) (hl : X.natAbs < 18446744073709551616) :
    Calls Try.prog 85 #[.pointer (some ⟨p, 0, none⟩)] w fun e w' => e = .returned (.int .u64 (X.natAbs : Nat)) ∧ w' = w := by
  obtain ⟨A, c, l, x0, x1, xw, xt, xv⟩ := hx.parts
  have h2 : l.length ≤ 2 := length_le xt (by rw [xv]; exact hl)
  have HV := Lib.hid (xv.symm.trans (val_le2 h2))
  clear hx
  by_cases h0 : 0 < l.length
  · obtain ⟨b, o, rfl, hbB, hcx⟩ := xw.at_ h0
    rw [Nat.add_zero] at hcx
    have hx := getD_lt xw.small 0
    have h0' : (0 : Int) < (l.length : Int) := by omega
    by_cases h1 : 1 < l.length
    · obtain ⟨b', o', e, _, hcy⟩ := xw.at_ h1
      injection e with e
      injection e with e1 e2
      subst e1 e2
      have hy := getD_lt xw.small 1
      have h1' : (1 : Int) < (l.length : Int) := by omega
      generalize l.getD 0 0 = x at hcx hx HV
      generalize l.getD 1 0 = y at hcy hy HV
      have hor := or64 x y hx hy
      clear xw xt xv
      go_enter Try.func85, Try.ntmps85
      go_wp2_with fail
      go_ret
      exact ⟨by rw [HV.out]; go_num, rfl⟩
    · have h1' : ¬ (1 : Int) < (l.length : Int) := by omega
      have HY := Lib.hid (getD_out (l := l) (i := 1) (by omega))
      generalize l.getD 0 0 = x at hcx hx HV
      rw [HY.out] at HV
      clear xw xt xv h1
      go_enter Try.func85, Try.ntmps85
      go_wp2_with fail
      go_ret
      exact ⟨by rw [HV.out]; go_num, rfl⟩
  · have h0' : ¬ (0 : Int) < (l.length : Int) := by omega
    have h1' : ¬ (1 : Int) < (l.length : Int) := by omega
    have HX := Lib.hid (getD_out (l := l) (i := 0) (by omega))
    have HY := Lib.hid (getD_out (l := l) (i := 1) (by omega))
    rw [HX.out, HY.out] at HV
    clear xw xt xv h0
    go_enter Try.func85, Try.ntmps85
    go_wp2_with fail
    go_ret
    exact ⟨by rw [HV.out]; go_num, rfl⟩

theorem bigInt64_any (p : Nat) (X : Int) (w : World) (hx : BigAt w p X) (hl : -9223372036854775808 ≤ X ∧ X ≤ 9223372036854775807) :
    Calls Try.prog 75 #[.pointer (some ⟨p, 0, none⟩)] w fun e w' => e = .returned (.int .i64 X) ∧ w' = w := by
  obtain ⟨hl0, hl1⟩ := hl
  obtain ⟨A, c, l, x0, x1, xw, xt, xv⟩ := hx.parts
  clear xw xt xv
  have HX := Lib.hid hx
  clear hx
  go_enter Try.func75, Try.ntmps75
  go_wp2_with fail
  refine (bigUint64_any p X w HX.out (by omega)).mono ?_
  rintro e w' ⟨rfl, rfl⟩
  by_cases h : X < 0
  · rw [decide_eq_true h] at x0
    have e1 := Lib.hid (show wrap64 (-wrap64 (X.natAbs : Int)) = X by unfold wrap64; omega)
    generalize (X.natAbs : Int) = m at e1 ⊢
    go_wp2_with fail
    go_ret
    exact ⟨ret_int e1.out, rfl⟩
  · rw [decide_eq_false h] at x0
    obtain ⟨m, rfl⟩ := Int.eq_ofNat_of_zero_le (show 0 ≤ X by omega)
    have e1 : ((m : Int)).natAbs = m := by omega
    rw [e1]
    go_wp2_with fail
    go_ret
    exact ⟨rfl, rfl⟩
end Go.Proofs.Ytejefecglioifaa.BigW
