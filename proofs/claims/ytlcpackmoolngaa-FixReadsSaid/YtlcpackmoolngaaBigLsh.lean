/- fourwatchbig.Int: Lsh, Sign. -/
import Derived.Test.YtlcpackmoolngaaBigM
import Derived.Deep.RegionLaw
namespace Go.Proofs.Ytlcpackmoolngaa.BigW
open Go.RowKit Go.Proofs.Ytlcpackmoolngaa.Mem Go.Proofs.Ytlcpackmoolngaa.BigLaw
set_option linter.unusedVariables false

theorem lsh_abs (X : Int) (n : Nat) : (X * 2 ^ n).natAbs = X.natAbs * 2 ^ n := by
  rw [Int.natAbs_mul, Int.natAbs_pow]; rfl
theorem lsh_sg (X : Int) (n : Nat) : Sg (decide (X < 0)) (X * 2 ^ n) := by
  have hp : (0 : Int) < 2 ^ n := Int.pow_pos (by omega)
  refine sg_mk ?_
  rcases Int.lt_trichotomy X 0 with h | h | h
  · right; left; exact ⟨by simp [h], Int.mul_neg_of_neg_of_pos h hp⟩
  · left; rw [h, Int.zero_mul]
  · right; right; exact ⟨by simp; omega, Int.mul_pos h hp⟩

set_option maxRecDepth 100000 in
set_option maxHeartbeats 8000000 in
theorem bigLsh_any (p px : Nat) (X : Int) (n wd s : Nat) (w : World) (hp : IsInt w p) (hx : BigAt w px X) (bx : X.natAbs < pw 100) (hn : n = 32 * wd + s) (hs : s < 32) (hwd : wd ≤ 1000000) :
    Calls Try.prog 47 #[.pointer (some ⟨p, 0, none⟩), .pointer (some ⟨px, 0, none⟩), .int .u64 (n : Int)] w fun e w' => e = .returned (.pointer (some ⟨p, 0, none⟩)) ∧ BigAt w' p (X * 2 ^ n) ∧ w.grownBy w' (some p) := by
  obtain ⟨A, c, l, x0, x1, xw, xt, xv⟩ := hx.parts
  have HL := Lib.hid (len_of xt xv bx)
  have HXW := Lib.hid xw
  have HXT := Lib.hid xt
  have HXV := Lib.hid (show val l * 2 ^ n = (X * 2 ^ n).natAbs by rw [lsh_abs, xv])
  have HP := Lib.hid hp
  have HN := Lib.hid hn
  have HS := Lib.hid hs
  have HWD := Lib.hid hwd
  have HSG := Lib.hid (lsh_sg X n)
  have HPX := Lib.hid hx.lt
  clear xw xt xv hp hx bx hn hs hwd
  generalize X * 2 ^ n = Z at HXV HSG ⊢
  go_enter Try.func47, Try.ntmps47
  go_wp2_with fail
  go_region_law (first
    | (go_simp; go_at_call 72; refine (left_any A c l n wd s _ _ (Nat.le_refl _) HXW.out.drew HL.out HN.out HS.out HWD.out).mono ?_; rintro e w1 ⟨A1, c1, l1, rfl, hw1, ht1, hv1, hb1⟩; have x0' := (below_cell hb1 px 0 HPX.out).trans x0)
    | (go_simp; go_at_call 56; refine (give_big p _ A1 l1 c1 _ Z (HP.out.drew.below hb1 HP.out.lt) hw1 ht1 (hv1.trans HXV.out) (sign_of ht1 (hv1.trans HXV.out) _ HSG.out)).mono ?_; rintro e w2 ⟨rfl, hz2, hg2⟩))
  all_goals
    have HZ := Lib.hid hz2
    clear hz2
    go_wp2_with fail
    go_ret
    exact ⟨rfl, HZ.out, (show w.grownBy w1 (some p) from ⟨hb1.os, hb1.tape, hb1.output, hb1.size, fun g hg _ => hb1.block g hg⟩).trans hg2⟩
end Go.Proofs.Ytlcpackmoolngaa.BigW
