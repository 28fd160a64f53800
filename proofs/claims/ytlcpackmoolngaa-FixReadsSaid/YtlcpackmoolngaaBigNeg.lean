/- fourwatchbig.Int: Neg. -/
import Derived.Test.YtlcpackmoolngaaBigQ
namespace Go.Proofs.Ytlcpackmoolngaa.BigW
open Go.RowKit Go.Proofs.Ytlcpackmoolngaa.Mem Go.Proofs.Ytlcpackmoolngaa.BigLaw
set_option linter.unusedVariables false

set_option maxRecDepth 100000 in
set_option maxHeartbeats 8000000 in
theorem bigNeg_any (p px : Nat) (X : Int) (w : World) (hp : IsInt w p) (hx : BigAt w px X) (bx : X.natAbs < pw 100) :
    Calls Try.prog 46 #[.pointer (some ⟨p, 0, none⟩), .pointer (some ⟨px, 0, none⟩)] w fun e w' => e = .returned (.pointer (some ⟨p, 0, none⟩)) ∧ BigAt w' p (-X) ∧ w.grownBy w' (some p) := by
  obtain ⟨A, c, l, x0, x1, xw, xt, xv⟩ := hx.parts
  have HL := Lib.hid (len_of xt xv bx)
  have HXW := Lib.hid xw
  have HXT := Lib.hid xt
  have HXV := Lib.hid (show val l = (-X).natAbs by rw [Int.natAbs_neg]; exact xv)
  have HSG := Lib.hid ((sg_self X).neg)
  have HP := Lib.hid hp
  have HPX := Lib.hid hx.lt
  clear xw xt xv hp hx bx
  generalize -X = Z at HXV HSG ⊢
  generalize decide (X < 0) = xn at x0 HSG
  go_enter Try.func46, Try.ntmps46
  go_wp2_with fail
  go_region_law (first
    | (go_simp; go_at_call 57; refine (twin_any A c l _ _ (Nat.le_refl _) HXW.out.drew HL.out).mono ?_; rintro e w1 ⟨A1, c1, rfl, hw1, hb1⟩; have x0' := (below_cell hb1 px 0 HPX.out).trans x0)
    | (go_simp; go_at_call 56; refine (give_big p _ A1 l c1 _ Z (HP.out.drew.below hb1 HP.out.lt) hw1 HXT.out HXV.out (sign_of HXT.out HXV.out _ HSG.out)).mono ?_; rintro e w2 ⟨rfl, hz2, hg2⟩))
  all_goals
    have HZ := Lib.hid hz2
    clear hz2
    go_wp2_with fail
    go_ret
    exact ⟨rfl, HZ.out, (show w.grownBy w1 (some p) from ⟨hb1.os, hb1.tape, hb1.output, hb1.size, fun g hg _ => hb1.block g hg⟩).trans hg2⟩
end Go.Proofs.Ytlcpackmoolngaa.BigW
