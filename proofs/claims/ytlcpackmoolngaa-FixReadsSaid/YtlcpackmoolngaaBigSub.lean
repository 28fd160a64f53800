/- fourwatchbig.Int: Sub, whatever block it is given. -/
import Derived.Test.YtlcpackmoolngaaBigS
import Derived.Deep.RegionLaw
namespace Go.Proofs.Ytlcpackmoolngaa.BigW
open Go.RowKit Go.Proofs.Ytlcpackmoolngaa.Mem Go.Proofs.Ytlcpackmoolngaa.BigLaw
set_option linter.unusedVariables false

set_option maxRecDepth 100000 in
set_option maxHeartbeats 8000000 in
theorem bigSub_any (p px py : Nat) (X Y : Int) (w : World) (hp : IsInt w p) (hx : BigAt w px X) (hy : BigAt w py Y) (bx : X.natAbs < pw 100) (bY : Y.natAbs < pw 100) :
    Calls Try.prog 87 #[.pointer (some ⟨p, 0, none⟩), .pointer (some ⟨px, 0, none⟩), .pointer (some ⟨py, 0, none⟩)] w fun e w' => e = .returned (.pointer (some ⟨p, 0, none⟩)) ∧ BigAt w' p (X + -Y) ∧ w.grownBy w' (some p) := by
  obtain ⟨A, c, l, x0, x1, xw, xt, xv⟩ := hx.parts
  obtain ⟨A', c', l', y0, y1, yw, yt, yv⟩ := hy.parts
  have HL := Lib.hid (len_of xt xv bx)
  have HL' := Lib.hid (len_of yt yv bY)
  have HXW := Lib.hid xw
  have HXT := Lib.hid xt
  have HXV := Lib.hid xv
  have HYW := Lib.hid yw
  have HYT := Lib.hid yt
  have HYV := Lib.hid yv
  have HP := Lib.hid hp
  clear xw xt xv yw yt yv hp hx hy bx bY
  go_enter Try.func87, Try.ntmps87
  go_wp2_with fail
  go_region_law (first
    | (go_simp; go_at_call 73; refine (sum_any _ _ A A' c c' l l' X (-Y) _ HXW.out.drew HYW.out.drew HXT.out HYT.out HXV.out (HYV.out.trans (Int.natAbs_neg Y).symm) (sg_self X) (sg_self Y).neg HL.out HL'.out).mono ?_; rintro e w1 ⟨s1, A1, c1, l1, rfl, hw1, ht1, hv1, hs1, hb1⟩)
    | (go_simp; go_at_call 56; refine (give_big p _ A1 l1 c1 _ (X + -Y) (HP.out.drew.below hb1 HP.out.lt) hw1 ht1 hv1 (sign_of ht1 hv1 _ hs1)).mono ?_; rintro e w2 ⟨rfl, hz2, hg2⟩))
  all_goals
    have HZ := Lib.hid hz2
    clear hz2
    go_wp2_with fail
    go_ret
    exact ⟨rfl, HZ.out, (show w.grownBy w1 (some p) from ⟨hb1.os, hb1.tape, hb1.output, hb1.size, fun g hg _ => hb1.block g hg⟩).trans hg2⟩
end Go.Proofs.Ytlcpackmoolngaa.BigW
