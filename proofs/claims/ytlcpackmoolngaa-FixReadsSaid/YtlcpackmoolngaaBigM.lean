/- fourwatchbig.Int: Uint64, Int64. -/
import Derived.Test.YtlcpackmoolngaaBigS
import Derived.Deep.RegionLaw
namespace Go.Proofs.Ytlcpackmoolngaa.BigW
open Go.RowKit Go.Proofs.Ytlcpackmoolngaa.Mem Go.Proofs.Ytlcpackmoolngaa.BigLaw
set_option linter.unusedVariables false

theorem bigUint64_any (p : Nat) (X : Int) (w : World) (hx : BigAt w p X) (hl : X.natAbs < 18446744073709551616) :
    Calls Try.prog 76 #[.pointer (some ⟨p, 0, none⟩)] w fun e w' => e = .returned (.int .u64 (X.natAbs : Nat)) ∧ w' = w := by
  obtain ⟨A, c, l, x0, x1, xw, xt, xv⟩ := hx.parts
  have h2 : l.length ≤ 2 := length_le xt (by rw [xv]; exact hl)
  have HV := Lib.hid (xv.symm.trans (val_le2 h2))
  clear hx
  by_cases h0 : 0 < l.length
  · obtain ⟨b, o, rfl, hbB, hcx⟩ := xw.at_ h0
    rw [Nat.add_zero] at hcx
    have hx := getD_lt xw.small 0
    have h0' : (0 : Int) < (l.length : Int) := by omega
    by_cases h1 : 1 < l.length
    · obtain ⟨b', o', e, _, hcy⟩ := xw.at_ h1
      injection e with e
      injection e with e1 e2
      subst e1 e2
      have hy := getD_lt xw.small 1
      have h1' : (1 : Int) < (l.length : Int) := by omega
      generalize l.getD 0 0 = x at hcx hx HV
      generalize l.getD 1 0 = y at hcy hy HV
      have hor := or64 x y hx hy
      clear xw xt xv
      go_enter Try.func76, Try.ntmps76
      go_wp2_with fail
      go_ret
      exact ⟨by rw [HV.out]; go_num, rfl⟩
    · have h1' : ¬ (1 : Int) < (l.length : Int) := by omega
      have HY := Lib.hid (getD_out (l := l) (i := 1) (by omega))
      generalize l.getD 0 0 = x at hcx hx HV
      rw [HY.out] at HV
      clear xw xt xv h1
      go_enter Try.func76, Try.ntmps76
      go_wp2_with fail
      go_ret
      exact ⟨by rw [HV.out]; go_num, rfl⟩
  · have h0' : ¬ (0 : Int) < (l.length : Int) := by omega
    have h1' : ¬ (1 : Int) < (l.length : Int) := by omega
    have HX := Lib.hid (getD_out (l := l) (i := 0) (by omega))
    have HY := Lib.hid (getD_out (l := l) (i := 1) (by omega))
    rw [HX.out, HY.out] at HV
    clear xw xt xv h0
    go_enter Try.func76, Try.ntmps76
    go_wp2_with fail
    go_ret
    exact ⟨by rw [HV.out]; go_num, rfl⟩

theorem bigInt64_any (p : Nat) (X : Int) (w : World) (hx : BigAt w p X) (hl : -9223372036854775808 ≤ X ∧ X ≤ 9223372036854775807) :
    Calls Try.prog 51 #[.pointer (some ⟨p, 0, none⟩)] w fun e w' => e = .returned (.int .i64 X) ∧ w' = w := by
  obtain ⟨hl0, hl1⟩ := hl
  obtain ⟨A, c, l, x0, x1, xw, xt, xv⟩ := hx.parts
  clear xw xt xv
  have HX := Lib.hid hx
  clear hx
  go_enter Try.func51, Try.ntmps51
  go_wp2_with fail
  refine (bigUint64_any p X w HX.out (by omega)).mono ?_
  rintro e w' ⟨rfl, rfl⟩
  by_cases h : X < 0
  · rw [decide_eq_true h] at x0
    have e1 := Lib.hid (show wrap64 (-wrap64 (X.natAbs : Int)) = X by unfold wrap64; omega)
    generalize (X.natAbs : Int) = m at e1 ⊢
    go_wp2_with fail
    go_ret
    exact ⟨ret_int e1.out, rfl⟩
  · rw [decide_eq_false h] at x0
    obtain ⟨m, rfl⟩ := Int.eq_ofNat_of_zero_le (show 0 ≤ X by omega)
    have e1 : ((m : Int)).natAbs = m := by omega
    rw [e1]
    go_wp2_with fail
    go_ret
    exact ⟨rfl, rfl⟩
end Go.Proofs.Ytlcpackmoolngaa.BigW
