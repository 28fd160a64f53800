/- fourwatchbig: div where the words are few. -/
import Derived.Test.YtlcpackmoolngaaBigM
import Derived.Deep.RegionHeld3
namespace Go.Proofs.Ytlcpackmoolngaa.BigW
open Go.RowKit Go.Proofs.Ytlcpackmoolngaa.Mem Go.Proofs.Ytlcpackmoolngaa.BigLaw
set_option linter.unusedVariables false

theorem below_undrew {B : Nat} {w w' : World} (h : Below B w.drew w') : Below B w w' := ⟨h.os, h.tape, h.output, h.size, h.block⟩

/-- a quotient and a rest -/
def GaveQR (w w' : World) (q r : Nat) (e : Ending) : Prop := ∃ A1 c1 l1 A2 c2 l2, e = .returned (.tuple #[.slice A1 l1.length c1, .slice A2 l2.length c2]) ∧ Wd w' w'.heap.size A1 c1 l1 ∧ trimd l1 ∧ val l1 = q ∧ Wd w' w'.heap.size A2 c2 l2 ∧ trimd l2 ∧ val l2 = r ∧ Below w.heap.size w w'

set_option maxRecDepth 100000 in
set_option maxHeartbeats 4000000 in
theorem divSmall_any (A A' : Option Addr) (c c' : Nat) (l l' : List Nat) (w : World) (h : Wd w w.heap.size A c l) (h' : Wd w w.heap.size A' c' l') (t : trimd l) (t' : trimd l') (hp : 0 < val l') (hsm : l.length ≤ 2) :
    Calls Try.prog 90 #[.slice A l.length c, .slice A' l'.length c'] w fun e w' => GaveQR w w' (val l / val l') (val l % val l') e := by
  have H := Lib.hid h
  have H' := Lib.hid h'
  have T := Lib.hid t
  have T' := Lib.hid t'
  have hl0 : ((l'.length : Int) == 0) = false := by
    rw [beq_eq_false_iff_ne]
    intro e
    rw [List.eq_nil_of_length_eq_zero (show l'.length = 0 by omega), val_nil] at hp
    omega
  have hlt := Lib.hid (val_lt h.small)
  clear h h' t t'
  go_enter Try.func90, Try.ntmps90
  go_wp2_with fail
  refine (cmp_any A A' c c' l l' _ w (Nat.le_refl _) H.out H'.out T.out T'.out).mono ?_
  rintro e w0 ⟨rfl, hb0⟩
  have H0 := Lib.hid ((H.out.below hb0).more hb0.size)
  have H0' := Lib.hid ((H'.out.below hb0).more hb0.size)
  by_cases hle : val l < val l'
  · have hsg : sgn (val l) (val l') < 0 := by unfold sgn; rw [if_pos hle]; omega
    have HQ := Lib.hid (Nat.div_eq_of_lt hle)
    have HR := Lib.hid (Nat.mod_eq_of_lt hle)
    have HV := Lib.hid hp
    clear hle hp
    generalize sgn (val l) (val l') = sg at hsg
    go_wp2_with fail
    refine (twin_any A c l _ w0 (Nat.le_refl _) H0.out (by omega)).mono ?_
    rintro e w1 ⟨A1, c1, rfl, hw, hb⟩
    have HW := Lib.hid hw
    clear hw
    go_wp2_with fail
    go_ret2
    exact ⟨none, 0, [], A1, c1, l, rfl, Wd.nil _ _, fun h => by simp at h, by rw [HQ.out]; rfl, HW.out, T.out, HR.out.symm, onward hb0 (Nat.le_refl _) hb⟩
  · have hsg : ¬ sgn (val l) (val l') < 0 := by unfold sgn; rw [if_neg hle]; split <;> omega
    have HL := Lib.hid (show l'.length ≤ 2 from length_le T'.out (show val l' < pw 2 from Nat.lt_of_le_of_lt (Nat.le_of_not_lt hle) (Nat.lt_of_lt_of_le hlt.out (pw_le hsm))))
    have hx : val l < 18446744073709551616 := Nat.lt_of_lt_of_le hlt.out (pw_le hsm)
    have hy : val l' < 18446744073709551616 := by have := val_lt H'.out.small; exact Nat.lt_of_lt_of_le this (pw_le HL.out)
    generalize sgn (val l) (val l') = sg at hsg
    clear hle
    go_wp2_with fail
    refine (plain_any A c l _ w0 H0.out (by omega)).mono ?_
    rintro e w1 ⟨rfl, rfl⟩
    go_wp2_with fail
    refine (plain_any A' c' l' _ _ H0'.out HL.out).mono ?_
    rintro e w1 ⟨rfl, rfl⟩
    obtain ⟨x, hxe⟩ : ∃ x, val l = x := ⟨_, rfl⟩
    obtain ⟨y, hye⟩ : ∃ y, val l' = y := ⟨_, rfl⟩
    obtain ⟨q, hqe⟩ : ∃ q, x / y = q := ⟨_, rfl⟩
    obtain ⟨r, hre⟩ : ∃ r, x % y = r := ⟨_, rfl⟩
    rw [hxe] at hx ⊢
    rw [hye] at hy hp ⊢
    have hql : q < 18446744073709551616 := by rw [← hqe]; exact Nat.lt_of_le_of_lt (Nat.div_le_self _ _) hx
    have hrl : r < 18446744073709551616 := by rw [← hre]; exact Nat.lt_of_le_of_lt (Nat.mod_le _ _) hx
    have hy0 : ¬ (y : Int) = 0 := by omega
    have hq : (x : Int) / (y : Int) = ((x / y : Nat) : Int) := rfl
    have hr : (x : Int).tmod (y : Int) = ((x % y : Nat) : Int) := rfl
    rw [hqe] at hq
    rw [hre] at hr
    have hq2 : IntKind.u64.wrap ((x : Int) / (y : Int)) = (q : Int) := by rw [hq, u64wrap]; omega
    have hy1 : ¬ y = 0 := by omega
    have HQE := Lib.hid (show val l / val l' = q by rw [hxe, hye]; exact hqe)
    have HRE := Lib.hid (show val l % val l' = r by rw [hxe, hye]; exact hre)
    clear hq hxe hye hqe hre
    go_wp2_with fail
    have hS : w1.heap.size ≤ w1.drew.heap.size := Nat.le_refl _
    go_region_held3 (fun w' => w1.heap.size ≤ w'.heap.size) (first | assumption | omega) (first
      | (go_at_call_of 71 (Value.int .u64 (q : Int)); refine (words_any q hql _).mono ?_; rintro e w2 ⟨A1, c1, l1, rfl, hw1, ht1, hv1, hb1⟩; have hs1 := hb1.size)
      | (go_at_call_of 71 (Value.int .u64 (r : Int)); refine (words_any r hrl _).mono ?_; rintro e w3 ⟨A2, c2, l2, rfl, hw2, ht2, hv2, hb2⟩; have hs2 := hb2.size))
    all_goals
      go_wp2_with fail
      go_ret2
      exact ⟨A1, c1, l1, A2, c2, l2, rfl, (hw1.below hb2).more hb2.size, ht1, hv1.trans HQE.out.symm, hw2, ht2, hv2.trans HRE.out.symm, onward (onward hb0 (Nat.le_refl _) (below_undrew hb1)) (Nat.le_refl _) hb2⟩
end Go.Proofs.Ytlcpackmoolngaa.BigW
