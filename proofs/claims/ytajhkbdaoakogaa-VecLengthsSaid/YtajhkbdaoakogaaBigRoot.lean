/- Contracts: the big number's Sqrt, the reference's Sqrt. -/
import Derived.Test.YtajhkbdaoakogaaBigCmp
import Derived.Test.YtajhkbdaoakogaaRootF
import Derived.Test.YtajhkbdaoakogaaBigMul
import Derived.Test.YtajhkbdaoakogaaBigM
import Derived.Test.YtajhkbdaoakogaaBigQ
namespace Go.Proofs.Ytajhkbdaoakogaa.BigW
open Go.RowKit Go.Proofs.Ytajhkbdaoakogaa.Mem Go.Proofs.Ytajhkbdaoakogaa.BigLaw
set_option linter.unusedVariables false
set_option linter.unusedSimpArgs false

theorem sgn_le {a b : Nat} (h : a ≤ b) : sgn a b ≤ 0 := by unfold sgn; split; omega; rw [if_neg (by omega)]; omega
theorem sgn_gt {a b : Nat} (h : ¬ a ≤ b) : ¬ sgn a b ≤ 0 := by unfold sgn; rw [if_neg (by omega), if_pos (by omega)]; omega

set_option maxRecDepth 100000 in
set_option maxHeartbeats 1000000 in
theorem bigSqrt_any (z px X : Nat) (w : World) (hz : IsInt w z) (hx : BigAt w px (X : Int)) (bx : X < 2 ^ 96) :
    Calls Try.prog 65 #[.pointer (some ⟨z, 0, none⟩), .pointer (some ⟨px, 0, none⟩)] w fun e w' => e = .returned (.pointer (some ⟨z, 0, none⟩)) ∧ BigAt w' z ((rootOf X : Nat) : Int) ∧ w.grownBy w' (some z) := by
  have HX := Lib.hid hx
  obtain ⟨A, c, l, x0, x1, xw, xt, xv⟩ := hx.parts
  rw [decide_eq_false (by omega)] at x0
  rw [Int.natAbs_natCast] at xv
  have HPX := Lib.hid hx.lt
  have HZ := Lib.hid hz
  have HBX := Lib.hid bx
  have x0 := (below_cell ((Below.refl w.heap.size w).alloc (Nat.le_refl _) (.cells #[.bool false, .slice none 0 0] 89)) px 0 HPX.out).trans x0
  have HW := Lib.hid xw
  have HT := Lib.hid xt
  have HV := Lib.hid xv
  have HL := Lib.hid (show l.length ≤ 3 from length_le xt (by rw [xv]; exact bx))
  have hx0 : w.cell? ⟨px, 0, none⟩ = some (.bool false) := by
    have h := below_cell ((Below.refl w.heap.size w).alloc (Nat.le_refl _) (.cells #[.bool false, .slice none 0 0] 89)) px 0 HPX.out
    rw [← h]; exact x0
  have HX1 := Lib.hid x1
  clear hx hz bx xw xt xv x0 x1
  go_enter Try.func65, Try.ntmps65
  go_upto_region 4 with fail
  have hb0 : Below w.heap.size w (w.alloc (.cells #[.bool false, .slice none 0 0] 89)) := (Below.refl _ _).alloc (Nat.le_refl _) _
  have HB := Lib.hid hb0
  have x1 := (below_cell hb0 px 1 HPX.out).trans HX1.out
  have HP := Lib.hid (bigAt_new w)
  have HW := Lib.hid (HW.out.below hb0)
  clear hb0 hx0
  generalize w.alloc (.cells #[.bool false, .slice none 0 0] 89) = w1 at *
  go_wp2_with fail
  refine (length_any A c l _ w1 HW.out HT.out (by have := HL.out; omega)).mono ?_
  rintro e w2 ⟨⟨n, rfl, hn, hn2⟩, rfl⟩
  rw [HV.out] at hn
  have hl3 := HL.out
  obtain ⟨m, hm⟩ : ∃ m, (n + 1) / 2 = m := ⟨_, rfl⟩
  have hm0 : ((n : Int) + 1) / 2 = (m : Int) := by omega
  have hm1 : m ≤ 48 := by omega
  have HST := Lib.hid (show RootAt X 0 (m + 1) from rootAt_zero (by
    have h1 : 2 ^ n ≤ 2 ^ (2 * (m + 1)) := Nat.pow_le_pow_right (by omega) (by omega)
    rcases Nat.eq_zero_or_pos X with h | h
    · rw [h]; exact Nat.two_pow_pos _
    · exact Nat.lt_of_lt_of_le (hn.2 h).2.2 h1))
  have hn3 : n ≤ 96 := by omega
  clear hn hn2 hm hl3 x1
  go_wp2_with fail
  rw [hm0]
  clear hm0
  go_loopw [5, 6] (fun rp i wr => ∃ (k R p : Nat), k ≤ m + 1 ∧ i = .int .i64 ((k : Int) - 1) ∧ rp = .pointer (some ⟨p, 0, none⟩) ∧ w.heap.size ≤ p ∧ BigAt wr p (R : Int) ∧ Hid (RootAt X R k) ∧ Below w.heap.size w wr) (fun _ i _ => (intOf i + 1).toNat)
  case atStart => exact ⟨m + 1, 0, w.heap.size, by omega, by go_num, rfl, Nat.le_refl _, HP.out, HST, HB.out⟩
  case round =>
    obtain ⟨k, R, p, hk, rfl, rfl, hpw, hbig, HAT, hb⟩ := hrel
    have HP := Lib.hid hbig
    have HB := Lib.hid hb
    have hR : R < 281474976710656 := rootAt_lt (m := 48) HAT.out HBX.out
    clear hbig hb
    by_cases hk0 : k = 0
    · subst hk0
      have HE := Lib.hid (root_one (rootAt_end HAT.out) (rootOf_is HBX.out))
      go_wp2_with fail
      refine (bigSet_any z p (R : Int) wr (HZ.out.below HB.out HZ.out.lt) HP.out (by rw [Int.natAbs_natCast]; exact Nat.lt_of_lt_of_le hR (show 281474976710656 ≤ pw 100 by decide +kernel))).mono ?_
      rintro e w3 ⟨rfl, hbg, hg⟩
      have HBG := Lib.hid hbg
      have HG := Lib.hid ((grown_of_below HB.out).trans hg)
      clear hbg hg
      go_wp2_with fail
      go_ret
      exact ⟨rfl, by rw [← HE.out]; exact HBG.out, HG.out⟩
    · obtain ⟨k', rfl⟩ : ∃ j, k = j + 1 := ⟨k - 1, by omega⟩
      rw [show ((k' + 1 : Nat) : Int) - 1 = (k' : Int) by omega]
      have hk1 : k' ≤ 48 := by omega
      obtain ⟨T, hT⟩ : ∃ T, R + 2 ^ k' = T := ⟨_, rfl⟩
      have hT1 : T < 562949953421312 := by
        have : 2 ^ k' ≤ 2 ^ 48 := Nat.pow_le_pow_right (by omega) hk1
        omega
      have HTT := Lib.hid hT
      have HY := Lib.hid (fun (h : T * T ≤ X) => show RootAt X T k' from by rw [← hT] at h ⊢; exact rootAt_yes HAT.out h)
      have HO := Lib.hid (fun (h : ¬ T * T ≤ X) => show RootAt X R k' from by rw [← hT] at h; exact rootAt_no HAT.out h)
      have HM := Lib.hid HAT.out.1
      have hpt : p < wr.heap.size := HP.out.lt
      clear hT hk0
      go_wp2_with fail
      have hbt : Below wr.heap.size wr (wr.alloc (.cells #[.bool false, .slice none 0 0] 89)) := (Below.refl _ _).alloc (Nat.le_refl _) _
      have HI := Lib.hid (isInt_new wr)
      have HP := Lib.hid (HP.out.below hbt)
      have HB := Lib.hid (HB.out.alloc HB.out.size (.cells #[.bool false, .slice none 0 0] 89))
      have hwt : w.heap.size ≤ wr.heap.size := by have := hpt; omega
      clear hbt
      generalize wr.alloc (.cells #[.bool false, .slice none 0 0] 89) = w4 at *
      obtain ⟨t, ht⟩ : ∃ t, wr.heap.size = t := ⟨_, rfl⟩
      rw [ht] at HI hpt hwt ⊢
      refine (setBit_any t p k' R w4 HI.out HP.out HM.out (Nat.lt_of_lt_of_le hR (show 281474976710656 ≤ pw 90 by decide +kernel)) (by omega)).mono ?_
      rintro e w5 ⟨rfl, hb5, hg5⟩
      rw [HTT.out] at hb5
      have HTB := Lib.hid hb5
      have HP := Lib.hid (HP.out.grown HI.out hg5 (by omega))
      have HB := Lib.hid (below_grown HB.out (Nat.le_refl _) hg5 (fun g e => by injection e with e; omega))
      have hts : t < w5.heap.size := hb5.lt
      clear hb5 hg5 HI
      go_wp2_with fail
      have HI := Lib.hid (isInt_new w5)
      have HP := Lib.hid (HP.out.alloc (.cells #[.bool false, .slice none 0 0] 89))
      have HTB := Lib.hid (HTB.out.alloc (.cells #[.bool false, .slice none 0 0] 89))
      have HB := Lib.hid (HB.out.alloc HB.out.size (.cells #[.bool false, .slice none 0 0] 89))
      generalize w5.alloc (.cells #[.bool false, .slice none 0 0] 89) = w6 at *
      obtain ⟨s, hs⟩ : ∃ s, w5.heap.size = s := ⟨_, rfl⟩
      rw [hs] at HI hts ⊢
      have HPW := Lib.hid (show (T : Int).natAbs < pw 100 by rw [Int.natAbs_natCast]; exact Nat.lt_of_lt_of_le hT1 (show 562949953421312 ≤ pw 100 by decide +kernel))
      refine (bigMul_any s t t (T : Int) (T : Int) w6 HI.out HTB.out HTB.out HPW.out HPW.out).mono ?_
      rintro e w7 ⟨rfl, hb7, hg7⟩
      rw [show (T : Int) * (T : Int) = ((T * T : Nat) : Int) by push_cast; rfl] at hb7
      have HMB := Lib.hid hb7
      have HP := Lib.hid (HP.out.grown HI.out hg7 (by omega))
      have HTB := Lib.hid (HTB.out.grown HI.out hg7 (by omega))
      have HB := Lib.hid (below_grown HB.out (Nat.le_refl _) hg7 (fun g e => by injection e with e; omega))
      have HX7 := Lib.hid (HX.out.below HB.out)
      clear hb7 hg7 HI
      go_wp2_with fail
      refine (bigCmp_any s px (T * T) X w7 HMB.out HX7.out).mono ?_
      rintro e w8 ⟨rfl, hb8⟩
      have HP := Lib.hid (HP.out.below hb8)
      have HTB := Lib.hid (HTB.out.below hb8)
      have HB := Lib.hid (onward HB.out (Nat.le_refl _) hb8)
      clear hb8
      by_cases hy : T * T ≤ X
      · have HY := Lib.hid (HY.out hy)
        have hsg := sgn_le hy
        generalize sgn (T * T) X = sg at hsg ⊢
        clear hy
        go_wp2_with fail
        exact ⟨⟨k', T, t, by omega, rfl, rfl, hwt, HTB.out, HY, HB.out⟩, by first | (simp [intOf]; done) | (simp [intOf]; omega)⟩
      · have HO := Lib.hid (HO.out hy)
        have hsg := sgn_gt hy
        generalize sgn (T * T) X = sg at hsg ⊢
        clear hy
        go_wp2_with fail
        exact ⟨⟨k', R, p, by omega, rfl, rfl, hpw, HP.out, HO, HB.out⟩, by first | (simp [intOf]; done) | (simp [intOf]; omega)⟩
end Go.Proofs.Ytajhkbdaoakogaa.BigW
