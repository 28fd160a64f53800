/- fourwatchbig.Int: Abs, Rsh of a number that is not below 0, Exp without a modulus. -/
import Derived.Test.YtlcpackmoolngaaBigQ
import Derived.Test.YtlcpackmoolngaaBigR
import Derived.Test.YtlcpackmoolngaaBigMul
import Derived.Test.YtlcpackmoolngaaBigBt
namespace Go.Proofs.Ytlcpackmoolngaa.BigW
open Go.RowKit Go.Proofs.Ytlcpackmoolngaa.Mem Go.Proofs.Ytlcpackmoolngaa.BigLaw
set_option linter.unusedVariables false

theorem bigAbs_any (p px : Nat) (X : Int) (w : World) (hp : IsInt w p) (hx : BigAt w px X) (bx : X.natAbs < pw 100) :
    Calls Try.prog 35 #[.pointer (some ⟨p, 0, none⟩), .pointer (some ⟨px, 0, none⟩)] w fun e w' => e = .returned (.pointer (some ⟨p, 0, none⟩)) ∧ BigAt w' p (X.natAbs : Int) ∧ w.grownBy w' (some p) := by
  obtain ⟨A, c, l, x0, x1, xw, xt, xv⟩ := hx.parts
  have HL := Lib.hid (len_of xt xv bx)
  have HXW := Lib.hid xw
  have HXT := Lib.hid xt
  have HXV := Lib.hid (show val l = (X.natAbs : Int).natAbs by rw [xv]; rfl)
  have HSG := Lib.hid (show (false && decide (0 < l.length)) = decide ((X.natAbs : Int) < 0) by rw [Bool.false_and, decide_eq_false (by omega)])
  have HP := Lib.hid hp
  clear xw xt xv hp hx bx
  generalize (X.natAbs : Int) = Z at HXV HSG ⊢
  go_enter Try.func35, Try.ntmps35
  go_wp2_with fail
  refine (twin_any A c l _ _ (Nat.le_refl _) HXW.out HL.out).mono ?_
  rintro e w1 ⟨A1, c1, rfl, hw1, hb1⟩
  have HW1 := Lib.hid hw1
  clear hw1
  go_wp2_with fail
  refine (give_big p _ A1 l c1 _ Z (HP.out.below hb1 HP.out.lt) HW1.out HXT.out HXV.out HSG.out).mono ?_
  rintro e w2 ⟨rfl, hz2, hg2⟩
  have HZ := Lib.hid hz2
  clear hz2
  go_wp2_with fail
  go_ret
  exact ⟨rfl, HZ.out, (grown_of_below hb1).trans hg2⟩

theorem bigRsh_any (p px : Nat) (X n wd s : Nat) (w : World) (hp : IsInt w p) (hx : BigAt w px (X : Int)) (bx : X < pw 100) (hn : n = 32 * wd + s) (hs : s < 32) (hwd : wd ≤ 1000000) :
    Calls Try.prog 40 #[.pointer (some ⟨p, 0, none⟩), .pointer (some ⟨px, 0, none⟩), .int .u64 (n : Int)] w fun e w' => e = .returned (.pointer (some ⟨p, 0, none⟩)) ∧ BigAt w' p ((X / 2 ^ n : Nat) : Int) ∧ w.grownBy w' (some p) := by
  obtain ⟨A, c, l, x0, x1, xw, xt, xv⟩ := hx.parts
  rw [decide_eq_false (by omega)] at x0
  have HL := Lib.hid (len_of xt xv (show (X : Int).natAbs < pw 100 by exact bx))
  have HXW := Lib.hid xw
  have HXV := Lib.hid (show val l / 2 ^ n = X / 2 ^ n by rw [xv]; rfl)
  have HP := Lib.hid hp
  have HN := Lib.hid hn
  have HS := Lib.hid hs
  have HWD := Lib.hid hwd
  clear xw xt xv hp hx bx hn hs hwd
  generalize X / 2 ^ n = Z at HXV ⊢
  go_enter Try.func40, Try.ntmps40
  go_wp2_with fail
  refine (right_any A c l n wd s _ _ (Nat.le_refl _) HXW.out HL.out HN.out HS.out HWD.out).mono ?_
  rintro e w1 ⟨A1, c1, l1, rfl, hw1, ht1, hv1, hb1⟩
  have HW1 := Lib.hid hw1
  have HT1 := Lib.hid ht1
  have HV1 := Lib.hid (show val l1 = (Z : Int).natAbs by rw [hv1, HXV.out]; rfl)
  clear hw1 ht1 hv1
  go_wp2_with fail
  refine (give_big p _ A1 l1 c1 _ Z (HP.out.below hb1 HP.out.lt) HW1.out HT1.out HV1.out (by rw [Bool.false_and, decide_eq_false (by omega)])).mono ?_
  rintro e w2 ⟨rfl, hz2, hg2⟩
  have HZ := Lib.hid hz2
  clear hz2
  go_wp2_with fail
  go_ret
  exact ⟨rfl, HZ.out, (grown_of_below hb1).trans hg2⟩

theorem pow_half {X n k : Nat} : X ^ (n / 2 ^ (k + 1)) * X ^ (n / 2 ^ (k + 1)) * (if n / 2 ^ k % 2 = 1 then X else 1) = X ^ (n / 2 ^ k) := by
  rw [Nat.pow_succ, ← Nat.div_div_eq_div_mul]
  generalize n / 2 ^ k = m
  rw [← Nat.pow_add]
  split
  · rw [← Nat.pow_succ]
    congr 1
    omega
  · rw [Nat.mul_one]
    congr 1
    omega

/-- where Exp's loop stands -/
structure ExpAt (w3 wr : World) (pb pr X n k : Nat) (A : Option Addr) (c : Nat) (l : List Nat) : Prop where
  r : BigAt wr pr ((X ^ (n / 2 ^ k) : Nat) : Int)
  b : BigAt wr pb (X : Int)
  e : Wd wr w3.heap.size A c l
  g : w3.grownBy wr (some pr)

set_option maxHeartbeats 1000000 in
theorem bigExp_any (p px py X n : Nat) (w : World) (hp : IsInt w p) (hx : BigAt w px (X : Int)) (hy : BigAt w py (n : Int)) (bx : X < pw 100) (h1 : 1 ≤ X) (hb : X ^ n < pw 100) (hn : n ≤ 1000) :
    Calls Try.prog 37 #[.pointer (some ⟨p, 0, none⟩), .pointer (some ⟨px, 0, none⟩), .pointer (some ⟨py, 0, none⟩), .pointer none] w fun e w' => e = .returned (.pointer (some ⟨p, 0, none⟩)) ∧ BigAt w' p ((X ^ n : Nat) : Int) ∧ w.grownBy w' (some p) := by
  have hpl := hp.lt
  have hpy := hy.lt
  have hbp : ∀ m, m ≤ n → X ^ m < pw 100 := fun m hm => Nat.lt_of_le_of_lt (Nat.pow_le_pow_right h1 hm) hb
  have HBP := Lib.hid hbp
  have HP := Lib.hid hp
  have HX := Lib.hid (hx.alloc (.cells #[.bool false, .slice none 0 0] 63))
  have HY := Lib.hid hy
  have HI := Lib.hid (isInt_new w)
  have BX := Lib.hid (show (X : Int).natAbs < pw 100 from bx)
  have HN := Lib.hid hn
  have H1 := Lib.hid h1
  clear hp hx hy bx h1 hb hn hbp
  go_enter Try.func37, Try.ntmps37
  go_wp2_with fail
  refine (bigSet_any w.heap.size px X _ HI.out HX.out BX.out).mono ?_
  rintro e w1 ⟨rfl, hz1, hg1⟩
  have hb1 : Below w.heap.size w w1 := below_grown ((Below.refl w.heap.size w).alloc (Nat.le_refl _) _) (Nat.le_refl _) hg1 (fun g e => by injection e with e; omega)
  have HB := Lib.hid hz1
  have HY1 := Lib.hid (HY.out.below hb1)
  clear hz1 hg1
  obtain ⟨A, c, l, y0, y1, yw, yt, yv⟩ := HY1.out.parts
  rw [decide_eq_false (by omega)] at y0
  have HL := Lib.hid (show l.length ≤ 1000000 from len_of yt yv (Nat.lt_trans (show (n : Int).natAbs < pw 1 by have := HN.out; unfold pw; omega) (by unfold pw; decide)))
  clear yw yt yv
  go_wp2_with fail
  refine (newInt_any 1 _ (by omega)).mono ?_
  rintro e w2 ⟨pr, rfl, hpr, hz2, hb2⟩
  have HR := Lib.hid hz2
  have HB2 := Lib.hid (HB.out.below hb2)
  have HY2 := Lib.hid (HY1.out.below hb2)
  clear hz2 y0 y1
  obtain ⟨A, c, l, y0, y1, yw, yt, yv⟩ := HY2.out.parts
  have HL := Lib.hid (show l.length ≤ 1000000 from len_of yt yv (Nat.lt_trans (show (n : Int).natAbs < pw 1 by have := HN.out; unfold pw; omega) (by unfold pw; decide)))
  have HYW := Lib.hid yw
  have HYT := Lib.hid yt
  have HYV := Lib.hid (show val l = n by rw [yv]; rfl)
  clear yw yt yv y0
  go_wp2_with fail
  refine (twin_any A c l _ _ (Nat.le_refl _) HYW.out HL.out).mono ?_
  rintro e w3 ⟨A1, c1, rfl, hw3, hb3⟩
  have HW3 := Lib.hid hw3
  have HR3 := Lib.hid (HR.out.below hb3)
  have HB3 := Lib.hid (HB2.out.below hb3)
  clear hw3
  go_wp2_with fail
  refine (length_any A1 c1 l _ _ HW3.out HYT.out HL.out).mono ?_
  rintro e w' ⟨⟨L, rfl, hL, hLl⟩, rfl⟩
  rw [HYV.out] at hL
  have HLn := Lib.hid ((isLen_lt hL).1 (Nat.le_refl L))
  have hLs : L ≤ 32000000 := by have := HL.out; omega
  clear hL hLl
  generalize w' = w3 at *
  go_wp2_with fail
  go_loopw [14] (fun i wr => ∃ k : Nat, k ≤ L ∧ i = .int .i64 ((k : Int) - 1) ∧ ExpAt w3 wr w.heap.size pr X n k A1 c1 l) (fun i _ => (intOf i + 1).toNat)
  case atStart =>
    refine ⟨L, Nat.le_refl _, rfl, ?_, HB3.out, HW3.out, grown_same _ _⟩
    rw [Nat.div_eq_of_lt HLn.out]
    exact HR3.out
  case round =>
    obtain ⟨k, hk, rfl, hat⟩ := hrel
    obtain ⟨hr, hbb, he, hg⟩ := hat
    have hprl := hr.lt
    by_cases hpos : 0 < k
    · obtain ⟨q, rfl⟩ : ∃ q, k = q + 1 := ⟨k - 1, by omega⟩
      rw [show ((q + 1 : Nat) : Int) - 1 = (q : Int) by omega]
      have HR4 := Lib.hid hr
      have HB4 := Lib.hid hbb
      have HE4 := Lib.hid he
      have HG4 := Lib.hid hg
      have HM := Lib.hid (show ((X ^ (n / 2 ^ (q + 1)) : Nat) : Int).natAbs < pw 100 from HBP.out _ (Nat.div_le_self _ _))
      have hne : pr ≠ w.heap.size := by have := hb1.size; have := HB.out.lt; omega
      have hpow := pow_half (X := X) (n := n) (k := q)
      have HPW := Lib.hid hpow
      have HQ := Lib.hid (HBP.out (n / 2 ^ q) (Nat.div_le_self _ _))
      clear hr hbb he hg hpos hpow
      generalize X ^ (n / 2 ^ (q + 1)) = R at HR4 HM HPW
      go_wp2_with fail
      refine (bigMul_any pr pr pr R R _ HR4.out.isInt HR4.out HR4.out HM.out HM.out).mono ?_
      rintro e w4 ⟨rfl, hz4, hg4⟩
      have HR5 := Lib.hid (show BigAt w4 pr ((R * R : Nat) : Int) from hz4)
      have HB5 := Lib.hid (HB4.out.grown HR4.out.isInt hg4 (fun e => hne e.symm))
      have HE5 := Lib.hid (HE4.out.grown (by have := HG4.out.size; omega) HR4.out.isInt hg4)
      have HG5 := Lib.hid (HG4.out.trans hg4)
      clear hz4 hg4
      go_wp2_with fail
      refine (bit_any A1 c1 l _ q _ HE5.out (by omega)).mono ?_
      rintro e w' ⟨rfl, rfl⟩
      rw [HYV.out]
      by_cases hbit : n / 2 ^ q % 2 = 1
      · have HPW2 := Lib.hid (show R * R * X = X ^ (n / 2 ^ q) by have := HPW.out; rwa [if_pos hbit] at this)
        have HM2 := Lib.hid (show ((R * R : Nat) : Int).natAbs < pw 100 by
          show R * R < pw 100
          refine Nat.lt_of_le_of_lt ?_ HQ.out
          rw [← HPW2.out]
          exact Nat.le_mul_of_pos_right _ H1.out)
        rw [hbit]
        clear hbit
        generalize R * R = RR at HR5 HPW2 HM2
        go_wp2_with fail
        refine (bigMul_any pr pr w.heap.size RR X _ HR5.out.isInt HR5.out HB5.out HM2.out BX.out).mono ?_
        rintro e w5 ⟨rfl, hz5, hg5⟩
        have HR6 := Lib.hid (show BigAt w5 pr ((RR * X : Nat) : Int) from hz5)
        have HB6 := Lib.hid (HB5.out.grown HR5.out.isInt hg5 (fun e => hne e.symm))
        have HE6 := Lib.hid (HE5.out.grown (by have := HG5.out.size; omega) HR5.out.isInt hg5)
        have HG6 := Lib.hid (HG5.out.trans hg5)
        clear hz5 hg5
        go_wp2_with fail
        refine ⟨⟨q, by omega, rfl, ?_, HB6.out, HE6.out, HG6.out⟩, by simp [intOf]⟩
        rw [← HPW2.out]
        exact HR6.out
      · have hbit0 : n / 2 ^ q % 2 = 0 := by omega
        have HPW2 := Lib.hid (show R * R = X ^ (n / 2 ^ q) by have := HPW.out; rwa [if_neg hbit, Nat.mul_one] at this)
        rw [hbit0]
        clear hbit hbit0
        go_wp2_with fail
        refine ⟨⟨q, by omega, rfl, ?_, HB5.out, HE5.out, HG5.out⟩, by simp [intOf]⟩
        rw [← HPW2.out]
        exact HR5.out
    · obtain rfl : k = 0 := by omega
      rw [Nat.pow_zero, Nat.div_one] at hr
      have HR4 := Lib.hid hr
      have HG4 := Lib.hid (below_grown (onward (onward hb1 (Nat.le_refl _) hb2) (Nat.le_refl _) hb3) (Nat.le_refl _) hg (fun g e => by injection e with e; have := hb1.size; omega))
      have HM := Lib.hid (show ((X ^ n : Nat) : Int).natAbs < pw 100 from HBP.out _ (Nat.le_refl _))
      obtain ⟨R, hRe⟩ : ∃ R, R = X ^ n := ⟨_, rfl⟩
      rw [← hRe] at HR4 HM
      have HRE := Lib.hid hRe
      clear hr hbb he hg hpos hRe
      go_wp2_with fail
      refine (bigSet_any p pr R _ (HP.out.below HG4.out hpl) HR4.out HM.out).mono ?_
      rintro e w4 ⟨rfl, hz4, hg4⟩
      have HZ := Lib.hid hz4
      clear hz4
      go_wp2_with fail
      go_ret
      exact ⟨rfl, by rw [← HRE.out]; exact HZ.out, (grown_of_below HG4.out).trans hg4⟩
end Go.Proofs.Ytlcpackmoolngaa.BigW
