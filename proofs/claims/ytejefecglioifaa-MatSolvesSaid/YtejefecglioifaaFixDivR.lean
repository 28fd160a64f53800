/- Contract of the reference's Div: the quotient to the nearest, halves up, stopped. -/
import Derived.Test.YtejefecglioifaaFixMul
import Derived.Test.YtejefecglioifaaBigNeg
import Derived.Test.YtejefecglioifaaFixDivLaw
namespace Go.Proofs.Ytejefecglioifaa.BigW
open Go.RowKit Go.Proofs.Ytejefecglioifaa.Mem Go.Proofs.Ytejefecglioifaa.BigLaw Go.Proofs.Ytejefecglioifaa.FixDivLaw
set_option linter.unusedVariables false

/-- P1.3 -/
def fdiv (a b : Int) : Int × Bool := if b = 0 then (if 0 < a then (9223372036854775807, true) else if a < 0 then (-9223372036854775808, true) else (0, true)) else stop (nearest a b)

set_option maxRecDepth 100000 in
set_option maxHeartbeats 2000000 in
theorem refDiv_any (a b : Int) (w : World) (ha : -9223372036854775808 ≤ a ∧ a ≤ 9223372036854775807) (hb : -9223372036854775808 ≤ b ∧ b ≤ 9223372036854775807) :
    Calls Try.prog 53 #[.int .i64 a, .int .i64 b] w fun e w' => e = .returned (.tuple #[.int .i64 (fdiv a b).1, .bool (fdiv a b).2]) ∧ Below w.heap.size w w' := by
  have HA := Lib.hid ha
  have HB := Lib.hid hb
  by_cases h0 : b = 0
  · subst h0
    rcases Int.lt_trichotomy a 0 with h | h | h
    · have HF := Lib.hid (show fdiv a 0 = (-9223372036854775808, true) by unfold fdiv; rw [if_pos rfl, if_neg (by omega), if_pos h])
      clear ha hb
      go_enter Try.func53, Try.ntmps53
      go_wp2_with fail
      go_ret2
      exact ⟨by rw [HF.out]; rfl, Below.refl _ _⟩
    · subst h
      have HF := Lib.hid (show fdiv 0 0 = (0, true) by unfold fdiv; rw [if_pos rfl, if_neg (by omega), if_neg (by omega)])
      clear ha hb
      go_enter Try.func53, Try.ntmps53
      go_wp2_with fail
      go_ret2
      exact ⟨by rw [HF.out]; rfl, Below.refl _ _⟩
    · have HF := Lib.hid (show fdiv a 0 = (9223372036854775807, true) by unfold fdiv; rw [if_pos rfl, if_pos h])
      clear ha hb
      go_enter Try.func53, Try.ntmps53
      go_wp2_with fail
      go_ret2
      exact ⟨by rw [HF.out]; rfl, Below.refl _ _⟩
  · have hb0 : (b == 0) = false := by simp [h0]
    have HF := Lib.hid (show fdiv a b = stop (nearest a b) by unfold fdiv; rw [if_neg h0])
    have HI := Lib.hid (isInt_new w)
    have H0 := Lib.hid h0
    clear ha hb h0
    go_enter Try.func53, Try.ntmps53
    go_wp2_with fail
    refine (whole_any a _ HA.out).mono ?_
    rintro e w1 ⟨p1, rfl, hp1, hz1, hb1⟩
    have HZ1 := Lib.hid hz1
    have HI1 := Lib.hid (HI.out.below hb1 HI.out.lt)
    have HB1 := Lib.hid (onward ((Below.refl w.heap.size w).alloc (Nat.le_refl _) (.cells #[.bool false, .slice none 0 0] 84)) (Nat.le_refl _) hb1)
    clear hz1
    go_wp2_with fail
    refine (bigLsh_any w.heap.size p1 a 33 1 1 _ HI1.out HZ1.out (small_pw (by have := HA.out; omega)) rfl (by omega) (by omega)).mono ?_
    rintro e w2 ⟨rfl, hz2, hg2⟩
    have HZ2 := Lib.hid hz2
    have HB2 := Lib.hid (below_grown HB1.out (Nat.le_refl _) hg2 (fun g e => by injection e with e; omega))
    clear hz2 hg2
    go_wp2_with fail
    refine (whole_any b _ HB.out).mono ?_
    rintro e w3 ⟨p3, rfl, hp3, hz3, hb3⟩
    have HZ3 := Lib.hid hz3
    have HZ23 := Lib.hid (HZ2.out.below hb3)
    have HB3 := Lib.hid (onward HB2.out (Nat.le_refl _) hb3)
    clear hz3
    have hps : w.heap.size ≠ p3 := by have := HZ2.out.lt; omega
    by_cases hn : b < 0
    · have HXB := Lib.hid (show (-(a * 2 ^ 33)).natAbs ≤ 79228162514264337593543950336 by have := HA.out; omega)
      have HYB := Lib.hid (show 0 < -b ∧ -b ≤ 9223372036854775808 by have := HB.out; omega)
      have HNE := Lib.hid (show (-(a * 2 ^ 33) + -b) / (-b * 2 ^ 1) = nearest a b by
        unfold nearest; rw [if_pos hn]
        rw [show -(a * 2 ^ 33) + -b = -a * 8589934592 + -b by omega, show -b * 2 ^ 1 = 2 * -b by omega])
      go_wp2_with fail
      refine (bigNeg_any w.heap.size w.heap.size (a * 2 ^ 33) _ HZ23.out.isInt HZ23.out (small_pw (by have := HA.out; omega))).mono ?_
      rintro e w4 ⟨rfl, hz4, hg4⟩
      have HZ4 := Lib.hid hz4
      have HZ34 := Lib.hid (HZ3.out.grown HZ23.out.isInt hg4 (fun e => hps e.symm))
      have HB4 := Lib.hid (below_grown HB3.out (Nat.le_refl _) hg4 (fun g e => by injection e with e; omega))
      clear hz4 hg4
      go_wp2_with fail
      refine (bigNeg_any p3 p3 b _ HZ34.out.isInt HZ34.out (small_pw (by have := HB.out; omega))).mono ?_
      rintro e w5 ⟨rfl, hz5, hg5⟩
      have HD := Lib.hid hz5
      have HN := Lib.hid (HZ4.out.grown HZ34.out.isInt hg5 hps)
      have HB5 := Lib.hid (below_grown HB4.out (Nat.le_refl _) hg5 (fun g e => by injection e with e; have := HB2.out.size; omega))
      clear hz5 hg5
      generalize -(a * 2 ^ 33) = X at HXB HNE HN
      generalize -b = Y at HYB HNE HD
      clear hn
      go_wp2_with fail
      refine (bigAdd_any w.heap.size w.heap.size p3 X Y _ HN.out.isInt HN.out HD.out (small_pw (by have := HXB.out; omega)) (small_pw (by have := HYB.out; omega))).mono ?_
      rintro e w6 ⟨rfl, hz6, hg6⟩
      have HZ6 := Lib.hid hz6
      have HD6 := Lib.hid (HD.out.grown HN.out.isInt hg6 (by omega))
      have HB6 := Lib.hid (below_grown HB5.out (Nat.le_refl _) hg6 (fun g e => by injection e with e; omega))
      have HI6 := Lib.hid (isInt_new w6)
      have HD7 := Lib.hid (HD6.out.alloc (.cells #[.bool false, .slice none 0 0] 84))
      have HZ7 := Lib.hid (HZ6.out.alloc (.cells #[.bool false, .slice none 0 0] 84))
      have HB7 := Lib.hid (HB6.out.alloc HB6.out.size (.cells #[.bool false, .slice none 0 0] 84))
      clear hz6 hg6
      go_wp2_with fail
      refine (bigLsh_any w6.heap.size p3 Y 1 0 1 _ HI6.out HD7.out (small_pw (by have := HYB.out; omega)) rfl (by omega) (by omega)).mono ?_
      rintro e w8 ⟨rfl, hz8, hg8⟩
      have HZ8 := Lib.hid hz8
      have HZ68 := Lib.hid (HZ7.out.grown HI6.out hg8 (by have := HZ6.out.lt; omega))
      have HB8 := Lib.hid (below_grown HB7.out (Nat.le_refl _) hg8 (fun g e => by injection e with e; have := HB6.out.size; omega))
      clear hz8 hg8
      go_wp2_with fail
      refine (down_any w.heap.size w6.heap.size (X + Y) (Y * 2 ^ 1) _ HZ68.out HZ8.out (small_pw (by have := HXB.out; have := HYB.out; omega)) (by have := HYB.out; omega) (small_pw (by have := HYB.out; omega))).mono ?_
      rintro e w9 ⟨p9, rfl, hp9, hz9, hb9⟩
      have HZ9 := Lib.hid hz9
      have HB9 := Lib.hid (onward HB8.out (Nat.le_refl _) hb9)
      have HQB := Lib.hid (show ((X + Y) / (Y * 2 ^ 1)).natAbs ≤ (X + Y).natAbs from Int.natAbs_ediv_le_natAbs _ _)
      clear hz9
      go_wp2_with fail
      refine (stop_any p9 _ _ HZ9.out (small_pw (by have := HQB.out; have := HXB.out; have := HYB.out; omega))).mono ?_
      rintro e w10 ⟨rfl, rfl⟩
      rw [show (X + Y) / (Y * 2 ^ 1) = nearest a b from HNE.out]
      obtain ⟨r, hr⟩ : ∃ r, stop (nearest a b) = r := ⟨_, rfl⟩
      have HR := Lib.hid (HF.out.trans hr)
      rw [hr]
      clear hr
      go_wp2_with fail
      go_ret2
      exact ⟨by rw [HR.out]; rfl, HB9.out⟩
    · have HXB := Lib.hid (show (a * 2 ^ 33).natAbs ≤ 79228162514264337593543950336 by have := HA.out; omega)
      have HYB := Lib.hid (show 0 < b ∧ b ≤ 9223372036854775808 by have := HB.out; have := H0.out; omega)
      have HNE := Lib.hid (show (a * 2 ^ 33 + b) / (b * 2 ^ 1) = nearest a b by
        unfold nearest; rw [if_neg hn]
        rw [show a * 2 ^ 33 + b = a * 8589934592 + b by omega, show b * 2 ^ 1 = 2 * b by omega])
      have HD := HZ3
      have HN := HZ23
      have HB5 := HB3
      obtain ⟨X, hX⟩ : ∃ X, a * 2 ^ 33 = X := ⟨_, rfl⟩
      obtain ⟨Y, hY⟩ : ∃ Y, b = Y := ⟨_, rfl⟩
      rw [hX] at HXB HNE HN
      rw [hY] at HYB HD
      have HNE : Hid ((X + Y) / (Y * 2 ^ 1) = nearest a b) := Lib.hid (by rw [← hY]; exact HNE.out)
      clear hX hY HZ3 HZ23
      go_wp2_with fail
      refine (bigAdd_any w.heap.size w.heap.size p3 X Y _ HN.out.isInt HN.out HD.out (small_pw (by have := HXB.out; omega)) (small_pw (by have := HYB.out; omega))).mono ?_
      rintro e w6 ⟨rfl, hz6, hg6⟩
      have HZ6 := Lib.hid hz6
      have HD6 := Lib.hid (HD.out.grown HN.out.isInt hg6 (by omega))
      have HB6 := Lib.hid (below_grown HB5.out (Nat.le_refl _) hg6 (fun g e => by injection e with e; omega))
      have HI6 := Lib.hid (isInt_new w6)
      have HD7 := Lib.hid (HD6.out.alloc (.cells #[.bool false, .slice none 0 0] 84))
      have HZ7 := Lib.hid (HZ6.out.alloc (.cells #[.bool false, .slice none 0 0] 84))
      have HB7 := Lib.hid (HB6.out.alloc HB6.out.size (.cells #[.bool false, .slice none 0 0] 84))
      clear hz6 hg6
      go_wp2_with fail
      refine (bigLsh_any w6.heap.size p3 Y 1 0 1 _ HI6.out HD7.out (small_pw (by have := HYB.out; omega)) rfl (by omega) (by omega)).mono ?_
      rintro e w8 ⟨rfl, hz8, hg8⟩
      have HZ8 := Lib.hid hz8
      have HZ68 := Lib.hid (HZ7.out.grown HI6.out hg8 (by have := HZ6.out.lt; omega))
      have HB8 := Lib.hid (below_grown HB7.out (Nat.le_refl _) hg8 (fun g e => by injection e with e; have := HB6.out.size; omega))
      clear hz8 hg8
      go_wp2_with fail
      refine (down_any w.heap.size w6.heap.size (X + Y) (Y * 2 ^ 1) _ HZ68.out HZ8.out (small_pw (by have := HXB.out; have := HYB.out; omega)) (by have := HYB.out; omega) (small_pw (by have := HYB.out; omega))).mono ?_
      rintro e w9 ⟨p9, rfl, hp9, hz9, hb9⟩
      have HZ9 := Lib.hid hz9
      have HB9 := Lib.hid (onward HB8.out (Nat.le_refl _) hb9)
      have HQB := Lib.hid (show ((X + Y) / (Y * 2 ^ 1)).natAbs ≤ (X + Y).natAbs from Int.natAbs_ediv_le_natAbs _ _)
      clear hz9
      go_wp2_with fail
      refine (stop_any p9 _ _ HZ9.out (small_pw (by have := HQB.out; have := HXB.out; have := HYB.out; omega))).mono ?_
      rintro e w10 ⟨rfl, rfl⟩
      rw [show (X + Y) / (Y * 2 ^ 1) = nearest a b from HNE.out]
      obtain ⟨r, hr⟩ : ∃ r, stop (nearest a b) = r := ⟨_, rfl⟩
      have HR := Lib.hid (HF.out.trans hr)
      rw [hr]
      clear hr
      go_wp2_with fail
      go_ret2
      exact ⟨by rw [HR.out]; rfl, HB9.out⟩
end Go.Proofs.Ytejefecglioifaa.BigW
