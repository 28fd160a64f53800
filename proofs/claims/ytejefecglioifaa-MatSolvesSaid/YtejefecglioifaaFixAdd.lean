/- Contracts of Add and Sub of fix, and of the reference's Add, Sub, Of. -/
import Derived.Test.YtejefecglioifaaBigT
import Derived.Test.YtejefecglioifaaBigAdd
import Derived.Test.YtejefecglioifaaBigSub
namespace Go.Proofs.Ytejefecglioifaa.BigW
open Go.RowKit Go.Proofs.Ytejefecglioifaa.Mem Go.Proofs.Ytejefecglioifaa.BigLaw
set_option linter.unusedVariables false

theorem stop_in {X s : Int} (h1 : -9223372036854775808 ≤ X) (h2 : X ≤ 9223372036854775807) (h : X = s) : stop X = (s, false) := by
  subst h; unfold stop in64; rw [if_pos (decide_eq_true ⟨h1, h2⟩)]
theorem stop_hi {X : Int} (h : 9223372036854775807 < X) : stop X = (9223372036854775807, true) := by
  unfold stop in64; rw [if_neg (by rw [decide_eq_true_eq]; omega), if_pos (by omega)]
theorem stop_lo {X : Int} (h : X < -9223372036854775808) : stop X = (-9223372036854775808, true) := by
  unfold stop in64; rw [if_neg (by rw [decide_eq_true_eq]; omega), if_neg (by omega)]

theorem three (a : Int) : (a < 0 ∧ ¬ 0 ≤ a) ∨ (0 ≤ a ∧ a ≤ 0) ∨ (0 < a ∧ ¬ a ≤ 0) := by omega

theorem fixAdd_any (a b : Int) (w : World) (ha : -9223372036854775808 ≤ a ∧ a ≤ 9223372036854775807) (hb : -9223372036854775808 ≤ b ∧ b ≤ 9223372036854775807) :
    Calls Try.prog 38 #[.int .i64 a, .int .i64 b] w fun e w' => e = .returned (.tuple #[.int .i64 (stop (a + b)).1, .bool (stop (a + b)).2]) ∧ w' = w := by
  have HA := Lib.hid ha
  have HB := Lib.hid hb
  obtain ⟨s, hs⟩ : ∃ s, wrap64 (a + b) = s := ⟨_, rfl⟩
  have HS := Lib.hid (show s = (a + b + 9223372036854775808) % 18446744073709551616 - 9223372036854775808 by rw [← hs]; unfold wrap64; omega)
  clear ha hb
  rcases three a with ⟨h1, h1'⟩ | ⟨h1, h1'⟩ | ⟨h1, h1'⟩ <;> rcases three b with ⟨h2, h2'⟩ | ⟨h2, h2'⟩ | ⟨h2, h2'⟩ <;> rcases three s with ⟨h3, h3'⟩ | ⟨h3, h3'⟩ | ⟨h3, h3'⟩
  all_goals
    go_enter Try.func38, Try.ntmps38
    go_wp2_with fail
    go_ret2
    refine ⟨?_, rfl⟩
    have := HA.out
    have := HB.out
    have := HS.out
    first
      | (rw [stop_in (s := s) (by omega) (by omega) (by omega)]; rfl)
      | (rw [stop_in (s := a + b) (by omega) (by omega) (by omega)]; rfl)
      | (rw [stop_in (s := a) (by omega) (by omega) (by omega)]; rfl)
      | (rw [stop_in (s := b) (by omega) (by omega) (by omega)]; rfl)
      | (rw [stop_in (s := 0) (by omega) (by omega) (by omega)]; rfl)
      | (rw [stop_hi (by omega)]; rfl)
      | (rw [stop_lo (by omega)]; rfl)
      | (exfalso; omega)

theorem fixSub_any (a b : Int) (w : World) (ha : -9223372036854775808 ≤ a ∧ a ≤ 9223372036854775807) (hb : -9223372036854775808 ≤ b ∧ b ≤ 9223372036854775807) :
    Calls Try.prog 34 #[.int .i64 a, .int .i64 b] w fun e w' => e = .returned (.tuple #[.int .i64 (stop (a - b)).1, .bool (stop (a - b)).2]) ∧ w' = w := by
  have HA := Lib.hid ha
  have HB := Lib.hid hb
  obtain ⟨s, hs⟩ : ∃ s, wrap64 (a - b) = s := ⟨_, rfl⟩
  have HS := Lib.hid (show s = (a - b + 9223372036854775808) % 18446744073709551616 - 9223372036854775808 by rw [← hs]; unfold wrap64; omega)
  clear ha hb
  rcases three a with ⟨h1, h1'⟩ | ⟨h1, h1'⟩ | ⟨h1, h1'⟩ <;> rcases three b with ⟨h2, h2'⟩ | ⟨h2, h2'⟩ | ⟨h2, h2'⟩ <;> rcases three s with ⟨h3, h3'⟩ | ⟨h3, h3'⟩ | ⟨h3, h3'⟩
  all_goals
    go_enter Try.func34, Try.ntmps34
    go_wp2_with fail
    go_ret2
    refine ⟨?_, rfl⟩
    have := HA.out
    have := HB.out
    have := HS.out
    first
      | (rw [stop_in (s := s) (by omega) (by omega) (by omega)]; rfl)
      | (rw [stop_in (s := a - b) (by omega) (by omega) (by omega)]; rfl)
      | (rw [stop_in (s := a) (by omega) (by omega) (by omega)]; rfl)
      | (rw [stop_in (s := -b) (by omega) (by omega) (by omega)]; rfl)
      | (rw [stop_in (s := 0) (by omega) (by omega) (by omega)]; rfl)
      | (rw [stop_hi (by omega)]; rfl)
      | (rw [stop_lo (by omega)]; rfl)
      | (exfalso; omega)
/-- a reference's sum: of two numbers, stopped -/
theorem small_pw {X : Int} (h : X.natAbs < 340282366920938463463374607431768211456) : X.natAbs < pw 100 := by
  have h1 : pw 4 ≤ pw 100 := pw_le (by omega)
  have h2 : pw 4 = 340282366920938463463374607431768211456 := rfl
  omega

theorem refAdd_any (a b : Int) (w : World) (ha : -9223372036854775808 ≤ a ∧ a ≤ 9223372036854775807) (hb : -9223372036854775808 ≤ b ∧ b ≤ 9223372036854775807) :
    Calls Try.prog 56 #[.int .i64 a, .int .i64 b] w fun e w' => e = .returned (.tuple #[.int .i64 (stop (a + b)).1, .bool (stop (a + b)).2]) ∧ Below w.heap.size w w' := by
  have HA := Lib.hid ha
  have HB := Lib.hid hb
  have HI := Lib.hid (isInt_new w)
  clear ha hb
  go_enter Try.func56, Try.ntmps56
  go_wp2_with fail
  refine (whole_any a _ HA.out).mono ?_
  rintro e w1 ⟨p1, rfl, hp1, hz1, hb1⟩
  have HZ1 := Lib.hid hz1
  have HI1 := Lib.hid (HI.out.below hb1 HI.out.lt)
  clear hz1
  go_wp2_with fail
  refine (whole_any b _ HB.out).mono ?_
  rintro e w2 ⟨p2, rfl, hp2, hz2, hb2⟩
  have HZ2 := Lib.hid hz2
  have HI2 := Lib.hid (HI1.out.below hb2 HI1.out.lt)
  have HZ1' := Lib.hid (HZ1.out.below hb2)
  clear hz2
  go_wp2_with fail
  refine (bigAdd_any w.heap.size p1 p2 a b _ HI2.out HZ1'.out HZ2.out (small_pw (by have := HA.out; omega)) (small_pw (by have := HB.out; omega))).mono ?_
  rintro e w3 ⟨rfl, hz3, hg3⟩
  have HZ3 := Lib.hid hz3
  have HB3 := Lib.hid (below_grown (onward (onward ((Below.refl w.heap.size w).alloc (Nat.le_refl _) (.cells #[.bool false, .slice none 0 0] 84)) (Nat.le_refl _) hb1) (Nat.le_refl _) hb2) (Nat.le_refl _) hg3 (fun g e => by injection e with e; omega))
  clear hz3 hg3
  go_wp2_with fail
  refine (stop_any w.heap.size (a + b) _ HZ3.out (small_pw (by have := HA.out; have := HB.out; omega))).mono ?_
  rintro e w4 ⟨rfl, rfl⟩
  generalize hss : stop (a + b) = s
  have HSS := Lib.hid hss
  clear hss
  go_wp2_with fail
  go_ret2
  exact ⟨by rw [HSS.out]; rfl, HB3.out⟩

theorem refSub_any (a b : Int) (w : World) (ha : -9223372036854775808 ≤ a ∧ a ≤ 9223372036854775807) (hb : -9223372036854775808 ≤ b ∧ b ≤ 9223372036854775807) :
    Calls Try.prog 52 #[.int .i64 a, .int .i64 b] w fun e w' => e = .returned (.tuple #[.int .i64 (stop (a - b)).1, .bool (stop (a - b)).2]) ∧ Below w.heap.size w w' := by
  have HA := Lib.hid ha
  have HB := Lib.hid hb
  have HI := Lib.hid (isInt_new w)
  clear ha hb
  go_enter Try.func52, Try.ntmps52
  go_wp2_with fail
  refine (whole_any a _ HA.out).mono ?_
  rintro e w1 ⟨p1, rfl, hp1, hz1, hb1⟩
  have HZ1 := Lib.hid hz1
  have HI1 := Lib.hid (HI.out.below hb1 HI.out.lt)
  clear hz1
  go_wp2_with fail
  refine (whole_any b _ HB.out).mono ?_
  rintro e w2 ⟨p2, rfl, hp2, hz2, hb2⟩
  have HZ2 := Lib.hid hz2
  have HI2 := Lib.hid (HI1.out.below hb2 HI1.out.lt)
  have HZ1' := Lib.hid (HZ1.out.below hb2)
  clear hz2
  go_wp2_with fail
  refine (bigSub_any w.heap.size p1 p2 a b _ HI2.out HZ1'.out HZ2.out (small_pw (by have := HA.out; omega)) (small_pw (by have := HB.out; omega))).mono ?_
  rintro e w3 ⟨rfl, hz3, hg3⟩
  have HZ3 := Lib.hid hz3
  have HB3 := Lib.hid (below_grown (onward (onward ((Below.refl w.heap.size w).alloc (Nat.le_refl _) (.cells #[.bool false, .slice none 0 0] 84)) (Nat.le_refl _) hb1) (Nat.le_refl _) hb2) (Nat.le_refl _) hg3 (fun g e => by injection e with e; omega))
  clear hz3 hg3
  go_wp2_with fail
  refine (stop_any w.heap.size (a + -b) _ HZ3.out (small_pw (by have := HA.out; have := HB.out; omega))).mono ?_
  rintro e w4 ⟨rfl, rfl⟩
  rw [show a + -b = a - b by omega]
  generalize hss : stop (a - b) = s
  have HSS := Lib.hid hss
  clear hss
  go_wp2_with fail
  go_ret2
  exact ⟨by rw [HSS.out]; rfl, HB3.out⟩

end Go.Proofs.Ytejefecglioifaa.BigW
