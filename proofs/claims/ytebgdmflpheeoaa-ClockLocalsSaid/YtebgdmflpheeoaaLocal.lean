/- Contracts: clock.floor, clock.Local and the reference's Local. -/
import Derived.Test.YtebgdmflpheeoaaSpread
import Derived.Test.YtebgdmflpheeoaaBigDiv
namespace Go.Proofs.Ytebgdmflpheeoaa.Clk
open Go.RowKit Go.Proofs.Ytebgdmflpheeoaa.Mem Go.Proofs.Ytebgdmflpheeoaa.BigLaw Go.Proofs.Ytebgdmflpheeoaa.BigW
set_option linter.unusedVariables false

/-- P7.1 -/
def badClock (o r t : Int) : Prop := o < -1073741824 ∨ 1073741824 < o ∨ r < -500 ∨ 500 < r ∨ t < 0 ∨ 1099511627776 < t
instance (o r t : Int) : Decidable (badClock o r t) := by unfold badClock; infer_instance
def locale (o r t : Int) : Int × Int := if badClock o r t then (0, 3) else (t + o + t * r / 1000000, 0)

theorem floor_any (n d : Int) (w : World) (hn : -9223372036854775807 ≤ n ∧ n ≤ 9223372036854775807) (hd : 0 < d ∧ d ≤ 9223372036854775807) :
    Calls Try.prog 57 #[.int .i64 n, .int .i64 d] w fun e w' => e = .returned (.int .i64 (n / d)) ∧ w' = w := by
  obtain ⟨hn0, hn1⟩ := hn
  obtain ⟨hd0, hd1⟩ := hd
  have HE := Lib.hid (euclid n d hd0)
  have hq0 := tdiv_between n d (by omega)
  have hw := wrap_i64_tdiv n d (by omega) (by omega) (by omega)
  have hq1 : -9223372036854775807 ≤ n.tdiv d ∧ n.tdiv d ≤ 9223372036854775807 := by
    rcases Int.lt_or_le n 0 with h | h
    · have := hq0.2 (by omega); omega
    · have := hq0.1 (by omega); omega
  obtain ⟨hq2, hq3⟩ := hq1
  have hd2 : ¬ d = 0 := by omega
  clear hq0
  by_cases hr : n.tmod d < 0
  · have HR := Lib.hid (HE.out.1 hr).1
    have hlim := Lib.hid (show n / d = n.tdiv d - 1 from (HE.out.1 hr).1)
    have hlo : -9223372036854775807 ≤ n.tdiv d := hq2
    go_enter Try.func57, Try.ntmps57
    go_wp2_with fail
    go_ret
    exact ⟨by rw [HR.out]; rfl, rfl⟩
  · have HR := Lib.hid (HE.out.2 (by omega)).1
    go_enter Try.func57, Try.ntmps57
    go_wp2_with fail
    go_ret
    exact ⟨by rw [HR.out]; rfl, rfl⟩
theorem _root_.Go.Proofs.Ytebgdmflpheeoaa.BigW.BigAt.drewN {w : World} {p : Nat} {z : Int} (h : BigAt w p z) (n : Nat) : BigAt (w.drewN n) p z := by
  obtain ⟨A, c, l, h1, h2, h3⟩ := h
  exact ⟨A, c, l, h1.drewN n, ⟨h2.len, h2.cap, h2.none_, h2.rd.drewN n, h2.small⟩, h3⟩

theorem seven (o r t : Int) : (badClock o r t ∧ (o < -1073741824 ∨ (-1073741824 ≤ o ∧ 1073741824 < o) ∨ (-1073741824 ≤ o ∧ o ≤ 1073741824 ∧ r < -500) ∨ (-1073741824 ≤ o ∧ o ≤ 1073741824 ∧ -500 ≤ r ∧ 500 < r) ∨ (-1073741824 ≤ o ∧ o ≤ 1073741824 ∧ -500 ≤ r ∧ r ≤ 500 ∧ t < 0) ∨ (-1073741824 ≤ o ∧ o ≤ 1073741824 ∧ -500 ≤ r ∧ r ≤ 500 ∧ 0 ≤ t ∧ 1099511627776 < t))) ∨
    (¬ badClock o r t ∧ -1073741824 ≤ o ∧ o ≤ 1073741824 ∧ -500 ≤ r ∧ r ≤ 500 ∧ 0 ≤ t ∧ t ≤ 1099511627776) := by unfold badClock; omega
theorem local_bad {o r t : Int} (h : badClock o r t) : locale o r t = (0, 3) := by unfold locale; rw [if_pos h]
theorem local_good {o r t : Int} (h : ¬ badClock o r t) : locale o r t = (t + o + t * r / 1000000, 0) := by unfold locale; rw [if_neg h]
theorem prod_bound {r t : Int} (h1 : -500 ≤ r) (h2 : r ≤ 500) (h3 : 0 ≤ t) (h4 : t ≤ 1099511627776) : -549755813888000 ≤ t * r ∧ t * r ≤ 549755813888000 := by
  have a1 : t * r ≤ t * 500 := Int.mul_le_mul_of_nonneg_left h2 h3
  have a2 : t * (-500) ≤ t * r := Int.mul_le_mul_of_nonneg_left h1 h3
  omega

theorem local_any (o r t : Int) (w : World) :
    Calls Try.prog 25 #[.agg #[.int .i64 o, .int .i64 r], .int .i64 t] w fun e w' => e = .returned (.tuple #[.int .i64 (locale o r t).1, .int .i64 (locale o r t).2]) ∧ Below w.heap.size w w' := by
  rcases seven o r t with ⟨hb, h⟩ | ⟨hb, h1, h2, h3, h4, h5, h6⟩
  · have HR := Lib.hid (local_bad hb)
    clear hb
    rcases h with h | ⟨h1, h⟩ | ⟨h1, h2, h⟩ | ⟨h1, h2, h3, h⟩ | ⟨h1, h2, h3, h4, h⟩ | ⟨h1, h2, h3, h4, h5, h⟩
    all_goals
      go_enter Try.func25, Try.ntmps25
      go_wp2_with (go_at_call 56; refine (part_any _ _ _ (by omega) (by omega)).mono ?_; rintro e w' ⟨rfl, rfl⟩)
      go_ret2
      exact ⟨by rw [HR.out]; rfl, (Below.refl _ _).alloc (Nat.le_refl _) _⟩
  · have HR := Lib.hid (local_good hb)
    obtain ⟨p1, p2⟩ := prod_bound h3 h4 h5 h6
    have q1 : -549755814 ≤ t * r / 1000000 := by omega
    have q2 : t * r / 1000000 ≤ 549755814 := by omega
    clear hb
    go_enter Try.func25, Try.ntmps25
    go_wp2_with (go_at_call 56; refine (part_any _ _ _ (by omega) (by omega)).mono ?_; rintro e w' ⟨rfl, rfl⟩)
    go_quiet (first | (go_at_call 57; exact Calls.quiet_of_same (floor_any (t * r) 1000000 _ (by omega) (by omega))))
    go_wp2_with fail
    go_ret2
    exact ⟨by rw [HR.out]; rfl, below_drewN ((Below.refl _ _).alloc (Nat.le_refl _) _) _⟩

theorem reflocal_any (o r t : Int) (w : World) :
    Calls Try.prog 26 #[.agg #[.int .i64 o, .int .i64 r], .int .i64 t] w fun e w' => e = .returned (.tuple #[.int .i64 (locale o r t).1, .int .i64 (locale o r t).2]) ∧ Below w.heap.size w w' := by
  rcases seven o r t with ⟨hb, h⟩ | ⟨hb, h1, h2, h3, h4, h5, h6⟩
  · have HR := Lib.hid (local_bad hb)
    clear hb
    rcases h with h | ⟨h1, h⟩ | ⟨h1, h2, h⟩ | ⟨h1, h2, h3, h⟩ | ⟨h1, h2, h3, h4, h⟩ | ⟨h1, h2, h3, h4, h5, h⟩
    all_goals
      go_enter Try.func26, Try.ntmps26
      go_wp2_with fail
      go_ret2
      exact ⟨by rw [HR.out]; rfl, (Below.refl _ _).alloc (Nat.le_refl _) _⟩
  · have HR := Lib.hid (local_good hb)
    obtain ⟨p1, p2⟩ := prod_bound h3 h4 h5 h6
    have q1 : -549755814 ≤ t * r / 1000000 := by omega
    have q2 : t * r / 1000000 ≤ 549755814 := by omega
    clear hb
    go_enter Try.func26, Try.ntmps26
    go_wp2_with fail
    refine (whole_any (t * r) _ (by omega)).mono ?_
    rintro e w1 ⟨p1, rfl, hp1, hz1, hb1⟩
    have HZ1 := Lib.hid hz1
    have hk1 := below_cell hb1
    clear hz1
    go_wp2_with fail
    refine (whole_any 1000000 _ (by omega)).mono ?_
    rintro e w2 ⟨p2, rfl, hp2, hz2, hb2⟩
    have HZ2 := Lib.hid hz2
    have HZ1' := Lib.hid (HZ1.out.below hb2)
    have hk2 := below_cell hb2
    clear hz2
    go_wp2_with fail
    refine (down_any p1 p2 (t * r) 1000000 _ HZ1'.out HZ2.out (by omega) (by omega) (pw_small (by omega))).mono ?_
    rintro e w3 ⟨p3, rfl, hp3, hz3, hb3⟩
    have HZ3 := Lib.hid hz3
    have hk3 := below_cell hb3
    have hs1 := hb1.size
    have hs2 := hb2.size
    have hs3 := hb3.size
    have c3 : w3.cell? ⟨w.heap.size, 0, none⟩ = some (.int .i64 o) := by
      rw [hk3 _ _ (by have := hb1.size; have := hb2.size; simp at *; omega), hk2 _ _ (by have := hb1.size; simp at *; omega), hk1 _ _ (by simp), (Blk.fresh w 37 #[.int .i64 o, .int .i64 r]).cell]
      rfl
    clear hz3
    go_wp2_with fail
    go_quiet (first | (go_at_call 55; exact Calls.quiet_of_same (bigInt64_any p3 (t * r / 1000000) _ (HZ3.out.drewN _) (by omega))))
    go_wp2_with fail
    go_ret2
    exact ⟨by rw [HR.out]; rfl, below_drewN (onward (onward (onward ((Below.refl _ _).alloc (Nat.le_refl _) _) (Nat.le_refl _) hb1) (Nat.le_refl _) hb2) (Nat.le_refl _) hb3) _⟩
end Go.Proofs.Ytebgdmflpheeoaa.Clk
