/- Contract: the reference's Sqrt. -/
import Derived.Test.YtajhkbdaoakogaaBigRoot
namespace Go.Proofs.Ytajhkbdaoakogaa.BigW
open Go.RowKit Go.Proofs.Ytajhkbdaoakogaa.Mem Go.Proofs.Ytajhkbdaoakogaa.BigLaw
set_option linter.unusedVariables false
set_option linter.unusedSimpArgs false

set_option maxRecDepth 100000 in
set_option maxHeartbeats 1000000 in
theorem refSqrt_any (a : Int) (w : World) (h : In64 a) :
    Calls Try.prog 33 #[.int .i64 a] w fun e w' => e = .returned (.tuple #[.int .i64 (froot a).1, .bool (froot a).2]) ∧ Below w.heap.size w w' := by
  obtain ⟨ha1, ha2⟩ := h
  by_cases ha : a < 0
  · have HF := Lib.hid (show froot a = (0, true) from if_pos ha)
    go_enter Try.func33, Try.ntmps33
    go_wp2_with fail
    go_ret2
    exact ⟨by rw [HF.out]; rfl, Below.refl _ _⟩
  · obtain ⟨A, rfl⟩ := Int.eq_ofNat_of_zero_le (Int.not_lt.1 ha)
    have HF := Lib.hid (show froot (A : Int) = (((rootOf (A * 4294967296) : Nat) : Int), false) from by unfold froot; rw [if_neg ha]; rfl)
    have HA := Lib.hid (show A < 9223372036854775808 by omega)
    have ha0 : ¬ (A : Int) < 0 := ha
    clear ha1 ha2
    have HBL := Lib.hid (show Below w.heap.size w ((w.alloc (.cells #[.bool false, .slice none 0 0] 89)).alloc (.cells #[.bool false, .slice none 0 0] 89)) from ((Below.refl _ _).alloc (Nat.le_refl _) _).alloc (by simp) _)
    have HI := Lib.hid ((isInt_new w).below ((Below.refl _ _).alloc (Nat.le_refl _) (.cells #[.bool false, .slice none 0 0] 89)) (isInt_new w).lt)
    have HJ := Lib.hid (isInt_new (w.alloc (.cells #[.bool false, .slice none 0 0] 89)))
    rw [show (w.alloc (.cells #[.bool false, .slice none 0 0] 89)).heap.size = w.heap.size + 1 by simp] at HJ
    go_enter Try.func33, Try.ntmps33
    go_wp2_with fail
    generalize ((w.alloc (.cells #[.bool false, .slice none 0 0] 89)).alloc (.cells #[.bool false, .slice none 0 0] 89)) = w0 at *
    obtain ⟨y, hy⟩ : ∃ y, w.heap.size + 1 = y := ⟨_, rfl⟩
    rw [hy] at HJ ⊢
    refine (whole_any (A : Int) _ (by have := HA.out; omega)).mono ?_
    rintro e w1 ⟨p1, rfl, hp1, hz1, hb1⟩
    have HZ1 := Lib.hid hz1
    have HI := Lib.hid (HI.out.below hb1 HI.out.lt)
    have hp1y : y < p1 := by have := HJ.out.lt; omega
    have HJ := Lib.hid (HJ.out.below hb1 HJ.out.lt)
    have HBL := Lib.hid (onward HBL.out (Nat.le_refl _) hb1)
    clear hz1 hb1 hp1
    go_wp2_with fail
    refine (bigLsh_any y p1 (A : Int) 32 1 0 w1 HJ.out HZ1.out (by rw [Int.natAbs_natCast]; exact Nat.lt_of_lt_of_le HA.out (show 9223372036854775808 ≤ pw 100 by decide +kernel)) rfl (by omega) (by omega)).mono ?_
    rintro e w2 ⟨rfl, hz2, hg2⟩
    rw [show (2 : Int) ^ 32 = 4294967296 by decide +kernel, show (A : Int) * 4294967296 = ((A * 4294967296 : Nat) : Int) by omega] at hz2
    have HZ2 := Lib.hid hz2
    have HI := Lib.hid (HI.out.grown hg2 (fun e => by injection e with e; omega))
    have HBL := Lib.hid (below_grown HBL.out (Nat.le_refl _) hg2 (fun g e => by injection e with e; omega))
    have hN := HA.out
    have HN := Lib.hid (show A * 4294967296 < 2 ^ 96 by omega)
    have HN2 := Lib.hid (show A * 4294967296 < 2 ^ (2 * 48) by omega)
    clear hz2 hg2 hN
    obtain ⟨N, hNN⟩ : ∃ N, A * 4294967296 = N := ⟨_, rfl⟩
    rw [hNN] at HZ2 HN HF HN2
    clear hNN
    go_wp2_with fail
    refine (bigSqrt_any w.heap.size y N w2 HI.out HZ2.out HN.out).mono ?_
    rintro e w3 ⟨rfl, hz3, hg3⟩
    have HZ3 := Lib.hid hz3
    have HBL := Lib.hid (below_grown HBL.out (Nat.le_refl _) hg3 (fun g e => by injection e with e; omega))
    clear hz3 hg3
    have HRL := Lib.hid (show rootOf N < 2 ^ 48 from rootAt_lt (rootGo_at 48 0 (rootAt_zero (k := 48) HN2.out)) HN2.out)
    generalize rootOf N = r at HZ3 HF HRL ⊢
    go_wp2_with fail
    refine (bigInt64_any w.heap.size (r : Int) w3 HZ3.out (by have h := HRL.out; rw [show 2 ^ 48 = 281474976710656 from rfl] at h; omega)).mono ?_
    rintro e w4 ⟨rfl, rfl⟩
    go_wp2_with fail
    go_ret2
    exact ⟨by rw [HF.out]; rfl, HBL.out⟩
end Go.Proofs.Ytajhkbdaoakogaa.BigW
