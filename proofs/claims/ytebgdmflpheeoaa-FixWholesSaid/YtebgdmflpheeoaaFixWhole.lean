/- Contracts of Of and Floor of fix, and of the reference's. -/
import Derived.Test.YtebgdmflpheeoaaBigDiv
import Derived.Test.YtebgdmflpheeoaaFixAdd
namespace Go.Proofs.Ytebgdmflpheeoaa.BigW
open Go.RowKit Go.Proofs.Ytebgdmflpheeoaa.Mem Go.Proofs.Ytebgdmflpheeoaa.BigLaw
set_option linter.unusedVariables false

theorem fixOf_any (n : Int) (w : World) (hn : -9223372036854775808 ≤ n ∧ n ≤ 9223372036854775807) :
    Calls Try.prog 21 #[.int .i64 n] w fun e w' => e = .returned (.tuple #[.int .i64 (stop (n * 4294967296)).1, .bool (stop (n * 4294967296)).2]) ∧ w' = w := by
  obtain ⟨hn0, hn1⟩ := hn
  by_cases h1 : 2147483648 ≤ n
  · have HS := Lib.hid (stop_hi (X := n * 4294967296) (by omega))
    go_enter Try.func21, Try.ntmps21
    go_wp2_with fail
    go_ret2
    exact ⟨by rw [HS.out]; rfl, rfl⟩
  · by_cases h2 : n < -2147483648
    · have HS := Lib.hid (stop_lo (X := n * 4294967296) (by omega))
      go_enter Try.func21, Try.ntmps21
      go_wp2_with fail
      go_ret2
      exact ⟨by rw [HS.out]; rfl, rfl⟩
    · have HS := Lib.hid (stop_in (X := n * 4294967296) (s := n * 4294967296) (by omega) (by omega) rfl)
      go_enter Try.func21, Try.ntmps21
      go_wp2_with fail
      go_ret2
      exact ⟨by rw [HS.out]; rfl, rfl⟩

theorem fixFloor_any (n : Int) (w : World) (hn : -9223372036854775808 ≤ n ∧ n ≤ 9223372036854775807) :
    Calls Try.prog 23 #[.int .i64 n] w fun e w' => e = .returned (.int .i64 (n / 4294967296)) ∧ w' = w := by
  obtain ⟨hn0, hn1⟩ := hn
  go_enter Try.func23, Try.ntmps23
  go_wp2_with fail
  go_ret
  exact ⟨rfl, rfl⟩

theorem refOf_any (n : Int) (w : World) (hn : -9223372036854775808 ≤ n ∧ n ≤ 9223372036854775807) :
    Calls Try.prog 22 #[.int .i64 n] w fun e w' => e = .returned (.tuple #[.int .i64 (stop (n * 4294967296)).1, .bool (stop (n * 4294967296)).2]) ∧ Below w.heap.size w w' := by
  have HN := Lib.hid hn
  have HI := Lib.hid (isInt_new w)
  clear hn
  go_enter Try.func22, Try.ntmps22
  go_wp2_with fail
  refine (whole_any n _ HN.out).mono ?_
  rintro e w1 ⟨p1, rfl, hp1, hz1, hb1⟩
  have HZ1 := Lib.hid hz1
  clear hz1
  go_wp2_with fail
  refine (bigLsh_any w.heap.size p1 n 32 1 0 _ (HI.out.below hb1 HI.out.lt) HZ1.out (pw_small (by have := HN.out; omega)) rfl (by omega) (by omega)).mono ?_
  rintro e w2 ⟨rfl, hz2, hg2⟩
  have HZ2 := Lib.hid (show BigAt w2 w.heap.size (n * 4294967296) from hz2)
  have HB2 := Lib.hid (below_grown (onward ((Below.refl w.heap.size w).alloc (Nat.le_refl _) (.cells #[.bool false, .slice none 0 0] 87)) (Nat.le_refl _) hb1) (Nat.le_refl _) hg2 (fun g e => by injection e with e; omega))
  clear hz2 hg2
  go_wp2_with fail
  refine (stop_any w.heap.size (n * 4294967296) _ HZ2.out (pw_small (by have := HN.out; omega))).mono ?_
  rintro e w3 ⟨rfl, rfl⟩
  generalize hss : stop (n * 4294967296) = s
  have HSS := Lib.hid hss
  clear hss
  go_wp2_with fail
  go_ret2
  exact ⟨by rw [HSS.out]; rfl, HB2.out⟩

theorem refFloor_any (n : Int) (w : World) (hn : -9223372036854775808 ≤ n ∧ n ≤ 9223372036854775807) :
    Calls Try.prog 24 #[.int .i64 n] w fun e w' => e = .returned (.int .i64 (n / 4294967296)) ∧ Below w.heap.size w w' := by
  have HN := Lib.hid hn
  clear hn
  go_enter Try.func24, Try.ntmps24
  go_wp2_with fail
  refine (whole_any n _ HN.out).mono ?_
  rintro e w1 ⟨p1, rfl, hp1, hz1, hb1⟩
  have HZ1 := Lib.hid hz1
  clear hz1
  go_wp2_with fail
  refine (power_any 32 1 0 _ rfl (by omega) (by omega)).mono ?_
  rintro e w2 ⟨p2, rfl, hp2, hz2, hb2⟩
  have HZ2 := Lib.hid (show BigAt w2 p2 4294967296 from hz2)
  have HZ1' := Lib.hid (HZ1.out.below hb2)
  clear hz2
  go_wp2_with fail
  refine (down_any p1 p2 n 4294967296 _ HZ1'.out HZ2.out (by have := HN.out; omega) (by omega) (pw_small (by omega))).mono ?_
  rintro e w3 ⟨p3, rfl, hp3, hz3, hb3⟩
  have HZ3 := Lib.hid hz3
  clear hz3
  go_wp2_with fail
  refine (bigInt64_any p3 (n / 4294967296) _ HZ3.out (by have := HN.out; omega)).mono ?_
  rintro e w4 ⟨rfl, rfl⟩
  go_wp2_with fail
  go_ret
  exact ⟨rfl, onward (onward hb1 (Nat.le_refl _) hb2) (Nat.le_refl _) hb3⟩
end Go.Proofs.Ytebgdmflpheeoaa.BigW
