/- cmp.Compare and cmp.Or at ints; the comparison of bus.Step. -/
import Derived.Test.YtlcpackmoolngaaStabAny
import Derived.Test.YtlcpackmoolngaaStabE
import Derived.Test.YtlcpackmoolngaaParcs
namespace Go.Proofs.Ytlcpackmoolngaa.Ss
open Go.Shelf Go.RowKit Go.Lib Go.Sort Go.Proofs.Ytlcpackmoolngaa.Stb
set_option linter.unusedVariables false
set_option linter.unusedSimpArgs false

theorem isNaN_any (x : Int) (w : World) : Calls Try.prog 55 #[.int .i64 x] w fun e w' => e = .returned (.bool false) ∧ w' = w := by
  go_enter Try.func55, Try.ntmps55
  go_wp2_with fail
  go_ret
  exact ⟨by simp, rfl⟩

def cmpI (x y : Int) : Int := if x < y then -1 else if y < x then 1 else 0

set_option maxRecDepth 100000 in
theorem compare_any (x y : Int) (w : World) : Calls Try.prog 31 #[.int .i64 x, .int .i64 y] w fun e w' => e = .returned (.int .i64 (cmpI x y)) ∧ w' = w := by
  go_enter Try.func31, Try.ntmps31
  unfold cmpI
  by_cases h1 : x < y
  · have h2 : ¬ y < x := by omega
    go_wp2_with fail
    refine (isNaN_any _ _).mono ?_
    rintro e w' ⟨rfl, rfl⟩
    go_wp2_with fail
    refine (isNaN_any _ _).mono ?_
    rintro e w' ⟨rfl, rfl⟩
    go_wp2_with fail
    go_ret
    exact ⟨by simp [h1], rfl⟩
  · by_cases h2 : y < x
    · go_wp2_with fail
      refine (isNaN_any _ _).mono ?_
      rintro e w' ⟨rfl, rfl⟩
      go_wp2_with fail
      refine (isNaN_any _ _).mono ?_
      rintro e w' ⟨rfl, rfl⟩
      go_wp2_with fail
      go_ret
      exact ⟨by simp [h1, h2], rfl⟩
    · go_wp2_with fail
      refine (isNaN_any _ _).mono ?_
      rintro e w' ⟨rfl, rfl⟩
      go_wp2_with fail
      refine (isNaN_any _ _).mono ?_
      rintro e w' ⟨rfl, rfl⟩
      go_wp2_with fail
      go_ret
      exact ⟨by simp [h1, h2], rfl⟩

set_option maxRecDepth 100000 in
theorem or_any (B : Nat) (a b : Int) (w : World) (h0 : w.cell? ⟨B, 0, none⟩ = some (.int .i64 a)) (h1 : w.cell? ⟨B, 1, none⟩ = some (.int .i64 b)) : Calls Try.prog 30 #[.slice (some ⟨B, 0, none⟩) 2 2] w fun e w' => e = .returned (.int .i64 (if a = 0 then b else a)) ∧ w' = w := by
  go_enter Try.func30, Try.ntmps30
  go_wp2_with fail
  go_loopw [5, 8] (fun _ i wr => wr = w ∧ ∃ k : Nat, k ≤ 2 ∧ i = .int .i64 k ∧ (1 ≤ k → a = 0) ∧ (k = 2 → b = 0)) (fun _ i _ => 2 - (intOf i).toNat)
  case atStart => exact ⟨rfl, 0, by omega, rfl, fun h => absurd h (by omega), fun h => absurd h (by omega)⟩
  case round =>
    obtain ⟨rfl, k, hk, rfl, ha, hb⟩ := hrel
    by_cases c0 : k = 0
    · subst c0
      by_cases ca : a = 0
      · go_wp2_with fail
        exact ⟨⟨by first | trivial | rfl, 1, by omega, by go_num, fun _ => ca, fun h => absurd h (by omega)⟩, by simp [intOf]⟩
      · go_wp2_with fail
        go_ret
        exact ⟨by simp [ca], rfl⟩
    · by_cases c1 : k = 1
      · subst c1
        by_cases cb : b = 0
        · go_wp2_with fail
          exact ⟨⟨by first | trivial | rfl, 2, by omega, by go_num, fun _ => ha (by omega), fun _ => cb⟩, by simp [intOf]⟩
        · go_wp2_with fail
          go_ret
          exact ⟨by simp [ha (by omega)], rfl⟩
      · obtain rfl : k = 2 := by omega
        go_wp2_with fail
        go_ret
        exact ⟨by simp [ha (by omega), hb (by first | trivial | rfl)], rfl⟩
end Go.Proofs.Ytlcpackmoolngaa.Ss
