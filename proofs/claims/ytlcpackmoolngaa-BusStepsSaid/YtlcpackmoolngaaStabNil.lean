/- slices.SortStableFunc at an empty slice. -/
import Derived.Test.YtlcpackmoolngaaStabTwo
namespace Go.Proofs.Ytlcpackmoolngaa.Ss
open Go.Shelf Go.RowKit Go.Lib Go.Sort Go.Proofs.Ytlcpackmoolngaa.Stb Go.Proofs.Ytlcpackmoolngaa.Bu
set_option linter.unusedVariables false
set_option maxRecDepth 100000

theorem ins_nil (fv : Value) (w : World) : Calls Try.prog 77 #[.slice none 0 0, .int .i64 0, .int .i64 0, fv] w fun e w' => e = .returned (.tuple #[]) ∧ w' = w := by
  go_enter Try.func77, Try.ntmps77
  go_wp2_with fail
  go_loopw [8] (fun i wr => i = .int .i64 1 ∧ wr = w) (fun _ _ => 0)
  case atStart => exact ⟨rfl, rfl⟩
  case round =>
    obtain ⟨rfl, hw⟩ := hrel
    have hw := hw.symm
    subst hw
    go_wp2_with fail
    go_end0
    exact ⟨rfl, rfl⟩

theorem stab_nil (fv : Value) (w : World) : Calls Try.prog 54 #[.slice none 0 0, .int .i64 0, fv] w fun e w' => e = .returned (.tuple #[]) ∧ w' = w := by
  go_enter Try.func54, Try.ntmps54
  go_wp2_with fail
  go_loopw [7, 8] (fun a b wr => a = .int .i64 0 ∧ b = .int .i64 20 ∧ wr = w) (fun _ _ _ => 0)
  case atStart => exact ⟨rfl, rfl, rfl⟩
  case round =>
    obtain ⟨rfl, rfl, hw⟩ := hrel
    have hw := hw.symm
    subst hw
    go_wp2_with fail
    refine (ins_nil _ _).mono ?_
    rintro e w2 ⟨rfl, hw⟩
    have hw := hw.symm
    subst hw
    go_wp2_with fail
    go_loopw [6, 7, 8, 9] (fun s _ _ _ wr => s = .int .i64 20 ∧ wr = w) (fun _ _ _ _ _ => 0)
    case atStart => exact ⟨rfl, rfl⟩
    case round =>
      obtain ⟨rfl, hw⟩ := hrel
      have hw := hw.symm
      subst hw
      go_wp2_with fail
      go_end0
      exact ⟨rfl, rfl⟩

theorem sort_nil (fv : Value) (w : World) : Calls Try.prog 28 #[.slice none 0 0, fv] w fun e w' => e = .returned (.tuple #[]) ∧ w' = w := by
  go_enter Try.func28, Try.ntmps28
  go_wp2_with fail
  refine (stab_nil _ _).mono ?_
  rintro e w2 ⟨rfl, hw⟩
  have hw := hw.symm
  subst hw
  go_wp2_with fail
  go_end0
  exact ⟨rfl, rfl⟩
end Go.Proofs.Ytlcpackmoolngaa.Ss
