/- Contracts: what is wrong with a message (right, the reference's MessageWrong). -/
import Derived.Test.YtjfllpmiajkenaaMsg
namespace Go.Proofs.Ytjfllpmiajkenaa.Ms
open Go.ChangeShapes Go.WideShapes Go.ChangeAt Go.RowKit Go.Proofs.Ytjfllpmiajkenaa.Mem
set_option linter.unusedVariables false

set_option maxHeartbeats 1000000 in
theorem right_any (k f n : Int) (A : Option Addr) (l c : Nat) (w : World) (hl : l ≤ 140737488355328) :
    Calls Try.prog 63 #[msgV k f n A l c] w fun e w' => e = .returned (.int .i64 (wrong k f n l)) ∧ Below w.heap.size w w' := by
  unfold msgV
  go_enter Try.func63, Try.ntmps63
  go_wp2_with fail
  all_goals
    go_ret
    refine ⟨ret_int ?_, (Below.refl _ _).alloc (Nat.le_refl _) _⟩
    unfold wrong
    (repeat' split) <;> omega

set_option maxHeartbeats 1000000 in
theorem refwrong_any (k f n : Int) (A : Option Addr) (l c : Nat) (w : World) (hl : l ≤ 140737488355328) :
    Calls Try.prog 65 #[msgV k f n A l c] w fun e w' => e = .returned (.int .i64 (wrong k f n l)) ∧ Below w.heap.size w w' := by
  unfold msgV
  go_enter Try.func65, Try.ntmps65
  go_wp2_with fail
  all_goals
    go_ret
    refine ⟨ret_int ?_, (Below.refl _ _).alloc (Nat.le_refl _) _⟩
    unfold wrong
    (repeat' split) <;> omega

end Go.Proofs.Ytjfllpmiajkenaa.Ms
