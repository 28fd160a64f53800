/- Contract: clock.part; an array of four integers, told by a function: its index. -/
import Derived.Test.YtjfllpmiajkenaaOpen
import Derived.Test.YtjfllpmiajkenaaMem
namespace Go.Proofs.Ytjfllpmiajkenaa.Rd4
open Go.RowKit Go.Proofs.Ytjfllpmiajkenaa.Mem
set_option linter.unusedVariables false

theorem part_any (n m : Int) (w : World) (h0 : 0 ≤ m) (h1 : m ≤ 4398046511104) :
    Calls Try.prog 74 #[.int .i64 n, .int .i64 m] w fun e w' => e = .returned (.bool (decide (-m ≤ n) && decide (n ≤ m))) ∧ w = w' := by
  by_cases h2 : -m ≤ n
  · have hg := Lib.hid (show (decide (-m ≤ n) && decide (n ≤ m)) = decide (n ≤ m) from by simp [h2])
    go_enter Try.func74, Try.ntmps74
    go_wp2
    go_ret
    exact ⟨by rw [hg.out]; rfl, rfl⟩
  · have hg := Lib.hid (show (decide (-m ≤ n) && decide (n ≤ m)) = false from by simp [h2])
    go_enter Try.func74, Try.ntmps74
    go_wp2
    go_ret
    exact ⟨by rw [hg.out]; rfl, rfl⟩

theorem run_index4 (f : Nat → Int) (k : Nat) (hk : k < 4) (w : World) : (Instr.index 28 (.agg (rowF .i64 4 f)) (.int .i64 (k : Int))).run Try.prog w = .ok (.int .i64 (f k)) w := by
  show (Instr.index 28 (.agg #[.int .i64 (f 0), .int .i64 (f 1), .int .i64 (f 2), .int .i64 (f 3)]) (.int .i64 (k : Int))).run Try.prog w = .ok (.int .i64 (f k)) w
  obtain rfl | rfl | rfl | rfl : k = 0 ∨ k = 1 ∨ k = 2 ∨ k = 3 := by omega
  all_goals kernel_rfl
theorem row4 (f : Nat → Int) : rowF .i64 4 f = #[.int .i64 (f 0), .int .i64 (f 1), .int .i64 (f 2), .int .i64 (f 3)] := rfl
theorem row4_one (f : Nat → Int) : (rowF .i64 4 f).all (·.oneCell') = true := by rw [row4]; simp [Value.oneCell']
end Go.Proofs.Ytjfllpmiajkenaa.Rd4
