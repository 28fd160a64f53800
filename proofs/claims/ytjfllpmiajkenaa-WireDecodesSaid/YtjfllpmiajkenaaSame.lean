/- Contract: the reference's SameInts at two lists that are alike. -/
import Derived.Test.YtjfllpmiajkenaaMsg
import Derived.Deep.QuietTactic
import Derived.BigQuiet
namespace Go.Proofs.Ytjfllpmiajkenaa.Ms
open Go.ChangeShapes Go.WideShapes Go.ChangeAt Go.RowKit Go.Proofs.Ytjfllpmiajkenaa.Mem
set_option linter.unusedVariables false

set_option maxHeartbeats 1000000 in
theorem sameInts_any (A A' : Option Addr) (c c' : Nat) (zs : List Int) (B : Nat) (w : World) (hl : zs.length ≤ 140737488355328) (hr : Rd w B 1 A zs.length (intsV zs)) (hr' : Rd w B 1 A' zs.length (intsV zs)) :
    Calls Try.prog 56 #[.slice A zs.length c, .slice A' zs.length c'] w fun e w' => e = .returned (.bool true) ∧ Below w.heap.size w w' := by
  have HR := Lib.hid hr
  have HR' := Lib.hid hr'
  clear hr hr'
  go_enter Try.func56, Try.ntmps56
  go_wp2_with fail
  go_loopw [13] (fun i wr => ∃ k q : Nat, k ≤ zs.length ∧ i = .int .i64 k ∧ wr = w.drewN q) (fun i _ => zs.length - (intOf i).toNat)
  case atStart => exact ⟨0, 0, by omega, rfl, rfl⟩
  case round =>
    obtain ⟨k, q, hk, rfl, rfl⟩ := hrel
    by_cases hlt : k < zs.length
    · obtain ⟨b, o, u, rfl, hbB, hu, hcell⟩ := HR.out.at hlt
      obtain ⟨b', o', u', rfl, hbB', hu', hcell'⟩ := HR'.out.at hlt
      rw [intsV_at zs k hlt] at hu hu'
      obtain rfl := Option.some.inj hu
      obtain rfl := Option.some.inj hu'
      generalize zs[k] = z at *
      clear hu hu'
      have hl0 : (0 : Int) ≤ (k : Int) := by omega
      have hl1 : (k : Int) < (zs.length : Int) := by omega
      have hcell : (w.drewN q).cell? ⟨b, o + k, none⟩ = some (.int .i64 z) := hcell
      have hcell' : (w.drewN q).cell? ⟨b', o' + k, none⟩ = some (.int .i64 z) := hcell'
      go_wp2_with fail
      go_quiet (fail)
      go_wp2_with fail
      exact ⟨⟨k + 1, q + nq, by omega, by go_num, rfl⟩, by simp [intOf]; omega⟩
    · obtain rfl : k = zs.length := by omega
      clear hlt
      go_wp2_with fail
      go_ret
      exact ⟨rfl, below_drewN (Below.refl _ _) _⟩
end Go.Proofs.Ytjfllpmiajkenaa.Ms
