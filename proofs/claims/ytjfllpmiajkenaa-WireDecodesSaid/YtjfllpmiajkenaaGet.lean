/- Contract: wire.get: the number of bytes, the highest first. -/
import Derived.Test.YtjfllpmiajkenaaDecF
namespace Go.Proofs.Ytjfllpmiajkenaa.Ms
open Go.ChangeShapes Go.WideShapes Go.ChangeAt Go.RowKit Go.Proofs.Ytjfllpmiajkenaa.Mem
set_option linter.unusedVariables false

set_option maxHeartbeats 1000000 in
theorem get_any (bs : List Nat) (hbs : ∀ x ∈ bs, x < 256) (o n : Nat) (b q c : Nat) (w : World) (hn : n ≤ 140737488351232) (hr : ∀ j, j < n → w.cell? ⟨b, q + j, none⟩ = some (.int .u8 (bAt bs (o + j) : Nat))) :
    Calls Try.prog 61 #[.slice (some ⟨b, q, none⟩) n c] w fun e w' => e = .returned (.int .i64 (i64N (valB bs o n))) ∧ w = w' := by
  have HR := Lib.hid hr
  have HS := Lib.hid hbs
  clear hr hbs
  go_enter Try.func61, Try.ntmps61
  go_wp2_with fail
  go_loop [3, 8] (fun v i => ∃ k : Nat, k ≤ n ∧ i = .int .i64 k ∧ v = .int .i64 (i64N (valB bs o k))) (fun _ i => n - (intOf i).toNat)
  case atStart => exact ⟨0, by omega, rfl, rfl⟩
  case round =>
    obtain ⟨k, hk, rfl, rfl⟩ := hrel
    by_cases hlt : k < n
    · have hc := HR.out k hlt
      have hl0 : (0 : Int) ≤ (k : Int) := by omega
      have hl1 : (k : Int) < (n : Int) := by omega
      have HV := Lib.hid (show valB bs o (k + 1) = valB bs o k * 256 + bAt bs (o + k) from rfl)
      have HB := Lib.hid (bAt_lt HS.out (o + k))
      generalize bAt bs (o + k) = y at *
      have hy : y < 256 := HB.out
      generalize valB bs o k = V at *
      have HO := Lib.hid (i64_shl_or V y hy)
      obtain ⟨p, hp⟩ : ∃ p, IntKind.i64.wrap (i64N V * 256) = p := ⟨_, rfl⟩
      rw [hp] at HO
      obtain ⟨u, hu⟩ : ∃ u, bits .or .i64 p (y : Int) = u := ⟨_, rfl⟩
      rw [hu] at HO
      go_wp2_with fail
      exact ⟨⟨k + 1, by omega, by go_num, by rw [HV.out, HO.out]⟩, by simp [intOf]; omega⟩
    · obtain rfl : k = n := by omega
      clear hlt
      go_wp2_with fail
      go_ret
      exact ⟨rfl, rfl⟩
end Go.Proofs.Ytjfllpmiajkenaa.Ms
