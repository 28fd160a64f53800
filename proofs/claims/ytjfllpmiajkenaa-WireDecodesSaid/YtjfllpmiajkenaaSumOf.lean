/- Contracts: sum.Sum and the reference's Sum. -/
import Derived.Test.YtjfllpmiajkenaaSumRef
namespace Go.Proofs.Ytjfllpmiajkenaa.Sm
open Go.ChangeShapes Go.WideShapes Go.ChangeAt Go.RowKit Go.Proofs.Ytjfllpmiajkenaa.Mem Go.Proofs.Ytjfllpmiajkenaa.SumLaw
set_option linter.unusedVariables false

theorem sum_any (A : Option Addr) (c : Nat) (bs : List Nat) (B : Nat) (w : World) (hB : B ≤ w.heap.size) (hl : bs.length ≤ 9223372036854775807) (hbs : ∀ x ∈ bs, x < 256) (hr : Rd w B 1 A bs.length (bytesV bs)) :
    Calls Try.prog 89 #[.slice A bs.length c] w fun e w' => e = .returned (.int .i64 (more 0 bs)) ∧ Below w.heap.size w w' := by
  have HR := Lib.hid hr
  have HS := Lib.hid hbs
  clear hr hbs
  go_enter Try.func89, Try.ntmps89
  go_wp2_with fail
  refine (more_any 0 A c bs B _ hB (by omega) hl HS.out HR.out).mono ?_
  rintro e w1 ⟨rfl, hb⟩
  generalize hm : more 0 bs = m
  have HM := Lib.hid hm
  clear hm
  go_wp2_with fail
  go_ret
  exact ⟨by rw [HM.out]; rfl, hb⟩

theorem refsum_any (A : Option Addr) (c : Nat) (bs : List Nat) (B : Nat) (w : World) (hB : B ≤ w.heap.size) (hl : bs.length ≤ 9223372036854775807) (hbs : ∀ x ∈ bs, x < 256) (hr : Rd w B 1 A bs.length (bytesV bs)) :
    Calls Try.prog 102 #[.slice A bs.length c] w fun e w' => e = .returned (.int .i64 (more 0 bs)) ∧ Below w.heap.size w w' := by
  have HR := Lib.hid hr
  have HS := Lib.hid hbs
  clear hr hbs
  go_enter Try.func102, Try.ntmps102
  go_wp2_with fail
  refine (refmore_any 0 A c bs B _ hB (by omega) hl HS.out HR.out).mono ?_
  rintro e w1 ⟨rfl, hb⟩
  generalize hm : more 0 bs = m
  have HM := Lib.hid hm
  clear hm
  go_wp2_with fail
  go_ret
  exact ⟨by rw [HM.out]; rfl, hb⟩

theorem rd_alloc (w : World) (C : Array Value) (e : TypeId) (fr : Nat × Nat) : Rd (w.alloc (.cells C e fr)) (w.heap.size + 1) 1 (some ⟨w.heap.size, 0, none⟩) C.size C.toList := by
  have h : (w.alloc (.cells C e fr)).heap[w.heap.size]? = some (.cells C e fr) := by
    show (w.heap.push _)[w.heap.size]? = _; simp
  refine ⟨by simp, fun _ => ⟨w.heap.size, 0, rfl, by omega, fun j u hu => ?_⟩⟩
  rw [Nat.zero_add]
  simp only [World.cell?, h]
  simpa using hu
end Go.Proofs.Ytjfllpmiajkenaa.Sm
