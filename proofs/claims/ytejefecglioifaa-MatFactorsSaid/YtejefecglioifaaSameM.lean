/- Contract: sameMat. -/
import Derived.Test.YtejefecglioifaaWork
import Derived.Test.YtejefecglioifaaSameI
namespace Go.Proofs.Ytejefecglioifaa.BigW
open Go.RowKit Go.Proofs.Ytejefecglioifaa.Mem Go.Proofs.Ytejefecglioifaa.BigLaw Go.Proofs.Ytejefecglioifaa.Rws Go.Proofs.Ytejefecglioifaa.Ints Go.Proofs.Ytejefecglioifaa.Mats
set_option linter.unusedVariables false
set_option linter.unusedSimpArgs false

set_option maxRecDepth 100000 in
set_option maxHeartbeats 1000000 in
theorem sameMat_any (N : Int) (A A' : Option Addr) (c c' : Nat) (l : List Int) (w : World) (hl : l.length ≤ 140737488355328) (hr : Rd w w.heap.size 1 A l.length (intsV l)) (hr' : Rd w w.heap.size 1 A' l.length (intsV l)) :
    Calls Try.prog 12 #[.agg #[.int .i64 N, .slice A l.length c], .agg #[.int .i64 N, .slice A' l.length c']] w fun e w' => e = .returned (.bool true) ∧ Below w.heap.size w w' := by
  have HB := Lib.hid (show Below w.heap.size w ((w.alloc (.cells #[.int .i64 N, .slice A l.length c] 24)).alloc (.cells #[.int .i64 N, .slice A' l.length c'] 24)) from ((Below.refl _ _).alloc (Nat.le_refl _) _).alloc (by simp) _)
  have h0 : Blk ((w.alloc (.cells #[.int .i64 N, .slice A l.length c] 24)).alloc (.cells #[.int .i64 N, .slice A' l.length c'] 24)) w.heap.size 24 #[.int .i64 N, .slice A l.length c] := (Blk.new rfl).alloc _
  have h1 : Blk ((w.alloc (.cells #[.int .i64 N, .slice A l.length c] 24)).alloc (.cells #[.int .i64 N, .slice A' l.length c'] 24)) (w.heap.size + 1) 24 #[.int .i64 N, .slice A' l.length c'] := Blk.new (by simp)
  have HR := Lib.hid (hr.below HB.out)
  have HR' := Lib.hid (hr'.below HB.out)
  have HL := Lib.hid hl
  clear hr hr' hl
  go_enter Try.func12, Try.ntmps12
  go_upto_region 1 with fail
  generalize ((w.alloc (.cells #[.int .i64 N, .slice A l.length c] 24)).alloc (.cells #[.int .i64 N, .slice A' l.length c'] 24)) = w1 at *
  have c0 : w1.cell? ⟨w.heap.size, 0, none⟩ = some (.int .i64 N) := (h0.cell 0).trans rfl
  have c1 : w1.cell? ⟨w.heap.size, 1, none⟩ = some (.slice A l.length c) := (h0.cell 1).trans rfl
  have c2 : w1.cell? ⟨w.heap.size + 1, 0, none⟩ = some (.int .i64 N) := (h1.cell 0).trans rfl
  have c3 : w1.cell? ⟨w.heap.size + 1, 1, none⟩ = some (.slice A' l.length c') := (h1.cell 1).trans rfl
  clear h0 h1
  go_wp2_with fail
  refine (sameInts_any A A' c c' l w.heap.size w1 HL.out HR.out HR'.out).mono ?_
  rintro e w2 ⟨rfl, hb⟩
  have HB := Lib.hid (onward HB.out (Nat.le_refl _) hb)
  clear hb
  go_wp2_with fail
  go_ret
  exact ⟨rfl, HB.out⟩
end Go.Proofs.Ytejefecglioifaa.BigW

