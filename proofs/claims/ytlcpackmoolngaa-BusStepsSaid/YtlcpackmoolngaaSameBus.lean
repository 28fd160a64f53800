/- Contract: the reference's SameBus. -/
import Derived.Test.YtlcpackmoolngaaSameB
namespace Go.Proofs.Ytlcpackmoolngaa.Bu
open Go.ChangeShapes Go.WideShapes Go.ChangeAt Go.RowKit Go.Proofs.Ytlcpackmoolngaa.Mem Go.Proofs.Ytlcpackmoolngaa.Op Go.Proofs.Ytlcpackmoolngaa.Sm Go.Proofs.Ytlcpackmoolngaa.Nd Go.Proofs.Ytlcpackmoolngaa.Rws
set_option linter.unusedVariables false
set_option linter.unusedSimpArgs false

set_option maxRecDepth 100000 in
set_option maxHeartbeats 4000000 in
theorem sameBus_any (now ser : Int) (A A' : Option Addr) (c c' : Nat) (qs : List Parc) (B : Nat) (w : World) (hB : B ≤ w.heap.size) (hl : qs.length ≤ 140737488355328) (hr : ParcsAt w B A qs) (hr' : ParcsAt w B A' qs) :
    Calls Try.prog 14 #[.agg #[.int .i64 now, .int .i64 ser, .slice A qs.length c], .agg #[.int .i64 now, .int .i64 ser, .slice A' qs.length c']] w fun e w' => e = .returned (.bool true) ∧ Below w.heap.size w w' := by
  have D1 := Lib.hid (show Blk ((w.alloc (.cells #[.int .i64 now, .int .i64 ser, .slice A qs.length c] 24)).alloc (.cells #[.int .i64 now, .int .i64 ser, .slice A' qs.length c'] 24)) w.heap.size 24 #[.int .i64 now, .int .i64 ser, .slice A qs.length c] from (Blk.new rfl).alloc _)
  have D2 := Lib.hid (show Blk ((w.alloc (.cells #[.int .i64 now, .int .i64 ser, .slice A qs.length c] 24)).alloc (.cells #[.int .i64 now, .int .i64 ser, .slice A' qs.length c'] 24)) (w.heap.size + 1) 24 #[.int .i64 now, .int .i64 ser, .slice A' qs.length c'] from Blk.new (by simp))
  have HB := Lib.hid (((Below.refl w.heap.size w).alloc (Nat.le_refl _) (.cells #[.int .i64 now, .int .i64 ser, .slice A qs.length c] 24)).alloc (by simp) (.cells #[.int .i64 now, .int .i64 ser, .slice A' qs.length c'] 24))
  have HR := Lib.hid hr
  have HR' := Lib.hid hr'
  have he1 : (now == now) = true := by simp
  have he2 : (ser == ser) = true := by simp
  clear hr hr'
  go_enter Try.func14, Try.ntmps14
  go_upto_region 1 with fail
  generalize ((w.alloc (.cells #[.int .i64 now, .int .i64 ser, .slice A qs.length c] 24)).alloc (.cells #[.int .i64 now, .int .i64 ser, .slice A' qs.length c'] 24)) = W at *
  have u0 := D1.out.cell 0
  have u1 := D1.out.cell 1
  have u2 := D1.out.cell 2
  have v0 := D2.out.cell 0
  have v1 := D2.out.cell 1
  have v2 := D2.out.cell 2
  simp only [List.getElem?_toArray, List.getElem?_cons_zero, List.getElem?_cons_succ] at u0 u1 u2 v0 v1 v2
  refine wp_region_list ?_
  iterate 17
    refine wpList_wanted (by rfl) (fun K hK => ?_)
    go_simp
    try simp only [he1, he2]
    refine hK _ _ ?_
    clear hK K
    try simp only [Act.put, List.setIfInBounds_toArray, List.set_cons_zero, List.set_cons_succ]
  refine wpList_wanted (by rfl) (fun K hK => ?_)
  go_simp
  go_at_call 17
  refine (sameParcels_any A A' c c' qs B W (Nat.le_trans hB HB.out.size) hl (HR.out.below (HB.out.mono hB)) (HR'.out.below (HB.out.mono hB))).mono ?_
  rintro e w5 ⟨rfl, hb⟩
  have HB5 := Lib.hid (onward HB.out (Nat.le_refl _) hb)
  clear hb
  go_wp2_with fail
  go_ret
  exact ⟨rfl, HB5.out⟩
end Go.Proofs.Ytlcpackmoolngaa.Bu
