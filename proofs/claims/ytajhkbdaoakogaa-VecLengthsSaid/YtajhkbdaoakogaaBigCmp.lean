/- Contract: Cmp of numbers that aren't below 0. -/
import Derived.Test.YtajhkbdaoakogaaBigBit
import Derived.Test.YtajhkbdaoakogaaRegR
namespace Go.Proofs.Ytajhkbdaoakogaa.BigW
open Go.RowKit Go.Proofs.Ytajhkbdaoakogaa.Mem Go.Proofs.Ytajhkbdaoakogaa.BigLaw
set_option linter.unusedVariables false
set_option linter.unusedSimpArgs false

set_option maxRecDepth 100000 in
set_option maxHeartbeats 1000000 in
theorem bigCmp_any (px py X Y : Nat) (w : World) (hx : BigAt w px (X : Int)) (hy : BigAt w py (Y : Int)) :
    Calls Try.prog 108 #[.pointer (some ⟨px, 0, none⟩), .pointer (some ⟨py, 0, none⟩)] w fun e w' => e = .returned (.int .i64 (sgn X Y)) ∧ Below w.heap.size w w' := by
  obtain ⟨A, c, l, x0, x1, xw, xt, xv⟩ := hx.parts
  obtain ⟨A', c', l', y0, y1, yw, yt, yv⟩ := hy.parts
  rw [decide_eq_false (by omega)] at x0 y0
  rw [Int.natAbs_natCast] at xv yv
  have HXW := Lib.hid xw
  have HYW := Lib.hid yw
  have HXT := Lib.hid xt
  have HYT := Lib.hid yt
  have HXV := Lib.hid xv
  have HYV := Lib.hid yv
  have HPX := Lib.hid hx.lt
  have HPY := Lib.hid hy.lt
  clear hx hy xw yw xt yt xv yv
  go_enter Try.func108, Try.ntmps108
  go_upto_region 1 with fail
  have HB := Lib.hid (show Below w.heap.size w w.drew from (Below.refl _ _).drew)
  have HC := Lib.hid (And.intro x0 (And.intro y0 (And.intro x1 y1)))
  have HXW := Lib.hid (HXW.out.below HB.out)
  have HYW := Lib.hid (HYW.out.below HB.out)
  have HS := And.intro ((below_cell HB.out px 0 HPX.out).trans x0) ((below_cell HB.out py 0 HPY.out).trans y0)
  clear x0 y0 x1 y1
  refine wp_region_noPanic ?_
  refine Rg.beginR [3, 7] (fun w' => w'.cell? ⟨px, 0, none⟩ = some (.bool false) ∧ w'.cell? ⟨py, 0, none⟩ = some (.bool false)) (by kernel_rfl) ?_
  generalize w.drew = w1 at *
  refine Rg.takeP (i := 0) (oi := { dst := some 6, op := Op.move (Operand.tmp 0), type := 86, pos := "int.go:373", after := #[], guard := none }) (v := ?_) rfl (by kernel_rfl) (fun _ _ _ h => h) (by rfl) ?_ ?_
  rotate_left 1
  · (intro w; go_simp; (try with_reducible rfl))
  try simp only [Act.put, List.setIfInBounds_toArray, List.set_cons_zero, List.set_cons_succ]
  refine Rg.takeP (i := 1) (oi := { dst := some 7, op := Op.nilCheck (Operand.tmp 6), type := 0, pos := "int.go:373", after := #[{ on := 0, ground := Ground.data }], guard := none }) (v := ?_) rfl (by kernel_rfl) (fun _ _ _ h => h) (by rfl) ?_ ?_
  rotate_left 1
  · (intro w; go_simp; (try with_reducible rfl))
  try simp only [Act.put, List.setIfInBounds_toArray, List.set_cons_zero, List.set_cons_succ]
  refine Rg.takeP (i := 2) (oi := { dst := some 8, op := Op.fieldAddr 89 (Operand.tmp 7) 0, type := 0, pos := "int.go:373", after := #[{ on := 1, ground := Ground.data }], guard := none }) (v := ?_) rfl (by kernel_rfl) (fun _ _ _ h => h) (by rfl) ?_ ?_
  rotate_left 1
  · (intro w; go_simp; (try with_reducible rfl))
  try simp only [Act.put, List.setIfInBounds_toArray, List.set_cons_zero, List.set_cons_succ]
  refine Rg.takeS (i := 3) (oi := { dst := some 9, op := Op.load 4 (Operand.tmp 8), type := 4, pos := "int.go:373", after := #[{ on := 2, ground := Ground.data }], guard := none }) (v := ?_) rfl (by kernel_rfl) (fun _ _ _ h => h) (by rfl) HS ?_ ?_
  rotate_left 1
  · (intro w hSw; (try dsimp only at hSw); (try go_split_ands); go_simp; (try with_reducible rfl))
  try simp only [Act.put, List.setIfInBounds_toArray, List.set_cons_zero, List.set_cons_succ]
  refine Rg.takeP (i := 4) (oi := { dst := some 10, op := Op.move (Operand.tmp 1), type := 86, pos := "int.go:373", after := #[], guard := none }) (v := ?_) rfl (by kernel_rfl) (fun _ _ _ h => h) (by rfl) ?_ ?_
  rotate_left 1
  · (intro w; go_simp; (try with_reducible rfl))
  try simp only [Act.put, List.setIfInBounds_toArray, List.set_cons_zero, List.set_cons_succ]
  refine Rg.takeP (i := 5) (oi := { dst := some 11, op := Op.nilCheck (Operand.tmp 10), type := 0, pos := "int.go:373", after := #[{ on := 4, ground := Ground.data }], guard := none }) (v := ?_) rfl (by kernel_rfl) (fun _ _ _ h => h) (by rfl) ?_ ?_
  rotate_left 1
  · (intro w; go_simp; (try with_reducible rfl))
  try simp only [Act.put, List.setIfInBounds_toArray, List.set_cons_zero, List.set_cons_succ]
  refine Rg.takeP (i := 6) (oi := { dst := some 12, op := Op.fieldAddr 89 (Operand.tmp 11) 0, type := 0, pos := "int.go:373", after := #[{ on := 5, ground := Ground.data }], guard := none }) (v := ?_) rfl (by kernel_rfl) (fun _ _ _ h => h) (by rfl) ?_ ?_
  rotate_left 1
  · (intro w; go_simp; (try with_reducible rfl))
  try simp only [Act.put, List.setIfInBounds_toArray, List.set_cons_zero, List.set_cons_succ]
  refine Rg.takeS (i := 7) (oi := { dst := some 13, op := Op.load 4 (Operand.tmp 12), type := 4, pos := "int.go:373", after := #[{ on := 6, ground := Ground.data }], guard := none }) (v := ?_) rfl (by kernel_rfl) (fun _ _ _ h => h) (by rfl) HS ?_ ?_
  rotate_left 1
  · (intro w hSw; (try dsimp only at hSw); (try go_split_ands); go_simp; (try with_reducible rfl))
  try simp only [Act.put, List.setIfInBounds_toArray, List.set_cons_zero, List.set_cons_succ]
  refine Rg.takeP (i := 8) (oi := { dst := some 14, op := Op.binOp BinOp.neq 4 (Operand.tmp 9) (Operand.tmp 13) 4, type := 4, pos := "int.go:373", after := #[{ on := 3, ground := Ground.data }, { on := 7, ground := Ground.data }], guard := none }) (v := ?_) rfl (by kernel_rfl) (fun _ _ _ h => h) (by rfl) ?_ ?_
  rotate_left 1
  · (intro w; go_simp; (try with_reducible rfl))
  try simp only [Act.put, List.setIfInBounds_toArray, List.set_cons_zero, List.set_cons_succ]
  refine Rg.doneR (by kernel_rfl) ?_ _
  refine NoPanic.normal ?_
  clear HS
  go_upto_region 5 with fail
  have HB := Lib.hid HB.out.drew
  have HXW := Lib.hid HXW.out.drew
  have HYW := Lib.hid HYW.out.drew
  have HS := And.intro ((below_cell HB.out px 1 HPX.out).trans HC.out.2.2.1) ((below_cell HB.out py 1 HPY.out).trans HC.out.2.2.2)
  refine wp_region_noPanic ?_
  refine Rg.beginR [3, 7] (fun w' => w'.cell? ⟨px, 1, none⟩ = some (.slice A l.length c) ∧ w'.cell? ⟨py, 1, none⟩ = some (.slice A' l'.length c')) (by kernel_rfl) ?_
  generalize w1.drew = w1 at *
  refine Rg.takeP (i := 0) (oi := { dst := some 19, op := Op.move (Operand.tmp 0), type := 86, pos := "int.go:379", after := #[], guard := none }) (v := ?_) rfl (by kernel_rfl) (fun _ _ _ h => h) (by rfl) ?_ ?_
  rotate_left 1
  · (intro w; go_simp; (try with_reducible rfl))
  try simp only [Act.put, List.setIfInBounds_toArray, List.set_cons_zero, List.set_cons_succ]
  refine Rg.takeP (i := 1) (oi := { dst := some 20, op := Op.nilCheck (Operand.tmp 19), type := 0, pos := "int.go:379", after := #[{ on := 0, ground := Ground.data }], guard := none }) (v := ?_) rfl (by kernel_rfl) (fun _ _ _ h => h) (by rfl) ?_ ?_
  rotate_left 1
  · (intro w; go_simp; (try with_reducible rfl))
  try simp only [Act.put, List.setIfInBounds_toArray, List.set_cons_zero, List.set_cons_succ]
  refine Rg.takeP (i := 2) (oi := { dst := some 21, op := Op.fieldAddr 89 (Operand.tmp 20) 1, type := 0, pos := "int.go:379", after := #[{ on := 1, ground := Ground.data }], guard := none }) (v := ?_) rfl (by kernel_rfl) (fun _ _ _ h => h) (by rfl) ?_ ?_
  rotate_left 1
  · (intro w; go_simp; (try with_reducible rfl))
  try simp only [Act.put, List.setIfInBounds_toArray, List.set_cons_zero, List.set_cons_succ]
  refine Rg.takeS (i := 3) (oi := { dst := some 22, op := Op.load 87 (Operand.tmp 21), type := 87, pos := "int.go:379", after := #[{ on := 2, ground := Ground.data }], guard := none }) (v := ?_) rfl (by kernel_rfl) (fun _ _ _ h => h) (by rfl) HS ?_ ?_
  rotate_left 1
  · (intro w hSw; (try dsimp only at hSw); (try go_split_ands); go_simp; (try with_reducible rfl))
  try simp only [Act.put, List.setIfInBounds_toArray, List.set_cons_zero, List.set_cons_succ]
  refine Rg.takeP (i := 4) (oi := { dst := some 23, op := Op.move (Operand.tmp 1), type := 86, pos := "int.go:379", after := #[], guard := none }) (v := ?_) rfl (by kernel_rfl) (fun _ _ _ h => h) (by rfl) ?_ ?_
  rotate_left 1
  · (intro w; go_simp; (try with_reducible rfl))
  try simp only [Act.put, List.setIfInBounds_toArray, List.set_cons_zero, List.set_cons_succ]
  refine Rg.takeP (i := 5) (oi := { dst := some 24, op := Op.nilCheck (Operand.tmp 23), type := 0, pos := "int.go:379", after := #[{ on := 4, ground := Ground.data }], guard := none }) (v := ?_) rfl (by kernel_rfl) (fun _ _ _ h => h) (by rfl) ?_ ?_
  rotate_left 1
  · (intro w; go_simp; (try with_reducible rfl))
  try simp only [Act.put, List.setIfInBounds_toArray, List.set_cons_zero, List.set_cons_succ]
  refine Rg.takeP (i := 6) (oi := { dst := some 25, op := Op.fieldAddr 89 (Operand.tmp 24) 1, type := 0, pos := "int.go:379", after := #[{ on := 5, ground := Ground.data }], guard := none }) (v := ?_) rfl (by kernel_rfl) (fun _ _ _ h => h) (by rfl) ?_ ?_
  rotate_left 1
  · (intro w; go_simp; (try with_reducible rfl))
  try simp only [Act.put, List.setIfInBounds_toArray, List.set_cons_zero, List.set_cons_succ]
  refine Rg.takeS (i := 7) (oi := { dst := some 26, op := Op.load 87 (Operand.tmp 25), type := 87, pos := "int.go:379", after := #[{ on := 6, ground := Ground.data }], guard := none }) (v := ?_) rfl (by kernel_rfl) (fun _ _ _ h => h) (by rfl) HS ?_ ?_
  rotate_left 1
  · (intro w hSw; (try dsimp only at hSw); (try go_split_ands); go_simp; (try with_reducible rfl))
  try simp only [Act.put, List.setIfInBounds_toArray, List.set_cons_zero, List.set_cons_succ]
  refine Rg.oneR (i := 8) (oi := { dst := some 27, op := Op.call { callee := Callee.value (Operand.func 136), args := #[Operand.tmp 22, Operand.tmp 26], argTypes := #[87, 87] }, type := 3, pos := "int.go:379", after := #[{ on := 3, ground := Ground.data }, { on := 7, ground := Ground.data }], guard := none }) rfl (by kernel_rfl) ?_
  refine Rg.stepF ?_ ?_
  · kernel_rfl
  intro K hK
  rw [if_pos (by rfl)]
  go_simp
  go_at_call 136
  refine (cmp_any A A' c c' l l' w.heap.size _ HB.out.size HXW.out HYW.out HXT.out HYT.out).mono ?_
  rintro e w1 ⟨rfl, hb⟩
  rw [HXV.out, HYV.out]
  have HB := Lib.hid (onward HB.out (Nat.le_refl _) hb)
  clear hb HS
  have HS := And.intro ((below_cell HB.out px 1 HPX.out).trans HC.out.2.2.1) ((below_cell HB.out py 1 HPY.out).trans HC.out.2.2.2)
  go_wp2_with fail
  refine hK.out _ _ ?_
  clear hK K
  try simp only [Act.put, List.setIfInBounds_toArray, List.set_cons_zero, List.set_cons_succ]
  refine Rg.takeP (i := 9) (oi := { dst := some 5, op := Op.assign (Operand.tmp 27), type := 3, pos := "int.go:379", after := #[{ on := 8, ground := Ground.data }, { on := 8, ground := Ground.chain }, { on := 0, ground := Ground.phase }, { on := 1, ground := Ground.phase }, { on := 2, ground := Ground.phase }, { on := 3, ground := Ground.phase }, { on := 4, ground := Ground.phase }, { on := 5, ground := Ground.phase }, { on := 6, ground := Ground.phase }, { on := 7, ground := Ground.phase }, { on := 8, ground := Ground.phase }], guard := none }) (v := ?_) rfl (by kernel_rfl) (fun _ _ _ h => h) (by rfl) ?_ ?_
  rotate_left 1
  · (intro w; go_simp; (try with_reducible rfl))
  try simp only [Act.put, List.setIfInBounds_toArray, List.set_cons_zero, List.set_cons_succ]
  refine Rg.doneR (by kernel_rfl) ?_ _
  refine NoPanic.normal ?_
  clear HS
  have x0 := (below_cell HB.out px 0 HPX.out).trans HC.out.1
  go_wp2_with fail
  go_ret
  exact ⟨rfl, HB.out⟩
end Go.Proofs.Ytajhkbdaoakogaa.BigW
