/- Contract: the reference's SameCluster at a cluster at first and itself. -/
import Derived.Test.YtfaielkkecphbaaCluster
namespace Go.Proofs.Ytfaielkkecphbaa.Nd
open Go.RowKit Go.Proofs.Ytfaielkkecphbaa.Mem Go.Proofs.Ytfaielkkecphbaa.Rws Go.Proofs.Ytfaielkkecphbaa.Flat
set_option linter.unusedVariables false
set_option linter.unusedSimpArgs false

theorem exec_load_mid {P : Program} {op : Oper} {a : Act} {w : World} (ty : TypeId) (x : Operand) (ho : op.op = .load ty x)
    (b off m : Nat) (hx : a.eval x = .pointer (some ⟨b, off, none⟩)) (g : Nat → Value) (d : TypeDesc) (hc : w.rangeAt b off ((List.range m).map g))
    (hu : P.underlying ty = some d) (hd : d.isRow = true) (hi : (P.info? ty).map (·.size) = some m) : (execOp a.eval op).run P w = .ok (.value (.agg (row m g))) w := by
  unfold execOp
  simp only [ho, hx, Instr.loadAt, Instr.sureAddr, Sem.run_bind, Sem.run_pure, Result.andThen_ok, run_loadVar_mid w b off ty _ d hc hu hd (by rw [hi]; simp)]
  rfl

/-- the cells of computer k -/
theorem clu_range {w : World} {b : Nat} {t0 t1 t2 t3 : Int} {k : Nat} (hk : k < 4) (h : Blk w b 89 (row 297 (cluK t0 t1 t2 t3 4))) : w.rangeAt b (1 + k * 74) ((List.range 74).map (nodeK (k : Int) t0 t1 t2 t3 3)) := by
  have h1 := row_range h (1 + k * 74) 74 (by omega)
  rw [List.map_congr_left (g := nodeK (k : Int) t0 t1 t2 t3 3) (fun j hj => ?_)] at h1
  · exact h1
  · have hj' := List.mem_range.1 hj
    have e1 : (1 + k * 74 + j - 1) / 74 = k := by omega
    have e2 : (1 + k * 74 + j - 1) % 74 = j := by omega
    unfold cluK
    rw [if_neg (by omega), e1, e2, if_pos hk]

set_option maxRecDepth 100000 in
set_option maxHeartbeats 1000000 in
theorem sameCluster_any (t0 t1 t2 t3 : Int) (w : World) (cS : ∀ (k : Nat) (w : World), Calls Try.prog 66 #[.agg (row 74 (nodeK (k : Int) t0 t1 t2 t3 3)), .agg (row 74 (nodeK (k : Int) t0 t1 t2 t3 3))] w fun e w' => e = .returned (.bool true) ∧ Below w.heap.size w w') :
    Calls Try.prog 58 #[.agg (row 297 (cluK t0 t1 t2 t3 4)), .agg (row 297 (cluK t0 t1 t2 t3 4))] w fun e w' => e = .returned (.bool true) ∧ Below w.heap.size w w' := by
  go_enter Try.func58, Try.ntmps58
  go_wp2_with fail
  have D1 : Hid (Blk ((w.alloc (.cells (row 297 (cluK t0 t1 t2 t3 4)) 89)).alloc (.cells (row 297 (cluK t0 t1 t2 t3 4)) 89)) w.heap.size 89 (row 297 (cluK t0 t1 t2 t3 4))) := Lib.hid ((Blk.new rfl).alloc _)
  have D2 : Hid (Blk ((w.alloc (.cells (row 297 (cluK t0 t1 t2 t3 4)) 89)).alloc (.cells (row 297 (cluK t0 t1 t2 t3 4)) 89)) (w.heap.size + 1) 89 (row 297 (cluK t0 t1 t2 t3 4))) := Lib.hid (Blk.new (by simp))
  have HB := Lib.hid (((Below.refl w.heap.size w).alloc (Nat.le_refl _) (.cells (row 297 (cluK t0 t1 t2 t3 4)) 89)).alloc (by simp) (.cells (row 297 (cluK t0 t1 t2 t3 4)) 89))
  generalize ((w.alloc (.cells (row 297 (cluK t0 t1 t2 t3 4)) 89)).alloc (.cells (row 297 (cluK t0 t1 t2 t3 4)) 89)) = W at *
  go_loopw [6] (fun i wr => ∃ k : Nat, k ≤ 4 ∧ i = .int .i64 k ∧ Blk wr w.heap.size 89 (row 297 (cluK t0 t1 t2 t3 4)) ∧ Blk wr (w.heap.size + 1) 89 (row 297 (cluK t0 t1 t2 t3 4)) ∧ Below w.heap.size w wr) (fun i _ => 4 - (intOf i).toNat)
  case atStart => exact ⟨0, by omega, rfl, D1.out, D2.out, HB.out⟩
  case round =>
    clear D1 D2 HB
    obtain ⟨k, hk, rfl, d1, d2, hb⟩ := hrel
    have D1 := Lib.hid d1
    have D2 := Lib.hid d2
    have HB := Lib.hid hb
    by_cases hlt : k < 4
    · clear d1 d2 hb
      go_wp2_with fail
      have HS : Blk wr.drew w.heap.size 89 (row 297 (cluK t0 t1 t2 t3 4)) ∧ Blk wr.drew (w.heap.size + 1) 89 (row 297 (cluK t0 t1 t2 t3 4)) := ⟨D1.out.drew, D2.out.drew⟩
      refine wp_region_noPanic ?_
      refine Rg.beginR [3, 7] (fun w' => Blk w' w.heap.size 89 (row 297 (cluK t0 t1 t2 t3 4)) ∧ Blk w' (w.heap.size + 1) 89 (row 297 (cluK t0 t1 t2 t3 4))) (by kernel_rfl) ?_
      refine Rg.takeP (i := 0) (oi := { dst := some 9, op := Op.move (Operand.tmp 5), type := 3, pos := "node.go:238", after := #[], guard := none }) (v := ?_) rfl (by kernel_rfl) (fun _ _ _ h => h) (by rfl) ?_ ?_
      rotate_left 1
      · (intro w; go_simp; (try with_reducible rfl))
      try simp only [Act.put, List.setIfInBounds_toArray, List.set_cons_zero, List.set_cons_succ]
      refine Rg.takeP (i := 1) (oi := { dst := some 10, op := Op.fieldAddr 89 (Operand.tmp 2) 1, type := 0, pos := "node.go:238", after := #[], guard := none }) (v := ?_) rfl (by kernel_rfl) (fun _ _ _ h => h) (by rfl) ?_ ?_
      rotate_left 1
      · (intro w; go_simp; (try with_reducible rfl))
      try simp only [Act.put, List.setIfInBounds_toArray, List.set_cons_zero, List.set_cons_succ]
      refine Rg.takeP (i := 2) (oi := { dst := some 11, op := Op.indexAddr 87 (Operand.tmp 10) (Operand.tmp 9), type := 0, pos := "node.go:238", after := #[{ on := 1, ground := Ground.data }, { on := 0, ground := Ground.data }], guard := none }) (v := ?_) rfl (by kernel_rfl) (fun _ _ _ h => h) (by rfl) ?_ ?_
      rotate_left 1
      · (intro w; go_simp; (try with_reducible rfl))
      try simp only [Act.put, List.setIfInBounds_toArray, List.set_cons_zero, List.set_cons_succ]
      refine Rg.takeS (i := 3) (oi := { dst := some 12, op := Op.load 86 (Operand.tmp 11), type := 86, pos := "node.go:238", after := #[{ on := 2, ground := Ground.data }], guard := none }) (v := .agg (row 74 (nodeK (k : Int) t0 t1 t2 t3 3))) rfl (by kernel_rfl) (fun _ _ _ h => h) (by rfl) HS ?_ ?_
      · (intro w' hSw; exact exec_load_mid 86 _ rfl _ (1 + k * 74) 74 rfl _ _ (clu_range hlt hSw.1) Try.underlying86 rfl (by kernel_rfl))
      try simp only [Act.put, List.setIfInBounds_toArray, List.set_cons_zero, List.set_cons_succ]
      refine Rg.takeP (i := 4) (oi := { dst := some 13, op := Op.move (Operand.tmp 5), type := 3, pos := "node.go:238", after := #[], guard := none }) (v := ?_) rfl (by kernel_rfl) (fun _ _ _ h => h) (by rfl) ?_ ?_
      rotate_left 1
      · (intro w; go_simp; (try with_reducible rfl))
      try simp only [Act.put, List.setIfInBounds_toArray, List.set_cons_zero, List.set_cons_succ]
      refine Rg.takeP (i := 5) (oi := { dst := some 14, op := Op.fieldAddr 89 (Operand.tmp 3) 1, type := 0, pos := "node.go:238", after := #[], guard := none }) (v := ?_) rfl (by kernel_rfl) (fun _ _ _ h => h) (by rfl) ?_ ?_
      rotate_left 1
      · (intro w; go_simp; (try with_reducible rfl))
      try simp only [Act.put, List.setIfInBounds_toArray, List.set_cons_zero, List.set_cons_succ]
      refine Rg.takeP (i := 6) (oi := { dst := some 15, op := Op.indexAddr 87 (Operand.tmp 14) (Operand.tmp 13), type := 0, pos := "node.go:238", after := #[{ on := 5, ground := Ground.data }, { on := 4, ground := Ground.data }], guard := none }) (v := ?_) rfl (by kernel_rfl) (fun _ _ _ h => h) (by rfl) ?_ ?_
      rotate_left 1
      · (intro w; go_simp; (try with_reducible rfl))
      try simp only [Act.put, List.setIfInBounds_toArray, List.set_cons_zero, List.set_cons_succ]
      refine Rg.takeS (i := 7) (oi := { dst := some 16, op := Op.load 86 (Operand.tmp 15), type := 86, pos := "node.go:238", after := #[{ on := 6, ground := Ground.data }], guard := none }) (v := .agg (row 74 (nodeK (k : Int) t0 t1 t2 t3 3))) rfl (by kernel_rfl) (fun _ _ _ h => h) (by rfl) HS ?_ ?_
      · (intro w' hSw; exact exec_load_mid 86 _ rfl _ (1 + k * 74) 74 rfl _ _ (clu_range hlt hSw.2) Try.underlying86 rfl (by kernel_rfl))
      try simp only [Act.put, List.setIfInBounds_toArray, List.set_cons_zero, List.set_cons_succ]
      refine Rg.oneR (i := 8) (oi := { dst := some 17, op := Op.call { callee := Callee.value (Operand.func 66), args := #[Operand.tmp 12, Operand.tmp 16], argTypes := #[86, 86] }, type := 4, pos := "node.go:238", after := #[{ on := 3, ground := Ground.data }, { on := 7, ground := Ground.data }], guard := none }) rfl (by kernel_rfl) ?_
      refine Rg.stepF ?_ ?_
      · kernel_rfl
      intro K hK
      go_simp
      go_at_call 66
      refine (cS k _).mono ?_
      rintro e w1 ⟨rfl, hb1⟩
      have E1 := Lib.hid (D1.out.drew.below hb1 D1.out.lt)
      have E2 := Lib.hid (D2.out.drew.below hb1 D2.out.lt)
      have HB1 := Lib.hid (onward HB.out.drew (Nat.le_refl _) hb1)
      clear hb1
      go_wp2_with fail
      refine hK.out _ _ ?_
      clear hK K
      try simp only [Act.put, List.setIfInBounds_toArray, List.set_cons_zero, List.set_cons_succ]
      refine Rg.takeP (i := 9) (oi := { dst := some 18, op := Op.unOp UnOp.not 4 (Operand.tmp 17), type := 4, pos := "node.go:238", after := #[{ on := 8, ground := Ground.data }], guard := none }) (v := ?_) rfl (by kernel_rfl) (fun _ _ _ h => h) (by rfl) ?_ ?_
      rotate_left 1
      · (intro w; go_simp; (try with_reducible rfl))
      try simp only [Act.put, List.setIfInBounds_toArray, List.set_cons_zero, List.set_cons_succ]
      refine Rg.doneR (by kernel_rfl) ?_ _
      refine NoPanic.normal ?_
      clear HS
      go_wp2_with fail
      exact ⟨⟨k + 1, by omega, by go_num, E1.out, E2.out, HB1.out⟩, by simp [intOf]; omega⟩
    · obtain rfl : k = 4 := by omega
      have x0 : wr.cell? ⟨w.heap.size, 0, none⟩ = some (.int .i64 0) := by rw [d1.cell, row_at (by omega)]; rfl
      have x1 : wr.cell? ⟨w.heap.size + 1, 0, none⟩ = some (.int .i64 0) := by rw [d2.cell, row_at (by omega)]; rfl
      clear hlt d1 d2 hb
      go_wp2_with fail
      go_ret
      exact ⟨rfl, HB.out⟩
end Go.Proofs.Ytfaielkkecphbaa.Nd
