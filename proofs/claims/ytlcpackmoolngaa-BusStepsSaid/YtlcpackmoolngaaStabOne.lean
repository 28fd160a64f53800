/- the comparison of bus.Step. -/
import Derived.Test.YtlcpackmoolngaaStabCmp
import Derived.Test.YtlcpackmoolngaaRegR
namespace Go.Proofs.Ytlcpackmoolngaa.Ss
open Go.ChangeShapes Go.WideShapes Go.ChangeAt Go.Shelf Go.RowKit Go.Lib Go.Sort Go.Proofs.Ytlcpackmoolngaa.Stb Go.Proofs.Ytlcpackmoolngaa.Bu Go.Proofs.Ytlcpackmoolngaa.Mem Go.Proofs.Ytlcpackmoolngaa.Op Go.Proofs.Ytlcpackmoolngaa.Sm
set_option linter.unusedVariables false
set_option linter.unusedSimpArgs false
def orI (a b : Int) : Int := if a = 0 then b else a
theorem or_orI (B : Nat) (a b : Int) (w : World) (h0 : w.cell? ⟨B, 0, none⟩ = some (.int .i64 a)) (h1 : w.cell? ⟨B, 1, none⟩ = some (.int .i64 b)) : Calls Try.prog 30 #[.slice (some ⟨B, 0, none⟩) 2 2] w fun e w' => e = .returned (.int .i64 (orI a b)) ∧ w' = w := or_any B a b w h0 h1
theorem fresh2 (w : World) (o : Obj) (T : TypeId) (C : Array Value) : Blk ((w.alloc o).alloc (.cells C T)) (w.heap.size + 1) T C := by
  have h : Blk ((w.alloc o).alloc (.cells C T)) (w.alloc o).heap.size T C := Blk.fresh _ _ _
  rwa [show (w.alloc o).heap.size = w.heap.size + 1 from Array.size_push _] at h
def cmpP (p q : Parc) : Int := orI (cmpI p.d q.d) (cmpI p.s q.s)
/-- w' is w with draws and blocks behind it -/
def Grew (w w' : World) : Prop := ∃ (n : Nat) (os : Array Obj), w' = grow (w.drewN n) os
theorem grew_refl (w : World) : Grew w w := ⟨0, #[], (grow_empty _).symm⟩
theorem grew_alloc {w w' : World} (h : Grew w w') (o : Obj) : Grew w (w'.alloc o) := by
  obtain ⟨n, os, rfl⟩ := h
  exact ⟨n, os ++ #[o], by rw [← grow_grow]; rfl⟩
theorem grew_drew {w w' : World} (h : Grew w w') : Grew w w'.drew := by
  obtain ⟨n, os, rfl⟩ := h
  exact ⟨n + 1, os, rfl⟩

set_option maxRecDepth 100000 in
set_option maxHeartbeats 2000000 in
theorem step1_any (p q : Parc) (A C : Option Addr) (c d : Nat) (w : World) :
    Calls Try.prog 29 #[.agg #[.int .i64 p.f, .int .i64 p.t, .int .i64 p.d, .int .i64 p.s, .slice A p.bs.length c], .agg #[.int .i64 q.f, .int .i64 q.t, .int .i64 q.d, .int .i64 q.s, .slice C q.bs.length d]] w fun e w' => e = .returned (.int .i64 (cmpP p q)) ∧ Grew w w' := by
  have HG := Lib.hid (grew_drew (grew_alloc (grew_alloc (grew_refl w) (.cells #[.int .i64 p.f, .int .i64 p.t, .int .i64 p.d, .int .i64 p.s, .slice A p.bs.length c] 52)) (.cells #[.int .i64 q.f, .int .i64 q.t, .int .i64 q.d, .int .i64 q.s, .slice C q.bs.length d] 52)))
  have P1 := Lib.hid (show Blk (w.alloc (.cells #[.int .i64 p.f, .int .i64 p.t, .int .i64 p.d, .int .i64 p.s, .slice A p.bs.length c] 52)) w.heap.size 52 #[.int .i64 p.f, .int .i64 p.t, .int .i64 p.d, .int .i64 p.s, .slice A p.bs.length c] from Blk.fresh _ _ _)
  have P1 := Lib.hid (P1.out.alloc (.cells #[.int .i64 q.f, .int .i64 q.t, .int .i64 q.d, .int .i64 q.s, .slice C q.bs.length d] 52))
  have P2 := Lib.hid (show Blk ((w.alloc (.cells #[.int .i64 p.f, .int .i64 p.t, .int .i64 p.d, .int .i64 p.s, .slice A p.bs.length c] 52)).alloc (.cells #[.int .i64 q.f, .int .i64 q.t, .int .i64 q.d, .int .i64 q.s, .slice C q.bs.length d] 52)) (w.heap.size + 1) 52 #[.int .i64 q.f, .int .i64 q.t, .int .i64 q.d, .int .i64 q.s, .slice C q.bs.length d] from fresh2 _ _ _ _)
  have HS := And.intro P1.out.drew P2.out.drew
  clear P1 P2
  go_enter Try.func29, Try.ntmps29
  go_upto_region 1 with fail
  refine wp_region_noPanic ?_
  refine Rg.beginR [1, 3, 6, 8] (fun w' => Blk w' w.heap.size 52 #[.int .i64 p.f, .int .i64 p.t, .int .i64 p.d, .int .i64 p.s, .slice A p.bs.length c] ∧ Blk w' (w.heap.size + 1) 52 #[.int .i64 q.f, .int .i64 q.t, .int .i64 q.d, .int .i64 q.s, .slice C q.bs.length d]) (by kernel_rfl) ?_
  generalize ((w.alloc (.cells #[.int .i64 p.f, .int .i64 p.t, .int .i64 p.d, .int .i64 p.s, .slice A p.bs.length c] 52)).alloc (.cells #[.int .i64 q.f, .int .i64 q.t, .int .i64 q.d, .int .i64 q.s, .slice C q.bs.length d] 52)).drew = V0 at *
  refine Rg.takeP (i := 0) (oi := { dst := some 5, op := Op.fieldAddr 52 (Operand.tmp 2) 2, type := 0, pos := "bus.go:55", after := #[], guard := none }) (v := ?_) rfl (by kernel_rfl) (fun _ _ _ h => h) (by rfl) ?_ ?_
  rotate_left 1
  · (intro w; go_simp; (try with_reducible rfl))
  try simp only [Act.put, List.setIfInBounds_toArray, List.set_cons_zero, List.set_cons_succ]
  refine Rg.takeS (i := 1) (oi := { dst := some 6, op := Op.load 3 (Operand.tmp 5), type := 3, pos := "bus.go:55", after := #[{ on := 0, ground := Ground.data }], guard := none }) (v := .int .i64 p.d) rfl (by kernel_rfl) (fun _ _ _ h => h) (by rfl) HS ?_ ?_
  · (intro w' hSw; have y := hSw.1.cell 2; simp only [List.getElem?_toArray, List.getElem?_cons_zero, List.getElem?_cons_succ] at y; go_simp; (try with_reducible rfl))
  try simp only [Act.put, List.setIfInBounds_toArray, List.set_cons_zero, List.set_cons_succ]
  refine Rg.takeP (i := 2) (oi := { dst := some 7, op := Op.fieldAddr 52 (Operand.tmp 3) 2, type := 0, pos := "bus.go:55", after := #[], guard := none }) (v := ?_) rfl (by kernel_rfl) (fun _ _ _ h => h) (by rfl) ?_ ?_
  rotate_left 1
  · (intro w; go_simp; (try with_reducible rfl))
  try simp only [Act.put, List.setIfInBounds_toArray, List.set_cons_zero, List.set_cons_succ]
  refine Rg.takeS (i := 3) (oi := { dst := some 8, op := Op.load 3 (Operand.tmp 7), type := 3, pos := "bus.go:55", after := #[{ on := 2, ground := Ground.data }], guard := none }) (v := .int .i64 q.d) rfl (by kernel_rfl) (fun _ _ _ h => h) (by rfl) HS ?_ ?_
  · (intro w' hSw; have y := hSw.2.cell 2; simp only [List.getElem?_toArray, List.getElem?_cons_zero, List.getElem?_cons_succ] at y; go_simp; (try with_reducible rfl))
  try simp only [Act.put, List.setIfInBounds_toArray, List.set_cons_zero, List.set_cons_succ]
  refine Rg.takeP (i := 5) (oi := { dst := some 10, op := Op.fieldAddr 52 (Operand.tmp 2) 3, type := 0, pos := "bus.go:55", after := #[], guard := none }) (v := ?_) rfl (by kernel_rfl) (fun _ _ _ h => h) (by rfl) ?_ ?_
  rotate_left 1
  · (intro w; go_simp; (try with_reducible rfl))
  try simp only [Act.put, List.setIfInBounds_toArray, List.set_cons_zero, List.set_cons_succ]
  refine Rg.takeS (i := 6) (oi := { dst := some 11, op := Op.load 3 (Operand.tmp 10), type := 3, pos := "bus.go:55", after := #[{ on := 5, ground := Ground.data }], guard := none }) (v := .int .i64 p.s) rfl (by kernel_rfl) (fun _ _ _ h => h) (by rfl) HS ?_ ?_
  · (intro w' hSw; have y := hSw.1.cell 3; simp only [List.getElem?_toArray, List.getElem?_cons_zero, List.getElem?_cons_succ] at y; go_simp; (try with_reducible rfl))
  try simp only [Act.put, List.setIfInBounds_toArray, List.set_cons_zero, List.set_cons_succ]
  refine Rg.takeP (i := 7) (oi := { dst := some 12, op := Op.fieldAddr 52 (Operand.tmp 3) 3, type := 0, pos := "bus.go:55", after := #[], guard := none }) (v := ?_) rfl (by kernel_rfl) (fun _ _ _ h => h) (by rfl) ?_ ?_
  rotate_left 1
  · (intro w; go_simp; (try with_reducible rfl))
  try simp only [Act.put, List.setIfInBounds_toArray, List.set_cons_zero, List.set_cons_succ]
  refine Rg.takeS (i := 8) (oi := { dst := some 13, op := Op.load 3 (Operand.tmp 12), type := 3, pos := "bus.go:55", after := #[{ on := 7, ground := Ground.data }], guard := none }) (v := .int .i64 q.s) rfl (by kernel_rfl) (fun _ _ _ h => h) (by rfl) HS ?_ ?_
  · (intro w' hSw; have y := hSw.2.cell 3; simp only [List.getElem?_toArray, List.getElem?_cons_zero, List.getElem?_cons_succ] at y; go_simp; (try with_reducible rfl))
  try simp only [Act.put, List.setIfInBounds_toArray, List.set_cons_zero, List.set_cons_succ]
  refine Rg.oneR (i := 4) (oi := { dst := some 9, op := Op.call { callee := Callee.value (Operand.func 31), args := #[Operand.tmp 6, Operand.tmp 8], argTypes := #[3, 3] }, type := 3, pos := "bus.go:55", after := #[{ on := 1, ground := Ground.data }, { on := 3, ground := Ground.data }], guard := none }) rfl (by kernel_rfl) ?_
  refine Rg.stepS ?_
  intro K hK
  rw [if_pos (by rfl)]
  go_simp
  go_at_call 31
  refine (compare_any _ _ _).mono ?_
  rintro e w' ⟨rfl, hw⟩
  have hw := hw.symm
  subst hw
  dsimp only
  refine hK.out _ _ HS ?_
  clear hK K
  try simp only [Act.put, List.setIfInBounds_toArray, List.set_cons_zero, List.set_cons_succ]
  refine Rg.oneR (i := 9) (oi := { dst := some 14, op := Op.call { callee := Callee.value (Operand.func 31), args := #[Operand.tmp 11, Operand.tmp 13], argTypes := #[3, 3] }, type := 3, pos := "bus.go:55", after := #[{ on := 6, ground := Ground.data }, { on := 8, ground := Ground.data }, { on := 4, ground := Ground.chain }], guard := none }) rfl (by kernel_rfl) ?_
  refine Rg.stepF ?_ ?_
  · kernel_rfl
  intro K hK
  rw [if_pos (by rfl)]
  go_simp
  go_at_call 31
  refine (compare_any _ _ _).mono ?_
  rintro e w' ⟨rfl, hw⟩
  have hw := hw.symm
  subst hw
  dsimp only
  refine hK.out _ _ ?_
  clear hK K
  try simp only [Act.put, List.setIfInBounds_toArray, List.set_cons_zero, List.set_cons_succ]
  refine Rg.oneR (i := 10) (oi := { dst := some 15, op := Op.buildSlice 83 2 #[(0, Operand.tmp 9), (1, Operand.tmp 14)], type := 83, pos := "bus.go:55", after := #[{ on := 4, ground := Ground.data }, { on := 9, ground := Ground.data }], guard := none }) rfl (by kernel_rfl) ?_
  refine Rg.stepF ?_ ?_
  · kernel_rfl
  intro K hK
  go_simp
  have HQ : Hid (Blk (V0.alloc (.cells #[.int .i64 (cmpI p.d q.d), .int .i64 (cmpI p.s q.s)] 3)) V0.heap.size 3 #[.int .i64 (cmpI p.d q.d), .int .i64 (cmpI p.s q.s)]) := Lib.hid (Blk.fresh _ _ _)
  have HG1 := Lib.hid (grew_alloc HG.out (.cells #[.int .i64 (cmpI p.d q.d), .int .i64 (cmpI p.s q.s)] 3))
  generalize (V0.alloc (.cells #[.int .i64 (cmpI p.d q.d), .int .i64 (cmpI p.s q.s)] 3)) = V1 at *
  obtain ⟨ga, hgb⟩ : ∃ ga, V0.heap.size = ga := ⟨_, rfl⟩
  rw [hgb] at HQ ⊢
  clear HS
  have y0 := HQ.out.cell 0
  have y1 := HQ.out.cell 1
  simp only [List.getElem?_toArray, List.getElem?_cons_zero, List.getElem?_cons_succ] at y0 y1
  refine hK.out _ _ ?_
  clear hK K
  try simp only [Act.put, List.setIfInBounds_toArray, List.set_cons_zero, List.set_cons_succ]
  refine Rg.oneR (i := 11) (oi := { dst := some 16, op := Op.call { callee := Callee.value (Operand.func 30), args := #[Operand.tmp 15], argTypes := #[83] }, type := 3, pos := "bus.go:55", after := #[{ on := 10, ground := Ground.data }, { on := 9, ground := Ground.chain }], guard := none }) rfl (by kernel_rfl) ?_
  refine Rg.stepF ?_ ?_
  · kernel_rfl
  intro K hK
  rw [if_pos (by rfl)]
  go_simp
  go_at_call 30
  refine (or_orI ga _ _ _ y0 y1).mono ?_
  rintro e w' ⟨rfl, hw⟩
  have hw := hw.symm
  subst hw
  dsimp only
  refine hK.out _ _ ?_
  clear hK K
  try simp only [Act.put, List.setIfInBounds_toArray, List.set_cons_zero, List.set_cons_succ]
  refine Rg.takeP (i := 12) (oi := { dst := some 4, op := Op.assign (Operand.tmp 16), type := 3, pos := "bus.go:55", after := #[{ on := 11, ground := Ground.data }, { on := 11, ground := Ground.chain }, { on := 0, ground := Ground.phase }, { on := 1, ground := Ground.phase }, { on := 2, ground := Ground.phase }, { on := 3, ground := Ground.phase }, { on := 4, ground := Ground.phase }, { on := 5, ground := Ground.phase }, { on := 6, ground := Ground.phase }, { on := 7, ground := Ground.phase }, { on := 8, ground := Ground.phase }, { on := 9, ground := Ground.phase }, { on := 10, ground := Ground.phase }, { on := 11, ground := Ground.phase }], guard := none }) (v := ?_) rfl (by kernel_rfl) (fun _ _ _ h => h) (by rfl) ?_ ?_
  rotate_left 1
  · (intro w; go_simp; (try with_reducible rfl))
  try simp only [Act.put, List.setIfInBounds_toArray, List.set_cons_zero, List.set_cons_succ]
  refine Rg.doneR (by kernel_rfl) ?_ _
  refine NoPanic.normal ?_
  go_wp2_with fail
  go_ret
  exact ⟨rfl, HG1.out⟩

end Go.Proofs.Ytlcpackmoolngaa.Ss
