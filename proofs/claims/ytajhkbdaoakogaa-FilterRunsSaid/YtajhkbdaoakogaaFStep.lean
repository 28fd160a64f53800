/- Contracts: filter.Step and the reference's FilterStep. -/
import Derived.Test.YtajhkbdaoakogaaStep0
namespace Go.Proofs.Ytajhkbdaoakogaa.BigW
open Go.RowKit Go.Proofs.Ytajhkbdaoakogaa.Mem Go.Proofs.Ytajhkbdaoakogaa.BigLaw Go.Proofs.Ytajhkbdaoakogaa.Rws
set_option linter.unusedVariables false
set_option linter.unusedSimpArgs false

set_option maxRecDepth 100000 in
set_option maxHeartbeats 8000000 in
theorem fstep_any (s : St) (dt q r gate z : Int) (w : World) (hs : StIn s) (r_dt : In64 dt) (r_q : In64 q) (r_r : In64 r) (r_gate : In64 gate) (r_z : In64 z) :
    Calls Try.prog 18 #[stV s, .agg (tunC dt q r gate), .int .i64 z] w fun e w' => GaveSt2 w w' (fstep s dt q r gate z) e := by
  obtain ⟨X, V, P00, P01, P11, bent, missed⟩ := s
  unfold stV stC tunC
  obtain ⟨⟨PX, PV, PA, PB, PC, pb, pm⟩, hp⟩ : ∃ p, predict ⟨X, V, P00, P01, P11, bent, missed⟩ dt q = p := ⟨_, rfl⟩
  have HP := Lib.hid hp
  have HI := Lib.hid (show StIn ⟨PX, PV, PA, PB, PC, pb, pm⟩ from by rw [← hp]; exact predict_in hs dt q)
  obtain ⟨⟨⟨QX, QV, QA, QB, QC, qb, qm⟩, qt⟩, hq⟩ : ∃ p, update ⟨PX, PV, PA, PB, PC, pb, pm⟩ z r gate = p := ⟨_, rfl⟩
  have HQ := Lib.hid hq
  have HF := Lib.hid (show fstep ⟨X, V, P00, P01, P11, bent, missed⟩ dt q r gate z = (⟨QX, QV, QA, QB, QC, qb, qm⟩, qt) from by unfold fstep; rw [hp, hq])
  have HS0 := Lib.hid hs
  have HD := Lib.hid r_dt
  have HK := Lib.hid r_q
  have HL := Lib.hid r_r
  have HG := Lib.hid r_gate
  have HZ := Lib.hid r_z
  clear hp hq hs r_dt r_q r_r r_gate r_z
  go_enter Try.func18, Try.ntmps18
  go_upto_region 1 with fail
  have HB := Lib.hid (show Below w.heap.size w (((w.alloc (.cells #[.int .i64 X, .int .i64 V, .int .i64 P00, .int .i64 P01, .int .i64 P11, .bool bent, .int .i64 missed] 23)).alloc (.cells #[.int .i64 dt, .int .i64 q, .int .i64 r, .int .i64 gate] 29)).alloc (.cells #[.int .i64 0, .int .i64 0, .int .i64 0, .int .i64 0, .int .i64 0, .bool false, .int .i64 0] 23)).drew from ((((Below.refl _ _).alloc (Nat.le_refl _) _).alloc (by simp) _).alloc (by simp; omega) _).drew)
  have HST := Lib.hid (show Blk (((w.alloc (.cells #[.int .i64 X, .int .i64 V, .int .i64 P00, .int .i64 P01, .int .i64 P11, .bool bent, .int .i64 missed] 23)).alloc (.cells #[.int .i64 dt, .int .i64 q, .int .i64 r, .int .i64 gate] 29)).alloc (.cells #[.int .i64 0, .int .i64 0, .int .i64 0, .int .i64 0, .int .i64 0, .bool false, .int .i64 0] 23)).drew w.heap.size 23 #[.int .i64 X, .int .i64 V, .int .i64 P00, .int .i64 P01, .int .i64 P11, .bool bent, .int .i64 missed] from (((Blk.new rfl).alloc _).alloc _).drew)
  have HU := Lib.hid (show Blk (((w.alloc (.cells #[.int .i64 X, .int .i64 V, .int .i64 P00, .int .i64 P01, .int .i64 P11, .bool bent, .int .i64 missed] 23)).alloc (.cells #[.int .i64 dt, .int .i64 q, .int .i64 r, .int .i64 gate] 29)).alloc (.cells #[.int .i64 0, .int .i64 0, .int .i64 0, .int .i64 0, .int .i64 0, .bool false, .int .i64 0] 23)).drew (w.heap.size + 1) 29 #[.int .i64 dt, .int .i64 q, .int .i64 r, .int .i64 gate] from ((Blk.new (by simp)).alloc _).drew)
  have HR := Lib.hid (show Blk (((w.alloc (.cells #[.int .i64 X, .int .i64 V, .int .i64 P00, .int .i64 P01, .int .i64 P11, .bool bent, .int .i64 missed] 23)).alloc (.cells #[.int .i64 dt, .int .i64 q, .int .i64 r, .int .i64 gate] 29)).alloc (.cells #[.int .i64 0, .int .i64 0, .int .i64 0, .int .i64 0, .int .i64 0, .bool false, .int .i64 0] 23)).drew (w.heap.size + 1 + 1) 23 #[.int .i64 0, .int .i64 0, .int .i64 0, .int .i64 0, .int .i64 0, .bool false, .int .i64 0] from (Blk.new (by simp)).drew)
  refine wp_region_noPanic ?_
  generalize (((w.alloc (.cells #[.int .i64 X, .int .i64 V, .int .i64 P00, .int .i64 P01, .int .i64 P11, .bool bent, .int .i64 missed] 23)).alloc (.cells #[.int .i64 dt, .int .i64 q, .int .i64 r, .int .i64 gate] 29)).alloc (.cells #[.int .i64 0, .int .i64 0, .int .i64 0, .int .i64 0, .int .i64 0, .bool false, .int .i64 0] 23)) = w1 at *
  obtain ⟨gr, hgr⟩ : ∃ g, w.heap.size + 1 + 1 = g := ⟨_, rfl⟩
  rw [hgr] at HR ⊢
  obtain ⟨gu, hgu⟩ : ∃ g, w.heap.size + 1 = g := ⟨_, rfl⟩
  rw [hgu] at HU ⊢
  have HS := And.intro HST.out (And.intro ((Blk.cell HU.out 0).trans rfl) (And.intro ((Blk.cell HU.out 1).trans rfl) (And.intro ((Blk.cell HU.out 2).trans rfl) ((Blk.cell HU.out 3).trans rfl))))
  refine Rg.beginR [0, 2, 4, 8, 10] (fun w' => Blk w' w.heap.size 23 #[.int .i64 X, .int .i64 V, .int .i64 P00, .int .i64 P01, .int .i64 P11, .bool bent, .int .i64 missed] ∧ w'.cell? ⟨gu, 0, none⟩ = some (.int .i64 dt) ∧ w'.cell? ⟨gu, 1, none⟩ = some (.int .i64 q) ∧ w'.cell? ⟨gu, 2, none⟩ = some (.int .i64 r) ∧ w'.cell? ⟨gu, 3, none⟩ = some (.int .i64 gate)) (by kernel_rfl) ?_
  generalize w1.drew = w1 at *
  refine Rg.takeS (i := 0) (oi := { dst := some 8, op := Op.load 23 (Operand.tmp 3), type := 23, pos := "filter.go:63", after := #[], guard := none }) (v := .agg #[.int .i64 X, .int .i64 V, .int .i64 P00, .int .i64 P01, .int .i64 P11, .bool bent, .int .i64 missed]) rfl (by kernel_rfl) (fun _ _ _ h => h) (by rfl) HS ?_ ?_
  · (intro w' hSw; exact exec_load_st 23 (.tmp 3) rfl w.heap.size rfl hSw.1 Try.underlying23 rfl (by kernel_rfl))
  try simp only [Act.put, List.setIfInBounds_toArray, List.set_cons_zero, List.set_cons_succ]
  refine Rg.takeP (i := 1) (oi := { dst := some 9, op := Op.fieldAddr 29 (Operand.tmp 4) 0, type := 0, pos := "filter.go:63", after := #[], guard := none }) (v := ?_) rfl (by kernel_rfl) (fun _ _ _ h => h) (by rfl) ?_ ?_
  rotate_left 1
  · (intro w; go_simp; (try with_reducible rfl))
  try simp only [Act.put, List.setIfInBounds_toArray, List.set_cons_zero, List.set_cons_succ]
  refine Rg.takeS (i := 2) (oi := { dst := some 10, op := Op.load 3 (Operand.tmp 9), type := 3, pos := "filter.go:63", after := #[{ on := 1, ground := Ground.data }], guard := none }) (v := ?_) rfl (by kernel_rfl) (fun _ _ _ h => h) (by rfl) HS ?_ ?_
  rotate_left 1
  · (intro w hSw; (try dsimp only at hSw); (try go_split_ands); go_simp; (try with_reducible rfl))
  try simp only [Act.put, List.setIfInBounds_toArray, List.set_cons_zero, List.set_cons_succ]
  refine Rg.takeP (i := 3) (oi := { dst := some 11, op := Op.fieldAddr 29 (Operand.tmp 4) 1, type := 0, pos := "filter.go:63", after := #[], guard := none }) (v := ?_) rfl (by kernel_rfl) (fun _ _ _ h => h) (by rfl) ?_ ?_
  rotate_left 1
  · (intro w; go_simp; (try with_reducible rfl))
  try simp only [Act.put, List.setIfInBounds_toArray, List.set_cons_zero, List.set_cons_succ]
  refine Rg.takeS (i := 4) (oi := { dst := some 12, op := Op.load 3 (Operand.tmp 11), type := 3, pos := "filter.go:63", after := #[{ on := 3, ground := Ground.data }], guard := none }) (v := ?_) rfl (by kernel_rfl) (fun _ _ _ h => h) (by rfl) HS ?_ ?_
  rotate_left 1
  · (intro w hSw; (try dsimp only at hSw); (try go_split_ands); go_simp; (try with_reducible rfl))
  try simp only [Act.put, List.setIfInBounds_toArray, List.set_cons_zero, List.set_cons_succ]
  refine Rg.takeP (i := 6) (oi := { dst := some 14, op := Op.move (Operand.tmp 2), type := 3, pos := "filter.go:63", after := #[], guard := none }) (v := ?_) rfl (by kernel_rfl) (fun _ _ _ h => h) (by rfl) ?_ ?_
  rotate_left 1
  · (intro w; go_simp; (try with_reducible rfl))
  try simp only [Act.put, List.setIfInBounds_toArray, List.set_cons_zero, List.set_cons_succ]
  refine Rg.takeP (i := 7) (oi := { dst := some 15, op := Op.fieldAddr 29 (Operand.tmp 4) 2, type := 0, pos := "filter.go:63", after := #[], guard := none }) (v := ?_) rfl (by kernel_rfl) (fun _ _ _ h => h) (by rfl) ?_ ?_
  rotate_left 1
  · (intro w; go_simp; (try with_reducible rfl))
  try simp only [Act.put, List.setIfInBounds_toArray, List.set_cons_zero, List.set_cons_succ]
  refine Rg.takeS (i := 8) (oi := { dst := some 16, op := Op.load 3 (Operand.tmp 15), type := 3, pos := "filter.go:63", after := #[{ on := 7, ground := Ground.data }], guard := none }) (v := ?_) rfl (by kernel_rfl) (fun _ _ _ h => h) (by rfl) HS ?_ ?_
  rotate_left 1
  · (intro w hSw; (try dsimp only at hSw); (try go_split_ands); go_simp; (try with_reducible rfl))
  try simp only [Act.put, List.setIfInBounds_toArray, List.set_cons_zero, List.set_cons_succ]
  refine Rg.takeP (i := 9) (oi := { dst := some 17, op := Op.fieldAddr 29 (Operand.tmp 4) 3, type := 0, pos := "filter.go:63", after := #[], guard := none }) (v := ?_) rfl (by kernel_rfl) (fun _ _ _ h => h) (by rfl) ?_ ?_
  rotate_left 1
  · (intro w; go_simp; (try with_reducible rfl))
  try simp only [Act.put, List.setIfInBounds_toArray, List.set_cons_zero, List.set_cons_succ]
  refine Rg.takeS (i := 10) (oi := { dst := some 18, op := Op.load 3 (Operand.tmp 17), type := 3, pos := "filter.go:63", after := #[{ on := 9, ground := Ground.data }], guard := none }) (v := ?_) rfl (by kernel_rfl) (fun _ _ _ h => h) (by rfl) HS ?_ ?_
  rotate_left 1
  · (intro w hSw; (try dsimp only at hSw); (try go_split_ands); go_simp; (try with_reducible rfl))
  try simp only [Act.put, List.setIfInBounds_toArray, List.set_cons_zero, List.set_cons_succ]
  refine Rg.oneR (i := 5) (oi := { dst := some 13, op := Op.call { callee := Callee.value (Operand.func 54), args := #[Operand.tmp 8, Operand.tmp 10, Operand.tmp 12], argTypes := #[23, 3, 3] }, type := 23, pos := "filter.go:63", after := #[{ on := 0, ground := Ground.data }, { on := 2, ground := Ground.data }, { on := 4, ground := Ground.data }], guard := none }) rfl (by kernel_rfl) ?_
  refine Rg.stepS ?_
  intro K hK
  rw [if_pos (by rfl)]
  go_simp
  go_at_call 54
  refine (predict_any ⟨X, V, P00, P01, P11, bent, missed⟩ dt q _ HS0.out HD.out HK.out).mono ?_
  rintro e w1 ⟨rfl, hb⟩
  rw [HP.out]
  simp only [stV, stC]
  have HST := Lib.hid (HST.out.below hb HST.out.lt)
  have HU := Lib.hid (HU.out.below hb HU.out.lt)
  have HR := Lib.hid (HR.out.below hb HR.out.lt)
  have HB := Lib.hid (onward HB.out (Nat.le_refl _) hb)
  clear hb HS
  have HS := And.intro HST.out (And.intro ((Blk.cell HU.out 0).trans rfl) (And.intro ((Blk.cell HU.out 1).trans rfl) (And.intro ((Blk.cell HU.out 2).trans rfl) ((Blk.cell HU.out 3).trans rfl))))
  go_wp2_with fail
  refine hK.out _ _ HS ?_
  clear hK K
  try simp only [Act.put, List.setIfInBounds_toArray, List.set_cons_zero, List.set_cons_succ]
  refine Rg.oneR (i := 11) (oi := { dst := some 19, op := Op.call { callee := Callee.value (Operand.func 15), args := #[Operand.tmp 13, Operand.tmp 14, Operand.tmp 16, Operand.tmp 18], argTypes := #[23, 3, 3, 3] }, type := 24, pos := "filter.go:63", after := #[{ on := 5, ground := Ground.data }, { on := 6, ground := Ground.data }, { on := 8, ground := Ground.data }, { on := 10, ground := Ground.data }, { on := 5, ground := Ground.chain }], guard := none }) rfl (by kernel_rfl) ?_
  refine Rg.stepF ?_ ?_
  · kernel_rfl
  intro K hK
  rw [if_pos (by rfl)]
  go_simp
  go_at_call 15
  refine (update_any ⟨PX, PV, PA, PB, PC, pb, pm⟩ z r gate _ HI.out HZ.out HL.out HG.out).mono ?_
  rintro e w1 ⟨rfl, hb⟩
  rw [HQ.out]
  simp only [stV, stC]
  have HST := Lib.hid (HST.out.below hb HST.out.lt)
  have HU := Lib.hid (HU.out.below hb HU.out.lt)
  have HR := Lib.hid (HR.out.below hb HR.out.lt)
  have HB := Lib.hid (onward HB.out (Nat.le_refl _) hb)
  clear hb HS
  have HS := And.intro HST.out (And.intro ((Blk.cell HU.out 0).trans rfl) (And.intro ((Blk.cell HU.out 1).trans rfl) (And.intro ((Blk.cell HU.out 2).trans rfl) ((Blk.cell HU.out 3).trans rfl))))
  go_wp2_with fail
  refine hK.out _ _ ?_
  clear hK K
  try simp only [Act.put, List.setIfInBounds_toArray, List.set_cons_zero, List.set_cons_succ]
  refine Rg.takeP (i := 12) (oi := { dst := some 20, op := Op.extract (Operand.tmp 19) 0, type := 23, pos := "filter.go:63", after := #[{ on := 11, ground := Ground.data }], guard := none }) (v := ?_) rfl (by kernel_rfl) (fun _ _ _ h => h) (by rfl) ?_ ?_
  rotate_left 1
  · (intro w; go_simp; (try with_reducible rfl))
  try simp only [Act.put, List.setIfInBounds_toArray, List.set_cons_zero, List.set_cons_succ]
  refine Rg.takeP (i := 13) (oi := { dst := some 21, op := Op.extract (Operand.tmp 19) 1, type := 4, pos := "filter.go:63", after := #[{ on := 11, ground := Ground.data }], guard := none }) (v := ?_) rfl (by kernel_rfl) (fun _ _ _ h => h) (by rfl) ?_ ?_
  rotate_left 1
  · (intro w; go_simp; (try with_reducible rfl))
  try simp only [Act.put, List.setIfInBounds_toArray, List.set_cons_zero, List.set_cons_succ]
  refine Rg.oneR (i := 14) (oi := { dst := none, op := Op.store 23 (Operand.tmp 6) (Operand.tmp 20), type := 0, pos := "filter.go:63", after := #[{ on := 12, ground := Ground.data }, { on := 11, ground := Ground.chain }, { on := 0, ground := Ground.phase }, { on := 1, ground := Ground.phase }, { on := 2, ground := Ground.phase }, { on := 3, ground := Ground.phase }, { on := 4, ground := Ground.phase }, { on := 5, ground := Ground.phase }, { on := 6, ground := Ground.phase }, { on := 7, ground := Ground.phase }, { on := 8, ground := Ground.phase }, { on := 9, ground := Ground.phase }, { on := 10, ground := Ground.phase }, { on := 11, ground := Ground.phase }, { on := 12, ground := Ground.phase }, { on := 13, ground := Ground.phase }], guard := none }) rfl (by kernel_rfl) ?_
  refine Rg.stepF ?_ ?_
  · kernel_rfl
  intro K hK
  rw [if_pos (by rfl)]
  refine wp_store_row 23 _ _ rfl gr #[.int .i64 QX, .int .i64 QV, .int .i64 QA, .int .i64 QB, .int .i64 QC, .bool qb, .int .i64 qm] rfl rfl 23 _ HR.out (by kernel_rfl) rfl (by simp [Value.oneCell']) ?_
  refine hK.out _ _ ?_
  clear hK K
  try simp only [Act.put, List.setIfInBounds_toArray, List.set_cons_zero, List.set_cons_succ]
  refine Rg.takeP (i := 15) (oi := { dst := some 7, op := Op.assign (Operand.tmp 21), type := 4, pos := "filter.go:63", after := #[{ on := 13, ground := Ground.data }, { on := 14, ground := Ground.chain }, { on := 0, ground := Ground.phase }, { on := 1, ground := Ground.phase }, { on := 2, ground := Ground.phase }, { on := 3, ground := Ground.phase }, { on := 4, ground := Ground.phase }, { on := 5, ground := Ground.phase }, { on := 6, ground := Ground.phase }, { on := 7, ground := Ground.phase }, { on := 8, ground := Ground.phase }, { on := 9, ground := Ground.phase }, { on := 10, ground := Ground.phase }, { on := 11, ground := Ground.phase }, { on := 12, ground := Ground.phase }, { on := 13, ground := Ground.phase }, { on := 14, ground := Ground.phase }], guard := none }) (v := ?_) rfl (by kernel_rfl) (fun _ _ _ h => h) (by rfl) ?_ ?_
  rotate_left 1
  · (intro w; go_simp; (try with_reducible rfl))
  try simp only [Act.put, List.setIfInBounds_toArray, List.set_cons_zero, List.set_cons_succ]
  refine Rg.doneR (by kernel_rfl) ?_ _
  refine NoPanic.normal ?_
  clear HS
  go_wp2_with fail
  refine ret_row2 (x := .bool qt) rfl rfl rfl (HR.out.setRow #[.int .i64 QX, .int .i64 QV, .int .i64 QA, .int .i64 QB, .int .i64 QC, .bool qb, .int .i64 qm]) ⟨by rw [Try.underlying23], by kernel_rfl⟩ rfl ?_
  rw [HF.out]
  exact ⟨rfl, below_setRow HB.out (by omega) _⟩

set_option maxRecDepth 100000 in
set_option maxHeartbeats 8000000 in
theorem reffstep_any (s : St) (dt q r gate z : Int) (w : World) (hs : StIn s) (r_dt : In64 dt) (r_q : In64 q) (r_r : In64 r) (r_gate : In64 gate) (r_z : In64 z) :
    Calls Try.prog 19 #[stV s, .agg (tunC dt q r gate), .int .i64 z] w fun e w' => GaveSt2 w w' (fstep s dt q r gate z) e := by
  obtain ⟨X, V, P00, P01, P11, bent, missed⟩ := s
  unfold stV stC tunC
  obtain ⟨⟨PX, PV, PA, PB, PC, pb, pm⟩, hp⟩ : ∃ p, predict ⟨X, V, P00, P01, P11, bent, missed⟩ dt q = p := ⟨_, rfl⟩
  have HP := Lib.hid hp
  have HI := Lib.hid (show StIn ⟨PX, PV, PA, PB, PC, pb, pm⟩ from by rw [← hp]; exact predict_in hs dt q)
  obtain ⟨⟨⟨QX, QV, QA, QB, QC, qb, qm⟩, qt⟩, hq⟩ : ∃ p, update ⟨PX, PV, PA, PB, PC, pb, pm⟩ z r gate = p := ⟨_, rfl⟩
  have HQ := Lib.hid hq
  have HF := Lib.hid (show fstep ⟨X, V, P00, P01, P11, bent, missed⟩ dt q r gate z = (⟨QX, QV, QA, QB, QC, qb, qm⟩, qt) from by unfold fstep; rw [hp, hq])
  have HS0 := Lib.hid hs
  have HD := Lib.hid r_dt
  have HK := Lib.hid r_q
  have HL := Lib.hid r_r
  have HG := Lib.hid r_gate
  have HZ := Lib.hid r_z
  clear hp hq hs r_dt r_q r_r r_gate r_z
  go_enter Try.func19, Try.ntmps19
  go_upto_region 1 with fail
  have HB := Lib.hid (show Below w.heap.size w (((w.alloc (.cells #[.int .i64 X, .int .i64 V, .int .i64 P00, .int .i64 P01, .int .i64 P11, .bool bent, .int .i64 missed] 23)).alloc (.cells #[.int .i64 dt, .int .i64 q, .int .i64 r, .int .i64 gate] 29)).alloc (.cells #[.int .i64 0, .int .i64 0, .int .i64 0, .int .i64 0, .int .i64 0, .bool false, .int .i64 0] 23)).drew from ((((Below.refl _ _).alloc (Nat.le_refl _) _).alloc (by simp) _).alloc (by simp; omega) _).drew)
  have HST := Lib.hid (show Blk (((w.alloc (.cells #[.int .i64 X, .int .i64 V, .int .i64 P00, .int .i64 P01, .int .i64 P11, .bool bent, .int .i64 missed] 23)).alloc (.cells #[.int .i64 dt, .int .i64 q, .int .i64 r, .int .i64 gate] 29)).alloc (.cells #[.int .i64 0, .int .i64 0, .int .i64 0, .int .i64 0, .int .i64 0, .bool false, .int .i64 0] 23)).drew w.heap.size 23 #[.int .i64 X, .int .i64 V, .int .i64 P00, .int .i64 P01, .int .i64 P11, .bool bent, .int .i64 missed] from (((Blk.new rfl).alloc _).alloc _).drew)
  have HU := Lib.hid (show Blk (((w.alloc (.cells #[.int .i64 X, .int .i64 V, .int .i64 P00, .int .i64 P01, .int .i64 P11, .bool bent, .int .i64 missed] 23)).alloc (.cells #[.int .i64 dt, .int .i64 q, .int .i64 r, .int .i64 gate] 29)).alloc (.cells #[.int .i64 0, .int .i64 0, .int .i64 0, .int .i64 0, .int .i64 0, .bool false, .int .i64 0] 23)).drew (w.heap.size + 1) 29 #[.int .i64 dt, .int .i64 q, .int .i64 r, .int .i64 gate] from ((Blk.new (by simp)).alloc _).drew)
  have HR := Lib.hid (show Blk (((w.alloc (.cells #[.int .i64 X, .int .i64 V, .int .i64 P00, .int .i64 P01, .int .i64 P11, .bool bent, .int .i64 missed] 23)).alloc (.cells #[.int .i64 dt, .int .i64 q, .int .i64 r, .int .i64 gate] 29)).alloc (.cells #[.int .i64 0, .int .i64 0, .int .i64 0, .int .i64 0, .int .i64 0, .bool false, .int .i64 0] 23)).drew (w.heap.size + 1 + 1) 23 #[.int .i64 0, .int .i64 0, .int .i64 0, .int .i64 0, .int .i64 0, .bool false, .int .i64 0] from (Blk.new (by simp)).drew)
  refine wp_region_noPanic ?_
  generalize (((w.alloc (.cells #[.int .i64 X, .int .i64 V, .int .i64 P00, .int .i64 P01, .int .i64 P11, .bool bent, .int .i64 missed] 23)).alloc (.cells #[.int .i64 dt, .int .i64 q, .int .i64 r, .int .i64 gate] 29)).alloc (.cells #[.int .i64 0, .int .i64 0, .int .i64 0, .int .i64 0, .int .i64 0, .bool false, .int .i64 0] 23)) = w1 at *
  obtain ⟨gr, hgr⟩ : ∃ g, w.heap.size + 1 + 1 = g := ⟨_, rfl⟩
  rw [hgr] at HR ⊢
  obtain ⟨gu, hgu⟩ : ∃ g, w.heap.size + 1 = g := ⟨_, rfl⟩
  rw [hgu] at HU ⊢
  have HS := And.intro HST.out (And.intro ((Blk.cell HU.out 0).trans rfl) (And.intro ((Blk.cell HU.out 1).trans rfl) (And.intro ((Blk.cell HU.out 2).trans rfl) ((Blk.cell HU.out 3).trans rfl))))
  refine Rg.beginR [0, 2, 4, 8, 10] (fun w' => Blk w' w.heap.size 23 #[.int .i64 X, .int .i64 V, .int .i64 P00, .int .i64 P01, .int .i64 P11, .bool bent, .int .i64 missed] ∧ w'.cell? ⟨gu, 0, none⟩ = some (.int .i64 dt) ∧ w'.cell? ⟨gu, 1, none⟩ = some (.int .i64 q) ∧ w'.cell? ⟨gu, 2, none⟩ = some (.int .i64 r) ∧ w'.cell? ⟨gu, 3, none⟩ = some (.int .i64 gate)) (by kernel_rfl) ?_
  generalize w1.drew = w1 at *
  refine Rg.takeS (i := 0) (oi := { dst := some 8, op := Op.load 23 (Operand.tmp 3), type := 23, pos := "number.go:398", after := #[], guard := none }) (v := .agg #[.int .i64 X, .int .i64 V, .int .i64 P00, .int .i64 P01, .int .i64 P11, .bool bent, .int .i64 missed]) rfl (by kernel_rfl) (fun _ _ _ h => h) (by rfl) HS ?_ ?_
  · (intro w' hSw; exact exec_load_st 23 (.tmp 3) rfl w.heap.size rfl hSw.1 Try.underlying23 rfl (by kernel_rfl))
  try simp only [Act.put, List.setIfInBounds_toArray, List.set_cons_zero, List.set_cons_succ]
  refine Rg.takeP (i := 1) (oi := { dst := some 9, op := Op.fieldAddr 29 (Operand.tmp 4) 0, type := 0, pos := "number.go:398", after := #[], guard := none }) (v := ?_) rfl (by kernel_rfl) (fun _ _ _ h => h) (by rfl) ?_ ?_
  rotate_left 1
  · (intro w; go_simp; (try with_reducible rfl))
  try simp only [Act.put, List.setIfInBounds_toArray, List.set_cons_zero, List.set_cons_succ]
  refine Rg.takeS (i := 2) (oi := { dst := some 10, op := Op.load 3 (Operand.tmp 9), type := 3, pos := "number.go:398", after := #[{ on := 1, ground := Ground.data }], guard := none }) (v := ?_) rfl (by kernel_rfl) (fun _ _ _ h => h) (by rfl) HS ?_ ?_
  rotate_left 1
  · (intro w hSw; (try dsimp only at hSw); (try go_split_ands); go_simp; (try with_reducible rfl))
  try simp only [Act.put, List.setIfInBounds_toArray, List.set_cons_zero, List.set_cons_succ]
  refine Rg.takeP (i := 3) (oi := { dst := some 11, op := Op.fieldAddr 29 (Operand.tmp 4) 1, type := 0, pos := "number.go:398", after := #[], guard := none }) (v := ?_) rfl (by kernel_rfl) (fun _ _ _ h => h) (by rfl) ?_ ?_
  rotate_left 1
  · (intro w; go_simp; (try with_reducible rfl))
  try simp only [Act.put, List.setIfInBounds_toArray, List.set_cons_zero, List.set_cons_succ]
  refine Rg.takeS (i := 4) (oi := { dst := some 12, op := Op.load 3 (Operand.tmp 11), type := 3, pos := "number.go:398", after := #[{ on := 3, ground := Ground.data }], guard := none }) (v := ?_) rfl (by kernel_rfl) (fun _ _ _ h => h) (by rfl) HS ?_ ?_
  rotate_left 1
  · (intro w hSw; (try dsimp only at hSw); (try go_split_ands); go_simp; (try with_reducible rfl))
  try simp only [Act.put, List.setIfInBounds_toArray, List.set_cons_zero, List.set_cons_succ]
  refine Rg.takeP (i := 6) (oi := { dst := some 14, op := Op.move (Operand.tmp 2), type := 3, pos := "number.go:398", after := #[], guard := none }) (v := ?_) rfl (by kernel_rfl) (fun _ _ _ h => h) (by rfl) ?_ ?_
  rotate_left 1
  · (intro w; go_simp; (try with_reducible rfl))
  try simp only [Act.put, List.setIfInBounds_toArray, List.set_cons_zero, List.set_cons_succ]
  refine Rg.takeP (i := 7) (oi := { dst := some 15, op := Op.fieldAddr 29 (Operand.tmp 4) 2, type := 0, pos := "number.go:398", after := #[], guard := none }) (v := ?_) rfl (by kernel_rfl) (fun _ _ _ h => h) (by rfl) ?_ ?_
  rotate_left 1
  · (intro w; go_simp; (try with_reducible rfl))
  try simp only [Act.put, List.setIfInBounds_toArray, List.set_cons_zero, List.set_cons_succ]
  refine Rg.takeS (i := 8) (oi := { dst := some 16, op := Op.load 3 (Operand.tmp 15), type := 3, pos := "number.go:398", after := #[{ on := 7, ground := Ground.data }], guard := none }) (v := ?_) rfl (by kernel_rfl) (fun _ _ _ h => h) (by rfl) HS ?_ ?_
  rotate_left 1
  · (intro w hSw; (try dsimp only at hSw); (try go_split_ands); go_simp; (try with_reducible rfl))
  try simp only [Act.put, List.setIfInBounds_toArray, List.set_cons_zero, List.set_cons_succ]
  refine Rg.takeP (i := 9) (oi := { dst := some 17, op := Op.fieldAddr 29 (Operand.tmp 4) 3, type := 0, pos := "number.go:398", after := #[], guard := none }) (v := ?_) rfl (by kernel_rfl) (fun _ _ _ h => h) (by rfl) ?_ ?_
  rotate_left 1
  · (intro w; go_simp; (try with_reducible rfl))
  try simp only [Act.put, List.setIfInBounds_toArray, List.set_cons_zero, List.set_cons_succ]
  refine Rg.takeS (i := 10) (oi := { dst := some 18, op := Op.load 3 (Operand.tmp 17), type := 3, pos := "number.go:398", after := #[{ on := 9, ground := Ground.data }], guard := none }) (v := ?_) rfl (by kernel_rfl) (fun _ _ _ h => h) (by rfl) HS ?_ ?_
  rotate_left 1
  · (intro w hSw; (try dsimp only at hSw); (try go_split_ands); go_simp; (try with_reducible rfl))
  try simp only [Act.put, List.setIfInBounds_toArray, List.set_cons_zero, List.set_cons_succ]
  refine Rg.oneR (i := 5) (oi := { dst := some 13, op := Op.call { callee := Callee.value (Operand.func 55), args := #[Operand.tmp 8, Operand.tmp 10, Operand.tmp 12], argTypes := #[23, 3, 3] }, type := 23, pos := "number.go:398", after := #[{ on := 0, ground := Ground.data }, { on := 2, ground := Ground.data }, { on := 4, ground := Ground.data }], guard := none }) rfl (by kernel_rfl) ?_
  refine Rg.stepS ?_
  intro K hK
  rw [if_pos (by rfl)]
  go_simp
  go_at_call 55
  refine (refpredict_any ⟨X, V, P00, P01, P11, bent, missed⟩ dt q _ HS0.out HD.out HK.out).mono ?_
  rintro e w1 ⟨rfl, hb⟩
  rw [HP.out]
  simp only [stV, stC]
  have HST := Lib.hid (HST.out.below hb HST.out.lt)
  have HU := Lib.hid (HU.out.below hb HU.out.lt)
  have HR := Lib.hid (HR.out.below hb HR.out.lt)
  have HB := Lib.hid (onward HB.out (Nat.le_refl _) hb)
  clear hb HS
  have HS := And.intro HST.out (And.intro ((Blk.cell HU.out 0).trans rfl) (And.intro ((Blk.cell HU.out 1).trans rfl) (And.intro ((Blk.cell HU.out 2).trans rfl) ((Blk.cell HU.out 3).trans rfl))))
  go_wp2_with fail
  refine hK.out _ _ HS ?_
  clear hK K
  try simp only [Act.put, List.setIfInBounds_toArray, List.set_cons_zero, List.set_cons_succ]
  refine Rg.oneR (i := 11) (oi := { dst := some 19, op := Op.call { callee := Callee.value (Operand.func 16), args := #[Operand.tmp 13, Operand.tmp 14, Operand.tmp 16, Operand.tmp 18], argTypes := #[23, 3, 3, 3] }, type := 24, pos := "number.go:398", after := #[{ on := 5, ground := Ground.data }, { on := 6, ground := Ground.data }, { on := 8, ground := Ground.data }, { on := 10, ground := Ground.data }, { on := 5, ground := Ground.chain }], guard := none }) rfl (by kernel_rfl) ?_
  refine Rg.stepF ?_ ?_
  · kernel_rfl
  intro K hK
  rw [if_pos (by rfl)]
  go_simp
  go_at_call 16
  refine (refupdate_any ⟨PX, PV, PA, PB, PC, pb, pm⟩ z r gate _ HI.out HZ.out HL.out HG.out).mono ?_
  rintro e w1 ⟨rfl, hb⟩
  rw [HQ.out]
  simp only [stV, stC]
  have HST := Lib.hid (HST.out.below hb HST.out.lt)
  have HU := Lib.hid (HU.out.below hb HU.out.lt)
  have HR := Lib.hid (HR.out.below hb HR.out.lt)
  have HB := Lib.hid (onward HB.out (Nat.le_refl _) hb)
  clear hb HS
  have HS := And.intro HST.out (And.intro ((Blk.cell HU.out 0).trans rfl) (And.intro ((Blk.cell HU.out 1).trans rfl) (And.intro ((Blk.cell HU.out 2).trans rfl) ((Blk.cell HU.out 3).trans rfl))))
  go_wp2_with fail
  refine hK.out _ _ ?_
  clear hK K
  try simp only [Act.put, List.setIfInBounds_toArray, List.set_cons_zero, List.set_cons_succ]
  refine Rg.takeP (i := 12) (oi := { dst := some 20, op := Op.extract (Operand.tmp 19) 0, type := 23, pos := "number.go:398", after := #[{ on := 11, ground := Ground.data }], guard := none }) (v := ?_) rfl (by kernel_rfl) (fun _ _ _ h => h) (by rfl) ?_ ?_
  rotate_left 1
  · (intro w; go_simp; (try with_reducible rfl))
  try simp only [Act.put, List.setIfInBounds_toArray, List.set_cons_zero, List.set_cons_succ]
  refine Rg.takeP (i := 13) (oi := { dst := some 21, op := Op.extract (Operand.tmp 19) 1, type := 4, pos := "number.go:398", after := #[{ on := 11, ground := Ground.data }], guard := none }) (v := ?_) rfl (by kernel_rfl) (fun _ _ _ h => h) (by rfl) ?_ ?_
  rotate_left 1
  · (intro w; go_simp; (try with_reducible rfl))
  try simp only [Act.put, List.setIfInBounds_toArray, List.set_cons_zero, List.set_cons_succ]
  refine Rg.oneR (i := 14) (oi := { dst := none, op := Op.store 23 (Operand.tmp 6) (Operand.tmp 20), type := 0, pos := "number.go:398", after := #[{ on := 12, ground := Ground.data }, { on := 11, ground := Ground.chain }, { on := 0, ground := Ground.phase }, { on := 1, ground := Ground.phase }, { on := 2, ground := Ground.phase }, { on := 3, ground := Ground.phase }, { on := 4, ground := Ground.phase }, { on := 5, ground := Ground.phase }, { on := 6, ground := Ground.phase }, { on := 7, ground := Ground.phase }, { on := 8, ground := Ground.phase }, { on := 9, ground := Ground.phase }, { on := 10, ground := Ground.phase }, { on := 11, ground := Ground.phase }, { on := 12, ground := Ground.phase }, { on := 13, ground := Ground.phase }], guard := none }) rfl (by kernel_rfl) ?_
  refine Rg.stepF ?_ ?_
  · kernel_rfl
  intro K hK
  rw [if_pos (by rfl)]
  refine wp_store_row 23 _ _ rfl gr #[.int .i64 QX, .int .i64 QV, .int .i64 QA, .int .i64 QB, .int .i64 QC, .bool qb, .int .i64 qm] rfl rfl 23 _ HR.out (by kernel_rfl) rfl (by simp [Value.oneCell']) ?_
  refine hK.out _ _ ?_
  clear hK K
  try simp only [Act.put, List.setIfInBounds_toArray, List.set_cons_zero, List.set_cons_succ]
  refine Rg.takeP (i := 15) (oi := { dst := some 7, op := Op.assign (Operand.tmp 21), type := 4, pos := "number.go:398", after := #[{ on := 13, ground := Ground.data }, { on := 14, ground := Ground.chain }, { on := 0, ground := Ground.phase }, { on := 1, ground := Ground.phase }, { on := 2, ground := Ground.phase }, { on := 3, ground := Ground.phase }, { on := 4, ground := Ground.phase }, { on := 5, ground := Ground.phase }, { on := 6, ground := Ground.phase }, { on := 7, ground := Ground.phase }, { on := 8, ground := Ground.phase }, { on := 9, ground := Ground.phase }, { on := 10, ground := Ground.phase }, { on := 11, ground := Ground.phase }, { on := 12, ground := Ground.phase }, { on := 13, ground := Ground.phase }, { on := 14, ground := Ground.phase }], guard := none }) (v := ?_) rfl (by kernel_rfl) (fun _ _ _ h => h) (by rfl) ?_ ?_
  rotate_left 1
  · (intro w; go_simp; (try with_reducible rfl))
  try simp only [Act.put, List.setIfInBounds_toArray, List.set_cons_zero, List.set_cons_succ]
  refine Rg.doneR (by kernel_rfl) ?_ _
  refine NoPanic.normal ?_
  clear HS
  go_wp2_with fail
  refine ret_row2 (x := .bool qt) rfl rfl rfl (HR.out.setRow #[.int .i64 QX, .int .i64 QV, .int .i64 QA, .int .i64 QB, .int .i64 QC, .bool qb, .int .i64 qm]) ⟨by rw [Try.underlying23], by kernel_rfl⟩ rfl ?_
  rw [HF.out]
  exact ⟨rfl, below_setRow HB.out (by omega) _⟩
end Go.Proofs.Ytajhkbdaoakogaa.BigW
