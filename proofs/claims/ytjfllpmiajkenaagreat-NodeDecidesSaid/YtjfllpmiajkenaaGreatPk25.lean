import Derived.Test.YtjfllpmiajkenaaGreatPk22
import Derived.Test.YtjfllpmiajkenaaGreatPk24
import Derived.Test.YtjfllpmiajkenaaGreatPk7
import Derived.Test.YtjfllpmiajkenaaGreatPk15
namespace Go.Proofs.YtjfllpmiajkenaaGreat.BigW
open Go.RowKit Go.Proofs.YtjfllpmiajkenaaGreat.Mem Go.Proofs.YtjfllpmiajkenaaGreat.BigLaw
set_option linter.unusedVariables false
def fstep (s : St) (dt q r gate z : Int) : St × Bool := update (predict s dt q) z r gate
def tunC (dt q r gate : Int) : Array Value := #[.int .i64 dt, .int .i64 q, .int .i64 r, .int .i64 gate]
end Go.Proofs.YtjfllpmiajkenaaGreat.BigW
namespace Go.Proofs.YtjfllpmiajkenaaGreat.BigW
open Go.RowKit Go.Proofs.YtjfllpmiajkenaaGreat.Mem Go.Proofs.YtjfllpmiajkenaaGreat.BigLaw Go.Proofs.YtjfllpmiajkenaaGreat.Rws
set_option linter.unusedVariables false
set_option linter.unusedSimpArgs false
set_option maxRecDepth 100000 in
set_option maxHeartbeats 8000000 in
theorem fstep_any (s : St) (dt q r gate z : Int) (w : World) (hs : StIn s) (r_dt : In64 dt) (r_q : In64 q) (r_r : In64 r) (r_gate : In64 gate) (r_z : In64 z) :
    Calls Tryz.prog 28 #[stV s, .agg (tunC dt q r gate), .int .i64 z] w fun e w' => GaveSt2 w w' (fstep s dt q r gate z) e := by
  obtain ⟨X, V, P00, P01, P11, bent, missed⟩ := s
  unfold stV stC tunC
  obtain ⟨⟨PX, PV, PA, PB, PC, pb, pm⟩, hp⟩ : ∃ p, predict ⟨X, V, P00, P01, P11, bent, missed⟩ dt q = p := ⟨_, rfl⟩
  have HP := Lib.hid hp
  have HI := Lib.hid (show StIn ⟨PX, PV, PA, PB, PC, pb, pm⟩ from by rw [← hp]; exact predict_in hs dt q)
  obtain ⟨⟨⟨QX, QV, QA, QB, QC, qb, qm⟩, qt⟩, hq⟩ : ∃ p, update ⟨PX, PV, PA, PB, PC, pb, pm⟩ z r gate = p := ⟨_, rfl⟩
  have HQ := Lib.hid hq
  have HF := Lib.hid (show fstep ⟨X, V, P00, P01, P11, bent, missed⟩ dt q r gate z = (⟨QX, QV, QA, QB, QC, qb, qm⟩, qt) from by unfold fstep; rw [hp, hq])
  have HS0 := Lib.hid hs
  have HD := Lib.hid r_dt
  have HK := Lib.hid r_q
  have HL := Lib.hid r_r
  have HG := Lib.hid r_gate
  have HZ := Lib.hid r_z
  clear hp hq hs r_dt r_q r_r r_gate r_z
  go_enter Tryz.func28, Tryz.ntmps28
  go_upto_region 1 with fail
  have HB := Lib.hid (show Below w.heap.size w (((w.alloc (.cells #[.int .i64 X, .int .i64 V, .int .i64 P00, .int .i64 P01, .int .i64 P11, .bool bent, .int .i64 missed] 25)).alloc (.cells #[.int .i64 dt, .int .i64 q, .int .i64 r, .int .i64 gate] 23)).alloc (.cells #[.int .i64 0, .int .i64 0, .int .i64 0, .int .i64 0, .int .i64 0, .bool false, .int .i64 0] 25)).drew from ((((Below.refl _ _).alloc (Nat.le_refl _) _).alloc (by simp) _).alloc (by simp; omega) _).drew)
  have HST := Lib.hid (show Blk (((w.alloc (.cells #[.int .i64 X, .int .i64 V, .int .i64 P00, .int .i64 P01, .int .i64 P11, .bool bent, .int .i64 missed] 25)).alloc (.cells #[.int .i64 dt, .int .i64 q, .int .i64 r, .int .i64 gate] 23)).alloc (.cells #[.int .i64 0, .int .i64 0, .int .i64 0, .int .i64 0, .int .i64 0, .bool false, .int .i64 0] 25)).drew w.heap.size 25 #[.int .i64 X, .int .i64 V, .int .i64 P00, .int .i64 P01, .int .i64 P11, .bool bent, .int .i64 missed] from (((Blk.new rfl).alloc _).alloc _).drew)
  have HU := Lib.hid (show Blk (((w.alloc (.cells #[.int .i64 X, .int .i64 V, .int .i64 P00, .int .i64 P01, .int .i64 P11, .bool bent, .int .i64 missed] 25)).alloc (.cells #[.int .i64 dt, .int .i64 q, .int .i64 r, .int .i64 gate] 23)).alloc (.cells #[.int .i64 0, .int .i64 0, .int .i64 0, .int .i64 0, .int .i64 0, .bool false, .int .i64 0] 25)).drew (w.heap.size + 1) 23 #[.int .i64 dt, .int .i64 q, .int .i64 r, .int .i64 gate] from ((Blk.new (by simp)).alloc _).drew)
  have HR := Lib.hid (show Blk (((w.alloc (.cells #[.int .i64 X, .int .i64 V, .int .i64 P00, .int .i64 P01, .int .i64 P11, .bool bent, .int .i64 missed] 25)).alloc (.cells #[.int .i64 dt, .int .i64 q, .int .i64 r, .int .i64 gate] 23)).alloc (.cells #[.int .i64 0, .int .i64 0, .int .i64 0, .int .i64 0, .int .i64 0, .bool false, .int .i64 0] 25)).drew (w.heap.size + 1 + 1) 25 #[.int .i64 0, .int .i64 0, .int .i64 0, .int .i64 0, .int .i64 0, .bool false, .int .i64 0] from (Blk.new (by simp)).drew)
  refine wp_region_noPanic ?_
  generalize (((w.alloc (.cells #[.int .i64 X, .int .i64 V, .int .i64 P00, .int .i64 P01, .int .i64 P11, .bool bent, .int .i64 missed] 25)).alloc (.cells #[.int .i64 dt, .int .i64 q, .int .i64 r, .int .i64 gate] 23)).alloc (.cells #[.int .i64 0, .int .i64 0, .int .i64 0, .int .i64 0, .int .i64 0, .bool false, .int .i64 0] 25)) = w1 at *
  obtain ⟨gr, hgr⟩ : ∃ g, w.heap.size + 1 + 1 = g := ⟨_, rfl⟩
  rw [hgr] at HR ⊢
  obtain ⟨gu, hgu⟩ : ∃ g, w.heap.size + 1 = g := ⟨_, rfl⟩
  rw [hgu] at HU ⊢
  have HS := And.intro HST.out (And.intro ((Blk.cell HU.out 0).trans rfl) (And.intro ((Blk.cell HU.out 1).trans rfl) (And.intro ((Blk.cell HU.out 2).trans rfl) ((Blk.cell HU.out 3).trans rfl))))
  refine Rg.beginR [0, 2, 4, 8, 10] (fun w' => Blk w' w.heap.size 25 #[.int .i64 X, .int .i64 V, .int .i64 P00, .int .i64 P01, .int .i64 P11, .bool bent, .int .i64 missed] ∧ w'.cell? ⟨gu, 0, none⟩ = some (.int .i64 dt) ∧ w'.cell? ⟨gu, 1, none⟩ = some (.int .i64 q) ∧ w'.cell? ⟨gu, 2, none⟩ = some (.int .i64 r) ∧ w'.cell? ⟨gu, 3, none⟩ = some (.int .i64 gate)) (by kernel_rfl) ?_
  generalize w1.drew = w1 at *
  refine Rg.takeS (i := 0) (oi := { dst := some 8, op := Op.load 25 (Operand.tmp 3), type := 25, pos := "filter.go:63", after := #[], guard := none }) (v := .agg #[.int .i64 X, .int .i64 V, .int .i64 P00, .int .i64 P01, .int .i64 P11, .bool bent, .int .i64 missed]) rfl (by kernel_rfl) (fun _ _ _ h => h) (by rfl) HS ?_ ?_
  · (intro w' hSw; exact exec_load_st 25 (.tmp 3) rfl w.heap.size rfl hSw.1 Tryz.underlying25 rfl (by kernel_rfl))
  try simp only [Act.put, List.setIfInBounds_toArray, List.set_cons_zero, List.set_cons_succ]
  refine Rg.takeP (i := 1) (oi := { dst := some 9, op := Op.fieldAddr 23 (Operand.tmp 4) 0, type := 0, pos := "filter.go:63", after := #[], guard := none }) (v := ?_) rfl (by kernel_rfl) (fun _ _ _ h => h) (by rfl) ?_ ?_
  rotate_left 1
  · (intro w; go_simp; (try with_reducible rfl))
  try simp only [Act.put, List.setIfInBounds_toArray, List.set_cons_zero, List.set_cons_succ]
  refine Rg.takeS (i := 2) (oi := { dst := some 10, op := Op.load 3 (Operand.tmp 9), type := 3, pos := "filter.go:63", after := #[{ on := 1, ground := Ground.data }], guard := none }) (v := ?_) rfl (by kernel_rfl) (fun _ _ _ h => h) (by rfl) HS ?_ ?_
  rotate_left 1
  · (intro w hSw; (try dsimp only at hSw); (try go_split_ands); go_simp; (try with_reducible rfl))
  try simp only [Act.put, List.setIfInBounds_toArray, List.set_cons_zero, List.set_cons_succ]
  refine Rg.takeP (i := 3) (oi := { dst := some 11, op := Op.fieldAddr 23 (Operand.tmp 4) 1, type := 0, pos := "filter.go:63", after := #[], guard := none }) (v := ?_) rfl (by kernel_rfl) (fun _ _ _ h => h) (by rfl) ?_ ?_
  rotate_left 1
  · (intro w; go_simp; (try with_reducible rfl))
  try simp only [Act.put, List.setIfInBounds_toArray, List.set_cons_zero, List.set_cons_succ]
  refine Rg.takeS (i := 4) (oi := { dst := some 12, op := Op.load 3 (Operand.tmp 11), type := 3, pos := "filter.go:63", after := #[{ on := 3, ground := Ground.data }], guard := none }) (v := ?_) rfl (by kernel_rfl) (fun _ _ _ h => h) (by rfl) HS ?_ ?_
  rotate_left 1
  · (intro w hSw; (try dsimp only at hSw); (try go_split_ands); go_simp; (try with_reducible rfl))
  try simp only [Act.put, List.setIfInBounds_toArray, List.set_cons_zero, List.set_cons_succ]
  refine Rg.takeP (i := 6) (oi := { dst := some 14, op := Op.move (Operand.tmp 2), type := 3, pos := "filter.go:63", after := #[], guard := none }) (v := ?_) rfl (by kernel_rfl) (fun _ _ _ h => h) (by rfl) ?_ ?_
  rotate_left 1
  · (intro w; go_simp; (try with_reducible rfl))
  try simp only [Act.put, List.setIfInBounds_toArray, List.set_cons_zero, List.set_cons_succ]
  refine Rg.takeP (i := 7) (oi := { dst := some 15, op := Op.fieldAddr 23 (Operand.tmp 4) 2, type := 0, pos := "filter.go:63", after := #[], guard := none }) (v := ?_) rfl (by kernel_rfl) (fun _ _ _ h => h) (by rfl) ?_ ?_
  rotate_left 1
  · (intro w; go_simp; (try with_reducible rfl))
  try simp only [Act.put, List.setIfInBounds_toArray, List.set_cons_zero, List.set_cons_succ]
  refine Rg.takeS (i := 8) (oi := { dst := some 16, op := Op.load 3 (Operand.tmp 15), type := 3, pos := "filter.go:63", after := #[{ on := 7, ground := Ground.data }], guard := none }) (v := ?_) rfl (by kernel_rfl) (fun _ _ _ h => h) (by rfl) HS ?_ ?_
  rotate_left 1
  · (intro w hSw; (try dsimp only at hSw); (try go_split_ands); go_simp; (try with_reducible rfl))
  try simp only [Act.put, List.setIfInBounds_toArray, List.set_cons_zero, List.set_cons_succ]
  refine Rg.takeP (i := 9) (oi := { dst := some 17, op := Op.fieldAddr 23 (Operand.tmp 4) 3, type := 0, pos := "filter.go:63", after := #[], guard := none }) (v := ?_) rfl (by kernel_rfl) (fun _ _ _ h => h) (by rfl) ?_ ?_
  rotate_left 1
  · (intro w; go_simp; (try with_reducible rfl))
  try simp only [Act.put, List.setIfInBounds_toArray, List.set_cons_zero, List.set_cons_succ]
  refine Rg.takeS (i := 10) (oi := { dst := some 18, op := Op.load 3 (Operand.tmp 17), type := 3, pos := "filter.go:63", after := #[{ on := 9, ground := Ground.data }], guard := none }) (v := ?_) rfl (by kernel_rfl) (fun _ _ _ h => h) (by rfl) HS ?_ ?_
  rotate_left 1
  · (intro w hSw; (try dsimp only at hSw); (try go_split_ands); go_simp; (try with_reducible rfl))
  try simp only [Act.put, List.setIfInBounds_toArray, List.set_cons_zero, List.set_cons_succ]
  refine Rg.oneR (i := 5) (oi := { dst := some 13, op := Op.call { callee := Callee.value (Operand.func 58), args := #[Operand.tmp 8, Operand.tmp 10, Operand.tmp 12], argTypes := #[25, 3, 3] }, type := 25, pos := "filter.go:63", after := #[{ on := 0, ground := Ground.data }, { on := 2, ground := Ground.data }, { on := 4, ground := Ground.data }], guard := none }) rfl (by kernel_rfl) ?_
  refine Rg.stepS ?_
  intro K hK
  rw [if_pos (by rfl)]
  go_simp
  go_at_call 58
  refine (predict_any ⟨X, V, P00, P01, P11, bent, missed⟩ dt q _ HS0.out HD.out HK.out).mono ?_
  rintro e w1 ⟨rfl, hb⟩
  rw [HP.out]
  simp only [stV, stC]
  have HST := Lib.hid (HST.out.below hb HST.out.lt)
  have HU := Lib.hid (HU.out.below hb HU.out.lt)
  have HR := Lib.hid (HR.out.below hb HR.out.lt)
  have HB := Lib.hid (onward HB.out (Nat.le_refl _) hb)
  clear hb HS
  have HS := And.intro HST.out (And.intro ((Blk.cell HU.out 0).trans rfl) (And.intro ((Blk.cell HU.out 1).trans rfl) (And.intro ((Blk.cell HU.out 2).trans rfl) ((Blk.cell HU.out 3).trans rfl))))
  go_wp2_with fail
  refine hK.out _ _ HS ?_
  clear hK K
  try simp only [Act.put, List.setIfInBounds_toArray, List.set_cons_zero, List.set_cons_succ]
  refine Rg.oneR (i := 11) (oi := { dst := some 19, op := Op.call { callee := Callee.value (Operand.func 57), args := #[Operand.tmp 13, Operand.tmp 14, Operand.tmp 16, Operand.tmp 18], argTypes := #[25, 3, 3, 3] }, type := 76, pos := "filter.go:63", after := #[{ on := 5, ground := Ground.data }, { on := 6, ground := Ground.data }, { on := 8, ground := Ground.data }, { on := 10, ground := Ground.data }, { on := 5, ground := Ground.chain }], guard := none }) rfl (by kernel_rfl) ?_
  refine Rg.stepF ?_ ?_
  · kernel_rfl
  intro K hK
  rw [if_pos (by rfl)]
  go_simp
  go_at_call 57
  refine (update_any ⟨PX, PV, PA, PB, PC, pb, pm⟩ z r gate _ HI.out HZ.out HL.out HG.out).mono ?_
  rintro e w1 ⟨rfl, hb⟩
  rw [HQ.out]
  simp only [stV, stC]
  have HST := Lib.hid (HST.out.below hb HST.out.lt)
  have HU := Lib.hid (HU.out.below hb HU.out.lt)
  have HR := Lib.hid (HR.out.below hb HR.out.lt)
  have HB := Lib.hid (onward HB.out (Nat.le_refl _) hb)
  clear hb HS
  have HS := And.intro HST.out (And.intro ((Blk.cell HU.out 0).trans rfl) (And.intro ((Blk.cell HU.out 1).trans rfl) (And.intro ((Blk.cell HU.out 2).trans rfl) ((Blk.cell HU.out 3).trans rfl))))
  go_wp2_with fail
  refine hK.out _ _ ?_
  clear hK K
  try simp only [Act.put, List.setIfInBounds_toArray, List.set_cons_zero, List.set_cons_succ]
  refine Rg.takeP (i := 12) (oi := { dst := some 20, op := Op.extract (Operand.tmp 19) 0, type := 25, pos := "filter.go:63", after := #[{ on := 11, ground := Ground.data }], guard := none }) (v := ?_) rfl (by kernel_rfl) (fun _ _ _ h => h) (by rfl) ?_ ?_
  rotate_left 1
  · (intro w; go_simp; (try with_reducible rfl))
  try simp only [Act.put, List.setIfInBounds_toArray, List.set_cons_zero, List.set_cons_succ]
  refine Rg.takeP (i := 13) (oi := { dst := some 21, op := Op.extract (Operand.tmp 19) 1, type := 4, pos := "filter.go:63", after := #[{ on := 11, ground := Ground.data }], guard := none }) (v := ?_) rfl (by kernel_rfl) (fun _ _ _ h => h) (by rfl) ?_ ?_
  rotate_left 1
  · (intro w; go_simp; (try with_reducible rfl))
  try simp only [Act.put, List.setIfInBounds_toArray, List.set_cons_zero, List.set_cons_succ]
  refine Rg.oneR (i := 14) (oi := { dst := none, op := Op.store 25 (Operand.tmp 6) (Operand.tmp 20), type := 0, pos := "filter.go:63", after := #[{ on := 12, ground := Ground.data }, { on := 11, ground := Ground.chain }, { on := 0, ground := Ground.phase }, { on := 1, ground := Ground.phase }, { on := 2, ground := Ground.phase }, { on := 3, ground := Ground.phase }, { on := 4, ground := Ground.phase }, { on := 5, ground := Ground.phase }, { on := 6, ground := Ground.phase }, { on := 7, ground := Ground.phase }, { on := 8, ground := Ground.phase }, { on := 9, ground := Ground.phase }, { on := 10, ground := Ground.phase }, { on := 11, ground := Ground.phase }, { on := 12, ground := Ground.phase }, { on := 13, ground := Ground.phase }], guard := none }) rfl (by kernel_rfl) ?_
  refine Rg.stepF ?_ ?_
  · kernel_rfl
  intro K hK
  rw [if_pos (by rfl)]
  refine wp_store_row 25 _ _ rfl gr #[.int .i64 QX, .int .i64 QV, .int .i64 QA, .int .i64 QB, .int .i64 QC, .bool qb, .int .i64 qm] rfl rfl 25 _ HR.out (by kernel_rfl) rfl (by simp [Value.oneCell']) ?_
  refine hK.out _ _ ?_
  clear hK K
  try simp only [Act.put, List.setIfInBounds_toArray, List.set_cons_zero, List.set_cons_succ]
  refine Rg.takeP (i := 15) (oi := { dst := some 7, op := Op.assign (Operand.tmp 21), type := 4, pos := "filter.go:63", after := #[{ on := 13, ground := Ground.data }, { on := 14, ground := Ground.chain }, { on := 0, ground := Ground.phase }, { on := 1, ground := Ground.phase }, { on := 2, ground := Ground.phase }, { on := 3, ground := Ground.phase }, { on := 4, ground := Ground.phase }, { on := 5, ground := Ground.phase }, { on := 6, ground := Ground.phase }, { on := 7, ground := Ground.phase }, { on := 8, ground := Ground.phase }, { on := 9, ground := Ground.phase }, { on := 10, ground := Ground.phase }, { on := 11, ground := Ground.phase }, { on := 12, ground := Ground.phase }, { on := 13, ground := Ground.phase }, { on := 14, ground := Ground.phase }], guard := none }) (v := ?_) rfl (by kernel_rfl) (fun _ _ _ h => h) (by rfl) ?_ ?_
  rotate_left 1
  · (intro w; go_simp; (try with_reducible rfl))
  try simp only [Act.put, List.setIfInBounds_toArray, List.set_cons_zero, List.set_cons_succ]
  refine Rg.doneR (by kernel_rfl) ?_ _
  refine NoPanic.normal ?_
  clear HS
  go_wp2_with fail
  refine ret_row2 (x := .bool qt) rfl rfl rfl (HR.out.setRow #[.int .i64 QX, .int .i64 QV, .int .i64 QA, .int .i64 QB, .int .i64 QC, .bool qb, .int .i64 qm]) ⟨by rw [Tryz.underlying25], by kernel_rfl⟩ rfl ?_
  rw [HF.out]
  exact ⟨rfl, below_setRow HB.out (by omega) _⟩
set_option maxRecDepth 100000 in
set_option maxHeartbeats 8000000 in
theorem reffstep_any (s : St) (dt q r gate z : Int) (w : World) (hs : StIn s) (r_dt : In64 dt) (r_q : In64 q) (r_r : In64 r) (r_gate : In64 gate) (r_z : In64 z) :
    Calls Tryz.prog 35 #[stV s, .agg (tunC dt q r gate), .int .i64 z] w fun e w' => GaveSt2 w w' (fstep s dt q r gate z) e := by
  obtain ⟨X, V, P00, P01, P11, bent, missed⟩ := s
  unfold stV stC tunC
  obtain ⟨⟨PX, PV, PA, PB, PC, pb, pm⟩, hp⟩ : ∃ p, predict ⟨X, V, P00, P01, P11, bent, missed⟩ dt q = p := ⟨_, rfl⟩
  have HP := Lib.hid hp
  have HI := Lib.hid (show StIn ⟨PX, PV, PA, PB, PC, pb, pm⟩ from by rw [← hp]; exact predict_in hs dt q)
  obtain ⟨⟨⟨QX, QV, QA, QB, QC, qb, qm⟩, qt⟩, hq⟩ : ∃ p, update ⟨PX, PV, PA, PB, PC, pb, pm⟩ z r gate = p := ⟨_, rfl⟩
  have HQ := Lib.hid hq
  have HF := Lib.hid (show fstep ⟨X, V, P00, P01, P11, bent, missed⟩ dt q r gate z = (⟨QX, QV, QA, QB, QC, qb, qm⟩, qt) from by unfold fstep; rw [hp, hq])
  have HS0 := Lib.hid hs
  have HD := Lib.hid r_dt
  have HK := Lib.hid r_q
  have HL := Lib.hid r_r
  have HG := Lib.hid r_gate
  have HZ := Lib.hid r_z
  clear hp hq hs r_dt r_q r_r r_gate r_z
  go_enter Tryz.func35, Tryz.ntmps35
  go_upto_region 1 with fail
  have HB := Lib.hid (show Below w.heap.size w (((w.alloc (.cells #[.int .i64 X, .int .i64 V, .int .i64 P00, .int .i64 P01, .int .i64 P11, .bool bent, .int .i64 missed] 25)).alloc (.cells #[.int .i64 dt, .int .i64 q, .int .i64 r, .int .i64 gate] 23)).alloc (.cells #[.int .i64 0, .int .i64 0, .int .i64 0, .int .i64 0, .int .i64 0, .bool false, .int .i64 0] 25)).drew from ((((Below.refl _ _).alloc (Nat.le_refl _) _).alloc (by simp) _).alloc (by simp; omega) _).drew)
  have HST := Lib.hid (show Blk (((w.alloc (.cells #[.int .i64 X, .int .i64 V, .int .i64 P00, .int .i64 P01, .int .i64 P11, .bool bent, .int .i64 missed] 25)).alloc (.cells #[.int .i64 dt, .int .i64 q, .int .i64 r, .int .i64 gate] 23)).alloc (.cells #[.int .i64 0, .int .i64 0, .int .i64 0, .int .i64 0, .int .i64 0, .bool false, .int .i64 0] 25)).drew w.heap.size 25 #[.int .i64 X, .int .i64 V, .int .i64 P00, .int .i64 P01, .int .i64 P11, .bool bent, .int .i64 missed] from (((Blk.new rfl).alloc _).alloc _).drew)
  have HU := Lib.hid (show Blk (((w.alloc (.cells #[.int .i64 X, .int .i64 V, .int .i64 P00, .int .i64 P01, .int .i64 P11, .bool bent, .int .i64 missed] 25)).alloc (.cells #[.int .i64 dt, .int .i64 q, .int .i64 r, .int .i64 gate] 23)).alloc (.cells #[.int .i64 0, .int .i64 0, .int .i64 0, .int .i64 0, .int .i64 0, .bool false, .int .i64 0] 25)).drew (w.heap.size + 1) 23 #[.int .i64 dt, .int .i64 q, .int .i64 r, .int .i64 gate] from ((Blk.new (by simp)).alloc _).drew)
  have HR := Lib.hid (show Blk (((w.alloc (.cells #[.int .i64 X, .int .i64 V, .int .i64 P00, .int .i64 P01, .int .i64 P11, .bool bent, .int .i64 missed] 25)).alloc (.cells #[.int .i64 dt, .int .i64 q, .int .i64 r, .int .i64 gate] 23)).alloc (.cells #[.int .i64 0, .int .i64 0, .int .i64 0, .int .i64 0, .int .i64 0, .bool false, .int .i64 0] 25)).drew (w.heap.size + 1 + 1) 25 #[.int .i64 0, .int .i64 0, .int .i64 0, .int .i64 0, .int .i64 0, .bool false, .int .i64 0] from (Blk.new (by simp)).drew)
  refine wp_region_noPanic ?_
  generalize (((w.alloc (.cells #[.int .i64 X, .int .i64 V, .int .i64 P00, .int .i64 P01, .int .i64 P11, .bool bent, .int .i64 missed] 25)).alloc (.cells #[.int .i64 dt, .int .i64 q, .int .i64 r, .int .i64 gate] 23)).alloc (.cells #[.int .i64 0, .int .i64 0, .int .i64 0, .int .i64 0, .int .i64 0, .bool false, .int .i64 0] 25)) = w1 at *
  obtain ⟨gr, hgr⟩ : ∃ g, w.heap.size + 1 + 1 = g := ⟨_, rfl⟩
  rw [hgr] at HR ⊢
  obtain ⟨gu, hgu⟩ : ∃ g, w.heap.size + 1 = g := ⟨_, rfl⟩
  rw [hgu] at HU ⊢
  have HS := And.intro HST.out (And.intro ((Blk.cell HU.out 0).trans rfl) (And.intro ((Blk.cell HU.out 1).trans rfl) (And.intro ((Blk.cell HU.out 2).trans rfl) ((Blk.cell HU.out 3).trans rfl))))
  refine Rg.beginR [0, 2, 4, 8, 10] (fun w' => Blk w' w.heap.size 25 #[.int .i64 X, .int .i64 V, .int .i64 P00, .int .i64 P01, .int .i64 P11, .bool bent, .int .i64 missed] ∧ w'.cell? ⟨gu, 0, none⟩ = some (.int .i64 dt) ∧ w'.cell? ⟨gu, 1, none⟩ = some (.int .i64 q) ∧ w'.cell? ⟨gu, 2, none⟩ = some (.int .i64 r) ∧ w'.cell? ⟨gu, 3, none⟩ = some (.int .i64 gate)) (by kernel_rfl) ?_
  generalize w1.drew = w1 at *
  refine Rg.takeS (i := 0) (oi := { dst := some 8, op := Op.load 25 (Operand.tmp 3), type := 25, pos := "number.go:398", after := #[], guard := none }) (v := .agg #[.int .i64 X, .int .i64 V, .int .i64 P00, .int .i64 P01, .int .i64 P11, .bool bent, .int .i64 missed]) rfl (by kernel_rfl) (fun _ _ _ h => h) (by rfl) HS ?_ ?_
  · (intro w' hSw; exact exec_load_st 25 (.tmp 3) rfl w.heap.size rfl hSw.1 Tryz.underlying25 rfl (by kernel_rfl))
  try simp only [Act.put, List.setIfInBounds_toArray, List.set_cons_zero, List.set_cons_succ]
  refine Rg.takeP (i := 1) (oi := { dst := some 9, op := Op.fieldAddr 23 (Operand.tmp 4) 0, type := 0, pos := "number.go:398", after := #[], guard := none }) (v := ?_) rfl (by kernel_rfl) (fun _ _ _ h => h) (by rfl) ?_ ?_
  rotate_left 1
  · (intro w; go_simp; (try with_reducible rfl))
  try simp only [Act.put, List.setIfInBounds_toArray, List.set_cons_zero, List.set_cons_succ]
  refine Rg.takeS (i := 2) (oi := { dst := some 10, op := Op.load 3 (Operand.tmp 9), type := 3, pos := "number.go:398", after := #[{ on := 1, ground := Ground.data }], guard := none }) (v := ?_) rfl (by kernel_rfl) (fun _ _ _ h => h) (by rfl) HS ?_ ?_
  rotate_left 1
  · (intro w hSw; (try dsimp only at hSw); (try go_split_ands); go_simp; (try with_reducible rfl))
  try simp only [Act.put, List.setIfInBounds_toArray, List.set_cons_zero, List.set_cons_succ]
  refine Rg.takeP (i := 3) (oi := { dst := some 11, op := Op.fieldAddr 23 (Operand.tmp 4) 1, type := 0, pos := "number.go:398", after := #[], guard := none }) (v := ?_) rfl (by kernel_rfl) (fun _ _ _ h => h) (by rfl) ?_ ?_
  rotate_left 1
  · (intro w; go_simp; (try with_reducible rfl))
  try simp only [Act.put, List.setIfInBounds_toArray, List.set_cons_zero, List.set_cons_succ]
  refine Rg.takeS (i := 4) (oi := { dst := some 12, op := Op.load 3 (Operand.tmp 11), type := 3, pos := "number.go:398", after := #[{ on := 3, ground := Ground.data }], guard := none }) (v := ?_) rfl (by kernel_rfl) (fun _ _ _ h => h) (by rfl) HS ?_ ?_
  rotate_left 1
  · (intro w hSw; (try dsimp only at hSw); (try go_split_ands); go_simp; (try with_reducible rfl))
  try simp only [Act.put, List.setIfInBounds_toArray, List.set_cons_zero, List.set_cons_succ]
  refine Rg.takeP (i := 6) (oi := { dst := some 14, op := Op.move (Operand.tmp 2), type := 3, pos := "number.go:398", after := #[], guard := none }) (v := ?_) rfl (by kernel_rfl) (fun _ _ _ h => h) (by rfl) ?_ ?_
  rotate_left 1
  · (intro w; go_simp; (try with_reducible rfl))
  try simp only [Act.put, List.setIfInBounds_toArray, List.set_cons_zero, List.set_cons_succ]
  refine Rg.takeP (i := 7) (oi := { dst := some 15, op := Op.fieldAddr 23 (Operand.tmp 4) 2, type := 0, pos := "number.go:398", after := #[], guard := none }) (v := ?_) rfl (by kernel_rfl) (fun _ _ _ h => h) (by rfl) ?_ ?_
  rotate_left 1
  · (intro w; go_simp; (try with_reducible rfl))
  try simp only [Act.put, List.setIfInBounds_toArray, List.set_cons_zero, List.set_cons_succ]
  refine Rg.takeS (i := 8) (oi := { dst := some 16, op := Op.load 3 (Operand.tmp 15), type := 3, pos := "number.go:398", after := #[{ on := 7, ground := Ground.data }], guard := none }) (v := ?_) rfl (by kernel_rfl) (fun _ _ _ h => h) (by rfl) HS ?_ ?_
  rotate_left 1
  · (intro w hSw; (try dsimp only at hSw); (try go_split_ands); go_simp; (try with_reducible rfl))
  try simp only [Act.put, List.setIfInBounds_toArray, List.set_cons_zero, List.set_cons_succ]
  refine Rg.takeP (i := 9) (oi := { dst := some 17, op := Op.fieldAddr 23 (Operand.tmp 4) 3, type := 0, pos := "number.go:398", after := #[], guard := none }) (v := ?_) rfl (by kernel_rfl) (fun _ _ _ h => h) (by rfl) ?_ ?_
  rotate_left 1
  · (intro w; go_simp; (try with_reducible rfl))
  try simp only [Act.put, List.setIfInBounds_toArray, List.set_cons_zero, List.set_cons_succ]
  refine Rg.takeS (i := 10) (oi := { dst := some 18, op := Op.load 3 (Operand.tmp 17), type := 3, pos := "number.go:398", after := #[{ on := 9, ground := Ground.data }], guard := none }) (v := ?_) rfl (by kernel_rfl) (fun _ _ _ h => h) (by rfl) HS ?_ ?_
  rotate_left 1
  · (intro w hSw; (try dsimp only at hSw); (try go_split_ands); go_simp; (try with_reducible rfl))
  try simp only [Act.put, List.setIfInBounds_toArray, List.set_cons_zero, List.set_cons_succ]
  refine Rg.oneR (i := 5) (oi := { dst := some 13, op := Op.call { callee := Callee.value (Operand.func 69), args := #[Operand.tmp 8, Operand.tmp 10, Operand.tmp 12], argTypes := #[25, 3, 3] }, type := 25, pos := "number.go:398", after := #[{ on := 0, ground := Ground.data }, { on := 2, ground := Ground.data }, { on := 4, ground := Ground.data }], guard := none }) rfl (by kernel_rfl) ?_
  refine Rg.stepS ?_
  intro K hK
  rw [if_pos (by rfl)]
  go_simp
  go_at_call 69
  refine (refpredict_any ⟨X, V, P00, P01, P11, bent, missed⟩ dt q _ HS0.out HD.out HK.out).mono ?_
  rintro e w1 ⟨rfl, hb⟩
  rw [HP.out]
  simp only [stV, stC]
  have HST := Lib.hid (HST.out.below hb HST.out.lt)
  have HU := Lib.hid (HU.out.below hb HU.out.lt)
  have HR := Lib.hid (HR.out.below hb HR.out.lt)
  have HB := Lib.hid (onward HB.out (Nat.le_refl _) hb)
  clear hb HS
  have HS := And.intro HST.out (And.intro ((Blk.cell HU.out 0).trans rfl) (And.intro ((Blk.cell HU.out 1).trans rfl) (And.intro ((Blk.cell HU.out 2).trans rfl) ((Blk.cell HU.out 3).trans rfl))))
  go_wp2_with fail
  refine hK.out _ _ HS ?_
  clear hK K
  try simp only [Act.put, List.setIfInBounds_toArray, List.set_cons_zero, List.set_cons_succ]
  refine Rg.oneR (i := 11) (oi := { dst := some 19, op := Op.call { callee := Callee.value (Operand.func 68), args := #[Operand.tmp 13, Operand.tmp 14, Operand.tmp 16, Operand.tmp 18], argTypes := #[25, 3, 3, 3] }, type := 76, pos := "number.go:398", after := #[{ on := 5, ground := Ground.data }, { on := 6, ground := Ground.data }, { on := 8, ground := Ground.data }, { on := 10, ground := Ground.data }, { on := 5, ground := Ground.chain }], guard := none }) rfl (by kernel_rfl) ?_
  refine Rg.stepF ?_ ?_
  · kernel_rfl
  intro K hK
  rw [if_pos (by rfl)]
  go_simp
  go_at_call 68
  refine (refupdate_any ⟨PX, PV, PA, PB, PC, pb, pm⟩ z r gate _ HI.out HZ.out HL.out HG.out).mono ?_
  rintro e w1 ⟨rfl, hb⟩
  rw [HQ.out]
  simp only [stV, stC]
  have HST := Lib.hid (HST.out.below hb HST.out.lt)
  have HU := Lib.hid (HU.out.below hb HU.out.lt)
  have HR := Lib.hid (HR.out.below hb HR.out.lt)
  have HB := Lib.hid (onward HB.out (Nat.le_refl _) hb)
  clear hb HS
  have HS := And.intro HST.out (And.intro ((Blk.cell HU.out 0).trans rfl) (And.intro ((Blk.cell HU.out 1).trans rfl) (And.intro ((Blk.cell HU.out 2).trans rfl) ((Blk.cell HU.out 3).trans rfl))))
  go_wp2_with fail
  refine hK.out _ _ ?_
  clear hK K
  try simp only [Act.put, List.setIfInBounds_toArray, List.set_cons_zero, List.set_cons_succ]
  refine Rg.takeP (i := 12) (oi := { dst := some 20, op := Op.extract (Operand.tmp 19) 0, type := 25, pos := "number.go:398", after := #[{ on := 11, ground := Ground.data }], guard := none }) (v := ?_) rfl (by kernel_rfl) (fun _ _ _ h => h) (by rfl) ?_ ?_
  rotate_left 1
  · (intro w; go_simp; (try with_reducible rfl))
  try simp only [Act.put, List.setIfInBounds_toArray, List.set_cons_zero, List.set_cons_succ]
  refine Rg.takeP (i := 13) (oi := { dst := some 21, op := Op.extract (Operand.tmp 19) 1, type := 4, pos := "number.go:398", after := #[{ on := 11, ground := Ground.data }], guard := none }) (v := ?_) rfl (by kernel_rfl) (fun _ _ _ h => h) (by rfl) ?_ ?_
  rotate_left 1
  · (intro w; go_simp; (try with_reducible rfl))
  try simp only [Act.put, List.setIfInBounds_toArray, List.set_cons_zero, List.set_cons_succ]
  refine Rg.oneR (i := 14) (oi := { dst := none, op := Op.store 25 (Operand.tmp 6) (Operand.tmp 20), type := 0, pos := "number.go:398", after := #[{ on := 12, ground := Ground.data }, { on := 11, ground := Ground.chain }, { on := 0, ground := Ground.phase }, { on := 1, ground := Ground.phase }, { on := 2, ground := Ground.phase }, { on := 3, ground := Ground.phase }, { on := 4, ground := Ground.phase }, { on := 5, ground := Ground.phase }, { on := 6, ground := Ground.phase }, { on := 7, ground := Ground.phase }, { on := 8, ground := Ground.phase }, { on := 9, ground := Ground.phase }, { on := 10, ground := Ground.phase }, { on := 11, ground := Ground.phase }, { on := 12, ground := Ground.phase }, { on := 13, ground := Ground.phase }], guard := none }) rfl (by kernel_rfl) ?_
  refine Rg.stepF ?_ ?_
  · kernel_rfl
  intro K hK
  rw [if_pos (by rfl)]
  refine wp_store_row 25 _ _ rfl gr #[.int .i64 QX, .int .i64 QV, .int .i64 QA, .int .i64 QB, .int .i64 QC, .bool qb, .int .i64 qm] rfl rfl 25 _ HR.out (by kernel_rfl) rfl (by simp [Value.oneCell']) ?_
  refine hK.out _ _ ?_
  clear hK K
  try simp only [Act.put, List.setIfInBounds_toArray, List.set_cons_zero, List.set_cons_succ]
  refine Rg.takeP (i := 15) (oi := { dst := some 7, op := Op.assign (Operand.tmp 21), type := 4, pos := "number.go:398", after := #[{ on := 13, ground := Ground.data }, { on := 14, ground := Ground.chain }, { on := 0, ground := Ground.phase }, { on := 1, ground := Ground.phase }, { on := 2, ground := Ground.phase }, { on := 3, ground := Ground.phase }, { on := 4, ground := Ground.phase }, { on := 5, ground := Ground.phase }, { on := 6, ground := Ground.phase }, { on := 7, ground := Ground.phase }, { on := 8, ground := Ground.phase }, { on := 9, ground := Ground.phase }, { on := 10, ground := Ground.phase }, { on := 11, ground := Ground.phase }, { on := 12, ground := Ground.phase }, { on := 13, ground := Ground.phase }, { on := 14, ground := Ground.phase }], guard := none }) (v := ?_) rfl (by kernel_rfl) (fun _ _ _ h => h) (by rfl) ?_ ?_
  rotate_left 1
  · (intro w; go_simp; (try with_reducible rfl))
  try simp only [Act.put, List.setIfInBounds_toArray, List.set_cons_zero, List.set_cons_succ]
  refine Rg.doneR (by kernel_rfl) ?_ _
  refine NoPanic.normal ?_
  clear HS
  go_wp2_with fail
  refine ret_row2 (x := .bool qt) rfl rfl rfl (HR.out.setRow #[.int .i64 QX, .int .i64 QV, .int .i64 QA, .int .i64 QB, .int .i64 QC, .bool qb, .int .i64 qm]) ⟨by rw [Tryz.underlying25], by kernel_rfl⟩ rfl ?_
  rw [HF.out]
  exact ⟨rfl, below_setRow HB.out (by omega) _⟩
end Go.Proofs.YtjfllpmiajkenaaGreat.BigW
namespace Go.Proofs.YtjfllpmiajkenaaGreat.Nd
open Go.RowKit Go.Proofs.YtjfllpmiajkenaaGreat.Mem Go.Proofs.YtjfllpmiajkenaaGreat.Rws Go.Proofs.YtjfllpmiajkenaaGreat.Flat Go.Proofs.YtjfllpmiajkenaaGreat.Md Go.Proofs.YtjfllpmiajkenaaGreat.BigW
set_option linter.unusedVariables false
set_option linter.unusedSimpArgs false
def dirZ (f : Nat → Value) (j : Nat) : Int := iv (f (39 + j))
def agreedZ (k : Nat) (fr : Int) (ms : List Ms.Msg) (f : Nat → Value) (j : Nat) : Int := takenZ k (j / 3) (dirZ f j) j (fun i => Ms.firstOf (k : Int) fr 2 12 (i : Int) ms)
def stOf (f : Nat → Value) (a : Nat) : St := ⟨iv (f (6 + (a * 7 + 0))), iv (f (6 + (a * 7 + 1))), iv (f (6 + (a * 7 + 2))), iv (f (6 + (a * 7 + 3))), iv (f (6 + (a * 7 + 4))), bv (f (6 + (a * 7 + 5))), iv (f (6 + (a * 7 + 6)))⟩
def usedZ (f : Nat → Value) (z : Nat → Int) (a : Nat) : Int := (midZ (fuseL (inB f) (fun s => z (s * 3 + a)) 4)).1
def newSt (f : Nat → Value) (z : Nat → Int) (a : Nat) : St := (fstep (stOf f a) (iv (f 2)) (iv (f 3)) (iv (f 4)) (iv (f 5)) (usedZ f z a)).1
def stCell (s : St) (j : Nat) : Value := (stC s).getD j (.int .i64 0)
def decG (f : Nat → Value) (z : Nat → Int) (P : Nat → Bool) (n u i : Nat) : Value :=
  if 6 ≤ i ∧ i < 6 + n * 7 then stCell (newSt f z ((i - 6) / 7)) ((i - 6) % 7)
  else if 55 ≤ i ∧ i < 67 ∧ P (i - 55) = true then .int .i64 (z (i - 55))
  else if 67 ≤ i ∧ i < 67 + u then .int .i64 (usedZ f z (i - 67))
  else f i
def allP (_ : Nat) : Bool := true
def decF (k : Nat) (z : Nat → Int) (f : Nat → Value) (i : Nat) : Value := if i = 70 ∨ i = 51 + k then .int .i64 (digestZ (decG f z allP 3 3)) else decG f z allP 3 3 i
theorem stC_row (s : St) : stC s = row 7 (stCell s) := rfl
theorem st_load {f : Nat → Value} (hf : ∀ i, i < 73 → okT (nodeT i) (f i)) (a : Nat) (ha : a < 3) : (row 7 fun j => f (6 + (a * 7 + j))) = stC (stOf f a) := by
  obtain ⟨x0, x1, x2, x3, x4, x6, t, h, _⟩ := axis_cells hf a ha
  rw [h]
  unfold stOf
  have e : ∀ j (v : Value), (#[.int .i64 x0, .int .i64 x1, .int .i64 x2, .int .i64 x3, .int .i64 x4, .bool t, .int .i64 x6] : Array Value)[j]? = some v → j < 7 → f (6 + (a * 7 + j)) = v := fun j v hv hj => by
    rw [← h, row_at hj] at hv
    exact Option.some.inj hv
  rw [e 0 _ rfl (by omega), e 1 _ rfl (by omega), e 2 _ rfl (by omega), e 3 _ rfl (by omega), e 4 _ rfl (by omega), e 5 _ rfl (by omega), e 6 _ rfl (by omega)]
  rfl
theorem stCell_ok (s : St) (j : Nat) (hj : j < 7) : okT (!(j == 5)) (stCell s j) := by
  obtain rfl | rfl | rfl | rfl | rfl | rfl | rfl : j = 0 ∨ j = 1 ∨ j = 2 ∨ j = 3 ∨ j = 4 ∨ j = 5 ∨ j = 6 := by omega
  all_goals exact ⟨_, rfl⟩
theorem stCell_one (s : St) (j : Nat) (hj : j < 7) : (stCell s j).oneCell' = true := by
  obtain rfl | rfl | rfl | rfl | rfl | rfl | rfl : j = 0 ∨ j = 1 ∨ j = 2 ∨ j = 3 ∨ j = 4 ∨ j = 5 ∨ j = 6 := by omega
  all_goals rfl
theorem nodeT_ax (i : Nat) (h1 : 6 ≤ i) (h2 : i < 27) : nodeT i = !((i - 6) % 7 == 5) := by
  unfold nodeT
  rw [Bool.eq_iff_iff]
  simp
  omega
theorem ok_decG {f : Nat → Value} (hf : ∀ i, i < 73 → okT (nodeT i) (f i)) (z : Nat → Int) (P : Nat → Bool) (n u : Nat) (hn : n ≤ 3) (hu : u ≤ 3) : ∀ i, i < 73 → okT (nodeT i) (decG f z P n u i) := fun i hi => by
  unfold decG
  by_cases h1 : 6 ≤ i ∧ i < 6 + n * 7
  · rw [if_pos h1, nodeT_ax i h1.1 (by omega)]
    exact stCell_ok _ _ (Nat.mod_lt _ (by omega))
  · rw [if_neg h1]
    by_cases h2 : 55 ≤ i ∧ i < 67 ∧ P (i - 55) = true
    · rw [if_pos h2, show nodeT i = true by unfold nodeT; simp; omega]; exact ⟨_, rfl⟩
    · rw [if_neg h2]
      by_cases h3 : 67 ≤ i ∧ i < 67 + u
      · rw [if_pos h3, show nodeT i = true by unfold nodeT; simp; omega]; exact ⟨_, rfl⟩
      · rw [if_neg h3]; exact hf i hi
theorem ok_decF {f : Nat → Value} (hf : ∀ i, i < 73 → okT (nodeT i) (f i)) (k : Nat) (hk : k < 4) (z : Nat → Int) : ∀ i, i < 73 → okT (nodeT i) (decF k z f i) := fun i hi => by
  unfold decF
  split
  · rename_i h
    rw [show nodeT i = true by unfold nodeT; simp; omega]; exact ⟨_, rfl⟩
  · exact ok_decG hf z _ 3 3 (by omega) (by omega) i hi
theorem decG_start (f : Nat → Value) (z : Nat → Int) (P : Nat → Bool) (hP : ∀ j, j < 12 → P j = false) (S : Value) : row 74 (nodeW (decG f z P 0 0) S) = row 74 (nodeW f S) := row_congr fun i hi => by
  unfold nodeW decG
  by_cases h : i = 73
  · rw [if_pos h, if_pos h]
  · rw [if_neg h, if_neg h, if_neg (by omega), if_neg (fun h2 => by rw [hP (i - 55) (by omega)] at h2; cases h2.2.2), if_neg (by omega)]
theorem decG_agree (f : Nat → Value) (z : Nat → Int) (P P' : Nat → Bool) (n u : Nat) (hn : n ≤ 3) (j : Nat) (hj : j < 12) {v : Int} (hv : v = z j) (hP : ∀ x, x < 12 → P' x = (P x || x == j)) (S : Value) : (row 74 (nodeW (decG f z P n u) S)).setIfInBounds (55 + j) (.int .i64 v) = row 74 (nodeW (decG f z P' n u) S) := by
  rw [row_set]
  refine row_congr fun i hi => ?_
  by_cases e : i = 55 + j
  · subst e
    rw [if_pos rfl]
    unfold nodeW decG
    rw [if_neg (by omega), if_neg (by omega), if_pos ⟨by omega, by omega, by rw [Nat.add_sub_cancel_left, hP j hj]; simp⟩, Nat.add_sub_cancel_left, hv]
  · rw [if_neg e]
    unfold nodeW decG
    by_cases h : i = 73
    · rw [if_pos h, if_pos h]
    · rw [if_neg h, if_neg h]
      by_cases h1 : 6 ≤ i ∧ i < 6 + n * 7
      · rw [if_pos h1, if_pos h1]
      · rw [if_neg h1, if_neg h1]
        by_cases h2 : 55 ≤ i ∧ i < 67
        · have hp := hP (i - 55) (by omega)
          rw [show (i - 55 == j) = false by simp; omega, Bool.or_false] at hp
          rw [hp]
        · rw [if_neg (c := 55 ≤ i ∧ i < 67 ∧ P (i - 55) = true) (fun h => h2 ⟨h.1, h.2.1⟩), if_neg (c := 55 ≤ i ∧ i < 67 ∧ P' (i - 55) = true) (fun h => h2 ⟨h.1, h.2.1⟩)]
theorem decG_used (f : Nat → Value) (z : Nat → Int) (P : Nat → Bool) (n u : Nat) (hn : n ≤ 3) (hu : u < 3) (S : Value) : (row 74 (nodeW (decG f z P n u) S)).setIfInBounds (67 + u) (.int .i64 (usedZ f z u)) = row 74 (nodeW (decG f z P n (u + 1)) S) := by
  rw [row_set]
  refine row_congr fun i hi => ?_
  by_cases e : i = 67 + u
  · subst e
    rw [if_pos rfl]
    unfold nodeW decG
    rw [if_neg (by omega), if_neg (by omega), if_neg (by omega), if_pos (by omega), Nat.add_sub_cancel_left]
  · rw [if_neg e]
    unfold nodeW decG
    by_cases h : i = 73
    · rw [if_pos h, if_pos h]
    · rw [if_neg h, if_neg h]
      by_cases h1 : 6 ≤ i ∧ i < 6 + n * 7
      · rw [if_pos h1, if_pos h1]
      · rw [if_neg h1, if_neg h1]
        by_cases h2 : 55 ≤ i ∧ i < 67 ∧ P (i - 55) = true
        · rw [if_pos h2, if_pos h2]
        · rw [if_neg h2, if_neg h2]
          by_cases h3 : 67 ≤ i ∧ i < 67 + u
          · rw [if_pos h3, if_pos (by omega)]
          · rw [if_neg h3, if_neg (by omega)]
theorem decG_axis (f : Nat → Value) (z : Nat → Int) (P : Nat → Bool) (n u : Nat) (hn : n < 3) (S : Value) : row 74 (over (6 + n * 7) 7 (stCell (newSt f z n)) (nodeW (decG f z P n u) S)) = row 74 (nodeW (decG f z P (n + 1) u) S) := row_congr fun i hi => by
  by_cases h : 6 + n * 7 ≤ i ∧ i < 6 + n * 7 + 7
  · rw [over_in h.1 h.2]
    unfold nodeW decG
    rw [if_neg (by omega), if_pos (by omega), show (i - 6) / 7 = n by omega, show (i - 6) % 7 = i - (6 + n * 7) by omega]
  · rw [over_out (by omega)]
    unfold nodeW decG
    by_cases h0 : i = 73
    · rw [if_pos h0, if_pos h0]
    · rw [if_neg h0, if_neg h0]
      by_cases h1 : 6 ≤ i ∧ i < 6 + n * 7
      · rw [if_pos h1, if_pos (show 6 ≤ i ∧ i < 6 + (n + 1) * 7 by omega)]
      · rw [if_neg h1, if_neg (show ¬ (6 ≤ i ∧ i < 6 + (n + 1) * 7) by omega)]
theorem decF_row (k : Nat) (hk : k < 4) (z : Nat → Int) (f : Nat → Value) (S : Value) : ((row 74 (nodeW (decG f z allP 3 3) S)).setIfInBounds 70 (.int .i64 (digestZ (decG f z allP 3 3)))).setIfInBounds (51 + k) (.int .i64 (digestZ (decG f z allP 3 3))) = row 74 (nodeW (decF k z f) S) := by
  rw [row_set, row_set]
  refine row_congr fun i hi => ?_
  unfold nodeW decF
  by_cases e1 : i = 51 + k
  · rw [if_pos e1, if_neg (by omega), if_pos (.inr e1)]
  · rw [if_neg e1]
    by_cases e2 : i = 70
    · rw [if_pos e2, if_neg (by omega), if_pos (.inl e2)]
    · rw [if_neg e2]
      by_cases h : i = 73
      · rw [if_pos h, if_pos h]
      · rw [if_neg h, if_neg h, if_neg (by omega)]
theorem decG_low (f : Nat → Value) (z : Nat → Int) (P : Nat → Bool) (n u i : Nat) (h : i < 6 ∨ (27 ≤ i ∧ i < 55) ∨ 70 ≤ i) (hn : n ≤ 3) (hu : u ≤ 3) : decG f z P n u i = f i := by
  unfold decG
  rw [if_neg (by omega), if_neg (by omega), if_neg (by omega)]
theorem decG_ax (f : Nat → Value) (z : Nat → Int) (P : Nat → Bool) (n u : Nat) (hn : n < 3) (j : Nat) (hj : j < 7) : decG f z P n u (6 + (n * 7 + j)) = f (6 + (n * 7 + j)) := by
  unfold decG
  rw [if_neg (by omega), if_neg (by omega), if_neg (by omega)]
theorem decG_ag (f : Nat → Value) (z : Nat → Int) (P : Nat → Bool) (n u : Nat) (hn : n ≤ 3) (j : Nat) (hj : j < 12) (hP : P j = true) : decG f z P n u (55 + j) = .int .i64 (z j) := by
  unfold decG
  rw [if_neg (by omega), if_pos ⟨by omega, by omega, by rw [Nat.add_sub_cancel_left]; exact hP⟩, Nat.add_sub_cancel_left]
theorem decG_us (f : Nat → Value) (z : Nat → Int) (P : Nat → Bool) (n u : Nat) (hn : n ≤ 3) (a : Nat) (ha : a < u) (hu : u ≤ 3) : decG f z P n u (67 + a) = .int .i64 (usedZ f z a) := by
  unfold decG
  rw [if_neg (by omega), if_neg (by omega), if_pos (by omega), Nat.add_sub_cancel_left]
theorem in_decG (f : Nat → Value) (z : Nat → Int) (P : Nat → Bool) (n u : Nat) (hn : n ≤ 3) (hu : u ≤ 3) (i : Nat) (hi : i < 4) : inB (decG f z P n u) i = inB f i := by
  unfold inB
  rw [decG_low _ _ _ _ _ _ (by omega) hn hu]
theorem fuse_congrI {I J : Nat → Bool} {z y : Nat → Int} : ∀ {k : Nat}, (∀ j, j < k → I j = J j) → (∀ j, j < k → z j = y j) → fuseL I z k = fuseL J y k
  | 0, _, _ => rfl
  | k + 1, h, g => by
    unfold fuseL
    rw [fuse_congrI (fun j hj => h j (by omega)) (fun j hj => g j (by omega)), h k (by omega), g k (by omega)]
theorem fuse_used (f : Nat → Value) (z : Nat → Int) (P : Nat → Bool) (n u : Nat) (hn : n ≤ 3) (hu : u ≤ 3) (a : Nat) (ha : a < 3) (hP : ∀ s, s < 4 → P (s * 3 + a) = true) : (midZ (fuseL (inB (decG f z P n u)) (fun s => agZ (decG f z P n u) s a) 4)).1 = usedZ f z a := by
  unfold usedZ
  rw [fuse_congrI (J := inB f) (y := fun s => z (s * 3 + a)) (fun j hj => in_decG f z P n u hn hu j hj) (fun s hs => by
    unfold agZ
    rw [decG_ag f z P n u hn (s * 3 + a) (by omega) (hP s hs)]
    rfl)]
theorem mid_in {l : List Int} (h : ∀ x ∈ l, In64 x) : In64 (midZ l).1 := by
  unfold midZ
  split
  · exact ⟨by decide, by decide⟩
  · rename_i h0
    have h1 := h _ (srt_mem (l := l) (k := (l.length - 1) / 3) (by omega))
    have h2 := h _ (srt_mem (l := l) (k := l.length - 1 - (l.length - 1) / 3) (by omega))
    unfold In64 at *
    show -9223372036854775808 ≤ midOf l ∧ midOf l ≤ 9223372036854775807
    unfold midOf
    omega
theorem used_in {f : Nat → Value} {z : Nat → Int} (hz : ∀ j, j < 12 → In64 (z j)) (a : Nat) (ha : a < 3) : In64 (usedZ f z a) := mid_in fun x hx => by
  obtain ⟨s, hs, _, rfl⟩ := fuse_mem hx
  exact hz _ (by omega)
theorem st_in {f : Nat → Value} (hf : ∀ i, i < 73 → okT (nodeT i) (f i)) (hw : ∀ i z, i < 73 → f i = .int .i64 z → Wf z) (a : Nat) (ha : a < 3) : StIn (stOf f a) := by
  have h : ∀ j, j < 5 → In64 (iv (f (6 + (a * 7 + j)))) := fun j hj => Op.wf_i64 (hw (6 + (a * 7 + j)) _ (by omega) (cell_int hf (6 + (a * 7 + j)) (by omega) (by rw [nodeT_ax _ (by omega) (by omega)]; simp; omega)))
  exact ⟨h 0 (by omega), h 1 (by omega), h 2 (by omega), h 3 (by omega), h 4 (by omega)⟩
theorem tun_in {f : Nat → Value} (hf : ∀ i, i < 73 → okT (nodeT i) (f i)) (hw : ∀ i z, i < 73 → f i = .int .i64 z → Wf z) (i : Nat) (hi : 2 ≤ i ∧ i < 6) : In64 (iv (f i)) := Op.wf_i64 (hw i _ (by omega) (cell_int hf i (by omega) (by unfold nodeT; simp; omega)))
theorem wf_agreed {f : Nat → Value} (hf : ∀ i, i < 73 → okT (nodeT i) (f i)) (hw : ∀ i z, i < 73 → f i = .int .i64 z → Wf z) {ms : List Ms.Msg} (hm : ∀ m ∈ ms, ∀ z ∈ m.zs, Wf z) (k : Nat) (fr : Int) : ∀ j, j < 12 → In64 (agreedZ k fr ms f j) := fun j hj => by
  unfold agreedZ
  refine Op.wf_i64 (wf_taken ?_ fun j m h => hm m (List.mem_of_find?_eq_some h))
  exact hw (39 + j) _ (by omega) (cell_int hf (39 + j) (by omega) (by unfold nodeT; simp; omega))
end Go.Proofs.YtjfllpmiajkenaaGreat.Nd
