/- Contracts: the reference's VecAdd, VecSub, VecScale. -/
import Derived.Test.YtajhkbdaoakogaaVecEach
namespace Go.Proofs.Ytajhkbdaoakogaa.BigW
open Go.RowKit Go.Proofs.Ytajhkbdaoakogaa.Mem Go.Proofs.Ytajhkbdaoakogaa.BigLaw Go.Proofs.Ytajhkbdaoakogaa.Rws
set_option linter.unusedVariables false
set_option linter.unusedSimpArgs false

set_option maxRecDepth 100000 in
set_option maxHeartbeats 1000000 in
theorem refVecAdd_any (ax ay az bx b_y bz : Int) (w : World) (r_ax : In64 ax) (r_ay : In64 ay) (r_az : In64 az) (r_bx : In64 bx) (r_b_y : In64 b_y) (r_bz : In64 bz) :
    Calls Try.prog 23 #[vecV ax ay az, vecV bx b_y bz] w fun e w' => TwoV w w' (fadd ax bx) (fadd ay b_y) (fadd az bz) e := by
  unfold vecV
  have HA := Lib.hid (show Blk (((((w.alloc (.cells #[.int .i64 ax, .int .i64 ay, .int .i64 az] 37)).alloc (.cells #[.int .i64 bx, .int .i64 b_y, .int .i64 bz] 37)).alloc (.cells #[.int .i64 0, .int .i64 0, .int .i64 0] 37)).alloc (.cells #[.bool false] 70)).alloc (.cells #[.int .i64 0, .int .i64 0, .int .i64 0] 37)) (w.heap.size) 37 #[.int .i64 ax, .int .i64 ay, .int .i64 az] from ((((Blk.new rfl).alloc _).alloc _).alloc _).alloc _)
  have HB2 := Lib.hid (show Blk (((((w.alloc (.cells #[.int .i64 ax, .int .i64 ay, .int .i64 az] 37)).alloc (.cells #[.int .i64 bx, .int .i64 b_y, .int .i64 bz] 37)).alloc (.cells #[.int .i64 0, .int .i64 0, .int .i64 0] 37)).alloc (.cells #[.bool false] 70)).alloc (.cells #[.int .i64 0, .int .i64 0, .int .i64 0] 37)) (w.heap.size + 1) 37 #[.int .i64 bx, .int .i64 b_y, .int .i64 bz] from (((Blk.new (by simp)).alloc _).alloc _).alloc _)
  have HR := Lib.hid (show Blk (((((w.alloc (.cells #[.int .i64 ax, .int .i64 ay, .int .i64 az] 37)).alloc (.cells #[.int .i64 bx, .int .i64 b_y, .int .i64 bz] 37)).alloc (.cells #[.int .i64 0, .int .i64 0, .int .i64 0] 37)).alloc (.cells #[.bool false] 70)).alloc (.cells #[.int .i64 0, .int .i64 0, .int .i64 0] 37)) (w.heap.size + 1 + 1) 37 #[.int .i64 0, .int .i64 0, .int .i64 0] from ((Blk.new (by simp)).alloc _).alloc _)
  have HK := Lib.hid (show Blk (((((w.alloc (.cells #[.int .i64 ax, .int .i64 ay, .int .i64 az] 37)).alloc (.cells #[.int .i64 bx, .int .i64 b_y, .int .i64 bz] 37)).alloc (.cells #[.int .i64 0, .int .i64 0, .int .i64 0] 37)).alloc (.cells #[.bool false] 70)).alloc (.cells #[.int .i64 0, .int .i64 0, .int .i64 0] 37)) (w.heap.size + 1 + 1 + 1) 70 #[.bool false] from (Blk.new (by simp)).alloc _)
  have HV := Lib.hid (show Blk (((((w.alloc (.cells #[.int .i64 ax, .int .i64 ay, .int .i64 az] 37)).alloc (.cells #[.int .i64 bx, .int .i64 b_y, .int .i64 bz] 37)).alloc (.cells #[.int .i64 0, .int .i64 0, .int .i64 0] 37)).alloc (.cells #[.bool false] 70)).alloc (.cells #[.int .i64 0, .int .i64 0, .int .i64 0] 37)) (w.heap.size + 1 + 1 + 1 + 1) 37 #[.int .i64 0, .int .i64 0, .int .i64 0] from Blk.new (by simp))
  have HB := Lib.hid (show Below w.heap.size w (((((w.alloc (.cells #[.int .i64 ax, .int .i64 ay, .int .i64 az] 37)).alloc (.cells #[.int .i64 bx, .int .i64 b_y, .int .i64 bz] 37)).alloc (.cells #[.int .i64 0, .int .i64 0, .int .i64 0] 37)).alloc (.cells #[.bool false] 70)).alloc (.cells #[.int .i64 0, .int .i64 0, .int .i64 0] 37)) from (((((Below.refl _ _).alloc (Nat.le_refl _) _).alloc (by simp) _).alloc (by simp; omega) _).alloc (by simp; omega) _).alloc (by simp; omega) _)
  obtain ⟨⟨px, xb⟩, h_px⟩ : ∃ res_, fadd ax bx = res_ := ⟨_, rfl⟩
  have PX_ := Lib.hid h_px
  have r_px : In64 px := by have h := fadd_range ax bx; rw [h_px] at h; exact h
  clear h_px
  obtain ⟨⟨py, yb⟩, h_py⟩ : ∃ res_, fadd ay b_y = res_ := ⟨_, rfl⟩
  have PY_ := Lib.hid h_py
  have r_py : In64 py := by have h := fadd_range ay b_y; rw [h_py] at h; exact h
  clear h_py
  obtain ⟨⟨pz, zb⟩, h_pz⟩ : ∃ res_, fadd az bz = res_ := ⟨_, rfl⟩
  have PZ_ := Lib.hid h_pz
  have r_pz : In64 pz := by have h := fadd_range az bz; rw [h_pz] at h; exact h
  clear h_pz
  go_enter Try.func23, Try.ntmps23
  go_upto_region 3 with fail
  generalize (((((w.alloc (.cells #[.int .i64 ax, .int .i64 ay, .int .i64 az] 37)).alloc (.cells #[.int .i64 bx, .int .i64 b_y, .int .i64 bz] 37)).alloc (.cells #[.int .i64 0, .int .i64 0, .int .i64 0] 37)).alloc (.cells #[.bool false] 70)).alloc (.cells #[.int .i64 0, .int .i64 0, .int .i64 0] 37)) = w1 at *
  obtain ⟨gv, hgv⟩ : ∃ g, w.heap.size + 1 + 1 + 1 + 1 = g := ⟨_, rfl⟩
  rw [hgv] at HV ⊢
  obtain ⟨gk, hgk⟩ : ∃ g, w.heap.size + 1 + 1 + 1 = g := ⟨_, rfl⟩
  rw [hgk] at HK ⊢
  obtain ⟨gr, hgr⟩ : ∃ g, w.heap.size + 1 + 1 = g := ⟨_, rfl⟩
  rw [hgr] at HR ⊢
  obtain ⟨gb, hgb⟩ : ∃ g, w.heap.size + 1 = g := ⟨_, rfl⟩
  rw [hgb] at HB2 ⊢
  have HK : Hid (Bent w1 70 gk false) := HK
  have ka : w1.cell? ⟨w.heap.size, 0, none⟩ = some (.int .i64 ax) := (Blk.cell HA.out 0).trans rfl
  have kb : w1.cell? ⟨gb, 0, none⟩ = some (.int .i64 bx) := (Blk.cell HB2.out 0).trans rfl
  go_wp2_with fail
  refine (radd_any gk _ ax bx _ HK.out r_ax r_bx).mono ?_
  intro e w1 hc
  rw [PX_.out] at hc
  obtain ⟨rfl, hst, hg⟩ := hc
  dsimp only at hst
  clear ka kb
  have HK := Lib.hid hst
  have HA := Lib.hid (HA.out.grown hg (neq_of (by omega)))
  have HR := Lib.hid (HR.out.grown hg (neq_of (by omega)))
  have HV := Lib.hid (HV.out.grown hg (neq_of (by omega)))
  have HB2 := Lib.hid (HB2.out.grown hg (neq_of (by omega)))
  have HB := Lib.hid (below_grown HB.out (Nat.le_refl _) hg (fun g e => by injection e with e; omega))
  clear hst hg
  have kv : w1.cell? ⟨gv, 0, none⟩ = some (.int .i64 0) := (Blk.cell HV.out 0).trans rfl
  have fv := Blk.thaw HV.out 0
  go_upto_region 4 with fail
  clear kv fv
  have HV := Lib.hid (show Blk (w1.setCell ⟨gv, 0, none⟩ (.int .i64 px)) gv 37 #[.int .i64 px, .int .i64 0, .int .i64 0] from Blk.set HV.out 0 (.int .i64 px))
  have HA := Lib.hid (HA.out.other (p := ⟨gv, 0, none⟩) (by show _ ≠ gv; omega) (.int .i64 px))
  have HR := Lib.hid (HR.out.other (p := ⟨gv, 0, none⟩) (by show _ ≠ gv; omega) (.int .i64 px))
  have HK := Lib.hid (Blk.other HK.out (p := ⟨gv, 0, none⟩) (by show _ ≠ gv; omega) (.int .i64 px))
  have HB2 := Lib.hid (HB2.out.other (p := ⟨gv, 0, none⟩) (by show _ ≠ gv; omega) (.int .i64 px))
  have HB := Lib.hid (HB.out.setCell (p := ⟨gv, 0, none⟩) (by show _ ≤ gv; omega) (.int .i64 px))
  generalize (w1.setCell ⟨gv, 0, none⟩ (.int .i64 px)) = w1 at *
  have ka : w1.cell? ⟨w.heap.size, 1, none⟩ = some (.int .i64 ay) := (Blk.cell HA.out 1).trans rfl
  have kb : w1.cell? ⟨gb, 1, none⟩ = some (.int .i64 b_y) := (Blk.cell HB2.out 1).trans rfl
  go_wp2_with fail
  refine (radd_any gk _ ay b_y _ HK.out r_ay r_b_y).mono ?_
  intro e w1 hc
  rw [PY_.out] at hc
  obtain ⟨rfl, hst, hg⟩ := hc
  dsimp only at hst
  clear ka kb
  have HK := Lib.hid hst
  have HA := Lib.hid (HA.out.grown hg (neq_of (by omega)))
  have HR := Lib.hid (HR.out.grown hg (neq_of (by omega)))
  have HV := Lib.hid (HV.out.grown hg (neq_of (by omega)))
  have HB2 := Lib.hid (HB2.out.grown hg (neq_of (by omega)))
  have HB := Lib.hid (below_grown HB.out (Nat.le_refl _) hg (fun g e => by injection e with e; omega))
  clear hst hg
  have kv : w1.cell? ⟨gv, 1, none⟩ = some (.int .i64 0) := (Blk.cell HV.out 1).trans rfl
  have fv := Blk.thaw HV.out 1
  go_upto_region 5 with fail
  clear kv fv
  have HV := Lib.hid (show Blk (w1.setCell ⟨gv, 1, none⟩ (.int .i64 py)) gv 37 #[.int .i64 px, .int .i64 py, .int .i64 0] from Blk.set HV.out 1 (.int .i64 py))
  have HA := Lib.hid (HA.out.other (p := ⟨gv, 1, none⟩) (by show _ ≠ gv; omega) (.int .i64 py))
  have HR := Lib.hid (HR.out.other (p := ⟨gv, 1, none⟩) (by show _ ≠ gv; omega) (.int .i64 py))
  have HK := Lib.hid (Blk.other HK.out (p := ⟨gv, 1, none⟩) (by show _ ≠ gv; omega) (.int .i64 py))
  have HB2 := Lib.hid (HB2.out.other (p := ⟨gv, 1, none⟩) (by show _ ≠ gv; omega) (.int .i64 py))
  have HB := Lib.hid (HB.out.setCell (p := ⟨gv, 1, none⟩) (by show _ ≤ gv; omega) (.int .i64 py))
  generalize (w1.setCell ⟨gv, 1, none⟩ (.int .i64 py)) = w1 at *
  have ka : w1.cell? ⟨w.heap.size, 2, none⟩ = some (.int .i64 az) := (Blk.cell HA.out 2).trans rfl
  have kb : w1.cell? ⟨gb, 2, none⟩ = some (.int .i64 bz) := (Blk.cell HB2.out 2).trans rfl
  go_wp2_with fail
  refine (radd_any gk _ az bz _ HK.out r_az r_bz).mono ?_
  intro e w1 hc
  rw [PZ_.out] at hc
  obtain ⟨rfl, hst, hg⟩ := hc
  dsimp only at hst
  clear ka kb
  have HK := Lib.hid hst
  have HA := Lib.hid (HA.out.grown hg (neq_of (by omega)))
  have HR := Lib.hid (HR.out.grown hg (neq_of (by omega)))
  have HV := Lib.hid (HV.out.grown hg (neq_of (by omega)))
  have HB2 := Lib.hid (HB2.out.grown hg (neq_of (by omega)))
  have HB := Lib.hid (below_grown HB.out (Nat.le_refl _) hg (fun g e => by injection e with e; omega))
  clear hst hg
  have kv : w1.cell? ⟨gv, 2, none⟩ = some (.int .i64 0) := (Blk.cell HV.out 2).trans rfl
  have fv := Blk.thaw HV.out 2
  go_upto_region 6 with fail
  clear kv fv
  have HV := Lib.hid (show Blk (w1.setCell ⟨gv, 2, none⟩ (.int .i64 pz)) gv 37 #[.int .i64 px, .int .i64 py, .int .i64 pz] from Blk.set HV.out 2 (.int .i64 pz))
  have HA := Lib.hid (HA.out.other (p := ⟨gv, 2, none⟩) (by show _ ≠ gv; omega) (.int .i64 pz))
  have HR := Lib.hid (HR.out.other (p := ⟨gv, 2, none⟩) (by show _ ≠ gv; omega) (.int .i64 pz))
  have HK := Lib.hid (Blk.other HK.out (p := ⟨gv, 2, none⟩) (by show _ ≠ gv; omega) (.int .i64 pz))
  have HB2 := Lib.hid (HB2.out.other (p := ⟨gv, 2, none⟩) (by show _ ≠ gv; omega) (.int .i64 pz))
  have HB := Lib.hid (HB.out.setCell (p := ⟨gv, 2, none⟩) (by show _ ≤ gv; omega) (.int .i64 pz))
  generalize (w1.setCell ⟨gv, 2, none⟩ (.int .i64 pz)) = w1 at *
  have HK := Lib.hid (show Bent w1 70 gk (xb || yb || zb) from by have h := HK.out; rw [Bool.false_or] at h; exact h)
  have HV := Lib.hid HV.out.drew
  have HK := Lib.hid (Blk.drew HK.out)
  have HR := Lib.hid HR.out.drew
  have HB := Lib.hid HB.out.drew
  have HS := And.intro HV.out ((Blk.cell HK.out 0).trans rfl)
  refine wp_region_noPanic ?_
  refine Rg.beginR [0, 4] (fun w' => Blk w' gv 37 #[.int .i64 px, .int .i64 py, .int .i64 pz] ∧ w'.cell? ⟨gk, 0, none⟩ = some (.bool (xb || yb || zb))) (by kernel_rfl) ?_
  generalize w1.drew = w1 at *
  refine Rg.takeS (i := 0) (oi := { dst := some 31, op := Op.load 37 (Operand.tmp 7), type := 37, pos := "number.go:181", after := #[], guard := none }) (v := .agg #[.int .i64 px, .int .i64 py, .int .i64 pz]) rfl (by kernel_rfl) (fun _ _ _ h => h) (by rfl) HS ?_ ?_
  · (intro w' hSw; exact exec_load_st 37 (.tmp 7) rfl gv rfl hSw.1 Try.underlying37 rfl (by kernel_rfl))
  try simp only [Act.put, List.setIfInBounds_toArray, List.set_cons_zero, List.set_cons_succ]
  refine Rg.takeP (i := 1) (oi := { dst := some 32, op := Op.move (Operand.tmp 6), type := 68, pos := "number.go:181", after := #[{ on := 5, ground := Ground.gcOnly Departure.lateStores }], guard := none }) (v := ?_) rfl (by kernel_rfl) (fun _ _ _ h => h) (by rfl) ?_ ?_
  rotate_left 1
  · (intro w; go_simp; (try with_reducible rfl))
  try simp only [Act.put, List.setIfInBounds_toArray, List.set_cons_zero, List.set_cons_succ]
  refine Rg.takeP (i := 2) (oi := { dst := some 33, op := Op.nilCheck (Operand.tmp 32), type := 0, pos := "number.go:181", after := #[{ on := 1, ground := Ground.data }, { on := 5, ground := Ground.gcOnly Departure.lateStores }], guard := none }) (v := ?_) rfl (by kernel_rfl) (fun _ _ _ h => h) (by rfl) ?_ ?_
  rotate_left 1
  · (intro w; go_simp; (try with_reducible rfl))
  try simp only [Act.put, List.setIfInBounds_toArray, List.set_cons_zero, List.set_cons_succ]
  refine Rg.takeP (i := 3) (oi := { dst := some 34, op := Op.fieldAddr 70 (Operand.tmp 33) 0, type := 0, pos := "number.go:181", after := #[{ on := 2, ground := Ground.data }, { on := 5, ground := Ground.gcOnly Departure.lateStores }], guard := none }) (v := ?_) rfl (by kernel_rfl) (fun _ _ _ h => h) (by rfl) ?_ ?_
  rotate_left 1
  · (intro w; go_simp; (try with_reducible rfl))
  try simp only [Act.put, List.setIfInBounds_toArray, List.set_cons_zero, List.set_cons_succ]
  refine Rg.takeS (i := 4) (oi := { dst := some 35, op := Op.load 4 (Operand.tmp 34), type := 4, pos := "number.go:181", after := #[{ on := 3, ground := Ground.data }, { on := 5, ground := Ground.gcOnly Departure.lateStores }], guard := none }) (v := ?_) rfl (by kernel_rfl) (fun _ _ _ h => h) (by rfl) HS ?_ ?_
  rotate_left 1
  · (intro w hSw; (try dsimp only at hSw); (try go_split_ands); go_simp; (try with_reducible rfl))
  try simp only [Act.put, List.setIfInBounds_toArray, List.set_cons_zero, List.set_cons_succ]
  refine Rg.oneR (i := 5) (oi := { dst := none, op := Op.store 37 (Operand.tmp 4) (Operand.tmp 31), type := 0, pos := "number.go:181", after := #[{ on := 0, ground := Ground.data }, { on := 0, ground := Ground.phase }, { on := 1, ground := Ground.textOnly Departure.lateStores }, { on := 2, ground := Ground.textOnly Departure.lateStores }, { on := 3, ground := Ground.textOnly Departure.lateStores }, { on := 4, ground := Ground.textOnly Departure.lateStores }], guard := none }) rfl (by kernel_rfl) ?_
  refine Rg.stepS ?_
  intro K hK
  rw [if_pos (by rfl)]
  refine wp_store_row 37 _ _ rfl gr #[.int .i64 px, .int .i64 py, .int .i64 pz] rfl rfl 37 _ HR.out (by kernel_rfl) rfl (by simp [Value.oneCell']) ?_
  have HR := Lib.hid (HR.out.setRow #[.int .i64 px, .int .i64 py, .int .i64 pz])
  have HV := Lib.hid (HV.out.setRow_other (g' := gr) (by omega) #[.int .i64 px, .int .i64 py, .int .i64 pz])
  have HK := Lib.hid (Blk.setRow_other HK.out (g' := gr) (by omega) #[.int .i64 px, .int .i64 py, .int .i64 pz])
  have HB := Lib.hid (below_setRow HB.out (show w.heap.size ≤ gr by omega) #[.int .i64 px, .int .i64 py, .int .i64 pz])
  generalize (w1.setRow gr #[.int .i64 px, .int .i64 py, .int .i64 pz]) = w1 at *
  clear HS
  have HS := And.intro HV.out ((Blk.cell HK.out 0).trans rfl)
  refine hK.out _ _ HS ?_
  clear hK K
  try simp only [Act.put, List.setIfInBounds_toArray, List.set_cons_zero, List.set_cons_succ]
  refine Rg.takeP (i := 6) (oi := { dst := some 5, op := Op.assign (Operand.tmp 35), type := 4, pos := "number.go:181", after := #[{ on := 4, ground := Ground.data }, { on := 5, ground := Ground.chain }, { on := 0, ground := Ground.phase }, { on := 1, ground := Ground.phase }, { on := 2, ground := Ground.phase }, { on := 3, ground := Ground.phase }, { on := 4, ground := Ground.phase }, { on := 5, ground := Ground.phase }], guard := none }) (v := ?_) rfl (by kernel_rfl) (fun _ _ _ h => h) (by rfl) ?_ ?_
  rotate_left 1
  · (intro w; go_simp; (try with_reducible rfl))
  try simp only [Act.put, List.setIfInBounds_toArray, List.set_cons_zero, List.set_cons_succ]
  refine Rg.doneR (by kernel_rfl) ?_ _
  refine NoPanic.normal ?_
  clear HS
  go_wp2_with fail
  refine ret_row2 (x := .bool (xb || yb || zb)) rfl rfl rfl HR.out ⟨by rw [Try.underlying37], by kernel_rfl⟩ rfl ?_
  exact ⟨by rw [PX_.out, PY_.out, PZ_.out]; rfl, HB.out⟩

set_option maxRecDepth 100000 in
set_option maxHeartbeats 1000000 in
theorem refVecSub_any (ax ay az bx b_y bz : Int) (w : World) (r_ax : In64 ax) (r_ay : In64 ay) (r_az : In64 az) (r_bx : In64 bx) (r_b_y : In64 b_y) (r_bz : In64 bz) :
    Calls Try.prog 25 #[vecV ax ay az, vecV bx b_y bz] w fun e w' => TwoV w w' (fsub ax bx) (fsub ay b_y) (fsub az bz) e := by
  unfold vecV
  have HA := Lib.hid (show Blk (((((w.alloc (.cells #[.int .i64 ax, .int .i64 ay, .int .i64 az] 37)).alloc (.cells #[.int .i64 bx, .int .i64 b_y, .int .i64 bz] 37)).alloc (.cells #[.int .i64 0, .int .i64 0, .int .i64 0] 37)).alloc (.cells #[.bool false] 70)).alloc (.cells #[.int .i64 0, .int .i64 0, .int .i64 0] 37)) (w.heap.size) 37 #[.int .i64 ax, .int .i64 ay, .int .i64 az] from ((((Blk.new rfl).alloc _).alloc _).alloc _).alloc _)
  have HB2 := Lib.hid (show Blk (((((w.alloc (.cells #[.int .i64 ax, .int .i64 ay, .int .i64 az] 37)).alloc (.cells #[.int .i64 bx, .int .i64 b_y, .int .i64 bz] 37)).alloc (.cells #[.int .i64 0, .int .i64 0, .int .i64 0] 37)).alloc (.cells #[.bool false] 70)).alloc (.cells #[.int .i64 0, .int .i64 0, .int .i64 0] 37)) (w.heap.size + 1) 37 #[.int .i64 bx, .int .i64 b_y, .int .i64 bz] from (((Blk.new (by simp)).alloc _).alloc _).alloc _)
  have HR := Lib.hid (show Blk (((((w.alloc (.cells #[.int .i64 ax, .int .i64 ay, .int .i64 az] 37)).alloc (.cells #[.int .i64 bx, .int .i64 b_y, .int .i64 bz] 37)).alloc (.cells #[.int .i64 0, .int .i64 0, .int .i64 0] 37)).alloc (.cells #[.bool false] 70)).alloc (.cells #[.int .i64 0, .int .i64 0, .int .i64 0] 37)) (w.heap.size + 1 + 1) 37 #[.int .i64 0, .int .i64 0, .int .i64 0] from ((Blk.new (by simp)).alloc _).alloc _)
  have HK := Lib.hid (show Blk (((((w.alloc (.cells #[.int .i64 ax, .int .i64 ay, .int .i64 az] 37)).alloc (.cells #[.int .i64 bx, .int .i64 b_y, .int .i64 bz] 37)).alloc (.cells #[.int .i64 0, .int .i64 0, .int .i64 0] 37)).alloc (.cells #[.bool false] 70)).alloc (.cells #[.int .i64 0, .int .i64 0, .int .i64 0] 37)) (w.heap.size + 1 + 1 + 1) 70 #[.bool false] from (Blk.new (by simp)).alloc _)
  have HV := Lib.hid (show Blk (((((w.alloc (.cells #[.int .i64 ax, .int .i64 ay, .int .i64 az] 37)).alloc (.cells #[.int .i64 bx, .int .i64 b_y, .int .i64 bz] 37)).alloc (.cells #[.int .i64 0, .int .i64 0, .int .i64 0] 37)).alloc (.cells #[.bool false] 70)).alloc (.cells #[.int .i64 0, .int .i64 0, .int .i64 0] 37)) (w.heap.size + 1 + 1 + 1 + 1) 37 #[.int .i64 0, .int .i64 0, .int .i64 0] from Blk.new (by simp))
  have HB := Lib.hid (show Below w.heap.size w (((((w.alloc (.cells #[.int .i64 ax, .int .i64 ay, .int .i64 az] 37)).alloc (.cells #[.int .i64 bx, .int .i64 b_y, .int .i64 bz] 37)).alloc (.cells #[.int .i64 0, .int .i64 0, .int .i64 0] 37)).alloc (.cells #[.bool false] 70)).alloc (.cells #[.int .i64 0, .int .i64 0, .int .i64 0] 37)) from (((((Below.refl _ _).alloc (Nat.le_refl _) _).alloc (by simp) _).alloc (by simp; omega) _).alloc (by simp; omega) _).alloc (by simp; omega) _)
  obtain ⟨⟨px, xb⟩, h_px⟩ : ∃ res_, fsub ax bx = res_ := ⟨_, rfl⟩
  have PX_ := Lib.hid h_px
  have r_px : In64 px := by have h := fsub_range ax bx; rw [h_px] at h; exact h
  clear h_px
  obtain ⟨⟨py, yb⟩, h_py⟩ : ∃ res_, fsub ay b_y = res_ := ⟨_, rfl⟩
  have PY_ := Lib.hid h_py
  have r_py : In64 py := by have h := fsub_range ay b_y; rw [h_py] at h; exact h
  clear h_py
  obtain ⟨⟨pz, zb⟩, h_pz⟩ : ∃ res_, fsub az bz = res_ := ⟨_, rfl⟩
  have PZ_ := Lib.hid h_pz
  have r_pz : In64 pz := by have h := fsub_range az bz; rw [h_pz] at h; exact h
  clear h_pz
  go_enter Try.func25, Try.ntmps25
  go_upto_region 3 with fail
  generalize (((((w.alloc (.cells #[.int .i64 ax, .int .i64 ay, .int .i64 az] 37)).alloc (.cells #[.int .i64 bx, .int .i64 b_y, .int .i64 bz] 37)).alloc (.cells #[.int .i64 0, .int .i64 0, .int .i64 0] 37)).alloc (.cells #[.bool false] 70)).alloc (.cells #[.int .i64 0, .int .i64 0, .int .i64 0] 37)) = w1 at *
  obtain ⟨gv, hgv⟩ : ∃ g, w.heap.size + 1 + 1 + 1 + 1 = g := ⟨_, rfl⟩
  rw [hgv] at HV ⊢
  obtain ⟨gk, hgk⟩ : ∃ g, w.heap.size + 1 + 1 + 1 = g := ⟨_, rfl⟩
  rw [hgk] at HK ⊢
  obtain ⟨gr, hgr⟩ : ∃ g, w.heap.size + 1 + 1 = g := ⟨_, rfl⟩
  rw [hgr] at HR ⊢
  obtain ⟨gb, hgb⟩ : ∃ g, w.heap.size + 1 = g := ⟨_, rfl⟩
  rw [hgb] at HB2 ⊢
  have HK : Hid (Bent w1 70 gk false) := HK
  have ka : w1.cell? ⟨w.heap.size, 0, none⟩ = some (.int .i64 ax) := (Blk.cell HA.out 0).trans rfl
  have kb : w1.cell? ⟨gb, 0, none⟩ = some (.int .i64 bx) := (Blk.cell HB2.out 0).trans rfl
  go_wp2_with fail
  refine (rsub_any gk _ ax bx _ HK.out r_ax r_bx).mono ?_
  intro e w1 hc
  rw [PX_.out] at hc
  obtain ⟨rfl, hst, hg⟩ := hc
  dsimp only at hst
  clear ka kb
  have HK := Lib.hid hst
  have HA := Lib.hid (HA.out.grown hg (neq_of (by omega)))
  have HR := Lib.hid (HR.out.grown hg (neq_of (by omega)))
  have HV := Lib.hid (HV.out.grown hg (neq_of (by omega)))
  have HB2 := Lib.hid (HB2.out.grown hg (neq_of (by omega)))
  have HB := Lib.hid (below_grown HB.out (Nat.le_refl _) hg (fun g e => by injection e with e; omega))
  clear hst hg
  have kv : w1.cell? ⟨gv, 0, none⟩ = some (.int .i64 0) := (Blk.cell HV.out 0).trans rfl
  have fv := Blk.thaw HV.out 0
  go_upto_region 4 with fail
  clear kv fv
  have HV := Lib.hid (show Blk (w1.setCell ⟨gv, 0, none⟩ (.int .i64 px)) gv 37 #[.int .i64 px, .int .i64 0, .int .i64 0] from Blk.set HV.out 0 (.int .i64 px))
  have HA := Lib.hid (HA.out.other (p := ⟨gv, 0, none⟩) (by show _ ≠ gv; omega) (.int .i64 px))
  have HR := Lib.hid (HR.out.other (p := ⟨gv, 0, none⟩) (by show _ ≠ gv; omega) (.int .i64 px))
  have HK := Lib.hid (Blk.other HK.out (p := ⟨gv, 0, none⟩) (by show _ ≠ gv; omega) (.int .i64 px))
  have HB2 := Lib.hid (HB2.out.other (p := ⟨gv, 0, none⟩) (by show _ ≠ gv; omega) (.int .i64 px))
  have HB := Lib.hid (HB.out.setCell (p := ⟨gv, 0, none⟩) (by show _ ≤ gv; omega) (.int .i64 px))
  generalize (w1.setCell ⟨gv, 0, none⟩ (.int .i64 px)) = w1 at *
  have ka : w1.cell? ⟨w.heap.size, 1, none⟩ = some (.int .i64 ay) := (Blk.cell HA.out 1).trans rfl
  have kb : w1.cell? ⟨gb, 1, none⟩ = some (.int .i64 b_y) := (Blk.cell HB2.out 1).trans rfl
  go_wp2_with fail
  refine (rsub_any gk _ ay b_y _ HK.out r_ay r_b_y).mono ?_
  intro e w1 hc
  rw [PY_.out] at hc
  obtain ⟨rfl, hst, hg⟩ := hc
  dsimp only at hst
  clear ka kb
  have HK := Lib.hid hst
  have HA := Lib.hid (HA.out.grown hg (neq_of (by omega)))
  have HR := Lib.hid (HR.out.grown hg (neq_of (by omega)))
  have HV := Lib.hid (HV.out.grown hg (neq_of (by omega)))
  have HB2 := Lib.hid (HB2.out.grown hg (neq_of (by omega)))
  have HB := Lib.hid (below_grown HB.out (Nat.le_refl _) hg (fun g e => by injection e with e; omega))
  clear hst hg
  have kv : w1.cell? ⟨gv, 1, none⟩ = some (.int .i64 0) := (Blk.cell HV.out 1).trans rfl
  have fv := Blk.thaw HV.out 1
  go_upto_region 5 with fail
  clear kv fv
  have HV := Lib.hid (show Blk (w1.setCell ⟨gv, 1, none⟩ (.int .i64 py)) gv 37 #[.int .i64 px, .int .i64 py, .int .i64 0] from Blk.set HV.out 1 (.int .i64 py))
  have HA := Lib.hid (HA.out.other (p := ⟨gv, 1, none⟩) (by show _ ≠ gv; omega) (.int .i64 py))
  have HR := Lib.hid (HR.out.other (p := ⟨gv, 1, none⟩) (by show _ ≠ gv; omega) (.int .i64 py))
  have HK := Lib.hid (Blk.other HK.out (p := ⟨gv, 1, none⟩) (by show _ ≠ gv; omega) (.int .i64 py))
  have HB2 := Lib.hid (HB2.out.other (p := ⟨gv, 1, none⟩) (by show _ ≠ gv; omega) (.int .i64 py))
  have HB := Lib.hid (HB.out.setCell (p := ⟨gv, 1, none⟩) (by show _ ≤ gv; omega) (.int .i64 py))
  generalize (w1.setCell ⟨gv, 1, none⟩ (.int .i64 py)) = w1 at *
  have ka : w1.cell? ⟨w.heap.size, 2, none⟩ = some (.int .i64 az) := (Blk.cell HA.out 2).trans rfl
  have kb : w1.cell? ⟨gb, 2, none⟩ = some (.int .i64 bz) := (Blk.cell HB2.out 2).trans rfl
  go_wp2_with fail
  refine (rsub_any gk _ az bz _ HK.out r_az r_bz).mono ?_
  intro e w1 hc
  rw [PZ_.out] at hc
  obtain ⟨rfl, hst, hg⟩ := hc
  dsimp only at hst
  clear ka kb
  have HK := Lib.hid hst
  have HA := Lib.hid (HA.out.grown hg (neq_of (by omega)))
  have HR := Lib.hid (HR.out.grown hg (neq_of (by omega)))
  have HV := Lib.hid (HV.out.grown hg (neq_of (by omega)))
  have HB2 := Lib.hid (HB2.out.grown hg (neq_of (by omega)))
  have HB := Lib.hid (below_grown HB.out (Nat.le_refl _) hg (fun g e => by injection e with e; omega))
  clear hst hg
  have kv : w1.cell? ⟨gv, 2, none⟩ = some (.int .i64 0) := (Blk.cell HV.out 2).trans rfl
  have fv := Blk.thaw HV.out 2
  go_upto_region 6 with fail
  clear kv fv
  have HV := Lib.hid (show Blk (w1.setCell ⟨gv, 2, none⟩ (.int .i64 pz)) gv 37 #[.int .i64 px, .int .i64 py, .int .i64 pz] from Blk.set HV.out 2 (.int .i64 pz))
  have HA := Lib.hid (HA.out.other (p := ⟨gv, 2, none⟩) (by show _ ≠ gv; omega) (.int .i64 pz))
  have HR := Lib.hid (HR.out.other (p := ⟨gv, 2, none⟩) (by show _ ≠ gv; omega) (.int .i64 pz))
  have HK := Lib.hid (Blk.other HK.out (p := ⟨gv, 2, none⟩) (by show _ ≠ gv; omega) (.int .i64 pz))
  have HB2 := Lib.hid (HB2.out.other (p := ⟨gv, 2, none⟩) (by show _ ≠ gv; omega) (.int .i64 pz))
  have HB := Lib.hid (HB.out.setCell (p := ⟨gv, 2, none⟩) (by show _ ≤ gv; omega) (.int .i64 pz))
  generalize (w1.setCell ⟨gv, 2, none⟩ (.int .i64 pz)) = w1 at *
  have HK := Lib.hid (show Bent w1 70 gk (xb || yb || zb) from by have h := HK.out; rw [Bool.false_or] at h; exact h)
  have HV := Lib.hid HV.out.drew
  have HK := Lib.hid (Blk.drew HK.out)
  have HR := Lib.hid HR.out.drew
  have HB := Lib.hid HB.out.drew
  have HS := And.intro HV.out ((Blk.cell HK.out 0).trans rfl)
  refine wp_region_noPanic ?_
  refine Rg.beginR [0, 4] (fun w' => Blk w' gv 37 #[.int .i64 px, .int .i64 py, .int .i64 pz] ∧ w'.cell? ⟨gk, 0, none⟩ = some (.bool (xb || yb || zb))) (by kernel_rfl) ?_
  generalize w1.drew = w1 at *
  refine Rg.takeS (i := 0) (oi := { dst := some 31, op := Op.load 37 (Operand.tmp 7), type := 37, pos := "number.go:190", after := #[], guard := none }) (v := .agg #[.int .i64 px, .int .i64 py, .int .i64 pz]) rfl (by kernel_rfl) (fun _ _ _ h => h) (by rfl) HS ?_ ?_
  · (intro w' hSw; exact exec_load_st 37 (.tmp 7) rfl gv rfl hSw.1 Try.underlying37 rfl (by kernel_rfl))
  try simp only [Act.put, List.setIfInBounds_toArray, List.set_cons_zero, List.set_cons_succ]
  refine Rg.takeP (i := 1) (oi := { dst := some 32, op := Op.move (Operand.tmp 6), type := 68, pos := "number.go:190", after := #[{ on := 5, ground := Ground.gcOnly Departure.lateStores }], guard := none }) (v := ?_) rfl (by kernel_rfl) (fun _ _ _ h => h) (by rfl) ?_ ?_
  rotate_left 1
  · (intro w; go_simp; (try with_reducible rfl))
  try simp only [Act.put, List.setIfInBounds_toArray, List.set_cons_zero, List.set_cons_succ]
  refine Rg.takeP (i := 2) (oi := { dst := some 33, op := Op.nilCheck (Operand.tmp 32), type := 0, pos := "number.go:190", after := #[{ on := 1, ground := Ground.data }, { on := 5, ground := Ground.gcOnly Departure.lateStores }], guard := none }) (v := ?_) rfl (by kernel_rfl) (fun _ _ _ h => h) (by rfl) ?_ ?_
  rotate_left 1
  · (intro w; go_simp; (try with_reducible rfl))
  try simp only [Act.put, List.setIfInBounds_toArray, List.set_cons_zero, List.set_cons_succ]
  refine Rg.takeP (i := 3) (oi := { dst := some 34, op := Op.fieldAddr 70 (Operand.tmp 33) 0, type := 0, pos := "number.go:190", after := #[{ on := 2, ground := Ground.data }, { on := 5, ground := Ground.gcOnly Departure.lateStores }], guard := none }) (v := ?_) rfl (by kernel_rfl) (fun _ _ _ h => h) (by rfl) ?_ ?_
  rotate_left 1
  · (intro w; go_simp; (try with_reducible rfl))
  try simp only [Act.put, List.setIfInBounds_toArray, List.set_cons_zero, List.set_cons_succ]
  refine Rg.takeS (i := 4) (oi := { dst := some 35, op := Op.load 4 (Operand.tmp 34), type := 4, pos := "number.go:190", after := #[{ on := 3, ground := Ground.data }, { on := 5, ground := Ground.gcOnly Departure.lateStores }], guard := none }) (v := ?_) rfl (by kernel_rfl) (fun _ _ _ h => h) (by rfl) HS ?_ ?_
  rotate_left 1
  · (intro w hSw; (try dsimp only at hSw); (try go_split_ands); go_simp; (try with_reducible rfl))
  try simp only [Act.put, List.setIfInBounds_toArray, List.set_cons_zero, List.set_cons_succ]
  refine Rg.oneR (i := 5) (oi := { dst := none, op := Op.store 37 (Operand.tmp 4) (Operand.tmp 31), type := 0, pos := "number.go:190", after := #[{ on := 0, ground := Ground.data }, { on := 0, ground := Ground.phase }, { on := 1, ground := Ground.textOnly Departure.lateStores }, { on := 2, ground := Ground.textOnly Departure.lateStores }, { on := 3, ground := Ground.textOnly Departure.lateStores }, { on := 4, ground := Ground.textOnly Departure.lateStores }], guard := none }) rfl (by kernel_rfl) ?_
  refine Rg.stepS ?_
  intro K hK
  rw [if_pos (by rfl)]
  refine wp_store_row 37 _ _ rfl gr #[.int .i64 px, .int .i64 py, .int .i64 pz] rfl rfl 37 _ HR.out (by kernel_rfl) rfl (by simp [Value.oneCell']) ?_
  have HR := Lib.hid (HR.out.setRow #[.int .i64 px, .int .i64 py, .int .i64 pz])
  have HV := Lib.hid (HV.out.setRow_other (g' := gr) (by omega) #[.int .i64 px, .int .i64 py, .int .i64 pz])
  have HK := Lib.hid (Blk.setRow_other HK.out (g' := gr) (by omega) #[.int .i64 px, .int .i64 py, .int .i64 pz])
  have HB := Lib.hid (below_setRow HB.out (show w.heap.size ≤ gr by omega) #[.int .i64 px, .int .i64 py, .int .i64 pz])
  generalize (w1.setRow gr #[.int .i64 px, .int .i64 py, .int .i64 pz]) = w1 at *
  clear HS
  have HS := And.intro HV.out ((Blk.cell HK.out 0).trans rfl)
  refine hK.out _ _ HS ?_
  clear hK K
  try simp only [Act.put, List.setIfInBounds_toArray, List.set_cons_zero, List.set_cons_succ]
  refine Rg.takeP (i := 6) (oi := { dst := some 5, op := Op.assign (Operand.tmp 35), type := 4, pos := "number.go:190", after := #[{ on := 4, ground := Ground.data }, { on := 5, ground := Ground.chain }, { on := 0, ground := Ground.phase }, { on := 1, ground := Ground.phase }, { on := 2, ground := Ground.phase }, { on := 3, ground := Ground.phase }, { on := 4, ground := Ground.phase }, { on := 5, ground := Ground.phase }], guard := none }) (v := ?_) rfl (by kernel_rfl) (fun _ _ _ h => h) (by rfl) ?_ ?_
  rotate_left 1
  · (intro w; go_simp; (try with_reducible rfl))
  try simp only [Act.put, List.setIfInBounds_toArray, List.set_cons_zero, List.set_cons_succ]
  refine Rg.doneR (by kernel_rfl) ?_ _
  refine NoPanic.normal ?_
  clear HS
  go_wp2_with fail
  refine ret_row2 (x := .bool (xb || yb || zb)) rfl rfl rfl HR.out ⟨by rw [Try.underlying37], by kernel_rfl⟩ rfl ?_
  exact ⟨by rw [PX_.out, PY_.out, PZ_.out]; rfl, HB.out⟩

set_option maxRecDepth 100000 in
set_option maxHeartbeats 1000000 in
theorem refVecScale_any (ax ay az k : Int) (w : World) (r_ax : In64 ax) (r_ay : In64 ay) (r_az : In64 az) (r_k : In64 k) :
    Calls Try.prog 27 #[vecV ax ay az, .int .i64 k] w fun e w' => TwoV w w' (fmul ax k) (fmul ay k) (fmul az k) e := by
  unfold vecV
  have HA := Lib.hid (show Blk ((((w.alloc (.cells #[.int .i64 ax, .int .i64 ay, .int .i64 az] 37)).alloc (.cells #[.int .i64 0, .int .i64 0, .int .i64 0] 37)).alloc (.cells #[.bool false] 70)).alloc (.cells #[.int .i64 0, .int .i64 0, .int .i64 0] 37)) (w.heap.size) 37 #[.int .i64 ax, .int .i64 ay, .int .i64 az] from (((Blk.new rfl).alloc _).alloc _).alloc _)
  have HR := Lib.hid (show Blk ((((w.alloc (.cells #[.int .i64 ax, .int .i64 ay, .int .i64 az] 37)).alloc (.cells #[.int .i64 0, .int .i64 0, .int .i64 0] 37)).alloc (.cells #[.bool false] 70)).alloc (.cells #[.int .i64 0, .int .i64 0, .int .i64 0] 37)) (w.heap.size + 1) 37 #[.int .i64 0, .int .i64 0, .int .i64 0] from ((Blk.new (by simp)).alloc _).alloc _)
  have HK := Lib.hid (show Blk ((((w.alloc (.cells #[.int .i64 ax, .int .i64 ay, .int .i64 az] 37)).alloc (.cells #[.int .i64 0, .int .i64 0, .int .i64 0] 37)).alloc (.cells #[.bool false] 70)).alloc (.cells #[.int .i64 0, .int .i64 0, .int .i64 0] 37)) (w.heap.size + 1 + 1) 70 #[.bool false] from (Blk.new (by simp)).alloc _)
  have HV := Lib.hid (show Blk ((((w.alloc (.cells #[.int .i64 ax, .int .i64 ay, .int .i64 az] 37)).alloc (.cells #[.int .i64 0, .int .i64 0, .int .i64 0] 37)).alloc (.cells #[.bool false] 70)).alloc (.cells #[.int .i64 0, .int .i64 0, .int .i64 0] 37)) (w.heap.size + 1 + 1 + 1) 37 #[.int .i64 0, .int .i64 0, .int .i64 0] from Blk.new (by simp))
  have HB := Lib.hid (show Below w.heap.size w ((((w.alloc (.cells #[.int .i64 ax, .int .i64 ay, .int .i64 az] 37)).alloc (.cells #[.int .i64 0, .int .i64 0, .int .i64 0] 37)).alloc (.cells #[.bool false] 70)).alloc (.cells #[.int .i64 0, .int .i64 0, .int .i64 0] 37)) from ((((Below.refl _ _).alloc (Nat.le_refl _) _).alloc (by simp) _).alloc (by simp; omega) _).alloc (by simp; omega) _)
  obtain ⟨⟨px, xb⟩, h_px⟩ : ∃ res_, fmul ax k = res_ := ⟨_, rfl⟩
  have PX_ := Lib.hid h_px
  have r_px : In64 px := by have h := fmul_range ax k; rw [h_px] at h; exact h
  clear h_px
  obtain ⟨⟨py, yb⟩, h_py⟩ : ∃ res_, fmul ay k = res_ := ⟨_, rfl⟩
  have PY_ := Lib.hid h_py
  have r_py : In64 py := by have h := fmul_range ay k; rw [h_py] at h; exact h
  clear h_py
  obtain ⟨⟨pz, zb⟩, h_pz⟩ : ∃ res_, fmul az k = res_ := ⟨_, rfl⟩
  have PZ_ := Lib.hid h_pz
  have r_pz : In64 pz := by have h := fmul_range az k; rw [h_pz] at h; exact h
  clear h_pz
  go_enter Try.func27, Try.ntmps27
  go_upto_region 3 with fail
  generalize ((((w.alloc (.cells #[.int .i64 ax, .int .i64 ay, .int .i64 az] 37)).alloc (.cells #[.int .i64 0, .int .i64 0, .int .i64 0] 37)).alloc (.cells #[.bool false] 70)).alloc (.cells #[.int .i64 0, .int .i64 0, .int .i64 0] 37)) = w1 at *
  obtain ⟨gv, hgv⟩ : ∃ g, w.heap.size + 1 + 1 + 1 = g := ⟨_, rfl⟩
  rw [hgv] at HV ⊢
  obtain ⟨gk, hgk⟩ : ∃ g, w.heap.size + 1 + 1 = g := ⟨_, rfl⟩
  rw [hgk] at HK ⊢
  obtain ⟨gr, hgr⟩ : ∃ g, w.heap.size + 1 = g := ⟨_, rfl⟩
  rw [hgr] at HR ⊢
  have HK : Hid (Bent w1 70 gk false) := HK
  have ka : w1.cell? ⟨w.heap.size, 0, none⟩ = some (.int .i64 ax) := (Blk.cell HA.out 0).trans rfl
  go_wp2_with fail
  refine (rmul_any gk _ ax k _ HK.out r_ax r_k).mono ?_
  intro e w1 hc
  rw [PX_.out] at hc
  obtain ⟨rfl, hst, hg⟩ := hc
  dsimp only at hst
  clear ka
  have HK := Lib.hid hst
  have HA := Lib.hid (HA.out.grown hg (neq_of (by omega)))
  have HR := Lib.hid (HR.out.grown hg (neq_of (by omega)))
  have HV := Lib.hid (HV.out.grown hg (neq_of (by omega)))
  have HB := Lib.hid (below_grown HB.out (Nat.le_refl _) hg (fun g e => by injection e with e; omega))
  clear hst hg
  have kv : w1.cell? ⟨gv, 0, none⟩ = some (.int .i64 0) := (Blk.cell HV.out 0).trans rfl
  have fv := Blk.thaw HV.out 0
  go_upto_region 4 with fail
  clear kv fv
  have HV := Lib.hid (show Blk (w1.setCell ⟨gv, 0, none⟩ (.int .i64 px)) gv 37 #[.int .i64 px, .int .i64 0, .int .i64 0] from Blk.set HV.out 0 (.int .i64 px))
  have HA := Lib.hid (HA.out.other (p := ⟨gv, 0, none⟩) (by show _ ≠ gv; omega) (.int .i64 px))
  have HR := Lib.hid (HR.out.other (p := ⟨gv, 0, none⟩) (by show _ ≠ gv; omega) (.int .i64 px))
  have HK := Lib.hid (Blk.other HK.out (p := ⟨gv, 0, none⟩) (by show _ ≠ gv; omega) (.int .i64 px))
  have HB := Lib.hid (HB.out.setCell (p := ⟨gv, 0, none⟩) (by show _ ≤ gv; omega) (.int .i64 px))
  generalize (w1.setCell ⟨gv, 0, none⟩ (.int .i64 px)) = w1 at *
  have ka : w1.cell? ⟨w.heap.size, 1, none⟩ = some (.int .i64 ay) := (Blk.cell HA.out 1).trans rfl
  go_wp2_with fail
  refine (rmul_any gk _ ay k _ HK.out r_ay r_k).mono ?_
  intro e w1 hc
  rw [PY_.out] at hc
  obtain ⟨rfl, hst, hg⟩ := hc
  dsimp only at hst
  clear ka
  have HK := Lib.hid hst
  have HA := Lib.hid (HA.out.grown hg (neq_of (by omega)))
  have HR := Lib.hid (HR.out.grown hg (neq_of (by omega)))
  have HV := Lib.hid (HV.out.grown hg (neq_of (by omega)))
  have HB := Lib.hid (below_grown HB.out (Nat.le_refl _) hg (fun g e => by injection e with e; omega))
  clear hst hg
  have kv : w1.cell? ⟨gv, 1, none⟩ = some (.int .i64 0) := (Blk.cell HV.out 1).trans rfl
  have fv := Blk.thaw HV.out 1
  go_upto_region 5 with fail
  clear kv fv
  have HV := Lib.hid (show Blk (w1.setCell ⟨gv, 1, none⟩ (.int .i64 py)) gv 37 #[.int .i64 px, .int .i64 py, .int .i64 0] from Blk.set HV.out 1 (.int .i64 py))
  have HA := Lib.hid (HA.out.other (p := ⟨gv, 1, none⟩) (by show _ ≠ gv; omega) (.int .i64 py))
  have HR := Lib.hid (HR.out.other (p := ⟨gv, 1, none⟩) (by show _ ≠ gv; omega) (.int .i64 py))
  have HK := Lib.hid (Blk.other HK.out (p := ⟨gv, 1, none⟩) (by show _ ≠ gv; omega) (.int .i64 py))
  have HB := Lib.hid (HB.out.setCell (p := ⟨gv, 1, none⟩) (by show _ ≤ gv; omega) (.int .i64 py))
  generalize (w1.setCell ⟨gv, 1, none⟩ (.int .i64 py)) = w1 at *
  have ka : w1.cell? ⟨w.heap.size, 2, none⟩ = some (.int .i64 az) := (Blk.cell HA.out 2).trans rfl
  go_wp2_with fail
  refine (rmul_any gk _ az k _ HK.out r_az r_k).mono ?_
  intro e w1 hc
  rw [PZ_.out] at hc
  obtain ⟨rfl, hst, hg⟩ := hc
  dsimp only at hst
  clear ka
  have HK := Lib.hid hst
  have HA := Lib.hid (HA.out.grown hg (neq_of (by omega)))
  have HR := Lib.hid (HR.out.grown hg (neq_of (by omega)))
  have HV := Lib.hid (HV.out.grown hg (neq_of (by omega)))
  have HB := Lib.hid (below_grown HB.out (Nat.le_refl _) hg (fun g e => by injection e with e; omega))
  clear hst hg
  have kv : w1.cell? ⟨gv, 2, none⟩ = some (.int .i64 0) := (Blk.cell HV.out 2).trans rfl
  have fv := Blk.thaw HV.out 2
  go_upto_region 6 with fail
  clear kv fv
  have HV := Lib.hid (show Blk (w1.setCell ⟨gv, 2, none⟩ (.int .i64 pz)) gv 37 #[.int .i64 px, .int .i64 py, .int .i64 pz] from Blk.set HV.out 2 (.int .i64 pz))
  have HA := Lib.hid (HA.out.other (p := ⟨gv, 2, none⟩) (by show _ ≠ gv; omega) (.int .i64 pz))
  have HR := Lib.hid (HR.out.other (p := ⟨gv, 2, none⟩) (by show _ ≠ gv; omega) (.int .i64 pz))
  have HK := Lib.hid (Blk.other HK.out (p := ⟨gv, 2, none⟩) (by show _ ≠ gv; omega) (.int .i64 pz))
  have HB := Lib.hid (HB.out.setCell (p := ⟨gv, 2, none⟩) (by show _ ≤ gv; omega) (.int .i64 pz))
  generalize (w1.setCell ⟨gv, 2, none⟩ (.int .i64 pz)) = w1 at *
  have HK := Lib.hid (show Bent w1 70 gk (xb || yb || zb) from by have h := HK.out; rw [Bool.false_or] at h; exact h)
  have HV := Lib.hid HV.out.drew
  have HK := Lib.hid (Blk.drew HK.out)
  have HR := Lib.hid HR.out.drew
  have HB := Lib.hid HB.out.drew
  have HS := And.intro HV.out ((Blk.cell HK.out 0).trans rfl)
  refine wp_region_noPanic ?_
  refine Rg.beginR [0, 4] (fun w' => Blk w' gv 37 #[.int .i64 px, .int .i64 py, .int .i64 pz] ∧ w'.cell? ⟨gk, 0, none⟩ = some (.bool (xb || yb || zb))) (by kernel_rfl) ?_
  generalize w1.drew = w1 at *
  refine Rg.takeS (i := 0) (oi := { dst := some 28, op := Op.load 37 (Operand.tmp 7), type := 37, pos := "number.go:199", after := #[], guard := none }) (v := .agg #[.int .i64 px, .int .i64 py, .int .i64 pz]) rfl (by kernel_rfl) (fun _ _ _ h => h) (by rfl) HS ?_ ?_
  · (intro w' hSw; exact exec_load_st 37 (.tmp 7) rfl gv rfl hSw.1 Try.underlying37 rfl (by kernel_rfl))
  try simp only [Act.put, List.setIfInBounds_toArray, List.set_cons_zero, List.set_cons_succ]
  refine Rg.takeP (i := 1) (oi := { dst := some 29, op := Op.move (Operand.tmp 6), type := 68, pos := "number.go:199", after := #[{ on := 5, ground := Ground.gcOnly Departure.lateStores }], guard := none }) (v := ?_) rfl (by kernel_rfl) (fun _ _ _ h => h) (by rfl) ?_ ?_
  rotate_left 1
  · (intro w; go_simp; (try with_reducible rfl))
  try simp only [Act.put, List.setIfInBounds_toArray, List.set_cons_zero, List.set_cons_succ]
  refine Rg.takeP (i := 2) (oi := { dst := some 30, op := Op.nilCheck (Operand.tmp 29), type := 0, pos := "number.go:199", after := #[{ on := 1, ground := Ground.data }, { on := 5, ground := Ground.gcOnly Departure.lateStores }], guard := none }) (v := ?_) rfl (by kernel_rfl) (fun _ _ _ h => h) (by rfl) ?_ ?_
  rotate_left 1
  · (intro w; go_simp; (try with_reducible rfl))
  try simp only [Act.put, List.setIfInBounds_toArray, List.set_cons_zero, List.set_cons_succ]
  refine Rg.takeP (i := 3) (oi := { dst := some 31, op := Op.fieldAddr 70 (Operand.tmp 30) 0, type := 0, pos := "number.go:199", after := #[{ on := 2, ground := Ground.data }, { on := 5, ground := Ground.gcOnly Departure.lateStores }], guard := none }) (v := ?_) rfl (by kernel_rfl) (fun _ _ _ h => h) (by rfl) ?_ ?_
  rotate_left 1
  · (intro w; go_simp; (try with_reducible rfl))
  try simp only [Act.put, List.setIfInBounds_toArray, List.set_cons_zero, List.set_cons_succ]
  refine Rg.takeS (i := 4) (oi := { dst := some 32, op := Op.load 4 (Operand.tmp 31), type := 4, pos := "number.go:199", after := #[{ on := 3, ground := Ground.data }, { on := 5, ground := Ground.gcOnly Departure.lateStores }], guard := none }) (v := ?_) rfl (by kernel_rfl) (fun _ _ _ h => h) (by rfl) HS ?_ ?_
  rotate_left 1
  · (intro w hSw; (try dsimp only at hSw); (try go_split_ands); go_simp; (try with_reducible rfl))
  try simp only [Act.put, List.setIfInBounds_toArray, List.set_cons_zero, List.set_cons_succ]
  refine Rg.oneR (i := 5) (oi := { dst := none, op := Op.store 37 (Operand.tmp 4) (Operand.tmp 28), type := 0, pos := "number.go:199", after := #[{ on := 0, ground := Ground.data }, { on := 0, ground := Ground.phase }, { on := 1, ground := Ground.textOnly Departure.lateStores }, { on := 2, ground := Ground.textOnly Departure.lateStores }, { on := 3, ground := Ground.textOnly Departure.lateStores }, { on := 4, ground := Ground.textOnly Departure.lateStores }], guard := none }) rfl (by kernel_rfl) ?_
  refine Rg.stepS ?_
  intro K hK
  rw [if_pos (by rfl)]
  refine wp_store_row 37 _ _ rfl gr #[.int .i64 px, .int .i64 py, .int .i64 pz] rfl rfl 37 _ HR.out (by kernel_rfl) rfl (by simp [Value.oneCell']) ?_
  have HR := Lib.hid (HR.out.setRow #[.int .i64 px, .int .i64 py, .int .i64 pz])
  have HV := Lib.hid (HV.out.setRow_other (g' := gr) (by omega) #[.int .i64 px, .int .i64 py, .int .i64 pz])
  have HK := Lib.hid (Blk.setRow_other HK.out (g' := gr) (by omega) #[.int .i64 px, .int .i64 py, .int .i64 pz])
  have HB := Lib.hid (below_setRow HB.out (show w.heap.size ≤ gr by omega) #[.int .i64 px, .int .i64 py, .int .i64 pz])
  generalize (w1.setRow gr #[.int .i64 px, .int .i64 py, .int .i64 pz]) = w1 at *
  clear HS
  have HS := And.intro HV.out ((Blk.cell HK.out 0).trans rfl)
  refine hK.out _ _ HS ?_
  clear hK K
  try simp only [Act.put, List.setIfInBounds_toArray, List.set_cons_zero, List.set_cons_succ]
  refine Rg.takeP (i := 6) (oi := { dst := some 5, op := Op.assign (Operand.tmp 32), type := 4, pos := "number.go:199", after := #[{ on := 4, ground := Ground.data }, { on := 5, ground := Ground.chain }, { on := 0, ground := Ground.phase }, { on := 1, ground := Ground.phase }, { on := 2, ground := Ground.phase }, { on := 3, ground := Ground.phase }, { on := 4, ground := Ground.phase }, { on := 5, ground := Ground.phase }], guard := none }) (v := ?_) rfl (by kernel_rfl) (fun _ _ _ h => h) (by rfl) ?_ ?_
  rotate_left 1
  · (intro w; go_simp; (try with_reducible rfl))
  try simp only [Act.put, List.setIfInBounds_toArray, List.set_cons_zero, List.set_cons_succ]
  refine Rg.doneR (by kernel_rfl) ?_ _
  refine NoPanic.normal ?_
  clear HS
  go_wp2_with fail
  refine ret_row2 (x := .bool (xb || yb || zb)) rfl rfl rfl HR.out ⟨by rw [Try.underlying37], by kernel_rfl⟩ rfl ?_
  exact ⟨by rw [PX_.out, PY_.out, PZ_.out]; rfl, HB.out⟩
end Go.Proofs.Ytajhkbdaoakogaa.BigW
