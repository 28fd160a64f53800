/- Contract: the reference's Cross. -/
import Derived.Test.YtajhkbdaoakogaaCross
import Derived.LoopN
namespace Go.Proofs.Ytajhkbdaoakogaa.BigW
open Go.RowKit Go.Proofs.Ytajhkbdaoakogaa.Mem Go.Proofs.Ytajhkbdaoakogaa.BigLaw Go.Proofs.Ytajhkbdaoakogaa.Rws
set_option linter.unusedVariables false
set_option linter.unusedSimpArgs false

set_option maxRecDepth 100000 in
set_option maxHeartbeats 1000000 in
theorem refcross_any (ax ay az bx b_y bz : Int) (w : World) (r_ax : In64 ax) (r_ay : In64 ay) (r_az : In64 az) (r_bx : In64 bx) (r_b_y : In64 b_y) (r_bz : In64 bz) :
    Calls Try.prog 29 #[vecV ax ay az, vecV bx b_y bz] w fun e w' => TwoV w w' (twoV ay bz az b_y) (twoV az bx ax bz) (twoV ax b_y ay bx) e := by
  unfold vecV
  have HR := Lib.hid (show Blk (((((((w.alloc (.cells #[.int .i64 ax, .int .i64 ay, .int .i64 az] 37)).alloc (.cells #[.int .i64 bx, .int .i64 b_y, .int .i64 bz] 37)).alloc (.cells #[.int .i64 0, .int .i64 0, .int .i64 0] 37)).alloc (.cells #[.bool false] 70)).alloc (.cells #[.int .i64 ax, .int .i64 ay, .int .i64 az] 3)).alloc (.cells #[.int .i64 bx, .int .i64 b_y, .int .i64 bz] 3)).alloc (.cells #[.int .i64 0, .int .i64 0, .int .i64 0] 78)) (w.heap.size + 1 + 1) 37 #[.int .i64 0, .int .i64 0, .int .i64 0] from ((((Blk.new (by simp)).alloc _).alloc _).alloc _).alloc _)
  have HK := Lib.hid (show Blk (((((((w.alloc (.cells #[.int .i64 ax, .int .i64 ay, .int .i64 az] 37)).alloc (.cells #[.int .i64 bx, .int .i64 b_y, .int .i64 bz] 37)).alloc (.cells #[.int .i64 0, .int .i64 0, .int .i64 0] 37)).alloc (.cells #[.bool false] 70)).alloc (.cells #[.int .i64 ax, .int .i64 ay, .int .i64 az] 3)).alloc (.cells #[.int .i64 bx, .int .i64 b_y, .int .i64 bz] 3)).alloc (.cells #[.int .i64 0, .int .i64 0, .int .i64 0] 78)) (w.heap.size + 1 + 1 + 1) 70 #[.bool false] from (((Blk.new (by simp)).alloc _).alloc _).alloc _)
  have HP := Lib.hid (show Blk (((((((w.alloc (.cells #[.int .i64 ax, .int .i64 ay, .int .i64 az] 37)).alloc (.cells #[.int .i64 bx, .int .i64 b_y, .int .i64 bz] 37)).alloc (.cells #[.int .i64 0, .int .i64 0, .int .i64 0] 37)).alloc (.cells #[.bool false] 70)).alloc (.cells #[.int .i64 ax, .int .i64 ay, .int .i64 az] 3)).alloc (.cells #[.int .i64 bx, .int .i64 b_y, .int .i64 bz] 3)).alloc (.cells #[.int .i64 0, .int .i64 0, .int .i64 0] 78)) (w.heap.size + 1 + 1 + 1 + 1) 3 #[.int .i64 ax, .int .i64 ay, .int .i64 az] from ((Blk.new (by simp)).alloc _).alloc _)
  have HQ := Lib.hid (show Blk (((((((w.alloc (.cells #[.int .i64 ax, .int .i64 ay, .int .i64 az] 37)).alloc (.cells #[.int .i64 bx, .int .i64 b_y, .int .i64 bz] 37)).alloc (.cells #[.int .i64 0, .int .i64 0, .int .i64 0] 37)).alloc (.cells #[.bool false] 70)).alloc (.cells #[.int .i64 ax, .int .i64 ay, .int .i64 az] 3)).alloc (.cells #[.int .i64 bx, .int .i64 b_y, .int .i64 bz] 3)).alloc (.cells #[.int .i64 0, .int .i64 0, .int .i64 0] 78)) (w.heap.size + 1 + 1 + 1 + 1 + 1) 3 #[.int .i64 bx, .int .i64 b_y, .int .i64 bz] from (Blk.new (by simp)).alloc _)
  have HV := Lib.hid (show Blk (((((((w.alloc (.cells #[.int .i64 ax, .int .i64 ay, .int .i64 az] 37)).alloc (.cells #[.int .i64 bx, .int .i64 b_y, .int .i64 bz] 37)).alloc (.cells #[.int .i64 0, .int .i64 0, .int .i64 0] 37)).alloc (.cells #[.bool false] 70)).alloc (.cells #[.int .i64 ax, .int .i64 ay, .int .i64 az] 3)).alloc (.cells #[.int .i64 bx, .int .i64 b_y, .int .i64 bz] 3)).alloc (.cells #[.int .i64 0, .int .i64 0, .int .i64 0] 78)) (w.heap.size + 1 + 1 + 1 + 1 + 1 + 1) 78 #[.int .i64 0, .int .i64 0, .int .i64 0] from Blk.new (by simp))
  have HB := Lib.hid (show Below w.heap.size w (((((((w.alloc (.cells #[.int .i64 ax, .int .i64 ay, .int .i64 az] 37)).alloc (.cells #[.int .i64 bx, .int .i64 b_y, .int .i64 bz] 37)).alloc (.cells #[.int .i64 0, .int .i64 0, .int .i64 0] 37)).alloc (.cells #[.bool false] 70)).alloc (.cells #[.int .i64 ax, .int .i64 ay, .int .i64 az] 3)).alloc (.cells #[.int .i64 bx, .int .i64 b_y, .int .i64 bz] 3)).alloc (.cells #[.int .i64 0, .int .i64 0, .int .i64 0] 78)) from (((((((Below.refl _ _).alloc (Nat.le_refl _) _).alloc (by simp) _).alloc (by simp; omega) _).alloc (by simp; omega) _).alloc (by simp; omega) _).alloc (by simp; omega) _).alloc (by simp; omega) _)
  obtain ⟨⟨x1, x1b⟩, h_x1⟩ : ∃ res_, fmul ay bz = res_ := ⟨_, rfl⟩
  have X1_ := Lib.hid h_x1
  have r_x1 : In64 x1 := by have h := fmul_range ay bz; rw [h_x1] at h; exact h
  clear h_x1
  obtain ⟨⟨x2, x2b⟩, h_x2⟩ : ∃ res_, fmul az b_y = res_ := ⟨_, rfl⟩
  have X2_ := Lib.hid h_x2
  have r_x2 : In64 x2 := by have h := fmul_range az b_y; rw [h_x2] at h; exact h
  clear h_x2
  obtain ⟨⟨px, pxb⟩, h_px⟩ : ∃ res_, fsub x1 x2 = res_ := ⟨_, rfl⟩
  have PX_ := Lib.hid h_px
  have r_px : In64 px := by have h := fsub_range x1 x2; rw [h_px] at h; exact h
  clear h_px
  obtain ⟨xb, hxb⟩ : ∃ t_, (x1b || x2b || pxb) = t_ := ⟨_, rfl⟩
  have PXT := Lib.hid (show twoV ay bz az b_y = (px, xb) from by simp only [twoV, X1_.out, X2_.out, PX_.out, hxb])
  have BX := Lib.hid hxb
  clear hxb
  obtain ⟨⟨y1, y1b⟩, h_y1⟩ : ∃ res_, fmul az bx = res_ := ⟨_, rfl⟩
  have Y1_ := Lib.hid h_y1
  have r_y1 : In64 y1 := by have h := fmul_range az bx; rw [h_y1] at h; exact h
  clear h_y1
  obtain ⟨⟨y2, y2b⟩, h_y2⟩ : ∃ res_, fmul ax bz = res_ := ⟨_, rfl⟩
  have Y2_ := Lib.hid h_y2
  have r_y2 : In64 y2 := by have h := fmul_range ax bz; rw [h_y2] at h; exact h
  clear h_y2
  obtain ⟨⟨py, pyb⟩, h_py⟩ : ∃ res_, fsub y1 y2 = res_ := ⟨_, rfl⟩
  have PY_ := Lib.hid h_py
  have r_py : In64 py := by have h := fsub_range y1 y2; rw [h_py] at h; exact h
  clear h_py
  obtain ⟨yb, hyb⟩ : ∃ t_, (y1b || y2b || pyb) = t_ := ⟨_, rfl⟩
  have PYT := Lib.hid (show twoV az bx ax bz = (py, yb) from by simp only [twoV, Y1_.out, Y2_.out, PY_.out, hyb])
  have BY := Lib.hid hyb
  clear hyb
  obtain ⟨⟨z1, z1b⟩, h_z1⟩ : ∃ res_, fmul ax b_y = res_ := ⟨_, rfl⟩
  have Z1_ := Lib.hid h_z1
  have r_z1 : In64 z1 := by have h := fmul_range ax b_y; rw [h_z1] at h; exact h
  clear h_z1
  obtain ⟨⟨z2, z2b⟩, h_z2⟩ : ∃ res_, fmul ay bx = res_ := ⟨_, rfl⟩
  have Z2_ := Lib.hid h_z2
  have r_z2 : In64 z2 := by have h := fmul_range ay bx; rw [h_z2] at h; exact h
  clear h_z2
  obtain ⟨⟨pz, pzb⟩, h_pz⟩ : ∃ res_, fsub z1 z2 = res_ := ⟨_, rfl⟩
  have PZ_ := Lib.hid h_pz
  have r_pz : In64 pz := by have h := fsub_range z1 z2; rw [h_pz] at h; exact h
  clear h_pz
  obtain ⟨zb, hzb⟩ : ∃ t_, (z1b || z2b || pzb) = t_ := ⟨_, rfl⟩
  have PZT := Lib.hid (show twoV ax b_y ay bx = (pz, zb) from by simp only [twoV, Z1_.out, Z2_.out, PZ_.out, hzb])
  have BZ := Lib.hid hzb
  clear hzb
  go_enter Try.func29, Try.ntmps29
  go_upto_region 5 with fail
  generalize (((((((w.alloc (.cells #[.int .i64 ax, .int .i64 ay, .int .i64 az] 37)).alloc (.cells #[.int .i64 bx, .int .i64 b_y, .int .i64 bz] 37)).alloc (.cells #[.int .i64 0, .int .i64 0, .int .i64 0] 37)).alloc (.cells #[.bool false] 70)).alloc (.cells #[.int .i64 ax, .int .i64 ay, .int .i64 az] 3)).alloc (.cells #[.int .i64 bx, .int .i64 b_y, .int .i64 bz] 3)).alloc (.cells #[.int .i64 0, .int .i64 0, .int .i64 0] 78)) = w1 at *
  obtain ⟨gv, hgv⟩ : ∃ g, w.heap.size + 1 + 1 + 1 + 1 + 1 + 1 = g := ⟨_, rfl⟩
  rw [hgv] at HV ⊢
  obtain ⟨gq, hgq⟩ : ∃ g, w.heap.size + 1 + 1 + 1 + 1 + 1 = g := ⟨_, rfl⟩
  rw [hgq] at HQ ⊢
  obtain ⟨gp, hgp⟩ : ∃ g, w.heap.size + 1 + 1 + 1 + 1 = g := ⟨_, rfl⟩
  rw [hgp] at HP ⊢
  obtain ⟨gk, hgk⟩ : ∃ g, w.heap.size + 1 + 1 + 1 = g := ⟨_, rfl⟩
  rw [hgk] at HK ⊢
  obtain ⟨gr, hgr⟩ : ∃ g, w.heap.size + 1 + 1 = g := ⟨_, rfl⟩
  rw [hgr] at HR ⊢
  obtain ⟨gb, hgb⟩ : ∃ g, w.heap.size + 1 = g := ⟨_, rfl⟩
  rw [hgb] 
  have HK : Hid (Bent w1 70 gk false) := HK
  go_wp2_with fail
  refine wp_loop_rounds 4 ?_
  rw [rounds_succ]
  go_upto_region 9 with fail
  have HR := Lib.hid HR.out.drew
  have HP := Lib.hid HP.out.drew
  have HQ := Lib.hid HQ.out.drew
  have HV := Lib.hid HV.out.drew
  have HK := Lib.hid (Blk.drew HK.out)
  have HB := Lib.hid HB.out.drew
  have HS := And.intro ((Blk.cell HP.out 0).trans rfl) (And.intro ((Blk.cell HP.out 1).trans rfl) (And.intro ((Blk.cell HP.out 2).trans rfl) (And.intro ((Blk.cell HQ.out 0).trans rfl) (And.intro ((Blk.cell HQ.out 1).trans rfl) ((Blk.cell HQ.out 2).trans rfl)))))
  refine wp_region_noPanic ?_
  refine Rg.beginR [4, 8] (fun w' => w'.cell? ⟨gp, 0, none⟩ = some (.int .i64 ax) ∧ w'.cell? ⟨gp, 1, none⟩ = some (.int .i64 ay) ∧ w'.cell? ⟨gp, 2, none⟩ = some (.int .i64 az) ∧ w'.cell? ⟨gq, 0, none⟩ = some (.int .i64 bx) ∧ w'.cell? ⟨gq, 1, none⟩ = some (.int .i64 b_y) ∧ w'.cell? ⟨gq, 2, none⟩ = some (.int .i64 bz)) (by kernel_rfl) ?_
  generalize w1.drew = w1 at *
  refine Rg.takeP (i := 0) (oi := { dst := some 40, op := Op.move (Operand.tmp 6), type := 68, pos := "number.go:218", after := #[], guard := none }) (v := ?_) rfl (by kernel_rfl) (fun _ _ _ h => h) (by rfl) ?_ ?_
  rotate_left 1
  · (intro w; go_simp; (try with_reducible rfl))
  try simp only [Act.put, List.setIfInBounds_toArray, List.set_cons_zero, List.set_cons_succ]
  refine Rg.takeP (i := 1) (oi := { dst := some 41, op := Op.move (Operand.tmp 7), type := 32, pos := "number.go:218", after := #[], guard := none }) (v := ?_) rfl (by kernel_rfl) (fun _ _ _ h => h) (by rfl) ?_ ?_
  rotate_left 1
  · (intro w; go_simp; (try with_reducible rfl))
  try simp only [Act.put, List.setIfInBounds_toArray, List.set_cons_zero, List.set_cons_succ]
  refine Rg.takeP (i := 2) (oi := { dst := some 42, op := Op.move (Operand.tmp 11), type := 3, pos := "number.go:218", after := #[], guard := none }) (v := ?_) rfl (by kernel_rfl) (fun _ _ _ h => h) (by rfl) ?_ ?_
  rotate_left 1
  · (intro w; go_simp; (try with_reducible rfl))
  try simp only [Act.put, List.setIfInBounds_toArray, List.set_cons_zero, List.set_cons_succ]
  refine Rg.takeP (i := 3) (oi := { dst := some 43, op := Op.indexAddr 32 (Operand.tmp 41) (Operand.tmp 42), type := 0, pos := "number.go:218", after := #[{ on := 1, ground := Ground.data }, { on := 2, ground := Ground.data }], guard := none }) (v := ?_) rfl (by kernel_rfl) (fun _ _ _ h => h) (by rfl) ?_ ?_
  rotate_left 1
  · (intro w; go_simp; (try with_reducible rfl))
  try simp only [Act.put, List.setIfInBounds_toArray, List.set_cons_zero, List.set_cons_succ]
  refine Rg.takeS (i := 4) (oi := { dst := some 44, op := Op.load 3 (Operand.tmp 43), type := 3, pos := "number.go:218", after := #[{ on := 3, ground := Ground.data }], guard := none }) (v := ?_) rfl (by kernel_rfl) (fun _ _ _ h => h) (by rfl) HS ?_ ?_
  rotate_left 1
  · (intro w hSw; (try dsimp only at hSw); (try go_split_ands); go_simp; (try with_reducible rfl))
  try simp only [Act.put, List.setIfInBounds_toArray, List.set_cons_zero, List.set_cons_succ]
  refine Rg.takeP (i := 5) (oi := { dst := some 45, op := Op.move (Operand.tmp 8), type := 32, pos := "number.go:218", after := #[], guard := none }) (v := ?_) rfl (by kernel_rfl) (fun _ _ _ h => h) (by rfl) ?_ ?_
  rotate_left 1
  · (intro w; go_simp; (try with_reducible rfl))
  try simp only [Act.put, List.setIfInBounds_toArray, List.set_cons_zero, List.set_cons_succ]
  refine Rg.takeP (i := 6) (oi := { dst := some 46, op := Op.move (Operand.tmp 12), type := 3, pos := "number.go:218", after := #[], guard := none }) (v := ?_) rfl (by kernel_rfl) (fun _ _ _ h => h) (by rfl) ?_ ?_
  rotate_left 1
  · (intro w; go_simp; (try with_reducible rfl))
  try simp only [Act.put, List.setIfInBounds_toArray, List.set_cons_zero, List.set_cons_succ]
  refine Rg.takeP (i := 7) (oi := { dst := some 47, op := Op.indexAddr 32 (Operand.tmp 45) (Operand.tmp 46), type := 0, pos := "number.go:218", after := #[{ on := 5, ground := Ground.data }, { on := 6, ground := Ground.data }], guard := none }) (v := ?_) rfl (by kernel_rfl) (fun _ _ _ h => h) (by rfl) ?_ ?_
  rotate_left 1
  · (intro w; go_simp; (try with_reducible rfl))
  try simp only [Act.put, List.setIfInBounds_toArray, List.set_cons_zero, List.set_cons_succ]
  refine Rg.takeS (i := 8) (oi := { dst := some 48, op := Op.load 3 (Operand.tmp 47), type := 3, pos := "number.go:218", after := #[{ on := 7, ground := Ground.data }], guard := none }) (v := ?_) rfl (by kernel_rfl) (fun _ _ _ h => h) (by rfl) HS ?_ ?_
  rotate_left 1
  · (intro w hSw; (try dsimp only at hSw); (try go_split_ands); go_simp; (try with_reducible rfl))
  try simp only [Act.put, List.setIfInBounds_toArray, List.set_cons_zero, List.set_cons_succ]
  refine Rg.oneR (i := 9) (oi := { dst := some 49, op := Op.call { callee := Callee.value (Operand.func 52), args := #[Operand.tmp 40, Operand.tmp 44, Operand.tmp 48], argTypes := #[68, 3, 3] }, type := 3, pos := "number.go:218", after := #[{ on := 0, ground := Ground.data }, { on := 4, ground := Ground.data }, { on := 8, ground := Ground.data }], guard := none }) rfl (by kernel_rfl) ?_
  refine Rg.stepF ?_ ?_
  · kernel_rfl
  intro K hK
  rw [if_pos (by rfl)]
  go_simp
  go_at_call 52
  refine (rmul_any gk _ ay bz _ HK.out r_ay r_bz).mono ?_
  intro e w1 hc
  rw [X1_.out] at hc
  obtain ⟨rfl, hst, hg⟩ := hc
  dsimp only at hst
  have HK := Lib.hid hst
  have HR := Lib.hid (HR.out.grown hg (neq_of (by omega)))
  have HP := Lib.hid (HP.out.grown hg (neq_of (by omega)))
  have HQ := Lib.hid (HQ.out.grown hg (neq_of (by omega)))
  have HV := Lib.hid (HV.out.grown hg (neq_of (by omega)))
  have HB := Lib.hid (below_grown HB.out (Nat.le_refl _) hg (fun g e => by injection e with e; omega))
  clear hst hg HS
  have HS := And.intro ((Blk.cell HP.out 0).trans rfl) (And.intro ((Blk.cell HP.out 1).trans rfl) (And.intro ((Blk.cell HP.out 2).trans rfl) (And.intro ((Blk.cell HQ.out 0).trans rfl) (And.intro ((Blk.cell HQ.out 1).trans rfl) ((Blk.cell HQ.out 2).trans rfl)))))
  go_wp2_with fail
  refine hK.out _ _ ?_
  clear hK K
  try simp only [Act.put, List.setIfInBounds_toArray, List.set_cons_zero, List.set_cons_succ]
  refine Rg.takeP (i := 10) (oi := { dst := some 13, op := Op.assign (Operand.tmp 49), type := 3, pos := "number.go:218", after := #[{ on := 9, ground := Ground.data }, { on := 9, ground := Ground.chain }, { on := 0, ground := Ground.phase }, { on := 1, ground := Ground.phase }, { on := 2, ground := Ground.phase }, { on := 3, ground := Ground.phase }, { on := 4, ground := Ground.phase }, { on := 5, ground := Ground.phase }, { on := 6, ground := Ground.phase }, { on := 7, ground := Ground.phase }, { on := 8, ground := Ground.phase }, { on := 9, ground := Ground.phase }], guard := none }) (v := ?_) rfl (by kernel_rfl) (fun _ _ _ h => h) (by rfl) ?_ ?_
  rotate_left 1
  · (intro w; go_simp; (try with_reducible rfl))
  try simp only [Act.put, List.setIfInBounds_toArray, List.set_cons_zero, List.set_cons_succ]
  refine Rg.doneR (by kernel_rfl) ?_ _
  refine NoPanic.normal ?_
  clear HS
  go_upto_region 10 with fail
  have HR := Lib.hid HR.out.drew
  have HP := Lib.hid HP.out.drew
  have HQ := Lib.hid HQ.out.drew
  have HV := Lib.hid HV.out.drew
  have HK := Lib.hid (Blk.drew HK.out)
  have HB := Lib.hid HB.out.drew
  have HS := And.intro ((Blk.cell HP.out 0).trans rfl) (And.intro ((Blk.cell HP.out 1).trans rfl) (And.intro ((Blk.cell HP.out 2).trans rfl) (And.intro ((Blk.cell HQ.out 0).trans rfl) (And.intro ((Blk.cell HQ.out 1).trans rfl) ((Blk.cell HQ.out 2).trans rfl)))))
  refine wp_region_noPanic ?_
  refine Rg.beginR [4, 8] (fun w' => w'.cell? ⟨gp, 0, none⟩ = some (.int .i64 ax) ∧ w'.cell? ⟨gp, 1, none⟩ = some (.int .i64 ay) ∧ w'.cell? ⟨gp, 2, none⟩ = some (.int .i64 az) ∧ w'.cell? ⟨gq, 0, none⟩ = some (.int .i64 bx) ∧ w'.cell? ⟨gq, 1, none⟩ = some (.int .i64 b_y) ∧ w'.cell? ⟨gq, 2, none⟩ = some (.int .i64 bz)) (by kernel_rfl) ?_
  generalize w1.drew = w1 at *
  refine Rg.takeP (i := 0) (oi := { dst := some 50, op := Op.move (Operand.tmp 6), type := 68, pos := "number.go:219", after := #[], guard := none }) (v := ?_) rfl (by kernel_rfl) (fun _ _ _ h => h) (by rfl) ?_ ?_
  rotate_left 1
  · (intro w; go_simp; (try with_reducible rfl))
  try simp only [Act.put, List.setIfInBounds_toArray, List.set_cons_zero, List.set_cons_succ]
  refine Rg.takeP (i := 1) (oi := { dst := some 51, op := Op.move (Operand.tmp 7), type := 32, pos := "number.go:219", after := #[], guard := none }) (v := ?_) rfl (by kernel_rfl) (fun _ _ _ h => h) (by rfl) ?_ ?_
  rotate_left 1
  · (intro w; go_simp; (try with_reducible rfl))
  try simp only [Act.put, List.setIfInBounds_toArray, List.set_cons_zero, List.set_cons_succ]
  refine Rg.takeP (i := 2) (oi := { dst := some 52, op := Op.move (Operand.tmp 12), type := 3, pos := "number.go:219", after := #[], guard := none }) (v := ?_) rfl (by kernel_rfl) (fun _ _ _ h => h) (by rfl) ?_ ?_
  rotate_left 1
  · (intro w; go_simp; (try with_reducible rfl))
  try simp only [Act.put, List.setIfInBounds_toArray, List.set_cons_zero, List.set_cons_succ]
  refine Rg.takeP (i := 3) (oi := { dst := some 53, op := Op.indexAddr 32 (Operand.tmp 51) (Operand.tmp 52), type := 0, pos := "number.go:219", after := #[{ on := 1, ground := Ground.data }, { on := 2, ground := Ground.data }], guard := none }) (v := ?_) rfl (by kernel_rfl) (fun _ _ _ h => h) (by rfl) ?_ ?_
  rotate_left 1
  · (intro w; go_simp; (try with_reducible rfl))
  try simp only [Act.put, List.setIfInBounds_toArray, List.set_cons_zero, List.set_cons_succ]
  refine Rg.takeS (i := 4) (oi := { dst := some 54, op := Op.load 3 (Operand.tmp 53), type := 3, pos := "number.go:219", after := #[{ on := 3, ground := Ground.data }], guard := none }) (v := ?_) rfl (by kernel_rfl) (fun _ _ _ h => h) (by rfl) HS ?_ ?_
  rotate_left 1
  · (intro w hSw; (try dsimp only at hSw); (try go_split_ands); go_simp; (try with_reducible rfl))
  try simp only [Act.put, List.setIfInBounds_toArray, List.set_cons_zero, List.set_cons_succ]
  refine Rg.takeP (i := 5) (oi := { dst := some 55, op := Op.move (Operand.tmp 8), type := 32, pos := "number.go:219", after := #[], guard := none }) (v := ?_) rfl (by kernel_rfl) (fun _ _ _ h => h) (by rfl) ?_ ?_
  rotate_left 1
  · (intro w; go_simp; (try with_reducible rfl))
  try simp only [Act.put, List.setIfInBounds_toArray, List.set_cons_zero, List.set_cons_succ]
  refine Rg.takeP (i := 6) (oi := { dst := some 56, op := Op.move (Operand.tmp 11), type := 3, pos := "number.go:219", after := #[], guard := none }) (v := ?_) rfl (by kernel_rfl) (fun _ _ _ h => h) (by rfl) ?_ ?_
  rotate_left 1
  · (intro w; go_simp; (try with_reducible rfl))
  try simp only [Act.put, List.setIfInBounds_toArray, List.set_cons_zero, List.set_cons_succ]
  refine Rg.takeP (i := 7) (oi := { dst := some 57, op := Op.indexAddr 32 (Operand.tmp 55) (Operand.tmp 56), type := 0, pos := "number.go:219", after := #[{ on := 5, ground := Ground.data }, { on := 6, ground := Ground.data }], guard := none }) (v := ?_) rfl (by kernel_rfl) (fun _ _ _ h => h) (by rfl) ?_ ?_
  rotate_left 1
  · (intro w; go_simp; (try with_reducible rfl))
  try simp only [Act.put, List.setIfInBounds_toArray, List.set_cons_zero, List.set_cons_succ]
  refine Rg.takeS (i := 8) (oi := { dst := some 58, op := Op.load 3 (Operand.tmp 57), type := 3, pos := "number.go:219", after := #[{ on := 7, ground := Ground.data }], guard := none }) (v := ?_) rfl (by kernel_rfl) (fun _ _ _ h => h) (by rfl) HS ?_ ?_
  rotate_left 1
  · (intro w hSw; (try dsimp only at hSw); (try go_split_ands); go_simp; (try with_reducible rfl))
  try simp only [Act.put, List.setIfInBounds_toArray, List.set_cons_zero, List.set_cons_succ]
  refine Rg.oneR (i := 9) (oi := { dst := some 59, op := Op.call { callee := Callee.value (Operand.func 52), args := #[Operand.tmp 50, Operand.tmp 54, Operand.tmp 58], argTypes := #[68, 3, 3] }, type := 3, pos := "number.go:219", after := #[{ on := 0, ground := Ground.data }, { on := 4, ground := Ground.data }, { on := 8, ground := Ground.data }], guard := none }) rfl (by kernel_rfl) ?_
  refine Rg.stepF ?_ ?_
  · kernel_rfl
  intro K hK
  rw [if_pos (by rfl)]
  go_simp
  go_at_call 52
  refine (rmul_any gk _ az b_y _ HK.out r_az r_b_y).mono ?_
  intro e w1 hc
  rw [X2_.out] at hc
  obtain ⟨rfl, hst, hg⟩ := hc
  dsimp only at hst
  have HK := Lib.hid hst
  have HR := Lib.hid (HR.out.grown hg (neq_of (by omega)))
  have HP := Lib.hid (HP.out.grown hg (neq_of (by omega)))
  have HQ := Lib.hid (HQ.out.grown hg (neq_of (by omega)))
  have HV := Lib.hid (HV.out.grown hg (neq_of (by omega)))
  have HB := Lib.hid (below_grown HB.out (Nat.le_refl _) hg (fun g e => by injection e with e; omega))
  clear hst hg HS
  have HS := And.intro ((Blk.cell HP.out 0).trans rfl) (And.intro ((Blk.cell HP.out 1).trans rfl) (And.intro ((Blk.cell HP.out 2).trans rfl) (And.intro ((Blk.cell HQ.out 0).trans rfl) (And.intro ((Blk.cell HQ.out 1).trans rfl) ((Blk.cell HQ.out 2).trans rfl)))))
  go_wp2_with fail
  refine hK.out _ _ ?_
  clear hK K
  try simp only [Act.put, List.setIfInBounds_toArray, List.set_cons_zero, List.set_cons_succ]
  refine Rg.takeP (i := 10) (oi := { dst := some 14, op := Op.assign (Operand.tmp 59), type := 3, pos := "number.go:219", after := #[{ on := 9, ground := Ground.data }, { on := 9, ground := Ground.chain }, { on := 0, ground := Ground.phase }, { on := 1, ground := Ground.phase }, { on := 2, ground := Ground.phase }, { on := 3, ground := Ground.phase }, { on := 4, ground := Ground.phase }, { on := 5, ground := Ground.phase }, { on := 6, ground := Ground.phase }, { on := 7, ground := Ground.phase }, { on := 8, ground := Ground.phase }, { on := 9, ground := Ground.phase }], guard := none }) (v := ?_) rfl (by kernel_rfl) (fun _ _ _ h => h) (by rfl) ?_ ?_
  rotate_left 1
  · (intro w; go_simp; (try with_reducible rfl))
  try simp only [Act.put, List.setIfInBounds_toArray, List.set_cons_zero, List.set_cons_succ]
  refine Rg.doneR (by kernel_rfl) ?_ _
  refine NoPanic.normal ?_
  clear HS
  go_wp2_with fail
  refine (rsub_any gk _ x1 x2 _ HK.out r_x1 r_x2).mono ?_
  intro e w1 hc
  rw [PX_.out] at hc
  obtain ⟨rfl, hst, hg⟩ := hc
  dsimp only at hst
  have HK := Lib.hid hst
  have HR := Lib.hid (HR.out.grown hg (neq_of (by omega)))
  have HP := Lib.hid (HP.out.grown hg (neq_of (by omega)))
  have HQ := Lib.hid (HQ.out.grown hg (neq_of (by omega)))
  have HV := Lib.hid (HV.out.grown hg (neq_of (by omega)))
  have HB := Lib.hid (below_grown HB.out (Nat.le_refl _) hg (fun g e => by injection e with e; omega))
  clear hst hg
  have kv : w1.cell? ⟨gv, 0, none⟩ = some (.int .i64 0) := (Blk.cell HV.out 0).trans rfl
  have fv := Blk.thaw HV.out 0
  go_upto_region 12 with fail
  clear kv fv
  have HV := Lib.hid (show Blk (w1.setCell ⟨gv, 0, none⟩ (.int .i64 px)) gv 78 #[.int .i64 px, .int .i64 0, .int .i64 0] from Blk.set HV.out 0 (.int .i64 px))
  have HR := Lib.hid (HR.out.other (p := ⟨gv, 0, none⟩) (by show _ ≠ gv; omega) (.int .i64 px))
  have HP := Lib.hid (HP.out.other (p := ⟨gv, 0, none⟩) (by show _ ≠ gv; omega) (.int .i64 px))
  have HQ := Lib.hid (HQ.out.other (p := ⟨gv, 0, none⟩) (by show _ ≠ gv; omega) (.int .i64 px))
  have HK := Lib.hid (Blk.other HK.out (p := ⟨gv, 0, none⟩) (by show _ ≠ gv; omega) (.int .i64 px))
  have HB := Lib.hid (HB.out.setCell (p := ⟨gv, 0, none⟩) (by show _ ≤ gv; omega) (.int .i64 px))
  generalize (w1.setCell ⟨gv, 0, none⟩ (.int .i64 px)) = w1 at *
  go_wp2_with fail
  rw [rounds_succ]
  go_upto_region 9 with fail
  have HR := Lib.hid HR.out.drew
  have HP := Lib.hid HP.out.drew
  have HQ := Lib.hid HQ.out.drew
  have HV := Lib.hid HV.out.drew
  have HK := Lib.hid (Blk.drew HK.out)
  have HB := Lib.hid HB.out.drew
  have HS := And.intro ((Blk.cell HP.out 0).trans rfl) (And.intro ((Blk.cell HP.out 1).trans rfl) (And.intro ((Blk.cell HP.out 2).trans rfl) (And.intro ((Blk.cell HQ.out 0).trans rfl) (And.intro ((Blk.cell HQ.out 1).trans rfl) ((Blk.cell HQ.out 2).trans rfl)))))
  refine wp_region_noPanic ?_
  refine Rg.beginR [4, 8] (fun w' => w'.cell? ⟨gp, 0, none⟩ = some (.int .i64 ax) ∧ w'.cell? ⟨gp, 1, none⟩ = some (.int .i64 ay) ∧ w'.cell? ⟨gp, 2, none⟩ = some (.int .i64 az) ∧ w'.cell? ⟨gq, 0, none⟩ = some (.int .i64 bx) ∧ w'.cell? ⟨gq, 1, none⟩ = some (.int .i64 b_y) ∧ w'.cell? ⟨gq, 2, none⟩ = some (.int .i64 bz)) (by kernel_rfl) ?_
  generalize w1.drew = w1 at *
  refine Rg.takeP (i := 0) (oi := { dst := some 40, op := Op.move (Operand.tmp 6), type := 68, pos := "number.go:218", after := #[], guard := none }) (v := ?_) rfl (by kernel_rfl) (fun _ _ _ h => h) (by rfl) ?_ ?_
  rotate_left 1
  · (intro w; go_simp; (try with_reducible rfl))
  try simp only [Act.put, List.setIfInBounds_toArray, List.set_cons_zero, List.set_cons_succ]
  refine Rg.takeP (i := 1) (oi := { dst := some 41, op := Op.move (Operand.tmp 7), type := 32, pos := "number.go:218", after := #[], guard := none }) (v := ?_) rfl (by kernel_rfl) (fun _ _ _ h => h) (by rfl) ?_ ?_
  rotate_left 1
  · (intro w; go_simp; (try with_reducible rfl))
  try simp only [Act.put, List.setIfInBounds_toArray, List.set_cons_zero, List.set_cons_succ]
  refine Rg.takeP (i := 2) (oi := { dst := some 42, op := Op.move (Operand.tmp 11), type := 3, pos := "number.go:218", after := #[], guard := none }) (v := ?_) rfl (by kernel_rfl) (fun _ _ _ h => h) (by rfl) ?_ ?_
  rotate_left 1
  · (intro w; go_simp; (try with_reducible rfl))
  try simp only [Act.put, List.setIfInBounds_toArray, List.set_cons_zero, List.set_cons_succ]
  refine Rg.takeP (i := 3) (oi := { dst := some 43, op := Op.indexAddr 32 (Operand.tmp 41) (Operand.tmp 42), type := 0, pos := "number.go:218", after := #[{ on := 1, ground := Ground.data }, { on := 2, ground := Ground.data }], guard := none }) (v := ?_) rfl (by kernel_rfl) (fun _ _ _ h => h) (by rfl) ?_ ?_
  rotate_left 1
  · (intro w; go_simp; (try with_reducible rfl))
  try simp only [Act.put, List.setIfInBounds_toArray, List.set_cons_zero, List.set_cons_succ]
  refine Rg.takeS (i := 4) (oi := { dst := some 44, op := Op.load 3 (Operand.tmp 43), type := 3, pos := "number.go:218", after := #[{ on := 3, ground := Ground.data }], guard := none }) (v := ?_) rfl (by kernel_rfl) (fun _ _ _ h => h) (by rfl) HS ?_ ?_
  rotate_left 1
  · (intro w hSw; (try dsimp only at hSw); (try go_split_ands); go_simp; (try with_reducible rfl))
  try simp only [Act.put, List.setIfInBounds_toArray, List.set_cons_zero, List.set_cons_succ]
  refine Rg.takeP (i := 5) (oi := { dst := some 45, op := Op.move (Operand.tmp 8), type := 32, pos := "number.go:218", after := #[], guard := none }) (v := ?_) rfl (by kernel_rfl) (fun _ _ _ h => h) (by rfl) ?_ ?_
  rotate_left 1
  · (intro w; go_simp; (try with_reducible rfl))
  try simp only [Act.put, List.setIfInBounds_toArray, List.set_cons_zero, List.set_cons_succ]
  refine Rg.takeP (i := 6) (oi := { dst := some 46, op := Op.move (Operand.tmp 12), type := 3, pos := "number.go:218", after := #[], guard := none }) (v := ?_) rfl (by kernel_rfl) (fun _ _ _ h => h) (by rfl) ?_ ?_
  rotate_left 1
  · (intro w; go_simp; (try with_reducible rfl))
  try simp only [Act.put, List.setIfInBounds_toArray, List.set_cons_zero, List.set_cons_succ]
  refine Rg.takeP (i := 7) (oi := { dst := some 47, op := Op.indexAddr 32 (Operand.tmp 45) (Operand.tmp 46), type := 0, pos := "number.go:218", after := #[{ on := 5, ground := Ground.data }, { on := 6, ground := Ground.data }], guard := none }) (v := ?_) rfl (by kernel_rfl) (fun _ _ _ h => h) (by rfl) ?_ ?_
  rotate_left 1
  · (intro w; go_simp; (try with_reducible rfl))
  try simp only [Act.put, List.setIfInBounds_toArray, List.set_cons_zero, List.set_cons_succ]
  refine Rg.takeS (i := 8) (oi := { dst := some 48, op := Op.load 3 (Operand.tmp 47), type := 3, pos := "number.go:218", after := #[{ on := 7, ground := Ground.data }], guard := none }) (v := ?_) rfl (by kernel_rfl) (fun _ _ _ h => h) (by rfl) HS ?_ ?_
  rotate_left 1
  · (intro w hSw; (try dsimp only at hSw); (try go_split_ands); go_simp; (try with_reducible rfl))
  try simp only [Act.put, List.setIfInBounds_toArray, List.set_cons_zero, List.set_cons_succ]
  refine Rg.oneR (i := 9) (oi := { dst := some 49, op := Op.call { callee := Callee.value (Operand.func 52), args := #[Operand.tmp 40, Operand.tmp 44, Operand.tmp 48], argTypes := #[68, 3, 3] }, type := 3, pos := "number.go:218", after := #[{ on := 0, ground := Ground.data }, { on := 4, ground := Ground.data }, { on := 8, ground := Ground.data }], guard := none }) rfl (by kernel_rfl) ?_
  refine Rg.stepF ?_ ?_
  · kernel_rfl
  intro K hK
  rw [if_pos (by rfl)]
  go_simp
  go_at_call 52
  refine (rmul_any gk _ az bx _ HK.out r_az r_bx).mono ?_
  intro e w1 hc
  rw [Y1_.out] at hc
  obtain ⟨rfl, hst, hg⟩ := hc
  dsimp only at hst
  have HK := Lib.hid hst
  have HR := Lib.hid (HR.out.grown hg (neq_of (by omega)))
  have HP := Lib.hid (HP.out.grown hg (neq_of (by omega)))
  have HQ := Lib.hid (HQ.out.grown hg (neq_of (by omega)))
  have HV := Lib.hid (HV.out.grown hg (neq_of (by omega)))
  have HB := Lib.hid (below_grown HB.out (Nat.le_refl _) hg (fun g e => by injection e with e; omega))
  clear hst hg HS
  have HS := And.intro ((Blk.cell HP.out 0).trans rfl) (And.intro ((Blk.cell HP.out 1).trans rfl) (And.intro ((Blk.cell HP.out 2).trans rfl) (And.intro ((Blk.cell HQ.out 0).trans rfl) (And.intro ((Blk.cell HQ.out 1).trans rfl) ((Blk.cell HQ.out 2).trans rfl)))))
  go_wp2_with fail
  refine hK.out _ _ ?_
  clear hK K
  try simp only [Act.put, List.setIfInBounds_toArray, List.set_cons_zero, List.set_cons_succ]
  refine Rg.takeP (i := 10) (oi := { dst := some 13, op := Op.assign (Operand.tmp 49), type := 3, pos := "number.go:218", after := #[{ on := 9, ground := Ground.data }, { on := 9, ground := Ground.chain }, { on := 0, ground := Ground.phase }, { on := 1, ground := Ground.phase }, { on := 2, ground := Ground.phase }, { on := 3, ground := Ground.phase }, { on := 4, ground := Ground.phase }, { on := 5, ground := Ground.phase }, { on := 6, ground := Ground.phase }, { on := 7, ground := Ground.phase }, { on := 8, ground := Ground.phase }, { on := 9, ground := Ground.phase }], guard := none }) (v := ?_) rfl (by kernel_rfl) (fun _ _ _ h => h) (by rfl) ?_ ?_
  rotate_left 1
  · (intro w; go_simp; (try with_reducible rfl))
  try simp only [Act.put, List.setIfInBounds_toArray, List.set_cons_zero, List.set_cons_succ]
  refine Rg.doneR (by kernel_rfl) ?_ _
  refine NoPanic.normal ?_
  clear HS
  go_upto_region 10 with fail
  have HR := Lib.hid HR.out.drew
  have HP := Lib.hid HP.out.drew
  have HQ := Lib.hid HQ.out.drew
  have HV := Lib.hid HV.out.drew
  have HK := Lib.hid (Blk.drew HK.out)
  have HB := Lib.hid HB.out.drew
  have HS := And.intro ((Blk.cell HP.out 0).trans rfl) (And.intro ((Blk.cell HP.out 1).trans rfl) (And.intro ((Blk.cell HP.out 2).trans rfl) (And.intro ((Blk.cell HQ.out 0).trans rfl) (And.intro ((Blk.cell HQ.out 1).trans rfl) ((Blk.cell HQ.out 2).trans rfl)))))
  refine wp_region_noPanic ?_
  refine Rg.beginR [4, 8] (fun w' => w'.cell? ⟨gp, 0, none⟩ = some (.int .i64 ax) ∧ w'.cell? ⟨gp, 1, none⟩ = some (.int .i64 ay) ∧ w'.cell? ⟨gp, 2, none⟩ = some (.int .i64 az) ∧ w'.cell? ⟨gq, 0, none⟩ = some (.int .i64 bx) ∧ w'.cell? ⟨gq, 1, none⟩ = some (.int .i64 b_y) ∧ w'.cell? ⟨gq, 2, none⟩ = some (.int .i64 bz)) (by kernel_rfl) ?_
  generalize w1.drew = w1 at *
  refine Rg.takeP (i := 0) (oi := { dst := some 50, op := Op.move (Operand.tmp 6), type := 68, pos := "number.go:219", after := #[], guard := none }) (v := ?_) rfl (by kernel_rfl) (fun _ _ _ h => h) (by rfl) ?_ ?_
  rotate_left 1
  · (intro w; go_simp; (try with_reducible rfl))
  try simp only [Act.put, List.setIfInBounds_toArray, List.set_cons_zero, List.set_cons_succ]
  refine Rg.takeP (i := 1) (oi := { dst := some 51, op := Op.move (Operand.tmp 7), type := 32, pos := "number.go:219", after := #[], guard := none }) (v := ?_) rfl (by kernel_rfl) (fun _ _ _ h => h) (by rfl) ?_ ?_
  rotate_left 1
  · (intro w; go_simp; (try with_reducible rfl))
  try simp only [Act.put, List.setIfInBounds_toArray, List.set_cons_zero, List.set_cons_succ]
  refine Rg.takeP (i := 2) (oi := { dst := some 52, op := Op.move (Operand.tmp 12), type := 3, pos := "number.go:219", after := #[], guard := none }) (v := ?_) rfl (by kernel_rfl) (fun _ _ _ h => h) (by rfl) ?_ ?_
  rotate_left 1
  · (intro w; go_simp; (try with_reducible rfl))
  try simp only [Act.put, List.setIfInBounds_toArray, List.set_cons_zero, List.set_cons_succ]
  refine Rg.takeP (i := 3) (oi := { dst := some 53, op := Op.indexAddr 32 (Operand.tmp 51) (Operand.tmp 52), type := 0, pos := "number.go:219", after := #[{ on := 1, ground := Ground.data }, { on := 2, ground := Ground.data }], guard := none }) (v := ?_) rfl (by kernel_rfl) (fun _ _ _ h => h) (by rfl) ?_ ?_
  rotate_left 1
  · (intro w; go_simp; (try with_reducible rfl))
  try simp only [Act.put, List.setIfInBounds_toArray, List.set_cons_zero, List.set_cons_succ]
  refine Rg.takeS (i := 4) (oi := { dst := some 54, op := Op.load 3 (Operand.tmp 53), type := 3, pos := "number.go:219", after := #[{ on := 3, ground := Ground.data }], guard := none }) (v := ?_) rfl (by kernel_rfl) (fun _ _ _ h => h) (by rfl) HS ?_ ?_
  rotate_left 1
  · (intro w hSw; (try dsimp only at hSw); (try go_split_ands); go_simp; (try with_reducible rfl))
  try simp only [Act.put, List.setIfInBounds_toArray, List.set_cons_zero, List.set_cons_succ]
  refine Rg.takeP (i := 5) (oi := { dst := some 55, op := Op.move (Operand.tmp 8), type := 32, pos := "number.go:219", after := #[], guard := none }) (v := ?_) rfl (by kernel_rfl) (fun _ _ _ h => h) (by rfl) ?_ ?_
  rotate_left 1
  · (intro w; go_simp; (try with_reducible rfl))
  try simp only [Act.put, List.setIfInBounds_toArray, List.set_cons_zero, List.set_cons_succ]
  refine Rg.takeP (i := 6) (oi := { dst := some 56, op := Op.move (Operand.tmp 11), type := 3, pos := "number.go:219", after := #[], guard := none }) (v := ?_) rfl (by kernel_rfl) (fun _ _ _ h => h) (by rfl) ?_ ?_
  rotate_left 1
  · (intro w; go_simp; (try with_reducible rfl))
  try simp only [Act.put, List.setIfInBounds_toArray, List.set_cons_zero, List.set_cons_succ]
  refine Rg.takeP (i := 7) (oi := { dst := some 57, op := Op.indexAddr 32 (Operand.tmp 55) (Operand.tmp 56), type := 0, pos := "number.go:219", after := #[{ on := 5, ground := Ground.data }, { on := 6, ground := Ground.data }], guard := none }) (v := ?_) rfl (by kernel_rfl) (fun _ _ _ h => h) (by rfl) ?_ ?_
  rotate_left 1
  · (intro w; go_simp; (try with_reducible rfl))
  try simp only [Act.put, List.setIfInBounds_toArray, List.set_cons_zero, List.set_cons_succ]
  refine Rg.takeS (i := 8) (oi := { dst := some 58, op := Op.load 3 (Operand.tmp 57), type := 3, pos := "number.go:219", after := #[{ on := 7, ground := Ground.data }], guard := none }) (v := ?_) rfl (by kernel_rfl) (fun _ _ _ h => h) (by rfl) HS ?_ ?_
  rotate_left 1
  · (intro w hSw; (try dsimp only at hSw); (try go_split_ands); go_simp; (try with_reducible rfl))
  try simp only [Act.put, List.setIfInBounds_toArray, List.set_cons_zero, List.set_cons_succ]
  refine Rg.oneR (i := 9) (oi := { dst := some 59, op := Op.call { callee := Callee.value (Operand.func 52), args := #[Operand.tmp 50, Operand.tmp 54, Operand.tmp 58], argTypes := #[68, 3, 3] }, type := 3, pos := "number.go:219", after := #[{ on := 0, ground := Ground.data }, { on := 4, ground := Ground.data }, { on := 8, ground := Ground.data }], guard := none }) rfl (by kernel_rfl) ?_
  refine Rg.stepF ?_ ?_
  · kernel_rfl
  intro K hK
  rw [if_pos (by rfl)]
  go_simp
  go_at_call 52
  refine (rmul_any gk _ ax bz _ HK.out r_ax r_bz).mono ?_
  intro e w1 hc
  rw [Y2_.out] at hc
  obtain ⟨rfl, hst, hg⟩ := hc
  dsimp only at hst
  have HK := Lib.hid hst
  have HR := Lib.hid (HR.out.grown hg (neq_of (by omega)))
  have HP := Lib.hid (HP.out.grown hg (neq_of (by omega)))
  have HQ := Lib.hid (HQ.out.grown hg (neq_of (by omega)))
  have HV := Lib.hid (HV.out.grown hg (neq_of (by omega)))
  have HB := Lib.hid (below_grown HB.out (Nat.le_refl _) hg (fun g e => by injection e with e; omega))
  clear hst hg HS
  have HS := And.intro ((Blk.cell HP.out 0).trans rfl) (And.intro ((Blk.cell HP.out 1).trans rfl) (And.intro ((Blk.cell HP.out 2).trans rfl) (And.intro ((Blk.cell HQ.out 0).trans rfl) (And.intro ((Blk.cell HQ.out 1).trans rfl) ((Blk.cell HQ.out 2).trans rfl)))))
  go_wp2_with fail
  refine hK.out _ _ ?_
  clear hK K
  try simp only [Act.put, List.setIfInBounds_toArray, List.set_cons_zero, List.set_cons_succ]
  refine Rg.takeP (i := 10) (oi := { dst := some 14, op := Op.assign (Operand.tmp 59), type := 3, pos := "number.go:219", after := #[{ on := 9, ground := Ground.data }, { on := 9, ground := Ground.chain }, { on := 0, ground := Ground.phase }, { on := 1, ground := Ground.phase }, { on := 2, ground := Ground.phase }, { on := 3, ground := Ground.phase }, { on := 4, ground := Ground.phase }, { on := 5, ground := Ground.phase }, { on := 6, ground := Ground.phase }, { on := 7, ground := Ground.phase }, { on := 8, ground := Ground.phase }, { on := 9, ground := Ground.phase }], guard := none }) (v := ?_) rfl (by kernel_rfl) (fun _ _ _ h => h) (by rfl) ?_ ?_
  rotate_left 1
  · (intro w; go_simp; (try with_reducible rfl))
  try simp only [Act.put, List.setIfInBounds_toArray, List.set_cons_zero, List.set_cons_succ]
  refine Rg.doneR (by kernel_rfl) ?_ _
  refine NoPanic.normal ?_
  clear HS
  go_wp2_with fail
  refine (rsub_any gk _ y1 y2 _ HK.out r_y1 r_y2).mono ?_
  intro e w1 hc
  rw [PY_.out] at hc
  obtain ⟨rfl, hst, hg⟩ := hc
  dsimp only at hst
  have HK := Lib.hid hst
  have HR := Lib.hid (HR.out.grown hg (neq_of (by omega)))
  have HP := Lib.hid (HP.out.grown hg (neq_of (by omega)))
  have HQ := Lib.hid (HQ.out.grown hg (neq_of (by omega)))
  have HV := Lib.hid (HV.out.grown hg (neq_of (by omega)))
  have HB := Lib.hid (below_grown HB.out (Nat.le_refl _) hg (fun g e => by injection e with e; omega))
  clear hst hg
  have kv : w1.cell? ⟨gv, 1, none⟩ = some (.int .i64 0) := (Blk.cell HV.out 1).trans rfl
  have fv := Blk.thaw HV.out 1
  go_upto_region 12 with fail
  clear kv fv
  have HV := Lib.hid (show Blk (w1.setCell ⟨gv, 1, none⟩ (.int .i64 py)) gv 78 #[.int .i64 px, .int .i64 py, .int .i64 0] from Blk.set HV.out 1 (.int .i64 py))
  have HR := Lib.hid (HR.out.other (p := ⟨gv, 1, none⟩) (by show _ ≠ gv; omega) (.int .i64 py))
  have HP := Lib.hid (HP.out.other (p := ⟨gv, 1, none⟩) (by show _ ≠ gv; omega) (.int .i64 py))
  have HQ := Lib.hid (HQ.out.other (p := ⟨gv, 1, none⟩) (by show _ ≠ gv; omega) (.int .i64 py))
  have HK := Lib.hid (Blk.other HK.out (p := ⟨gv, 1, none⟩) (by show _ ≠ gv; omega) (.int .i64 py))
  have HB := Lib.hid (HB.out.setCell (p := ⟨gv, 1, none⟩) (by show _ ≤ gv; omega) (.int .i64 py))
  generalize (w1.setCell ⟨gv, 1, none⟩ (.int .i64 py)) = w1 at *
  go_wp2_with fail
  rw [rounds_succ]
  go_upto_region 9 with fail
  have HR := Lib.hid HR.out.drew
  have HP := Lib.hid HP.out.drew
  have HQ := Lib.hid HQ.out.drew
  have HV := Lib.hid HV.out.drew
  have HK := Lib.hid (Blk.drew HK.out)
  have HB := Lib.hid HB.out.drew
  have HS := And.intro ((Blk.cell HP.out 0).trans rfl) (And.intro ((Blk.cell HP.out 1).trans rfl) (And.intro ((Blk.cell HP.out 2).trans rfl) (And.intro ((Blk.cell HQ.out 0).trans rfl) (And.intro ((Blk.cell HQ.out 1).trans rfl) ((Blk.cell HQ.out 2).trans rfl)))))
  refine wp_region_noPanic ?_
  refine Rg.beginR [4, 8] (fun w' => w'.cell? ⟨gp, 0, none⟩ = some (.int .i64 ax) ∧ w'.cell? ⟨gp, 1, none⟩ = some (.int .i64 ay) ∧ w'.cell? ⟨gp, 2, none⟩ = some (.int .i64 az) ∧ w'.cell? ⟨gq, 0, none⟩ = some (.int .i64 bx) ∧ w'.cell? ⟨gq, 1, none⟩ = some (.int .i64 b_y) ∧ w'.cell? ⟨gq, 2, none⟩ = some (.int .i64 bz)) (by kernel_rfl) ?_
  generalize w1.drew = w1 at *
  refine Rg.takeP (i := 0) (oi := { dst := some 40, op := Op.move (Operand.tmp 6), type := 68, pos := "number.go:218", after := #[], guard := none }) (v := ?_) rfl (by kernel_rfl) (fun _ _ _ h => h) (by rfl) ?_ ?_
  rotate_left 1
  · (intro w; go_simp; (try with_reducible rfl))
  try simp only [Act.put, List.setIfInBounds_toArray, List.set_cons_zero, List.set_cons_succ]
  refine Rg.takeP (i := 1) (oi := { dst := some 41, op := Op.move (Operand.tmp 7), type := 32, pos := "number.go:218", after := #[], guard := none }) (v := ?_) rfl (by kernel_rfl) (fun _ _ _ h => h) (by rfl) ?_ ?_
  rotate_left 1
  · (intro w; go_simp; (try with_reducible rfl))
  try simp only [Act.put, List.setIfInBounds_toArray, List.set_cons_zero, List.set_cons_succ]
  refine Rg.takeP (i := 2) (oi := { dst := some 42, op := Op.move (Operand.tmp 11), type := 3, pos := "number.go:218", after := #[], guard := none }) (v := ?_) rfl (by kernel_rfl) (fun _ _ _ h => h) (by rfl) ?_ ?_
  rotate_left 1
  · (intro w; go_simp; (try with_reducible rfl))
  try simp only [Act.put, List.setIfInBounds_toArray, List.set_cons_zero, List.set_cons_succ]
  refine Rg.takeP (i := 3) (oi := { dst := some 43, op := Op.indexAddr 32 (Operand.tmp 41) (Operand.tmp 42), type := 0, pos := "number.go:218", after := #[{ on := 1, ground := Ground.data }, { on := 2, ground := Ground.data }], guard := none }) (v := ?_) rfl (by kernel_rfl) (fun _ _ _ h => h) (by rfl) ?_ ?_
  rotate_left 1
  · (intro w; go_simp; (try with_reducible rfl))
  try simp only [Act.put, List.setIfInBounds_toArray, List.set_cons_zero, List.set_cons_succ]
  refine Rg.takeS (i := 4) (oi := { dst := some 44, op := Op.load 3 (Operand.tmp 43), type := 3, pos := "number.go:218", after := #[{ on := 3, ground := Ground.data }], guard := none }) (v := ?_) rfl (by kernel_rfl) (fun _ _ _ h => h) (by rfl) HS ?_ ?_
  rotate_left 1
  · (intro w hSw; (try dsimp only at hSw); (try go_split_ands); go_simp; (try with_reducible rfl))
  try simp only [Act.put, List.setIfInBounds_toArray, List.set_cons_zero, List.set_cons_succ]
  refine Rg.takeP (i := 5) (oi := { dst := some 45, op := Op.move (Operand.tmp 8), type := 32, pos := "number.go:218", after := #[], guard := none }) (v := ?_) rfl (by kernel_rfl) (fun _ _ _ h => h) (by rfl) ?_ ?_
  rotate_left 1
  · (intro w; go_simp; (try with_reducible rfl))
  try simp only [Act.put, List.setIfInBounds_toArray, List.set_cons_zero, List.set_cons_succ]
  refine Rg.takeP (i := 6) (oi := { dst := some 46, op := Op.move (Operand.tmp 12), type := 3, pos := "number.go:218", after := #[], guard := none }) (v := ?_) rfl (by kernel_rfl) (fun _ _ _ h => h) (by rfl) ?_ ?_
  rotate_left 1
  · (intro w; go_simp; (try with_reducible rfl))
  try simp only [Act.put, List.setIfInBounds_toArray, List.set_cons_zero, List.set_cons_succ]
  refine Rg.takeP (i := 7) (oi := { dst := some 47, op := Op.indexAddr 32 (Operand.tmp 45) (Operand.tmp 46), type := 0, pos := "number.go:218", after := #[{ on := 5, ground := Ground.data }, { on := 6, ground := Ground.data }], guard := none }) (v := ?_) rfl (by kernel_rfl) (fun _ _ _ h => h) (by rfl) ?_ ?_
  rotate_left 1
  · (intro w; go_simp; (try with_reducible rfl))
  try simp only [Act.put, List.setIfInBounds_toArray, List.set_cons_zero, List.set_cons_succ]
  refine Rg.takeS (i := 8) (oi := { dst := some 48, op := Op.load 3 (Operand.tmp 47), type := 3, pos := "number.go:218", after := #[{ on := 7, ground := Ground.data }], guard := none }) (v := ?_) rfl (by kernel_rfl) (fun _ _ _ h => h) (by rfl) HS ?_ ?_
  rotate_left 1
  · (intro w hSw; (try dsimp only at hSw); (try go_split_ands); go_simp; (try with_reducible rfl))
  try simp only [Act.put, List.setIfInBounds_toArray, List.set_cons_zero, List.set_cons_succ]
  refine Rg.oneR (i := 9) (oi := { dst := some 49, op := Op.call { callee := Callee.value (Operand.func 52), args := #[Operand.tmp 40, Operand.tmp 44, Operand.tmp 48], argTypes := #[68, 3, 3] }, type := 3, pos := "number.go:218", after := #[{ on := 0, ground := Ground.data }, { on := 4, ground := Ground.data }, { on := 8, ground := Ground.data }], guard := none }) rfl (by kernel_rfl) ?_
  refine Rg.stepF ?_ ?_
  · kernel_rfl
  intro K hK
  rw [if_pos (by rfl)]
  go_simp
  go_at_call 52
  refine (rmul_any gk _ ax b_y _ HK.out r_ax r_b_y).mono ?_
  intro e w1 hc
  rw [Z1_.out] at hc
  obtain ⟨rfl, hst, hg⟩ := hc
  dsimp only at hst
  have HK := Lib.hid hst
  have HR := Lib.hid (HR.out.grown hg (neq_of (by omega)))
  have HP := Lib.hid (HP.out.grown hg (neq_of (by omega)))
  have HQ := Lib.hid (HQ.out.grown hg (neq_of (by omega)))
  have HV := Lib.hid (HV.out.grown hg (neq_of (by omega)))
  have HB := Lib.hid (below_grown HB.out (Nat.le_refl _) hg (fun g e => by injection e with e; omega))
  clear hst hg HS
  have HS := And.intro ((Blk.cell HP.out 0).trans rfl) (And.intro ((Blk.cell HP.out 1).trans rfl) (And.intro ((Blk.cell HP.out 2).trans rfl) (And.intro ((Blk.cell HQ.out 0).trans rfl) (And.intro ((Blk.cell HQ.out 1).trans rfl) ((Blk.cell HQ.out 2).trans rfl)))))
  go_wp2_with fail
  refine hK.out _ _ ?_
  clear hK K
  try simp only [Act.put, List.setIfInBounds_toArray, List.set_cons_zero, List.set_cons_succ]
  refine Rg.takeP (i := 10) (oi := { dst := some 13, op := Op.assign (Operand.tmp 49), type := 3, pos := "number.go:218", after := #[{ on := 9, ground := Ground.data }, { on := 9, ground := Ground.chain }, { on := 0, ground := Ground.phase }, { on := 1, ground := Ground.phase }, { on := 2, ground := Ground.phase }, { on := 3, ground := Ground.phase }, { on := 4, ground := Ground.phase }, { on := 5, ground := Ground.phase }, { on := 6, ground := Ground.phase }, { on := 7, ground := Ground.phase }, { on := 8, ground := Ground.phase }, { on := 9, ground := Ground.phase }], guard := none }) (v := ?_) rfl (by kernel_rfl) (fun _ _ _ h => h) (by rfl) ?_ ?_
  rotate_left 1
  · (intro w; go_simp; (try with_reducible rfl))
  try simp only [Act.put, List.setIfInBounds_toArray, List.set_cons_zero, List.set_cons_succ]
  refine Rg.doneR (by kernel_rfl) ?_ _
  refine NoPanic.normal ?_
  clear HS
  go_upto_region 10 with fail
  have HR := Lib.hid HR.out.drew
  have HP := Lib.hid HP.out.drew
  have HQ := Lib.hid HQ.out.drew
  have HV := Lib.hid HV.out.drew
  have HK := Lib.hid (Blk.drew HK.out)
  have HB := Lib.hid HB.out.drew
  have HS := And.intro ((Blk.cell HP.out 0).trans rfl) (And.intro ((Blk.cell HP.out 1).trans rfl) (And.intro ((Blk.cell HP.out 2).trans rfl) (And.intro ((Blk.cell HQ.out 0).trans rfl) (And.intro ((Blk.cell HQ.out 1).trans rfl) ((Blk.cell HQ.out 2).trans rfl)))))
  refine wp_region_noPanic ?_
  refine Rg.beginR [4, 8] (fun w' => w'.cell? ⟨gp, 0, none⟩ = some (.int .i64 ax) ∧ w'.cell? ⟨gp, 1, none⟩ = some (.int .i64 ay) ∧ w'.cell? ⟨gp, 2, none⟩ = some (.int .i64 az) ∧ w'.cell? ⟨gq, 0, none⟩ = some (.int .i64 bx) ∧ w'.cell? ⟨gq, 1, none⟩ = some (.int .i64 b_y) ∧ w'.cell? ⟨gq, 2, none⟩ = some (.int .i64 bz)) (by kernel_rfl) ?_
  generalize w1.drew = w1 at *
  refine Rg.takeP (i := 0) (oi := { dst := some 50, op := Op.move (Operand.tmp 6), type := 68, pos := "number.go:219", after := #[], guard := none }) (v := ?_) rfl (by kernel_rfl) (fun _ _ _ h => h) (by rfl) ?_ ?_
  rotate_left 1
  · (intro w; go_simp; (try with_reducible rfl))
  try simp only [Act.put, List.setIfInBounds_toArray, List.set_cons_zero, List.set_cons_succ]
  refine Rg.takeP (i := 1) (oi := { dst := some 51, op := Op.move (Operand.tmp 7), type := 32, pos := "number.go:219", after := #[], guard := none }) (v := ?_) rfl (by kernel_rfl) (fun _ _ _ h => h) (by rfl) ?_ ?_
  rotate_left 1
  · (intro w; go_simp; (try with_reducible rfl))
  try simp only [Act.put, List.setIfInBounds_toArray, List.set_cons_zero, List.set_cons_succ]
  refine Rg.takeP (i := 2) (oi := { dst := some 52, op := Op.move (Operand.tmp 12), type := 3, pos := "number.go:219", after := #[], guard := none }) (v := ?_) rfl (by kernel_rfl) (fun _ _ _ h => h) (by rfl) ?_ ?_
  rotate_left 1
  · (intro w; go_simp; (try with_reducible rfl))
  try simp only [Act.put, List.setIfInBounds_toArray, List.set_cons_zero, List.set_cons_succ]
  refine Rg.takeP (i := 3) (oi := { dst := some 53, op := Op.indexAddr 32 (Operand.tmp 51) (Operand.tmp 52), type := 0, pos := "number.go:219", after := #[{ on := 1, ground := Ground.data }, { on := 2, ground := Ground.data }], guard := none }) (v := ?_) rfl (by kernel_rfl) (fun _ _ _ h => h) (by rfl) ?_ ?_
  rotate_left 1
  · (intro w; go_simp; (try with_reducible rfl))
  try simp only [Act.put, List.setIfInBounds_toArray, List.set_cons_zero, List.set_cons_succ]
  refine Rg.takeS (i := 4) (oi := { dst := some 54, op := Op.load 3 (Operand.tmp 53), type := 3, pos := "number.go:219", after := #[{ on := 3, ground := Ground.data }], guard := none }) (v := ?_) rfl (by kernel_rfl) (fun _ _ _ h => h) (by rfl) HS ?_ ?_
  rotate_left 1
  · (intro w hSw; (try dsimp only at hSw); (try go_split_ands); go_simp; (try with_reducible rfl))
  try simp only [Act.put, List.setIfInBounds_toArray, List.set_cons_zero, List.set_cons_succ]
  refine Rg.takeP (i := 5) (oi := { dst := some 55, op := Op.move (Operand.tmp 8), type := 32, pos := "number.go:219", after := #[], guard := none }) (v := ?_) rfl (by kernel_rfl) (fun _ _ _ h => h) (by rfl) ?_ ?_
  rotate_left 1
  · (intro w; go_simp; (try with_reducible rfl))
  try simp only [Act.put, List.setIfInBounds_toArray, List.set_cons_zero, List.set_cons_succ]
  refine Rg.takeP (i := 6) (oi := { dst := some 56, op := Op.move (Operand.tmp 11), type := 3, pos := "number.go:219", after := #[], guard := none }) (v := ?_) rfl (by kernel_rfl) (fun _ _ _ h => h) (by rfl) ?_ ?_
  rotate_left 1
  · (intro w; go_simp; (try with_reducible rfl))
  try simp only [Act.put, List.setIfInBounds_toArray, List.set_cons_zero, List.set_cons_succ]
  refine Rg.takeP (i := 7) (oi := { dst := some 57, op := Op.indexAddr 32 (Operand.tmp 55) (Operand.tmp 56), type := 0, pos := "number.go:219", after := #[{ on := 5, ground := Ground.data }, { on := 6, ground := Ground.data }], guard := none }) (v := ?_) rfl (by kernel_rfl) (fun _ _ _ h => h) (by rfl) ?_ ?_
  rotate_left 1
  · (intro w; go_simp; (try with_reducible rfl))
  try simp only [Act.put, List.setIfInBounds_toArray, List.set_cons_zero, List.set_cons_succ]
  refine Rg.takeS (i := 8) (oi := { dst := some 58, op := Op.load 3 (Operand.tmp 57), type := 3, pos := "number.go:219", after := #[{ on := 7, ground := Ground.data }], guard := none }) (v := ?_) rfl (by kernel_rfl) (fun _ _ _ h => h) (by rfl) HS ?_ ?_
  rotate_left 1
  · (intro w hSw; (try dsimp only at hSw); (try go_split_ands); go_simp; (try with_reducible rfl))
  try simp only [Act.put, List.setIfInBounds_toArray, List.set_cons_zero, List.set_cons_succ]
  refine Rg.oneR (i := 9) (oi := { dst := some 59, op := Op.call { callee := Callee.value (Operand.func 52), args := #[Operand.tmp 50, Operand.tmp 54, Operand.tmp 58], argTypes := #[68, 3, 3] }, type := 3, pos := "number.go:219", after := #[{ on := 0, ground := Ground.data }, { on := 4, ground := Ground.data }, { on := 8, ground := Ground.data }], guard := none }) rfl (by kernel_rfl) ?_
  refine Rg.stepF ?_ ?_
  · kernel_rfl
  intro K hK
  rw [if_pos (by rfl)]
  go_simp
  go_at_call 52
  refine (rmul_any gk _ ay bx _ HK.out r_ay r_bx).mono ?_
  intro e w1 hc
  rw [Z2_.out] at hc
  obtain ⟨rfl, hst, hg⟩ := hc
  dsimp only at hst
  have HK := Lib.hid hst
  have HR := Lib.hid (HR.out.grown hg (neq_of (by omega)))
  have HP := Lib.hid (HP.out.grown hg (neq_of (by omega)))
  have HQ := Lib.hid (HQ.out.grown hg (neq_of (by omega)))
  have HV := Lib.hid (HV.out.grown hg (neq_of (by omega)))
  have HB := Lib.hid (below_grown HB.out (Nat.le_refl _) hg (fun g e => by injection e with e; omega))
  clear hst hg HS
  have HS := And.intro ((Blk.cell HP.out 0).trans rfl) (And.intro ((Blk.cell HP.out 1).trans rfl) (And.intro ((Blk.cell HP.out 2).trans rfl) (And.intro ((Blk.cell HQ.out 0).trans rfl) (And.intro ((Blk.cell HQ.out 1).trans rfl) ((Blk.cell HQ.out 2).trans rfl)))))
  go_wp2_with fail
  refine hK.out _ _ ?_
  clear hK K
  try simp only [Act.put, List.setIfInBounds_toArray, List.set_cons_zero, List.set_cons_succ]
  refine Rg.takeP (i := 10) (oi := { dst := some 14, op := Op.assign (Operand.tmp 59), type := 3, pos := "number.go:219", after := #[{ on := 9, ground := Ground.data }, { on := 9, ground := Ground.chain }, { on := 0, ground := Ground.phase }, { on := 1, ground := Ground.phase }, { on := 2, ground := Ground.phase }, { on := 3, ground := Ground.phase }, { on := 4, ground := Ground.phase }, { on := 5, ground := Ground.phase }, { on := 6, ground := Ground.phase }, { on := 7, ground := Ground.phase }, { on := 8, ground := Ground.phase }, { on := 9, ground := Ground.phase }], guard := none }) (v := ?_) rfl (by kernel_rfl) (fun _ _ _ h => h) (by rfl) ?_ ?_
  rotate_left 1
  · (intro w; go_simp; (try with_reducible rfl))
  try simp only [Act.put, List.setIfInBounds_toArray, List.set_cons_zero, List.set_cons_succ]
  refine Rg.doneR (by kernel_rfl) ?_ _
  refine NoPanic.normal ?_
  clear HS
  go_wp2_with fail
  refine (rsub_any gk _ z1 z2 _ HK.out r_z1 r_z2).mono ?_
  intro e w1 hc
  rw [PZ_.out] at hc
  obtain ⟨rfl, hst, hg⟩ := hc
  dsimp only at hst
  have HK := Lib.hid hst
  have HR := Lib.hid (HR.out.grown hg (neq_of (by omega)))
  have HP := Lib.hid (HP.out.grown hg (neq_of (by omega)))
  have HQ := Lib.hid (HQ.out.grown hg (neq_of (by omega)))
  have HV := Lib.hid (HV.out.grown hg (neq_of (by omega)))
  have HB := Lib.hid (below_grown HB.out (Nat.le_refl _) hg (fun g e => by injection e with e; omega))
  clear hst hg
  have kv : w1.cell? ⟨gv, 2, none⟩ = some (.int .i64 0) := (Blk.cell HV.out 2).trans rfl
  have fv := Blk.thaw HV.out 2
  go_upto_region 12 with fail
  clear kv fv
  have HV := Lib.hid (show Blk (w1.setCell ⟨gv, 2, none⟩ (.int .i64 pz)) gv 78 #[.int .i64 px, .int .i64 py, .int .i64 pz] from Blk.set HV.out 2 (.int .i64 pz))
  have HR := Lib.hid (HR.out.other (p := ⟨gv, 2, none⟩) (by show _ ≠ gv; omega) (.int .i64 pz))
  have HP := Lib.hid (HP.out.other (p := ⟨gv, 2, none⟩) (by show _ ≠ gv; omega) (.int .i64 pz))
  have HQ := Lib.hid (HQ.out.other (p := ⟨gv, 2, none⟩) (by show _ ≠ gv; omega) (.int .i64 pz))
  have HK := Lib.hid (Blk.other HK.out (p := ⟨gv, 2, none⟩) (by show _ ≠ gv; omega) (.int .i64 pz))
  have HB := Lib.hid (HB.out.setCell (p := ⟨gv, 2, none⟩) (by show _ ≤ gv; omega) (.int .i64 pz))
  generalize (w1.setCell ⟨gv, 2, none⟩ (.int .i64 pz)) = w1 at *
  go_wp2_with fail
  rw [rounds_succ]
  have HK := Lib.hid (show Bent w1 70 gk (xb || yb || zb) from by have h := HK.out; rw [← BX.out, ← BY.out, ← BZ.out]; simp only [Bool.false_or, Bool.or_assoc] at h ⊢; exact h)
  go_upto_region 13 with fail
  have HV := Lib.hid HV.out.drew
  have HK := Lib.hid (Blk.drew HK.out)
  have HR := Lib.hid HR.out.drew
  have HB := Lib.hid HB.out.drew
  have HS := And.intro ((Blk.cell HV.out 0).trans rfl) (And.intro ((Blk.cell HV.out 1).trans rfl) (And.intro ((Blk.cell HV.out 2).trans rfl) ((Blk.cell HK.out 0).trans rfl)))
  refine wp_region_noPanic ?_
  refine Rg.beginR [1, 3, 5, 10] (fun w' => w'.cell? ⟨gv, 0, none⟩ = some (.int .i64 px) ∧ w'.cell? ⟨gv, 1, none⟩ = some (.int .i64 py) ∧ w'.cell? ⟨gv, 2, none⟩ = some (.int .i64 pz) ∧ w'.cell? ⟨gk, 0, none⟩ = some (.bool (xb || yb || zb))) (by kernel_rfl) ?_
  generalize w1.drew = w1 at *
  refine Rg.takeP (i := 0) (oi := { dst := some 67, op := Op.indexAddr 78 (Operand.tmp 9) (Operand.const (Value.int IntKind.i64 0)), type := 0, pos := "number.go:222", after := #[], guard := none }) (v := ?_) rfl (by kernel_rfl) (fun _ _ _ h => h) (by rfl) ?_ ?_
  rotate_left 1
  · (intro w; go_simp; (try with_reducible rfl))
  try simp only [Act.put, List.setIfInBounds_toArray, List.set_cons_zero, List.set_cons_succ]
  refine Rg.takeS (i := 1) (oi := { dst := some 68, op := Op.load 3 (Operand.tmp 67), type := 3, pos := "number.go:222", after := #[{ on := 0, ground := Ground.data }], guard := none }) (v := ?_) rfl (by kernel_rfl) (fun _ _ _ h => h) (by rfl) HS ?_ ?_
  rotate_left 1
  · (intro w hSw; (try dsimp only at hSw); (try go_split_ands); go_simp; (try with_reducible rfl))
  try simp only [Act.put, List.setIfInBounds_toArray, List.set_cons_zero, List.set_cons_succ]
  refine Rg.takeP (i := 2) (oi := { dst := some 69, op := Op.indexAddr 78 (Operand.tmp 9) (Operand.const (Value.int IntKind.i64 1)), type := 0, pos := "number.go:222", after := #[], guard := none }) (v := ?_) rfl (by kernel_rfl) (fun _ _ _ h => h) (by rfl) ?_ ?_
  rotate_left 1
  · (intro w; go_simp; (try with_reducible rfl))
  try simp only [Act.put, List.setIfInBounds_toArray, List.set_cons_zero, List.set_cons_succ]
  refine Rg.takeS (i := 3) (oi := { dst := some 70, op := Op.load 3 (Operand.tmp 69), type := 3, pos := "number.go:222", after := #[{ on := 2, ground := Ground.data }], guard := none }) (v := ?_) rfl (by kernel_rfl) (fun _ _ _ h => h) (by rfl) HS ?_ ?_
  rotate_left 1
  · (intro w hSw; (try dsimp only at hSw); (try go_split_ands); go_simp; (try with_reducible rfl))
  try simp only [Act.put, List.setIfInBounds_toArray, List.set_cons_zero, List.set_cons_succ]
  refine Rg.takeP (i := 4) (oi := { dst := some 71, op := Op.indexAddr 78 (Operand.tmp 9) (Operand.const (Value.int IntKind.i64 2)), type := 0, pos := "number.go:222", after := #[], guard := none }) (v := ?_) rfl (by kernel_rfl) (fun _ _ _ h => h) (by rfl) ?_ ?_
  rotate_left 1
  · (intro w; go_simp; (try with_reducible rfl))
  try simp only [Act.put, List.setIfInBounds_toArray, List.set_cons_zero, List.set_cons_succ]
  refine Rg.takeS (i := 5) (oi := { dst := some 72, op := Op.load 3 (Operand.tmp 71), type := 3, pos := "number.go:222", after := #[{ on := 4, ground := Ground.data }], guard := none }) (v := ?_) rfl (by kernel_rfl) (fun _ _ _ h => h) (by rfl) HS ?_ ?_
  rotate_left 1
  · (intro w hSw; (try dsimp only at hSw); (try go_split_ands); go_simp; (try with_reducible rfl))
  try simp only [Act.put, List.setIfInBounds_toArray, List.set_cons_zero, List.set_cons_succ]
  refine Rg.takeP (i := 6) (oi := { dst := some 73, op := Op.build 37 #[(0, Operand.tmp 68), (1, Operand.tmp 70), (2, Operand.tmp 72)], type := 37, pos := "number.go:222", after := #[{ on := 1, ground := Ground.data }, { on := 3, ground := Ground.data }, { on := 5, ground := Ground.data }], guard := none }) (v := ?_) rfl (by kernel_rfl) (fun _ _ _ h => h) (by rfl) ?_ ?_
  rotate_left 1
  · (intro w; go_simp; (try with_reducible rfl))
  try simp only [Act.put, List.setIfInBounds_toArray, List.set_cons_zero, List.set_cons_succ]
  refine Rg.takeP (i := 7) (oi := { dst := some 74, op := Op.move (Operand.tmp 6), type := 68, pos := "number.go:222", after := #[{ on := 11, ground := Ground.gcOnly Departure.lateStores }], guard := none }) (v := ?_) rfl (by kernel_rfl) (fun _ _ _ h => h) (by rfl) ?_ ?_
  rotate_left 1
  · (intro w; go_simp; (try with_reducible rfl))
  try simp only [Act.put, List.setIfInBounds_toArray, List.set_cons_zero, List.set_cons_succ]
  refine Rg.takeP (i := 8) (oi := { dst := some 75, op := Op.nilCheck (Operand.tmp 74), type := 0, pos := "number.go:222", after := #[{ on := 7, ground := Ground.data }, { on := 11, ground := Ground.gcOnly Departure.lateStores }], guard := none }) (v := ?_) rfl (by kernel_rfl) (fun _ _ _ h => h) (by rfl) ?_ ?_
  rotate_left 1
  · (intro w; go_simp; (try with_reducible rfl))
  try simp only [Act.put, List.setIfInBounds_toArray, List.set_cons_zero, List.set_cons_succ]
  refine Rg.takeP (i := 9) (oi := { dst := some 76, op := Op.fieldAddr 70 (Operand.tmp 75) 0, type := 0, pos := "number.go:222", after := #[{ on := 8, ground := Ground.data }, { on := 11, ground := Ground.gcOnly Departure.lateStores }], guard := none }) (v := ?_) rfl (by kernel_rfl) (fun _ _ _ h => h) (by rfl) ?_ ?_
  rotate_left 1
  · (intro w; go_simp; (try with_reducible rfl))
  try simp only [Act.put, List.setIfInBounds_toArray, List.set_cons_zero, List.set_cons_succ]
  refine Rg.takeS (i := 10) (oi := { dst := some 77, op := Op.load 4 (Operand.tmp 76), type := 4, pos := "number.go:222", after := #[{ on := 9, ground := Ground.data }, { on := 11, ground := Ground.gcOnly Departure.lateStores }], guard := none }) (v := ?_) rfl (by kernel_rfl) (fun _ _ _ h => h) (by rfl) HS ?_ ?_
  rotate_left 1
  · (intro w hSw; (try dsimp only at hSw); (try go_split_ands); go_simp; (try with_reducible rfl))
  try simp only [Act.put, List.setIfInBounds_toArray, List.set_cons_zero, List.set_cons_succ]
  refine Rg.oneR (i := 11) (oi := { dst := none, op := Op.store 37 (Operand.tmp 4) (Operand.tmp 73), type := 0, pos := "number.go:222", after := #[{ on := 6, ground := Ground.data }, { on := 0, ground := Ground.phase }, { on := 1, ground := Ground.phase }, { on := 2, ground := Ground.phase }, { on := 3, ground := Ground.phase }, { on := 4, ground := Ground.phase }, { on := 5, ground := Ground.phase }, { on := 6, ground := Ground.phase }, { on := 7, ground := Ground.textOnly Departure.lateStores }, { on := 8, ground := Ground.textOnly Departure.lateStores }, { on := 9, ground := Ground.textOnly Departure.lateStores }, { on := 10, ground := Ground.textOnly Departure.lateStores }], guard := none }) rfl (by kernel_rfl) ?_
  refine Rg.stepS ?_
  intro K hK
  rw [if_pos (by rfl)]
  refine wp_store_row 37 _ _ rfl gr #[.int .i64 px, .int .i64 py, .int .i64 pz] rfl rfl 37 _ HR.out (by kernel_rfl) rfl (by simp [Value.oneCell']) ?_
  have HR := Lib.hid (HR.out.setRow #[.int .i64 px, .int .i64 py, .int .i64 pz])
  have HV := Lib.hid (HV.out.setRow_other (g' := gr) (by omega) #[.int .i64 px, .int .i64 py, .int .i64 pz])
  have HK := Lib.hid (Blk.setRow_other HK.out (g' := gr) (by omega) #[.int .i64 px, .int .i64 py, .int .i64 pz])
  have HB := Lib.hid (below_setRow HB.out (show w.heap.size ≤ gr by omega) #[.int .i64 px, .int .i64 py, .int .i64 pz])
  generalize (w1.setRow gr #[.int .i64 px, .int .i64 py, .int .i64 pz]) = w1 at *
  clear HS
  have HS := And.intro ((Blk.cell HV.out 0).trans rfl) (And.intro ((Blk.cell HV.out 1).trans rfl) (And.intro ((Blk.cell HV.out 2).trans rfl) ((Blk.cell HK.out 0).trans rfl)))
  refine hK.out _ _ HS ?_
  clear hK K
  try simp only [Act.put, List.setIfInBounds_toArray, List.set_cons_zero, List.set_cons_succ]
  refine Rg.takeP (i := 12) (oi := { dst := some 5, op := Op.assign (Operand.tmp 77), type := 4, pos := "number.go:222", after := #[{ on := 10, ground := Ground.data }, { on := 11, ground := Ground.chain }, { on := 0, ground := Ground.phase }, { on := 1, ground := Ground.phase }, { on := 2, ground := Ground.phase }, { on := 3, ground := Ground.phase }, { on := 4, ground := Ground.phase }, { on := 5, ground := Ground.phase }, { on := 6, ground := Ground.phase }, { on := 7, ground := Ground.phase }, { on := 8, ground := Ground.phase }, { on := 9, ground := Ground.phase }, { on := 10, ground := Ground.phase }, { on := 11, ground := Ground.phase }], guard := none }) (v := ?_) rfl (by kernel_rfl) (fun _ _ _ h => h) (by rfl) ?_ ?_
  rotate_left 1
  · (intro w; go_simp; (try with_reducible rfl))
  try simp only [Act.put, List.setIfInBounds_toArray, List.set_cons_zero, List.set_cons_succ]
  refine Rg.doneR (by kernel_rfl) ?_ _
  refine NoPanic.normal ?_
  clear HS
  go_wp2_with fail
  refine ret_row2 (x := .bool (xb || yb || zb)) rfl rfl rfl HR.out ⟨by rw [Try.underlying37], by kernel_rfl⟩ rfl ?_
  exact ⟨by rw [PXT.out, PYT.out, PZT.out]; rfl, HB.out⟩
end Go.Proofs.Ytajhkbdaoakogaa.BigW
