/- Contracts: vec.Cross and its closure. -/
import Derived.Test.YtajhkbdaoakogaaVecRef
namespace Go.Proofs.Ytajhkbdaoakogaa.BigW
open Go.RowKit Go.Proofs.Ytajhkbdaoakogaa.Mem Go.Proofs.Ytajhkbdaoakogaa.BigLaw Go.Proofs.Ytajhkbdaoakogaa.Rws
set_option linter.unusedVariables false
set_option linter.unusedSimpArgs false
/-- one part of the outer product, and whether anything bent -/
def twoV (p q s t : Int) : Int × Bool := ((fsub (fmul p q).1 (fmul s t).1).1, (fmul p q).2 || (fmul s t).2 || (fsub (fmul p q).1 (fmul s t).1).2)
theorem twoV_range (p q s t : Int) : In64 (twoV p q s t).1 := fsub_range _ _

set_option maxRecDepth 100000 in
set_option maxHeartbeats 1000000 in
theorem cross1_any (gp gk : Nat) (x : Bool) (p q s t : Int) (w : World) (hp : Blk w gp 74 #[.pointer (some ⟨gk, 0, none⟩)]) (hk : Bent w 76 gk x) (hne : gp ≠ gk) (r_p : In64 p) (r_q : In64 q) (r_s : In64 s) (r_t : In64 t) :
    Calls Try.prog 60 #[.int .i64 p, .int .i64 q, .int .i64 s, .int .i64 t, .pointer (some ⟨gp, 0, none⟩)] w fun e w' => Stepd w w' 76 gk x (twoV p q s t) e := by
  have HP := Lib.hid hp
  have HK := Lib.hid hk
  have HG := Lib.hid (grown_same w (some gk))
  clear hp hk
  obtain ⟨⟨x1, x1b⟩, h_x1⟩ : ∃ res_, fmul p q = res_ := ⟨_, rfl⟩
  have X1_ := Lib.hid h_x1
  have r_x1 : In64 x1 := by have h := fmul_range p q; rw [h_x1] at h; exact h
  clear h_x1
  obtain ⟨⟨x2, x2b⟩, h_x2⟩ : ∃ res_, fmul s t = res_ := ⟨_, rfl⟩
  have X2_ := Lib.hid h_x2
  have r_x2 : In64 x2 := by have h := fmul_range s t; rw [h_x2] at h; exact h
  clear h_x2
  obtain ⟨⟨x3, x3b⟩, h_x3⟩ : ∃ res_, fsub x1 x2 = res_ := ⟨_, rfl⟩
  have X3_ := Lib.hid h_x3
  have r_x3 : In64 x3 := by have h := fsub_range x1 x2; rw [h_x3] at h; exact h
  clear h_x3
  have HT := Lib.hid (show twoV p q s t = (x3, x1b || x2b || x3b) from by simp only [twoV, X1_.out, X2_.out, X3_.out])
  go_enter Try.func60, Try.ntmps60
  go_upto_region 1 with fail
  have HP := Lib.hid HP.out.drew
  have HK := Lib.hid (Blk.drew HK.out)
  have HS := (Blk.cell HP.out 0).trans rfl
  have HW := Lib.hid (show w.grownBy w.drew (some gk) from grown_of_below ((Below.refl w.heap.size w).drew))
  clear HG
  refine wp_region_noPanic ?_
  refine Rg.beginR [0, 1, 5] (fun w' => w'.cell? ⟨gp, 0, none⟩ = some (.pointer (some ⟨gk, 0, none⟩))) (by kernel_rfl) ?_
  generalize w.drew = w1 at *
  refine Rg.takeS (i := 0) (oi := { dst := some 10, op := Op.load 74 (Operand.tmp 4), type := 74, pos := "vec.go:55", after := #[], guard := none }) (v := ?_) rfl (by kernel_rfl) (fun _ _ _ h => h) (by rfl) HS ?_ ?_
  rotate_left 1
  · (intro w hSw; (try dsimp only at hSw); (try go_split_ands); go_simp; (try with_reducible rfl))
  try simp only [Act.put, List.setIfInBounds_toArray, List.set_cons_zero, List.set_cons_succ]
  refine Rg.takeS (i := 1) (oi := { dst := some 11, op := Op.load 74 (Operand.tmp 4), type := 74, pos := "vec.go:55", after := #[], guard := none }) (v := ?_) rfl (by kernel_rfl) (fun _ _ _ h => h) (by rfl) HS ?_ ?_
  rotate_left 1
  · (intro w hSw; (try dsimp only at hSw); (try go_split_ands); go_simp; (try with_reducible rfl))
  try simp only [Act.put, List.setIfInBounds_toArray, List.set_cons_zero, List.set_cons_succ]
  refine Rg.takeP (i := 2) (oi := { dst := some 12, op := Op.move (Operand.tmp 0), type := 3, pos := "vec.go:55", after := #[], guard := none }) (v := ?_) rfl (by kernel_rfl) (fun _ _ _ h => h) (by rfl) ?_ ?_
  rotate_left 1
  · (intro w; go_simp; (try with_reducible rfl))
  try simp only [Act.put, List.setIfInBounds_toArray, List.set_cons_zero, List.set_cons_succ]
  refine Rg.takeP (i := 3) (oi := { dst := some 13, op := Op.move (Operand.tmp 1), type := 3, pos := "vec.go:55", after := #[], guard := none }) (v := ?_) rfl (by kernel_rfl) (fun _ _ _ h => h) (by rfl) ?_ ?_
  rotate_left 1
  · (intro w; go_simp; (try with_reducible rfl))
  try simp only [Act.put, List.setIfInBounds_toArray, List.set_cons_zero, List.set_cons_succ]
  refine Rg.takeS (i := 5) (oi := { dst := some 15, op := Op.load 74 (Operand.tmp 4), type := 74, pos := "vec.go:55", after := #[], guard := none }) (v := ?_) rfl (by kernel_rfl) (fun _ _ _ h => h) (by rfl) HS ?_ ?_
  rotate_left 1
  · (intro w hSw; (try dsimp only at hSw); (try go_split_ands); go_simp; (try with_reducible rfl))
  try simp only [Act.put, List.setIfInBounds_toArray, List.set_cons_zero, List.set_cons_succ]
  refine Rg.takeP (i := 6) (oi := { dst := some 16, op := Op.move (Operand.tmp 2), type := 3, pos := "vec.go:55", after := #[], guard := none }) (v := ?_) rfl (by kernel_rfl) (fun _ _ _ h => h) (by rfl) ?_ ?_
  rotate_left 1
  · (intro w; go_simp; (try with_reducible rfl))
  try simp only [Act.put, List.setIfInBounds_toArray, List.set_cons_zero, List.set_cons_succ]
  refine Rg.takeP (i := 7) (oi := { dst := some 17, op := Op.move (Operand.tmp 3), type := 3, pos := "vec.go:55", after := #[], guard := none }) (v := ?_) rfl (by kernel_rfl) (fun _ _ _ h => h) (by rfl) ?_ ?_
  rotate_left 1
  · (intro w; go_simp; (try with_reducible rfl))
  try simp only [Act.put, List.setIfInBounds_toArray, List.set_cons_zero, List.set_cons_succ]
  refine Rg.oneR (i := 4) (oi := { dst := some 14, op := Op.call { callee := Callee.value (Operand.func 59), args := #[Operand.tmp 11, Operand.tmp 12, Operand.tmp 13], argTypes := #[74, 3, 3] }, type := 3, pos := "vec.go:55", after := #[{ on := 1, ground := Ground.data }, { on := 2, ground := Ground.data }, { on := 3, ground := Ground.data }], guard := none }) rfl (by kernel_rfl) ?_
  refine Rg.stepS ?_
  intro K hK
  rw [if_pos (by rfl)]
  go_simp
  go_at_call 59
  refine (vmul_any gk _ p q _ HK.out r_p r_q).mono ?_
  intro e w2 hc
  rw [X1_.out] at hc
  obtain ⟨rfl, hst, hg⟩ := hc
  dsimp only at hst
  have HK := Lib.hid hst
  have HP := Lib.hid (HP.out.grown hg (neq_of hne))
  have HW := Lib.hid (HW.out.trans hg)
  clear hst hg HS
  have HS := (Blk.cell HP.out 0).trans rfl
  go_wp2_with fail
  refine hK.out _ _ HS ?_
  clear hK K
  try simp only [Act.put, List.setIfInBounds_toArray, List.set_cons_zero, List.set_cons_succ]
  refine Rg.oneR (i := 8) (oi := { dst := some 18, op := Op.call { callee := Callee.value (Operand.func 59), args := #[Operand.tmp 15, Operand.tmp 16, Operand.tmp 17], argTypes := #[74, 3, 3] }, type := 3, pos := "vec.go:55", after := #[{ on := 5, ground := Ground.data }, { on := 6, ground := Ground.data }, { on := 7, ground := Ground.data }, { on := 4, ground := Ground.chain }], guard := none }) rfl (by kernel_rfl) ?_
  refine Rg.stepS ?_
  intro K hK
  rw [if_pos (by rfl)]
  go_simp
  go_at_call 59
  refine (vmul_any gk _ s t _ HK.out r_s r_t).mono ?_
  intro e w2 hc
  rw [X2_.out] at hc
  obtain ⟨rfl, hst, hg⟩ := hc
  dsimp only at hst
  have HK := Lib.hid hst
  have HP := Lib.hid (HP.out.grown hg (neq_of hne))
  have HW := Lib.hid (HW.out.trans hg)
  clear hst hg HS
  have HS := (Blk.cell HP.out 0).trans rfl
  go_wp2_with fail
  refine hK.out _ _ HS ?_
  clear hK K
  try simp only [Act.put, List.setIfInBounds_toArray, List.set_cons_zero, List.set_cons_succ]
  refine Rg.oneR (i := 9) (oi := { dst := some 19, op := Op.call { callee := Callee.value (Operand.func 58), args := #[Operand.tmp 10, Operand.tmp 14, Operand.tmp 18], argTypes := #[74, 3, 3] }, type := 3, pos := "vec.go:55", after := #[{ on := 0, ground := Ground.data }, { on := 4, ground := Ground.data }, { on := 8, ground := Ground.data }, { on := 8, ground := Ground.chain }], guard := none }) rfl (by kernel_rfl) ?_
  refine Rg.stepF ?_ ?_
  · kernel_rfl
  intro K hK
  rw [if_pos (by rfl)]
  go_simp
  go_at_call 58
  refine (vsub_any gk _ x1 x2 _ HK.out r_x1 r_x2).mono ?_
  intro e w2 hc
  rw [X3_.out] at hc
  obtain ⟨rfl, hst, hg⟩ := hc
  dsimp only at hst
  have HK := Lib.hid hst
  have HP := Lib.hid (HP.out.grown hg (neq_of hne))
  have HW := Lib.hid (HW.out.trans hg)
  clear hst hg HS
  have HS := (Blk.cell HP.out 0).trans rfl
  go_wp2_with fail
  refine hK.out _ _ ?_
  clear hK K
  try simp only [Act.put, List.setIfInBounds_toArray, List.set_cons_zero, List.set_cons_succ]
  refine Rg.takeP (i := 10) (oi := { dst := some 9, op := Op.assign (Operand.tmp 19), type := 3, pos := "vec.go:55", after := #[{ on := 9, ground := Ground.data }, { on := 9, ground := Ground.chain }, { on := 0, ground := Ground.phase }, { on := 1, ground := Ground.phase }, { on := 2, ground := Ground.phase }, { on := 3, ground := Ground.phase }, { on := 4, ground := Ground.phase }, { on := 5, ground := Ground.phase }, { on := 6, ground := Ground.phase }, { on := 7, ground := Ground.phase }, { on := 8, ground := Ground.phase }, { on := 9, ground := Ground.phase }], guard := none }) (v := ?_) rfl (by kernel_rfl) (fun _ _ _ h => h) (by rfl) ?_ ?_
  rotate_left 1
  · (intro w; go_simp; (try with_reducible rfl))
  try simp only [Act.put, List.setIfInBounds_toArray, List.set_cons_zero, List.set_cons_succ]
  refine Rg.doneR (by kernel_rfl) ?_ _
  refine NoPanic.normal ?_
  clear HS
  go_wp2_with fail
  go_ret
  exact ⟨by rw [HT.out]; rfl, by rw [HT.out]; have h := HK.out; simpa only [Bool.or_assoc] using h, HW.out⟩

set_option maxRecDepth 100000 in
set_option maxHeartbeats 1000000 in
theorem cross_any (ax ay az bx b_y bz : Int) (w : World) (r_ax : In64 ax) (r_ay : In64 ay) (r_az : In64 az) (r_bx : In64 bx) (r_b_y : In64 b_y) (r_bz : In64 bz) :
    Calls Try.prog 28 #[vecV ax ay az, vecV bx b_y bz] w fun e w' => TwoV w w' (twoV ay bz az b_y) (twoV az bx ax bz) (twoV ax b_y ay bx) e := by
  unfold vecV
  have hmf : ∀ (fn : Fn) (first cap : Array Value) (w : World), (Instr.makeFunc fn first cap).run Try.prog w = .ok (.func fn first cap) w := fun _ _ _ _ => rfl
  have HA := Lib.hid (show Blk (((((w.alloc (.cells #[.int .i64 ax, .int .i64 ay, .int .i64 az] 37)).alloc (.cells #[.int .i64 bx, .int .i64 b_y, .int .i64 bz] 37)).alloc (.cells #[.int .i64 0, .int .i64 0, .int .i64 0] 37)).alloc (.cells #[.bool false] 76)).alloc (.cells #[.pointer (some ⟨w.heap.size + 1 + 1 + 1, 0, none⟩)] 74)) w.heap.size 37 #[.int .i64 ax, .int .i64 ay, .int .i64 az] from ((((Blk.new rfl).alloc _).alloc _).alloc _).alloc _)
  have HB2 := Lib.hid (show Blk (((((w.alloc (.cells #[.int .i64 ax, .int .i64 ay, .int .i64 az] 37)).alloc (.cells #[.int .i64 bx, .int .i64 b_y, .int .i64 bz] 37)).alloc (.cells #[.int .i64 0, .int .i64 0, .int .i64 0] 37)).alloc (.cells #[.bool false] 76)).alloc (.cells #[.pointer (some ⟨w.heap.size + 1 + 1 + 1, 0, none⟩)] 74)) (w.heap.size + 1) 37 #[.int .i64 bx, .int .i64 b_y, .int .i64 bz] from (((Blk.new (by simp)).alloc _).alloc _).alloc _)
  have HR := Lib.hid (show Blk (((((w.alloc (.cells #[.int .i64 ax, .int .i64 ay, .int .i64 az] 37)).alloc (.cells #[.int .i64 bx, .int .i64 b_y, .int .i64 bz] 37)).alloc (.cells #[.int .i64 0, .int .i64 0, .int .i64 0] 37)).alloc (.cells #[.bool false] 76)).alloc (.cells #[.pointer (some ⟨w.heap.size + 1 + 1 + 1, 0, none⟩)] 74)) (w.heap.size + 1 + 1) 37 #[.int .i64 0, .int .i64 0, .int .i64 0] from ((Blk.new (by simp)).alloc _).alloc _)
  have HK := Lib.hid (show Bent (((((w.alloc (.cells #[.int .i64 ax, .int .i64 ay, .int .i64 az] 37)).alloc (.cells #[.int .i64 bx, .int .i64 b_y, .int .i64 bz] 37)).alloc (.cells #[.int .i64 0, .int .i64 0, .int .i64 0] 37)).alloc (.cells #[.bool false] 76)).alloc (.cells #[.pointer (some ⟨w.heap.size + 1 + 1 + 1, 0, none⟩)] 74)) 76 (w.heap.size + 1 + 1 + 1) false from Blk.alloc (Blk.new (by simp)) _)
  have HP := Lib.hid (show Blk (((((w.alloc (.cells #[.int .i64 ax, .int .i64 ay, .int .i64 az] 37)).alloc (.cells #[.int .i64 bx, .int .i64 b_y, .int .i64 bz] 37)).alloc (.cells #[.int .i64 0, .int .i64 0, .int .i64 0] 37)).alloc (.cells #[.bool false] 76)).alloc (.cells #[.pointer (some ⟨w.heap.size + 1 + 1 + 1, 0, none⟩)] 74)) (w.heap.size + 1 + 1 + 1 + 1) 74 #[.pointer (some ⟨w.heap.size + 1 + 1 + 1, 0, none⟩)] from Blk.new (by simp))
  have HB := Lib.hid (show Below w.heap.size w (((((w.alloc (.cells #[.int .i64 ax, .int .i64 ay, .int .i64 az] 37)).alloc (.cells #[.int .i64 bx, .int .i64 b_y, .int .i64 bz] 37)).alloc (.cells #[.int .i64 0, .int .i64 0, .int .i64 0] 37)).alloc (.cells #[.bool false] 76)).alloc (.cells #[.pointer (some ⟨w.heap.size + 1 + 1 + 1, 0, none⟩)] 74)) from (((((Below.refl _ _).alloc (Nat.le_refl _) _).alloc (by simp) _).alloc (by simp; omega) _).alloc (by simp; omega) _).alloc (by simp; omega) _)
  obtain ⟨⟨px, xb⟩, h_px⟩ : ∃ res_, twoV ay bz az b_y = res_ := ⟨_, rfl⟩
  have PX_ := Lib.hid h_px
  clear h_px
  obtain ⟨⟨py, yb⟩, h_py⟩ : ∃ res_, twoV az bx ax bz = res_ := ⟨_, rfl⟩
  have PY_ := Lib.hid h_py
  clear h_py
  obtain ⟨⟨pz, zb⟩, h_pz⟩ : ∃ res_, twoV ax b_y ay bx = res_ := ⟨_, rfl⟩
  have PZ_ := Lib.hid h_pz
  clear h_pz
  go_enter Try.func28, Try.ntmps28
  go_upto_region 3 with fail
  clear hmf
  generalize (((((w.alloc (.cells #[.int .i64 ax, .int .i64 ay, .int .i64 az] 37)).alloc (.cells #[.int .i64 bx, .int .i64 b_y, .int .i64 bz] 37)).alloc (.cells #[.int .i64 0, .int .i64 0, .int .i64 0] 37)).alloc (.cells #[.bool false] 76)).alloc (.cells #[.pointer (some ⟨w.heap.size + 1 + 1 + 1, 0, none⟩)] 74)) = w1 at *
  obtain ⟨gp, hgp⟩ : ∃ g, w.heap.size + 1 + 1 + 1 + 1 = g := ⟨_, rfl⟩
  rw [hgp] at HP ⊢
  obtain ⟨gk, hgk⟩ : ∃ g, w.heap.size + 1 + 1 + 1 = g := ⟨_, rfl⟩
  rw [hgk] at HK HP
  (try rw [hgk])
  obtain ⟨gr, hgr⟩ : ∃ g, w.heap.size + 1 + 1 = g := ⟨_, rfl⟩
  rw [hgr] at HR ⊢
  obtain ⟨gb, hgb⟩ : ∃ g, w.heap.size + 1 = g := ⟨_, rfl⟩
  rw [hgb] at HB2 ⊢
  go_cut [8] (fun v wx => ∃ gv, v = .pointer (some ⟨gv, 0, none⟩) ∧ gp < gv ∧ Blk wx gv 37 #[.int .i64 px, .int .i64 py, .int .i64 pz] ∧ Bent wx 76 gk (xb || yb || zb) ∧ Blk wx gp 74 #[.pointer (some ⟨gk, 0, none⟩)] ∧ Blk wx gr 37 #[.int .i64 0, .int .i64 0, .int .i64 0] ∧ Below w.heap.size w wx)
  case first =>
    have HA := Lib.hid HA.out.drew
    have HB2 := Lib.hid HB2.out.drew
    have HR := Lib.hid HR.out.drew
    have HP := Lib.hid HP.out.drew
    have HK := Lib.hid (Blk.drew HK.out)
    have HB := Lib.hid HB.out.drew
    have HS := And.intro ((Blk.cell HA.out 0).trans rfl) (And.intro ((Blk.cell HA.out 1).trans rfl) (And.intro ((Blk.cell HA.out 2).trans rfl) (And.intro ((Blk.cell HB2.out 0).trans rfl) (And.intro ((Blk.cell HB2.out 1).trans rfl) ((Blk.cell HB2.out 2).trans rfl)))))
    refine wp_region_noPanic ?_
    refine Rg.beginR [2, 4, 6, 8, 12, 14, 16, 18, 22, 24, 26, 28] (fun w' => w'.cell? ⟨w.heap.size, 0, none⟩ = some (.int .i64 ax) ∧ w'.cell? ⟨w.heap.size, 1, none⟩ = some (.int .i64 ay) ∧ w'.cell? ⟨w.heap.size, 2, none⟩ = some (.int .i64 az) ∧ w'.cell? ⟨gb, 0, none⟩ = some (.int .i64 bx) ∧ w'.cell? ⟨gb, 1, none⟩ = some (.int .i64 b_y) ∧ w'.cell? ⟨gb, 2, none⟩ = some (.int .i64 bz)) (by kernel_rfl) ?_
    generalize w1.drew = w1 at *
    refine Rg.takeP (i := 0) (oi := { dst := some 12, op := Op.move (Operand.tmp 7), type := 77, pos := "vec.go:56", after := #[], guard := none }) (v := ?_) rfl (by kernel_rfl) (fun _ _ _ h => h) (by rfl) ?_ ?_
    rotate_left 1
    · (intro w; go_simp; (try with_reducible rfl))
    try simp only [Act.put, List.setIfInBounds_toArray, List.set_cons_zero, List.set_cons_succ]
    refine Rg.takeP (i := 1) (oi := { dst := some 13, op := Op.fieldAddr 37 (Operand.tmp 2) 1, type := 0, pos := "vec.go:56", after := #[], guard := none }) (v := ?_) rfl (by kernel_rfl) (fun _ _ _ h => h) (by rfl) ?_ ?_
    rotate_left 1
    · (intro w; go_simp; (try with_reducible rfl))
    try simp only [Act.put, List.setIfInBounds_toArray, List.set_cons_zero, List.set_cons_succ]
    refine Rg.takeS (i := 2) (oi := { dst := some 14, op := Op.load 3 (Operand.tmp 13), type := 3, pos := "vec.go:56", after := #[{ on := 1, ground := Ground.data }], guard := none }) (v := ?_) rfl (by kernel_rfl) (fun _ _ _ h => h) (by rfl) HS ?_ ?_
    rotate_left 1
    · (intro w hSw; (try dsimp only at hSw); (try go_split_ands); go_simp; (try with_reducible rfl))
    try simp only [Act.put, List.setIfInBounds_toArray, List.set_cons_zero, List.set_cons_succ]
    refine Rg.takeP (i := 3) (oi := { dst := some 15, op := Op.fieldAddr 37 (Operand.tmp 3) 2, type := 0, pos := "vec.go:56", after := #[], guard := none }) (v := ?_) rfl (by kernel_rfl) (fun _ _ _ h => h) (by rfl) ?_ ?_
    rotate_left 1
    · (intro w; go_simp; (try with_reducible rfl))
    try simp only [Act.put, List.setIfInBounds_toArray, List.set_cons_zero, List.set_cons_succ]
    refine Rg.takeS (i := 4) (oi := { dst := some 16, op := Op.load 3 (Operand.tmp 15), type := 3, pos := "vec.go:56", after := #[{ on := 3, ground := Ground.data }], guard := none }) (v := ?_) rfl (by kernel_rfl) (fun _ _ _ h => h) (by rfl) HS ?_ ?_
    rotate_left 1
    · (intro w hSw; (try dsimp only at hSw); (try go_split_ands); go_simp; (try with_reducible rfl))
    try simp only [Act.put, List.setIfInBounds_toArray, List.set_cons_zero, List.set_cons_succ]
    refine Rg.takeP (i := 5) (oi := { dst := some 17, op := Op.fieldAddr 37 (Operand.tmp 2) 2, type := 0, pos := "vec.go:56", after := #[], guard := none }) (v := ?_) rfl (by kernel_rfl) (fun _ _ _ h => h) (by rfl) ?_ ?_
    rotate_left 1
    · (intro w; go_simp; (try with_reducible rfl))
    try simp only [Act.put, List.setIfInBounds_toArray, List.set_cons_zero, List.set_cons_succ]
    refine Rg.takeS (i := 6) (oi := { dst := some 18, op := Op.load 3 (Operand.tmp 17), type := 3, pos := "vec.go:56", after := #[{ on := 5, ground := Ground.data }], guard := none }) (v := ?_) rfl (by kernel_rfl) (fun _ _ _ h => h) (by rfl) HS ?_ ?_
    rotate_left 1
    · (intro w hSw; (try dsimp only at hSw); (try go_split_ands); go_simp; (try with_reducible rfl))
    try simp only [Act.put, List.setIfInBounds_toArray, List.set_cons_zero, List.set_cons_succ]
    refine Rg.takeP (i := 7) (oi := { dst := some 19, op := Op.fieldAddr 37 (Operand.tmp 3) 1, type := 0, pos := "vec.go:56", after := #[], guard := none }) (v := ?_) rfl (by kernel_rfl) (fun _ _ _ h => h) (by rfl) ?_ ?_
    rotate_left 1
    · (intro w; go_simp; (try with_reducible rfl))
    try simp only [Act.put, List.setIfInBounds_toArray, List.set_cons_zero, List.set_cons_succ]
    refine Rg.takeS (i := 8) (oi := { dst := some 20, op := Op.load 3 (Operand.tmp 19), type := 3, pos := "vec.go:56", after := #[{ on := 7, ground := Ground.data }], guard := none }) (v := ?_) rfl (by kernel_rfl) (fun _ _ _ h => h) (by rfl) HS ?_ ?_
    rotate_left 1
    · (intro w hSw; (try dsimp only at hSw); (try go_split_ands); go_simp; (try with_reducible rfl))
    try simp only [Act.put, List.setIfInBounds_toArray, List.set_cons_zero, List.set_cons_succ]
    refine Rg.takeP (i := 10) (oi := { dst := some 22, op := Op.move (Operand.tmp 7), type := 77, pos := "vec.go:56", after := #[], guard := none }) (v := ?_) rfl (by kernel_rfl) (fun _ _ _ h => h) (by rfl) ?_ ?_
    rotate_left 1
    · (intro w; go_simp; (try with_reducible rfl))
    try simp only [Act.put, List.setIfInBounds_toArray, List.set_cons_zero, List.set_cons_succ]
    refine Rg.takeP (i := 11) (oi := { dst := some 23, op := Op.fieldAddr 37 (Operand.tmp 2) 2, type := 0, pos := "vec.go:56", after := #[], guard := none }) (v := ?_) rfl (by kernel_rfl) (fun _ _ _ h => h) (by rfl) ?_ ?_
    rotate_left 1
    · (intro w; go_simp; (try with_reducible rfl))
    try simp only [Act.put, List.setIfInBounds_toArray, List.set_cons_zero, List.set_cons_succ]
    refine Rg.takeS (i := 12) (oi := { dst := some 24, op := Op.load 3 (Operand.tmp 23), type := 3, pos := "vec.go:56", after := #[{ on := 11, ground := Ground.data }], guard := none }) (v := ?_) rfl (by kernel_rfl) (fun _ _ _ h => h) (by rfl) HS ?_ ?_
    rotate_left 1
    · (intro w hSw; (try dsimp only at hSw); (try go_split_ands); go_simp; (try with_reducible rfl))
    try simp only [Act.put, List.setIfInBounds_toArray, List.set_cons_zero, List.set_cons_succ]
    refine Rg.takeP (i := 13) (oi := { dst := some 25, op := Op.fieldAddr 37 (Operand.tmp 3) 0, type := 0, pos := "vec.go:56", after := #[], guard := none }) (v := ?_) rfl (by kernel_rfl) (fun _ _ _ h => h) (by rfl) ?_ ?_
    rotate_left 1
    · (intro w; go_simp; (try with_reducible rfl))
    try simp only [Act.put, List.setIfInBounds_toArray, List.set_cons_zero, List.set_cons_succ]
    refine Rg.takeS (i := 14) (oi := { dst := some 26, op := Op.load 3 (Operand.tmp 25), type := 3, pos := "vec.go:56", after := #[{ on := 13, ground := Ground.data }], guard := none }) (v := ?_) rfl (by kernel_rfl) (fun _ _ _ h => h) (by rfl) HS ?_ ?_
    rotate_left 1
    · (intro w hSw; (try dsimp only at hSw); (try go_split_ands); go_simp; (try with_reducible rfl))
    try simp only [Act.put, List.setIfInBounds_toArray, List.set_cons_zero, List.set_cons_succ]
    refine Rg.takeP (i := 15) (oi := { dst := some 27, op := Op.fieldAddr 37 (Operand.tmp 2) 0, type := 0, pos := "vec.go:56", after := #[], guard := none }) (v := ?_) rfl (by kernel_rfl) (fun _ _ _ h => h) (by rfl) ?_ ?_
    rotate_left 1
    · (intro w; go_simp; (try with_reducible rfl))
    try simp only [Act.put, List.setIfInBounds_toArray, List.set_cons_zero, List.set_cons_succ]
    refine Rg.takeS (i := 16) (oi := { dst := some 28, op := Op.load 3 (Operand.tmp 27), type := 3, pos := "vec.go:56", after := #[{ on := 15, ground := Ground.data }], guard := none }) (v := ?_) rfl (by kernel_rfl) (fun _ _ _ h => h) (by rfl) HS ?_ ?_
    rotate_left 1
    · (intro w hSw; (try dsimp only at hSw); (try go_split_ands); go_simp; (try with_reducible rfl))
    try simp only [Act.put, List.setIfInBounds_toArray, List.set_cons_zero, List.set_cons_succ]
    refine Rg.takeP (i := 17) (oi := { dst := some 29, op := Op.fieldAddr 37 (Operand.tmp 3) 2, type := 0, pos := "vec.go:56", after := #[], guard := none }) (v := ?_) rfl (by kernel_rfl) (fun _ _ _ h => h) (by rfl) ?_ ?_
    rotate_left 1
    · (intro w; go_simp; (try with_reducible rfl))
    try simp only [Act.put, List.setIfInBounds_toArray, List.set_cons_zero, List.set_cons_succ]
    refine Rg.takeS (i := 18) (oi := { dst := some 30, op := Op.load 3 (Operand.tmp 29), type := 3, pos := "vec.go:56", after := #[{ on := 17, ground := Ground.data }], guard := none }) (v := ?_) rfl (by kernel_rfl) (fun _ _ _ h => h) (by rfl) HS ?_ ?_
    rotate_left 1
    · (intro w hSw; (try dsimp only at hSw); (try go_split_ands); go_simp; (try with_reducible rfl))
    try simp only [Act.put, List.setIfInBounds_toArray, List.set_cons_zero, List.set_cons_succ]
    refine Rg.takeP (i := 20) (oi := { dst := some 32, op := Op.move (Operand.tmp 7), type := 77, pos := "vec.go:56", after := #[], guard := none }) (v := ?_) rfl (by kernel_rfl) (fun _ _ _ h => h) (by rfl) ?_ ?_
    rotate_left 1
    · (intro w; go_simp; (try with_reducible rfl))
    try simp only [Act.put, List.setIfInBounds_toArray, List.set_cons_zero, List.set_cons_succ]
    refine Rg.takeP (i := 21) (oi := { dst := some 33, op := Op.fieldAddr 37 (Operand.tmp 2) 0, type := 0, pos := "vec.go:56", after := #[], guard := none }) (v := ?_) rfl (by kernel_rfl) (fun _ _ _ h => h) (by rfl) ?_ ?_
    rotate_left 1
    · (intro w; go_simp; (try with_reducible rfl))
    try simp only [Act.put, List.setIfInBounds_toArray, List.set_cons_zero, List.set_cons_succ]
    refine Rg.takeS (i := 22) (oi := { dst := some 34, op := Op.load 3 (Operand.tmp 33), type := 3, pos := "vec.go:56", after := #[{ on := 21, ground := Ground.data }], guard := none }) (v := ?_) rfl (by kernel_rfl) (fun _ _ _ h => h) (by rfl) HS ?_ ?_
    rotate_left 1
    · (intro w hSw; (try dsimp only at hSw); (try go_split_ands); go_simp; (try with_reducible rfl))
    try simp only [Act.put, List.setIfInBounds_toArray, List.set_cons_zero, List.set_cons_succ]
    refine Rg.takeP (i := 23) (oi := { dst := some 35, op := Op.fieldAddr 37 (Operand.tmp 3) 1, type := 0, pos := "vec.go:56", after := #[], guard := none }) (v := ?_) rfl (by kernel_rfl) (fun _ _ _ h => h) (by rfl) ?_ ?_
    rotate_left 1
    · (intro w; go_simp; (try with_reducible rfl))
    try simp only [Act.put, List.setIfInBounds_toArray, List.set_cons_zero, List.set_cons_succ]
    refine Rg.takeS (i := 24) (oi := { dst := some 36, op := Op.load 3 (Operand.tmp 35), type := 3, pos := "vec.go:56", after := #[{ on := 23, ground := Ground.data }], guard := none }) (v := ?_) rfl (by kernel_rfl) (fun _ _ _ h => h) (by rfl) HS ?_ ?_
    rotate_left 1
    · (intro w hSw; (try dsimp only at hSw); (try go_split_ands); go_simp; (try with_reducible rfl))
    try simp only [Act.put, List.setIfInBounds_toArray, List.set_cons_zero, List.set_cons_succ]
    refine Rg.takeP (i := 25) (oi := { dst := some 37, op := Op.fieldAddr 37 (Operand.tmp 2) 1, type := 0, pos := "vec.go:56", after := #[], guard := none }) (v := ?_) rfl (by kernel_rfl) (fun _ _ _ h => h) (by rfl) ?_ ?_
    rotate_left 1
    · (intro w; go_simp; (try with_reducible rfl))
    try simp only [Act.put, List.setIfInBounds_toArray, List.set_cons_zero, List.set_cons_succ]
    refine Rg.takeS (i := 26) (oi := { dst := some 38, op := Op.load 3 (Operand.tmp 37), type := 3, pos := "vec.go:56", after := #[{ on := 25, ground := Ground.data }], guard := none }) (v := ?_) rfl (by kernel_rfl) (fun _ _ _ h => h) (by rfl) HS ?_ ?_
    rotate_left 1
    · (intro w hSw; (try dsimp only at hSw); (try go_split_ands); go_simp; (try with_reducible rfl))
    try simp only [Act.put, List.setIfInBounds_toArray, List.set_cons_zero, List.set_cons_succ]
    refine Rg.takeP (i := 27) (oi := { dst := some 39, op := Op.fieldAddr 37 (Operand.tmp 3) 0, type := 0, pos := "vec.go:56", after := #[], guard := none }) (v := ?_) rfl (by kernel_rfl) (fun _ _ _ h => h) (by rfl) ?_ ?_
    rotate_left 1
    · (intro w; go_simp; (try with_reducible rfl))
    try simp only [Act.put, List.setIfInBounds_toArray, List.set_cons_zero, List.set_cons_succ]
    refine Rg.takeS (i := 28) (oi := { dst := some 40, op := Op.load 3 (Operand.tmp 39), type := 3, pos := "vec.go:56", after := #[{ on := 27, ground := Ground.data }], guard := none }) (v := ?_) rfl (by kernel_rfl) (fun _ _ _ h => h) (by rfl) HS ?_ ?_
    rotate_left 1
    · (intro w hSw; (try dsimp only at hSw); (try go_split_ands); go_simp; (try with_reducible rfl))
    try simp only [Act.put, List.setIfInBounds_toArray, List.set_cons_zero, List.set_cons_succ]
    refine Rg.twoR (i := 9) (j := 31) (oi := { dst := some 21, op := Op.call { callee := Callee.value (Operand.tmp 12), args := #[Operand.tmp 14, Operand.tmp 16, Operand.tmp 18, Operand.tmp 20], argTypes := #[3, 3, 3, 3] }, type := 3, pos := "vec.go:56", after := #[{ on := 0, ground := Ground.data }, { on := 2, ground := Ground.data }, { on := 4, ground := Ground.data }, { on := 6, ground := Ground.data }, { on := 8, ground := Ground.data }], guard := none }) (oj := { dst := some 8, op := Op.alloc 37, type := 0, pos := "vec.go:56", after := #[], guard := none }) (by kernel_rfl) rfl rfl ?_ ?_
    ·
      refine Rg.stepS ?_
      intro K hK
      rw [if_pos (by rfl)]
      go_simp
      go_at_call 60
      refine (cross1_any gp gk _ ay bz az b_y _ HP.out HK.out (by omega) r_ay r_bz r_az r_b_y).mono ?_
      intro e w1 hc
      rw [PX_.out] at hc
      obtain ⟨rfl, hst, hg⟩ := hc
      dsimp only at hst
      have HK := Lib.hid hst
      have HA := Lib.hid (HA.out.grown hg (neq_of (by omega)))
      have HB2 := Lib.hid (HB2.out.grown hg (neq_of (by omega)))
      have HR := Lib.hid (HR.out.grown hg (neq_of (by omega)))
      have HP := Lib.hid (HP.out.grown hg (neq_of (by omega)))
      have HB := Lib.hid (below_grown HB.out (Nat.le_refl _) hg (fun g e => by injection e with e; omega))
      clear hst hg HS
      have HS := And.intro ((Blk.cell HA.out 0).trans rfl) (And.intro ((Blk.cell HA.out 1).trans rfl) (And.intro ((Blk.cell HA.out 2).trans rfl) (And.intro ((Blk.cell HB2.out 0).trans rfl) (And.intro ((Blk.cell HB2.out 1).trans rfl) ((Blk.cell HB2.out 2).trans rfl)))))
      go_wp2_with fail
      refine hK.out _ _ HS ?_
      clear hK K
      try simp only [Act.put, List.setIfInBounds_toArray, List.set_cons_zero, List.set_cons_succ]
      refine Rg.twoR (i := 19) (j := 31) (oi := { dst := some 31, op := Op.call { callee := Callee.value (Operand.tmp 22), args := #[Operand.tmp 24, Operand.tmp 26, Operand.tmp 28, Operand.tmp 30], argTypes := #[3, 3, 3, 3] }, type := 3, pos := "vec.go:56", after := #[{ on := 10, ground := Ground.data }, { on := 12, ground := Ground.data }, { on := 14, ground := Ground.data }, { on := 16, ground := Ground.data }, { on := 18, ground := Ground.data }, { on := 9, ground := Ground.chain }], guard := none }) (oj := { dst := some 8, op := Op.alloc 37, type := 0, pos := "vec.go:56", after := #[], guard := none }) (by kernel_rfl) rfl rfl ?_ ?_
      ·
        refine Rg.stepS ?_
        intro K hK
        rw [if_pos (by rfl)]
        go_simp
        go_at_call 60
        refine (cross1_any gp gk _ az bx ax bz _ HP.out HK.out (by omega) r_az r_bx r_ax r_bz).mono ?_
        intro e w1 hc
        rw [PY_.out] at hc
        obtain ⟨rfl, hst, hg⟩ := hc
        dsimp only at hst
        have HK := Lib.hid hst
        have HA := Lib.hid (HA.out.grown hg (neq_of (by omega)))
        have HB2 := Lib.hid (HB2.out.grown hg (neq_of (by omega)))
        have HR := Lib.hid (HR.out.grown hg (neq_of (by omega)))
        have HP := Lib.hid (HP.out.grown hg (neq_of (by omega)))
        have HB := Lib.hid (below_grown HB.out (Nat.le_refl _) hg (fun g e => by injection e with e; omega))
        clear hst hg HS
        have HS := And.intro ((Blk.cell HA.out 0).trans rfl) (And.intro ((Blk.cell HA.out 1).trans rfl) (And.intro ((Blk.cell HA.out 2).trans rfl) (And.intro ((Blk.cell HB2.out 0).trans rfl) (And.intro ((Blk.cell HB2.out 1).trans rfl) ((Blk.cell HB2.out 2).trans rfl)))))
        go_wp2_with fail
        refine hK.out _ _ HS ?_
        clear hK K
        try simp only [Act.put, List.setIfInBounds_toArray, List.set_cons_zero, List.set_cons_succ]
        refine Rg.twoR (i := 29) (j := 31) (oi := { dst := some 41, op := Op.call { callee := Callee.value (Operand.tmp 32), args := #[Operand.tmp 34, Operand.tmp 36, Operand.tmp 38, Operand.tmp 40], argTypes := #[3, 3, 3, 3] }, type := 3, pos := "vec.go:56", after := #[{ on := 20, ground := Ground.data }, { on := 22, ground := Ground.data }, { on := 24, ground := Ground.data }, { on := 26, ground := Ground.data }, { on := 28, ground := Ground.data }, { on := 19, ground := Ground.chain }], guard := none }) (oj := { dst := some 8, op := Op.alloc 37, type := 0, pos := "vec.go:56", after := #[], guard := none }) (by kernel_rfl) rfl rfl ?_ ?_
        ·
          refine Rg.stepF ?_ ?_
          · kernel_rfl
          intro K hK
          rw [if_pos (by rfl)]
          go_simp
          go_at_call 60
          refine (cross1_any gp gk _ ax b_y ay bx _ HP.out HK.out (by omega) r_ax r_b_y r_ay r_bx).mono ?_
          intro e w1 hc
          rw [PZ_.out] at hc
          obtain ⟨rfl, hst, hg⟩ := hc
          dsimp only at hst
          have HK := Lib.hid hst
          have HA := Lib.hid (HA.out.grown hg (neq_of (by omega)))
          have HB2 := Lib.hid (HB2.out.grown hg (neq_of (by omega)))
          have HR := Lib.hid (HR.out.grown hg (neq_of (by omega)))
          have HP := Lib.hid (HP.out.grown hg (neq_of (by omega)))
          have HB := Lib.hid (below_grown HB.out (Nat.le_refl _) hg (fun g e => by injection e with e; omega))
          clear hst hg HS
          have HS := And.intro ((Blk.cell HA.out 0).trans rfl) (And.intro ((Blk.cell HA.out 1).trans rfl) (And.intro ((Blk.cell HA.out 2).trans rfl) (And.intro ((Blk.cell HB2.out 0).trans rfl) (And.intro ((Blk.cell HB2.out 1).trans rfl) ((Blk.cell HB2.out 2).trans rfl)))))
          go_wp2_with fail
          refine hK.out _ _ ?_
          clear hK K
          try simp only [Act.put, List.setIfInBounds_toArray, List.set_cons_zero, List.set_cons_succ]
          refine Rg.takeP (i := 30) (oi := { dst := some 42, op := Op.build 37 #[(0, Operand.tmp 21), (1, Operand.tmp 31), (2, Operand.tmp 41)], type := 37, pos := "vec.go:56", after := #[{ on := 9, ground := Ground.data }, { on := 19, ground := Ground.data }, { on := 29, ground := Ground.data }], guard := none }) (v := ?_) rfl (by kernel_rfl) (fun _ _ _ h => h) (by rfl) ?_ ?_
          rotate_left 1
          · (intro w; go_simp; (try with_reducible rfl))
          try simp only [Act.put, List.setIfInBounds_toArray, List.set_cons_zero, List.set_cons_succ]
          refine Rg.oneR (i := 31) (oi := { dst := some 8, op := Op.alloc 37, type := 0, pos := "vec.go:56", after := #[], guard := none }) rfl (by kernel_rfl) ?_
          refine Rg.stepS ?_
          intro K hK
          go_simp
          have HV := Lib.hid (show Blk (w1.alloc (.cells #[.int .i64 0, .int .i64 0, .int .i64 0] 37)) w1.heap.size 37 #[.int .i64 0, .int .i64 0, .int .i64 0] from Blk.fresh _ _ _)
          have lK := HP.out.lt
          have HA := Lib.hid (HA.out.alloc (.cells #[.int .i64 0, .int .i64 0, .int .i64 0] 37))
          have HB2 := Lib.hid (HB2.out.alloc (.cells #[.int .i64 0, .int .i64 0, .int .i64 0] 37))
          have HR := Lib.hid (HR.out.alloc (.cells #[.int .i64 0, .int .i64 0, .int .i64 0] 37))
          have HP := Lib.hid (HP.out.alloc (.cells #[.int .i64 0, .int .i64 0, .int .i64 0] 37))
          have HK := Lib.hid (Blk.alloc HK.out (.cells #[.int .i64 0, .int .i64 0, .int .i64 0] 37))
          have HB := Lib.hid (HB.out.alloc HB.out.size (.cells #[.int .i64 0, .int .i64 0, .int .i64 0] 37))
          obtain ⟨gv, hgv⟩ : ∃ g, w1.heap.size = g := ⟨_, rfl⟩
          rw [hgv] at HV lK ⊢
          generalize (w1.alloc (.cells #[.int .i64 0, .int .i64 0, .int .i64 0] 37)) = w1 at *
          clear HS
          have HS := And.intro ((Blk.cell HA.out 0).trans rfl) (And.intro ((Blk.cell HA.out 1).trans rfl) (And.intro ((Blk.cell HA.out 2).trans rfl) (And.intro ((Blk.cell HB2.out 0).trans rfl) (And.intro ((Blk.cell HB2.out 1).trans rfl) ((Blk.cell HB2.out 2).trans rfl)))))
          refine hK.out _ _ HS ?_
          clear hK K
          try simp only [Act.put, List.setIfInBounds_toArray, List.set_cons_zero, List.set_cons_succ]
          refine Rg.oneR (i := 32) (oi := { dst := none, op := Op.store 37 (Operand.tmp 8) (Operand.tmp 42), type := 0, pos := "vec.go:56", after := #[{ on := 31, ground := Ground.data }, { on := 30, ground := Ground.data }, { on := 29, ground := Ground.chain }, { on := 0, ground := Ground.phase }, { on := 1, ground := Ground.phase }, { on := 2, ground := Ground.phase }, { on := 3, ground := Ground.phase }, { on := 4, ground := Ground.phase }, { on := 5, ground := Ground.phase }, { on := 6, ground := Ground.phase }, { on := 7, ground := Ground.phase }, { on := 8, ground := Ground.phase }, { on := 9, ground := Ground.phase }, { on := 10, ground := Ground.phase }, { on := 11, ground := Ground.phase }, { on := 12, ground := Ground.phase }, { on := 13, ground := Ground.phase }, { on := 14, ground := Ground.phase }, { on := 15, ground := Ground.phase }, { on := 16, ground := Ground.phase }, { on := 17, ground := Ground.phase }, { on := 18, ground := Ground.phase }, { on := 19, ground := Ground.phase }, { on := 20, ground := Ground.phase }, { on := 21, ground := Ground.phase }, { on := 22, ground := Ground.phase }, { on := 23, ground := Ground.phase }, { on := 24, ground := Ground.phase }, { on := 25, ground := Ground.phase }, { on := 26, ground := Ground.phase }, { on := 27, ground := Ground.phase }, { on := 28, ground := Ground.phase }, { on := 29, ground := Ground.phase }, { on := 30, ground := Ground.phase }, { on := 31, ground := Ground.phase }], guard := none }) rfl (by kernel_rfl) ?_
          refine Rg.stepF ?_ ?_
          · kernel_rfl
          intro K hK
          rw [if_pos (by rfl)]
          refine wp_store_row 37 _ _ rfl gv #[.int .i64 px, .int .i64 py, .int .i64 pz] rfl rfl 37 _ HV.out (by kernel_rfl) rfl (by simp [Value.oneCell']) ?_
          have HV := Lib.hid (HV.out.setRow #[.int .i64 px, .int .i64 py, .int .i64 pz])
          have HR := Lib.hid (HR.out.setRow_other (g' := gv) (by omega) #[.int .i64 px, .int .i64 py, .int .i64 pz])
          have HP := Lib.hid (HP.out.setRow_other (g' := gv) (by omega) #[.int .i64 px, .int .i64 py, .int .i64 pz])
          have HK := Lib.hid (Blk.setRow_other HK.out (g' := gv) (by omega) #[.int .i64 px, .int .i64 py, .int .i64 pz])
          have HB := Lib.hid (below_setRow HB.out (show w.heap.size ≤ gv by omega) #[.int .i64 px, .int .i64 py, .int .i64 pz])
          generalize (w1.setRow gv #[.int .i64 px, .int .i64 py, .int .i64 pz]) = w1 at *
          refine hK.out _ _ ?_
          clear hK K
          try simp only [Act.put, List.setIfInBounds_toArray, List.set_cons_zero, List.set_cons_succ]
          refine Rg.doneR (by kernel_rfl) ?_ _
          refine NoPanic.normal ?_
          clear HS
          go_wp2_with fail
          go_meet
          exact ⟨_, rfl, by omega, HV.out, by have h := HK.out; rw [Bool.false_or] at h; exact h, HP.out, HR.out, HB.out⟩
        ·
          refine Rg.stepS ?_
          intro K hK
          go_simp
          have HV := Lib.hid (show Blk (w1.alloc (.cells #[.int .i64 0, .int .i64 0, .int .i64 0] 37)) w1.heap.size 37 #[.int .i64 0, .int .i64 0, .int .i64 0] from Blk.fresh _ _ _)
          have lK := HP.out.lt
          have HA := Lib.hid (HA.out.alloc (.cells #[.int .i64 0, .int .i64 0, .int .i64 0] 37))
          have HB2 := Lib.hid (HB2.out.alloc (.cells #[.int .i64 0, .int .i64 0, .int .i64 0] 37))
          have HR := Lib.hid (HR.out.alloc (.cells #[.int .i64 0, .int .i64 0, .int .i64 0] 37))
          have HP := Lib.hid (HP.out.alloc (.cells #[.int .i64 0, .int .i64 0, .int .i64 0] 37))
          have HK := Lib.hid (Blk.alloc HK.out (.cells #[.int .i64 0, .int .i64 0, .int .i64 0] 37))
          have HB := Lib.hid (HB.out.alloc HB.out.size (.cells #[.int .i64 0, .int .i64 0, .int .i64 0] 37))
          obtain ⟨gv, hgv⟩ : ∃ g, w1.heap.size = g := ⟨_, rfl⟩
          rw [hgv] at HV lK ⊢
          generalize (w1.alloc (.cells #[.int .i64 0, .int .i64 0, .int .i64 0] 37)) = w1 at *
          clear HS
          have HS := And.intro ((Blk.cell HA.out 0).trans rfl) (And.intro ((Blk.cell HA.out 1).trans rfl) (And.intro ((Blk.cell HA.out 2).trans rfl) (And.intro ((Blk.cell HB2.out 0).trans rfl) (And.intro ((Blk.cell HB2.out 1).trans rfl) ((Blk.cell HB2.out 2).trans rfl)))))
          refine hK.out _ _ HS ?_
          clear hK K
          try simp only [Act.put, List.setIfInBounds_toArray, List.set_cons_zero, List.set_cons_succ]
          refine Rg.oneR (i := 29) (oi := { dst := some 41, op := Op.call { callee := Callee.value (Operand.tmp 32), args := #[Operand.tmp 34, Operand.tmp 36, Operand.tmp 38, Operand.tmp 40], argTypes := #[3, 3, 3, 3] }, type := 3, pos := "vec.go:56", after := #[{ on := 20, ground := Ground.data }, { on := 22, ground := Ground.data }, { on := 24, ground := Ground.data }, { on := 26, ground := Ground.data }, { on := 28, ground := Ground.data }, { on := 19, ground := Ground.chain }], guard := none }) rfl (by kernel_rfl) ?_
          refine Rg.stepF ?_ ?_
          · kernel_rfl
          intro K hK
          rw [if_pos (by rfl)]
          go_simp
          go_at_call 60
          refine (cross1_any gp gk _ ax b_y ay bx _ HP.out HK.out (by omega) r_ax r_b_y r_ay r_bx).mono ?_
          intro e w1 hc
          rw [PZ_.out] at hc
          obtain ⟨rfl, hst, hg⟩ := hc
          dsimp only at hst
          have HK := Lib.hid hst
          have HA := Lib.hid (HA.out.grown hg (neq_of (by omega)))
          have HB2 := Lib.hid (HB2.out.grown hg (neq_of (by omega)))
          have HR := Lib.hid (HR.out.grown hg (neq_of (by omega)))
          have HP := Lib.hid (HP.out.grown hg (neq_of (by omega)))
          have HV := Lib.hid (HV.out.grown hg (neq_of (by omega)))
          have HB := Lib.hid (below_grown HB.out (Nat.le_refl _) hg (fun g e => by injection e with e; omega))
          clear hst hg HS
          have HS := And.intro ((Blk.cell HA.out 0).trans rfl) (And.intro ((Blk.cell HA.out 1).trans rfl) (And.intro ((Blk.cell HA.out 2).trans rfl) (And.intro ((Blk.cell HB2.out 0).trans rfl) (And.intro ((Blk.cell HB2.out 1).trans rfl) ((Blk.cell HB2.out 2).trans rfl)))))
          go_wp2_with fail
          refine hK.out _ _ ?_
          clear hK K
          try simp only [Act.put, List.setIfInBounds_toArray, List.set_cons_zero, List.set_cons_succ]
          refine Rg.takeP (i := 30) (oi := { dst := some 42, op := Op.build 37 #[(0, Operand.tmp 21), (1, Operand.tmp 31), (2, Operand.tmp 41)], type := 37, pos := "vec.go:56", after := #[{ on := 9, ground := Ground.data }, { on := 19, ground := Ground.data }, { on := 29, ground := Ground.data }], guard := none }) (v := ?_) rfl (by kernel_rfl) (fun _ _ _ h => h) (by rfl) ?_ ?_
          rotate_left 1
          · (intro w; go_simp; (try with_reducible rfl))
          try simp only [Act.put, List.setIfInBounds_toArray, List.set_cons_zero, List.set_cons_succ]
          refine Rg.oneR (i := 32) (oi := { dst := none, op := Op.store 37 (Operand.tmp 8) (Operand.tmp 42), type := 0, pos := "vec.go:56", after := #[{ on := 31, ground := Ground.data }, { on := 30, ground := Ground.data }, { on := 29, ground := Ground.chain }, { on := 0, ground := Ground.phase }, { on := 1, ground := Ground.phase }, { on := 2, ground := Ground.phase }, { on := 3, ground := Ground.phase }, { on := 4, ground := Ground.phase }, { on := 5, ground := Ground.phase }, { on := 6, ground := Ground.phase }, { on := 7, ground := Ground.phase }, { on := 8, ground := Ground.phase }, { on := 9, ground := Ground.phase }, { on := 10, ground := Ground.phase }, { on := 11, ground := Ground.phase }, { on := 12, ground := Ground.phase }, { on := 13, ground := Ground.phase }, { on := 14, ground := Ground.phase }, { on := 15, ground := Ground.phase }, { on := 16, ground := Ground.phase }, { on := 17, ground := Ground.phase }, { on := 18, ground := Ground.phase }, { on := 19, ground := Ground.phase }, { on := 20, ground := Ground.phase }, { on := 21, ground := Ground.phase }, { on := 22, ground := Ground.phase }, { on := 23, ground := Ground.phase }, { on := 24, ground := Ground.phase }, { on := 25, ground := Ground.phase }, { on := 26, ground := Ground.phase }, { on := 27, ground := Ground.phase }, { on := 28, ground := Ground.phase }, { on := 29, ground := Ground.phase }, { on := 30, ground := Ground.phase }, { on := 31, ground := Ground.phase }], guard := none }) rfl (by kernel_rfl) ?_
          refine Rg.stepF ?_ ?_
          · kernel_rfl
          intro K hK
          rw [if_pos (by rfl)]
          refine wp_store_row 37 _ _ rfl gv #[.int .i64 px, .int .i64 py, .int .i64 pz] rfl rfl 37 _ HV.out (by kernel_rfl) rfl (by simp [Value.oneCell']) ?_
          have HV := Lib.hid (HV.out.setRow #[.int .i64 px, .int .i64 py, .int .i64 pz])
          have HR := Lib.hid (HR.out.setRow_other (g' := gv) (by omega) #[.int .i64 px, .int .i64 py, .int .i64 pz])
          have HP := Lib.hid (HP.out.setRow_other (g' := gv) (by omega) #[.int .i64 px, .int .i64 py, .int .i64 pz])
          have HK := Lib.hid (Blk.setRow_other HK.out (g' := gv) (by omega) #[.int .i64 px, .int .i64 py, .int .i64 pz])
          have HB := Lib.hid (below_setRow HB.out (show w.heap.size ≤ gv by omega) #[.int .i64 px, .int .i64 py, .int .i64 pz])
          generalize (w1.setRow gv #[.int .i64 px, .int .i64 py, .int .i64 pz]) = w1 at *
          refine hK.out _ _ ?_
          clear hK K
          try simp only [Act.put, List.setIfInBounds_toArray, List.set_cons_zero, List.set_cons_succ]
          refine Rg.doneR (by kernel_rfl) ?_ _
          refine NoPanic.normal ?_
          clear HS
          go_wp2_with fail
          go_meet
          exact ⟨_, rfl, by omega, HV.out, by have h := HK.out; rw [Bool.false_or] at h; exact h, HP.out, HR.out, HB.out⟩
      ·
        refine Rg.stepS ?_
        intro K hK
        go_simp
        have HV := Lib.hid (show Blk (w1.alloc (.cells #[.int .i64 0, .int .i64 0, .int .i64 0] 37)) w1.heap.size 37 #[.int .i64 0, .int .i64 0, .int .i64 0] from Blk.fresh _ _ _)
        have lK := HP.out.lt
        have HA := Lib.hid (HA.out.alloc (.cells #[.int .i64 0, .int .i64 0, .int .i64 0] 37))
        have HB2 := Lib.hid (HB2.out.alloc (.cells #[.int .i64 0, .int .i64 0, .int .i64 0] 37))
        have HR := Lib.hid (HR.out.alloc (.cells #[.int .i64 0, .int .i64 0, .int .i64 0] 37))
        have HP := Lib.hid (HP.out.alloc (.cells #[.int .i64 0, .int .i64 0, .int .i64 0] 37))
        have HK := Lib.hid (Blk.alloc HK.out (.cells #[.int .i64 0, .int .i64 0, .int .i64 0] 37))
        have HB := Lib.hid (HB.out.alloc HB.out.size (.cells #[.int .i64 0, .int .i64 0, .int .i64 0] 37))
        obtain ⟨gv, hgv⟩ : ∃ g, w1.heap.size = g := ⟨_, rfl⟩
        rw [hgv] at HV lK ⊢
        generalize (w1.alloc (.cells #[.int .i64 0, .int .i64 0, .int .i64 0] 37)) = w1 at *
        clear HS
        have HS := And.intro ((Blk.cell HA.out 0).trans rfl) (And.intro ((Blk.cell HA.out 1).trans rfl) (And.intro ((Blk.cell HA.out 2).trans rfl) (And.intro ((Blk.cell HB2.out 0).trans rfl) (And.intro ((Blk.cell HB2.out 1).trans rfl) ((Blk.cell HB2.out 2).trans rfl)))))
        refine hK.out _ _ HS ?_
        clear hK K
        try simp only [Act.put, List.setIfInBounds_toArray, List.set_cons_zero, List.set_cons_succ]
        refine Rg.oneR (i := 19) (oi := { dst := some 31, op := Op.call { callee := Callee.value (Operand.tmp 22), args := #[Operand.tmp 24, Operand.tmp 26, Operand.tmp 28, Operand.tmp 30], argTypes := #[3, 3, 3, 3] }, type := 3, pos := "vec.go:56", after := #[{ on := 10, ground := Ground.data }, { on := 12, ground := Ground.data }, { on := 14, ground := Ground.data }, { on := 16, ground := Ground.data }, { on := 18, ground := Ground.data }, { on := 9, ground := Ground.chain }], guard := none }) rfl (by kernel_rfl) ?_
        refine Rg.stepS ?_
        intro K hK
        rw [if_pos (by rfl)]
        go_simp
        go_at_call 60
        refine (cross1_any gp gk _ az bx ax bz _ HP.out HK.out (by omega) r_az r_bx r_ax r_bz).mono ?_
        intro e w1 hc
        rw [PY_.out] at hc
        obtain ⟨rfl, hst, hg⟩ := hc
        dsimp only at hst
        have HK := Lib.hid hst
        have HA := Lib.hid (HA.out.grown hg (neq_of (by omega)))
        have HB2 := Lib.hid (HB2.out.grown hg (neq_of (by omega)))
        have HR := Lib.hid (HR.out.grown hg (neq_of (by omega)))
        have HP := Lib.hid (HP.out.grown hg (neq_of (by omega)))
        have HV := Lib.hid (HV.out.grown hg (neq_of (by omega)))
        have HB := Lib.hid (below_grown HB.out (Nat.le_refl _) hg (fun g e => by injection e with e; omega))
        clear hst hg HS
        have HS := And.intro ((Blk.cell HA.out 0).trans rfl) (And.intro ((Blk.cell HA.out 1).trans rfl) (And.intro ((Blk.cell HA.out 2).trans rfl) (And.intro ((Blk.cell HB2.out 0).trans rfl) (And.intro ((Blk.cell HB2.out 1).trans rfl) ((Blk.cell HB2.out 2).trans rfl)))))
        go_wp2_with fail
        refine hK.out _ _ HS ?_
        clear hK K
        try simp only [Act.put, List.setIfInBounds_toArray, List.set_cons_zero, List.set_cons_succ]
        refine Rg.oneR (i := 29) (oi := { dst := some 41, op := Op.call { callee := Callee.value (Operand.tmp 32), args := #[Operand.tmp 34, Operand.tmp 36, Operand.tmp 38, Operand.tmp 40], argTypes := #[3, 3, 3, 3] }, type := 3, pos := "vec.go:56", after := #[{ on := 20, ground := Ground.data }, { on := 22, ground := Ground.data }, { on := 24, ground := Ground.data }, { on := 26, ground := Ground.data }, { on := 28, ground := Ground.data }, { on := 19, ground := Ground.chain }], guard := none }) rfl (by kernel_rfl) ?_
        refine Rg.stepF ?_ ?_
        · kernel_rfl
        intro K hK
        rw [if_pos (by rfl)]
        go_simp
        go_at_call 60
        refine (cross1_any gp gk _ ax b_y ay bx _ HP.out HK.out (by omega) r_ax r_b_y r_ay r_bx).mono ?_
        intro e w1 hc
        rw [PZ_.out] at hc
        obtain ⟨rfl, hst, hg⟩ := hc
        dsimp only at hst
        have HK := Lib.hid hst
        have HA := Lib.hid (HA.out.grown hg (neq_of (by omega)))
        have HB2 := Lib.hid (HB2.out.grown hg (neq_of (by omega)))
        have HR := Lib.hid (HR.out.grown hg (neq_of (by omega)))
        have HP := Lib.hid (HP.out.grown hg (neq_of (by omega)))
        have HV := Lib.hid (HV.out.grown hg (neq_of (by omega)))
        have HB := Lib.hid (below_grown HB.out (Nat.le_refl _) hg (fun g e => by injection e with e; omega))
        clear hst hg HS
        have HS := And.intro ((Blk.cell HA.out 0).trans rfl) (And.intro ((Blk.cell HA.out 1).trans rfl) (And.intro ((Blk.cell HA.out 2).trans rfl) (And.intro ((Blk.cell HB2.out 0).trans rfl) (And.intro ((Blk.cell HB2.out 1).trans rfl) ((Blk.cell HB2.out 2).trans rfl)))))
        go_wp2_with fail
        refine hK.out _ _ ?_
        clear hK K
        try simp only [Act.put, List.setIfInBounds_toArray, List.set_cons_zero, List.set_cons_succ]
        refine Rg.takeP (i := 30) (oi := { dst := some 42, op := Op.build 37 #[(0, Operand.tmp 21), (1, Operand.tmp 31), (2, Operand.tmp 41)], type := 37, pos := "vec.go:56", after := #[{ on := 9, ground := Ground.data }, { on := 19, ground := Ground.data }, { on := 29, ground := Ground.data }], guard := none }) (v := ?_) rfl (by kernel_rfl) (fun _ _ _ h => h) (by rfl) ?_ ?_
        rotate_left 1
        · (intro w; go_simp; (try with_reducible rfl))
        try simp only [Act.put, List.setIfInBounds_toArray, List.set_cons_zero, List.set_cons_succ]
        refine Rg.oneR (i := 32) (oi := { dst := none, op := Op.store 37 (Operand.tmp 8) (Operand.tmp 42), type := 0, pos := "vec.go:56", after := #[{ on := 31, ground := Ground.data }, { on := 30, ground := Ground.data }, { on := 29, ground := Ground.chain }, { on := 0, ground := Ground.phase }, { on := 1, ground := Ground.phase }, { on := 2, ground := Ground.phase }, { on := 3, ground := Ground.phase }, { on := 4, ground := Ground.phase }, { on := 5, ground := Ground.phase }, { on := 6, ground := Ground.phase }, { on := 7, ground := Ground.phase }, { on := 8, ground := Ground.phase }, { on := 9, ground := Ground.phase }, { on := 10, ground := Ground.phase }, { on := 11, ground := Ground.phase }, { on := 12, ground := Ground.phase }, { on := 13, ground := Ground.phase }, { on := 14, ground := Ground.phase }, { on := 15, ground := Ground.phase }, { on := 16, ground := Ground.phase }, { on := 17, ground := Ground.phase }, { on := 18, ground := Ground.phase }, { on := 19, ground := Ground.phase }, { on := 20, ground := Ground.phase }, { on := 21, ground := Ground.phase }, { on := 22, ground := Ground.phase }, { on := 23, ground := Ground.phase }, { on := 24, ground := Ground.phase }, { on := 25, ground := Ground.phase }, { on := 26, ground := Ground.phase }, { on := 27, ground := Ground.phase }, { on := 28, ground := Ground.phase }, { on := 29, ground := Ground.phase }, { on := 30, ground := Ground.phase }, { on := 31, ground := Ground.phase }], guard := none }) rfl (by kernel_rfl) ?_
        refine Rg.stepF ?_ ?_
        · kernel_rfl
        intro K hK
        rw [if_pos (by rfl)]
        refine wp_store_row 37 _ _ rfl gv #[.int .i64 px, .int .i64 py, .int .i64 pz] rfl rfl 37 _ HV.out (by kernel_rfl) rfl (by simp [Value.oneCell']) ?_
        have HV := Lib.hid (HV.out.setRow #[.int .i64 px, .int .i64 py, .int .i64 pz])
        have HR := Lib.hid (HR.out.setRow_other (g' := gv) (by omega) #[.int .i64 px, .int .i64 py, .int .i64 pz])
        have HP := Lib.hid (HP.out.setRow_other (g' := gv) (by omega) #[.int .i64 px, .int .i64 py, .int .i64 pz])
        have HK := Lib.hid (Blk.setRow_other HK.out (g' := gv) (by omega) #[.int .i64 px, .int .i64 py, .int .i64 pz])
        have HB := Lib.hid (below_setRow HB.out (show w.heap.size ≤ gv by omega) #[.int .i64 px, .int .i64 py, .int .i64 pz])
        generalize (w1.setRow gv #[.int .i64 px, .int .i64 py, .int .i64 pz]) = w1 at *
        refine hK.out _ _ ?_
        clear hK K
        try simp only [Act.put, List.setIfInBounds_toArray, List.set_cons_zero, List.set_cons_succ]
        refine Rg.doneR (by kernel_rfl) ?_ _
        refine NoPanic.normal ?_
        clear HS
        go_wp2_with fail
        go_meet
        exact ⟨_, rfl, by omega, HV.out, by have h := HK.out; rw [Bool.false_or] at h; exact h, HP.out, HR.out, HB.out⟩
    ·
      refine Rg.stepS ?_
      intro K hK
      go_simp
      have HV := Lib.hid (show Blk (w1.alloc (.cells #[.int .i64 0, .int .i64 0, .int .i64 0] 37)) w1.heap.size 37 #[.int .i64 0, .int .i64 0, .int .i64 0] from Blk.fresh _ _ _)
      have lK := HP.out.lt
      have HA := Lib.hid (HA.out.alloc (.cells #[.int .i64 0, .int .i64 0, .int .i64 0] 37))
      have HB2 := Lib.hid (HB2.out.alloc (.cells #[.int .i64 0, .int .i64 0, .int .i64 0] 37))
      have HR := Lib.hid (HR.out.alloc (.cells #[.int .i64 0, .int .i64 0, .int .i64 0] 37))
      have HP := Lib.hid (HP.out.alloc (.cells #[.int .i64 0, .int .i64 0, .int .i64 0] 37))
      have HK := Lib.hid (Blk.alloc HK.out (.cells #[.int .i64 0, .int .i64 0, .int .i64 0] 37))
      have HB := Lib.hid (HB.out.alloc HB.out.size (.cells #[.int .i64 0, .int .i64 0, .int .i64 0] 37))
      obtain ⟨gv, hgv⟩ : ∃ g, w1.heap.size = g := ⟨_, rfl⟩
      rw [hgv] at HV lK ⊢
      generalize (w1.alloc (.cells #[.int .i64 0, .int .i64 0, .int .i64 0] 37)) = w1 at *
      clear HS
      have HS := And.intro ((Blk.cell HA.out 0).trans rfl) (And.intro ((Blk.cell HA.out 1).trans rfl) (And.intro ((Blk.cell HA.out 2).trans rfl) (And.intro ((Blk.cell HB2.out 0).trans rfl) (And.intro ((Blk.cell HB2.out 1).trans rfl) ((Blk.cell HB2.out 2).trans rfl)))))
      refine hK.out _ _ HS ?_
      clear hK K
      try simp only [Act.put, List.setIfInBounds_toArray, List.set_cons_zero, List.set_cons_succ]
      refine Rg.oneR (i := 9) (oi := { dst := some 21, op := Op.call { callee := Callee.value (Operand.tmp 12), args := #[Operand.tmp 14, Operand.tmp 16, Operand.tmp 18, Operand.tmp 20], argTypes := #[3, 3, 3, 3] }, type := 3, pos := "vec.go:56", after := #[{ on := 0, ground := Ground.data }, { on := 2, ground := Ground.data }, { on := 4, ground := Ground.data }, { on := 6, ground := Ground.data }, { on := 8, ground := Ground.data }], guard := none }) rfl (by kernel_rfl) ?_
      refine Rg.stepS ?_
      intro K hK
      rw [if_pos (by rfl)]
      go_simp
      go_at_call 60
      refine (cross1_any gp gk _ ay bz az b_y _ HP.out HK.out (by omega) r_ay r_bz r_az r_b_y).mono ?_
      intro e w1 hc
      rw [PX_.out] at hc
      obtain ⟨rfl, hst, hg⟩ := hc
      dsimp only at hst
      have HK := Lib.hid hst
      have HA := Lib.hid (HA.out.grown hg (neq_of (by omega)))
      have HB2 := Lib.hid (HB2.out.grown hg (neq_of (by omega)))
      have HR := Lib.hid (HR.out.grown hg (neq_of (by omega)))
      have HP := Lib.hid (HP.out.grown hg (neq_of (by omega)))
      have HV := Lib.hid (HV.out.grown hg (neq_of (by omega)))
      have HB := Lib.hid (below_grown HB.out (Nat.le_refl _) hg (fun g e => by injection e with e; omega))
      clear hst hg HS
      have HS := And.intro ((Blk.cell HA.out 0).trans rfl) (And.intro ((Blk.cell HA.out 1).trans rfl) (And.intro ((Blk.cell HA.out 2).trans rfl) (And.intro ((Blk.cell HB2.out 0).trans rfl) (And.intro ((Blk.cell HB2.out 1).trans rfl) ((Blk.cell HB2.out 2).trans rfl)))))
      go_wp2_with fail
      refine hK.out _ _ HS ?_
      clear hK K
      try simp only [Act.put, List.setIfInBounds_toArray, List.set_cons_zero, List.set_cons_succ]
      refine Rg.oneR (i := 19) (oi := { dst := some 31, op := Op.call { callee := Callee.value (Operand.tmp 22), args := #[Operand.tmp 24, Operand.tmp 26, Operand.tmp 28, Operand.tmp 30], argTypes := #[3, 3, 3, 3] }, type := 3, pos := "vec.go:56", after := #[{ on := 10, ground := Ground.data }, { on := 12, ground := Ground.data }, { on := 14, ground := Ground.data }, { on := 16, ground := Ground.data }, { on := 18, ground := Ground.data }, { on := 9, ground := Ground.chain }], guard := none }) rfl (by kernel_rfl) ?_
      refine Rg.stepS ?_
      intro K hK
      rw [if_pos (by rfl)]
      go_simp
      go_at_call 60
      refine (cross1_any gp gk _ az bx ax bz _ HP.out HK.out (by omega) r_az r_bx r_ax r_bz).mono ?_
      intro e w1 hc
      rw [PY_.out] at hc
      obtain ⟨rfl, hst, hg⟩ := hc
      dsimp only at hst
      have HK := Lib.hid hst
      have HA := Lib.hid (HA.out.grown hg (neq_of (by omega)))
      have HB2 := Lib.hid (HB2.out.grown hg (neq_of (by omega)))
      have HR := Lib.hid (HR.out.grown hg (neq_of (by omega)))
      have HP := Lib.hid (HP.out.grown hg (neq_of (by omega)))
      have HV := Lib.hid (HV.out.grown hg (neq_of (by omega)))
      have HB := Lib.hid (below_grown HB.out (Nat.le_refl _) hg (fun g e => by injection e with e; omega))
      clear hst hg HS
      have HS := And.intro ((Blk.cell HA.out 0).trans rfl) (And.intro ((Blk.cell HA.out 1).trans rfl) (And.intro ((Blk.cell HA.out 2).trans rfl) (And.intro ((Blk.cell HB2.out 0).trans rfl) (And.intro ((Blk.cell HB2.out 1).trans rfl) ((Blk.cell HB2.out 2).trans rfl)))))
      go_wp2_with fail
      refine hK.out _ _ HS ?_
      clear hK K
      try simp only [Act.put, List.setIfInBounds_toArray, List.set_cons_zero, List.set_cons_succ]
      refine Rg.oneR (i := 29) (oi := { dst := some 41, op := Op.call { callee := Callee.value (Operand.tmp 32), args := #[Operand.tmp 34, Operand.tmp 36, Operand.tmp 38, Operand.tmp 40], argTypes := #[3, 3, 3, 3] }, type := 3, pos := "vec.go:56", after := #[{ on := 20, ground := Ground.data }, { on := 22, ground := Ground.data }, { on := 24, ground := Ground.data }, { on := 26, ground := Ground.data }, { on := 28, ground := Ground.data }, { on := 19, ground := Ground.chain }], guard := none }) rfl (by kernel_rfl) ?_
      refine Rg.stepF ?_ ?_
      · kernel_rfl
      intro K hK
      rw [if_pos (by rfl)]
      go_simp
      go_at_call 60
      refine (cross1_any gp gk _ ax b_y ay bx _ HP.out HK.out (by omega) r_ax r_b_y r_ay r_bx).mono ?_
      intro e w1 hc
      rw [PZ_.out] at hc
      obtain ⟨rfl, hst, hg⟩ := hc
      dsimp only at hst
      have HK := Lib.hid hst
      have HA := Lib.hid (HA.out.grown hg (neq_of (by omega)))
      have HB2 := Lib.hid (HB2.out.grown hg (neq_of (by omega)))
      have HR := Lib.hid (HR.out.grown hg (neq_of (by omega)))
      have HP := Lib.hid (HP.out.grown hg (neq_of (by omega)))
      have HV := Lib.hid (HV.out.grown hg (neq_of (by omega)))
      have HB := Lib.hid (below_grown HB.out (Nat.le_refl _) hg (fun g e => by injection e with e; omega))
      clear hst hg HS
      have HS := And.intro ((Blk.cell HA.out 0).trans rfl) (And.intro ((Blk.cell HA.out 1).trans rfl) (And.intro ((Blk.cell HA.out 2).trans rfl) (And.intro ((Blk.cell HB2.out 0).trans rfl) (And.intro ((Blk.cell HB2.out 1).trans rfl) ((Blk.cell HB2.out 2).trans rfl)))))
      go_wp2_with fail
      refine hK.out _ _ ?_
      clear hK K
      try simp only [Act.put, List.setIfInBounds_toArray, List.set_cons_zero, List.set_cons_succ]
      refine Rg.takeP (i := 30) (oi := { dst := some 42, op := Op.build 37 #[(0, Operand.tmp 21), (1, Operand.tmp 31), (2, Operand.tmp 41)], type := 37, pos := "vec.go:56", after := #[{ on := 9, ground := Ground.data }, { on := 19, ground := Ground.data }, { on := 29, ground := Ground.data }], guard := none }) (v := ?_) rfl (by kernel_rfl) (fun _ _ _ h => h) (by rfl) ?_ ?_
      rotate_left 1
      · (intro w; go_simp; (try with_reducible rfl))
      try simp only [Act.put, List.setIfInBounds_toArray, List.set_cons_zero, List.set_cons_succ]
      refine Rg.oneR (i := 32) (oi := { dst := none, op := Op.store 37 (Operand.tmp 8) (Operand.tmp 42), type := 0, pos := "vec.go:56", after := #[{ on := 31, ground := Ground.data }, { on := 30, ground := Ground.data }, { on := 29, ground := Ground.chain }, { on := 0, ground := Ground.phase }, { on := 1, ground := Ground.phase }, { on := 2, ground := Ground.phase }, { on := 3, ground := Ground.phase }, { on := 4, ground := Ground.phase }, { on := 5, ground := Ground.phase }, { on := 6, ground := Ground.phase }, { on := 7, ground := Ground.phase }, { on := 8, ground := Ground.phase }, { on := 9, ground := Ground.phase }, { on := 10, ground := Ground.phase }, { on := 11, ground := Ground.phase }, { on := 12, ground := Ground.phase }, { on := 13, ground := Ground.phase }, { on := 14, ground := Ground.phase }, { on := 15, ground := Ground.phase }, { on := 16, ground := Ground.phase }, { on := 17, ground := Ground.phase }, { on := 18, ground := Ground.phase }, { on := 19, ground := Ground.phase }, { on := 20, ground := Ground.phase }, { on := 21, ground := Ground.phase }, { on := 22, ground := Ground.phase }, { on := 23, ground := Ground.phase }, { on := 24, ground := Ground.phase }, { on := 25, ground := Ground.phase }, { on := 26, ground := Ground.phase }, { on := 27, ground := Ground.phase }, { on := 28, ground := Ground.phase }, { on := 29, ground := Ground.phase }, { on := 30, ground := Ground.phase }, { on := 31, ground := Ground.phase }], guard := none }) rfl (by kernel_rfl) ?_
      refine Rg.stepF ?_ ?_
      · kernel_rfl
      intro K hK
      rw [if_pos (by rfl)]
      refine wp_store_row 37 _ _ rfl gv #[.int .i64 px, .int .i64 py, .int .i64 pz] rfl rfl 37 _ HV.out (by kernel_rfl) rfl (by simp [Value.oneCell']) ?_
      have HV := Lib.hid (HV.out.setRow #[.int .i64 px, .int .i64 py, .int .i64 pz])
      have HR := Lib.hid (HR.out.setRow_other (g' := gv) (by omega) #[.int .i64 px, .int .i64 py, .int .i64 pz])
      have HP := Lib.hid (HP.out.setRow_other (g' := gv) (by omega) #[.int .i64 px, .int .i64 py, .int .i64 pz])
      have HK := Lib.hid (Blk.setRow_other HK.out (g' := gv) (by omega) #[.int .i64 px, .int .i64 py, .int .i64 pz])
      have HB := Lib.hid (below_setRow HB.out (show w.heap.size ≤ gv by omega) #[.int .i64 px, .int .i64 py, .int .i64 pz])
      generalize (w1.setRow gv #[.int .i64 px, .int .i64 py, .int .i64 pz]) = w1 at *
      refine hK.out _ _ ?_
      clear hK K
      try simp only [Act.put, List.setIfInBounds_toArray, List.set_cons_zero, List.set_cons_succ]
      refine Rg.doneR (by kernel_rfl) ?_ _
      refine NoPanic.normal ?_
      clear HS
      go_wp2_with fail
      go_meet
      exact ⟨_, rfl, by omega, HV.out, by have h := HK.out; rw [Bool.false_or] at h; exact h, HP.out, HR.out, HB.out⟩
  case rest =>
    obtain ⟨gv, rfl, hgv, hv, hk, hp, hr, hb⟩ := hcut
    have HV := Lib.hid hv
    have HK := Lib.hid hk
    have HP := Lib.hid hp
    have HR := Lib.hid hr
    have HB := Lib.hid hb
    clear hv hk hr hb hp
    go_upto_region 4 with fail
    have HV := Lib.hid HV.out.drew
    have HK := Lib.hid (Blk.drew HK.out)
    have HP := Lib.hid HP.out.drew
    have HR := Lib.hid HR.out.drew
    have HB := Lib.hid HB.out.drew
    have HS := And.intro HV.out (And.intro ((Blk.cell HP.out 0).trans rfl) ((Blk.cell HK.out 0).trans rfl))
    refine wp_region_noPanic ?_
    refine Rg.beginR [0, 1, 4] (fun w' => Blk w' gv 37 #[.int .i64 px, .int .i64 py, .int .i64 pz] ∧ w'.cell? ⟨gp, 0, none⟩ = some (.pointer (some ⟨gk, 0, none⟩)) ∧ w'.cell? ⟨gk, 0, none⟩ = some (.bool (xb || yb || zb))) (by kernel_rfl) ?_
    generalize wc.drew = w1 at *
    refine Rg.takeS (i := 0) (oi := { dst := some 43, op := Op.load 37 (Operand.tmp 8), type := 37, pos := "vec.go:57", after := #[], guard := none }) (v := .agg #[.int .i64 px, .int .i64 py, .int .i64 pz]) rfl (by kernel_rfl) (fun _ _ _ h => h) (by rfl) HS ?_ ?_
    · (intro w' hSw; exact exec_load_st 37 (.tmp 8) rfl gv rfl hSw.1 Try.underlying37 rfl (by kernel_rfl))
    try simp only [Act.put, List.setIfInBounds_toArray, List.set_cons_zero, List.set_cons_succ]
    refine Rg.takeS (i := 1) (oi := { dst := some 44, op := Op.load 74 (Operand.tmp 6), type := 74, pos := "vec.go:57", after := #[{ on := 5, ground := Ground.gcOnly Departure.lateStores }], guard := none }) (v := ?_) rfl (by kernel_rfl) (fun _ _ _ h => h) (by rfl) HS ?_ ?_
    rotate_left 1
    · (intro w hSw; (try dsimp only at hSw); (have hS1 := hSw.2.1); (have hS2 := hSw.2.2); clear hSw; go_simp; (try with_reducible rfl))
    try simp only [Act.put, List.setIfInBounds_toArray, List.set_cons_zero, List.set_cons_succ]
    refine Rg.takeP (i := 2) (oi := { dst := some 45, op := Op.nilCheck (Operand.tmp 44), type := 0, pos := "vec.go:57", after := #[{ on := 1, ground := Ground.data }, { on := 5, ground := Ground.gcOnly Departure.lateStores }], guard := none }) (v := ?_) rfl (by kernel_rfl) (fun _ _ _ h => h) (by rfl) ?_ ?_
    rotate_left 1
    · (intro w; go_simp; (try with_reducible rfl))
    try simp only [Act.put, List.setIfInBounds_toArray, List.set_cons_zero, List.set_cons_succ]
    refine Rg.takeP (i := 3) (oi := { dst := some 46, op := Op.fieldAddr 76 (Operand.tmp 45) 0, type := 0, pos := "vec.go:57", after := #[{ on := 2, ground := Ground.data }, { on := 5, ground := Ground.gcOnly Departure.lateStores }], guard := none }) (v := ?_) rfl (by kernel_rfl) (fun _ _ _ h => h) (by rfl) ?_ ?_
    rotate_left 1
    · (intro w; go_simp; (try with_reducible rfl))
    try simp only [Act.put, List.setIfInBounds_toArray, List.set_cons_zero, List.set_cons_succ]
    refine Rg.takeS (i := 4) (oi := { dst := some 47, op := Op.load 4 (Operand.tmp 46), type := 4, pos := "vec.go:57", after := #[{ on := 3, ground := Ground.data }, { on := 5, ground := Ground.gcOnly Departure.lateStores }], guard := none }) (v := ?_) rfl (by kernel_rfl) (fun _ _ _ h => h) (by rfl) HS ?_ ?_
    rotate_left 1
    · (intro w hSw; (try dsimp only at hSw); (have hS1 := hSw.2.1); (have hS2 := hSw.2.2); clear hSw; go_simp; (try with_reducible rfl))
    try simp only [Act.put, List.setIfInBounds_toArray, List.set_cons_zero, List.set_cons_succ]
    refine Rg.oneR (i := 5) (oi := { dst := none, op := Op.store 37 (Operand.tmp 4) (Operand.tmp 43), type := 0, pos := "vec.go:57", after := #[{ on := 0, ground := Ground.data }, { on := 0, ground := Ground.phase }, { on := 1, ground := Ground.textOnly Departure.lateStores }, { on := 2, ground := Ground.textOnly Departure.lateStores }, { on := 3, ground := Ground.textOnly Departure.lateStores }, { on := 4, ground := Ground.textOnly Departure.lateStores }], guard := none }) rfl (by kernel_rfl) ?_
    refine Rg.stepS ?_
    intro K hK
    rw [if_pos (by rfl)]
    refine wp_store_row 37 _ _ rfl gr #[.int .i64 px, .int .i64 py, .int .i64 pz] rfl rfl 37 _ HR.out (by kernel_rfl) rfl (by simp [Value.oneCell']) ?_
    have HR := Lib.hid (HR.out.setRow #[.int .i64 px, .int .i64 py, .int .i64 pz])
    have HV := Lib.hid (HV.out.setRow_other (g' := gr) (by omega) #[.int .i64 px, .int .i64 py, .int .i64 pz])
    have HP := Lib.hid (HP.out.setRow_other (g' := gr) (by omega) #[.int .i64 px, .int .i64 py, .int .i64 pz])
    have HK := Lib.hid (Blk.setRow_other HK.out (g' := gr) (by omega) #[.int .i64 px, .int .i64 py, .int .i64 pz])
    have HB := Lib.hid (below_setRow HB.out (show w.heap.size ≤ gr by omega) #[.int .i64 px, .int .i64 py, .int .i64 pz])
    generalize (w1.setRow gr #[.int .i64 px, .int .i64 py, .int .i64 pz]) = w1 at *
    clear HS
    have HS := And.intro HV.out (And.intro ((Blk.cell HP.out 0).trans rfl) ((Blk.cell HK.out 0).trans rfl))
    refine hK.out _ _ HS ?_
    clear hK K
    try simp only [Act.put, List.setIfInBounds_toArray, List.set_cons_zero, List.set_cons_succ]
    refine Rg.takeP (i := 6) (oi := { dst := some 5, op := Op.assign (Operand.tmp 47), type := 4, pos := "vec.go:57", after := #[{ on := 4, ground := Ground.data }, { on := 5, ground := Ground.chain }, { on := 0, ground := Ground.phase }, { on := 1, ground := Ground.phase }, { on := 2, ground := Ground.phase }, { on := 3, ground := Ground.phase }, { on := 4, ground := Ground.phase }, { on := 5, ground := Ground.phase }], guard := none }) (v := ?_) rfl (by kernel_rfl) (fun _ _ _ h => h) (by rfl) ?_ ?_
    rotate_left 1
    · (intro w; go_simp; (try with_reducible rfl))
    try simp only [Act.put, List.setIfInBounds_toArray, List.set_cons_zero, List.set_cons_succ]
    refine Rg.doneR (by kernel_rfl) ?_ _
    refine NoPanic.normal ?_
    clear HS
    go_wp2_with fail
    refine ret_row2 (x := .bool (xb || yb || zb)) rfl rfl rfl HR.out ⟨by rw [Try.underlying37], by kernel_rfl⟩ rfl ?_
    exact ⟨by rw [PX_.out, PY_.out, PZ_.out]; rfl, HB.out⟩
end Go.Proofs.Ytajhkbdaoakogaa.BigW
