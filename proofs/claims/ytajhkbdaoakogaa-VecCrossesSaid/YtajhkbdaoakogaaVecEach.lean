/- Contracts: vec.each, Add, Sub, Scale. -/
import Derived.Test.YtajhkbdaoakogaaVec
import Derived.Test.YtajhkbdaoakogaaSt
import Derived.Deep.CutBlock
import Derived.Deep.DeepCutAuto
namespace Go.Proofs.Ytajhkbdaoakogaa.BigW
open Go.RowKit Go.Proofs.Ytajhkbdaoakogaa.Mem Go.Proofs.Ytajhkbdaoakogaa.BigLaw Go.Proofs.Ytajhkbdaoakogaa.Rws
set_option linter.unusedVariables false
set_option linter.unusedSimpArgs false
/-- three steps of a reckoner, and whether one bent -/
def TwoV (w w' : World) (p q r : Int × Bool) (e : Ending) : Prop := e = .returned (.tuple #[vecV p.1 q.1 r.1, .bool (p.2 || q.2 || r.2)]) ∧ Below w.heap.size w w'

set_option maxRecDepth 100000 in
set_option maxHeartbeats 1000000 in
theorem each_add (ax ay az bx b_y bz : Int) (w : World) (r_ax : In64 ax) (r_ay : In64 ay) (r_az : In64 az) (r_bx : In64 bx) (r_b_y : In64 b_y) (r_bz : In64 bz) :
    Calls Try.prog 56 #[vecV ax ay az, vecV bx b_y bz, .func (.func 57) #[] #[]] w fun e w' => TwoV w w' (fadd ax bx) (fadd ay b_y) (fadd az bz) e := by
  unfold vecV
  have HA := Lib.hid (show Blk ((((w.alloc (.cells #[.int .i64 ax, .int .i64 ay, .int .i64 az] 37)).alloc (.cells #[.int .i64 bx, .int .i64 b_y, .int .i64 bz] 37)).alloc (.cells #[.int .i64 0, .int .i64 0, .int .i64 0] 37)).alloc (.cells #[.bool false] 76)) w.heap.size 37 #[.int .i64 ax, .int .i64 ay, .int .i64 az] from (((Blk.new rfl).alloc _).alloc _).alloc _)
  have HB2 := Lib.hid (show Blk ((((w.alloc (.cells #[.int .i64 ax, .int .i64 ay, .int .i64 az] 37)).alloc (.cells #[.int .i64 bx, .int .i64 b_y, .int .i64 bz] 37)).alloc (.cells #[.int .i64 0, .int .i64 0, .int .i64 0] 37)).alloc (.cells #[.bool false] 76)) (w.heap.size + 1) 37 #[.int .i64 bx, .int .i64 b_y, .int .i64 bz] from ((Blk.new (by simp)).alloc _).alloc _)
  have HR := Lib.hid (show Blk ((((w.alloc (.cells #[.int .i64 ax, .int .i64 ay, .int .i64 az] 37)).alloc (.cells #[.int .i64 bx, .int .i64 b_y, .int .i64 bz] 37)).alloc (.cells #[.int .i64 0, .int .i64 0, .int .i64 0] 37)).alloc (.cells #[.bool false] 76)) (w.heap.size + 1 + 1) 37 #[.int .i64 0, .int .i64 0, .int .i64 0] from (Blk.new (by simp)).alloc _)
  have HK := Lib.hid (show Bent ((((w.alloc (.cells #[.int .i64 ax, .int .i64 ay, .int .i64 az] 37)).alloc (.cells #[.int .i64 bx, .int .i64 b_y, .int .i64 bz] 37)).alloc (.cells #[.int .i64 0, .int .i64 0, .int .i64 0] 37)).alloc (.cells #[.bool false] 76)) 76 (w.heap.size + 1 + 1 + 1) false from Blk.new (by simp))
  have HB := Lib.hid (show Below w.heap.size w ((((w.alloc (.cells #[.int .i64 ax, .int .i64 ay, .int .i64 az] 37)).alloc (.cells #[.int .i64 bx, .int .i64 b_y, .int .i64 bz] 37)).alloc (.cells #[.int .i64 0, .int .i64 0, .int .i64 0] 37)).alloc (.cells #[.bool false] 76)) from ((((Below.refl _ _).alloc (Nat.le_refl _) _).alloc (by simp) _).alloc (by simp; omega) _).alloc (by simp; omega) _)
  obtain ⟨⟨px, xb⟩, h_px⟩ : ∃ res_, fadd ax bx = res_ := ⟨_, rfl⟩
  have PX_ := Lib.hid h_px
  have r_px : In64 px := by have h := fadd_range ax bx; rw [h_px] at h; exact h
  clear h_px
  obtain ⟨⟨py, yb⟩, h_py⟩ : ∃ res_, fadd ay b_y = res_ := ⟨_, rfl⟩
  have PY_ := Lib.hid h_py
  have r_py : In64 py := by have h := fadd_range ay b_y; rw [h_py] at h; exact h
  clear h_py
  obtain ⟨⟨pz, zb⟩, h_pz⟩ : ∃ res_, fadd az bz = res_ := ⟨_, rfl⟩
  have PZ_ := Lib.hid h_pz
  have r_pz : In64 pz := by have h := fadd_range az bz; rw [h_pz] at h; exact h
  clear h_pz
  go_enter Try.func56, Try.ntmps56
  go_upto_region 2 with fail
  generalize ((((w.alloc (.cells #[.int .i64 ax, .int .i64 ay, .int .i64 az] 37)).alloc (.cells #[.int .i64 bx, .int .i64 b_y, .int .i64 bz] 37)).alloc (.cells #[.int .i64 0, .int .i64 0, .int .i64 0] 37)).alloc (.cells #[.bool false] 76)) = w1 at *
  obtain ⟨gk, hgk⟩ : ∃ g, w.heap.size + 1 + 1 + 1 = g := ⟨_, rfl⟩
  rw [hgk] at HK ⊢
  obtain ⟨gr, hgr⟩ : ∃ g, w.heap.size + 1 + 1 = g := ⟨_, rfl⟩
  rw [hgr] at HR ⊢
  obtain ⟨gb, hgb⟩ : ∃ g, w.heap.size + 1 = g := ⟨_, rfl⟩
  rw [hgb] at HB2 ⊢
  go_cut [9] (fun v wx => ∃ gv, v = .pointer (some ⟨gv, 0, none⟩) ∧ gk < gv ∧ Blk wx gv 37 #[.int .i64 px, .int .i64 py, .int .i64 pz] ∧ Bent wx 76 gk (xb || yb || zb) ∧ Blk wx gr 37 #[.int .i64 0, .int .i64 0, .int .i64 0] ∧ Below w.heap.size w wx)
  case first =>
    have HA := Lib.hid HA.out.drew
    have HB2 := Lib.hid HB2.out.drew
    have HR := Lib.hid HR.out.drew
    have HK := Lib.hid (Blk.drew HK.out)
    have HB := Lib.hid HB.out.drew
    have HS := And.intro ((Blk.cell HA.out 0).trans rfl) (And.intro ((Blk.cell HA.out 1).trans rfl) (And.intro ((Blk.cell HA.out 2).trans rfl) (And.intro ((Blk.cell HB2.out 0).trans rfl) (And.intro ((Blk.cell HB2.out 1).trans rfl) ((Blk.cell HB2.out 2).trans rfl)))))
    refine wp_region_noPanic ?_
    refine Rg.beginR [3, 5, 10, 12, 17, 19] (fun w' => w'.cell? ⟨w.heap.size, 0, none⟩ = some (.int .i64 ax) ∧ w'.cell? ⟨w.heap.size, 1, none⟩ = some (.int .i64 ay) ∧ w'.cell? ⟨w.heap.size, 2, none⟩ = some (.int .i64 az) ∧ w'.cell? ⟨gb, 0, none⟩ = some (.int .i64 bx) ∧ w'.cell? ⟨gb, 1, none⟩ = some (.int .i64 b_y) ∧ w'.cell? ⟨gb, 2, none⟩ = some (.int .i64 bz)) (by kernel_rfl) ?_
    generalize w1.drew = w1 at *
    refine Rg.takeP (i := 0) (oi := { dst := some 12, op := Op.move (Operand.tmp 2), type := 73, pos := "vec.go:26", after := #[], guard := none }) (v := ?_) rfl (by kernel_rfl) (fun _ _ _ h => h) (by rfl) ?_ ?_
    rotate_left 1
    · (intro w; go_simp; (try with_reducible rfl))
    try simp only [Act.put, List.setIfInBounds_toArray, List.set_cons_zero, List.set_cons_succ]
    refine Rg.takeP (i := 1) (oi := { dst := some 13, op := Op.move (Operand.tmp 8), type := 74, pos := "vec.go:26", after := #[], guard := none }) (v := ?_) rfl (by kernel_rfl) (fun _ _ _ h => h) (by rfl) ?_ ?_
    rotate_left 1
    · (intro w; go_simp; (try with_reducible rfl))
    try simp only [Act.put, List.setIfInBounds_toArray, List.set_cons_zero, List.set_cons_succ]
    refine Rg.takeP (i := 2) (oi := { dst := some 14, op := Op.fieldAddr 37 (Operand.tmp 3) 0, type := 0, pos := "vec.go:26", after := #[], guard := none }) (v := ?_) rfl (by kernel_rfl) (fun _ _ _ h => h) (by rfl) ?_ ?_
    rotate_left 1
    · (intro w; go_simp; (try with_reducible rfl))
    try simp only [Act.put, List.setIfInBounds_toArray, List.set_cons_zero, List.set_cons_succ]
    refine Rg.takeS (i := 3) (oi := { dst := some 15, op := Op.load 3 (Operand.tmp 14), type := 3, pos := "vec.go:26", after := #[{ on := 2, ground := Ground.data }], guard := none }) (v := ?_) rfl (by kernel_rfl) (fun _ _ _ h => h) (by rfl) HS ?_ ?_
    rotate_left 1
    · (intro w hSw; (try dsimp only at hSw); (try go_split_ands); go_simp; (try with_reducible rfl))
    try simp only [Act.put, List.setIfInBounds_toArray, List.set_cons_zero, List.set_cons_succ]
    refine Rg.takeP (i := 4) (oi := { dst := some 16, op := Op.fieldAddr 37 (Operand.tmp 4) 0, type := 0, pos := "vec.go:26", after := #[], guard := none }) (v := ?_) rfl (by kernel_rfl) (fun _ _ _ h => h) (by rfl) ?_ ?_
    rotate_left 1
    · (intro w; go_simp; (try with_reducible rfl))
    try simp only [Act.put, List.setIfInBounds_toArray, List.set_cons_zero, List.set_cons_succ]
    refine Rg.takeS (i := 5) (oi := { dst := some 17, op := Op.load 3 (Operand.tmp 16), type := 3, pos := "vec.go:26", after := #[{ on := 4, ground := Ground.data }], guard := none }) (v := ?_) rfl (by kernel_rfl) (fun _ _ _ h => h) (by rfl) HS ?_ ?_
    rotate_left 1
    · (intro w hSw; (try dsimp only at hSw); (try go_split_ands); go_simp; (try with_reducible rfl))
    try simp only [Act.put, List.setIfInBounds_toArray, List.set_cons_zero, List.set_cons_succ]
    refine Rg.takeP (i := 7) (oi := { dst := some 19, op := Op.move (Operand.tmp 2), type := 73, pos := "vec.go:26", after := #[], guard := none }) (v := ?_) rfl (by kernel_rfl) (fun _ _ _ h => h) (by rfl) ?_ ?_
    rotate_left 1
    · (intro w; go_simp; (try with_reducible rfl))
    try simp only [Act.put, List.setIfInBounds_toArray, List.set_cons_zero, List.set_cons_succ]
    refine Rg.takeP (i := 8) (oi := { dst := some 20, op := Op.move (Operand.tmp 8), type := 74, pos := "vec.go:26", after := #[], guard := none }) (v := ?_) rfl (by kernel_rfl) (fun _ _ _ h => h) (by rfl) ?_ ?_
    rotate_left 1
    · (intro w; go_simp; (try with_reducible rfl))
    try simp only [Act.put, List.setIfInBounds_toArray, List.set_cons_zero, List.set_cons_succ]
    refine Rg.takeP (i := 9) (oi := { dst := some 21, op := Op.fieldAddr 37 (Operand.tmp 3) 1, type := 0, pos := "vec.go:26", after := #[], guard := none }) (v := ?_) rfl (by kernel_rfl) (fun _ _ _ h => h) (by rfl) ?_ ?_
    rotate_left 1
    · (intro w; go_simp; (try with_reducible rfl))
    try simp only [Act.put, List.setIfInBounds_toArray, List.set_cons_zero, List.set_cons_succ]
    refine Rg.takeS (i := 10) (oi := { dst := some 22, op := Op.load 3 (Operand.tmp 21), type := 3, pos := "vec.go:26", after := #[{ on := 9, ground := Ground.data }], guard := none }) (v := ?_) rfl (by kernel_rfl) (fun _ _ _ h => h) (by rfl) HS ?_ ?_
    rotate_left 1
    · (intro w hSw; (try dsimp only at hSw); (try go_split_ands); go_simp; (try with_reducible rfl))
    try simp only [Act.put, List.setIfInBounds_toArray, List.set_cons_zero, List.set_cons_succ]
    refine Rg.takeP (i := 11) (oi := { dst := some 23, op := Op.fieldAddr 37 (Operand.tmp 4) 1, type := 0, pos := "vec.go:26", after := #[], guard := none }) (v := ?_) rfl (by kernel_rfl) (fun _ _ _ h => h) (by rfl) ?_ ?_
    rotate_left 1
    · (intro w; go_simp; (try with_reducible rfl))
    try simp only [Act.put, List.setIfInBounds_toArray, List.set_cons_zero, List.set_cons_succ]
    refine Rg.takeS (i := 12) (oi := { dst := some 24, op := Op.load 3 (Operand.tmp 23), type := 3, pos := "vec.go:26", after := #[{ on := 11, ground := Ground.data }], guard := none }) (v := ?_) rfl (by kernel_rfl) (fun _ _ _ h => h) (by rfl) HS ?_ ?_
    rotate_left 1
    · (intro w hSw; (try dsimp only at hSw); (try go_split_ands); go_simp; (try with_reducible rfl))
    try simp only [Act.put, List.setIfInBounds_toArray, List.set_cons_zero, List.set_cons_succ]
    refine Rg.takeP (i := 14) (oi := { dst := some 26, op := Op.move (Operand.tmp 2), type := 73, pos := "vec.go:26", after := #[], guard := none }) (v := ?_) rfl (by kernel_rfl) (fun _ _ _ h => h) (by rfl) ?_ ?_
    rotate_left 1
    · (intro w; go_simp; (try with_reducible rfl))
    try simp only [Act.put, List.setIfInBounds_toArray, List.set_cons_zero, List.set_cons_succ]
    refine Rg.takeP (i := 15) (oi := { dst := some 27, op := Op.move (Operand.tmp 8), type := 74, pos := "vec.go:26", after := #[], guard := none }) (v := ?_) rfl (by kernel_rfl) (fun _ _ _ h => h) (by rfl) ?_ ?_
    rotate_left 1
    · (intro w; go_simp; (try with_reducible rfl))
    try simp only [Act.put, List.setIfInBounds_toArray, List.set_cons_zero, List.set_cons_succ]
    refine Rg.takeP (i := 16) (oi := { dst := some 28, op := Op.fieldAddr 37 (Operand.tmp 3) 2, type := 0, pos := "vec.go:26", after := #[], guard := none }) (v := ?_) rfl (by kernel_rfl) (fun _ _ _ h => h) (by rfl) ?_ ?_
    rotate_left 1
    · (intro w; go_simp; (try with_reducible rfl))
    try simp only [Act.put, List.setIfInBounds_toArray, List.set_cons_zero, List.set_cons_succ]
    refine Rg.takeS (i := 17) (oi := { dst := some 29, op := Op.load 3 (Operand.tmp 28), type := 3, pos := "vec.go:26", after := #[{ on := 16, ground := Ground.data }], guard := none }) (v := ?_) rfl (by kernel_rfl) (fun _ _ _ h => h) (by rfl) HS ?_ ?_
    rotate_left 1
    · (intro w hSw; (try dsimp only at hSw); (try go_split_ands); go_simp; (try with_reducible rfl))
    try simp only [Act.put, List.setIfInBounds_toArray, List.set_cons_zero, List.set_cons_succ]
    refine Rg.takeP (i := 18) (oi := { dst := some 30, op := Op.fieldAddr 37 (Operand.tmp 4) 2, type := 0, pos := "vec.go:26", after := #[], guard := none }) (v := ?_) rfl (by kernel_rfl) (fun _ _ _ h => h) (by rfl) ?_ ?_
    rotate_left 1
    · (intro w; go_simp; (try with_reducible rfl))
    try simp only [Act.put, List.setIfInBounds_toArray, List.set_cons_zero, List.set_cons_succ]
    refine Rg.takeS (i := 19) (oi := { dst := some 31, op := Op.load 3 (Operand.tmp 30), type := 3, pos := "vec.go:26", after := #[{ on := 18, ground := Ground.data }], guard := none }) (v := ?_) rfl (by kernel_rfl) (fun _ _ _ h => h) (by rfl) HS ?_ ?_
    rotate_left 1
    · (intro w hSw; (try dsimp only at hSw); (try go_split_ands); go_simp; (try with_reducible rfl))
    try simp only [Act.put, List.setIfInBounds_toArray, List.set_cons_zero, List.set_cons_succ]
    refine Rg.twoR (i := 6) (j := 22) (oi := { dst := some 18, op := Op.call { callee := Callee.value (Operand.tmp 12), args := #[Operand.tmp 13, Operand.tmp 15, Operand.tmp 17], argTypes := #[74, 3, 3] }, type := 3, pos := "vec.go:26", after := #[{ on := 0, ground := Ground.data }, { on := 1, ground := Ground.data }, { on := 3, ground := Ground.data }, { on := 5, ground := Ground.data }], guard := none }) (oj := { dst := some 9, op := Op.alloc 37, type := 0, pos := "vec.go:26", after := #[], guard := none }) (by kernel_rfl) rfl rfl ?_ ?_
    ·
      refine Rg.stepS ?_
      intro K hK
      rw [if_pos (by rfl)]
      go_simp
      go_at_call 57
      refine (vadd_any gk _ ax bx _ HK.out r_ax r_bx).mono ?_
      intro e w1 hc
      rw [PX_.out] at hc
      obtain ⟨rfl, hst, hg⟩ := hc
      dsimp only at hst
      have HK := Lib.hid hst
      have HA := Lib.hid (HA.out.grown hg (neq_of (by omega)))
      have HB2 := Lib.hid (HB2.out.grown hg (neq_of (by omega)))
      have HR := Lib.hid (HR.out.grown hg (neq_of (by omega)))
      have HB := Lib.hid (below_grown HB.out (Nat.le_refl _) hg (fun g e => by injection e with e; omega))
      clear hst hg HS
      have HS := And.intro ((Blk.cell HA.out 0).trans rfl) (And.intro ((Blk.cell HA.out 1).trans rfl) (And.intro ((Blk.cell HA.out 2).trans rfl) (And.intro ((Blk.cell HB2.out 0).trans rfl) (And.intro ((Blk.cell HB2.out 1).trans rfl) ((Blk.cell HB2.out 2).trans rfl)))))
      go_wp2_with fail
      refine hK.out _ _ HS ?_
      clear hK K
      try simp only [Act.put, List.setIfInBounds_toArray, List.set_cons_zero, List.set_cons_succ]
      refine Rg.twoR (i := 13) (j := 22) (oi := { dst := some 25, op := Op.call { callee := Callee.value (Operand.tmp 19), args := #[Operand.tmp 20, Operand.tmp 22, Operand.tmp 24], argTypes := #[74, 3, 3] }, type := 3, pos := "vec.go:26", after := #[{ on := 7, ground := Ground.data }, { on := 8, ground := Ground.data }, { on := 10, ground := Ground.data }, { on := 12, ground := Ground.data }, { on := 6, ground := Ground.chain }], guard := none }) (oj := { dst := some 9, op := Op.alloc 37, type := 0, pos := "vec.go:26", after := #[], guard := none }) (by kernel_rfl) rfl rfl ?_ ?_
      ·
        refine Rg.stepS ?_
        intro K hK
        rw [if_pos (by rfl)]
        go_simp
        go_at_call 57
        refine (vadd_any gk _ ay b_y _ HK.out r_ay r_b_y).mono ?_
        intro e w1 hc
        rw [PY_.out] at hc
        obtain ⟨rfl, hst, hg⟩ := hc
        dsimp only at hst
        have HK := Lib.hid hst
        have HA := Lib.hid (HA.out.grown hg (neq_of (by omega)))
        have HB2 := Lib.hid (HB2.out.grown hg (neq_of (by omega)))
        have HR := Lib.hid (HR.out.grown hg (neq_of (by omega)))
        have HB := Lib.hid (below_grown HB.out (Nat.le_refl _) hg (fun g e => by injection e with e; omega))
        clear hst hg HS
        have HS := And.intro ((Blk.cell HA.out 0).trans rfl) (And.intro ((Blk.cell HA.out 1).trans rfl) (And.intro ((Blk.cell HA.out 2).trans rfl) (And.intro ((Blk.cell HB2.out 0).trans rfl) (And.intro ((Blk.cell HB2.out 1).trans rfl) ((Blk.cell HB2.out 2).trans rfl)))))
        go_wp2_with fail
        refine hK.out _ _ HS ?_
        clear hK K
        try simp only [Act.put, List.setIfInBounds_toArray, List.set_cons_zero, List.set_cons_succ]
        refine Rg.twoR (i := 20) (j := 22) (oi := { dst := some 32, op := Op.call { callee := Callee.value (Operand.tmp 26), args := #[Operand.tmp 27, Operand.tmp 29, Operand.tmp 31], argTypes := #[74, 3, 3] }, type := 3, pos := "vec.go:26", after := #[{ on := 14, ground := Ground.data }, { on := 15, ground := Ground.data }, { on := 17, ground := Ground.data }, { on := 19, ground := Ground.data }, { on := 13, ground := Ground.chain }], guard := none }) (oj := { dst := some 9, op := Op.alloc 37, type := 0, pos := "vec.go:26", after := #[], guard := none }) (by kernel_rfl) rfl rfl ?_ ?_
        ·
          refine Rg.stepF ?_ ?_
          · kernel_rfl
          intro K hK
          rw [if_pos (by rfl)]
          go_simp
          go_at_call 57
          refine (vadd_any gk _ az bz _ HK.out r_az r_bz).mono ?_
          intro e w1 hc
          rw [PZ_.out] at hc
          obtain ⟨rfl, hst, hg⟩ := hc
          dsimp only at hst
          have HK := Lib.hid hst
          have HA := Lib.hid (HA.out.grown hg (neq_of (by omega)))
          have HB2 := Lib.hid (HB2.out.grown hg (neq_of (by omega)))
          have HR := Lib.hid (HR.out.grown hg (neq_of (by omega)))
          have HB := Lib.hid (below_grown HB.out (Nat.le_refl _) hg (fun g e => by injection e with e; omega))
          clear hst hg HS
          have HS := And.intro ((Blk.cell HA.out 0).trans rfl) (And.intro ((Blk.cell HA.out 1).trans rfl) (And.intro ((Blk.cell HA.out 2).trans rfl) (And.intro ((Blk.cell HB2.out 0).trans rfl) (And.intro ((Blk.cell HB2.out 1).trans rfl) ((Blk.cell HB2.out 2).trans rfl)))))
          go_wp2_with fail
          refine hK.out _ _ ?_
          clear hK K
          try simp only [Act.put, List.setIfInBounds_toArray, List.set_cons_zero, List.set_cons_succ]
          refine Rg.takeP (i := 21) (oi := { dst := some 33, op := Op.build 37 #[(0, Operand.tmp 18), (1, Operand.tmp 25), (2, Operand.tmp 32)], type := 37, pos := "vec.go:26", after := #[{ on := 6, ground := Ground.data }, { on := 13, ground := Ground.data }, { on := 20, ground := Ground.data }], guard := none }) (v := ?_) rfl (by kernel_rfl) (fun _ _ _ h => h) (by rfl) ?_ ?_
          rotate_left 1
          · (intro w; go_simp; (try with_reducible rfl))
          try simp only [Act.put, List.setIfInBounds_toArray, List.set_cons_zero, List.set_cons_succ]
          refine Rg.oneR (i := 22) (oi := { dst := some 9, op := Op.alloc 37, type := 0, pos := "vec.go:26", after := #[], guard := none }) rfl (by kernel_rfl) ?_
          refine Rg.stepS ?_
          intro K hK
          go_simp
          have HV := Lib.hid (show Blk (w1.alloc (.cells #[.int .i64 0, .int .i64 0, .int .i64 0] 37)) w1.heap.size 37 #[.int .i64 0, .int .i64 0, .int .i64 0] from Blk.fresh _ _ _)
          have lK := Blk.lt HK.out
          have HA := Lib.hid (HA.out.alloc (.cells #[.int .i64 0, .int .i64 0, .int .i64 0] 37))
          have HB2 := Lib.hid (HB2.out.alloc (.cells #[.int .i64 0, .int .i64 0, .int .i64 0] 37))
          have HR := Lib.hid (HR.out.alloc (.cells #[.int .i64 0, .int .i64 0, .int .i64 0] 37))
          have HK := Lib.hid (Blk.alloc HK.out (.cells #[.int .i64 0, .int .i64 0, .int .i64 0] 37))
          have HB := Lib.hid (HB.out.alloc HB.out.size (.cells #[.int .i64 0, .int .i64 0, .int .i64 0] 37))
          obtain ⟨gv, hgv⟩ : ∃ g, w1.heap.size = g := ⟨_, rfl⟩
          rw [hgv] at HV lK ⊢
          generalize (w1.alloc (.cells #[.int .i64 0, .int .i64 0, .int .i64 0] 37)) = w1 at *
          clear HS
          have HS := And.intro ((Blk.cell HA.out 0).trans rfl) (And.intro ((Blk.cell HA.out 1).trans rfl) (And.intro ((Blk.cell HA.out 2).trans rfl) (And.intro ((Blk.cell HB2.out 0).trans rfl) (And.intro ((Blk.cell HB2.out 1).trans rfl) ((Blk.cell HB2.out 2).trans rfl)))))
          refine hK.out _ _ HS ?_
          clear hK K
          try simp only [Act.put, List.setIfInBounds_toArray, List.set_cons_zero, List.set_cons_succ]
          refine Rg.oneR (i := 23) (oi := { dst := none, op := Op.store 37 (Operand.tmp 9) (Operand.tmp 33), type := 0, pos := "vec.go:26", after := #[{ on := 22, ground := Ground.data }, { on := 21, ground := Ground.data }, { on := 20, ground := Ground.chain }, { on := 0, ground := Ground.phase }, { on := 1, ground := Ground.phase }, { on := 2, ground := Ground.phase }, { on := 3, ground := Ground.phase }, { on := 4, ground := Ground.phase }, { on := 5, ground := Ground.phase }, { on := 6, ground := Ground.phase }, { on := 7, ground := Ground.phase }, { on := 8, ground := Ground.phase }, { on := 9, ground := Ground.phase }, { on := 10, ground := Ground.phase }, { on := 11, ground := Ground.phase }, { on := 12, ground := Ground.phase }, { on := 13, ground := Ground.phase }, { on := 14, ground := Ground.phase }, { on := 15, ground := Ground.phase }, { on := 16, ground := Ground.phase }, { on := 17, ground := Ground.phase }, { on := 18, ground := Ground.phase }, { on := 19, ground := Ground.phase }, { on := 20, ground := Ground.phase }, { on := 21, ground := Ground.phase }, { on := 22, ground := Ground.phase }], guard := none }) rfl (by kernel_rfl) ?_
          refine Rg.stepF ?_ ?_
          · kernel_rfl
          intro K hK
          rw [if_pos (by rfl)]
          refine wp_store_row 37 _ _ rfl gv #[.int .i64 px, .int .i64 py, .int .i64 pz] rfl rfl 37 _ HV.out (by kernel_rfl) rfl (by simp [Value.oneCell']) ?_
          have HV := Lib.hid (HV.out.setRow #[.int .i64 px, .int .i64 py, .int .i64 pz])
          have HR := Lib.hid (HR.out.setRow_other (g' := gv) (by omega) #[.int .i64 px, .int .i64 py, .int .i64 pz])
          have HK := Lib.hid (Blk.setRow_other HK.out (g' := gv) (by omega) #[.int .i64 px, .int .i64 py, .int .i64 pz])
          have HB := Lib.hid (below_setRow HB.out (show w.heap.size ≤ gv by omega) #[.int .i64 px, .int .i64 py, .int .i64 pz])
          generalize (w1.setRow gv #[.int .i64 px, .int .i64 py, .int .i64 pz]) = w1 at *
          refine hK.out _ _ ?_
          clear hK K
          try simp only [Act.put, List.setIfInBounds_toArray, List.set_cons_zero, List.set_cons_succ]
          refine Rg.doneR (by kernel_rfl) ?_ _
          refine NoPanic.normal ?_
          clear HS
          go_wp2_with fail
          go_meet
          exact ⟨_, rfl, by omega, HV.out, by have h := HK.out; rw [Bool.false_or] at h; exact h, HR.out, HB.out⟩
        ·
          refine Rg.stepS ?_
          intro K hK
          go_simp
          have HV := Lib.hid (show Blk (w1.alloc (.cells #[.int .i64 0, .int .i64 0, .int .i64 0] 37)) w1.heap.size 37 #[.int .i64 0, .int .i64 0, .int .i64 0] from Blk.fresh _ _ _)
          have lK := Blk.lt HK.out
          have HA := Lib.hid (HA.out.alloc (.cells #[.int .i64 0, .int .i64 0, .int .i64 0] 37))
          have HB2 := Lib.hid (HB2.out.alloc (.cells #[.int .i64 0, .int .i64 0, .int .i64 0] 37))
          have HR := Lib.hid (HR.out.alloc (.cells #[.int .i64 0, .int .i64 0, .int .i64 0] 37))
          have HK := Lib.hid (Blk.alloc HK.out (.cells #[.int .i64 0, .int .i64 0, .int .i64 0] 37))
          have HB := Lib.hid (HB.out.alloc HB.out.size (.cells #[.int .i64 0, .int .i64 0, .int .i64 0] 37))
          obtain ⟨gv, hgv⟩ : ∃ g, w1.heap.size = g := ⟨_, rfl⟩
          rw [hgv] at HV lK ⊢
          generalize (w1.alloc (.cells #[.int .i64 0, .int .i64 0, .int .i64 0] 37)) = w1 at *
          clear HS
          have HS := And.intro ((Blk.cell HA.out 0).trans rfl) (And.intro ((Blk.cell HA.out 1).trans rfl) (And.intro ((Blk.cell HA.out 2).trans rfl) (And.intro ((Blk.cell HB2.out 0).trans rfl) (And.intro ((Blk.cell HB2.out 1).trans rfl) ((Blk.cell HB2.out 2).trans rfl)))))
          refine hK.out _ _ HS ?_
          clear hK K
          try simp only [Act.put, List.setIfInBounds_toArray, List.set_cons_zero, List.set_cons_succ]
          refine Rg.oneR (i := 20) (oi := { dst := some 32, op := Op.call { callee := Callee.value (Operand.tmp 26), args := #[Operand.tmp 27, Operand.tmp 29, Operand.tmp 31], argTypes := #[74, 3, 3] }, type := 3, pos := "vec.go:26", after := #[{ on := 14, ground := Ground.data }, { on := 15, ground := Ground.data }, { on := 17, ground := Ground.data }, { on := 19, ground := Ground.data }, { on := 13, ground := Ground.chain }], guard := none }) rfl (by kernel_rfl) ?_
          refine Rg.stepF ?_ ?_
          · kernel_rfl
          intro K hK
          rw [if_pos (by rfl)]
          go_simp
          go_at_call 57
          refine (vadd_any gk _ az bz _ HK.out r_az r_bz).mono ?_
          intro e w1 hc
          rw [PZ_.out] at hc
          obtain ⟨rfl, hst, hg⟩ := hc
          dsimp only at hst
          have HK := Lib.hid hst
          have HA := Lib.hid (HA.out.grown hg (neq_of (by omega)))
          have HB2 := Lib.hid (HB2.out.grown hg (neq_of (by omega)))
          have HR := Lib.hid (HR.out.grown hg (neq_of (by omega)))
          have HV := Lib.hid (HV.out.grown hg (neq_of (by omega)))
          have HB := Lib.hid (below_grown HB.out (Nat.le_refl _) hg (fun g e => by injection e with e; omega))
          clear hst hg HS
          have HS := And.intro ((Blk.cell HA.out 0).trans rfl) (And.intro ((Blk.cell HA.out 1).trans rfl) (And.intro ((Blk.cell HA.out 2).trans rfl) (And.intro ((Blk.cell HB2.out 0).trans rfl) (And.intro ((Blk.cell HB2.out 1).trans rfl) ((Blk.cell HB2.out 2).trans rfl)))))
          go_wp2_with fail
          refine hK.out _ _ ?_
          clear hK K
          try simp only [Act.put, List.setIfInBounds_toArray, List.set_cons_zero, List.set_cons_succ]
          refine Rg.takeP (i := 21) (oi := { dst := some 33, op := Op.build 37 #[(0, Operand.tmp 18), (1, Operand.tmp 25), (2, Operand.tmp 32)], type := 37, pos := "vec.go:26", after := #[{ on := 6, ground := Ground.data }, { on := 13, ground := Ground.data }, { on := 20, ground := Ground.data }], guard := none }) (v := ?_) rfl (by kernel_rfl) (fun _ _ _ h => h) (by rfl) ?_ ?_
          rotate_left 1
          · (intro w; go_simp; (try with_reducible rfl))
          try simp only [Act.put, List.setIfInBounds_toArray, List.set_cons_zero, List.set_cons_succ]
          refine Rg.oneR (i := 23) (oi := { dst := none, op := Op.store 37 (Operand.tmp 9) (Operand.tmp 33), type := 0, pos := "vec.go:26", after := #[{ on := 22, ground := Ground.data }, { on := 21, ground := Ground.data }, { on := 20, ground := Ground.chain }, { on := 0, ground := Ground.phase }, { on := 1, ground := Ground.phase }, { on := 2, ground := Ground.phase }, { on := 3, ground := Ground.phase }, { on := 4, ground := Ground.phase }, { on := 5, ground := Ground.phase }, { on := 6, ground := Ground.phase }, { on := 7, ground := Ground.phase }, { on := 8, ground := Ground.phase }, { on := 9, ground := Ground.phase }, { on := 10, ground := Ground.phase }, { on := 11, ground := Ground.phase }, { on := 12, ground := Ground.phase }, { on := 13, ground := Ground.phase }, { on := 14, ground := Ground.phase }, { on := 15, ground := Ground.phase }, { on := 16, ground := Ground.phase }, { on := 17, ground := Ground.phase }, { on := 18, ground := Ground.phase }, { on := 19, ground := Ground.phase }, { on := 20, ground := Ground.phase }, { on := 21, ground := Ground.phase }, { on := 22, ground := Ground.phase }], guard := none }) rfl (by kernel_rfl) ?_
          refine Rg.stepF ?_ ?_
          · kernel_rfl
          intro K hK
          rw [if_pos (by rfl)]
          refine wp_store_row 37 _ _ rfl gv #[.int .i64 px, .int .i64 py, .int .i64 pz] rfl rfl 37 _ HV.out (by kernel_rfl) rfl (by simp [Value.oneCell']) ?_
          have HV := Lib.hid (HV.out.setRow #[.int .i64 px, .int .i64 py, .int .i64 pz])
          have HR := Lib.hid (HR.out.setRow_other (g' := gv) (by omega) #[.int .i64 px, .int .i64 py, .int .i64 pz])
          have HK := Lib.hid (Blk.setRow_other HK.out (g' := gv) (by omega) #[.int .i64 px, .int .i64 py, .int .i64 pz])
          have HB := Lib.hid (below_setRow HB.out (show w.heap.size ≤ gv by omega) #[.int .i64 px, .int .i64 py, .int .i64 pz])
          generalize (w1.setRow gv #[.int .i64 px, .int .i64 py, .int .i64 pz]) = w1 at *
          refine hK.out _ _ ?_
          clear hK K
          try simp only [Act.put, List.setIfInBounds_toArray, List.set_cons_zero, List.set_cons_succ]
          refine Rg.doneR (by kernel_rfl) ?_ _
          refine NoPanic.normal ?_
          clear HS
          go_wp2_with fail
          go_meet
          exact ⟨_, rfl, by omega, HV.out, by have h := HK.out; rw [Bool.false_or] at h; exact h, HR.out, HB.out⟩
      ·
        refine Rg.stepS ?_
        intro K hK
        go_simp
        have HV := Lib.hid (show Blk (w1.alloc (.cells #[.int .i64 0, .int .i64 0, .int .i64 0] 37)) w1.heap.size 37 #[.int .i64 0, .int .i64 0, .int .i64 0] from Blk.fresh _ _ _)
        have lK := Blk.lt HK.out
        have HA := Lib.hid (HA.out.alloc (.cells #[.int .i64 0, .int .i64 0, .int .i64 0] 37))
        have HB2 := Lib.hid (HB2.out.alloc (.cells #[.int .i64 0, .int .i64 0, .int .i64 0] 37))
        have HR := Lib.hid (HR.out.alloc (.cells #[.int .i64 0, .int .i64 0, .int .i64 0] 37))
        have HK := Lib.hid (Blk.alloc HK.out (.cells #[.int .i64 0, .int .i64 0, .int .i64 0] 37))
        have HB := Lib.hid (HB.out.alloc HB.out.size (.cells #[.int .i64 0, .int .i64 0, .int .i64 0] 37))
        obtain ⟨gv, hgv⟩ : ∃ g, w1.heap.size = g := ⟨_, rfl⟩
        rw [hgv] at HV lK ⊢
        generalize (w1.alloc (.cells #[.int .i64 0, .int .i64 0, .int .i64 0] 37)) = w1 at *
        clear HS
        have HS := And.intro ((Blk.cell HA.out 0).trans rfl) (And.intro ((Blk.cell HA.out 1).trans rfl) (And.intro ((Blk.cell HA.out 2).trans rfl) (And.intro ((Blk.cell HB2.out 0).trans rfl) (And.intro ((Blk.cell HB2.out 1).trans rfl) ((Blk.cell HB2.out 2).trans rfl)))))
        refine hK.out _ _ HS ?_
        clear hK K
        try simp only [Act.put, List.setIfInBounds_toArray, List.set_cons_zero, List.set_cons_succ]
        refine Rg.oneR (i := 13) (oi := { dst := some 25, op := Op.call { callee := Callee.value (Operand.tmp 19), args := #[Operand.tmp 20, Operand.tmp 22, Operand.tmp 24], argTypes := #[74, 3, 3] }, type := 3, pos := "vec.go:26", after := #[{ on := 7, ground := Ground.data }, { on := 8, ground := Ground.data }, { on := 10, ground := Ground.data }, { on := 12, ground := Ground.data }, { on := 6, ground := Ground.chain }], guard := none }) rfl (by kernel_rfl) ?_
        refine Rg.stepS ?_
        intro K hK
        rw [if_pos (by rfl)]
        go_simp
        go_at_call 57
        refine (vadd_any gk _ ay b_y _ HK.out r_ay r_b_y).mono ?_
        intro e w1 hc
        rw [PY_.out] at hc
        obtain ⟨rfl, hst, hg⟩ := hc
        dsimp only at hst
        have HK := Lib.hid hst
        have HA := Lib.hid (HA.out.grown hg (neq_of (by omega)))
        have HB2 := Lib.hid (HB2.out.grown hg (neq_of (by omega)))
        have HR := Lib.hid (HR.out.grown hg (neq_of (by omega)))
        have HV := Lib.hid (HV.out.grown hg (neq_of (by omega)))
        have HB := Lib.hid (below_grown HB.out (Nat.le_refl _) hg (fun g e => by injection e with e; omega))
        clear hst hg HS
        have HS := And.intro ((Blk.cell HA.out 0).trans rfl) (And.intro ((Blk.cell HA.out 1).trans rfl) (And.intro ((Blk.cell HA.out 2).trans rfl) (And.intro ((Blk.cell HB2.out 0).trans rfl) (And.intro ((Blk.cell HB2.out 1).trans rfl) ((Blk.cell HB2.out 2).trans rfl)))))
        go_wp2_with fail
        refine hK.out _ _ HS ?_
        clear hK K
        try simp only [Act.put, List.setIfInBounds_toArray, List.set_cons_zero, List.set_cons_succ]
        refine Rg.oneR (i := 20) (oi := { dst := some 32, op := Op.call { callee := Callee.value (Operand.tmp 26), args := #[Operand.tmp 27, Operand.tmp 29, Operand.tmp 31], argTypes := #[74, 3, 3] }, type := 3, pos := "vec.go:26", after := #[{ on := 14, ground := Ground.data }, { on := 15, ground := Ground.data }, { on := 17, ground := Ground.data }, { on := 19, ground := Ground.data }, { on := 13, ground := Ground.chain }], guard := none }) rfl (by kernel_rfl) ?_
        refine Rg.stepF ?_ ?_
        · kernel_rfl
        intro K hK
        rw [if_pos (by rfl)]
        go_simp
        go_at_call 57
        refine (vadd_any gk _ az bz _ HK.out r_az r_bz).mono ?_
        intro e w1 hc
        rw [PZ_.out] at hc
        obtain ⟨rfl, hst, hg⟩ := hc
        dsimp only at hst
        have HK := Lib.hid hst
        have HA := Lib.hid (HA.out.grown hg (neq_of (by omega)))
        have HB2 := Lib.hid (HB2.out.grown hg (neq_of (by omega)))
        have HR := Lib.hid (HR.out.grown hg (neq_of (by omega)))
        have HV := Lib.hid (HV.out.grown hg (neq_of (by omega)))
        have HB := Lib.hid (below_grown HB.out (Nat.le_refl _) hg (fun g e => by injection e with e; omega))
        clear hst hg HS
        have HS := And.intro ((Blk.cell HA.out 0).trans rfl) (And.intro ((Blk.cell HA.out 1).trans rfl) (And.intro ((Blk.cell HA.out 2).trans rfl) (And.intro ((Blk.cell HB2.out 0).trans rfl) (And.intro ((Blk.cell HB2.out 1).trans rfl) ((Blk.cell HB2.out 2).trans rfl)))))
        go_wp2_with fail
        refine hK.out _ _ ?_
        clear hK K
        try simp only [Act.put, List.setIfInBounds_toArray, List.set_cons_zero, List.set_cons_succ]
        refine Rg.takeP (i := 21) (oi := { dst := some 33, op := Op.build 37 #[(0, Operand.tmp 18), (1, Operand.tmp 25), (2, Operand.tmp 32)], type := 37, pos := "vec.go:26", after := #[{ on := 6, ground := Ground.data }, { on := 13, ground := Ground.data }, { on := 20, ground := Ground.data }], guard := none }) (v := ?_) rfl (by kernel_rfl) (fun _ _ _ h => h) (by rfl) ?_ ?_
        rotate_left 1
        · (intro w; go_simp; (try with_reducible rfl))
        try simp only [Act.put, List.setIfInBounds_toArray, List.set_cons_zero, List.set_cons_succ]
        refine Rg.oneR (i := 23) (oi := { dst := none, op := Op.store 37 (Operand.tmp 9) (Operand.tmp 33), type := 0, pos := "vec.go:26", after := #[{ on := 22, ground := Ground.data }, { on := 21, ground := Ground.data }, { on := 20, ground := Ground.chain }, { on := 0, ground := Ground.phase }, { on := 1, ground := Ground.phase }, { on := 2, ground := Ground.phase }, { on := 3, ground := Ground.phase }, { on := 4, ground := Ground.phase }, { on := 5, ground := Ground.phase }, { on := 6, ground := Ground.phase }, { on := 7, ground := Ground.phase }, { on := 8, ground := Ground.phase }, { on := 9, ground := Ground.phase }, { on := 10, ground := Ground.phase }, { on := 11, ground := Ground.phase }, { on := 12, ground := Ground.phase }, { on := 13, ground := Ground.phase }, { on := 14, ground := Ground.phase }, { on := 15, ground := Ground.phase }, { on := 16, ground := Ground.phase }, { on := 17, ground := Ground.phase }, { on := 18, ground := Ground.phase }, { on := 19, ground := Ground.phase }, { on := 20, ground := Ground.phase }, { on := 21, ground := Ground.phase }, { on := 22, ground := Ground.phase }], guard := none }) rfl (by kernel_rfl) ?_
        refine Rg.stepF ?_ ?_
        · kernel_rfl
        intro K hK
        rw [if_pos (by rfl)]
        refine wp_store_row 37 _ _ rfl gv #[.int .i64 px, .int .i64 py, .int .i64 pz] rfl rfl 37 _ HV.out (by kernel_rfl) rfl (by simp [Value.oneCell']) ?_
        have HV := Lib.hid (HV.out.setRow #[.int .i64 px, .int .i64 py, .int .i64 pz])
        have HR := Lib.hid (HR.out.setRow_other (g' := gv) (by omega) #[.int .i64 px, .int .i64 py, .int .i64 pz])
        have HK := Lib.hid (Blk.setRow_other HK.out (g' := gv) (by omega) #[.int .i64 px, .int .i64 py, .int .i64 pz])
        have HB := Lib.hid (below_setRow HB.out (show w.heap.size ≤ gv by omega) #[.int .i64 px, .int .i64 py, .int .i64 pz])
        generalize (w1.setRow gv #[.int .i64 px, .int .i64 py, .int .i64 pz]) = w1 at *
        refine hK.out _ _ ?_
        clear hK K
        try simp only [Act.put, List.setIfInBounds_toArray, List.set_cons_zero, List.set_cons_succ]
        refine Rg.doneR (by kernel_rfl) ?_ _
        refine NoPanic.normal ?_
        clear HS
        go_wp2_with fail
        go_meet
        exact ⟨_, rfl, by omega, HV.out, by have h := HK.out; rw [Bool.false_or] at h; exact h, HR.out, HB.out⟩
    ·
      refine Rg.stepS ?_
      intro K hK
      go_simp
      have HV := Lib.hid (show Blk (w1.alloc (.cells #[.int .i64 0, .int .i64 0, .int .i64 0] 37)) w1.heap.size 37 #[.int .i64 0, .int .i64 0, .int .i64 0] from Blk.fresh _ _ _)
      have lK := Blk.lt HK.out
      have HA := Lib.hid (HA.out.alloc (.cells #[.int .i64 0, .int .i64 0, .int .i64 0] 37))
      have HB2 := Lib.hid (HB2.out.alloc (.cells #[.int .i64 0, .int .i64 0, .int .i64 0] 37))
      have HR := Lib.hid (HR.out.alloc (.cells #[.int .i64 0, .int .i64 0, .int .i64 0] 37))
      have HK := Lib.hid (Blk.alloc HK.out (.cells #[.int .i64 0, .int .i64 0, .int .i64 0] 37))
      have HB := Lib.hid (HB.out.alloc HB.out.size (.cells #[.int .i64 0, .int .i64 0, .int .i64 0] 37))
      obtain ⟨gv, hgv⟩ : ∃ g, w1.heap.size = g := ⟨_, rfl⟩
      rw [hgv] at HV lK ⊢
      generalize (w1.alloc (.cells #[.int .i64 0, .int .i64 0, .int .i64 0] 37)) = w1 at *
      clear HS
      have HS := And.intro ((Blk.cell HA.out 0).trans rfl) (And.intro ((Blk.cell HA.out 1).trans rfl) (And.intro ((Blk.cell HA.out 2).trans rfl) (And.intro ((Blk.cell HB2.out 0).trans rfl) (And.intro ((Blk.cell HB2.out 1).trans rfl) ((Blk.cell HB2.out 2).trans rfl)))))
      refine hK.out _ _ HS ?_
      clear hK K
      try simp only [Act.put, List.setIfInBounds_toArray, List.set_cons_zero, List.set_cons_succ]
      refine Rg.oneR (i := 6) (oi := { dst := some 18, op := Op.call { callee := Callee.value (Operand.tmp 12), args := #[Operand.tmp 13, Operand.tmp 15, Operand.tmp 17], argTypes := #[74, 3, 3] }, type := 3, pos := "vec.go:26", after := #[{ on := 0, ground := Ground.data }, { on := 1, ground := Ground.data }, { on := 3, ground := Ground.data }, { on := 5, ground := Ground.data }], guard := none }) rfl (by kernel_rfl) ?_
      refine Rg.stepS ?_
      intro K hK
      rw [if_pos (by rfl)]
      go_simp
      go_at_call 57
      refine (vadd_any gk _ ax bx _ HK.out r_ax r_bx).mono ?_
      intro e w1 hc
      rw [PX_.out] at hc
      obtain ⟨rfl, hst, hg⟩ := hc
      dsimp only at hst
      have HK := Lib.hid hst
      have HA := Lib.hid (HA.out.grown hg (neq_of (by omega)))
      have HB2 := Lib.hid (HB2.out.grown hg (neq_of (by omega)))
      have HR := Lib.hid (HR.out.grown hg (neq_of (by omega)))
      have HV := Lib.hid (HV.out.grown hg (neq_of (by omega)))
      have HB := Lib.hid (below_grown HB.out (Nat.le_refl _) hg (fun g e => by injection e with e; omega))
      clear hst hg HS
      have HS := And.intro ((Blk.cell HA.out 0).trans rfl) (And.intro ((Blk.cell HA.out 1).trans rfl) (And.intro ((Blk.cell HA.out 2).trans rfl) (And.intro ((Blk.cell HB2.out 0).trans rfl) (And.intro ((Blk.cell HB2.out 1).trans rfl) ((Blk.cell HB2.out 2).trans rfl)))))
      go_wp2_with fail
      refine hK.out _ _ HS ?_
      clear hK K
      try simp only [Act.put, List.setIfInBounds_toArray, List.set_cons_zero, List.set_cons_succ]
      refine Rg.oneR (i := 13) (oi := { dst := some 25, op := Op.call { callee := Callee.value (Operand.tmp 19), args := #[Operand.tmp 20, Operand.tmp 22, Operand.tmp 24], argTypes := #[74, 3, 3] }, type := 3, pos := "vec.go:26", after := #[{ on := 7, ground := Ground.data }, { on := 8, ground := Ground.data }, { on := 10, ground := Ground.data }, { on := 12, ground := Ground.data }, { on := 6, ground := Ground.chain }], guard := none }) rfl (by kernel_rfl) ?_
      refine Rg.stepS ?_
      intro K hK
      rw [if_pos (by rfl)]
      go_simp
      go_at_call 57
      refine (vadd_any gk _ ay b_y _ HK.out r_ay r_b_y).mono ?_
      intro e w1 hc
      rw [PY_.out] at hc
      obtain ⟨rfl, hst, hg⟩ := hc
      dsimp only at hst
      have HK := Lib.hid hst
      have HA := Lib.hid (HA.out.grown hg (neq_of (by omega)))
      have HB2 := Lib.hid (HB2.out.grown hg (neq_of (by omega)))
      have HR := Lib.hid (HR.out.grown hg (neq_of (by omega)))
      have HV := Lib.hid (HV.out.grown hg (neq_of (by omega)))
      have HB := Lib.hid (below_grown HB.out (Nat.le_refl _) hg (fun g e => by injection e with e; omega))
      clear hst hg HS
      have HS := And.intro ((Blk.cell HA.out 0).trans rfl) (And.intro ((Blk.cell HA.out 1).trans rfl) (And.intro ((Blk.cell HA.out 2).trans rfl) (And.intro ((Blk.cell HB2.out 0).trans rfl) (And.intro ((Blk.cell HB2.out 1).trans rfl) ((Blk.cell HB2.out 2).trans rfl)))))
      go_wp2_with fail
      refine hK.out _ _ HS ?_
      clear hK K
      try simp only [Act.put, List.setIfInBounds_toArray, List.set_cons_zero, List.set_cons_succ]
      refine Rg.oneR (i := 20) (oi := { dst := some 32, op := Op.call { callee := Callee.value (Operand.tmp 26), args := #[Operand.tmp 27, Operand.tmp 29, Operand.tmp 31], argTypes := #[74, 3, 3] }, type := 3, pos := "vec.go:26", after := #[{ on := 14, ground := Ground.data }, { on := 15, ground := Ground.data }, { on := 17, ground := Ground.data }, { on := 19, ground := Ground.data }, { on := 13, ground := Ground.chain }], guard := none }) rfl (by kernel_rfl) ?_
      refine Rg.stepF ?_ ?_
      · kernel_rfl
      intro K hK
      rw [if_pos (by rfl)]
      go_simp
      go_at_call 57
      refine (vadd_any gk _ az bz _ HK.out r_az r_bz).mono ?_
      intro e w1 hc
      rw [PZ_.out] at hc
      obtain ⟨rfl, hst, hg⟩ := hc
      dsimp only at hst
      have HK := Lib.hid hst
      have HA := Lib.hid (HA.out.grown hg (neq_of (by omega)))
      have HB2 := Lib.hid (HB2.out.grown hg (neq_of (by omega)))
      have HR := Lib.hid (HR.out.grown hg (neq_of (by omega)))
      have HV := Lib.hid (HV.out.grown hg (neq_of (by omega)))
      have HB := Lib.hid (below_grown HB.out (Nat.le_refl _) hg (fun g e => by injection e with e; omega))
      clear hst hg HS
      have HS := And.intro ((Blk.cell HA.out 0).trans rfl) (And.intro ((Blk.cell HA.out 1).trans rfl) (And.intro ((Blk.cell HA.out 2).trans rfl) (And.intro ((Blk.cell HB2.out 0).trans rfl) (And.intro ((Blk.cell HB2.out 1).trans rfl) ((Blk.cell HB2.out 2).trans rfl)))))
      go_wp2_with fail
      refine hK.out _ _ ?_
      clear hK K
      try simp only [Act.put, List.setIfInBounds_toArray, List.set_cons_zero, List.set_cons_succ]
      refine Rg.takeP (i := 21) (oi := { dst := some 33, op := Op.build 37 #[(0, Operand.tmp 18), (1, Operand.tmp 25), (2, Operand.tmp 32)], type := 37, pos := "vec.go:26", after := #[{ on := 6, ground := Ground.data }, { on := 13, ground := Ground.data }, { on := 20, ground := Ground.data }], guard := none }) (v := ?_) rfl (by kernel_rfl) (fun _ _ _ h => h) (by rfl) ?_ ?_
      rotate_left 1
      · (intro w; go_simp; (try with_reducible rfl))
      try simp only [Act.put, List.setIfInBounds_toArray, List.set_cons_zero, List.set_cons_succ]
      refine Rg.oneR (i := 23) (oi := { dst := none, op := Op.store 37 (Operand.tmp 9) (Operand.tmp 33), type := 0, pos := "vec.go:26", after := #[{ on := 22, ground := Ground.data }, { on := 21, ground := Ground.data }, { on := 20, ground := Ground.chain }, { on := 0, ground := Ground.phase }, { on := 1, ground := Ground.phase }, { on := 2, ground := Ground.phase }, { on := 3, ground := Ground.phase }, { on := 4, ground := Ground.phase }, { on := 5, ground := Ground.phase }, { on := 6, ground := Ground.phase }, { on := 7, ground := Ground.phase }, { on := 8, ground := Ground.phase }, { on := 9, ground := Ground.phase }, { on := 10, ground := Ground.phase }, { on := 11, ground := Ground.phase }, { on := 12, ground := Ground.phase }, { on := 13, ground := Ground.phase }, { on := 14, ground := Ground.phase }, { on := 15, ground := Ground.phase }, { on := 16, ground := Ground.phase }, { on := 17, ground := Ground.phase }, { on := 18, ground := Ground.phase }, { on := 19, ground := Ground.phase }, { on := 20, ground := Ground.phase }, { on := 21, ground := Ground.phase }, { on := 22, ground := Ground.phase }], guard := none }) rfl (by kernel_rfl) ?_
      refine Rg.stepF ?_ ?_
      · kernel_rfl
      intro K hK
      rw [if_pos (by rfl)]
      refine wp_store_row 37 _ _ rfl gv #[.int .i64 px, .int .i64 py, .int .i64 pz] rfl rfl 37 _ HV.out (by kernel_rfl) rfl (by simp [Value.oneCell']) ?_
      have HV := Lib.hid (HV.out.setRow #[.int .i64 px, .int .i64 py, .int .i64 pz])
      have HR := Lib.hid (HR.out.setRow_other (g' := gv) (by omega) #[.int .i64 px, .int .i64 py, .int .i64 pz])
      have HK := Lib.hid (Blk.setRow_other HK.out (g' := gv) (by omega) #[.int .i64 px, .int .i64 py, .int .i64 pz])
      have HB := Lib.hid (below_setRow HB.out (show w.heap.size ≤ gv by omega) #[.int .i64 px, .int .i64 py, .int .i64 pz])
      generalize (w1.setRow gv #[.int .i64 px, .int .i64 py, .int .i64 pz]) = w1 at *
      refine hK.out _ _ ?_
      clear hK K
      try simp only [Act.put, List.setIfInBounds_toArray, List.set_cons_zero, List.set_cons_succ]
      refine Rg.doneR (by kernel_rfl) ?_ _
      refine NoPanic.normal ?_
      clear HS
      go_wp2_with fail
      go_meet
      exact ⟨_, rfl, by omega, HV.out, by have h := HK.out; rw [Bool.false_or] at h; exact h, HR.out, HB.out⟩
  case rest =>
    obtain ⟨gv, rfl, hgv, hv, hk, hr, hb⟩ := hcut
    have HV := Lib.hid hv
    have HK := Lib.hid hk
    have HR := Lib.hid hr
    have HB := Lib.hid hb
    clear hv hk hr hb
    go_upto_region 3 with fail
    have HV := Lib.hid HV.out.drew
    have HK := Lib.hid (Blk.drew HK.out)
    have HR := Lib.hid HR.out.drew
    have HB := Lib.hid HB.out.drew
    have HS := And.intro HV.out ((Blk.cell HK.out 0).trans rfl)
    refine wp_region_noPanic ?_
    refine Rg.beginR [0, 4] (fun w' => Blk w' gv 37 #[.int .i64 px, .int .i64 py, .int .i64 pz] ∧ w'.cell? ⟨gk, 0, none⟩ = some (.bool (xb || yb || zb))) (by kernel_rfl) ?_
    generalize wc.drew = w1 at *
    refine Rg.takeS (i := 0) (oi := { dst := some 34, op := Op.load 37 (Operand.tmp 9), type := 37, pos := "vec.go:27", after := #[], guard := none }) (v := .agg #[.int .i64 px, .int .i64 py, .int .i64 pz]) rfl (by kernel_rfl) (fun _ _ _ h => h) (by rfl) HS ?_ ?_
    · (intro w' hSw; exact exec_load_st 37 (.tmp 9) rfl gv rfl hSw.1 Try.underlying37 rfl (by kernel_rfl))
    try simp only [Act.put, List.setIfInBounds_toArray, List.set_cons_zero, List.set_cons_succ]
    refine Rg.takeP (i := 1) (oi := { dst := some 35, op := Op.move (Operand.tmp 8), type := 74, pos := "vec.go:27", after := #[{ on := 5, ground := Ground.gcOnly Departure.lateStores }], guard := none }) (v := ?_) rfl (by kernel_rfl) (fun _ _ _ h => h) (by rfl) ?_ ?_
    rotate_left 1
    · (intro w; go_simp; (try with_reducible rfl))
    try simp only [Act.put, List.setIfInBounds_toArray, List.set_cons_zero, List.set_cons_succ]
    refine Rg.takeP (i := 2) (oi := { dst := some 36, op := Op.nilCheck (Operand.tmp 35), type := 0, pos := "vec.go:27", after := #[{ on := 1, ground := Ground.data }, { on := 5, ground := Ground.gcOnly Departure.lateStores }], guard := none }) (v := ?_) rfl (by kernel_rfl) (fun _ _ _ h => h) (by rfl) ?_ ?_
    rotate_left 1
    · (intro w; go_simp; (try with_reducible rfl))
    try simp only [Act.put, List.setIfInBounds_toArray, List.set_cons_zero, List.set_cons_succ]
    refine Rg.takeP (i := 3) (oi := { dst := some 37, op := Op.fieldAddr 76 (Operand.tmp 36) 0, type := 0, pos := "vec.go:27", after := #[{ on := 2, ground := Ground.data }, { on := 5, ground := Ground.gcOnly Departure.lateStores }], guard := none }) (v := ?_) rfl (by kernel_rfl) (fun _ _ _ h => h) (by rfl) ?_ ?_
    rotate_left 1
    · (intro w; go_simp; (try with_reducible rfl))
    try simp only [Act.put, List.setIfInBounds_toArray, List.set_cons_zero, List.set_cons_succ]
    refine Rg.takeS (i := 4) (oi := { dst := some 38, op := Op.load 4 (Operand.tmp 37), type := 4, pos := "vec.go:27", after := #[{ on := 3, ground := Ground.data }, { on := 5, ground := Ground.gcOnly Departure.lateStores }], guard := none }) (v := ?_) rfl (by kernel_rfl) (fun _ _ _ h => h) (by rfl) HS ?_ ?_
    rotate_left 1
    · (intro w hSw; (try dsimp only at hSw); (try go_split_ands); go_simp; (try with_reducible rfl))
    try simp only [Act.put, List.setIfInBounds_toArray, List.set_cons_zero, List.set_cons_succ]
    refine Rg.oneR (i := 5) (oi := { dst := none, op := Op.store 37 (Operand.tmp 6) (Operand.tmp 34), type := 0, pos := "vec.go:27", after := #[{ on := 0, ground := Ground.data }, { on := 0, ground := Ground.phase }, { on := 1, ground := Ground.textOnly Departure.lateStores }, { on := 2, ground := Ground.textOnly Departure.lateStores }, { on := 3, ground := Ground.textOnly Departure.lateStores }, { on := 4, ground := Ground.textOnly Departure.lateStores }], guard := none }) rfl (by kernel_rfl) ?_
    refine Rg.stepS ?_
    intro K hK
    rw [if_pos (by rfl)]
    refine wp_store_row 37 _ _ rfl gr #[.int .i64 px, .int .i64 py, .int .i64 pz] rfl rfl 37 _ HR.out (by kernel_rfl) rfl (by simp [Value.oneCell']) ?_
    have HR := Lib.hid (HR.out.setRow #[.int .i64 px, .int .i64 py, .int .i64 pz])
    have HV := Lib.hid (HV.out.setRow_other (g' := gr) (by omega) #[.int .i64 px, .int .i64 py, .int .i64 pz])
    have HK := Lib.hid (Blk.setRow_other HK.out (g' := gr) (by omega) #[.int .i64 px, .int .i64 py, .int .i64 pz])
    have HB := Lib.hid (below_setRow HB.out (show w.heap.size ≤ gr by omega) #[.int .i64 px, .int .i64 py, .int .i64 pz])
    generalize (w1.setRow gr #[.int .i64 px, .int .i64 py, .int .i64 pz]) = w1 at *
    clear HS
    have HS := And.intro HV.out ((Blk.cell HK.out 0).trans rfl)
    refine hK.out _ _ HS ?_
    clear hK K
    try simp only [Act.put, List.setIfInBounds_toArray, List.set_cons_zero, List.set_cons_succ]
    refine Rg.takeP (i := 6) (oi := { dst := some 7, op := Op.assign (Operand.tmp 38), type := 4, pos := "vec.go:27", after := #[{ on := 4, ground := Ground.data }, { on := 5, ground := Ground.chain }, { on := 0, ground := Ground.phase }, { on := 1, ground := Ground.phase }, { on := 2, ground := Ground.phase }, { on := 3, ground := Ground.phase }, { on := 4, ground := Ground.phase }, { on := 5, ground := Ground.phase }], guard := none }) (v := ?_) rfl (by kernel_rfl) (fun _ _ _ h => h) (by rfl) ?_ ?_
    rotate_left 1
    · (intro w; go_simp; (try with_reducible rfl))
    try simp only [Act.put, List.setIfInBounds_toArray, List.set_cons_zero, List.set_cons_succ]
    refine Rg.doneR (by kernel_rfl) ?_ _
    refine NoPanic.normal ?_
    clear HS
    go_wp2_with fail
    refine ret_row2 (x := .bool (xb || yb || zb)) rfl rfl rfl HR.out ⟨by rw [Try.underlying37], by kernel_rfl⟩ rfl ?_
    exact ⟨by rw [PX_.out, PY_.out, PZ_.out]; rfl, HB.out⟩

set_option maxRecDepth 100000 in
set_option maxHeartbeats 1000000 in
theorem each_sub (ax ay az bx b_y bz : Int) (w : World) (r_ax : In64 ax) (r_ay : In64 ay) (r_az : In64 az) (r_bx : In64 bx) (r_b_y : In64 b_y) (r_bz : In64 bz) :
    Calls Try.prog 56 #[vecV ax ay az, vecV bx b_y bz, .func (.func 58) #[] #[]] w fun e w' => TwoV w w' (fsub ax bx) (fsub ay b_y) (fsub az bz) e := by
  unfold vecV
  have HA := Lib.hid (show Blk ((((w.alloc (.cells #[.int .i64 ax, .int .i64 ay, .int .i64 az] 37)).alloc (.cells #[.int .i64 bx, .int .i64 b_y, .int .i64 bz] 37)).alloc (.cells #[.int .i64 0, .int .i64 0, .int .i64 0] 37)).alloc (.cells #[.bool false] 76)) w.heap.size 37 #[.int .i64 ax, .int .i64 ay, .int .i64 az] from (((Blk.new rfl).alloc _).alloc _).alloc _)
  have HB2 := Lib.hid (show Blk ((((w.alloc (.cells #[.int .i64 ax, .int .i64 ay, .int .i64 az] 37)).alloc (.cells #[.int .i64 bx, .int .i64 b_y, .int .i64 bz] 37)).alloc (.cells #[.int .i64 0, .int .i64 0, .int .i64 0] 37)).alloc (.cells #[.bool false] 76)) (w.heap.size + 1) 37 #[.int .i64 bx, .int .i64 b_y, .int .i64 bz] from ((Blk.new (by simp)).alloc _).alloc _)
  have HR := Lib.hid (show Blk ((((w.alloc (.cells #[.int .i64 ax, .int .i64 ay, .int .i64 az] 37)).alloc (.cells #[.int .i64 bx, .int .i64 b_y, .int .i64 bz] 37)).alloc (.cells #[.int .i64 0, .int .i64 0, .int .i64 0] 37)).alloc (.cells #[.bool false] 76)) (w.heap.size + 1 + 1) 37 #[.int .i64 0, .int .i64 0, .int .i64 0] from (Blk.new (by simp)).alloc _)
  have HK := Lib.hid (show Bent ((((w.alloc (.cells #[.int .i64 ax, .int .i64 ay, .int .i64 az] 37)).alloc (.cells #[.int .i64 bx, .int .i64 b_y, .int .i64 bz] 37)).alloc (.cells #[.int .i64 0, .int .i64 0, .int .i64 0] 37)).alloc (.cells #[.bool false] 76)) 76 (w.heap.size + 1 + 1 + 1) false from Blk.new (by simp))
  have HB := Lib.hid (show Below w.heap.size w ((((w.alloc (.cells #[.int .i64 ax, .int .i64 ay, .int .i64 az] 37)).alloc (.cells #[.int .i64 bx, .int .i64 b_y, .int .i64 bz] 37)).alloc (.cells #[.int .i64 0, .int .i64 0, .int .i64 0] 37)).alloc (.cells #[.bool false] 76)) from ((((Below.refl _ _).alloc (Nat.le_refl _) _).alloc (by simp) _).alloc (by simp; omega) _).alloc (by simp; omega) _)
  obtain ⟨⟨px, xb⟩, h_px⟩ : ∃ res_, fsub ax bx = res_ := ⟨_, rfl⟩
  have PX_ := Lib.hid h_px
  have r_px : In64 px := by have h := fsub_range ax bx; rw [h_px] at h; exact h
  clear h_px
  obtain ⟨⟨py, yb⟩, h_py⟩ : ∃ res_, fsub ay b_y = res_ := ⟨_, rfl⟩
  have PY_ := Lib.hid h_py
  have r_py : In64 py := by have h := fsub_range ay b_y; rw [h_py] at h; exact h
  clear h_py
  obtain ⟨⟨pz, zb⟩, h_pz⟩ : ∃ res_, fsub az bz = res_ := ⟨_, rfl⟩
  have PZ_ := Lib.hid h_pz
  have r_pz : In64 pz := by have h := fsub_range az bz; rw [h_pz] at h; exact h
  clear h_pz
  go_enter Try.func56, Try.ntmps56
  go_upto_region 2 with fail
  generalize ((((w.alloc (.cells #[.int .i64 ax, .int .i64 ay, .int .i64 az] 37)).alloc (.cells #[.int .i64 bx, .int .i64 b_y, .int .i64 bz] 37)).alloc (.cells #[.int .i64 0, .int .i64 0, .int .i64 0] 37)).alloc (.cells #[.bool false] 76)) = w1 at *
  obtain ⟨gk, hgk⟩ : ∃ g, w.heap.size + 1 + 1 + 1 = g := ⟨_, rfl⟩
  rw [hgk] at HK ⊢
  obtain ⟨gr, hgr⟩ : ∃ g, w.heap.size + 1 + 1 = g := ⟨_, rfl⟩
  rw [hgr] at HR ⊢
  obtain ⟨gb, hgb⟩ : ∃ g, w.heap.size + 1 = g := ⟨_, rfl⟩
  rw [hgb] at HB2 ⊢
  go_cut [9] (fun v wx => ∃ gv, v = .pointer (some ⟨gv, 0, none⟩) ∧ gk < gv ∧ Blk wx gv 37 #[.int .i64 px, .int .i64 py, .int .i64 pz] ∧ Bent wx 76 gk (xb || yb || zb) ∧ Blk wx gr 37 #[.int .i64 0, .int .i64 0, .int .i64 0] ∧ Below w.heap.size w wx)
  case first =>
    have HA := Lib.hid HA.out.drew
    have HB2 := Lib.hid HB2.out.drew
    have HR := Lib.hid HR.out.drew
    have HK := Lib.hid (Blk.drew HK.out)
    have HB := Lib.hid HB.out.drew
    have HS := And.intro ((Blk.cell HA.out 0).trans rfl) (And.intro ((Blk.cell HA.out 1).trans rfl) (And.intro ((Blk.cell HA.out 2).trans rfl) (And.intro ((Blk.cell HB2.out 0).trans rfl) (And.intro ((Blk.cell HB2.out 1).trans rfl) ((Blk.cell HB2.out 2).trans rfl)))))
    refine wp_region_noPanic ?_
    refine Rg.beginR [3, 5, 10, 12, 17, 19] (fun w' => w'.cell? ⟨w.heap.size, 0, none⟩ = some (.int .i64 ax) ∧ w'.cell? ⟨w.heap.size, 1, none⟩ = some (.int .i64 ay) ∧ w'.cell? ⟨w.heap.size, 2, none⟩ = some (.int .i64 az) ∧ w'.cell? ⟨gb, 0, none⟩ = some (.int .i64 bx) ∧ w'.cell? ⟨gb, 1, none⟩ = some (.int .i64 b_y) ∧ w'.cell? ⟨gb, 2, none⟩ = some (.int .i64 bz)) (by kernel_rfl) ?_
    generalize w1.drew = w1 at *
    refine Rg.takeP (i := 0) (oi := { dst := some 12, op := Op.move (Operand.tmp 2), type := 73, pos := "vec.go:26", after := #[], guard := none }) (v := ?_) rfl (by kernel_rfl) (fun _ _ _ h => h) (by rfl) ?_ ?_
    rotate_left 1
    · (intro w; go_simp; (try with_reducible rfl))
    try simp only [Act.put, List.setIfInBounds_toArray, List.set_cons_zero, List.set_cons_succ]
    refine Rg.takeP (i := 1) (oi := { dst := some 13, op := Op.move (Operand.tmp 8), type := 74, pos := "vec.go:26", after := #[], guard := none }) (v := ?_) rfl (by kernel_rfl) (fun _ _ _ h => h) (by rfl) ?_ ?_
    rotate_left 1
    · (intro w; go_simp; (try with_reducible rfl))
    try simp only [Act.put, List.setIfInBounds_toArray, List.set_cons_zero, List.set_cons_succ]
    refine Rg.takeP (i := 2) (oi := { dst := some 14, op := Op.fieldAddr 37 (Operand.tmp 3) 0, type := 0, pos := "vec.go:26", after := #[], guard := none }) (v := ?_) rfl (by kernel_rfl) (fun _ _ _ h => h) (by rfl) ?_ ?_
    rotate_left 1
    · (intro w; go_simp; (try with_reducible rfl))
    try simp only [Act.put, List.setIfInBounds_toArray, List.set_cons_zero, List.set_cons_succ]
    refine Rg.takeS (i := 3) (oi := { dst := some 15, op := Op.load 3 (Operand.tmp 14), type := 3, pos := "vec.go:26", after := #[{ on := 2, ground := Ground.data }], guard := none }) (v := ?_) rfl (by kernel_rfl) (fun _ _ _ h => h) (by rfl) HS ?_ ?_
    rotate_left 1
    · (intro w hSw; (try dsimp only at hSw); (try go_split_ands); go_simp; (try with_reducible rfl))
    try simp only [Act.put, List.setIfInBounds_toArray, List.set_cons_zero, List.set_cons_succ]
    refine Rg.takeP (i := 4) (oi := { dst := some 16, op := Op.fieldAddr 37 (Operand.tmp 4) 0, type := 0, pos := "vec.go:26", after := #[], guard := none }) (v := ?_) rfl (by kernel_rfl) (fun _ _ _ h => h) (by rfl) ?_ ?_
    rotate_left 1
    · (intro w; go_simp; (try with_reducible rfl))
    try simp only [Act.put, List.setIfInBounds_toArray, List.set_cons_zero, List.set_cons_succ]
    refine Rg.takeS (i := 5) (oi := { dst := some 17, op := Op.load 3 (Operand.tmp 16), type := 3, pos := "vec.go:26", after := #[{ on := 4, ground := Ground.data }], guard := none }) (v := ?_) rfl (by kernel_rfl) (fun _ _ _ h => h) (by rfl) HS ?_ ?_
    rotate_left 1
    · (intro w hSw; (try dsimp only at hSw); (try go_split_ands); go_simp; (try with_reducible rfl))
    try simp only [Act.put, List.setIfInBounds_toArray, List.set_cons_zero, List.set_cons_succ]
    refine Rg.takeP (i := 7) (oi := { dst := some 19, op := Op.move (Operand.tmp 2), type := 73, pos := "vec.go:26", after := #[], guard := none }) (v := ?_) rfl (by kernel_rfl) (fun _ _ _ h => h) (by rfl) ?_ ?_
    rotate_left 1
    · (intro w; go_simp; (try with_reducible rfl))
    try simp only [Act.put, List.setIfInBounds_toArray, List.set_cons_zero, List.set_cons_succ]
    refine Rg.takeP (i := 8) (oi := { dst := some 20, op := Op.move (Operand.tmp 8), type := 74, pos := "vec.go:26", after := #[], guard := none }) (v := ?_) rfl (by kernel_rfl) (fun _ _ _ h => h) (by rfl) ?_ ?_
    rotate_left 1
    · (intro w; go_simp; (try with_reducible rfl))
    try simp only [Act.put, List.setIfInBounds_toArray, List.set_cons_zero, List.set_cons_succ]
    refine Rg.takeP (i := 9) (oi := { dst := some 21, op := Op.fieldAddr 37 (Operand.tmp 3) 1, type := 0, pos := "vec.go:26", after := #[], guard := none }) (v := ?_) rfl (by kernel_rfl) (fun _ _ _ h => h) (by rfl) ?_ ?_
    rotate_left 1
    · (intro w; go_simp; (try with_reducible rfl))
    try simp only [Act.put, List.setIfInBounds_toArray, List.set_cons_zero, List.set_cons_succ]
    refine Rg.takeS (i := 10) (oi := { dst := some 22, op := Op.load 3 (Operand.tmp 21), type := 3, pos := "vec.go:26", after := #[{ on := 9, ground := Ground.data }], guard := none }) (v := ?_) rfl (by kernel_rfl) (fun _ _ _ h => h) (by rfl) HS ?_ ?_
    rotate_left 1
    · (intro w hSw; (try dsimp only at hSw); (try go_split_ands); go_simp; (try with_reducible rfl))
    try simp only [Act.put, List.setIfInBounds_toArray, List.set_cons_zero, List.set_cons_succ]
    refine Rg.takeP (i := 11) (oi := { dst := some 23, op := Op.fieldAddr 37 (Operand.tmp 4) 1, type := 0, pos := "vec.go:26", after := #[], guard := none }) (v := ?_) rfl (by kernel_rfl) (fun _ _ _ h => h) (by rfl) ?_ ?_
    rotate_left 1
    · (intro w; go_simp; (try with_reducible rfl))
    try simp only [Act.put, List.setIfInBounds_toArray, List.set_cons_zero, List.set_cons_succ]
    refine Rg.takeS (i := 12) (oi := { dst := some 24, op := Op.load 3 (Operand.tmp 23), type := 3, pos := "vec.go:26", after := #[{ on := 11, ground := Ground.data }], guard := none }) (v := ?_) rfl (by kernel_rfl) (fun _ _ _ h => h) (by rfl) HS ?_ ?_
    rotate_left 1
    · (intro w hSw; (try dsimp only at hSw); (try go_split_ands); go_simp; (try with_reducible rfl))
    try simp only [Act.put, List.setIfInBounds_toArray, List.set_cons_zero, List.set_cons_succ]
    refine Rg.takeP (i := 14) (oi := { dst := some 26, op := Op.move (Operand.tmp 2), type := 73, pos := "vec.go:26", after := #[], guard := none }) (v := ?_) rfl (by kernel_rfl) (fun _ _ _ h => h) (by rfl) ?_ ?_
    rotate_left 1
    · (intro w; go_simp; (try with_reducible rfl))
    try simp only [Act.put, List.setIfInBounds_toArray, List.set_cons_zero, List.set_cons_succ]
    refine Rg.takeP (i := 15) (oi := { dst := some 27, op := Op.move (Operand.tmp 8), type := 74, pos := "vec.go:26", after := #[], guard := none }) (v := ?_) rfl (by kernel_rfl) (fun _ _ _ h => h) (by rfl) ?_ ?_
    rotate_left 1
    · (intro w; go_simp; (try with_reducible rfl))
    try simp only [Act.put, List.setIfInBounds_toArray, List.set_cons_zero, List.set_cons_succ]
    refine Rg.takeP (i := 16) (oi := { dst := some 28, op := Op.fieldAddr 37 (Operand.tmp 3) 2, type := 0, pos := "vec.go:26", after := #[], guard := none }) (v := ?_) rfl (by kernel_rfl) (fun _ _ _ h => h) (by rfl) ?_ ?_
    rotate_left 1
    · (intro w; go_simp; (try with_reducible rfl))
    try simp only [Act.put, List.setIfInBounds_toArray, List.set_cons_zero, List.set_cons_succ]
    refine Rg.takeS (i := 17) (oi := { dst := some 29, op := Op.load 3 (Operand.tmp 28), type := 3, pos := "vec.go:26", after := #[{ on := 16, ground := Ground.data }], guard := none }) (v := ?_) rfl (by kernel_rfl) (fun _ _ _ h => h) (by rfl) HS ?_ ?_
    rotate_left 1
    · (intro w hSw; (try dsimp only at hSw); (try go_split_ands); go_simp; (try with_reducible rfl))
    try simp only [Act.put, List.setIfInBounds_toArray, List.set_cons_zero, List.set_cons_succ]
    refine Rg.takeP (i := 18) (oi := { dst := some 30, op := Op.fieldAddr 37 (Operand.tmp 4) 2, type := 0, pos := "vec.go:26", after := #[], guard := none }) (v := ?_) rfl (by kernel_rfl) (fun _ _ _ h => h) (by rfl) ?_ ?_
    rotate_left 1
    · (intro w; go_simp; (try with_reducible rfl))
    try simp only [Act.put, List.setIfInBounds_toArray, List.set_cons_zero, List.set_cons_succ]
    refine Rg.takeS (i := 19) (oi := { dst := some 31, op := Op.load 3 (Operand.tmp 30), type := 3, pos := "vec.go:26", after := #[{ on := 18, ground := Ground.data }], guard := none }) (v := ?_) rfl (by kernel_rfl) (fun _ _ _ h => h) (by rfl) HS ?_ ?_
    rotate_left 1
    · (intro w hSw; (try dsimp only at hSw); (try go_split_ands); go_simp; (try with_reducible rfl))
    try simp only [Act.put, List.setIfInBounds_toArray, List.set_cons_zero, List.set_cons_succ]
    refine Rg.twoR (i := 6) (j := 22) (oi := { dst := some 18, op := Op.call { callee := Callee.value (Operand.tmp 12), args := #[Operand.tmp 13, Operand.tmp 15, Operand.tmp 17], argTypes := #[74, 3, 3] }, type := 3, pos := "vec.go:26", after := #[{ on := 0, ground := Ground.data }, { on := 1, ground := Ground.data }, { on := 3, ground := Ground.data }, { on := 5, ground := Ground.data }], guard := none }) (oj := { dst := some 9, op := Op.alloc 37, type := 0, pos := "vec.go:26", after := #[], guard := none }) (by kernel_rfl) rfl rfl ?_ ?_
    ·
      refine Rg.stepS ?_
      intro K hK
      rw [if_pos (by rfl)]
      go_simp
      go_at_call 58
      refine (vsub_any gk _ ax bx _ HK.out r_ax r_bx).mono ?_
      intro e w1 hc
      rw [PX_.out] at hc
      obtain ⟨rfl, hst, hg⟩ := hc
      dsimp only at hst
      have HK := Lib.hid hst
      have HA := Lib.hid (HA.out.grown hg (neq_of (by omega)))
      have HB2 := Lib.hid (HB2.out.grown hg (neq_of (by omega)))
      have HR := Lib.hid (HR.out.grown hg (neq_of (by omega)))
      have HB := Lib.hid (below_grown HB.out (Nat.le_refl _) hg (fun g e => by injection e with e; omega))
      clear hst hg HS
      have HS := And.intro ((Blk.cell HA.out 0).trans rfl) (And.intro ((Blk.cell HA.out 1).trans rfl) (And.intro ((Blk.cell HA.out 2).trans rfl) (And.intro ((Blk.cell HB2.out 0).trans rfl) (And.intro ((Blk.cell HB2.out 1).trans rfl) ((Blk.cell HB2.out 2).trans rfl)))))
      go_wp2_with fail
      refine hK.out _ _ HS ?_
      clear hK K
      try simp only [Act.put, List.setIfInBounds_toArray, List.set_cons_zero, List.set_cons_succ]
      refine Rg.twoR (i := 13) (j := 22) (oi := { dst := some 25, op := Op.call { callee := Callee.value (Operand.tmp 19), args := #[Operand.tmp 20, Operand.tmp 22, Operand.tmp 24], argTypes := #[74, 3, 3] }, type := 3, pos := "vec.go:26", after := #[{ on := 7, ground := Ground.data }, { on := 8, ground := Ground.data }, { on := 10, ground := Ground.data }, { on := 12, ground := Ground.data }, { on := 6, ground := Ground.chain }], guard := none }) (oj := { dst := some 9, op := Op.alloc 37, type := 0, pos := "vec.go:26", after := #[], guard := none }) (by kernel_rfl) rfl rfl ?_ ?_
      ·
        refine Rg.stepS ?_
        intro K hK
        rw [if_pos (by rfl)]
        go_simp
        go_at_call 58
        refine (vsub_any gk _ ay b_y _ HK.out r_ay r_b_y).mono ?_
        intro e w1 hc
        rw [PY_.out] at hc
        obtain ⟨rfl, hst, hg⟩ := hc
        dsimp only at hst
        have HK := Lib.hid hst
        have HA := Lib.hid (HA.out.grown hg (neq_of (by omega)))
        have HB2 := Lib.hid (HB2.out.grown hg (neq_of (by omega)))
        have HR := Lib.hid (HR.out.grown hg (neq_of (by omega)))
        have HB := Lib.hid (below_grown HB.out (Nat.le_refl _) hg (fun g e => by injection e with e; omega))
        clear hst hg HS
        have HS := And.intro ((Blk.cell HA.out 0).trans rfl) (And.intro ((Blk.cell HA.out 1).trans rfl) (And.intro ((Blk.cell HA.out 2).trans rfl) (And.intro ((Blk.cell HB2.out 0).trans rfl) (And.intro ((Blk.cell HB2.out 1).trans rfl) ((Blk.cell HB2.out 2).trans rfl)))))
        go_wp2_with fail
        refine hK.out _ _ HS ?_
        clear hK K
        try simp only [Act.put, List.setIfInBounds_toArray, List.set_cons_zero, List.set_cons_succ]
        refine Rg.twoR (i := 20) (j := 22) (oi := { dst := some 32, op := Op.call { callee := Callee.value (Operand.tmp 26), args := #[Operand.tmp 27, Operand.tmp 29, Operand.tmp 31], argTypes := #[74, 3, 3] }, type := 3, pos := "vec.go:26", after := #[{ on := 14, ground := Ground.data }, { on := 15, ground := Ground.data }, { on := 17, ground := Ground.data }, { on := 19, ground := Ground.data }, { on := 13, ground := Ground.chain }], guard := none }) (oj := { dst := some 9, op := Op.alloc 37, type := 0, pos := "vec.go:26", after := #[], guard := none }) (by kernel_rfl) rfl rfl ?_ ?_
        ·
          refine Rg.stepF ?_ ?_
          · kernel_rfl
          intro K hK
          rw [if_pos (by rfl)]
          go_simp
          go_at_call 58
          refine (vsub_any gk _ az bz _ HK.out r_az r_bz).mono ?_
          intro e w1 hc
          rw [PZ_.out] at hc
          obtain ⟨rfl, hst, hg⟩ := hc
          dsimp only at hst
          have HK := Lib.hid hst
          have HA := Lib.hid (HA.out.grown hg (neq_of (by omega)))
          have HB2 := Lib.hid (HB2.out.grown hg (neq_of (by omega)))
          have HR := Lib.hid (HR.out.grown hg (neq_of (by omega)))
          have HB := Lib.hid (below_grown HB.out (Nat.le_refl _) hg (fun g e => by injection e with e; omega))
          clear hst hg HS
          have HS := And.intro ((Blk.cell HA.out 0).trans rfl) (And.intro ((Blk.cell HA.out 1).trans rfl) (And.intro ((Blk.cell HA.out 2).trans rfl) (And.intro ((Blk.cell HB2.out 0).trans rfl) (And.intro ((Blk.cell HB2.out 1).trans rfl) ((Blk.cell HB2.out 2).trans rfl)))))
          go_wp2_with fail
          refine hK.out _ _ ?_
          clear hK K
          try simp only [Act.put, List.setIfInBounds_toArray, List.set_cons_zero, List.set_cons_succ]
          refine Rg.takeP (i := 21) (oi := { dst := some 33, op := Op.build 37 #[(0, Operand.tmp 18), (1, Operand.tmp 25), (2, Operand.tmp 32)], type := 37, pos := "vec.go:26", after := #[{ on := 6, ground := Ground.data }, { on := 13, ground := Ground.data }, { on := 20, ground := Ground.data }], guard := none }) (v := ?_) rfl (by kernel_rfl) (fun _ _ _ h => h) (by rfl) ?_ ?_
          rotate_left 1
          · (intro w; go_simp; (try with_reducible rfl))
          try simp only [Act.put, List.setIfInBounds_toArray, List.set_cons_zero, List.set_cons_succ]
          refine Rg.oneR (i := 22) (oi := { dst := some 9, op := Op.alloc 37, type := 0, pos := "vec.go:26", after := #[], guard := none }) rfl (by kernel_rfl) ?_
          refine Rg.stepS ?_
          intro K hK
          go_simp
          have HV := Lib.hid (show Blk (w1.alloc (.cells #[.int .i64 0, .int .i64 0, .int .i64 0] 37)) w1.heap.size 37 #[.int .i64 0, .int .i64 0, .int .i64 0] from Blk.fresh _ _ _)
          have lK := Blk.lt HK.out
          have HA := Lib.hid (HA.out.alloc (.cells #[.int .i64 0, .int .i64 0, .int .i64 0] 37))
          have HB2 := Lib.hid (HB2.out.alloc (.cells #[.int .i64 0, .int .i64 0, .int .i64 0] 37))
          have HR := Lib.hid (HR.out.alloc (.cells #[.int .i64 0, .int .i64 0, .int .i64 0] 37))
          have HK := Lib.hid (Blk.alloc HK.out (.cells #[.int .i64 0, .int .i64 0, .int .i64 0] 37))
          have HB := Lib.hid (HB.out.alloc HB.out.size (.cells #[.int .i64 0, .int .i64 0, .int .i64 0] 37))
          obtain ⟨gv, hgv⟩ : ∃ g, w1.heap.size = g := ⟨_, rfl⟩
          rw [hgv] at HV lK ⊢
          generalize (w1.alloc (.cells #[.int .i64 0, .int .i64 0, .int .i64 0] 37)) = w1 at *
          clear HS
          have HS := And.intro ((Blk.cell HA.out 0).trans rfl) (And.intro ((Blk.cell HA.out 1).trans rfl) (And.intro ((Blk.cell HA.out 2).trans rfl) (And.intro ((Blk.cell HB2.out 0).trans rfl) (And.intro ((Blk.cell HB2.out 1).trans rfl) ((Blk.cell HB2.out 2).trans rfl)))))
          refine hK.out _ _ HS ?_
          clear hK K
          try simp only [Act.put, List.setIfInBounds_toArray, List.set_cons_zero, List.set_cons_succ]
          refine Rg.oneR (i := 23) (oi := { dst := none, op := Op.store 37 (Operand.tmp 9) (Operand.tmp 33), type := 0, pos := "vec.go:26", after := #[{ on := 22, ground := Ground.data }, { on := 21, ground := Ground.data }, { on := 20, ground := Ground.chain }, { on := 0, ground := Ground.phase }, { on := 1, ground := Ground.phase }, { on := 2, ground := Ground.phase }, { on := 3, ground := Ground.phase }, { on := 4, ground := Ground.phase }, { on := 5, ground := Ground.phase }, { on := 6, ground := Ground.phase }, { on := 7, ground := Ground.phase }, { on := 8, ground := Ground.phase }, { on := 9, ground := Ground.phase }, { on := 10, ground := Ground.phase }, { on := 11, ground := Ground.phase }, { on := 12, ground := Ground.phase }, { on := 13, ground := Ground.phase }, { on := 14, ground := Ground.phase }, { on := 15, ground := Ground.phase }, { on := 16, ground := Ground.phase }, { on := 17, ground := Ground.phase }, { on := 18, ground := Ground.phase }, { on := 19, ground := Ground.phase }, { on := 20, ground := Ground.phase }, { on := 21, ground := Ground.phase }, { on := 22, ground := Ground.phase }], guard := none }) rfl (by kernel_rfl) ?_
          refine Rg.stepF ?_ ?_
          · kernel_rfl
          intro K hK
          rw [if_pos (by rfl)]
          refine wp_store_row 37 _ _ rfl gv #[.int .i64 px, .int .i64 py, .int .i64 pz] rfl rfl 37 _ HV.out (by kernel_rfl) rfl (by simp [Value.oneCell']) ?_
          have HV := Lib.hid (HV.out.setRow #[.int .i64 px, .int .i64 py, .int .i64 pz])
          have HR := Lib.hid (HR.out.setRow_other (g' := gv) (by omega) #[.int .i64 px, .int .i64 py, .int .i64 pz])
          have HK := Lib.hid (Blk.setRow_other HK.out (g' := gv) (by omega) #[.int .i64 px, .int .i64 py, .int .i64 pz])
          have HB := Lib.hid (below_setRow HB.out (show w.heap.size ≤ gv by omega) #[.int .i64 px, .int .i64 py, .int .i64 pz])
          generalize (w1.setRow gv #[.int .i64 px, .int .i64 py, .int .i64 pz]) = w1 at *
          refine hK.out _ _ ?_
          clear hK K
          try simp only [Act.put, List.setIfInBounds_toArray, List.set_cons_zero, List.set_cons_succ]
          refine Rg.doneR (by kernel_rfl) ?_ _
          refine NoPanic.normal ?_
          clear HS
          go_wp2_with fail
          go_meet
          exact ⟨_, rfl, by omega, HV.out, by have h := HK.out; rw [Bool.false_or] at h; exact h, HR.out, HB.out⟩
        ·
          refine Rg.stepS ?_
          intro K hK
          go_simp
          have HV := Lib.hid (show Blk (w1.alloc (.cells #[.int .i64 0, .int .i64 0, .int .i64 0] 37)) w1.heap.size 37 #[.int .i64 0, .int .i64 0, .int .i64 0] from Blk.fresh _ _ _)
          have lK := Blk.lt HK.out
          have HA := Lib.hid (HA.out.alloc (.cells #[.int .i64 0, .int .i64 0, .int .i64 0] 37))
          have HB2 := Lib.hid (HB2.out.alloc (.cells #[.int .i64 0, .int .i64 0, .int .i64 0] 37))
          have HR := Lib.hid (HR.out.alloc (.cells #[.int .i64 0, .int .i64 0, .int .i64 0] 37))
          have HK := Lib.hid (Blk.alloc HK.out (.cells #[.int .i64 0, .int .i64 0, .int .i64 0] 37))
          have HB := Lib.hid (HB.out.alloc HB.out.size (.cells #[.int .i64 0, .int .i64 0, .int .i64 0] 37))
          obtain ⟨gv, hgv⟩ : ∃ g, w1.heap.size = g := ⟨_, rfl⟩
          rw [hgv] at HV lK ⊢
          generalize (w1.alloc (.cells #[.int .i64 0, .int .i64 0, .int .i64 0] 37)) = w1 at *
          clear HS
          have HS := And.intro ((Blk.cell HA.out 0).trans rfl) (And.intro ((Blk.cell HA.out 1).trans rfl) (And.intro ((Blk.cell HA.out 2).trans rfl) (And.intro ((Blk.cell HB2.out 0).trans rfl) (And.intro ((Blk.cell HB2.out 1).trans rfl) ((Blk.cell HB2.out 2).trans rfl)))))
          refine hK.out _ _ HS ?_
          clear hK K
          try simp only [Act.put, List.setIfInBounds_toArray, List.set_cons_zero, List.set_cons_succ]
          refine Rg.oneR (i := 20) (oi := { dst := some 32, op := Op.call { callee := Callee.value (Operand.tmp 26), args := #[Operand.tmp 27, Operand.tmp 29, Operand.tmp 31], argTypes := #[74, 3, 3] }, type := 3, pos := "vec.go:26", after := #[{ on := 14, ground := Ground.data }, { on := 15, ground := Ground.data }, { on := 17, ground := Ground.data }, { on := 19, ground := Ground.data }, { on := 13, ground := Ground.chain }], guard := none }) rfl (by kernel_rfl) ?_
          refine Rg.stepF ?_ ?_
          · kernel_rfl
          intro K hK
          rw [if_pos (by rfl)]
          go_simp
          go_at_call 58
          refine (vsub_any gk _ az bz _ HK.out r_az r_bz).mono ?_
          intro e w1 hc
          rw [PZ_.out] at hc
          obtain ⟨rfl, hst, hg⟩ := hc
          dsimp only at hst
          have HK := Lib.hid hst
          have HA := Lib.hid (HA.out.grown hg (neq_of (by omega)))
          have HB2 := Lib.hid (HB2.out.grown hg (neq_of (by omega)))
          have HR := Lib.hid (HR.out.grown hg (neq_of (by omega)))
          have HV := Lib.hid (HV.out.grown hg (neq_of (by omega)))
          have HB := Lib.hid (below_grown HB.out (Nat.le_refl _) hg (fun g e => by injection e with e; omega))
          clear hst hg HS
          have HS := And.intro ((Blk.cell HA.out 0).trans rfl) (And.intro ((Blk.cell HA.out 1).trans rfl) (And.intro ((Blk.cell HA.out 2).trans rfl) (And.intro ((Blk.cell HB2.out 0).trans rfl) (And.intro ((Blk.cell HB2.out 1).trans rfl) ((Blk.cell HB2.out 2).trans rfl)))))
          go_wp2_with fail
          refine hK.out _ _ ?_
          clear hK K
          try simp only [Act.put, List.setIfInBounds_toArray, List.set_cons_zero, List.set_cons_succ]
          refine Rg.takeP (i := 21) (oi := { dst := some 33, op := Op.build 37 #[(0, Operand.tmp 18), (1, Operand.tmp 25), (2, Operand.tmp 32)], type := 37, pos := "vec.go:26", after := #[{ on := 6, ground := Ground.data }, { on := 13, ground := Ground.data }, { on := 20, ground := Ground.data }], guard := none }) (v := ?_) rfl (by kernel_rfl) (fun _ _ _ h => h) (by rfl) ?_ ?_
          rotate_left 1
          · (intro w; go_simp; (try with_reducible rfl))
          try simp only [Act.put, List.setIfInBounds_toArray, List.set_cons_zero, List.set_cons_succ]
          refine Rg.oneR (i := 23) (oi := { dst := none, op := Op.store 37 (Operand.tmp 9) (Operand.tmp 33), type := 0, pos := "vec.go:26", after := #[{ on := 22, ground := Ground.data }, { on := 21, ground := Ground.data }, { on := 20, ground := Ground.chain }, { on := 0, ground := Ground.phase }, { on := 1, ground := Ground.phase }, { on := 2, ground := Ground.phase }, { on := 3, ground := Ground.phase }, { on := 4, ground := Ground.phase }, { on := 5, ground := Ground.phase }, { on := 6, ground := Ground.phase }, { on := 7, ground := Ground.phase }, { on := 8, ground := Ground.phase }, { on := 9, ground := Ground.phase }, { on := 10, ground := Ground.phase }, { on := 11, ground := Ground.phase }, { on := 12, ground := Ground.phase }, { on := 13, ground := Ground.phase }, { on := 14, ground := Ground.phase }, { on := 15, ground := Ground.phase }, { on := 16, ground := Ground.phase }, { on := 17, ground := Ground.phase }, { on := 18, ground := Ground.phase }, { on := 19, ground := Ground.phase }, { on := 20, ground := Ground.phase }, { on := 21, ground := Ground.phase }, { on := 22, ground := Ground.phase }], guard := none }) rfl (by kernel_rfl) ?_
          refine Rg.stepF ?_ ?_
          · kernel_rfl
          intro K hK
          rw [if_pos (by rfl)]
          refine wp_store_row 37 _ _ rfl gv #[.int .i64 px, .int .i64 py, .int .i64 pz] rfl rfl 37 _ HV.out (by kernel_rfl) rfl (by simp [Value.oneCell']) ?_
          have HV := Lib.hid (HV.out.setRow #[.int .i64 px, .int .i64 py, .int .i64 pz])
          have HR := Lib.hid (HR.out.setRow_other (g' := gv) (by omega) #[.int .i64 px, .int .i64 py, .int .i64 pz])
          have HK := Lib.hid (Blk.setRow_other HK.out (g' := gv) (by omega) #[.int .i64 px, .int .i64 py, .int .i64 pz])
          have HB := Lib.hid (below_setRow HB.out (show w.heap.size ≤ gv by omega) #[.int .i64 px, .int .i64 py, .int .i64 pz])
          generalize (w1.setRow gv #[.int .i64 px, .int .i64 py, .int .i64 pz]) = w1 at *
          refine hK.out _ _ ?_
          clear hK K
          try simp only [Act.put, List.setIfInBounds_toArray, List.set_cons_zero, List.set_cons_succ]
          refine Rg.doneR (by kernel_rfl) ?_ _
          refine NoPanic.normal ?_
          clear HS
          go_wp2_with fail
          go_meet
          exact ⟨_, rfl, by omega, HV.out, by have h := HK.out; rw [Bool.false_or] at h; exact h, HR.out, HB.out⟩
      ·
        refine Rg.stepS ?_
        intro K hK
        go_simp
        have HV := Lib.hid (show Blk (w1.alloc (.cells #[.int .i64 0, .int .i64 0, .int .i64 0] 37)) w1.heap.size 37 #[.int .i64 0, .int .i64 0, .int .i64 0] from Blk.fresh _ _ _)
        have lK := Blk.lt HK.out
        have HA := Lib.hid (HA.out.alloc (.cells #[.int .i64 0, .int .i64 0, .int .i64 0] 37))
        have HB2 := Lib.hid (HB2.out.alloc (.cells #[.int .i64 0, .int .i64 0, .int .i64 0] 37))
        have HR := Lib.hid (HR.out.alloc (.cells #[.int .i64 0, .int .i64 0, .int .i64 0] 37))
        have HK := Lib.hid (Blk.alloc HK.out (.cells #[.int .i64 0, .int .i64 0, .int .i64 0] 37))
        have HB := Lib.hid (HB.out.alloc HB.out.size (.cells #[.int .i64 0, .int .i64 0, .int .i64 0] 37))
        obtain ⟨gv, hgv⟩ : ∃ g, w1.heap.size = g := ⟨_, rfl⟩
        rw [hgv] at HV lK ⊢
        generalize (w1.alloc (.cells #[.int .i64 0, .int .i64 0, .int .i64 0] 37)) = w1 at *
        clear HS
        have HS := And.intro ((Blk.cell HA.out 0).trans rfl) (And.intro ((Blk.cell HA.out 1).trans rfl) (And.intro ((Blk.cell HA.out 2).trans rfl) (And.intro ((Blk.cell HB2.out 0).trans rfl) (And.intro ((Blk.cell HB2.out 1).trans rfl) ((Blk.cell HB2.out 2).trans rfl)))))
        refine hK.out _ _ HS ?_
        clear hK K
        try simp only [Act.put, List.setIfInBounds_toArray, List.set_cons_zero, List.set_cons_succ]
        refine Rg.oneR (i := 13) (oi := { dst := some 25, op := Op.call { callee := Callee.value (Operand.tmp 19), args := #[Operand.tmp 20, Operand.tmp 22, Operand.tmp 24], argTypes := #[74, 3, 3] }, type := 3, pos := "vec.go:26", after := #[{ on := 7, ground := Ground.data }, { on := 8, ground := Ground.data }, { on := 10, ground := Ground.data }, { on := 12, ground := Ground.data }, { on := 6, ground := Ground.chain }], guard := none }) rfl (by kernel_rfl) ?_
        refine Rg.stepS ?_
        intro K hK
        rw [if_pos (by rfl)]
        go_simp
        go_at_call 58
        refine (vsub_any gk _ ay b_y _ HK.out r_ay r_b_y).mono ?_
        intro e w1 hc
        rw [PY_.out] at hc
        obtain ⟨rfl, hst, hg⟩ := hc
        dsimp only at hst
        have HK := Lib.hid hst
        have HA := Lib.hid (HA.out.grown hg (neq_of (by omega)))
        have HB2 := Lib.hid (HB2.out.grown hg (neq_of (by omega)))
        have HR := Lib.hid (HR.out.grown hg (neq_of (by omega)))
        have HV := Lib.hid (HV.out.grown hg (neq_of (by omega)))
        have HB := Lib.hid (below_grown HB.out (Nat.le_refl _) hg (fun g e => by injection e with e; omega))
        clear hst hg HS
        have HS := And.intro ((Blk.cell HA.out 0).trans rfl) (And.intro ((Blk.cell HA.out 1).trans rfl) (And.intro ((Blk.cell HA.out 2).trans rfl) (And.intro ((Blk.cell HB2.out 0).trans rfl) (And.intro ((Blk.cell HB2.out 1).trans rfl) ((Blk.cell HB2.out 2).trans rfl)))))
        go_wp2_with fail
        refine hK.out _ _ HS ?_
        clear hK K
        try simp only [Act.put, List.setIfInBounds_toArray, List.set_cons_zero, List.set_cons_succ]
        refine Rg.oneR (i := 20) (oi := { dst := some 32, op := Op.call { callee := Callee.value (Operand.tmp 26), args := #[Operand.tmp 27, Operand.tmp 29, Operand.tmp 31], argTypes := #[74, 3, 3] }, type := 3, pos := "vec.go:26", after := #[{ on := 14, ground := Ground.data }, { on := 15, ground := Ground.data }, { on := 17, ground := Ground.data }, { on := 19, ground := Ground.data }, { on := 13, ground := Ground.chain }], guard := none }) rfl (by kernel_rfl) ?_
        refine Rg.stepF ?_ ?_
        · kernel_rfl
        intro K hK
        rw [if_pos (by rfl)]
        go_simp
        go_at_call 58
        refine (vsub_any gk _ az bz _ HK.out r_az r_bz).mono ?_
        intro e w1 hc
        rw [PZ_.out] at hc
        obtain ⟨rfl, hst, hg⟩ := hc
        dsimp only at hst
        have HK := Lib.hid hst
        have HA := Lib.hid (HA.out.grown hg (neq_of (by omega)))
        have HB2 := Lib.hid (HB2.out.grown hg (neq_of (by omega)))
        have HR := Lib.hid (HR.out.grown hg (neq_of (by omega)))
        have HV := Lib.hid (HV.out.grown hg (neq_of (by omega)))
        have HB := Lib.hid (below_grown HB.out (Nat.le_refl _) hg (fun g e => by injection e with e; omega))
        clear hst hg HS
        have HS := And.intro ((Blk.cell HA.out 0).trans rfl) (And.intro ((Blk.cell HA.out 1).trans rfl) (And.intro ((Blk.cell HA.out 2).trans rfl) (And.intro ((Blk.cell HB2.out 0).trans rfl) (And.intro ((Blk.cell HB2.out 1).trans rfl) ((Blk.cell HB2.out 2).trans rfl)))))
        go_wp2_with fail
        refine hK.out _ _ ?_
        clear hK K
        try simp only [Act.put, List.setIfInBounds_toArray, List.set_cons_zero, List.set_cons_succ]
        refine Rg.takeP (i := 21) (oi := { dst := some 33, op := Op.build 37 #[(0, Operand.tmp 18), (1, Operand.tmp 25), (2, Operand.tmp 32)], type := 37, pos := "vec.go:26", after := #[{ on := 6, ground := Ground.data }, { on := 13, ground := Ground.data }, { on := 20, ground := Ground.data }], guard := none }) (v := ?_) rfl (by kernel_rfl) (fun _ _ _ h => h) (by rfl) ?_ ?_
        rotate_left 1
        · (intro w; go_simp; (try with_reducible rfl))
        try simp only [Act.put, List.setIfInBounds_toArray, List.set_cons_zero, List.set_cons_succ]
        refine Rg.oneR (i := 23) (oi := { dst := none, op := Op.store 37 (Operand.tmp 9) (Operand.tmp 33), type := 0, pos := "vec.go:26", after := #[{ on := 22, ground := Ground.data }, { on := 21, ground := Ground.data }, { on := 20, ground := Ground.chain }, { on := 0, ground := Ground.phase }, { on := 1, ground := Ground.phase }, { on := 2, ground := Ground.phase }, { on := 3, ground := Ground.phase }, { on := 4, ground := Ground.phase }, { on := 5, ground := Ground.phase }, { on := 6, ground := Ground.phase }, { on := 7, ground := Ground.phase }, { on := 8, ground := Ground.phase }, { on := 9, ground := Ground.phase }, { on := 10, ground := Ground.phase }, { on := 11, ground := Ground.phase }, { on := 12, ground := Ground.phase }, { on := 13, ground := Ground.phase }, { on := 14, ground := Ground.phase }, { on := 15, ground := Ground.phase }, { on := 16, ground := Ground.phase }, { on := 17, ground := Ground.phase }, { on := 18, ground := Ground.phase }, { on := 19, ground := Ground.phase }, { on := 20, ground := Ground.phase }, { on := 21, ground := Ground.phase }, { on := 22, ground := Ground.phase }], guard := none }) rfl (by kernel_rfl) ?_
        refine Rg.stepF ?_ ?_
        · kernel_rfl
        intro K hK
        rw [if_pos (by rfl)]
        refine wp_store_row 37 _ _ rfl gv #[.int .i64 px, .int .i64 py, .int .i64 pz] rfl rfl 37 _ HV.out (by kernel_rfl) rfl (by simp [Value.oneCell']) ?_
        have HV := Lib.hid (HV.out.setRow #[.int .i64 px, .int .i64 py, .int .i64 pz])
        have HR := Lib.hid (HR.out.setRow_other (g' := gv) (by omega) #[.int .i64 px, .int .i64 py, .int .i64 pz])
        have HK := Lib.hid (Blk.setRow_other HK.out (g' := gv) (by omega) #[.int .i64 px, .int .i64 py, .int .i64 pz])
        have HB := Lib.hid (below_setRow HB.out (show w.heap.size ≤ gv by omega) #[.int .i64 px, .int .i64 py, .int .i64 pz])
        generalize (w1.setRow gv #[.int .i64 px, .int .i64 py, .int .i64 pz]) = w1 at *
        refine hK.out _ _ ?_
        clear hK K
        try simp only [Act.put, List.setIfInBounds_toArray, List.set_cons_zero, List.set_cons_succ]
        refine Rg.doneR (by kernel_rfl) ?_ _
        refine NoPanic.normal ?_
        clear HS
        go_wp2_with fail
        go_meet
        exact ⟨_, rfl, by omega, HV.out, by have h := HK.out; rw [Bool.false_or] at h; exact h, HR.out, HB.out⟩
    ·
      refine Rg.stepS ?_
      intro K hK
      go_simp
      have HV := Lib.hid (show Blk (w1.alloc (.cells #[.int .i64 0, .int .i64 0, .int .i64 0] 37)) w1.heap.size 37 #[.int .i64 0, .int .i64 0, .int .i64 0] from Blk.fresh _ _ _)
      have lK := Blk.lt HK.out
      have HA := Lib.hid (HA.out.alloc (.cells #[.int .i64 0, .int .i64 0, .int .i64 0] 37))
      have HB2 := Lib.hid (HB2.out.alloc (.cells #[.int .i64 0, .int .i64 0, .int .i64 0] 37))
      have HR := Lib.hid (HR.out.alloc (.cells #[.int .i64 0, .int .i64 0, .int .i64 0] 37))
      have HK := Lib.hid (Blk.alloc HK.out (.cells #[.int .i64 0, .int .i64 0, .int .i64 0] 37))
      have HB := Lib.hid (HB.out.alloc HB.out.size (.cells #[.int .i64 0, .int .i64 0, .int .i64 0] 37))
      obtain ⟨gv, hgv⟩ : ∃ g, w1.heap.size = g := ⟨_, rfl⟩
      rw [hgv] at HV lK ⊢
      generalize (w1.alloc (.cells #[.int .i64 0, .int .i64 0, .int .i64 0] 37)) = w1 at *
      clear HS
      have HS := And.intro ((Blk.cell HA.out 0).trans rfl) (And.intro ((Blk.cell HA.out 1).trans rfl) (And.intro ((Blk.cell HA.out 2).trans rfl) (And.intro ((Blk.cell HB2.out 0).trans rfl) (And.intro ((Blk.cell HB2.out 1).trans rfl) ((Blk.cell HB2.out 2).trans rfl)))))
      refine hK.out _ _ HS ?_
      clear hK K
      try simp only [Act.put, List.setIfInBounds_toArray, List.set_cons_zero, List.set_cons_succ]
      refine Rg.oneR (i := 6) (oi := { dst := some 18, op := Op.call { callee := Callee.value (Operand.tmp 12), args := #[Operand.tmp 13, Operand.tmp 15, Operand.tmp 17], argTypes := #[74, 3, 3] }, type := 3, pos := "vec.go:26", after := #[{ on := 0, ground := Ground.data }, { on := 1, ground := Ground.data }, { on := 3, ground := Ground.data }, { on := 5, ground := Ground.data }], guard := none }) rfl (by kernel_rfl) ?_
      refine Rg.stepS ?_
      intro K hK
      rw [if_pos (by rfl)]
      go_simp
      go_at_call 58
      refine (vsub_any gk _ ax bx _ HK.out r_ax r_bx).mono ?_
      intro e w1 hc
      rw [PX_.out] at hc
      obtain ⟨rfl, hst, hg⟩ := hc
      dsimp only at hst
      have HK := Lib.hid hst
      have HA := Lib.hid (HA.out.grown hg (neq_of (by omega)))
      have HB2 := Lib.hid (HB2.out.grown hg (neq_of (by omega)))
      have HR := Lib.hid (HR.out.grown hg (neq_of (by omega)))
      have HV := Lib.hid (HV.out.grown hg (neq_of (by omega)))
      have HB := Lib.hid (below_grown HB.out (Nat.le_refl _) hg (fun g e => by injection e with e; omega))
      clear hst hg HS
      have HS := And.intro ((Blk.cell HA.out 0).trans rfl) (And.intro ((Blk.cell HA.out 1).trans rfl) (And.intro ((Blk.cell HA.out 2).trans rfl) (And.intro ((Blk.cell HB2.out 0).trans rfl) (And.intro ((Blk.cell HB2.out 1).trans rfl) ((Blk.cell HB2.out 2).trans rfl)))))
      go_wp2_with fail
      refine hK.out _ _ HS ?_
      clear hK K
      try simp only [Act.put, List.setIfInBounds_toArray, List.set_cons_zero, List.set_cons_succ]
      refine Rg.oneR (i := 13) (oi := { dst := some 25, op := Op.call { callee := Callee.value (Operand.tmp 19), args := #[Operand.tmp 20, Operand.tmp 22, Operand.tmp 24], argTypes := #[74, 3, 3] }, type := 3, pos := "vec.go:26", after := #[{ on := 7, ground := Ground.data }, { on := 8, ground := Ground.data }, { on := 10, ground := Ground.data }, { on := 12, ground := Ground.data }, { on := 6, ground := Ground.chain }], guard := none }) rfl (by kernel_rfl) ?_
      refine Rg.stepS ?_
      intro K hK
      rw [if_pos (by rfl)]
      go_simp
      go_at_call 58
      refine (vsub_any gk _ ay b_y _ HK.out r_ay r_b_y).mono ?_
      intro e w1 hc
      rw [PY_.out] at hc
      obtain ⟨rfl, hst, hg⟩ := hc
      dsimp only at hst
      have HK := Lib.hid hst
      have HA := Lib.hid (HA.out.grown hg (neq_of (by omega)))
      have HB2 := Lib.hid (HB2.out.grown hg (neq_of (by omega)))
      have HR := Lib.hid (HR.out.grown hg (neq_of (by omega)))
      have HV := Lib.hid (HV.out.grown hg (neq_of (by omega)))
      have HB := Lib.hid (below_grown HB.out (Nat.le_refl _) hg (fun g e => by injection e with e; omega))
      clear hst hg HS
      have HS := And.intro ((Blk.cell HA.out 0).trans rfl) (And.intro ((Blk.cell HA.out 1).trans rfl) (And.intro ((Blk.cell HA.out 2).trans rfl) (And.intro ((Blk.cell HB2.out 0).trans rfl) (And.intro ((Blk.cell HB2.out 1).trans rfl) ((Blk.cell HB2.out 2).trans rfl)))))
      go_wp2_with fail
      refine hK.out _ _ HS ?_
      clear hK K
      try simp only [Act.put, List.setIfInBounds_toArray, List.set_cons_zero, List.set_cons_succ]
      refine Rg.oneR (i := 20) (oi := { dst := some 32, op := Op.call { callee := Callee.value (Operand.tmp 26), args := #[Operand.tmp 27, Operand.tmp 29, Operand.tmp 31], argTypes := #[74, 3, 3] }, type := 3, pos := "vec.go:26", after := #[{ on := 14, ground := Ground.data }, { on := 15, ground := Ground.data }, { on := 17, ground := Ground.data }, { on := 19, ground := Ground.data }, { on := 13, ground := Ground.chain }], guard := none }) rfl (by kernel_rfl) ?_
      refine Rg.stepF ?_ ?_
      · kernel_rfl
      intro K hK
      rw [if_pos (by rfl)]
      go_simp
      go_at_call 58
      refine (vsub_any gk _ az bz _ HK.out r_az r_bz).mono ?_
      intro e w1 hc
      rw [PZ_.out] at hc
      obtain ⟨rfl, hst, hg⟩ := hc
      dsimp only at hst
      have HK := Lib.hid hst
      have HA := Lib.hid (HA.out.grown hg (neq_of (by omega)))
      have HB2 := Lib.hid (HB2.out.grown hg (neq_of (by omega)))
      have HR := Lib.hid (HR.out.grown hg (neq_of (by omega)))
      have HV := Lib.hid (HV.out.grown hg (neq_of (by omega)))
      have HB := Lib.hid (below_grown HB.out (Nat.le_refl _) hg (fun g e => by injection e with e; omega))
      clear hst hg HS
      have HS := And.intro ((Blk.cell HA.out 0).trans rfl) (And.intro ((Blk.cell HA.out 1).trans rfl) (And.intro ((Blk.cell HA.out 2).trans rfl) (And.intro ((Blk.cell HB2.out 0).trans rfl) (And.intro ((Blk.cell HB2.out 1).trans rfl) ((Blk.cell HB2.out 2).trans rfl)))))
      go_wp2_with fail
      refine hK.out _ _ ?_
      clear hK K
      try simp only [Act.put, List.setIfInBounds_toArray, List.set_cons_zero, List.set_cons_succ]
      refine Rg.takeP (i := 21) (oi := { dst := some 33, op := Op.build 37 #[(0, Operand.tmp 18), (1, Operand.tmp 25), (2, Operand.tmp 32)], type := 37, pos := "vec.go:26", after := #[{ on := 6, ground := Ground.data }, { on := 13, ground := Ground.data }, { on := 20, ground := Ground.data }], guard := none }) (v := ?_) rfl (by kernel_rfl) (fun _ _ _ h => h) (by rfl) ?_ ?_
      rotate_left 1
      · (intro w; go_simp; (try with_reducible rfl))
      try simp only [Act.put, List.setIfInBounds_toArray, List.set_cons_zero, List.set_cons_succ]
      refine Rg.oneR (i := 23) (oi := { dst := none, op := Op.store 37 (Operand.tmp 9) (Operand.tmp 33), type := 0, pos := "vec.go:26", after := #[{ on := 22, ground := Ground.data }, { on := 21, ground := Ground.data }, { on := 20, ground := Ground.chain }, { on := 0, ground := Ground.phase }, { on := 1, ground := Ground.phase }, { on := 2, ground := Ground.phase }, { on := 3, ground := Ground.phase }, { on := 4, ground := Ground.phase }, { on := 5, ground := Ground.phase }, { on := 6, ground := Ground.phase }, { on := 7, ground := Ground.phase }, { on := 8, ground := Ground.phase }, { on := 9, ground := Ground.phase }, { on := 10, ground := Ground.phase }, { on := 11, ground := Ground.phase }, { on := 12, ground := Ground.phase }, { on := 13, ground := Ground.phase }, { on := 14, ground := Ground.phase }, { on := 15, ground := Ground.phase }, { on := 16, ground := Ground.phase }, { on := 17, ground := Ground.phase }, { on := 18, ground := Ground.phase }, { on := 19, ground := Ground.phase }, { on := 20, ground := Ground.phase }, { on := 21, ground := Ground.phase }, { on := 22, ground := Ground.phase }], guard := none }) rfl (by kernel_rfl) ?_
      refine Rg.stepF ?_ ?_
      · kernel_rfl
      intro K hK
      rw [if_pos (by rfl)]
      refine wp_store_row 37 _ _ rfl gv #[.int .i64 px, .int .i64 py, .int .i64 pz] rfl rfl 37 _ HV.out (by kernel_rfl) rfl (by simp [Value.oneCell']) ?_
      have HV := Lib.hid (HV.out.setRow #[.int .i64 px, .int .i64 py, .int .i64 pz])
      have HR := Lib.hid (HR.out.setRow_other (g' := gv) (by omega) #[.int .i64 px, .int .i64 py, .int .i64 pz])
      have HK := Lib.hid (Blk.setRow_other HK.out (g' := gv) (by omega) #[.int .i64 px, .int .i64 py, .int .i64 pz])
      have HB := Lib.hid (below_setRow HB.out (show w.heap.size ≤ gv by omega) #[.int .i64 px, .int .i64 py, .int .i64 pz])
      generalize (w1.setRow gv #[.int .i64 px, .int .i64 py, .int .i64 pz]) = w1 at *
      refine hK.out _ _ ?_
      clear hK K
      try simp only [Act.put, List.setIfInBounds_toArray, List.set_cons_zero, List.set_cons_succ]
      refine Rg.doneR (by kernel_rfl) ?_ _
      refine NoPanic.normal ?_
      clear HS
      go_wp2_with fail
      go_meet
      exact ⟨_, rfl, by omega, HV.out, by have h := HK.out; rw [Bool.false_or] at h; exact h, HR.out, HB.out⟩
  case rest =>
    obtain ⟨gv, rfl, hgv, hv, hk, hr, hb⟩ := hcut
    have HV := Lib.hid hv
    have HK := Lib.hid hk
    have HR := Lib.hid hr
    have HB := Lib.hid hb
    clear hv hk hr hb
    go_upto_region 3 with fail
    have HV := Lib.hid HV.out.drew
    have HK := Lib.hid (Blk.drew HK.out)
    have HR := Lib.hid HR.out.drew
    have HB := Lib.hid HB.out.drew
    have HS := And.intro HV.out ((Blk.cell HK.out 0).trans rfl)
    refine wp_region_noPanic ?_
    refine Rg.beginR [0, 4] (fun w' => Blk w' gv 37 #[.int .i64 px, .int .i64 py, .int .i64 pz] ∧ w'.cell? ⟨gk, 0, none⟩ = some (.bool (xb || yb || zb))) (by kernel_rfl) ?_
    generalize wc.drew = w1 at *
    refine Rg.takeS (i := 0) (oi := { dst := some 34, op := Op.load 37 (Operand.tmp 9), type := 37, pos := "vec.go:27", after := #[], guard := none }) (v := .agg #[.int .i64 px, .int .i64 py, .int .i64 pz]) rfl (by kernel_rfl) (fun _ _ _ h => h) (by rfl) HS ?_ ?_
    · (intro w' hSw; exact exec_load_st 37 (.tmp 9) rfl gv rfl hSw.1 Try.underlying37 rfl (by kernel_rfl))
    try simp only [Act.put, List.setIfInBounds_toArray, List.set_cons_zero, List.set_cons_succ]
    refine Rg.takeP (i := 1) (oi := { dst := some 35, op := Op.move (Operand.tmp 8), type := 74, pos := "vec.go:27", after := #[{ on := 5, ground := Ground.gcOnly Departure.lateStores }], guard := none }) (v := ?_) rfl (by kernel_rfl) (fun _ _ _ h => h) (by rfl) ?_ ?_
    rotate_left 1
    · (intro w; go_simp; (try with_reducible rfl))
    try simp only [Act.put, List.setIfInBounds_toArray, List.set_cons_zero, List.set_cons_succ]
    refine Rg.takeP (i := 2) (oi := { dst := some 36, op := Op.nilCheck (Operand.tmp 35), type := 0, pos := "vec.go:27", after := #[{ on := 1, ground := Ground.data }, { on := 5, ground := Ground.gcOnly Departure.lateStores }], guard := none }) (v := ?_) rfl (by kernel_rfl) (fun _ _ _ h => h) (by rfl) ?_ ?_
    rotate_left 1
    · (intro w; go_simp; (try with_reducible rfl))
    try simp only [Act.put, List.setIfInBounds_toArray, List.set_cons_zero, List.set_cons_succ]
    refine Rg.takeP (i := 3) (oi := { dst := some 37, op := Op.fieldAddr 76 (Operand.tmp 36) 0, type := 0, pos := "vec.go:27", after := #[{ on := 2, ground := Ground.data }, { on := 5, ground := Ground.gcOnly Departure.lateStores }], guard := none }) (v := ?_) rfl (by kernel_rfl) (fun _ _ _ h => h) (by rfl) ?_ ?_
    rotate_left 1
    · (intro w; go_simp; (try with_reducible rfl))
    try simp only [Act.put, List.setIfInBounds_toArray, List.set_cons_zero, List.set_cons_succ]
    refine Rg.takeS (i := 4) (oi := { dst := some 38, op := Op.load 4 (Operand.tmp 37), type := 4, pos := "vec.go:27", after := #[{ on := 3, ground := Ground.data }, { on := 5, ground := Ground.gcOnly Departure.lateStores }], guard := none }) (v := ?_) rfl (by kernel_rfl) (fun _ _ _ h => h) (by rfl) HS ?_ ?_
    rotate_left 1
    · (intro w hSw; (try dsimp only at hSw); (try go_split_ands); go_simp; (try with_reducible rfl))
    try simp only [Act.put, List.setIfInBounds_toArray, List.set_cons_zero, List.set_cons_succ]
    refine Rg.oneR (i := 5) (oi := { dst := none, op := Op.store 37 (Operand.tmp 6) (Operand.tmp 34), type := 0, pos := "vec.go:27", after := #[{ on := 0, ground := Ground.data }, { on := 0, ground := Ground.phase }, { on := 1, ground := Ground.textOnly Departure.lateStores }, { on := 2, ground := Ground.textOnly Departure.lateStores }, { on := 3, ground := Ground.textOnly Departure.lateStores }, { on := 4, ground := Ground.textOnly Departure.lateStores }], guard := none }) rfl (by kernel_rfl) ?_
    refine Rg.stepS ?_
    intro K hK
    rw [if_pos (by rfl)]
    refine wp_store_row 37 _ _ rfl gr #[.int .i64 px, .int .i64 py, .int .i64 pz] rfl rfl 37 _ HR.out (by kernel_rfl) rfl (by simp [Value.oneCell']) ?_
    have HR := Lib.hid (HR.out.setRow #[.int .i64 px, .int .i64 py, .int .i64 pz])
    have HV := Lib.hid (HV.out.setRow_other (g' := gr) (by omega) #[.int .i64 px, .int .i64 py, .int .i64 pz])
    have HK := Lib.hid (Blk.setRow_other HK.out (g' := gr) (by omega) #[.int .i64 px, .int .i64 py, .int .i64 pz])
    have HB := Lib.hid (below_setRow HB.out (show w.heap.size ≤ gr by omega) #[.int .i64 px, .int .i64 py, .int .i64 pz])
    generalize (w1.setRow gr #[.int .i64 px, .int .i64 py, .int .i64 pz]) = w1 at *
    clear HS
    have HS := And.intro HV.out ((Blk.cell HK.out 0).trans rfl)
    refine hK.out _ _ HS ?_
    clear hK K
    try simp only [Act.put, List.setIfInBounds_toArray, List.set_cons_zero, List.set_cons_succ]
    refine Rg.takeP (i := 6) (oi := { dst := some 7, op := Op.assign (Operand.tmp 38), type := 4, pos := "vec.go:27", after := #[{ on := 4, ground := Ground.data }, { on := 5, ground := Ground.chain }, { on := 0, ground := Ground.phase }, { on := 1, ground := Ground.phase }, { on := 2, ground := Ground.phase }, { on := 3, ground := Ground.phase }, { on := 4, ground := Ground.phase }, { on := 5, ground := Ground.phase }], guard := none }) (v := ?_) rfl (by kernel_rfl) (fun _ _ _ h => h) (by rfl) ?_ ?_
    rotate_left 1
    · (intro w; go_simp; (try with_reducible rfl))
    try simp only [Act.put, List.setIfInBounds_toArray, List.set_cons_zero, List.set_cons_succ]
    refine Rg.doneR (by kernel_rfl) ?_ _
    refine NoPanic.normal ?_
    clear HS
    go_wp2_with fail
    refine ret_row2 (x := .bool (xb || yb || zb)) rfl rfl rfl HR.out ⟨by rw [Try.underlying37], by kernel_rfl⟩ rfl ?_
    exact ⟨by rw [PX_.out, PY_.out, PZ_.out]; rfl, HB.out⟩

set_option maxRecDepth 100000 in
set_option maxHeartbeats 1000000 in
theorem each_mul (ax ay az bx b_y bz : Int) (w : World) (r_ax : In64 ax) (r_ay : In64 ay) (r_az : In64 az) (r_bx : In64 bx) (r_b_y : In64 b_y) (r_bz : In64 bz) :
    Calls Try.prog 56 #[vecV ax ay az, vecV bx b_y bz, .func (.func 59) #[] #[]] w fun e w' => TwoV w w' (fmul ax bx) (fmul ay b_y) (fmul az bz) e := by
  unfold vecV
  have HA := Lib.hid (show Blk ((((w.alloc (.cells #[.int .i64 ax, .int .i64 ay, .int .i64 az] 37)).alloc (.cells #[.int .i64 bx, .int .i64 b_y, .int .i64 bz] 37)).alloc (.cells #[.int .i64 0, .int .i64 0, .int .i64 0] 37)).alloc (.cells #[.bool false] 76)) w.heap.size 37 #[.int .i64 ax, .int .i64 ay, .int .i64 az] from (((Blk.new rfl).alloc _).alloc _).alloc _)
  have HB2 := Lib.hid (show Blk ((((w.alloc (.cells #[.int .i64 ax, .int .i64 ay, .int .i64 az] 37)).alloc (.cells #[.int .i64 bx, .int .i64 b_y, .int .i64 bz] 37)).alloc (.cells #[.int .i64 0, .int .i64 0, .int .i64 0] 37)).alloc (.cells #[.bool false] 76)) (w.heap.size + 1) 37 #[.int .i64 bx, .int .i64 b_y, .int .i64 bz] from ((Blk.new (by simp)).alloc _).alloc _)
  have HR := Lib.hid (show Blk ((((w.alloc (.cells #[.int .i64 ax, .int .i64 ay, .int .i64 az] 37)).alloc (.cells #[.int .i64 bx, .int .i64 b_y, .int .i64 bz] 37)).alloc (.cells #[.int .i64 0, .int .i64 0, .int .i64 0] 37)).alloc (.cells #[.bool false] 76)) (w.heap.size + 1 + 1) 37 #[.int .i64 0, .int .i64 0, .int .i64 0] from (Blk.new (by simp)).alloc _)
  have HK := Lib.hid (show Bent ((((w.alloc (.cells #[.int .i64 ax, .int .i64 ay, .int .i64 az] 37)).alloc (.cells #[.int .i64 bx, .int .i64 b_y, .int .i64 bz] 37)).alloc (.cells #[.int .i64 0, .int .i64 0, .int .i64 0] 37)).alloc (.cells #[.bool false] 76)) 76 (w.heap.size + 1 + 1 + 1) false from Blk.new (by simp))
  have HB := Lib.hid (show Below w.heap.size w ((((w.alloc (.cells #[.int .i64 ax, .int .i64 ay, .int .i64 az] 37)).alloc (.cells #[.int .i64 bx, .int .i64 b_y, .int .i64 bz] 37)).alloc (.cells #[.int .i64 0, .int .i64 0, .int .i64 0] 37)).alloc (.cells #[.bool false] 76)) from ((((Below.refl _ _).alloc (Nat.le_refl _) _).alloc (by simp) _).alloc (by simp; omega) _).alloc (by simp; omega) _)
  obtain ⟨⟨px, xb⟩, h_px⟩ : ∃ res_, fmul ax bx = res_ := ⟨_, rfl⟩
  have PX_ := Lib.hid h_px
  have r_px : In64 px := by have h := fmul_range ax bx; rw [h_px] at h; exact h
  clear h_px
  obtain ⟨⟨py, yb⟩, h_py⟩ : ∃ res_, fmul ay b_y = res_ := ⟨_, rfl⟩
  have PY_ := Lib.hid h_py
  have r_py : In64 py := by have h := fmul_range ay b_y; rw [h_py] at h; exact h
  clear h_py
  obtain ⟨⟨pz, zb⟩, h_pz⟩ : ∃ res_, fmul az bz = res_ := ⟨_, rfl⟩
  have PZ_ := Lib.hid h_pz
  have r_pz : In64 pz := by have h := fmul_range az bz; rw [h_pz] at h; exact h
  clear h_pz
  go_enter Try.func56, Try.ntmps56
  go_upto_region 2 with fail
  generalize ((((w.alloc (.cells #[.int .i64 ax, .int .i64 ay, .int .i64 az] 37)).alloc (.cells #[.int .i64 bx, .int .i64 b_y, .int .i64 bz] 37)).alloc (.cells #[.int .i64 0, .int .i64 0, .int .i64 0] 37)).alloc (.cells #[.bool false] 76)) = w1 at *
  obtain ⟨gk, hgk⟩ : ∃ g, w.heap.size + 1 + 1 + 1 = g := ⟨_, rfl⟩
  rw [hgk] at HK ⊢
  obtain ⟨gr, hgr⟩ : ∃ g, w.heap.size + 1 + 1 = g := ⟨_, rfl⟩
  rw [hgr] at HR ⊢
  obtain ⟨gb, hgb⟩ : ∃ g, w.heap.size + 1 = g := ⟨_, rfl⟩
  rw [hgb] at HB2 ⊢
  go_cut [9] (fun v wx => ∃ gv, v = .pointer (some ⟨gv, 0, none⟩) ∧ gk < gv ∧ Blk wx gv 37 #[.int .i64 px, .int .i64 py, .int .i64 pz] ∧ Bent wx 76 gk (xb || yb || zb) ∧ Blk wx gr 37 #[.int .i64 0, .int .i64 0, .int .i64 0] ∧ Below w.heap.size w wx)
  case first =>
    have HA := Lib.hid HA.out.drew
    have HB2 := Lib.hid HB2.out.drew
    have HR := Lib.hid HR.out.drew
    have HK := Lib.hid (Blk.drew HK.out)
    have HB := Lib.hid HB.out.drew
    have HS := And.intro ((Blk.cell HA.out 0).trans rfl) (And.intro ((Blk.cell HA.out 1).trans rfl) (And.intro ((Blk.cell HA.out 2).trans rfl) (And.intro ((Blk.cell HB2.out 0).trans rfl) (And.intro ((Blk.cell HB2.out 1).trans rfl) ((Blk.cell HB2.out 2).trans rfl)))))
    refine wp_region_noPanic ?_
    refine Rg.beginR [3, 5, 10, 12, 17, 19] (fun w' => w'.cell? ⟨w.heap.size, 0, none⟩ = some (.int .i64 ax) ∧ w'.cell? ⟨w.heap.size, 1, none⟩ = some (.int .i64 ay) ∧ w'.cell? ⟨w.heap.size, 2, none⟩ = some (.int .i64 az) ∧ w'.cell? ⟨gb, 0, none⟩ = some (.int .i64 bx) ∧ w'.cell? ⟨gb, 1, none⟩ = some (.int .i64 b_y) ∧ w'.cell? ⟨gb, 2, none⟩ = some (.int .i64 bz)) (by kernel_rfl) ?_
    generalize w1.drew = w1 at *
    refine Rg.takeP (i := 0) (oi := { dst := some 12, op := Op.move (Operand.tmp 2), type := 73, pos := "vec.go:26", after := #[], guard := none }) (v := ?_) rfl (by kernel_rfl) (fun _ _ _ h => h) (by rfl) ?_ ?_
    rotate_left 1
    · (intro w; go_simp; (try with_reducible rfl))
    try simp only [Act.put, List.setIfInBounds_toArray, List.set_cons_zero, List.set_cons_succ]
    refine Rg.takeP (i := 1) (oi := { dst := some 13, op := Op.move (Operand.tmp 8), type := 74, pos := "vec.go:26", after := #[], guard := none }) (v := ?_) rfl (by kernel_rfl) (fun _ _ _ h => h) (by rfl) ?_ ?_
    rotate_left 1
    · (intro w; go_simp; (try with_reducible rfl))
    try simp only [Act.put, List.setIfInBounds_toArray, List.set_cons_zero, List.set_cons_succ]
    refine Rg.takeP (i := 2) (oi := { dst := some 14, op := Op.fieldAddr 37 (Operand.tmp 3) 0, type := 0, pos := "vec.go:26", after := #[], guard := none }) (v := ?_) rfl (by kernel_rfl) (fun _ _ _ h => h) (by rfl) ?_ ?_
    rotate_left 1
    · (intro w; go_simp; (try with_reducible rfl))
    try simp only [Act.put, List.setIfInBounds_toArray, List.set_cons_zero, List.set_cons_succ]
    refine Rg.takeS (i := 3) (oi := { dst := some 15, op := Op.load 3 (Operand.tmp 14), type := 3, pos := "vec.go:26", after := #[{ on := 2, ground := Ground.data }], guard := none }) (v := ?_) rfl (by kernel_rfl) (fun _ _ _ h => h) (by rfl) HS ?_ ?_
    rotate_left 1
    · (intro w hSw; (try dsimp only at hSw); (try go_split_ands); go_simp; (try with_reducible rfl))
    try simp only [Act.put, List.setIfInBounds_toArray, List.set_cons_zero, List.set_cons_succ]
    refine Rg.takeP (i := 4) (oi := { dst := some 16, op := Op.fieldAddr 37 (Operand.tmp 4) 0, type := 0, pos := "vec.go:26", after := #[], guard := none }) (v := ?_) rfl (by kernel_rfl) (fun _ _ _ h => h) (by rfl) ?_ ?_
    rotate_left 1
    · (intro w; go_simp; (try with_reducible rfl))
    try simp only [Act.put, List.setIfInBounds_toArray, List.set_cons_zero, List.set_cons_succ]
    refine Rg.takeS (i := 5) (oi := { dst := some 17, op := Op.load 3 (Operand.tmp 16), type := 3, pos := "vec.go:26", after := #[{ on := 4, ground := Ground.data }], guard := none }) (v := ?_) rfl (by kernel_rfl) (fun _ _ _ h => h) (by rfl) HS ?_ ?_
    rotate_left 1
    · (intro w hSw; (try dsimp only at hSw); (try go_split_ands); go_simp; (try with_reducible rfl))
    try simp only [Act.put, List.setIfInBounds_toArray, List.set_cons_zero, List.set_cons_succ]
    refine Rg.takeP (i := 7) (oi := { dst := some 19, op := Op.move (Operand.tmp 2), type := 73, pos := "vec.go:26", after := #[], guard := none }) (v := ?_) rfl (by kernel_rfl) (fun _ _ _ h => h) (by rfl) ?_ ?_
    rotate_left 1
    · (intro w; go_simp; (try with_reducible rfl))
    try simp only [Act.put, List.setIfInBounds_toArray, List.set_cons_zero, List.set_cons_succ]
    refine Rg.takeP (i := 8) (oi := { dst := some 20, op := Op.move (Operand.tmp 8), type := 74, pos := "vec.go:26", after := #[], guard := none }) (v := ?_) rfl (by kernel_rfl) (fun _ _ _ h => h) (by rfl) ?_ ?_
    rotate_left 1
    · (intro w; go_simp; (try with_reducible rfl))
    try simp only [Act.put, List.setIfInBounds_toArray, List.set_cons_zero, List.set_cons_succ]
    refine Rg.takeP (i := 9) (oi := { dst := some 21, op := Op.fieldAddr 37 (Operand.tmp 3) 1, type := 0, pos := "vec.go:26", after := #[], guard := none }) (v := ?_) rfl (by kernel_rfl) (fun _ _ _ h => h) (by rfl) ?_ ?_
    rotate_left 1
    · (intro w; go_simp; (try with_reducible rfl))
    try simp only [Act.put, List.setIfInBounds_toArray, List.set_cons_zero, List.set_cons_succ]
    refine Rg.takeS (i := 10) (oi := { dst := some 22, op := Op.load 3 (Operand.tmp 21), type := 3, pos := "vec.go:26", after := #[{ on := 9, ground := Ground.data }], guard := none }) (v := ?_) rfl (by kernel_rfl) (fun _ _ _ h => h) (by rfl) HS ?_ ?_
    rotate_left 1
    · (intro w hSw; (try dsimp only at hSw); (try go_split_ands); go_simp; (try with_reducible rfl))
    try simp only [Act.put, List.setIfInBounds_toArray, List.set_cons_zero, List.set_cons_succ]
    refine Rg.takeP (i := 11) (oi := { dst := some 23, op := Op.fieldAddr 37 (Operand.tmp 4) 1, type := 0, pos := "vec.go:26", after := #[], guard := none }) (v := ?_) rfl (by kernel_rfl) (fun _ _ _ h => h) (by rfl) ?_ ?_
    rotate_left 1
    · (intro w; go_simp; (try with_reducible rfl))
    try simp only [Act.put, List.setIfInBounds_toArray, List.set_cons_zero, List.set_cons_succ]
    refine Rg.takeS (i := 12) (oi := { dst := some 24, op := Op.load 3 (Operand.tmp 23), type := 3, pos := "vec.go:26", after := #[{ on := 11, ground := Ground.data }], guard := none }) (v := ?_) rfl (by kernel_rfl) (fun _ _ _ h => h) (by rfl) HS ?_ ?_
    rotate_left 1
    · (intro w hSw; (try dsimp only at hSw); (try go_split_ands); go_simp; (try with_reducible rfl))
    try simp only [Act.put, List.setIfInBounds_toArray, List.set_cons_zero, List.set_cons_succ]
    refine Rg.takeP (i := 14) (oi := { dst := some 26, op := Op.move (Operand.tmp 2), type := 73, pos := "vec.go:26", after := #[], guard := none }) (v := ?_) rfl (by kernel_rfl) (fun _ _ _ h => h) (by rfl) ?_ ?_
    rotate_left 1
    · (intro w; go_simp; (try with_reducible rfl))
    try simp only [Act.put, List.setIfInBounds_toArray, List.set_cons_zero, List.set_cons_succ]
    refine Rg.takeP (i := 15) (oi := { dst := some 27, op := Op.move (Operand.tmp 8), type := 74, pos := "vec.go:26", after := #[], guard := none }) (v := ?_) rfl (by kernel_rfl) (fun _ _ _ h => h) (by rfl) ?_ ?_
    rotate_left 1
    · (intro w; go_simp; (try with_reducible rfl))
    try simp only [Act.put, List.setIfInBounds_toArray, List.set_cons_zero, List.set_cons_succ]
    refine Rg.takeP (i := 16) (oi := { dst := some 28, op := Op.fieldAddr 37 (Operand.tmp 3) 2, type := 0, pos := "vec.go:26", after := #[], guard := none }) (v := ?_) rfl (by kernel_rfl) (fun _ _ _ h => h) (by rfl) ?_ ?_
    rotate_left 1
    · (intro w; go_simp; (try with_reducible rfl))
    try simp only [Act.put, List.setIfInBounds_toArray, List.set_cons_zero, List.set_cons_succ]
    refine Rg.takeS (i := 17) (oi := { dst := some 29, op := Op.load 3 (Operand.tmp 28), type := 3, pos := "vec.go:26", after := #[{ on := 16, ground := Ground.data }], guard := none }) (v := ?_) rfl (by kernel_rfl) (fun _ _ _ h => h) (by rfl) HS ?_ ?_
    rotate_left 1
    · (intro w hSw; (try dsimp only at hSw); (try go_split_ands); go_simp; (try with_reducible rfl))
    try simp only [Act.put, List.setIfInBounds_toArray, List.set_cons_zero, List.set_cons_succ]
    refine Rg.takeP (i := 18) (oi := { dst := some 30, op := Op.fieldAddr 37 (Operand.tmp 4) 2, type := 0, pos := "vec.go:26", after := #[], guard := none }) (v := ?_) rfl (by kernel_rfl) (fun _ _ _ h => h) (by rfl) ?_ ?_
    rotate_left 1
    · (intro w; go_simp; (try with_reducible rfl))
    try simp only [Act.put, List.setIfInBounds_toArray, List.set_cons_zero, List.set_cons_succ]
    refine Rg.takeS (i := 19) (oi := { dst := some 31, op := Op.load 3 (Operand.tmp 30), type := 3, pos := "vec.go:26", after := #[{ on := 18, ground := Ground.data }], guard := none }) (v := ?_) rfl (by kernel_rfl) (fun _ _ _ h => h) (by rfl) HS ?_ ?_
    rotate_left 1
    · (intro w hSw; (try dsimp only at hSw); (try go_split_ands); go_simp; (try with_reducible rfl))
    try simp only [Act.put, List.setIfInBounds_toArray, List.set_cons_zero, List.set_cons_succ]
    refine Rg.twoR (i := 6) (j := 22) (oi := { dst := some 18, op := Op.call { callee := Callee.value (Operand.tmp 12), args := #[Operand.tmp 13, Operand.tmp 15, Operand.tmp 17], argTypes := #[74, 3, 3] }, type := 3, pos := "vec.go:26", after := #[{ on := 0, ground := Ground.data }, { on := 1, ground := Ground.data }, { on := 3, ground := Ground.data }, { on := 5, ground := Ground.data }], guard := none }) (oj := { dst := some 9, op := Op.alloc 37, type := 0, pos := "vec.go:26", after := #[], guard := none }) (by kernel_rfl) rfl rfl ?_ ?_
    ·
      refine Rg.stepS ?_
      intro K hK
      rw [if_pos (by rfl)]
      go_simp
      go_at_call 59
      refine (vmul_any gk _ ax bx _ HK.out r_ax r_bx).mono ?_
      intro e w1 hc
      rw [PX_.out] at hc
      obtain ⟨rfl, hst, hg⟩ := hc
      dsimp only at hst
      have HK := Lib.hid hst
      have HA := Lib.hid (HA.out.grown hg (neq_of (by omega)))
      have HB2 := Lib.hid (HB2.out.grown hg (neq_of (by omega)))
      have HR := Lib.hid (HR.out.grown hg (neq_of (by omega)))
      have HB := Lib.hid (below_grown HB.out (Nat.le_refl _) hg (fun g e => by injection e with e; omega))
      clear hst hg HS
      have HS := And.intro ((Blk.cell HA.out 0).trans rfl) (And.intro ((Blk.cell HA.out 1).trans rfl) (And.intro ((Blk.cell HA.out 2).trans rfl) (And.intro ((Blk.cell HB2.out 0).trans rfl) (And.intro ((Blk.cell HB2.out 1).trans rfl) ((Blk.cell HB2.out 2).trans rfl)))))
      go_wp2_with fail
      refine hK.out _ _ HS ?_
      clear hK K
      try simp only [Act.put, List.setIfInBounds_toArray, List.set_cons_zero, List.set_cons_succ]
      refine Rg.twoR (i := 13) (j := 22) (oi := { dst := some 25, op := Op.call { callee := Callee.value (Operand.tmp 19), args := #[Operand.tmp 20, Operand.tmp 22, Operand.tmp 24], argTypes := #[74, 3, 3] }, type := 3, pos := "vec.go:26", after := #[{ on := 7, ground := Ground.data }, { on := 8, ground := Ground.data }, { on := 10, ground := Ground.data }, { on := 12, ground := Ground.data }, { on := 6, ground := Ground.chain }], guard := none }) (oj := { dst := some 9, op := Op.alloc 37, type := 0, pos := "vec.go:26", after := #[], guard := none }) (by kernel_rfl) rfl rfl ?_ ?_
      ·
        refine Rg.stepS ?_
        intro K hK
        rw [if_pos (by rfl)]
        go_simp
        go_at_call 59
        refine (vmul_any gk _ ay b_y _ HK.out r_ay r_b_y).mono ?_
        intro e w1 hc
        rw [PY_.out] at hc
        obtain ⟨rfl, hst, hg⟩ := hc
        dsimp only at hst
        have HK := Lib.hid hst
        have HA := Lib.hid (HA.out.grown hg (neq_of (by omega)))
        have HB2 := Lib.hid (HB2.out.grown hg (neq_of (by omega)))
        have HR := Lib.hid (HR.out.grown hg (neq_of (by omega)))
        have HB := Lib.hid (below_grown HB.out (Nat.le_refl _) hg (fun g e => by injection e with e; omega))
        clear hst hg HS
        have HS := And.intro ((Blk.cell HA.out 0).trans rfl) (And.intro ((Blk.cell HA.out 1).trans rfl) (And.intro ((Blk.cell HA.out 2).trans rfl) (And.intro ((Blk.cell HB2.out 0).trans rfl) (And.intro ((Blk.cell HB2.out 1).trans rfl) ((Blk.cell HB2.out 2).trans rfl)))))
        go_wp2_with fail
        refine hK.out _ _ HS ?_
        clear hK K
        try simp only [Act.put, List.setIfInBounds_toArray, List.set_cons_zero, List.set_cons_succ]
        refine Rg.twoR (i := 20) (j := 22) (oi := { dst := some 32, op := Op.call { callee := Callee.value (Operand.tmp 26), args := #[Operand.tmp 27, Operand.tmp 29, Operand.tmp 31], argTypes := #[74, 3, 3] }, type := 3, pos := "vec.go:26", after := #[{ on := 14, ground := Ground.data }, { on := 15, ground := Ground.data }, { on := 17, ground := Ground.data }, { on := 19, ground := Ground.data }, { on := 13, ground := Ground.chain }], guard := none }) (oj := { dst := some 9, op := Op.alloc 37, type := 0, pos := "vec.go:26", after := #[], guard := none }) (by kernel_rfl) rfl rfl ?_ ?_
        ·
          refine Rg.stepF ?_ ?_
          · kernel_rfl
          intro K hK
          rw [if_pos (by rfl)]
          go_simp
          go_at_call 59
          refine (vmul_any gk _ az bz _ HK.out r_az r_bz).mono ?_
          intro e w1 hc
          rw [PZ_.out] at hc
          obtain ⟨rfl, hst, hg⟩ := hc
          dsimp only at hst
          have HK := Lib.hid hst
          have HA := Lib.hid (HA.out.grown hg (neq_of (by omega)))
          have HB2 := Lib.hid (HB2.out.grown hg (neq_of (by omega)))
          have HR := Lib.hid (HR.out.grown hg (neq_of (by omega)))
          have HB := Lib.hid (below_grown HB.out (Nat.le_refl _) hg (fun g e => by injection e with e; omega))
          clear hst hg HS
          have HS := And.intro ((Blk.cell HA.out 0).trans rfl) (And.intro ((Blk.cell HA.out 1).trans rfl) (And.intro ((Blk.cell HA.out 2).trans rfl) (And.intro ((Blk.cell HB2.out 0).trans rfl) (And.intro ((Blk.cell HB2.out 1).trans rfl) ((Blk.cell HB2.out 2).trans rfl)))))
          go_wp2_with fail
          refine hK.out _ _ ?_
          clear hK K
          try simp only [Act.put, List.setIfInBounds_toArray, List.set_cons_zero, List.set_cons_succ]
          refine Rg.takeP (i := 21) (oi := { dst := some 33, op := Op.build 37 #[(0, Operand.tmp 18), (1, Operand.tmp 25), (2, Operand.tmp 32)], type := 37, pos := "vec.go:26", after := #[{ on := 6, ground := Ground.data }, { on := 13, ground := Ground.data }, { on := 20, ground := Ground.data }], guard := none }) (v := ?_) rfl (by kernel_rfl) (fun _ _ _ h => h) (by rfl) ?_ ?_
          rotate_left 1
          · (intro w; go_simp; (try with_reducible rfl))
          try simp only [Act.put, List.setIfInBounds_toArray, List.set_cons_zero, List.set_cons_succ]
          refine Rg.oneR (i := 22) (oi := { dst := some 9, op := Op.alloc 37, type := 0, pos := "vec.go:26", after := #[], guard := none }) rfl (by kernel_rfl) ?_
          refine Rg.stepS ?_
          intro K hK
          go_simp
          have HV := Lib.hid (show Blk (w1.alloc (.cells #[.int .i64 0, .int .i64 0, .int .i64 0] 37)) w1.heap.size 37 #[.int .i64 0, .int .i64 0, .int .i64 0] from Blk.fresh _ _ _)
          have lK := Blk.lt HK.out
          have HA := Lib.hid (HA.out.alloc (.cells #[.int .i64 0, .int .i64 0, .int .i64 0] 37))
          have HB2 := Lib.hid (HB2.out.alloc (.cells #[.int .i64 0, .int .i64 0, .int .i64 0] 37))
          have HR := Lib.hid (HR.out.alloc (.cells #[.int .i64 0, .int .i64 0, .int .i64 0] 37))
          have HK := Lib.hid (Blk.alloc HK.out (.cells #[.int .i64 0, .int .i64 0, .int .i64 0] 37))
          have HB := Lib.hid (HB.out.alloc HB.out.size (.cells #[.int .i64 0, .int .i64 0, .int .i64 0] 37))
          obtain ⟨gv, hgv⟩ : ∃ g, w1.heap.size = g := ⟨_, rfl⟩
          rw [hgv] at HV lK ⊢
          generalize (w1.alloc (.cells #[.int .i64 0, .int .i64 0, .int .i64 0] 37)) = w1 at *
          clear HS
          have HS := And.intro ((Blk.cell HA.out 0).trans rfl) (And.intro ((Blk.cell HA.out 1).trans rfl) (And.intro ((Blk.cell HA.out 2).trans rfl) (And.intro ((Blk.cell HB2.out 0).trans rfl) (And.intro ((Blk.cell HB2.out 1).trans rfl) ((Blk.cell HB2.out 2).trans rfl)))))
          refine hK.out _ _ HS ?_
          clear hK K
          try simp only [Act.put, List.setIfInBounds_toArray, List.set_cons_zero, List.set_cons_succ]
          refine Rg.oneR (i := 23) (oi := { dst := none, op := Op.store 37 (Operand.tmp 9) (Operand.tmp 33), type := 0, pos := "vec.go:26", after := #[{ on := 22, ground := Ground.data }, { on := 21, ground := Ground.data }, { on := 20, ground := Ground.chain }, { on := 0, ground := Ground.phase }, { on := 1, ground := Ground.phase }, { on := 2, ground := Ground.phase }, { on := 3, ground := Ground.phase }, { on := 4, ground := Ground.phase }, { on := 5, ground := Ground.phase }, { on := 6, ground := Ground.phase }, { on := 7, ground := Ground.phase }, { on := 8, ground := Ground.phase }, { on := 9, ground := Ground.phase }, { on := 10, ground := Ground.phase }, { on := 11, ground := Ground.phase }, { on := 12, ground := Ground.phase }, { on := 13, ground := Ground.phase }, { on := 14, ground := Ground.phase }, { on := 15, ground := Ground.phase }, { on := 16, ground := Ground.phase }, { on := 17, ground := Ground.phase }, { on := 18, ground := Ground.phase }, { on := 19, ground := Ground.phase }, { on := 20, ground := Ground.phase }, { on := 21, ground := Ground.phase }, { on := 22, ground := Ground.phase }], guard := none }) rfl (by kernel_rfl) ?_
          refine Rg.stepF ?_ ?_
          · kernel_rfl
          intro K hK
          rw [if_pos (by rfl)]
          refine wp_store_row 37 _ _ rfl gv #[.int .i64 px, .int .i64 py, .int .i64 pz] rfl rfl 37 _ HV.out (by kernel_rfl) rfl (by simp [Value.oneCell']) ?_
          have HV := Lib.hid (HV.out.setRow #[.int .i64 px, .int .i64 py, .int .i64 pz])
          have HR := Lib.hid (HR.out.setRow_other (g' := gv) (by omega) #[.int .i64 px, .int .i64 py, .int .i64 pz])
          have HK := Lib.hid (Blk.setRow_other HK.out (g' := gv) (by omega) #[.int .i64 px, .int .i64 py, .int .i64 pz])
          have HB := Lib.hid (below_setRow HB.out (show w.heap.size ≤ gv by omega) #[.int .i64 px, .int .i64 py, .int .i64 pz])
          generalize (w1.setRow gv #[.int .i64 px, .int .i64 py, .int .i64 pz]) = w1 at *
          refine hK.out _ _ ?_
          clear hK K
          try simp only [Act.put, List.setIfInBounds_toArray, List.set_cons_zero, List.set_cons_succ]
          refine Rg.doneR (by kernel_rfl) ?_ _
          refine NoPanic.normal ?_
          clear HS
          go_wp2_with fail
          go_meet
          exact ⟨_, rfl, by omega, HV.out, by have h := HK.out; rw [Bool.false_or] at h; exact h, HR.out, HB.out⟩
        ·
          refine Rg.stepS ?_
          intro K hK
          go_simp
          have HV := Lib.hid (show Blk (w1.alloc (.cells #[.int .i64 0, .int .i64 0, .int .i64 0] 37)) w1.heap.size 37 #[.int .i64 0, .int .i64 0, .int .i64 0] from Blk.fresh _ _ _)
          have lK := Blk.lt HK.out
          have HA := Lib.hid (HA.out.alloc (.cells #[.int .i64 0, .int .i64 0, .int .i64 0] 37))
          have HB2 := Lib.hid (HB2.out.alloc (.cells #[.int .i64 0, .int .i64 0, .int .i64 0] 37))
          have HR := Lib.hid (HR.out.alloc (.cells #[.int .i64 0, .int .i64 0, .int .i64 0] 37))
          have HK := Lib.hid (Blk.alloc HK.out (.cells #[.int .i64 0, .int .i64 0, .int .i64 0] 37))
          have HB := Lib.hid (HB.out.alloc HB.out.size (.cells #[.int .i64 0, .int .i64 0, .int .i64 0] 37))
          obtain ⟨gv, hgv⟩ : ∃ g, w1.heap.size = g := ⟨_, rfl⟩
          rw [hgv] at HV lK ⊢
          generalize (w1.alloc (.cells #[.int .i64 0, .int .i64 0, .int .i64 0] 37)) = w1 at *
          clear HS
          have HS := And.intro ((Blk.cell HA.out 0).trans rfl) (And.intro ((Blk.cell HA.out 1).trans rfl) (And.intro ((Blk.cell HA.out 2).trans rfl) (And.intro ((Blk.cell HB2.out 0).trans rfl) (And.intro ((Blk.cell HB2.out 1).trans rfl) ((Blk.cell HB2.out 2).trans rfl)))))
          refine hK.out _ _ HS ?_
          clear hK K
          try simp only [Act.put, List.setIfInBounds_toArray, List.set_cons_zero, List.set_cons_succ]
          refine Rg.oneR (i := 20) (oi := { dst := some 32, op := Op.call { callee := Callee.value (Operand.tmp 26), args := #[Operand.tmp 27, Operand.tmp 29, Operand.tmp 31], argTypes := #[74, 3, 3] }, type := 3, pos := "vec.go:26", after := #[{ on := 14, ground := Ground.data }, { on := 15, ground := Ground.data }, { on := 17, ground := Ground.data }, { on := 19, ground := Ground.data }, { on := 13, ground := Ground.chain }], guard := none }) rfl (by kernel_rfl) ?_
          refine Rg.stepF ?_ ?_
          · kernel_rfl
          intro K hK
          rw [if_pos (by rfl)]
          go_simp
          go_at_call 59
          refine (vmul_any gk _ az bz _ HK.out r_az r_bz).mono ?_
          intro e w1 hc
          rw [PZ_.out] at hc
          obtain ⟨rfl, hst, hg⟩ := hc
          dsimp only at hst
          have HK := Lib.hid hst
          have HA := Lib.hid (HA.out.grown hg (neq_of (by omega)))
          have HB2 := Lib.hid (HB2.out.grown hg (neq_of (by omega)))
          have HR := Lib.hid (HR.out.grown hg (neq_of (by omega)))
          have HV := Lib.hid (HV.out.grown hg (neq_of (by omega)))
          have HB := Lib.hid (below_grown HB.out (Nat.le_refl _) hg (fun g e => by injection e with e; omega))
          clear hst hg HS
          have HS := And.intro ((Blk.cell HA.out 0).trans rfl) (And.intro ((Blk.cell HA.out 1).trans rfl) (And.intro ((Blk.cell HA.out 2).trans rfl) (And.intro ((Blk.cell HB2.out 0).trans rfl) (And.intro ((Blk.cell HB2.out 1).trans rfl) ((Blk.cell HB2.out 2).trans rfl)))))
          go_wp2_with fail
          refine hK.out _ _ ?_
          clear hK K
          try simp only [Act.put, List.setIfInBounds_toArray, List.set_cons_zero, List.set_cons_succ]
          refine Rg.takeP (i := 21) (oi := { dst := some 33, op := Op.build 37 #[(0, Operand.tmp 18), (1, Operand.tmp 25), (2, Operand.tmp 32)], type := 37, pos := "vec.go:26", after := #[{ on := 6, ground := Ground.data }, { on := 13, ground := Ground.data }, { on := 20, ground := Ground.data }], guard := none }) (v := ?_) rfl (by kernel_rfl) (fun _ _ _ h => h) (by rfl) ?_ ?_
          rotate_left 1
          · (intro w; go_simp; (try with_reducible rfl))
          try simp only [Act.put, List.setIfInBounds_toArray, List.set_cons_zero, List.set_cons_succ]
          refine Rg.oneR (i := 23) (oi := { dst := none, op := Op.store 37 (Operand.tmp 9) (Operand.tmp 33), type := 0, pos := "vec.go:26", after := #[{ on := 22, ground := Ground.data }, { on := 21, ground := Ground.data }, { on := 20, ground := Ground.chain }, { on := 0, ground := Ground.phase }, { on := 1, ground := Ground.phase }, { on := 2, ground := Ground.phase }, { on := 3, ground := Ground.phase }, { on := 4, ground := Ground.phase }, { on := 5, ground := Ground.phase }, { on := 6, ground := Ground.phase }, { on := 7, ground := Ground.phase }, { on := 8, ground := Ground.phase }, { on := 9, ground := Ground.phase }, { on := 10, ground := Ground.phase }, { on := 11, ground := Ground.phase }, { on := 12, ground := Ground.phase }, { on := 13, ground := Ground.phase }, { on := 14, ground := Ground.phase }, { on := 15, ground := Ground.phase }, { on := 16, ground := Ground.phase }, { on := 17, ground := Ground.phase }, { on := 18, ground := Ground.phase }, { on := 19, ground := Ground.phase }, { on := 20, ground := Ground.phase }, { on := 21, ground := Ground.phase }, { on := 22, ground := Ground.phase }], guard := none }) rfl (by kernel_rfl) ?_
          refine Rg.stepF ?_ ?_
          · kernel_rfl
          intro K hK
          rw [if_pos (by rfl)]
          refine wp_store_row 37 _ _ rfl gv #[.int .i64 px, .int .i64 py, .int .i64 pz] rfl rfl 37 _ HV.out (by kernel_rfl) rfl (by simp [Value.oneCell']) ?_
          have HV := Lib.hid (HV.out.setRow #[.int .i64 px, .int .i64 py, .int .i64 pz])
          have HR := Lib.hid (HR.out.setRow_other (g' := gv) (by omega) #[.int .i64 px, .int .i64 py, .int .i64 pz])
          have HK := Lib.hid (Blk.setRow_other HK.out (g' := gv) (by omega) #[.int .i64 px, .int .i64 py, .int .i64 pz])
          have HB := Lib.hid (below_setRow HB.out (show w.heap.size ≤ gv by omega) #[.int .i64 px, .int .i64 py, .int .i64 pz])
          generalize (w1.setRow gv #[.int .i64 px, .int .i64 py, .int .i64 pz]) = w1 at *
          refine hK.out _ _ ?_
          clear hK K
          try simp only [Act.put, List.setIfInBounds_toArray, List.set_cons_zero, List.set_cons_succ]
          refine Rg.doneR (by kernel_rfl) ?_ _
          refine NoPanic.normal ?_
          clear HS
          go_wp2_with fail
          go_meet
          exact ⟨_, rfl, by omega, HV.out, by have h := HK.out; rw [Bool.false_or] at h; exact h, HR.out, HB.out⟩
      ·
        refine Rg.stepS ?_
        intro K hK
        go_simp
        have HV := Lib.hid (show Blk (w1.alloc (.cells #[.int .i64 0, .int .i64 0, .int .i64 0] 37)) w1.heap.size 37 #[.int .i64 0, .int .i64 0, .int .i64 0] from Blk.fresh _ _ _)
        have lK := Blk.lt HK.out
        have HA := Lib.hid (HA.out.alloc (.cells #[.int .i64 0, .int .i64 0, .int .i64 0] 37))
        have HB2 := Lib.hid (HB2.out.alloc (.cells #[.int .i64 0, .int .i64 0, .int .i64 0] 37))
        have HR := Lib.hid (HR.out.alloc (.cells #[.int .i64 0, .int .i64 0, .int .i64 0] 37))
        have HK := Lib.hid (Blk.alloc HK.out (.cells #[.int .i64 0, .int .i64 0, .int .i64 0] 37))
        have HB := Lib.hid (HB.out.alloc HB.out.size (.cells #[.int .i64 0, .int .i64 0, .int .i64 0] 37))
        obtain ⟨gv, hgv⟩ : ∃ g, w1.heap.size = g := ⟨_, rfl⟩
        rw [hgv] at HV lK ⊢
        generalize (w1.alloc (.cells #[.int .i64 0, .int .i64 0, .int .i64 0] 37)) = w1 at *
        clear HS
        have HS := And.intro ((Blk.cell HA.out 0).trans rfl) (And.intro ((Blk.cell HA.out 1).trans rfl) (And.intro ((Blk.cell HA.out 2).trans rfl) (And.intro ((Blk.cell HB2.out 0).trans rfl) (And.intro ((Blk.cell HB2.out 1).trans rfl) ((Blk.cell HB2.out 2).trans rfl)))))
        refine hK.out _ _ HS ?_
        clear hK K
        try simp only [Act.put, List.setIfInBounds_toArray, List.set_cons_zero, List.set_cons_succ]
        refine Rg.oneR (i := 13) (oi := { dst := some 25, op := Op.call { callee := Callee.value (Operand.tmp 19), args := #[Operand.tmp 20, Operand.tmp 22, Operand.tmp 24], argTypes := #[74, 3, 3] }, type := 3, pos := "vec.go:26", after := #[{ on := 7, ground := Ground.data }, { on := 8, ground := Ground.data }, { on := 10, ground := Ground.data }, { on := 12, ground := Ground.data }, { on := 6, ground := Ground.chain }], guard := none }) rfl (by kernel_rfl) ?_
        refine Rg.stepS ?_
        intro K hK
        rw [if_pos (by rfl)]
        go_simp
        go_at_call 59
        refine (vmul_any gk _ ay b_y _ HK.out r_ay r_b_y).mono ?_
        intro e w1 hc
        rw [PY_.out] at hc
        obtain ⟨rfl, hst, hg⟩ := hc
        dsimp only at hst
        have HK := Lib.hid hst
        have HA := Lib.hid (HA.out.grown hg (neq_of (by omega)))
        have HB2 := Lib.hid (HB2.out.grown hg (neq_of (by omega)))
        have HR := Lib.hid (HR.out.grown hg (neq_of (by omega)))
        have HV := Lib.hid (HV.out.grown hg (neq_of (by omega)))
        have HB := Lib.hid (below_grown HB.out (Nat.le_refl _) hg (fun g e => by injection e with e; omega))
        clear hst hg HS
        have HS := And.intro ((Blk.cell HA.out 0).trans rfl) (And.intro ((Blk.cell HA.out 1).trans rfl) (And.intro ((Blk.cell HA.out 2).trans rfl) (And.intro ((Blk.cell HB2.out 0).trans rfl) (And.intro ((Blk.cell HB2.out 1).trans rfl) ((Blk.cell HB2.out 2).trans rfl)))))
        go_wp2_with fail
        refine hK.out _ _ HS ?_
        clear hK K
        try simp only [Act.put, List.setIfInBounds_toArray, List.set_cons_zero, List.set_cons_succ]
        refine Rg.oneR (i := 20) (oi := { dst := some 32, op := Op.call { callee := Callee.value (Operand.tmp 26), args := #[Operand.tmp 27, Operand.tmp 29, Operand.tmp 31], argTypes := #[74, 3, 3] }, type := 3, pos := "vec.go:26", after := #[{ on := 14, ground := Ground.data }, { on := 15, ground := Ground.data }, { on := 17, ground := Ground.data }, { on := 19, ground := Ground.data }, { on := 13, ground := Ground.chain }], guard := none }) rfl (by kernel_rfl) ?_
        refine Rg.stepF ?_ ?_
        · kernel_rfl
        intro K hK
        rw [if_pos (by rfl)]
        go_simp
        go_at_call 59
        refine (vmul_any gk _ az bz _ HK.out r_az r_bz).mono ?_
        intro e w1 hc
        rw [PZ_.out] at hc
        obtain ⟨rfl, hst, hg⟩ := hc
        dsimp only at hst
        have HK := Lib.hid hst
        have HA := Lib.hid (HA.out.grown hg (neq_of (by omega)))
        have HB2 := Lib.hid (HB2.out.grown hg (neq_of (by omega)))
        have HR := Lib.hid (HR.out.grown hg (neq_of (by omega)))
        have HV := Lib.hid (HV.out.grown hg (neq_of (by omega)))
        have HB := Lib.hid (below_grown HB.out (Nat.le_refl _) hg (fun g e => by injection e with e; omega))
        clear hst hg HS
        have HS := And.intro ((Blk.cell HA.out 0).trans rfl) (And.intro ((Blk.cell HA.out 1).trans rfl) (And.intro ((Blk.cell HA.out 2).trans rfl) (And.intro ((Blk.cell HB2.out 0).trans rfl) (And.intro ((Blk.cell HB2.out 1).trans rfl) ((Blk.cell HB2.out 2).trans rfl)))))
        go_wp2_with fail
        refine hK.out _ _ ?_
        clear hK K
        try simp only [Act.put, List.setIfInBounds_toArray, List.set_cons_zero, List.set_cons_succ]
        refine Rg.takeP (i := 21) (oi := { dst := some 33, op := Op.build 37 #[(0, Operand.tmp 18), (1, Operand.tmp 25), (2, Operand.tmp 32)], type := 37, pos := "vec.go:26", after := #[{ on := 6, ground := Ground.data }, { on := 13, ground := Ground.data }, { on := 20, ground := Ground.data }], guard := none }) (v := ?_) rfl (by kernel_rfl) (fun _ _ _ h => h) (by rfl) ?_ ?_
        rotate_left 1
        · (intro w; go_simp; (try with_reducible rfl))
        try simp only [Act.put, List.setIfInBounds_toArray, List.set_cons_zero, List.set_cons_succ]
        refine Rg.oneR (i := 23) (oi := { dst := none, op := Op.store 37 (Operand.tmp 9) (Operand.tmp 33), type := 0, pos := "vec.go:26", after := #[{ on := 22, ground := Ground.data }, { on := 21, ground := Ground.data }, { on := 20, ground := Ground.chain }, { on := 0, ground := Ground.phase }, { on := 1, ground := Ground.phase }, { on := 2, ground := Ground.phase }, { on := 3, ground := Ground.phase }, { on := 4, ground := Ground.phase }, { on := 5, ground := Ground.phase }, { on := 6, ground := Ground.phase }, { on := 7, ground := Ground.phase }, { on := 8, ground := Ground.phase }, { on := 9, ground := Ground.phase }, { on := 10, ground := Ground.phase }, { on := 11, ground := Ground.phase }, { on := 12, ground := Ground.phase }, { on := 13, ground := Ground.phase }, { on := 14, ground := Ground.phase }, { on := 15, ground := Ground.phase }, { on := 16, ground := Ground.phase }, { on := 17, ground := Ground.phase }, { on := 18, ground := Ground.phase }, { on := 19, ground := Ground.phase }, { on := 20, ground := Ground.phase }, { on := 21, ground := Ground.phase }, { on := 22, ground := Ground.phase }], guard := none }) rfl (by kernel_rfl) ?_
        refine Rg.stepF ?_ ?_
        · kernel_rfl
        intro K hK
        rw [if_pos (by rfl)]
        refine wp_store_row 37 _ _ rfl gv #[.int .i64 px, .int .i64 py, .int .i64 pz] rfl rfl 37 _ HV.out (by kernel_rfl) rfl (by simp [Value.oneCell']) ?_
        have HV := Lib.hid (HV.out.setRow #[.int .i64 px, .int .i64 py, .int .i64 pz])
        have HR := Lib.hid (HR.out.setRow_other (g' := gv) (by omega) #[.int .i64 px, .int .i64 py, .int .i64 pz])
        have HK := Lib.hid (Blk.setRow_other HK.out (g' := gv) (by omega) #[.int .i64 px, .int .i64 py, .int .i64 pz])
        have HB := Lib.hid (below_setRow HB.out (show w.heap.size ≤ gv by omega) #[.int .i64 px, .int .i64 py, .int .i64 pz])
        generalize (w1.setRow gv #[.int .i64 px, .int .i64 py, .int .i64 pz]) = w1 at *
        refine hK.out _ _ ?_
        clear hK K
        try simp only [Act.put, List.setIfInBounds_toArray, List.set_cons_zero, List.set_cons_succ]
        refine Rg.doneR (by kernel_rfl) ?_ _
        refine NoPanic.normal ?_
        clear HS
        go_wp2_with fail
        go_meet
        exact ⟨_, rfl, by omega, HV.out, by have h := HK.out; rw [Bool.false_or] at h; exact h, HR.out, HB.out⟩
    ·
      refine Rg.stepS ?_
      intro K hK
      go_simp
      have HV := Lib.hid (show Blk (w1.alloc (.cells #[.int .i64 0, .int .i64 0, .int .i64 0] 37)) w1.heap.size 37 #[.int .i64 0, .int .i64 0, .int .i64 0] from Blk.fresh _ _ _)
      have lK := Blk.lt HK.out
      have HA := Lib.hid (HA.out.alloc (.cells #[.int .i64 0, .int .i64 0, .int .i64 0] 37))
      have HB2 := Lib.hid (HB2.out.alloc (.cells #[.int .i64 0, .int .i64 0, .int .i64 0] 37))
      have HR := Lib.hid (HR.out.alloc (.cells #[.int .i64 0, .int .i64 0, .int .i64 0] 37))
      have HK := Lib.hid (Blk.alloc HK.out (.cells #[.int .i64 0, .int .i64 0, .int .i64 0] 37))
      have HB := Lib.hid (HB.out.alloc HB.out.size (.cells #[.int .i64 0, .int .i64 0, .int .i64 0] 37))
      obtain ⟨gv, hgv⟩ : ∃ g, w1.heap.size = g := ⟨_, rfl⟩
      rw [hgv] at HV lK ⊢
      generalize (w1.alloc (.cells #[.int .i64 0, .int .i64 0, .int .i64 0] 37)) = w1 at *
      clear HS
      have HS := And.intro ((Blk.cell HA.out 0).trans rfl) (And.intro ((Blk.cell HA.out 1).trans rfl) (And.intro ((Blk.cell HA.out 2).trans rfl) (And.intro ((Blk.cell HB2.out 0).trans rfl) (And.intro ((Blk.cell HB2.out 1).trans rfl) ((Blk.cell HB2.out 2).trans rfl)))))
      refine hK.out _ _ HS ?_
      clear hK K
      try simp only [Act.put, List.setIfInBounds_toArray, List.set_cons_zero, List.set_cons_succ]
      refine Rg.oneR (i := 6) (oi := { dst := some 18, op := Op.call { callee := Callee.value (Operand.tmp 12), args := #[Operand.tmp 13, Operand.tmp 15, Operand.tmp 17], argTypes := #[74, 3, 3] }, type := 3, pos := "vec.go:26", after := #[{ on := 0, ground := Ground.data }, { on := 1, ground := Ground.data }, { on := 3, ground := Ground.data }, { on := 5, ground := Ground.data }], guard := none }) rfl (by kernel_rfl) ?_
      refine Rg.stepS ?_
      intro K hK
      rw [if_pos (by rfl)]
      go_simp
      go_at_call 59
      refine (vmul_any gk _ ax bx _ HK.out r_ax r_bx).mono ?_
      intro e w1 hc
      rw [PX_.out] at hc
      obtain ⟨rfl, hst, hg⟩ := hc
      dsimp only at hst
      have HK := Lib.hid hst
      have HA := Lib.hid (HA.out.grown hg (neq_of (by omega)))
      have HB2 := Lib.hid (HB2.out.grown hg (neq_of (by omega)))
      have HR := Lib.hid (HR.out.grown hg (neq_of (by omega)))
      have HV := Lib.hid (HV.out.grown hg (neq_of (by omega)))
      have HB := Lib.hid (below_grown HB.out (Nat.le_refl _) hg (fun g e => by injection e with e; omega))
      clear hst hg HS
      have HS := And.intro ((Blk.cell HA.out 0).trans rfl) (And.intro ((Blk.cell HA.out 1).trans rfl) (And.intro ((Blk.cell HA.out 2).trans rfl) (And.intro ((Blk.cell HB2.out 0).trans rfl) (And.intro ((Blk.cell HB2.out 1).trans rfl) ((Blk.cell HB2.out 2).trans rfl)))))
      go_wp2_with fail
      refine hK.out _ _ HS ?_
      clear hK K
      try simp only [Act.put, List.setIfInBounds_toArray, List.set_cons_zero, List.set_cons_succ]
      refine Rg.oneR (i := 13) (oi := { dst := some 25, op := Op.call { callee := Callee.value (Operand.tmp 19), args := #[Operand.tmp 20, Operand.tmp 22, Operand.tmp 24], argTypes := #[74, 3, 3] }, type := 3, pos := "vec.go:26", after := #[{ on := 7, ground := Ground.data }, { on := 8, ground := Ground.data }, { on := 10, ground := Ground.data }, { on := 12, ground := Ground.data }, { on := 6, ground := Ground.chain }], guard := none }) rfl (by kernel_rfl) ?_
      refine Rg.stepS ?_
      intro K hK
      rw [if_pos (by rfl)]
      go_simp
      go_at_call 59
      refine (vmul_any gk _ ay b_y _ HK.out r_ay r_b_y).mono ?_
      intro e w1 hc
      rw [PY_.out] at hc
      obtain ⟨rfl, hst, hg⟩ := hc
      dsimp only at hst
      have HK := Lib.hid hst
      have HA := Lib.hid (HA.out.grown hg (neq_of (by omega)))
      have HB2 := Lib.hid (HB2.out.grown hg (neq_of (by omega)))
      have HR := Lib.hid (HR.out.grown hg (neq_of (by omega)))
      have HV := Lib.hid (HV.out.grown hg (neq_of (by omega)))
      have HB := Lib.hid (below_grown HB.out (Nat.le_refl _) hg (fun g e => by injection e with e; omega))
      clear hst hg HS
      have HS := And.intro ((Blk.cell HA.out 0).trans rfl) (And.intro ((Blk.cell HA.out 1).trans rfl) (And.intro ((Blk.cell HA.out 2).trans rfl) (And.intro ((Blk.cell HB2.out 0).trans rfl) (And.intro ((Blk.cell HB2.out 1).trans rfl) ((Blk.cell HB2.out 2).trans rfl)))))
      go_wp2_with fail
      refine hK.out _ _ HS ?_
      clear hK K
      try simp only [Act.put, List.setIfInBounds_toArray, List.set_cons_zero, List.set_cons_succ]
      refine Rg.oneR (i := 20) (oi := { dst := some 32, op := Op.call { callee := Callee.value (Operand.tmp 26), args := #[Operand.tmp 27, Operand.tmp 29, Operand.tmp 31], argTypes := #[74, 3, 3] }, type := 3, pos := "vec.go:26", after := #[{ on := 14, ground := Ground.data }, { on := 15, ground := Ground.data }, { on := 17, ground := Ground.data }, { on := 19, ground := Ground.data }, { on := 13, ground := Ground.chain }], guard := none }) rfl (by kernel_rfl) ?_
      refine Rg.stepF ?_ ?_
      · kernel_rfl
      intro K hK
      rw [if_pos (by rfl)]
      go_simp
      go_at_call 59
      refine (vmul_any gk _ az bz _ HK.out r_az r_bz).mono ?_
      intro e w1 hc
      rw [PZ_.out] at hc
      obtain ⟨rfl, hst, hg⟩ := hc
      dsimp only at hst
      have HK := Lib.hid hst
      have HA := Lib.hid (HA.out.grown hg (neq_of (by omega)))
      have HB2 := Lib.hid (HB2.out.grown hg (neq_of (by omega)))
      have HR := Lib.hid (HR.out.grown hg (neq_of (by omega)))
      have HV := Lib.hid (HV.out.grown hg (neq_of (by omega)))
      have HB := Lib.hid (below_grown HB.out (Nat.le_refl _) hg (fun g e => by injection e with e; omega))
      clear hst hg HS
      have HS := And.intro ((Blk.cell HA.out 0).trans rfl) (And.intro ((Blk.cell HA.out 1).trans rfl) (And.intro ((Blk.cell HA.out 2).trans rfl) (And.intro ((Blk.cell HB2.out 0).trans rfl) (And.intro ((Blk.cell HB2.out 1).trans rfl) ((Blk.cell HB2.out 2).trans rfl)))))
      go_wp2_with fail
      refine hK.out _ _ ?_
      clear hK K
      try simp only [Act.put, List.setIfInBounds_toArray, List.set_cons_zero, List.set_cons_succ]
      refine Rg.takeP (i := 21) (oi := { dst := some 33, op := Op.build 37 #[(0, Operand.tmp 18), (1, Operand.tmp 25), (2, Operand.tmp 32)], type := 37, pos := "vec.go:26", after := #[{ on := 6, ground := Ground.data }, { on := 13, ground := Ground.data }, { on := 20, ground := Ground.data }], guard := none }) (v := ?_) rfl (by kernel_rfl) (fun _ _ _ h => h) (by rfl) ?_ ?_
      rotate_left 1
      · (intro w; go_simp; (try with_reducible rfl))
      try simp only [Act.put, List.setIfInBounds_toArray, List.set_cons_zero, List.set_cons_succ]
      refine Rg.oneR (i := 23) (oi := { dst := none, op := Op.store 37 (Operand.tmp 9) (Operand.tmp 33), type := 0, pos := "vec.go:26", after := #[{ on := 22, ground := Ground.data }, { on := 21, ground := Ground.data }, { on := 20, ground := Ground.chain }, { on := 0, ground := Ground.phase }, { on := 1, ground := Ground.phase }, { on := 2, ground := Ground.phase }, { on := 3, ground := Ground.phase }, { on := 4, ground := Ground.phase }, { on := 5, ground := Ground.phase }, { on := 6, ground := Ground.phase }, { on := 7, ground := Ground.phase }, { on := 8, ground := Ground.phase }, { on := 9, ground := Ground.phase }, { on := 10, ground := Ground.phase }, { on := 11, ground := Ground.phase }, { on := 12, ground := Ground.phase }, { on := 13, ground := Ground.phase }, { on := 14, ground := Ground.phase }, { on := 15, ground := Ground.phase }, { on := 16, ground := Ground.phase }, { on := 17, ground := Ground.phase }, { on := 18, ground := Ground.phase }, { on := 19, ground := Ground.phase }, { on := 20, ground := Ground.phase }, { on := 21, ground := Ground.phase }, { on := 22, ground := Ground.phase }], guard := none }) rfl (by kernel_rfl) ?_
      refine Rg.stepF ?_ ?_
      · kernel_rfl
      intro K hK
      rw [if_pos (by rfl)]
      refine wp_store_row 37 _ _ rfl gv #[.int .i64 px, .int .i64 py, .int .i64 pz] rfl rfl 37 _ HV.out (by kernel_rfl) rfl (by simp [Value.oneCell']) ?_
      have HV := Lib.hid (HV.out.setRow #[.int .i64 px, .int .i64 py, .int .i64 pz])
      have HR := Lib.hid (HR.out.setRow_other (g' := gv) (by omega) #[.int .i64 px, .int .i64 py, .int .i64 pz])
      have HK := Lib.hid (Blk.setRow_other HK.out (g' := gv) (by omega) #[.int .i64 px, .int .i64 py, .int .i64 pz])
      have HB := Lib.hid (below_setRow HB.out (show w.heap.size ≤ gv by omega) #[.int .i64 px, .int .i64 py, .int .i64 pz])
      generalize (w1.setRow gv #[.int .i64 px, .int .i64 py, .int .i64 pz]) = w1 at *
      refine hK.out _ _ ?_
      clear hK K
      try simp only [Act.put, List.setIfInBounds_toArray, List.set_cons_zero, List.set_cons_succ]
      refine Rg.doneR (by kernel_rfl) ?_ _
      refine NoPanic.normal ?_
      clear HS
      go_wp2_with fail
      go_meet
      exact ⟨_, rfl, by omega, HV.out, by have h := HK.out; rw [Bool.false_or] at h; exact h, HR.out, HB.out⟩
  case rest =>
    obtain ⟨gv, rfl, hgv, hv, hk, hr, hb⟩ := hcut
    have HV := Lib.hid hv
    have HK := Lib.hid hk
    have HR := Lib.hid hr
    have HB := Lib.hid hb
    clear hv hk hr hb
    go_upto_region 3 with fail
    have HV := Lib.hid HV.out.drew
    have HK := Lib.hid (Blk.drew HK.out)
    have HR := Lib.hid HR.out.drew
    have HB := Lib.hid HB.out.drew
    have HS := And.intro HV.out ((Blk.cell HK.out 0).trans rfl)
    refine wp_region_noPanic ?_
    refine Rg.beginR [0, 4] (fun w' => Blk w' gv 37 #[.int .i64 px, .int .i64 py, .int .i64 pz] ∧ w'.cell? ⟨gk, 0, none⟩ = some (.bool (xb || yb || zb))) (by kernel_rfl) ?_
    generalize wc.drew = w1 at *
    refine Rg.takeS (i := 0) (oi := { dst := some 34, op := Op.load 37 (Operand.tmp 9), type := 37, pos := "vec.go:27", after := #[], guard := none }) (v := .agg #[.int .i64 px, .int .i64 py, .int .i64 pz]) rfl (by kernel_rfl) (fun _ _ _ h => h) (by rfl) HS ?_ ?_
    · (intro w' hSw; exact exec_load_st 37 (.tmp 9) rfl gv rfl hSw.1 Try.underlying37 rfl (by kernel_rfl))
    try simp only [Act.put, List.setIfInBounds_toArray, List.set_cons_zero, List.set_cons_succ]
    refine Rg.takeP (i := 1) (oi := { dst := some 35, op := Op.move (Operand.tmp 8), type := 74, pos := "vec.go:27", after := #[{ on := 5, ground := Ground.gcOnly Departure.lateStores }], guard := none }) (v := ?_) rfl (by kernel_rfl) (fun _ _ _ h => h) (by rfl) ?_ ?_
    rotate_left 1
    · (intro w; go_simp; (try with_reducible rfl))
    try simp only [Act.put, List.setIfInBounds_toArray, List.set_cons_zero, List.set_cons_succ]
    refine Rg.takeP (i := 2) (oi := { dst := some 36, op := Op.nilCheck (Operand.tmp 35), type := 0, pos := "vec.go:27", after := #[{ on := 1, ground := Ground.data }, { on := 5, ground := Ground.gcOnly Departure.lateStores }], guard := none }) (v := ?_) rfl (by kernel_rfl) (fun _ _ _ h => h) (by rfl) ?_ ?_
    rotate_left 1
    · (intro w; go_simp; (try with_reducible rfl))
    try simp only [Act.put, List.setIfInBounds_toArray, List.set_cons_zero, List.set_cons_succ]
    refine Rg.takeP (i := 3) (oi := { dst := some 37, op := Op.fieldAddr 76 (Operand.tmp 36) 0, type := 0, pos := "vec.go:27", after := #[{ on := 2, ground := Ground.data }, { on := 5, ground := Ground.gcOnly Departure.lateStores }], guard := none }) (v := ?_) rfl (by kernel_rfl) (fun _ _ _ h => h) (by rfl) ?_ ?_
    rotate_left 1
    · (intro w; go_simp; (try with_reducible rfl))
    try simp only [Act.put, List.setIfInBounds_toArray, List.set_cons_zero, List.set_cons_succ]
    refine Rg.takeS (i := 4) (oi := { dst := some 38, op := Op.load 4 (Operand.tmp 37), type := 4, pos := "vec.go:27", after := #[{ on := 3, ground := Ground.data }, { on := 5, ground := Ground.gcOnly Departure.lateStores }], guard := none }) (v := ?_) rfl (by kernel_rfl) (fun _ _ _ h => h) (by rfl) HS ?_ ?_
    rotate_left 1
    · (intro w hSw; (try dsimp only at hSw); (try go_split_ands); go_simp; (try with_reducible rfl))
    try simp only [Act.put, List.setIfInBounds_toArray, List.set_cons_zero, List.set_cons_succ]
    refine Rg.oneR (i := 5) (oi := { dst := none, op := Op.store 37 (Operand.tmp 6) (Operand.tmp 34), type := 0, pos := "vec.go:27", after := #[{ on := 0, ground := Ground.data }, { on := 0, ground := Ground.phase }, { on := 1, ground := Ground.textOnly Departure.lateStores }, { on := 2, ground := Ground.textOnly Departure.lateStores }, { on := 3, ground := Ground.textOnly Departure.lateStores }, { on := 4, ground := Ground.textOnly Departure.lateStores }], guard := none }) rfl (by kernel_rfl) ?_
    refine Rg.stepS ?_
    intro K hK
    rw [if_pos (by rfl)]
    refine wp_store_row 37 _ _ rfl gr #[.int .i64 px, .int .i64 py, .int .i64 pz] rfl rfl 37 _ HR.out (by kernel_rfl) rfl (by simp [Value.oneCell']) ?_
    have HR := Lib.hid (HR.out.setRow #[.int .i64 px, .int .i64 py, .int .i64 pz])
    have HV := Lib.hid (HV.out.setRow_other (g' := gr) (by omega) #[.int .i64 px, .int .i64 py, .int .i64 pz])
    have HK := Lib.hid (Blk.setRow_other HK.out (g' := gr) (by omega) #[.int .i64 px, .int .i64 py, .int .i64 pz])
    have HB := Lib.hid (below_setRow HB.out (show w.heap.size ≤ gr by omega) #[.int .i64 px, .int .i64 py, .int .i64 pz])
    generalize (w1.setRow gr #[.int .i64 px, .int .i64 py, .int .i64 pz]) = w1 at *
    clear HS
    have HS := And.intro HV.out ((Blk.cell HK.out 0).trans rfl)
    refine hK.out _ _ HS ?_
    clear hK K
    try simp only [Act.put, List.setIfInBounds_toArray, List.set_cons_zero, List.set_cons_succ]
    refine Rg.takeP (i := 6) (oi := { dst := some 7, op := Op.assign (Operand.tmp 38), type := 4, pos := "vec.go:27", after := #[{ on := 4, ground := Ground.data }, { on := 5, ground := Ground.chain }, { on := 0, ground := Ground.phase }, { on := 1, ground := Ground.phase }, { on := 2, ground := Ground.phase }, { on := 3, ground := Ground.phase }, { on := 4, ground := Ground.phase }, { on := 5, ground := Ground.phase }], guard := none }) (v := ?_) rfl (by kernel_rfl) (fun _ _ _ h => h) (by rfl) ?_ ?_
    rotate_left 1
    · (intro w; go_simp; (try with_reducible rfl))
    try simp only [Act.put, List.setIfInBounds_toArray, List.set_cons_zero, List.set_cons_succ]
    refine Rg.doneR (by kernel_rfl) ?_ _
    refine NoPanic.normal ?_
    clear HS
    go_wp2_with fail
    refine ret_row2 (x := .bool (xb || yb || zb)) rfl rfl rfl HR.out ⟨by rw [Try.underlying37], by kernel_rfl⟩ rfl ?_
    exact ⟨by rw [PX_.out, PY_.out, PZ_.out]; rfl, HB.out⟩

set_option maxRecDepth 100000 in
set_option maxHeartbeats 1000000 in
theorem vecAdd_any (ax ay az bx b_y bz : Int) (w : World) (r_ax : In64 ax) (r_ay : In64 ay) (r_az : In64 az) (r_bx : In64 bx) (r_b_y : In64 b_y) (r_bz : In64 bz) :
    Calls Try.prog 22 #[vecV ax ay az, vecV bx b_y bz] w fun e w' => TwoV w w' (fadd ax bx) (fadd ay b_y) (fadd az bz) e := by
  unfold vecV
  have HA := Lib.hid (show Blk (((w.alloc (.cells #[.int .i64 ax, .int .i64 ay, .int .i64 az] 37)).alloc (.cells #[.int .i64 bx, .int .i64 b_y, .int .i64 bz] 37)).alloc (.cells #[.int .i64 0, .int .i64 0, .int .i64 0] 37)) w.heap.size 37 #[.int .i64 ax, .int .i64 ay, .int .i64 az] from ((Blk.new rfl).alloc _).alloc _)
  have HB2 := Lib.hid (show Blk (((w.alloc (.cells #[.int .i64 ax, .int .i64 ay, .int .i64 az] 37)).alloc (.cells #[.int .i64 bx, .int .i64 b_y, .int .i64 bz] 37)).alloc (.cells #[.int .i64 0, .int .i64 0, .int .i64 0] 37)) (w.heap.size + 1) 37 #[.int .i64 bx, .int .i64 b_y, .int .i64 bz] from (Blk.new (by simp)).alloc _)
  have HR := Lib.hid (show Blk (((w.alloc (.cells #[.int .i64 ax, .int .i64 ay, .int .i64 az] 37)).alloc (.cells #[.int .i64 bx, .int .i64 b_y, .int .i64 bz] 37)).alloc (.cells #[.int .i64 0, .int .i64 0, .int .i64 0] 37)) (w.heap.size + 1 + 1) 37 #[.int .i64 0, .int .i64 0, .int .i64 0] from Blk.new (by simp))
  have HB := Lib.hid (show Below w.heap.size w (((w.alloc (.cells #[.int .i64 ax, .int .i64 ay, .int .i64 az] 37)).alloc (.cells #[.int .i64 bx, .int .i64 b_y, .int .i64 bz] 37)).alloc (.cells #[.int .i64 0, .int .i64 0, .int .i64 0] 37)) from (((Below.refl _ _).alloc (Nat.le_refl _) _).alloc (by simp) _).alloc (by simp; omega) _)
  obtain ⟨⟨px, xb⟩, h_px⟩ : ∃ res_, fadd ax bx = res_ := ⟨_, rfl⟩
  have PX_ := Lib.hid h_px
  have r_px : In64 px := by have h := fadd_range ax bx; rw [h_px] at h; exact h
  clear h_px
  obtain ⟨⟨py, yb⟩, h_py⟩ : ∃ res_, fadd ay b_y = res_ := ⟨_, rfl⟩
  have PY_ := Lib.hid h_py
  have r_py : In64 py := by have h := fadd_range ay b_y; rw [h_py] at h; exact h
  clear h_py
  obtain ⟨⟨pz, zb⟩, h_pz⟩ : ∃ res_, fadd az bz = res_ := ⟨_, rfl⟩
  have PZ_ := Lib.hid h_pz
  have r_pz : In64 pz := by have h := fadd_range az bz; rw [h_pz] at h; exact h
  clear h_pz
  go_enter Try.func22, Try.ntmps22
  go_upto_region 1 with fail
  generalize (((w.alloc (.cells #[.int .i64 ax, .int .i64 ay, .int .i64 az] 37)).alloc (.cells #[.int .i64 bx, .int .i64 b_y, .int .i64 bz] 37)).alloc (.cells #[.int .i64 0, .int .i64 0, .int .i64 0] 37)) = w1 at *
  obtain ⟨gr, hgr⟩ : ∃ g, w.heap.size + 1 + 1 = g := ⟨_, rfl⟩
  rw [hgr] at HR ⊢
  obtain ⟨gb, hgb⟩ : ∃ g, w.heap.size + 1 = g := ⟨_, rfl⟩
  rw [hgb] at HB2 ⊢
  go_wp2_with (first | (refine wpList_whole rfl 37 _ rfl w.heap.size rfl HA.out _ Try.underlying37 rfl (by kernel_rfl) ?_) | (refine wpList_whole rfl 37 _ rfl gb rfl HB2.out _ Try.underlying37 rfl (by kernel_rfl) ?_))
  refine (each_add ax ay az bx b_y bz _ r_ax r_ay r_az r_bx r_b_y r_bz).mono ?_
  rintro e w1 ⟨rfl, hb⟩
  rw [PX_.out, PY_.out, PZ_.out]
  simp only [vecV]
  have HR := Lib.hid (HR.out.below hb HR.out.lt)
  have HB := Lib.hid (onward HB.out (Nat.le_refl _) hb)
  clear hb
  go_wp2_with (refine wpList_store_row rfl 37 _ _ rfl gr #[.int .i64 px, .int .i64 py, .int .i64 pz] rfl rfl 37 _ HR.out (by kernel_rfl) rfl (by simp [Value.oneCell']) ?_)
  refine ret_row2 (x := .bool (xb || yb || zb)) rfl rfl rfl (HR.out.setRow #[.int .i64 px, .int .i64 py, .int .i64 pz]) ⟨by rw [Try.underlying37], by kernel_rfl⟩ rfl ?_
  exact ⟨by rw [PX_.out, PY_.out, PZ_.out]; rfl, below_setRow HB.out (by omega) _⟩

set_option maxRecDepth 100000 in
set_option maxHeartbeats 1000000 in
theorem vecSub_any (ax ay az bx b_y bz : Int) (w : World) (r_ax : In64 ax) (r_ay : In64 ay) (r_az : In64 az) (r_bx : In64 bx) (r_b_y : In64 b_y) (r_bz : In64 bz) :
    Calls Try.prog 24 #[vecV ax ay az, vecV bx b_y bz] w fun e w' => TwoV w w' (fsub ax bx) (fsub ay b_y) (fsub az bz) e := by
  unfold vecV
  have HA := Lib.hid (show Blk (((w.alloc (.cells #[.int .i64 ax, .int .i64 ay, .int .i64 az] 37)).alloc (.cells #[.int .i64 bx, .int .i64 b_y, .int .i64 bz] 37)).alloc (.cells #[.int .i64 0, .int .i64 0, .int .i64 0] 37)) w.heap.size 37 #[.int .i64 ax, .int .i64 ay, .int .i64 az] from ((Blk.new rfl).alloc _).alloc _)
  have HB2 := Lib.hid (show Blk (((w.alloc (.cells #[.int .i64 ax, .int .i64 ay, .int .i64 az] 37)).alloc (.cells #[.int .i64 bx, .int .i64 b_y, .int .i64 bz] 37)).alloc (.cells #[.int .i64 0, .int .i64 0, .int .i64 0] 37)) (w.heap.size + 1) 37 #[.int .i64 bx, .int .i64 b_y, .int .i64 bz] from (Blk.new (by simp)).alloc _)
  have HR := Lib.hid (show Blk (((w.alloc (.cells #[.int .i64 ax, .int .i64 ay, .int .i64 az] 37)).alloc (.cells #[.int .i64 bx, .int .i64 b_y, .int .i64 bz] 37)).alloc (.cells #[.int .i64 0, .int .i64 0, .int .i64 0] 37)) (w.heap.size + 1 + 1) 37 #[.int .i64 0, .int .i64 0, .int .i64 0] from Blk.new (by simp))
  have HB := Lib.hid (show Below w.heap.size w (((w.alloc (.cells #[.int .i64 ax, .int .i64 ay, .int .i64 az] 37)).alloc (.cells #[.int .i64 bx, .int .i64 b_y, .int .i64 bz] 37)).alloc (.cells #[.int .i64 0, .int .i64 0, .int .i64 0] 37)) from (((Below.refl _ _).alloc (Nat.le_refl _) _).alloc (by simp) _).alloc (by simp; omega) _)
  obtain ⟨⟨px, xb⟩, h_px⟩ : ∃ res_, fsub ax bx = res_ := ⟨_, rfl⟩
  have PX_ := Lib.hid h_px
  have r_px : In64 px := by have h := fsub_range ax bx; rw [h_px] at h; exact h
  clear h_px
  obtain ⟨⟨py, yb⟩, h_py⟩ : ∃ res_, fsub ay b_y = res_ := ⟨_, rfl⟩
  have PY_ := Lib.hid h_py
  have r_py : In64 py := by have h := fsub_range ay b_y; rw [h_py] at h; exact h
  clear h_py
  obtain ⟨⟨pz, zb⟩, h_pz⟩ : ∃ res_, fsub az bz = res_ := ⟨_, rfl⟩
  have PZ_ := Lib.hid h_pz
  have r_pz : In64 pz := by have h := fsub_range az bz; rw [h_pz] at h; exact h
  clear h_pz
  go_enter Try.func24, Try.ntmps24
  go_upto_region 1 with fail
  generalize (((w.alloc (.cells #[.int .i64 ax, .int .i64 ay, .int .i64 az] 37)).alloc (.cells #[.int .i64 bx, .int .i64 b_y, .int .i64 bz] 37)).alloc (.cells #[.int .i64 0, .int .i64 0, .int .i64 0] 37)) = w1 at *
  obtain ⟨gr, hgr⟩ : ∃ g, w.heap.size + 1 + 1 = g := ⟨_, rfl⟩
  rw [hgr] at HR ⊢
  obtain ⟨gb, hgb⟩ : ∃ g, w.heap.size + 1 = g := ⟨_, rfl⟩
  rw [hgb] at HB2 ⊢
  go_wp2_with (first | (refine wpList_whole rfl 37 _ rfl w.heap.size rfl HA.out _ Try.underlying37 rfl (by kernel_rfl) ?_) | (refine wpList_whole rfl 37 _ rfl gb rfl HB2.out _ Try.underlying37 rfl (by kernel_rfl) ?_))
  refine (each_sub ax ay az bx b_y bz _ r_ax r_ay r_az r_bx r_b_y r_bz).mono ?_
  rintro e w1 ⟨rfl, hb⟩
  rw [PX_.out, PY_.out, PZ_.out]
  simp only [vecV]
  have HR := Lib.hid (HR.out.below hb HR.out.lt)
  have HB := Lib.hid (onward HB.out (Nat.le_refl _) hb)
  clear hb
  go_wp2_with (refine wpList_store_row rfl 37 _ _ rfl gr #[.int .i64 px, .int .i64 py, .int .i64 pz] rfl rfl 37 _ HR.out (by kernel_rfl) rfl (by simp [Value.oneCell']) ?_)
  refine ret_row2 (x := .bool (xb || yb || zb)) rfl rfl rfl (HR.out.setRow #[.int .i64 px, .int .i64 py, .int .i64 pz]) ⟨by rw [Try.underlying37], by kernel_rfl⟩ rfl ?_
  exact ⟨by rw [PX_.out, PY_.out, PZ_.out]; rfl, below_setRow HB.out (by omega) _⟩

set_option maxRecDepth 100000 in
set_option maxHeartbeats 1000000 in
theorem vecScale_any (ax ay az k : Int) (w : World) (r_ax : In64 ax) (r_ay : In64 ay) (r_az : In64 az) (r_k : In64 k) :
    Calls Try.prog 26 #[vecV ax ay az, .int .i64 k] w fun e w' => TwoV w w' (fmul ax k) (fmul ay k) (fmul az k) e := by
  unfold vecV
  have HA := Lib.hid (show Blk ((w.alloc (.cells #[.int .i64 ax, .int .i64 ay, .int .i64 az] 37)).alloc (.cells #[.int .i64 0, .int .i64 0, .int .i64 0] 37)) w.heap.size 37 #[.int .i64 ax, .int .i64 ay, .int .i64 az] from (Blk.new rfl).alloc _)
  have HR := Lib.hid (show Blk ((w.alloc (.cells #[.int .i64 ax, .int .i64 ay, .int .i64 az] 37)).alloc (.cells #[.int .i64 0, .int .i64 0, .int .i64 0] 37)) (w.heap.size + 1) 37 #[.int .i64 0, .int .i64 0, .int .i64 0] from Blk.new (by simp))
  have HB := Lib.hid (show Below w.heap.size w ((w.alloc (.cells #[.int .i64 ax, .int .i64 ay, .int .i64 az] 37)).alloc (.cells #[.int .i64 0, .int .i64 0, .int .i64 0] 37)) from ((Below.refl _ _).alloc (Nat.le_refl _) _).alloc (by simp) _)
  obtain ⟨⟨px, xb⟩, h_px⟩ : ∃ res_, fmul ax k = res_ := ⟨_, rfl⟩
  have PX_ := Lib.hid h_px
  have r_px : In64 px := by have h := fmul_range ax k; rw [h_px] at h; exact h
  clear h_px
  obtain ⟨⟨py, yb⟩, h_py⟩ : ∃ res_, fmul ay k = res_ := ⟨_, rfl⟩
  have PY_ := Lib.hid h_py
  have r_py : In64 py := by have h := fmul_range ay k; rw [h_py] at h; exact h
  clear h_py
  obtain ⟨⟨pz, zb⟩, h_pz⟩ : ∃ res_, fmul az k = res_ := ⟨_, rfl⟩
  have PZ_ := Lib.hid h_pz
  have r_pz : In64 pz := by have h := fmul_range az k; rw [h_pz] at h; exact h
  clear h_pz
  go_enter Try.func26, Try.ntmps26
  go_upto_region 1 with fail
  generalize ((w.alloc (.cells #[.int .i64 ax, .int .i64 ay, .int .i64 az] 37)).alloc (.cells #[.int .i64 0, .int .i64 0, .int .i64 0] 37)) = w1 at *
  obtain ⟨gr, hgr⟩ : ∃ g, w.heap.size + 1 = g := ⟨_, rfl⟩
  rw [hgr] at HR ⊢
  go_wp2_with (refine wpList_whole rfl 37 _ rfl w.heap.size rfl HA.out _ Try.underlying37 rfl (by kernel_rfl) ?_)
  refine (each_mul ax ay az k k k _ r_ax r_ay r_az r_k r_k r_k).mono ?_
  rintro e w1 ⟨rfl, hb⟩
  rw [PX_.out, PY_.out, PZ_.out]
  simp only [vecV]
  have HR := Lib.hid (HR.out.below hb HR.out.lt)
  have HB := Lib.hid (onward HB.out (Nat.le_refl _) hb)
  clear hb
  go_wp2_with (refine wpList_store_row rfl 37 _ _ rfl gr #[.int .i64 px, .int .i64 py, .int .i64 pz] rfl rfl 37 _ HR.out (by kernel_rfl) rfl (by simp [Value.oneCell']) ?_)
  refine ret_row2 (x := .bool (xb || yb || zb)) rfl rfl rfl (HR.out.setRow #[.int .i64 px, .int .i64 py, .int .i64 pz]) ⟨by rw [Try.underlying37], by kernel_rfl⟩ rfl ?_
  exact ⟨by rw [PX_.out, PY_.out, PZ_.out]; rfl, below_setRow HB.out (by omega) _⟩
end Go.Proofs.Ytajhkbdaoakogaa.BigW
