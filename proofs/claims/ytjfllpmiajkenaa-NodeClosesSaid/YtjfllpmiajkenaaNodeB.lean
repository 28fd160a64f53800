/- Contracts: node.Begin, the reference's BeginNode. -/
import Derived.Test.YtjfllpmiajkenaaNode0
import Derived.Deep.DeepCutAuto
namespace Go.Proofs.Ytjfllpmiajkenaa.Nd
open Go.RowKit Go.Proofs.Ytjfllpmiajkenaa.Mem Go.Proofs.Ytjfllpmiajkenaa.Rws
set_option linter.unusedVariables false
set_option linter.unusedSimpArgs false

set_option maxRecDepth 100000 in
set_option maxHeartbeats 1000000 in
theorem nodeBegin_yes (id t0 t1 t2 t3 : Int) (w : World) (h0 : 0 ≤ id) (h1 : id < 4) :
    Calls Try.prog 35 #[.int .i64 id, .agg #[.int .i64 t0, .int .i64 t1, .int .i64 t2, .int .i64 t3]] w fun e w' => e = .returned (.tuple #[.agg (row 74 (nodeK id t0 t1 t2 t3 3)), .int .i64 0]) ∧ Below w.heap.size w w' := by
  go_enter Try.func35, Try.ntmps35
  go_upto_region 3 with fail
  go_cut [6] (fun v wx => ∃ g, v = .pointer (some ⟨g, 0, none⟩) ∧ w.heap.size + 1 < g ∧ Blk wx g 37 (row 74 (nodeK id t0 t1 t2 t3 0)) ∧ Blk wx (w.heap.size + 1) 37 (row 74 node0) ∧ Below w.heap.size w wx)
  case first =>
    have HBL := Lib.hid (built_node id t0 t1 t2 t3)
    have D3 : Hid (Blk ((w.alloc (.cells #[.int .i64 t0, .int .i64 t1, .int .i64 t2, .int .i64 t3] 23)).alloc (.cells Try.zeroCells37 37)) w.heap.size 23 #[.int .i64 t0, .int .i64 t1, .int .i64 t2, .int .i64 t3]) := Lib.hid ((Blk.new rfl).alloc _)
    have D4 : Hid (Blk ((w.alloc (.cells #[.int .i64 t0, .int .i64 t1, .int .i64 t2, .int .i64 t3] 23)).alloc (.cells Try.zeroCells37 37)) (w.heap.size + 1) 37 (row 74 node0)) := Lib.hid (by rw [zero_node]; exact Blk.new (by simp))
    have HB := Lib.hid (((Below.refl w.heap.size w).alloc (Nat.le_refl _) (.cells #[.int .i64 t0, .int .i64 t1, .int .i64 t2, .int .i64 t3] 23)).alloc (by simp) (.cells Try.zeroCells37 37))
    have hsz0 : ((w.alloc (.cells #[.int .i64 t0, .int .i64 t1, .int .i64 t2, .int .i64 t3] 23)).alloc (.cells Try.zeroCells37 37)).heap.size = w.heap.size + 1 + 1 := by simp
    generalize ((w.alloc (.cells #[.int .i64 t0, .int .i64 t1, .int .i64 t2, .int .i64 t3] 23)).alloc (.cells Try.zeroCells37 37)) = W0 at *
    have HB := Lib.hid HB.out.drew
    have D4 := Lib.hid D4.out.drew
    have D3 := Lib.hid D3.out.drew
    have hd0 : W0.drew.heap.size = w.heap.size + 1 + 1 := hsz0
    have HS := And.intro (D3.out.cell 0) (And.intro (D3.out.cell 1) (And.intro (D3.out.cell 2) (D3.out.cell 3)))
    refine wp_region_noPanic ?_
    refine Rg.beginR [1] (fun w' => w'.cell? ⟨w.heap.size, 0, none⟩ = some (.int .i64 t0) ∧ w'.cell? ⟨w.heap.size, 1, none⟩ = some (.int .i64 t1) ∧ w'.cell? ⟨w.heap.size, 2, none⟩ = some (.int .i64 t2) ∧ w'.cell? ⟨w.heap.size, 3, none⟩ = some (.int .i64 t3)) (by kernel_rfl) ?_
    refine Rg.takeP (i := 0) (oi := { dst := some 15, op := Op.move (Operand.tmp 0), type := 3, pos := "node.go:19", after := #[], guard := none }) (v := ?_) rfl (by kernel_rfl) (fun _ _ _ h => h) (by rfl) ?_ ?_
    rotate_left 1
    · (intro w; (try (have hbl := HBL.out)); (have hsz : (row 12 roll0).size = 12 := row_size _ _); go_simp; (try with_reducible rfl))
    try simp only [Act.put, List.setIfInBounds_toArray, List.set_cons_zero, List.set_cons_succ]
    refine Rg.takeS (i := 1) (oi := { dst := some 16, op := Op.load 23 (Operand.tmp 3), type := 23, pos := "node.go:19", after := #[], guard := none }) (v := ?_) rfl (by kernel_rfl) (fun _ _ _ h => h) (by rfl) HS ?_ ?_
    rotate_left 1
    · (intro w hSw; (try dsimp only at hSw); (try go_split_ands); go_simp; (try with_reducible rfl))
    try simp only [Act.put, List.setIfInBounds_toArray, List.set_cons_zero, List.set_cons_succ]
    refine Rg.twoR (i := 2) (j := 4) (oi := { dst := some 17, op := Op.call { callee := Callee.value (Operand.func 75), args := #[], argTypes := #[] }, type := 30, pos := "node.go:19", after := #[], guard := none }) (oj := { dst := some 6, op := Op.alloc 37, type := 0, pos := "node.go:19", after := #[], guard := none }) (by kernel_rfl) rfl rfl ?_ ?_
    ·
      refine Rg.stepS ?_
      intro K hK
      go_simp
      go_at_call 75
      refine (roll_any _).mono ?_
      rintro e w1 ⟨rfl, hb1⟩
      have HB := Lib.hid (onward HB.out (Nat.le_refl _) hb1)
      have hs1 := hb1.size
      have D4 := Lib.hid (D4.out.below hb1 D4.out.lt)
      have D3 := Lib.hid (D3.out.below hb1 D3.out.lt)
      have HS := And.intro (D3.out.cell 0) (And.intro (D3.out.cell 1) (And.intro (D3.out.cell 2) (D3.out.cell 3)))
      clear hb1
      go_wp2_with fail
      refine hK.out _ _ HS ?_
      clear hK K
      try simp only [Act.put, List.setIfInBounds_toArray, List.set_cons_zero, List.set_cons_succ]
      refine Rg.takeP (i := 3) (oi := { dst := some 18, op := Op.build 37 #[(0, Operand.tmp 15), (2, Operand.tmp 16), (4, Operand.tmp 17)], type := 37, pos := "node.go:19", after := #[{ on := 0, ground := Ground.data }, { on := 1, ground := Ground.data }, { on := 2, ground := Ground.data }], guard := none }) (v := ?_) rfl (by kernel_rfl) (fun _ _ _ h => h) (by rfl) ?_ ?_
      rotate_left 1
      · (intro w; (try (have hbl := HBL.out)); (have hsz : (row 12 roll0).size = 12 := row_size _ _); go_simp; (try with_reducible rfl))
      try simp only [Act.put, List.setIfInBounds_toArray, List.set_cons_zero, List.set_cons_succ]
      refine Rg.oneR (i := 4) (oi := { dst := some 6, op := Op.alloc 37, type := 0, pos := "node.go:19", after := #[], guard := none }) rfl (by kernel_rfl) ?_
      refine Rg.stepS ?_
      intro K hK
      go_simp
      have D4 := Lib.hid (D4.out.alloc (.cells Try.zeroCells37 37))
      have D6 : Hid (Blk (w1.alloc (.cells Try.zeroCells37 37)) w1.heap.size 37 Try.zeroCells37) := Lib.hid (Blk.fresh _ _ _)
      have HB := Lib.hid (HB.out.alloc HB.out.size (.cells Try.zeroCells37 37))
      have D3 := Lib.hid (D3.out.alloc (.cells Try.zeroCells37 37))
      have HS := And.intro (D3.out.cell 0) (And.intro (D3.out.cell 1) (And.intro (D3.out.cell 2) (D3.out.cell 3)))
      refine hK.out _ _ HS ?_
      clear hK K
      try simp only [Act.put, List.setIfInBounds_toArray, List.set_cons_zero, List.set_cons_succ]
      refine Rg.oneR (i := 5) (oi := { dst := none, op := Op.store 37 (Operand.tmp 6) (Operand.tmp 18), type := 0, pos := "node.go:19", after := #[{ on := 4, ground := Ground.data }, { on := 3, ground := Ground.data }, { on := 2, ground := Ground.chain }, { on := 0, ground := Ground.phase }, { on := 1, ground := Ground.phase }, { on := 2, ground := Ground.phase }, { on := 3, ground := Ground.phase }, { on := 4, ground := Ground.phase }], guard := none }) rfl (by kernel_rfl) ?_
      refine Rg.stepF ?_ ?_
      · kernel_rfl
      intro K hK
      rw [if_pos (by rfl)]
      refine wp_store_row 37 _ _ rfl w1.heap.size (row 74 (nodeK id t0 t1 t2 t3 0)) rfl rfl 37 Try.zeroCells37 D6.out (by rw [row_size]; kernel_rfl) (by rw [zero_node, row_size, row_size]) (row_one fun i _ => nodeK_one _ _ _ _ _ _ i) ?_
      refine hK.out _ _ ?_
      clear hK K
      try simp only [Act.put, List.setIfInBounds_toArray, List.set_cons_zero, List.set_cons_succ]
      refine Rg.doneR (by kernel_rfl) ?_ _
      refine NoPanic.normal ?_
      have hg : w.heap.size + 1 < w1.heap.size := by omega
      have G1 := Lib.hid (D6.out.setRow (row 74 (nodeK id t0 t1 t2 t3 0)))
      have G2 := Lib.hid (D4.out.setRow_other (g' := w1.heap.size) (by omega) (row 74 (nodeK id t0 t1 t2 t3 0)))
      have G3 := Lib.hid (below_setRow HB.out (show w.heap.size ≤ w1.heap.size by omega) (row 74 (nodeK id t0 t1 t2 t3 0)))
      clear HS D3 D4 D6 HB
      go_wp2_with fail
      go_meet
      exact ⟨_, rfl, hg, G1.out, G2.out, G3.out⟩
    ·
      refine Rg.stepS ?_
      intro K hK
      go_simp
      have D4 := Lib.hid (D4.out.alloc (.cells Try.zeroCells37 37))
      have D6 : Hid (Blk (W0.drew.alloc (.cells Try.zeroCells37 37)) (w.heap.size + 1 + 1) 37 Try.zeroCells37) := Lib.hid (Blk.new hd0.symm)
      have HB := Lib.hid (HB.out.alloc HB.out.size (.cells Try.zeroCells37 37))
      have D3 := Lib.hid (D3.out.alloc (.cells Try.zeroCells37 37))
      have HS := And.intro (D3.out.cell 0) (And.intro (D3.out.cell 1) (And.intro (D3.out.cell 2) (D3.out.cell 3)))
      refine hK.out _ _ HS ?_
      clear hK K
      try simp only [Act.put, List.setIfInBounds_toArray, List.set_cons_zero, List.set_cons_succ]
      refine Rg.oneR (i := 2) (oi := { dst := some 17, op := Op.call { callee := Callee.value (Operand.func 75), args := #[], argTypes := #[] }, type := 30, pos := "node.go:19", after := #[], guard := none }) rfl (by kernel_rfl) ?_
      refine Rg.stepS ?_
      intro K hK
      go_simp
      go_at_call 75
      refine (roll_any _).mono ?_
      rintro e w1 ⟨rfl, hb1⟩
      have HB := Lib.hid (onward HB.out (Nat.le_refl _) hb1)
      have hs1 := hb1.size
      have D4 := Lib.hid (D4.out.below hb1 D4.out.lt)
      have D6 := Lib.hid (D6.out.below hb1 D6.out.lt)
      have D3 := Lib.hid (D3.out.below hb1 D3.out.lt)
      have HS := And.intro (D3.out.cell 0) (And.intro (D3.out.cell 1) (And.intro (D3.out.cell 2) (D3.out.cell 3)))
      clear hb1
      go_wp2_with fail
      refine hK.out _ _ HS ?_
      clear hK K
      try simp only [Act.put, List.setIfInBounds_toArray, List.set_cons_zero, List.set_cons_succ]
      refine Rg.takeP (i := 3) (oi := { dst := some 18, op := Op.build 37 #[(0, Operand.tmp 15), (2, Operand.tmp 16), (4, Operand.tmp 17)], type := 37, pos := "node.go:19", after := #[{ on := 0, ground := Ground.data }, { on := 1, ground := Ground.data }, { on := 2, ground := Ground.data }], guard := none }) (v := ?_) rfl (by kernel_rfl) (fun _ _ _ h => h) (by rfl) ?_ ?_
      rotate_left 1
      · (intro w; (try (have hbl := HBL.out)); (have hsz : (row 12 roll0).size = 12 := row_size _ _); go_simp; (try with_reducible rfl))
      try simp only [Act.put, List.setIfInBounds_toArray, List.set_cons_zero, List.set_cons_succ]
      refine Rg.oneR (i := 5) (oi := { dst := none, op := Op.store 37 (Operand.tmp 6) (Operand.tmp 18), type := 0, pos := "node.go:19", after := #[{ on := 4, ground := Ground.data }, { on := 3, ground := Ground.data }, { on := 2, ground := Ground.chain }, { on := 0, ground := Ground.phase }, { on := 1, ground := Ground.phase }, { on := 2, ground := Ground.phase }, { on := 3, ground := Ground.phase }, { on := 4, ground := Ground.phase }], guard := none }) rfl (by kernel_rfl) ?_
      refine Rg.stepF ?_ ?_
      · kernel_rfl
      intro K hK
      rw [if_pos (by rfl)]
      refine wp_store_row 37 _ _ rfl (w.heap.size + 1 + 1) (row 74 (nodeK id t0 t1 t2 t3 0)) rfl rfl 37 Try.zeroCells37 D6.out (by rw [row_size]; kernel_rfl) (by rw [zero_node, row_size, row_size]) (row_one fun i _ => nodeK_one _ _ _ _ _ _ i) ?_
      refine hK.out _ _ ?_
      clear hK K
      try simp only [Act.put, List.setIfInBounds_toArray, List.set_cons_zero, List.set_cons_succ]
      refine Rg.doneR (by kernel_rfl) ?_ _
      refine NoPanic.normal ?_
      have hg : w.heap.size + 1 < (w.heap.size + 1 + 1) := by omega
      have G1 := Lib.hid (D6.out.setRow (row 74 (nodeK id t0 t1 t2 t3 0)))
      have G2 := Lib.hid (D4.out.setRow_other (g' := (w.heap.size + 1 + 1)) (by omega) (row 74 (nodeK id t0 t1 t2 t3 0)))
      have G3 := Lib.hid (below_setRow HB.out (show w.heap.size ≤ (w.heap.size + 1 + 1) by omega) (row 74 (nodeK id t0 t1 t2 t3 0)))
      clear HS D3 D4 D6 HB
      go_wp2_with fail
      go_meet
      exact ⟨_, rfl, hg, G1.out, G2.out, G3.out⟩
  case rest =>
    obtain ⟨g, rfl, hg, bg, br, hb⟩ := hcut
    go_wp2_with fail
    go_loopw [19] (fun i wr => ∃ k : Nat, k ≤ 3 ∧ i = .int .i64 k ∧ Blk wr g 37 (row 74 (nodeK id t0 t1 t2 t3 k)) ∧ Blk wr (w.heap.size + 1) 37 (row 74 node0) ∧ Below w.heap.size w wr) (fun i _ => 3 - (intOf i).toNat)
    case atStart => exact ⟨0, by omega, rfl, bg, br, hb⟩
    case round =>
      clear bg br hb
      obtain ⟨k, hk, rfl, bg, br, hb⟩ := hrel
      have HG := Lib.hid bg
      have HR := Lib.hid br
      have HB := Lib.hid hb
      clear bg br hb
      by_cases hlt : k < 3
      · go_wp2_with fail
        refine (begin_any _).mono ?_
        rintro e w1 ⟨rfl, hb1⟩
        have HG1 := Lib.hid (HG.out.below hb1 HG.out.lt)
        have HR1 := Lib.hid (HR.out.below hb1 HR.out.lt)
        have HB1 := Lib.hid (onward HB.out (Nat.le_refl _) hb1)
        have hth := row_there HG1.out (6 + k * 7) 7 (by omega)
        clear hb1
        have hi7 : (Try.prog.info? 25).map (·.size) = some (row 7 state0).size := by rw [row_size]; kernel_rfl
        have hth : w1.there g (6 + k * 7) (row 7 state0).size := by rw [row_size]; exact hth
        have h17 : (row 7 state0).all (·.oneCell') = true := row_one fun i _ => state0_one i
        obtain ⟨R, hRR⟩ : ∃ R, row 7 state0 = R := ⟨_, rfl⟩
        have HRR := Lib.hid hRR
        rw [hRR] at hi7 hth h17 ⊢
        clear hRR
        go_wp2_with (refine wpList_wanted rfl (fun K hK => ?_); refine wp_store_mid 25 _ _ rfl g (6 + k * 7) R rfl rfl hth hi7 h17 (hK _ _ ?_))
        rw [← HRR.out]
        refine ⟨⟨k + 1, by omega, by go_num, ?_, blk_mid_other (w := w1) (by omega) _ _ _ HR1.out, below_setCells (by omega) _ _ HB1.out⟩, by simp [intOf]; omega⟩
        have := blk_mid HG1.out (6 + k * 7) 7 state0
        rw [row_congr (fun i _ => nodeK_succ id t0 t1 t2 t3 k hlt i)] at this
        exact this
      · obtain rfl : k = 3 := by omega
        clear hlt
        have hi74 : (Try.prog.info? 37).map (·.size) = some (row 74 (nodeK id t0 t1 t2 t3 3)).size := by rw [row_size]; kernel_rfl
        have h174 : (row 74 (nodeK id t0 t1 t2 t3 3)).all (·.oneCell') = true := row_one fun i _ => nodeK_one _ _ _ _ _ _ i
        have hs74 : (row 74 node0).size = (row 74 (nodeK id t0 t1 t2 t3 3)).size := by rw [row_size, row_size]
        obtain ⟨R, hRR⟩ : ∃ R, row 74 (nodeK id t0 t1 t2 t3 3) = R := ⟨_, rfl⟩
        have HRR := Lib.hid hRR
        rw [hRR] at HG hi74 h174 hs74
        clear hRR
        go_wp2_with (first
          | (refine wpList_whole rfl 37 _ rfl g rfl HG.out _ Try.underlying37 rfl hi74 ?_)
          | (refine wpList_store_row rfl 37 _ _ rfl (w.heap.size + 1) R rfl rfl 37 _ HR.out hi74 hs74 h174 ?_))
        exact ret_row2 rfl rfl rfl (HR.out.setRow R) ⟨by rw [Try.underlying37], hi74⟩ rfl ⟨by rw [HRR.out]; rfl, below_setRow HB.out (by omega) _⟩

set_option maxRecDepth 100000 in
set_option maxHeartbeats 1000000 in
theorem nodeBegin_no (id t0 t1 t2 t3 : Int) (w : World) (h : id < 0 ∨ 4 ≤ id) :
    Calls Try.prog 35 #[.int .i64 id, .agg #[.int .i64 t0, .int .i64 t1, .int .i64 t2, .int .i64 t3]] w fun e w' => e = .returned (.tuple #[.agg (row 74 node0), .int .i64 3]) ∧ Below w.heap.size w w' := by
  have hz := zero_node
  have hone : ∀ i, i < 74 → (node0 i).oneCell' = true := fun i _ => by unfold node0; (repeat' split) <;> rfl
  have hi74 : (Try.prog.info? 37).map (·.size) = some (row 74 node0).size := by rw [row_size]; kernel_rfl
  have h174 := row_one hone
  have hB : Blk ((w.alloc (.cells #[.int .i64 t0, .int .i64 t1, .int .i64 t2, .int .i64 t3] 23)).alloc (.cells (row 74 node0) 37)) (w.heap.size + 1) 37 (row 74 node0) := Blk.new (by simp)
  have hbel := ((Below.refl w.heap.size w).alloc (Nat.le_refl _) (.cells #[.int .i64 t0, .int .i64 t1, .int .i64 t2, .int .i64 t3] 23)).alloc (by simp) (.cells (row 74 node0) 37)
  obtain ⟨R, hRR⟩ : ∃ R, row 74 node0 = R := ⟨_, rfl⟩
  have HRR := Lib.hid hRR
  rw [hRR] at hz hi74 h174 hB hbel ⊢
  have HB := Lib.hid hB
  have HL := Lib.hid hbel
  clear hRR hone hB hbel
  rcases h with h | h
  all_goals
    go_enter Try.func35, Try.ntmps35
    go_wp2_with (refine wpList_store_row rfl 37 _ _ rfl (w.heap.size + 1) R rfl rfl 37 R HB.out hi74 rfl h174 ?_)
    exact ret_row2 rfl rfl rfl (HB.out.setRow R) ⟨by rw [Try.underlying37], hi74⟩ rfl ⟨rfl, below_setRow HL.out (by omega) _⟩

set_option maxRecDepth 100000 in
set_option maxHeartbeats 1000000 in
theorem refBegin_yes (id t0 t1 t2 t3 : Int) (w : World) (h0 : 0 ≤ id) (h1 : id < 4) :
    Calls Try.prog 36 #[.int .i64 id, .agg #[.int .i64 t0, .int .i64 t1, .int .i64 t2, .int .i64 t3]] w fun e w' => e = .returned (.tuple #[.agg (row 74 (nodeK id t0 t1 t2 t3 3)), .int .i64 0]) ∧ Below w.heap.size w w' := by
  go_enter Try.func36, Try.ntmps36
  go_upto_region 3 with fail
  go_cut [6] (fun v wx => ∃ g, v = .pointer (some ⟨g, 0, none⟩) ∧ w.heap.size + 1 < g ∧ Blk wx g 37 (row 74 (nodeK id t0 t1 t2 t3 0)) ∧ Blk wx (w.heap.size + 1) 37 (row 74 node0) ∧ Below w.heap.size w wx)
  case first =>
    have HBL := Lib.hid (built_node id t0 t1 t2 t3)
    have D3 : Hid (Blk ((w.alloc (.cells #[.int .i64 t0, .int .i64 t1, .int .i64 t2, .int .i64 t3] 23)).alloc (.cells Try.zeroCells37 37)) w.heap.size 23 #[.int .i64 t0, .int .i64 t1, .int .i64 t2, .int .i64 t3]) := Lib.hid ((Blk.new rfl).alloc _)
    have D4 : Hid (Blk ((w.alloc (.cells #[.int .i64 t0, .int .i64 t1, .int .i64 t2, .int .i64 t3] 23)).alloc (.cells Try.zeroCells37 37)) (w.heap.size + 1) 37 (row 74 node0)) := Lib.hid (by rw [zero_node]; exact Blk.new (by simp))
    have HB := Lib.hid (((Below.refl w.heap.size w).alloc (Nat.le_refl _) (.cells #[.int .i64 t0, .int .i64 t1, .int .i64 t2, .int .i64 t3] 23)).alloc (by simp) (.cells Try.zeroCells37 37))
    have hsz0 : ((w.alloc (.cells #[.int .i64 t0, .int .i64 t1, .int .i64 t2, .int .i64 t3] 23)).alloc (.cells Try.zeroCells37 37)).heap.size = w.heap.size + 1 + 1 := by simp
    generalize ((w.alloc (.cells #[.int .i64 t0, .int .i64 t1, .int .i64 t2, .int .i64 t3] 23)).alloc (.cells Try.zeroCells37 37)) = W0 at *
    have HB := Lib.hid HB.out.drew
    have D4 := Lib.hid D4.out.drew
    have D3 := Lib.hid D3.out.drew
    have hd0 : W0.drew.heap.size = w.heap.size + 1 + 1 := hsz0
    have HS := And.intro (D3.out.cell 0) (And.intro (D3.out.cell 1) (And.intro (D3.out.cell 2) (D3.out.cell 3)))
    refine wp_region_noPanic ?_
    refine Rg.beginR [1] (fun w' => w'.cell? ⟨w.heap.size, 0, none⟩ = some (.int .i64 t0) ∧ w'.cell? ⟨w.heap.size, 1, none⟩ = some (.int .i64 t1) ∧ w'.cell? ⟨w.heap.size, 2, none⟩ = some (.int .i64 t2) ∧ w'.cell? ⟨w.heap.size, 3, none⟩ = some (.int .i64 t3)) (by kernel_rfl) ?_
    refine Rg.takeP (i := 0) (oi := { dst := some 15, op := Op.move (Operand.tmp 0), type := 3, pos := "node.go:10", after := #[], guard := none }) (v := ?_) rfl (by kernel_rfl) (fun _ _ _ h => h) (by rfl) ?_ ?_
    rotate_left 1
    · (intro w; (try (have hbl := HBL.out)); (have hsz : (row 12 roll0).size = 12 := row_size _ _); go_simp; (try with_reducible rfl))
    try simp only [Act.put, List.setIfInBounds_toArray, List.set_cons_zero, List.set_cons_succ]
    refine Rg.takeS (i := 1) (oi := { dst := some 16, op := Op.load 23 (Operand.tmp 3), type := 23, pos := "node.go:10", after := #[], guard := none }) (v := ?_) rfl (by kernel_rfl) (fun _ _ _ h => h) (by rfl) HS ?_ ?_
    rotate_left 1
    · (intro w hSw; (try dsimp only at hSw); (try go_split_ands); go_simp; (try with_reducible rfl))
    try simp only [Act.put, List.setIfInBounds_toArray, List.set_cons_zero, List.set_cons_succ]
    refine Rg.twoR (i := 2) (j := 4) (oi := { dst := some 17, op := Op.call { callee := Callee.value (Operand.func 77), args := #[], argTypes := #[] }, type := 30, pos := "node.go:10", after := #[], guard := none }) (oj := { dst := some 6, op := Op.alloc 37, type := 0, pos := "node.go:10", after := #[], guard := none }) (by kernel_rfl) rfl rfl ?_ ?_
    ·
      refine Rg.stepS ?_
      intro K hK
      go_simp
      go_at_call 77
      refine (refroll_any _).mono ?_
      rintro e w1 ⟨rfl, hb1⟩
      have HB := Lib.hid (onward HB.out (Nat.le_refl _) hb1)
      have hs1 := hb1.size
      have D4 := Lib.hid (D4.out.below hb1 D4.out.lt)
      have D3 := Lib.hid (D3.out.below hb1 D3.out.lt)
      have HS := And.intro (D3.out.cell 0) (And.intro (D3.out.cell 1) (And.intro (D3.out.cell 2) (D3.out.cell 3)))
      clear hb1
      go_wp2_with fail
      refine hK.out _ _ HS ?_
      clear hK K
      try simp only [Act.put, List.setIfInBounds_toArray, List.set_cons_zero, List.set_cons_succ]
      refine Rg.takeP (i := 3) (oi := { dst := some 18, op := Op.build 37 #[(0, Operand.tmp 15), (2, Operand.tmp 16), (4, Operand.tmp 17)], type := 37, pos := "node.go:10", after := #[{ on := 0, ground := Ground.data }, { on := 1, ground := Ground.data }, { on := 2, ground := Ground.data }], guard := none }) (v := ?_) rfl (by kernel_rfl) (fun _ _ _ h => h) (by rfl) ?_ ?_
      rotate_left 1
      · (intro w; (try (have hbl := HBL.out)); (have hsz : (row 12 roll0).size = 12 := row_size _ _); go_simp; (try with_reducible rfl))
      try simp only [Act.put, List.setIfInBounds_toArray, List.set_cons_zero, List.set_cons_succ]
      refine Rg.oneR (i := 4) (oi := { dst := some 6, op := Op.alloc 37, type := 0, pos := "node.go:10", after := #[], guard := none }) rfl (by kernel_rfl) ?_
      refine Rg.stepS ?_
      intro K hK
      go_simp
      have D4 := Lib.hid (D4.out.alloc (.cells Try.zeroCells37 37))
      have D6 : Hid (Blk (w1.alloc (.cells Try.zeroCells37 37)) w1.heap.size 37 Try.zeroCells37) := Lib.hid (Blk.fresh _ _ _)
      have HB := Lib.hid (HB.out.alloc HB.out.size (.cells Try.zeroCells37 37))
      have D3 := Lib.hid (D3.out.alloc (.cells Try.zeroCells37 37))
      have HS := And.intro (D3.out.cell 0) (And.intro (D3.out.cell 1) (And.intro (D3.out.cell 2) (D3.out.cell 3)))
      refine hK.out _ _ HS ?_
      clear hK K
      try simp only [Act.put, List.setIfInBounds_toArray, List.set_cons_zero, List.set_cons_succ]
      refine Rg.oneR (i := 5) (oi := { dst := none, op := Op.store 37 (Operand.tmp 6) (Operand.tmp 18), type := 0, pos := "node.go:10", after := #[{ on := 4, ground := Ground.data }, { on := 3, ground := Ground.data }, { on := 2, ground := Ground.chain }, { on := 0, ground := Ground.phase }, { on := 1, ground := Ground.phase }, { on := 2, ground := Ground.phase }, { on := 3, ground := Ground.phase }, { on := 4, ground := Ground.phase }], guard := none }) rfl (by kernel_rfl) ?_
      refine Rg.stepF ?_ ?_
      · kernel_rfl
      intro K hK
      rw [if_pos (by rfl)]
      refine wp_store_row 37 _ _ rfl w1.heap.size (row 74 (nodeK id t0 t1 t2 t3 0)) rfl rfl 37 Try.zeroCells37 D6.out (by rw [row_size]; kernel_rfl) (by rw [zero_node, row_size, row_size]) (row_one fun i _ => nodeK_one _ _ _ _ _ _ i) ?_
      refine hK.out _ _ ?_
      clear hK K
      try simp only [Act.put, List.setIfInBounds_toArray, List.set_cons_zero, List.set_cons_succ]
      refine Rg.doneR (by kernel_rfl) ?_ _
      refine NoPanic.normal ?_
      have hg : w.heap.size + 1 < w1.heap.size := by omega
      have G1 := Lib.hid (D6.out.setRow (row 74 (nodeK id t0 t1 t2 t3 0)))
      have G2 := Lib.hid (D4.out.setRow_other (g' := w1.heap.size) (by omega) (row 74 (nodeK id t0 t1 t2 t3 0)))
      have G3 := Lib.hid (below_setRow HB.out (show w.heap.size ≤ w1.heap.size by omega) (row 74 (nodeK id t0 t1 t2 t3 0)))
      clear HS D3 D4 D6 HB
      go_wp2_with fail
      go_meet
      exact ⟨_, rfl, hg, G1.out, G2.out, G3.out⟩
    ·
      refine Rg.stepS ?_
      intro K hK
      go_simp
      have D4 := Lib.hid (D4.out.alloc (.cells Try.zeroCells37 37))
      have D6 : Hid (Blk (W0.drew.alloc (.cells Try.zeroCells37 37)) (w.heap.size + 1 + 1) 37 Try.zeroCells37) := Lib.hid (Blk.new hd0.symm)
      have HB := Lib.hid (HB.out.alloc HB.out.size (.cells Try.zeroCells37 37))
      have D3 := Lib.hid (D3.out.alloc (.cells Try.zeroCells37 37))
      have HS := And.intro (D3.out.cell 0) (And.intro (D3.out.cell 1) (And.intro (D3.out.cell 2) (D3.out.cell 3)))
      refine hK.out _ _ HS ?_
      clear hK K
      try simp only [Act.put, List.setIfInBounds_toArray, List.set_cons_zero, List.set_cons_succ]
      refine Rg.oneR (i := 2) (oi := { dst := some 17, op := Op.call { callee := Callee.value (Operand.func 77), args := #[], argTypes := #[] }, type := 30, pos := "node.go:10", after := #[], guard := none }) rfl (by kernel_rfl) ?_
      refine Rg.stepS ?_
      intro K hK
      go_simp
      go_at_call 77
      refine (refroll_any _).mono ?_
      rintro e w1 ⟨rfl, hb1⟩
      have HB := Lib.hid (onward HB.out (Nat.le_refl _) hb1)
      have hs1 := hb1.size
      have D4 := Lib.hid (D4.out.below hb1 D4.out.lt)
      have D6 := Lib.hid (D6.out.below hb1 D6.out.lt)
      have D3 := Lib.hid (D3.out.below hb1 D3.out.lt)
      have HS := And.intro (D3.out.cell 0) (And.intro (D3.out.cell 1) (And.intro (D3.out.cell 2) (D3.out.cell 3)))
      clear hb1
      go_wp2_with fail
      refine hK.out _ _ HS ?_
      clear hK K
      try simp only [Act.put, List.setIfInBounds_toArray, List.set_cons_zero, List.set_cons_succ]
      refine Rg.takeP (i := 3) (oi := { dst := some 18, op := Op.build 37 #[(0, Operand.tmp 15), (2, Operand.tmp 16), (4, Operand.tmp 17)], type := 37, pos := "node.go:10", after := #[{ on := 0, ground := Ground.data }, { on := 1, ground := Ground.data }, { on := 2, ground := Ground.data }], guard := none }) (v := ?_) rfl (by kernel_rfl) (fun _ _ _ h => h) (by rfl) ?_ ?_
      rotate_left 1
      · (intro w; (try (have hbl := HBL.out)); (have hsz : (row 12 roll0).size = 12 := row_size _ _); go_simp; (try with_reducible rfl))
      try simp only [Act.put, List.setIfInBounds_toArray, List.set_cons_zero, List.set_cons_succ]
      refine Rg.oneR (i := 5) (oi := { dst := none, op := Op.store 37 (Operand.tmp 6) (Operand.tmp 18), type := 0, pos := "node.go:10", after := #[{ on := 4, ground := Ground.data }, { on := 3, ground := Ground.data }, { on := 2, ground := Ground.chain }, { on := 0, ground := Ground.phase }, { on := 1, ground := Ground.phase }, { on := 2, ground := Ground.phase }, { on := 3, ground := Ground.phase }, { on := 4, ground := Ground.phase }], guard := none }) rfl (by kernel_rfl) ?_
      refine Rg.stepF ?_ ?_
      · kernel_rfl
      intro K hK
      rw [if_pos (by rfl)]
      refine wp_store_row 37 _ _ rfl (w.heap.size + 1 + 1) (row 74 (nodeK id t0 t1 t2 t3 0)) rfl rfl 37 Try.zeroCells37 D6.out (by rw [row_size]; kernel_rfl) (by rw [zero_node, row_size, row_size]) (row_one fun i _ => nodeK_one _ _ _ _ _ _ i) ?_
      refine hK.out _ _ ?_
      clear hK K
      try simp only [Act.put, List.setIfInBounds_toArray, List.set_cons_zero, List.set_cons_succ]
      refine Rg.doneR (by kernel_rfl) ?_ _
      refine NoPanic.normal ?_
      have hg : w.heap.size + 1 < (w.heap.size + 1 + 1) := by omega
      have G1 := Lib.hid (D6.out.setRow (row 74 (nodeK id t0 t1 t2 t3 0)))
      have G2 := Lib.hid (D4.out.setRow_other (g' := (w.heap.size + 1 + 1)) (by omega) (row 74 (nodeK id t0 t1 t2 t3 0)))
      have G3 := Lib.hid (below_setRow HB.out (show w.heap.size ≤ (w.heap.size + 1 + 1) by omega) (row 74 (nodeK id t0 t1 t2 t3 0)))
      clear HS D3 D4 D6 HB
      go_wp2_with fail
      go_meet
      exact ⟨_, rfl, hg, G1.out, G2.out, G3.out⟩
  case rest =>
    obtain ⟨g, rfl, hg, bg, br, hb⟩ := hcut
    go_wp2_with fail
    go_loopw [7] (fun i wr => ∃ k : Nat, k ≤ 3 ∧ i = .int .i64 k ∧ Blk wr g 37 (row 74 (nodeK id t0 t1 t2 t3 k)) ∧ Blk wr (w.heap.size + 1) 37 (row 74 node0) ∧ Below w.heap.size w wr) (fun i _ => 3 - (intOf i).toNat)
    case atStart => exact ⟨0, by omega, rfl, bg, br, hb⟩
    case round =>
      clear bg br hb
      obtain ⟨k, hk, rfl, bg, br, hb⟩ := hrel
      have HG := Lib.hid bg
      have HR := Lib.hid br
      have HB := Lib.hid hb
      clear bg br hb
      by_cases hlt : k < 3
      · go_wp2_with fail
        refine (refbegin_any _).mono ?_
        rintro e w1 ⟨rfl, hb1⟩
        have HG1 := Lib.hid (HG.out.below hb1 HG.out.lt)
        have HR1 := Lib.hid (HR.out.below hb1 HR.out.lt)
        have HB1 := Lib.hid (onward HB.out (Nat.le_refl _) hb1)
        have hth := row_there HG1.out (6 + k * 7) 7 (by omega)
        clear hb1
        have hi7 : (Try.prog.info? 25).map (·.size) = some (row 7 state0).size := by rw [row_size]; kernel_rfl
        have hth : w1.there g (6 + k * 7) (row 7 state0).size := by rw [row_size]; exact hth
        have h17 : (row 7 state0).all (·.oneCell') = true := row_one fun i _ => state0_one i
        obtain ⟨R, hRR⟩ : ∃ R, row 7 state0 = R := ⟨_, rfl⟩
        have HRR := Lib.hid hRR
        rw [hRR] at hi7 hth h17 ⊢
        clear hRR
        go_wp2_with (refine wpList_wanted rfl (fun K hK => ?_); refine wp_store_mid 25 _ _ rfl g (6 + k * 7) R rfl rfl hth hi7 h17 (hK _ _ ?_))
        rw [← HRR.out]
        refine ⟨⟨k + 1, by omega, by go_num, ?_, blk_mid_other (w := w1) (by omega) _ _ _ HR1.out, below_setCells (by omega) _ _ HB1.out⟩, by simp [intOf]; omega⟩
        have := blk_mid HG1.out (6 + k * 7) 7 state0
        rw [row_congr (fun i _ => nodeK_succ id t0 t1 t2 t3 k hlt i)] at this
        exact this
      · obtain rfl : k = 3 := by omega
        clear hlt
        have hi74 : (Try.prog.info? 37).map (·.size) = some (row 74 (nodeK id t0 t1 t2 t3 3)).size := by rw [row_size]; kernel_rfl
        have h174 : (row 74 (nodeK id t0 t1 t2 t3 3)).all (·.oneCell') = true := row_one fun i _ => nodeK_one _ _ _ _ _ _ i
        have hs74 : (row 74 node0).size = (row 74 (nodeK id t0 t1 t2 t3 3)).size := by rw [row_size, row_size]
        obtain ⟨R, hRR⟩ : ∃ R, row 74 (nodeK id t0 t1 t2 t3 3) = R := ⟨_, rfl⟩
        have HRR := Lib.hid hRR
        rw [hRR] at HG hi74 h174 hs74
        clear hRR
        go_wp2_with (first
          | (refine wpList_whole rfl 37 _ rfl g rfl HG.out _ Try.underlying37 rfl hi74 ?_)
          | (refine wpList_store_row rfl 37 _ _ rfl (w.heap.size + 1) R rfl rfl 37 _ HR.out hi74 hs74 h174 ?_))
        exact ret_row2 rfl rfl rfl (HR.out.setRow R) ⟨by rw [Try.underlying37], hi74⟩ rfl ⟨by rw [HRR.out]; rfl, below_setRow HB.out (by omega) _⟩

set_option maxRecDepth 100000 in
set_option maxHeartbeats 1000000 in
theorem refBegin_no (id t0 t1 t2 t3 : Int) (w : World) (h : id < 0 ∨ 4 ≤ id) :
    Calls Try.prog 36 #[.int .i64 id, .agg #[.int .i64 t0, .int .i64 t1, .int .i64 t2, .int .i64 t3]] w fun e w' => e = .returned (.tuple #[.agg (row 74 node0), .int .i64 3]) ∧ Below w.heap.size w w' := by
  have hz := zero_node
  have hone : ∀ i, i < 74 → (node0 i).oneCell' = true := fun i _ => by unfold node0; (repeat' split) <;> rfl
  have hi74 : (Try.prog.info? 37).map (·.size) = some (row 74 node0).size := by rw [row_size]; kernel_rfl
  have h174 := row_one hone
  have hB : Blk ((w.alloc (.cells #[.int .i64 t0, .int .i64 t1, .int .i64 t2, .int .i64 t3] 23)).alloc (.cells (row 74 node0) 37)) (w.heap.size + 1) 37 (row 74 node0) := Blk.new (by simp)
  have hbel := ((Below.refl w.heap.size w).alloc (Nat.le_refl _) (.cells #[.int .i64 t0, .int .i64 t1, .int .i64 t2, .int .i64 t3] 23)).alloc (by simp) (.cells (row 74 node0) 37)
  obtain ⟨R, hRR⟩ : ∃ R, row 74 node0 = R := ⟨_, rfl⟩
  have HRR := Lib.hid hRR
  rw [hRR] at hz hi74 h174 hB hbel ⊢
  have HB := Lib.hid hB
  have HL := Lib.hid hbel
  clear hRR hone hB hbel
  rcases h with h | h
  all_goals
    go_enter Try.func36, Try.ntmps36
    go_wp2_with (refine wpList_store_row rfl 37 _ _ rfl (w.heap.size + 1) R rfl rfl 37 R HB.out hi74 rfl h174 ?_)
    exact ret_row2 rfl rfl rfl (HB.out.setRow R) ⟨by rw [Try.underlying37], hi74⟩ rfl ⟨rfl, below_setRow HL.out (by omega) _⟩
end Go.Proofs.Ytjfllpmiajkenaa.Nd
