/- The law NodeSenses returns true: node.Sense and the reference's Sense answer alike for all computers, frames and readings. Conditions: none. -/
import Derived.Test.YtfaielkkecphbaaFrame
import Derived.Test.YtfaielkkecphbaaFacts
import Derived.Test.YtfaielkkecphbaaSenses
import Derived.Test.YtfaielkkecphbaaOpenN
import Derived.Test.YtfaielkkecphbaaReg3
import Derived.Test.YtfaielkkecphbaaRdIn
import Derived.Deep.DeepCutAuto
namespace Go.Proofs.Ytfaielkkecphbaa.lawNodeSenses
open Go.ChangeShapes Go.WideShapes Go.ChangeAt Go.RowKit Go.Proofs.Ytfaielkkecphbaa.Mem Go.Proofs.Ytfaielkkecphbaa.Rws Go.Proofs.Ytfaielkkecphbaa.Nd
set_option linter.unusedVariables false
set_option linter.unusedSimpArgs false

theorem two_cells (w : World) (t u : TypeId) (zt zu R S : Array Value) : Below w.heap.size w ((((w.alloc (.cells zt t)).alloc (.cells zu u)).setRow w.heap.size R).setRow (w.heap.size + 1) S) ∧
    Blk ((((w.alloc (.cells zt t)).alloc (.cells zu u)).setRow w.heap.size R).setRow (w.heap.size + 1) S) w.heap.size t R ∧ Blk ((((w.alloc (.cells zt t)).alloc (.cells zu u)).setRow w.heap.size R).setRow (w.heap.size + 1) S) (w.heap.size + 1) u S ∧ w.heap.size + 1 < ((((w.alloc (.cells zt t)).alloc (.cells zu u)).setRow w.heap.size R).setRow (w.heap.size + 1) S).heap.size := by
  have h1 : Blk ((w.alloc (.cells zt t)).alloc (.cells zu u)) w.heap.size t zt := (Blk.fresh _ _ _).alloc _
  have h2 : Blk ((w.alloc (.cells zt t)).alloc (.cells zu u)) (w.heap.size + 1) u zu := Blk.new (by simp)
  have hb := below_setRow (below_setRow (((Below.refl w.heap.size w).alloc (Nat.le_refl _) (.cells zt t)).alloc (by simp) (.cells zu u)) (Nat.le_refl w.heap.size) R) (show w.heap.size ≤ w.heap.size + 1 by omega) S
  have k2 := (h2.setRow_other (g' := w.heap.size) (by omega) R).setRow S
  exact ⟨hb, (h1.setRow R).setRow_other (by omega) S, k2, k2.lt⟩

/-- what stands behind the first Sense: its answers in two cells -/
def SenseCut (w wx : World) (g : Nat → Value) (bs : List Bool) (k i fr' : Int) (zs : List Int) (R1 RD : Array Value) (v7 v8 : Value) : Prop :=
  ∃ p q A3 c3 A4 c4, v7 = .pointer (some ⟨p, 0, none⟩) ∧ v8 = .pointer (some ⟨q, 0, none⟩) ∧ w.heap.size + 1 < p ∧ w.heap.size + 1 < q ∧ p ≠ q ∧ Blk wx p 86 (row 74 (nodeW g (.slice A3 bs.length c3))) ∧ Blk wx q 37 (Ms.msgC k i fr' A4 zs.length c4) ∧ Blk wx w.heap.size 86 R1 ∧ Blk wx (w.heap.size + 1) 83 RD ∧ Rd wx wx.heap.size 1 A3 bs.length (boolsV bs) ∧ Rd wx wx.heap.size 1 A4 zs.length (Ms.intsV zs) ∧ Below w.heap.size w wx ∧ (A3 = none → c3 = 0) ∧ bs.length ≤ c3

set_option maxRecDepth 100000 in
set_option maxHeartbeats 2000000 in
theorem walk (f : Nat → Value) (hf : ∀ i, i < 73 → okT (nodeT i) (f i)) (A : Option Addr) (c : Nat) (bs : List Bool) (fr r0 r1 r2 : Int) (w : World) (hA : A = none → c = 0) (hnc : bs.length ≤ c) (hl : bs.length ≤ 140737488351232) (hr : Rd w w.heap.size 1 A bs.length (boolsV bs)) :
    Calls Try.prog 22 #[.agg (row 74 (nodeW f (.slice A bs.length c))), .int .i64 fr, .agg #[.int .i64 r0, .int .i64 r1, .int .i64 r2]] w fun e w' => e = .returned (.bool true) ∧ Below w.heap.size w w' := by
  obtain ⟨g, k, i, fr', zs, hg, hz, cS, cR⟩ := senses f hf fr r0 r1 r2
  have cB := fun w' => begun_any w'
  have cT := fun w' => sense_begun none 0 [] w'.heap.size w' (Nat.le_refl _) (fun _ => rfl) (Nat.zero_le _) (by simp) (Rd.nil _ _ _ _)
  simp only [List.length_nil] at cT
  rw [← last_node 2 1 0 0 0] at cT
  have HF := Lib.hid hf
  generalize row 74 (nodeK 2 1 0 0 0 3) = R0 at cB cT
  have CB := Lib.hid cB
  have CT := Lib.hid cT
  clear cB cT
  have HG := Lib.hid hg
  have HR := Lib.hid hr
  have CS := Lib.hid cS
  have CR := Lib.hid cR
  clear hf hg hr cS cR
  obtain ⟨R1, hR1⟩ : ∃ R1, row 74 (nodeW f (.slice A bs.length c)) = R1 := ⟨_, rfl⟩
  have i1 : (Try.prog.info? 86).map (·.size) = some (row 74 (nodeW f (.slice A bs.length c))).size := by rw [row_size]; kernel_rfl
  rw [hR1] at i1 ⊢
  have HR1 := Lib.hid hR1
  clear hR1
  go_enter Try.func22, Try.ntmps22
  go_upto_region 1 with fail
  go_cut [7, 8] (fun v7 v8 wx => SenseCut w wx g bs k i fr' zs R1 #[.int .i64 r0, .int .i64 r1, .int .i64 r2] v7 v8)
  case first =>
    have B1 : Hid (Blk ((w.alloc (.cells R1 86)).alloc (.cells #[.int .i64 r0, .int .i64 r1, .int .i64 r2] 83)) w.heap.size 86 R1) := Lib.hid ((Blk.new rfl).alloc _)
    have B2 : Hid (Blk ((w.alloc (.cells R1 86)).alloc (.cells #[.int .i64 r0, .int .i64 r1, .int .i64 r2] 83)) (w.heap.size + 1) 83 #[.int .i64 r0, .int .i64 r1, .int .i64 r2]) := Lib.hid (Blk.new (by simp))
    have HB := Lib.hid (((Below.refl w.heap.size w).alloc (Nat.le_refl _) (.cells R1 86)).alloc (by simp) (.cells #[.int .i64 r0, .int .i64 r1, .int .i64 r2] 83))
    generalize ((w.alloc (.cells R1 86)).alloc (.cells #[.int .i64 r0, .int .i64 r1, .int .i64 r2] 83)) = W at *
    refine wp_region_noPanic ?_
    have B1 := Lib.hid B1.out.drew
    have B2 := Lib.hid B2.out.drew
    have HB := Lib.hid HB.out.drew
    have HS := And.intro B1.out B2.out
    refine Rg.beginR [0, 3] (fun w' => Blk w' w.heap.size 86 R1 ∧ Blk w' (w.heap.size + 1) 83 #[.int .i64 r0, .int .i64 r1, .int .i64 r2]) (by kernel_rfl) ?_
    generalize W.drew = V0 at *
    refine Rg.takeS (i := 0) (oi := { dst := some 14, op := Op.load 86 (Operand.tmp 3), type := 86, pos := "links.go:227", after := #[], guard := none }) (v := .agg R1) rfl (by kernel_rfl) (fun _ _ _ h => h) (by rfl) HS ?_ ?_
    · (intro w' hSw; exact exec_load_row 86 _ rfl _ rfl hSw.1 Try.underlying86 rfl i1)
    try simp only [Act.put, List.setIfInBounds_toArray, List.set_cons_zero, List.set_cons_succ]
    refine Rg.takeP (i := 2) (oi := { dst := some 16, op := Op.move (Operand.tmp 1), type := 3, pos := "links.go:227", after := #[], guard := none }) (v := ?_) rfl (by kernel_rfl) (fun _ _ _ h => h) (by rfl) ?_ ?_
    rotate_left 1
    · (intro w; go_simp; (try with_reducible rfl))
    try simp only [Act.put, List.setIfInBounds_toArray, List.set_cons_zero, List.set_cons_succ]
    refine Rg.takeS (i := 3) (oi := { dst := some 17, op := Op.load 83 (Operand.tmp 5), type := 83, pos := "links.go:227", after := #[], guard := none }) (v := .agg #[.int .i64 r0, .int .i64 r1, .int .i64 r2]) rfl (by kernel_rfl) (fun _ _ _ h => h) (by rfl) HS ?_ ?_
    · (intro w' hSw; exact exec_load_row 83 _ rfl _ rfl hSw.2 Try.underlying83 rfl (by kernel_rfl))
    try simp only [Act.put, List.setIfInBounds_toArray, List.set_cons_zero, List.set_cons_succ]
    refine Rg.threeR (i := 1) (j := 8) (l := 9) (oi := { dst := some 15, op := Op.call { callee := Callee.value (Operand.func 62), args := #[Operand.tmp 14], argTypes := #[86] }, type := 86, pos := "links.go:227", after := #[{ on := 0, ground := Ground.data }], guard := none }) (oj := { dst := some 7, op := Op.alloc 86, type := 0, pos := "links.go:227", after := #[], guard := none }) (ol := { dst := some 8, op := Op.alloc 37, type := 0, pos := "links.go:227", after := #[], guard := none }) (by kernel_rfl) rfl rfl rfl ?_ ?_ ?_
    ·
      refine Rg.stepS ?_
      intro K hK
      rw [if_pos (by rfl)]
      go_simp
      go_at_call 62
      rw [← HR1.out]
      refine (copyNode_any f HF.out A c bs w.heap.size _ HB.out.size hA hnc hl (HR.out.below HB.out)).mono ?_
      rintro e V1 ⟨A2, c2, rfl, hown, hb⟩
      rw [HR1.out]
      obtain ⟨ha2, hc2⟩ := own_cap hown
      have H2 := Lib.hid (Rd.of_own hown)
      have B1 := Lib.hid (B1.out.below hb B1.out.lt)
      have B2 := Lib.hid (B2.out.below hb B2.out.lt)
      have HB := Lib.hid (onward HB.out (Nat.le_refl _) hb)
      clear hb hown HS
      have HS := And.intro B1.out B2.out
      obtain ⟨R2, hR2⟩ : ∃ R2, row 74 (nodeW f (.slice A2 bs.length c2)) = R2 := ⟨_, rfl⟩
      rw [hR2]
      have HR2 := Lib.hid hR2
      clear hR2
      go_wp2_with fail
      refine hK.out _ _ HS ?_
      clear hK K
      try simp only [Act.put, List.setIfInBounds_toArray, List.set_cons_zero, List.set_cons_succ]
      refine Rg.threeR (i := 4) (j := 8) (l := 9) (oi := { dst := some 18, op := Op.call { callee := Callee.value (Operand.func 80), args := #[Operand.tmp 15, Operand.tmp 16, Operand.tmp 17], argTypes := #[86, 3, 83] }, type := 93, pos := "links.go:227", after := #[{ on := 1, ground := Ground.data }, { on := 2, ground := Ground.data }, { on := 3, ground := Ground.data }, { on := 1, ground := Ground.chain }], guard := none }) (oj := { dst := some 7, op := Op.alloc 86, type := 0, pos := "links.go:227", after := #[], guard := none }) (ol := { dst := some 8, op := Op.alloc 37, type := 0, pos := "links.go:227", after := #[], guard := none }) (by kernel_rfl) rfl rfl rfl ?_ ?_ ?_
      ·
        refine Rg.stepF ?_ ?_
        · kernel_rfl
        intro K hK
        rw [if_pos (by rfl)]
        go_simp
        go_at_call 80
        rw [← HR2.out]
        refine (CS.out A2 c2 bs _ _ (Nat.le_refl _) ha2 hc2 hl H2.out).mono ?_
        rintro e V2 ⟨A3, c3, A4, c4, rfl, h3, h4, hb, l3, l4, ha3, hc3⟩
        rw [HR2.out]
        have H3 := Lib.hid h3
        have H4 := Lib.hid h4
        obtain ⟨b3, eb3⟩ : ∃ b3, V2.heap.size = b3 := ⟨_, rfl⟩
        rw [eb3] at H3 H4
        have hb3 := Nat.le_of_eq eb3.symm
        clear eb3
        have B1 := Lib.hid (B1.out.below hb B1.out.lt)
        have B2 := Lib.hid (B2.out.below hb B2.out.lt)
        have HB := Lib.hid (onward HB.out (Nat.le_refl _) hb)
        clear hb h3 h4 HS
        have HS := And.intro B1.out B2.out
        have i3 : (Try.prog.info? 86).map (·.size) = some (row 74 (nodeW g (.slice A3 bs.length c3))).size := by rw [row_size]; kernel_rfl
        have z3 : (Try.zeroCells86).size = (row 74 (nodeW g (.slice A3 bs.length c3))).size := by rw [row_size]; kernel_rfl
        have o3 := one_of HG.out (A := A3) (n := bs.length) (c := c3)
        obtain ⟨R3, hR3⟩ : ∃ R3, row 74 (nodeW g (.slice A3 bs.length c3)) = R3 := ⟨_, rfl⟩
        rw [hR3] at i3 z3 o3 ⊢
        have HR3 := Lib.hid hR3
        clear hR3
        go_wp2_with fail
        refine hK.out _ _ ?_
        clear hK K
        try simp only [Act.put, List.setIfInBounds_toArray, List.set_cons_zero, List.set_cons_succ]
        refine Rg.takeP (i := 5) (oi := { dst := some 13, op := Op.move (Operand.tmp 18), type := 93, pos := "links.go:227", after := #[{ on := 4, ground := Ground.data }], guard := none }) (v := ?_) rfl (by kernel_rfl) (fun _ _ _ h => h) (by rfl) ?_ ?_
        rotate_left 1
        · (intro w; go_simp; (try with_reducible rfl))
        try simp only [Act.put, List.setIfInBounds_toArray, List.set_cons_zero, List.set_cons_succ]
        refine Rg.takeP (i := 6) (oi := { dst := some 19, op := Op.extract (Operand.tmp 13) 0, type := 86, pos := "links.go:227", after := #[{ on := 5, ground := Ground.data }], guard := none }) (v := ?_) rfl (by kernel_rfl) (fun _ _ _ h => h) (by rfl) ?_ ?_
        rotate_left 1
        · (intro w; go_simp; (try with_reducible rfl))
        try simp only [Act.put, List.setIfInBounds_toArray, List.set_cons_zero, List.set_cons_succ]
        refine Rg.takeP (i := 7) (oi := { dst := some 20, op := Op.extract (Operand.tmp 13) 1, type := 37, pos := "links.go:227", after := #[{ on := 5, ground := Ground.data }, { on := 10, ground := Ground.gcOnly Departure.lateStores }], guard := none }) (v := ?_) rfl (by kernel_rfl) (fun _ _ _ h => h) (by rfl) ?_ ?_
        rotate_left 1
        · (intro w; go_simp; (try with_reducible rfl))
        try simp only [Act.put, List.setIfInBounds_toArray, List.set_cons_zero, List.set_cons_succ]
        refine Rg.twoR (i := 8) (j := 9) (oi := { dst := some 7, op := Op.alloc 86, type := 0, pos := "links.go:227", after := #[], guard := none }) (oj := { dst := some 8, op := Op.alloc 37, type := 0, pos := "links.go:227", after := #[], guard := none }) (by kernel_rfl) rfl rfl ?_ ?_
        ·
          refine Rg.stepS ?_
          intro K hK
          rw [if_pos (by rfl)]
          go_simp
          have hp0 := B2.out.lt
          have BP : Hid (Blk (V2.alloc (.cells Try.zeroCells86 86)) V2.heap.size 86 Try.zeroCells86) := Lib.hid (Blk.fresh _ _ _)
          have B1 := Lib.hid (B1.out.alloc (.cells Try.zeroCells86 86))
          have B2 := Lib.hid (B2.out.alloc (.cells Try.zeroCells86 86))
          have H3 := Lib.hid (H3.out.alloc hb3 (.cells Try.zeroCells86 86))
          have H4 := Lib.hid (H4.out.alloc hb3 (.cells Try.zeroCells86 86))
          have hpl := hb3
          have hb3 := Nat.le_trans hb3 (show _ ≤ (V2.alloc (.cells Try.zeroCells86 86)).heap.size by simp)
          have HB := Lib.hid (HB.out.alloc HB.out.size (.cells Try.zeroCells86 86))
          generalize (V2.alloc (.cells Try.zeroCells86 86)) = V3 at *
          obtain ⟨p, hp⟩ : ∃ p, V2.heap.size = p := ⟨_, rfl⟩
          rw [hp] at BP hp0 hpl ⊢
          clear HS hp
          have HS := And.intro B1.out B2.out
          refine hK.out _ _ HS ?_
          clear hK K
          try simp only [Act.put, List.setIfInBounds_toArray, List.set_cons_zero, List.set_cons_succ]
          refine Rg.oneR (i := 9) (oi := { dst := some 8, op := Op.alloc 37, type := 0, pos := "links.go:227", after := #[], guard := none }) rfl (by kernel_rfl) ?_
          refine Rg.stepS ?_
          intro K hK
          rw [if_pos (by rfl)]
          go_simp
          have hq0 := B2.out.lt
          have BQ : Hid (Blk (V3.alloc (.cells #[.int .i64 0, .int .i64 0, .int .i64 0, .slice none 0 0] 37)) V3.heap.size 37 #[.int .i64 0, .int .i64 0, .int .i64 0, .slice none 0 0]) := Lib.hid (Blk.fresh _ _ _)
          have hpq := BP.out.lt
          have B1 := Lib.hid (B1.out.alloc (.cells #[.int .i64 0, .int .i64 0, .int .i64 0, .slice none 0 0] 37))
          have B2 := Lib.hid (B2.out.alloc (.cells #[.int .i64 0, .int .i64 0, .int .i64 0, .slice none 0 0] 37))
          have BP := Lib.hid (BP.out.alloc (.cells #[.int .i64 0, .int .i64 0, .int .i64 0, .slice none 0 0] 37))
          have H3 := Lib.hid (H3.out.alloc hb3 (.cells #[.int .i64 0, .int .i64 0, .int .i64 0, .slice none 0 0] 37))
          have H4 := Lib.hid (H4.out.alloc hb3 (.cells #[.int .i64 0, .int .i64 0, .int .i64 0, .slice none 0 0] 37))
          have hql := hb3
          have hb3 := Nat.le_trans hb3 (show _ ≤ (V3.alloc (.cells #[.int .i64 0, .int .i64 0, .int .i64 0, .slice none 0 0] 37)).heap.size by simp)
          have HB := Lib.hid (HB.out.alloc HB.out.size (.cells #[.int .i64 0, .int .i64 0, .int .i64 0, .slice none 0 0] 37))
          generalize (V3.alloc (.cells #[.int .i64 0, .int .i64 0, .int .i64 0, .slice none 0 0] 37)) = V4 at *
          obtain ⟨q, hq⟩ : ∃ q, V3.heap.size = q := ⟨_, rfl⟩
          rw [hq] at BQ hq0 hql hpq ⊢
          clear HS hq
          have HS := And.intro B1.out B2.out
          refine hK.out _ _ HS ?_
          clear hK K
          try simp only [Act.put, List.setIfInBounds_toArray, List.set_cons_zero, List.set_cons_succ]
          refine Rg.oneR (i := 10) (oi := { dst := none, op := Op.store 86 (Operand.tmp 7) (Operand.tmp 19), type := 0, pos := "links.go:227", after := #[{ on := 8, ground := Ground.data }, { on := 6, ground := Ground.data }, { on := 4, ground := Ground.chain }, { on := 0, ground := Ground.phase }, { on := 1, ground := Ground.phase }, { on := 2, ground := Ground.phase }, { on := 3, ground := Ground.phase }, { on := 4, ground := Ground.phase }, { on := 5, ground := Ground.phase }, { on := 6, ground := Ground.phase }, { on := 7, ground := Ground.textOnly Departure.lateStores }, { on := 8, ground := Ground.phase }, { on := 9, ground := Ground.phase }], guard := none }) rfl (by kernel_rfl) ?_
          refine Rg.stepF ?_ ?_
          · kernel_rfl
          intro K hK
          rw [if_pos (by rfl)]
          refine wp_store_row 86 _ _ rfl p R3 rfl rfl 86 _ BP.out i3 z3 o3 ?_
          have BP := Lib.hid (BP.out.setRow R3)
          have B1 := Lib.hid (B1.out.setRow_other (g' := p) (by omega) R3)
          have B2 := Lib.hid (B2.out.setRow_other (g' := p) (by omega) R3)
          have BQ := Lib.hid (BQ.out.setRow_other (g' := p) (by omega) R3)
          have H3 := Lib.hid (H3.out.setRowOut hpl R3)
          have H4 := Lib.hid (H4.out.setRowOut hpl R3)
          have HB := Lib.hid (below_setRow HB.out (show w.heap.size ≤ p by omega) R3)
          have hb3 := Nat.le_trans hb3 (below_setRow (Below.refl 0 V4) (Nat.zero_le p) R3).size
          generalize (V4.setRow p R3) = V5 at *
          clear HS
          have HS := And.intro B1.out B2.out
          refine hK.out _ _ ?_
          clear hK K
          try simp only [Act.put, List.setIfInBounds_toArray, List.set_cons_zero, List.set_cons_succ]
          refine Rg.oneR (i := 11) (oi := { dst := none, op := Op.store 37 (Operand.tmp 8) (Operand.tmp 20), type := 0, pos := "links.go:227", after := #[{ on := 9, ground := Ground.data }, { on := 7, ground := Ground.data }, { on := 10, ground := Ground.chain }, { on := 0, ground := Ground.phase }, { on := 1, ground := Ground.phase }, { on := 2, ground := Ground.phase }, { on := 3, ground := Ground.phase }, { on := 4, ground := Ground.phase }, { on := 5, ground := Ground.phase }, { on := 6, ground := Ground.phase }, { on := 7, ground := Ground.phase }, { on := 8, ground := Ground.phase }, { on := 9, ground := Ground.phase }, { on := 10, ground := Ground.phase }], guard := none }) rfl (by kernel_rfl) ?_
          refine Rg.stepF ?_ ?_
          · kernel_rfl
          intro K hK
          rw [if_pos (by rfl)]
          refine wp_store_row 37 _ _ rfl q (Ms.msgC k i fr' A4 zs.length c4) rfl rfl 37 _ BQ.out (by kernel_rfl) rfl (by simp [Ms.msgC, Value.oneCell']) ?_
          have BQ := Lib.hid (BQ.out.setRow (Ms.msgC k i fr' A4 zs.length c4))
          have B1 := Lib.hid (B1.out.setRow_other (g' := q) (by omega) (Ms.msgC k i fr' A4 zs.length c4))
          have B2 := Lib.hid (B2.out.setRow_other (g' := q) (by omega) (Ms.msgC k i fr' A4 zs.length c4))
          have BP := Lib.hid (BP.out.setRow_other (g' := q) (by omega) (Ms.msgC k i fr' A4 zs.length c4))
          have H3 := Lib.hid (H3.out.setRowOut hql (Ms.msgC k i fr' A4 zs.length c4))
          have H4 := Lib.hid (H4.out.setRowOut hql (Ms.msgC k i fr' A4 zs.length c4))
          have HB := Lib.hid (below_setRow HB.out (show w.heap.size ≤ q by omega) (Ms.msgC k i fr' A4 zs.length c4))
          have hb3 := Nat.le_trans hb3 (below_setRow (Below.refl 0 V5) (Nat.zero_le q) (Ms.msgC k i fr' A4 zs.length c4)).size
          generalize (V5.setRow q (Ms.msgC k i fr' A4 zs.length c4)) = V6 at *
          clear HS
          have HS := And.intro B1.out B2.out
          refine hK.out _ _ ?_
          clear hK K
          try simp only [Act.put, List.setIfInBounds_toArray, List.set_cons_zero, List.set_cons_succ]
          refine Rg.doneR (by kernel_rfl) ?_ _
          refine NoPanic.normal ?_
          clear HS
          go_wp2_with fail
          go_meet
          refine ⟨p, q, A3, c3, A4, c4, rfl, rfl, by omega, by omega, by omega, ?_, BQ.out, B1.out, B2.out, H3.out.more hb3, H4.out.more hb3, HB.out, ha3, hc3⟩
          rw [HR3.out]
          exact BP.out
        ·
          refine Rg.stepS ?_
          intro K hK
          rw [if_pos (by rfl)]
          go_simp
          have hq0 := B2.out.lt
          have BQ : Hid (Blk (V2.alloc (.cells #[.int .i64 0, .int .i64 0, .int .i64 0, .slice none 0 0] 37)) V2.heap.size 37 #[.int .i64 0, .int .i64 0, .int .i64 0, .slice none 0 0]) := Lib.hid (Blk.fresh _ _ _)
          have B1 := Lib.hid (B1.out.alloc (.cells #[.int .i64 0, .int .i64 0, .int .i64 0, .slice none 0 0] 37))
          have B2 := Lib.hid (B2.out.alloc (.cells #[.int .i64 0, .int .i64 0, .int .i64 0, .slice none 0 0] 37))
          have H3 := Lib.hid (H3.out.alloc hb3 (.cells #[.int .i64 0, .int .i64 0, .int .i64 0, .slice none 0 0] 37))
          have H4 := Lib.hid (H4.out.alloc hb3 (.cells #[.int .i64 0, .int .i64 0, .int .i64 0, .slice none 0 0] 37))
          have hql := hb3
          have hb3 := Nat.le_trans hb3 (show _ ≤ (V2.alloc (.cells #[.int .i64 0, .int .i64 0, .int .i64 0, .slice none 0 0] 37)).heap.size by simp)
          have HB := Lib.hid (HB.out.alloc HB.out.size (.cells #[.int .i64 0, .int .i64 0, .int .i64 0, .slice none 0 0] 37))
          generalize (V2.alloc (.cells #[.int .i64 0, .int .i64 0, .int .i64 0, .slice none 0 0] 37)) = V3 at *
          obtain ⟨q, hq⟩ : ∃ q, V2.heap.size = q := ⟨_, rfl⟩
          rw [hq] at BQ hq0 hql ⊢
          clear HS hq
          have HS := And.intro B1.out B2.out
          refine hK.out _ _ HS ?_
          clear hK K
          try simp only [Act.put, List.setIfInBounds_toArray, List.set_cons_zero, List.set_cons_succ]
          refine Rg.oneR (i := 8) (oi := { dst := some 7, op := Op.alloc 86, type := 0, pos := "links.go:227", after := #[], guard := none }) rfl (by kernel_rfl) ?_
          refine Rg.stepS ?_
          intro K hK
          rw [if_pos (by rfl)]
          go_simp
          have hp0 := B2.out.lt
          have BP : Hid (Blk (V3.alloc (.cells Try.zeroCells86 86)) V3.heap.size 86 Try.zeroCells86) := Lib.hid (Blk.fresh _ _ _)
          have hpq := BQ.out.lt
          have B1 := Lib.hid (B1.out.alloc (.cells Try.zeroCells86 86))
          have B2 := Lib.hid (B2.out.alloc (.cells Try.zeroCells86 86))
          have BQ := Lib.hid (BQ.out.alloc (.cells Try.zeroCells86 86))
          have H3 := Lib.hid (H3.out.alloc hb3 (.cells Try.zeroCells86 86))
          have H4 := Lib.hid (H4.out.alloc hb3 (.cells Try.zeroCells86 86))
          have hpl := hb3
          have hb3 := Nat.le_trans hb3 (show _ ≤ (V3.alloc (.cells Try.zeroCells86 86)).heap.size by simp)
          have HB := Lib.hid (HB.out.alloc HB.out.size (.cells Try.zeroCells86 86))
          generalize (V3.alloc (.cells Try.zeroCells86 86)) = V4 at *
          obtain ⟨p, hp⟩ : ∃ p, V3.heap.size = p := ⟨_, rfl⟩
          rw [hp] at BP hp0 hpl hpq ⊢
          clear HS hp
          have HS := And.intro B1.out B2.out
          refine hK.out _ _ HS ?_
          clear hK K
          try simp only [Act.put, List.setIfInBounds_toArray, List.set_cons_zero, List.set_cons_succ]
          refine Rg.oneR (i := 10) (oi := { dst := none, op := Op.store 86 (Operand.tmp 7) (Operand.tmp 19), type := 0, pos := "links.go:227", after := #[{ on := 8, ground := Ground.data }, { on := 6, ground := Ground.data }, { on := 4, ground := Ground.chain }, { on := 0, ground := Ground.phase }, { on := 1, ground := Ground.phase }, { on := 2, ground := Ground.phase }, { on := 3, ground := Ground.phase }, { on := 4, ground := Ground.phase }, { on := 5, ground := Ground.phase }, { on := 6, ground := Ground.phase }, { on := 7, ground := Ground.textOnly Departure.lateStores }, { on := 8, ground := Ground.phase }, { on := 9, ground := Ground.phase }], guard := none }) rfl (by kernel_rfl) ?_
          refine Rg.stepF ?_ ?_
          · kernel_rfl
          intro K hK
          rw [if_pos (by rfl)]
          refine wp_store_row 86 _ _ rfl p R3 rfl rfl 86 _ BP.out i3 z3 o3 ?_
          have BP := Lib.hid (BP.out.setRow R3)
          have B1 := Lib.hid (B1.out.setRow_other (g' := p) (by omega) R3)
          have B2 := Lib.hid (B2.out.setRow_other (g' := p) (by omega) R3)
          have BQ := Lib.hid (BQ.out.setRow_other (g' := p) (by omega) R3)
          have H3 := Lib.hid (H3.out.setRowOut hpl R3)
          have H4 := Lib.hid (H4.out.setRowOut hpl R3)
          have HB := Lib.hid (below_setRow HB.out (show w.heap.size ≤ p by omega) R3)
          have hb3 := Nat.le_trans hb3 (below_setRow (Below.refl 0 V4) (Nat.zero_le p) R3).size
          generalize (V4.setRow p R3) = V5 at *
          clear HS
          have HS := And.intro B1.out B2.out
          refine hK.out _ _ ?_
          clear hK K
          try simp only [Act.put, List.setIfInBounds_toArray, List.set_cons_zero, List.set_cons_succ]
          refine Rg.oneR (i := 11) (oi := { dst := none, op := Op.store 37 (Operand.tmp 8) (Operand.tmp 20), type := 0, pos := "links.go:227", after := #[{ on := 9, ground := Ground.data }, { on := 7, ground := Ground.data }, { on := 10, ground := Ground.chain }, { on := 0, ground := Ground.phase }, { on := 1, ground := Ground.phase }, { on := 2, ground := Ground.phase }, { on := 3, ground := Ground.phase }, { on := 4, ground := Ground.phase }, { on := 5, ground := Ground.phase }, { on := 6, ground := Ground.phase }, { on := 7, ground := Ground.phase }, { on := 8, ground := Ground.phase }, { on := 9, ground := Ground.phase }, { on := 10, ground := Ground.phase }], guard := none }) rfl (by kernel_rfl) ?_
          refine Rg.stepF ?_ ?_
          · kernel_rfl
          intro K hK
          rw [if_pos (by rfl)]
          refine wp_store_row 37 _ _ rfl q (Ms.msgC k i fr' A4 zs.length c4) rfl rfl 37 _ BQ.out (by kernel_rfl) rfl (by simp [Ms.msgC, Value.oneCell']) ?_
          have BQ := Lib.hid (BQ.out.setRow (Ms.msgC k i fr' A4 zs.length c4))
          have B1 := Lib.hid (B1.out.setRow_other (g' := q) (by omega) (Ms.msgC k i fr' A4 zs.length c4))
          have B2 := Lib.hid (B2.out.setRow_other (g' := q) (by omega) (Ms.msgC k i fr' A4 zs.length c4))
          have BP := Lib.hid (BP.out.setRow_other (g' := q) (by omega) (Ms.msgC k i fr' A4 zs.length c4))
          have H3 := Lib.hid (H3.out.setRowOut hql (Ms.msgC k i fr' A4 zs.length c4))
          have H4 := Lib.hid (H4.out.setRowOut hql (Ms.msgC k i fr' A4 zs.length c4))
          have HB := Lib.hid (below_setRow HB.out (show w.heap.size ≤ q by omega) (Ms.msgC k i fr' A4 zs.length c4))
          have hb3 := Nat.le_trans hb3 (below_setRow (Below.refl 0 V5) (Nat.zero_le q) (Ms.msgC k i fr' A4 zs.length c4)).size
          generalize (V5.setRow q (Ms.msgC k i fr' A4 zs.length c4)) = V6 at *
          clear HS
          have HS := And.intro B1.out B2.out
          refine hK.out _ _ ?_
          clear hK K
          try simp only [Act.put, List.setIfInBounds_toArray, List.set_cons_zero, List.set_cons_succ]
          refine Rg.doneR (by kernel_rfl) ?_ _
          refine NoPanic.normal ?_
          clear HS
          go_wp2_with fail
          go_meet
          refine ⟨p, q, A3, c3, A4, c4, rfl, rfl, by omega, by omega, by omega, ?_, BQ.out, B1.out, B2.out, H3.out.more hb3, H4.out.more hb3, HB.out, ha3, hc3⟩
          rw [HR3.out]
          exact BP.out
      ·
        refine Rg.stepS ?_
        intro K hK
        rw [if_pos (by rfl)]
        go_simp
        have hp0 := B2.out.lt
        have BP : Hid (Blk (V1.alloc (.cells Try.zeroCells86 86)) V1.heap.size 86 Try.zeroCells86) := Lib.hid (Blk.fresh _ _ _)
        have B1 := Lib.hid (B1.out.alloc (.cells Try.zeroCells86 86))
        have B2 := Lib.hid (B2.out.alloc (.cells Try.zeroCells86 86))
        have H2 := Lib.hid ((H2.out.alloc (Nat.le_refl _) (.cells Try.zeroCells86 86)).more (show _ ≤ (V1.alloc (.cells Try.zeroCells86 86)).heap.size by simp))
        have HB := Lib.hid (HB.out.alloc HB.out.size (.cells Try.zeroCells86 86))
        generalize (V1.alloc (.cells Try.zeroCells86 86)) = V2 at *
        obtain ⟨p, hp⟩ : ∃ p, V1.heap.size = p := ⟨_, rfl⟩
        rw [hp] at BP hp0 ⊢
        clear HS hp
        have HS := And.intro B1.out B2.out
        refine hK.out _ _ HS ?_
        clear hK K
        try simp only [Act.put, List.setIfInBounds_toArray, List.set_cons_zero, List.set_cons_succ]
        refine Rg.twoR (i := 4) (j := 9) (oi := { dst := some 18, op := Op.call { callee := Callee.value (Operand.func 80), args := #[Operand.tmp 15, Operand.tmp 16, Operand.tmp 17], argTypes := #[86, 3, 83] }, type := 93, pos := "links.go:227", after := #[{ on := 1, ground := Ground.data }, { on := 2, ground := Ground.data }, { on := 3, ground := Ground.data }, { on := 1, ground := Ground.chain }], guard := none }) (oj := { dst := some 8, op := Op.alloc 37, type := 0, pos := "links.go:227", after := #[], guard := none }) (by kernel_rfl) rfl rfl ?_ ?_
        ·
          refine Rg.stepF ?_ ?_
          · kernel_rfl
          intro K hK
          rw [if_pos (by rfl)]
          go_simp
          go_at_call 80
          rw [← HR2.out]
          refine (CS.out A2 c2 bs _ _ (Nat.le_refl _) ha2 hc2 hl H2.out).mono ?_
          rintro e V3 ⟨A3, c3, A4, c4, rfl, h3, h4, hb, l3, l4, ha3, hc3⟩
          rw [HR2.out]
          have hpl := BP.out.lt
          have H3 := Lib.hid h3
          have H4 := Lib.hid h4
          obtain ⟨b3, eb3⟩ : ∃ b3, V3.heap.size = b3 := ⟨_, rfl⟩
          rw [eb3] at H3 H4
          have hb3 := Nat.le_of_eq eb3.symm
          clear eb3
          have B1 := Lib.hid (B1.out.below hb B1.out.lt)
          have B2 := Lib.hid (B2.out.below hb B2.out.lt)
          have BP := Lib.hid (BP.out.below hb BP.out.lt)
          have HB := Lib.hid (onward HB.out (Nat.le_refl _) hb)
          clear hb h3 h4 HS
          have HS := And.intro B1.out B2.out
          have i3 : (Try.prog.info? 86).map (·.size) = some (row 74 (nodeW g (.slice A3 bs.length c3))).size := by rw [row_size]; kernel_rfl
          have z3 : (Try.zeroCells86).size = (row 74 (nodeW g (.slice A3 bs.length c3))).size := by rw [row_size]; kernel_rfl
          have o3 := one_of HG.out (A := A3) (n := bs.length) (c := c3)
          obtain ⟨R3, hR3⟩ : ∃ R3, row 74 (nodeW g (.slice A3 bs.length c3)) = R3 := ⟨_, rfl⟩
          rw [hR3] at i3 z3 o3 ⊢
          have HR3 := Lib.hid hR3
          clear hR3
          go_wp2_with fail
          refine hK.out _ _ ?_
          clear hK K
          try simp only [Act.put, List.setIfInBounds_toArray, List.set_cons_zero, List.set_cons_succ]
          refine Rg.takeP (i := 5) (oi := { dst := some 13, op := Op.move (Operand.tmp 18), type := 93, pos := "links.go:227", after := #[{ on := 4, ground := Ground.data }], guard := none }) (v := ?_) rfl (by kernel_rfl) (fun _ _ _ h => h) (by rfl) ?_ ?_
          rotate_left 1
          · (intro w; go_simp; (try with_reducible rfl))
          try simp only [Act.put, List.setIfInBounds_toArray, List.set_cons_zero, List.set_cons_succ]
          refine Rg.takeP (i := 6) (oi := { dst := some 19, op := Op.extract (Operand.tmp 13) 0, type := 86, pos := "links.go:227", after := #[{ on := 5, ground := Ground.data }], guard := none }) (v := ?_) rfl (by kernel_rfl) (fun _ _ _ h => h) (by rfl) ?_ ?_
          rotate_left 1
          · (intro w; go_simp; (try with_reducible rfl))
          try simp only [Act.put, List.setIfInBounds_toArray, List.set_cons_zero, List.set_cons_succ]
          refine Rg.takeP (i := 7) (oi := { dst := some 20, op := Op.extract (Operand.tmp 13) 1, type := 37, pos := "links.go:227", after := #[{ on := 5, ground := Ground.data }, { on := 10, ground := Ground.gcOnly Departure.lateStores }], guard := none }) (v := ?_) rfl (by kernel_rfl) (fun _ _ _ h => h) (by rfl) ?_ ?_
          rotate_left 1
          · (intro w; go_simp; (try with_reducible rfl))
          try simp only [Act.put, List.setIfInBounds_toArray, List.set_cons_zero, List.set_cons_succ]
          refine Rg.oneR (i := 9) (oi := { dst := some 8, op := Op.alloc 37, type := 0, pos := "links.go:227", after := #[], guard := none }) rfl (by kernel_rfl) ?_
          refine Rg.stepS ?_
          intro K hK
          rw [if_pos (by rfl)]
          go_simp
          have hq0 := B2.out.lt
          have BQ : Hid (Blk (V3.alloc (.cells #[.int .i64 0, .int .i64 0, .int .i64 0, .slice none 0 0] 37)) V3.heap.size 37 #[.int .i64 0, .int .i64 0, .int .i64 0, .slice none 0 0]) := Lib.hid (Blk.fresh _ _ _)
          have hpq := BP.out.lt
          have B1 := Lib.hid (B1.out.alloc (.cells #[.int .i64 0, .int .i64 0, .int .i64 0, .slice none 0 0] 37))
          have B2 := Lib.hid (B2.out.alloc (.cells #[.int .i64 0, .int .i64 0, .int .i64 0, .slice none 0 0] 37))
          have BP := Lib.hid (BP.out.alloc (.cells #[.int .i64 0, .int .i64 0, .int .i64 0, .slice none 0 0] 37))
          have H3 := Lib.hid (H3.out.alloc hb3 (.cells #[.int .i64 0, .int .i64 0, .int .i64 0, .slice none 0 0] 37))
          have H4 := Lib.hid (H4.out.alloc hb3 (.cells #[.int .i64 0, .int .i64 0, .int .i64 0, .slice none 0 0] 37))
          have hql := hb3
          have hb3 := Nat.le_trans hb3 (show _ ≤ (V3.alloc (.cells #[.int .i64 0, .int .i64 0, .int .i64 0, .slice none 0 0] 37)).heap.size by simp)
          have HB := Lib.hid (HB.out.alloc HB.out.size (.cells #[.int .i64 0, .int .i64 0, .int .i64 0, .slice none 0 0] 37))
          generalize (V3.alloc (.cells #[.int .i64 0, .int .i64 0, .int .i64 0, .slice none 0 0] 37)) = V4 at *
          obtain ⟨q, hq⟩ : ∃ q, V3.heap.size = q := ⟨_, rfl⟩
          rw [hq] at BQ hq0 hql hpq ⊢
          clear HS hq
          have HS := And.intro B1.out B2.out
          refine hK.out _ _ HS ?_
          clear hK K
          try simp only [Act.put, List.setIfInBounds_toArray, List.set_cons_zero, List.set_cons_succ]
          refine Rg.oneR (i := 10) (oi := { dst := none, op := Op.store 86 (Operand.tmp 7) (Operand.tmp 19), type := 0, pos := "links.go:227", after := #[{ on := 8, ground := Ground.data }, { on := 6, ground := Ground.data }, { on := 4, ground := Ground.chain }, { on := 0, ground := Ground.phase }, { on := 1, ground := Ground.phase }, { on := 2, ground := Ground.phase }, { on := 3, ground := Ground.phase }, { on := 4, ground := Ground.phase }, { on := 5, ground := Ground.phase }, { on := 6, ground := Ground.phase }, { on := 7, ground := Ground.textOnly Departure.lateStores }, { on := 8, ground := Ground.phase }, { on := 9, ground := Ground.phase }], guard := none }) rfl (by kernel_rfl) ?_
          refine Rg.stepF ?_ ?_
          · kernel_rfl
          intro K hK
          rw [if_pos (by rfl)]
          refine wp_store_row 86 _ _ rfl p R3 rfl rfl 86 _ BP.out i3 z3 o3 ?_
          have BP := Lib.hid (BP.out.setRow R3)
          have B1 := Lib.hid (B1.out.setRow_other (g' := p) (by omega) R3)
          have B2 := Lib.hid (B2.out.setRow_other (g' := p) (by omega) R3)
          have BQ := Lib.hid (BQ.out.setRow_other (g' := p) (by omega) R3)
          have H3 := Lib.hid (H3.out.setRowIn l3 hpl R3)
          have H4 := Lib.hid (H4.out.setRowIn l4 hpl R3)
          have HB := Lib.hid (below_setRow HB.out (show w.heap.size ≤ p by omega) R3)
          have hb3 := Nat.le_trans hb3 (below_setRow (Below.refl 0 V4) (Nat.zero_le p) R3).size
          generalize (V4.setRow p R3) = V5 at *
          clear HS
          have HS := And.intro B1.out B2.out
          refine hK.out _ _ ?_
          clear hK K
          try simp only [Act.put, List.setIfInBounds_toArray, List.set_cons_zero, List.set_cons_succ]
          refine Rg.oneR (i := 11) (oi := { dst := none, op := Op.store 37 (Operand.tmp 8) (Operand.tmp 20), type := 0, pos := "links.go:227", after := #[{ on := 9, ground := Ground.data }, { on := 7, ground := Ground.data }, { on := 10, ground := Ground.chain }, { on := 0, ground := Ground.phase }, { on := 1, ground := Ground.phase }, { on := 2, ground := Ground.phase }, { on := 3, ground := Ground.phase }, { on := 4, ground := Ground.phase }, { on := 5, ground := Ground.phase }, { on := 6, ground := Ground.phase }, { on := 7, ground := Ground.phase }, { on := 8, ground := Ground.phase }, { on := 9, ground := Ground.phase }, { on := 10, ground := Ground.phase }], guard := none }) rfl (by kernel_rfl) ?_
          refine Rg.stepF ?_ ?_
          · kernel_rfl
          intro K hK
          rw [if_pos (by rfl)]
          refine wp_store_row 37 _ _ rfl q (Ms.msgC k i fr' A4 zs.length c4) rfl rfl 37 _ BQ.out (by kernel_rfl) rfl (by simp [Ms.msgC, Value.oneCell']) ?_
          have BQ := Lib.hid (BQ.out.setRow (Ms.msgC k i fr' A4 zs.length c4))
          have B1 := Lib.hid (B1.out.setRow_other (g' := q) (by omega) (Ms.msgC k i fr' A4 zs.length c4))
          have B2 := Lib.hid (B2.out.setRow_other (g' := q) (by omega) (Ms.msgC k i fr' A4 zs.length c4))
          have BP := Lib.hid (BP.out.setRow_other (g' := q) (by omega) (Ms.msgC k i fr' A4 zs.length c4))
          have H3 := Lib.hid (H3.out.setRowOut hql (Ms.msgC k i fr' A4 zs.length c4))
          have H4 := Lib.hid (H4.out.setRowOut hql (Ms.msgC k i fr' A4 zs.length c4))
          have HB := Lib.hid (below_setRow HB.out (show w.heap.size ≤ q by omega) (Ms.msgC k i fr' A4 zs.length c4))
          have hb3 := Nat.le_trans hb3 (below_setRow (Below.refl 0 V5) (Nat.zero_le q) (Ms.msgC k i fr' A4 zs.length c4)).size
          generalize (V5.setRow q (Ms.msgC k i fr' A4 zs.length c4)) = V6 at *
          clear HS
          have HS := And.intro B1.out B2.out
          refine hK.out _ _ ?_
          clear hK K
          try simp only [Act.put, List.setIfInBounds_toArray, List.set_cons_zero, List.set_cons_succ]
          refine Rg.doneR (by kernel_rfl) ?_ _
          refine NoPanic.normal ?_
          clear HS
          go_wp2_with fail
          go_meet
          refine ⟨p, q, A3, c3, A4, c4, rfl, rfl, by omega, by omega, by omega, ?_, BQ.out, B1.out, B2.out, H3.out.more hb3, H4.out.more hb3, HB.out, ha3, hc3⟩
          rw [HR3.out]
          exact BP.out
        ·
          refine Rg.stepS ?_
          intro K hK
          rw [if_pos (by rfl)]
          go_simp
          have hq0 := B2.out.lt
          have BQ : Hid (Blk (V2.alloc (.cells #[.int .i64 0, .int .i64 0, .int .i64 0, .slice none 0 0] 37)) V2.heap.size 37 #[.int .i64 0, .int .i64 0, .int .i64 0, .slice none 0 0]) := Lib.hid (Blk.fresh _ _ _)
          have hpq := BP.out.lt
          have B1 := Lib.hid (B1.out.alloc (.cells #[.int .i64 0, .int .i64 0, .int .i64 0, .slice none 0 0] 37))
          have B2 := Lib.hid (B2.out.alloc (.cells #[.int .i64 0, .int .i64 0, .int .i64 0, .slice none 0 0] 37))
          have BP := Lib.hid (BP.out.alloc (.cells #[.int .i64 0, .int .i64 0, .int .i64 0, .slice none 0 0] 37))
          have H2 := Lib.hid ((H2.out.alloc (Nat.le_refl _) (.cells #[.int .i64 0, .int .i64 0, .int .i64 0, .slice none 0 0] 37)).more (show _ ≤ (V2.alloc (.cells #[.int .i64 0, .int .i64 0, .int .i64 0, .slice none 0 0] 37)).heap.size by simp))
          have HB := Lib.hid (HB.out.alloc HB.out.size (.cells #[.int .i64 0, .int .i64 0, .int .i64 0, .slice none 0 0] 37))
          generalize (V2.alloc (.cells #[.int .i64 0, .int .i64 0, .int .i64 0, .slice none 0 0] 37)) = V3 at *
          obtain ⟨q, hq⟩ : ∃ q, V2.heap.size = q := ⟨_, rfl⟩
          rw [hq] at BQ hq0 hpq ⊢
          clear HS hq
          have HS := And.intro B1.out B2.out
          refine hK.out _ _ HS ?_
          clear hK K
          try simp only [Act.put, List.setIfInBounds_toArray, List.set_cons_zero, List.set_cons_succ]
          refine Rg.oneR (i := 4) (oi := { dst := some 18, op := Op.call { callee := Callee.value (Operand.func 80), args := #[Operand.tmp 15, Operand.tmp 16, Operand.tmp 17], argTypes := #[86, 3, 83] }, type := 93, pos := "links.go:227", after := #[{ on := 1, ground := Ground.data }, { on := 2, ground := Ground.data }, { on := 3, ground := Ground.data }, { on := 1, ground := Ground.chain }], guard := none }) rfl (by kernel_rfl) ?_
          refine Rg.stepF ?_ ?_
          · kernel_rfl
          intro K hK
          rw [if_pos (by rfl)]
          go_simp
          go_at_call 80
          rw [← HR2.out]
          refine (CS.out A2 c2 bs _ _ (Nat.le_refl _) ha2 hc2 hl H2.out).mono ?_
          rintro e V4 ⟨A3, c3, A4, c4, rfl, h3, h4, hb, l3, l4, ha3, hc3⟩
          rw [HR2.out]
          have hpl := BP.out.lt
          have hql := BQ.out.lt
          have H3 := Lib.hid h3
          have H4 := Lib.hid h4
          obtain ⟨b3, eb3⟩ : ∃ b3, V4.heap.size = b3 := ⟨_, rfl⟩
          rw [eb3] at H3 H4
          have hb3 := Nat.le_of_eq eb3.symm
          clear eb3
          have B1 := Lib.hid (B1.out.below hb B1.out.lt)
          have B2 := Lib.hid (B2.out.below hb B2.out.lt)
          have BP := Lib.hid (BP.out.below hb BP.out.lt)
          have BQ := Lib.hid (BQ.out.below hb BQ.out.lt)
          have HB := Lib.hid (onward HB.out (Nat.le_refl _) hb)
          clear hb h3 h4 HS
          have HS := And.intro B1.out B2.out
          have i3 : (Try.prog.info? 86).map (·.size) = some (row 74 (nodeW g (.slice A3 bs.length c3))).size := by rw [row_size]; kernel_rfl
          have z3 : (Try.zeroCells86).size = (row 74 (nodeW g (.slice A3 bs.length c3))).size := by rw [row_size]; kernel_rfl
          have o3 := one_of HG.out (A := A3) (n := bs.length) (c := c3)
          obtain ⟨R3, hR3⟩ : ∃ R3, row 74 (nodeW g (.slice A3 bs.length c3)) = R3 := ⟨_, rfl⟩
          rw [hR3] at i3 z3 o3 ⊢
          have HR3 := Lib.hid hR3
          clear hR3
          go_wp2_with fail
          refine hK.out _ _ ?_
          clear hK K
          try simp only [Act.put, List.setIfInBounds_toArray, List.set_cons_zero, List.set_cons_succ]
          refine Rg.takeP (i := 5) (oi := { dst := some 13, op := Op.move (Operand.tmp 18), type := 93, pos := "links.go:227", after := #[{ on := 4, ground := Ground.data }], guard := none }) (v := ?_) rfl (by kernel_rfl) (fun _ _ _ h => h) (by rfl) ?_ ?_
          rotate_left 1
          · (intro w; go_simp; (try with_reducible rfl))
          try simp only [Act.put, List.setIfInBounds_toArray, List.set_cons_zero, List.set_cons_succ]
          refine Rg.takeP (i := 6) (oi := { dst := some 19, op := Op.extract (Operand.tmp 13) 0, type := 86, pos := "links.go:227", after := #[{ on := 5, ground := Ground.data }], guard := none }) (v := ?_) rfl (by kernel_rfl) (fun _ _ _ h => h) (by rfl) ?_ ?_
          rotate_left 1
          · (intro w; go_simp; (try with_reducible rfl))
          try simp only [Act.put, List.setIfInBounds_toArray, List.set_cons_zero, List.set_cons_succ]
          refine Rg.takeP (i := 7) (oi := { dst := some 20, op := Op.extract (Operand.tmp 13) 1, type := 37, pos := "links.go:227", after := #[{ on := 5, ground := Ground.data }, { on := 10, ground := Ground.gcOnly Departure.lateStores }], guard := none }) (v := ?_) rfl (by kernel_rfl) (fun _ _ _ h => h) (by rfl) ?_ ?_
          rotate_left 1
          · (intro w; go_simp; (try with_reducible rfl))
          try simp only [Act.put, List.setIfInBounds_toArray, List.set_cons_zero, List.set_cons_succ]
          refine Rg.oneR (i := 10) (oi := { dst := none, op := Op.store 86 (Operand.tmp 7) (Operand.tmp 19), type := 0, pos := "links.go:227", after := #[{ on := 8, ground := Ground.data }, { on := 6, ground := Ground.data }, { on := 4, ground := Ground.chain }, { on := 0, ground := Ground.phase }, { on := 1, ground := Ground.phase }, { on := 2, ground := Ground.phase }, { on := 3, ground := Ground.phase }, { on := 4, ground := Ground.phase }, { on := 5, ground := Ground.phase }, { on := 6, ground := Ground.phase }, { on := 7, ground := Ground.textOnly Departure.lateStores }, { on := 8, ground := Ground.phase }, { on := 9, ground := Ground.phase }], guard := none }) rfl (by kernel_rfl) ?_
          refine Rg.stepF ?_ ?_
          · kernel_rfl
          intro K hK
          rw [if_pos (by rfl)]
          refine wp_store_row 86 _ _ rfl p R3 rfl rfl 86 _ BP.out i3 z3 o3 ?_
          have BP := Lib.hid (BP.out.setRow R3)
          have B1 := Lib.hid (B1.out.setRow_other (g' := p) (by omega) R3)
          have B2 := Lib.hid (B2.out.setRow_other (g' := p) (by omega) R3)
          have BQ := Lib.hid (BQ.out.setRow_other (g' := p) (by omega) R3)
          have H3 := Lib.hid (H3.out.setRowIn l3 hpl R3)
          have H4 := Lib.hid (H4.out.setRowIn l4 hpl R3)
          have HB := Lib.hid (below_setRow HB.out (show w.heap.size ≤ p by omega) R3)
          have hb3 := Nat.le_trans hb3 (below_setRow (Below.refl 0 V4) (Nat.zero_le p) R3).size
          generalize (V4.setRow p R3) = V5 at *
          clear HS
          have HS := And.intro B1.out B2.out
          refine hK.out _ _ ?_
          clear hK K
          try simp only [Act.put, List.setIfInBounds_toArray, List.set_cons_zero, List.set_cons_succ]
          refine Rg.oneR (i := 11) (oi := { dst := none, op := Op.store 37 (Operand.tmp 8) (Operand.tmp 20), type := 0, pos := "links.go:227", after := #[{ on := 9, ground := Ground.data }, { on := 7, ground := Ground.data }, { on := 10, ground := Ground.chain }, { on := 0, ground := Ground.phase }, { on := 1, ground := Ground.phase }, { on := 2, ground := Ground.phase }, { on := 3, ground := Ground.phase }, { on := 4, ground := Ground.phase }, { on := 5, ground := Ground.phase }, { on := 6, ground := Ground.phase }, { on := 7, ground := Ground.phase }, { on := 8, ground := Ground.phase }, { on := 9, ground := Ground.phase }, { on := 10, ground := Ground.phase }], guard := none }) rfl (by kernel_rfl) ?_
          refine Rg.stepF ?_ ?_
          · kernel_rfl
          intro K hK
          rw [if_pos (by rfl)]
          refine wp_store_row 37 _ _ rfl q (Ms.msgC k i fr' A4 zs.length c4) rfl rfl 37 _ BQ.out (by kernel_rfl) rfl (by simp [Ms.msgC, Value.oneCell']) ?_
          have BQ := Lib.hid (BQ.out.setRow (Ms.msgC k i fr' A4 zs.length c4))
          have B1 := Lib.hid (B1.out.setRow_other (g' := q) (by omega) (Ms.msgC k i fr' A4 zs.length c4))
          have B2 := Lib.hid (B2.out.setRow_other (g' := q) (by omega) (Ms.msgC k i fr' A4 zs.length c4))
          have BP := Lib.hid (BP.out.setRow_other (g' := q) (by omega) (Ms.msgC k i fr' A4 zs.length c4))
          have H3 := Lib.hid (H3.out.setRowIn l3 hql (Ms.msgC k i fr' A4 zs.length c4))
          have H4 := Lib.hid (H4.out.setRowIn l4 hql (Ms.msgC k i fr' A4 zs.length c4))
          have HB := Lib.hid (below_setRow HB.out (show w.heap.size ≤ q by omega) (Ms.msgC k i fr' A4 zs.length c4))
          have hb3 := Nat.le_trans hb3 (below_setRow (Below.refl 0 V5) (Nat.zero_le q) (Ms.msgC k i fr' A4 zs.length c4)).size
          generalize (V5.setRow q (Ms.msgC k i fr' A4 zs.length c4)) = V6 at *
          clear HS
          have HS := And.intro B1.out B2.out
          refine hK.out _ _ ?_
          clear hK K
          try simp only [Act.put, List.setIfInBounds_toArray, List.set_cons_zero, List.set_cons_succ]
          refine Rg.doneR (by kernel_rfl) ?_ _
          refine NoPanic.normal ?_
          clear HS
          go_wp2_with fail
          go_meet
          refine ⟨p, q, A3, c3, A4, c4, rfl, rfl, by omega, by omega, by omega, ?_, BQ.out, B1.out, B2.out, H3.out.more hb3, H4.out.more hb3, HB.out, ha3, hc3⟩
          rw [HR3.out]
          exact BP.out
      ·
        refine Rg.stepS ?_
        intro K hK
        rw [if_pos (by rfl)]
        go_simp
        have hq0 := B2.out.lt
        have BQ : Hid (Blk (V1.alloc (.cells #[.int .i64 0, .int .i64 0, .int .i64 0, .slice none 0 0] 37)) V1.heap.size 37 #[.int .i64 0, .int .i64 0, .int .i64 0, .slice none 0 0]) := Lib.hid (Blk.fresh _ _ _)
        have B1 := Lib.hid (B1.out.alloc (.cells #[.int .i64 0, .int .i64 0, .int .i64 0, .slice none 0 0] 37))
        have B2 := Lib.hid (B2.out.alloc (.cells #[.int .i64 0, .int .i64 0, .int .i64 0, .slice none 0 0] 37))
        have H2 := Lib.hid ((H2.out.alloc (Nat.le_refl _) (.cells #[.int .i64 0, .int .i64 0, .int .i64 0, .slice none 0 0] 37)).more (show _ ≤ (V1.alloc (.cells #[.int .i64 0, .int .i64 0, .int .i64 0, .slice none 0 0] 37)).heap.size by simp))
        have HB := Lib.hid (HB.out.alloc HB.out.size (.cells #[.int .i64 0, .int .i64 0, .int .i64 0, .slice none 0 0] 37))
        generalize (V1.alloc (.cells #[.int .i64 0, .int .i64 0, .int .i64 0, .slice none 0 0] 37)) = V2 at *
        obtain ⟨q, hq⟩ : ∃ q, V1.heap.size = q := ⟨_, rfl⟩
        rw [hq] at BQ hq0 ⊢
        clear HS hq
        have HS := And.intro B1.out B2.out
        refine hK.out _ _ HS ?_
        clear hK K
        try simp only [Act.put, List.setIfInBounds_toArray, List.set_cons_zero, List.set_cons_succ]
        refine Rg.twoR (i := 4) (j := 8) (oi := { dst := some 18, op := Op.call { callee := Callee.value (Operand.func 80), args := #[Operand.tmp 15, Operand.tmp 16, Operand.tmp 17], argTypes := #[86, 3, 83] }, type := 93, pos := "links.go:227", after := #[{ on := 1, ground := Ground.data }, { on := 2, ground := Ground.data }, { on := 3, ground := Ground.data }, { on := 1, ground := Ground.chain }], guard := none }) (oj := { dst := some 7, op := Op.alloc 86, type := 0, pos := "links.go:227", after := #[], guard := none }) (by kernel_rfl) rfl rfl ?_ ?_
        ·
          refine Rg.stepF ?_ ?_
          · kernel_rfl
          intro K hK
          rw [if_pos (by rfl)]
          go_simp
          go_at_call 80
          rw [← HR2.out]
          refine (CS.out A2 c2 bs _ _ (Nat.le_refl _) ha2 hc2 hl H2.out).mono ?_
          rintro e V3 ⟨A3, c3, A4, c4, rfl, h3, h4, hb, l3, l4, ha3, hc3⟩
          rw [HR2.out]
          have hql := BQ.out.lt
          have H3 := Lib.hid h3
          have H4 := Lib.hid h4
          obtain ⟨b3, eb3⟩ : ∃ b3, V3.heap.size = b3 := ⟨_, rfl⟩
          rw [eb3] at H3 H4
          have hb3 := Nat.le_of_eq eb3.symm
          clear eb3
          have B1 := Lib.hid (B1.out.below hb B1.out.lt)
          have B2 := Lib.hid (B2.out.below hb B2.out.lt)
          have BQ := Lib.hid (BQ.out.below hb BQ.out.lt)
          have HB := Lib.hid (onward HB.out (Nat.le_refl _) hb)
          clear hb h3 h4 HS
          have HS := And.intro B1.out B2.out
          have i3 : (Try.prog.info? 86).map (·.size) = some (row 74 (nodeW g (.slice A3 bs.length c3))).size := by rw [row_size]; kernel_rfl
          have z3 : (Try.zeroCells86).size = (row 74 (nodeW g (.slice A3 bs.length c3))).size := by rw [row_size]; kernel_rfl
          have o3 := one_of HG.out (A := A3) (n := bs.length) (c := c3)
          obtain ⟨R3, hR3⟩ : ∃ R3, row 74 (nodeW g (.slice A3 bs.length c3)) = R3 := ⟨_, rfl⟩
          rw [hR3] at i3 z3 o3 ⊢
          have HR3 := Lib.hid hR3
          clear hR3
          go_wp2_with fail
          refine hK.out _ _ ?_
          clear hK K
          try simp only [Act.put, List.setIfInBounds_toArray, List.set_cons_zero, List.set_cons_succ]
          refine Rg.takeP (i := 5) (oi := { dst := some 13, op := Op.move (Operand.tmp 18), type := 93, pos := "links.go:227", after := #[{ on := 4, ground := Ground.data }], guard := none }) (v := ?_) rfl (by kernel_rfl) (fun _ _ _ h => h) (by rfl) ?_ ?_
          rotate_left 1
          · (intro w; go_simp; (try with_reducible rfl))
          try simp only [Act.put, List.setIfInBounds_toArray, List.set_cons_zero, List.set_cons_succ]
          refine Rg.takeP (i := 6) (oi := { dst := some 19, op := Op.extract (Operand.tmp 13) 0, type := 86, pos := "links.go:227", after := #[{ on := 5, ground := Ground.data }], guard := none }) (v := ?_) rfl (by kernel_rfl) (fun _ _ _ h => h) (by rfl) ?_ ?_
          rotate_left 1
          · (intro w; go_simp; (try with_reducible rfl))
          try simp only [Act.put, List.setIfInBounds_toArray, List.set_cons_zero, List.set_cons_succ]
          refine Rg.takeP (i := 7) (oi := { dst := some 20, op := Op.extract (Operand.tmp 13) 1, type := 37, pos := "links.go:227", after := #[{ on := 5, ground := Ground.data }, { on := 10, ground := Ground.gcOnly Departure.lateStores }], guard := none }) (v := ?_) rfl (by kernel_rfl) (fun _ _ _ h => h) (by rfl) ?_ ?_
          rotate_left 1
          · (intro w; go_simp; (try with_reducible rfl))
          try simp only [Act.put, List.setIfInBounds_toArray, List.set_cons_zero, List.set_cons_succ]
          refine Rg.oneR (i := 8) (oi := { dst := some 7, op := Op.alloc 86, type := 0, pos := "links.go:227", after := #[], guard := none }) rfl (by kernel_rfl) ?_
          refine Rg.stepS ?_
          intro K hK
          rw [if_pos (by rfl)]
          go_simp
          have hp0 := B2.out.lt
          have BP : Hid (Blk (V3.alloc (.cells Try.zeroCells86 86)) V3.heap.size 86 Try.zeroCells86) := Lib.hid (Blk.fresh _ _ _)
          have hpq := BQ.out.lt
          have B1 := Lib.hid (B1.out.alloc (.cells Try.zeroCells86 86))
          have B2 := Lib.hid (B2.out.alloc (.cells Try.zeroCells86 86))
          have BQ := Lib.hid (BQ.out.alloc (.cells Try.zeroCells86 86))
          have H3 := Lib.hid (H3.out.alloc hb3 (.cells Try.zeroCells86 86))
          have H4 := Lib.hid (H4.out.alloc hb3 (.cells Try.zeroCells86 86))
          have hpl := hb3
          have hb3 := Nat.le_trans hb3 (show _ ≤ (V3.alloc (.cells Try.zeroCells86 86)).heap.size by simp)
          have HB := Lib.hid (HB.out.alloc HB.out.size (.cells Try.zeroCells86 86))
          generalize (V3.alloc (.cells Try.zeroCells86 86)) = V4 at *
          obtain ⟨p, hp⟩ : ∃ p, V3.heap.size = p := ⟨_, rfl⟩
          rw [hp] at BP hp0 hpl hpq ⊢
          clear HS hp
          have HS := And.intro B1.out B2.out
          refine hK.out _ _ HS ?_
          clear hK K
          try simp only [Act.put, List.setIfInBounds_toArray, List.set_cons_zero, List.set_cons_succ]
          refine Rg.oneR (i := 10) (oi := { dst := none, op := Op.store 86 (Operand.tmp 7) (Operand.tmp 19), type := 0, pos := "links.go:227", after := #[{ on := 8, ground := Ground.data }, { on := 6, ground := Ground.data }, { on := 4, ground := Ground.chain }, { on := 0, ground := Ground.phase }, { on := 1, ground := Ground.phase }, { on := 2, ground := Ground.phase }, { on := 3, ground := Ground.phase }, { on := 4, ground := Ground.phase }, { on := 5, ground := Ground.phase }, { on := 6, ground := Ground.phase }, { on := 7, ground := Ground.textOnly Departure.lateStores }, { on := 8, ground := Ground.phase }, { on := 9, ground := Ground.phase }], guard := none }) rfl (by kernel_rfl) ?_
          refine Rg.stepF ?_ ?_
          · kernel_rfl
          intro K hK
          rw [if_pos (by rfl)]
          refine wp_store_row 86 _ _ rfl p R3 rfl rfl 86 _ BP.out i3 z3 o3 ?_
          have BP := Lib.hid (BP.out.setRow R3)
          have B1 := Lib.hid (B1.out.setRow_other (g' := p) (by omega) R3)
          have B2 := Lib.hid (B2.out.setRow_other (g' := p) (by omega) R3)
          have BQ := Lib.hid (BQ.out.setRow_other (g' := p) (by omega) R3)
          have H3 := Lib.hid (H3.out.setRowOut hpl R3)
          have H4 := Lib.hid (H4.out.setRowOut hpl R3)
          have HB := Lib.hid (below_setRow HB.out (show w.heap.size ≤ p by omega) R3)
          have hb3 := Nat.le_trans hb3 (below_setRow (Below.refl 0 V4) (Nat.zero_le p) R3).size
          generalize (V4.setRow p R3) = V5 at *
          clear HS
          have HS := And.intro B1.out B2.out
          refine hK.out _ _ ?_
          clear hK K
          try simp only [Act.put, List.setIfInBounds_toArray, List.set_cons_zero, List.set_cons_succ]
          refine Rg.oneR (i := 11) (oi := { dst := none, op := Op.store 37 (Operand.tmp 8) (Operand.tmp 20), type := 0, pos := "links.go:227", after := #[{ on := 9, ground := Ground.data }, { on := 7, ground := Ground.data }, { on := 10, ground := Ground.chain }, { on := 0, ground := Ground.phase }, { on := 1, ground := Ground.phase }, { on := 2, ground := Ground.phase }, { on := 3, ground := Ground.phase }, { on := 4, ground := Ground.phase }, { on := 5, ground := Ground.phase }, { on := 6, ground := Ground.phase }, { on := 7, ground := Ground.phase }, { on := 8, ground := Ground.phase }, { on := 9, ground := Ground.phase }, { on := 10, ground := Ground.phase }], guard := none }) rfl (by kernel_rfl) ?_
          refine Rg.stepF ?_ ?_
          · kernel_rfl
          intro K hK
          rw [if_pos (by rfl)]
          refine wp_store_row 37 _ _ rfl q (Ms.msgC k i fr' A4 zs.length c4) rfl rfl 37 _ BQ.out (by kernel_rfl) rfl (by simp [Ms.msgC, Value.oneCell']) ?_
          have BQ := Lib.hid (BQ.out.setRow (Ms.msgC k i fr' A4 zs.length c4))
          have B1 := Lib.hid (B1.out.setRow_other (g' := q) (by omega) (Ms.msgC k i fr' A4 zs.length c4))
          have B2 := Lib.hid (B2.out.setRow_other (g' := q) (by omega) (Ms.msgC k i fr' A4 zs.length c4))
          have BP := Lib.hid (BP.out.setRow_other (g' := q) (by omega) (Ms.msgC k i fr' A4 zs.length c4))
          have H3 := Lib.hid (H3.out.setRowIn l3 hql (Ms.msgC k i fr' A4 zs.length c4))
          have H4 := Lib.hid (H4.out.setRowIn l4 hql (Ms.msgC k i fr' A4 zs.length c4))
          have HB := Lib.hid (below_setRow HB.out (show w.heap.size ≤ q by omega) (Ms.msgC k i fr' A4 zs.length c4))
          have hb3 := Nat.le_trans hb3 (below_setRow (Below.refl 0 V5) (Nat.zero_le q) (Ms.msgC k i fr' A4 zs.length c4)).size
          generalize (V5.setRow q (Ms.msgC k i fr' A4 zs.length c4)) = V6 at *
          clear HS
          have HS := And.intro B1.out B2.out
          refine hK.out _ _ ?_
          clear hK K
          try simp only [Act.put, List.setIfInBounds_toArray, List.set_cons_zero, List.set_cons_succ]
          refine Rg.doneR (by kernel_rfl) ?_ _
          refine NoPanic.normal ?_
          clear HS
          go_wp2_with fail
          go_meet
          refine ⟨p, q, A3, c3, A4, c4, rfl, rfl, by omega, by omega, by omega, ?_, BQ.out, B1.out, B2.out, H3.out.more hb3, H4.out.more hb3, HB.out, ha3, hc3⟩
          rw [HR3.out]
          exact BP.out
        ·
          refine Rg.stepS ?_
          intro K hK
          rw [if_pos (by rfl)]
          go_simp
          have hp0 := B2.out.lt
          have BP : Hid (Blk (V2.alloc (.cells Try.zeroCells86 86)) V2.heap.size 86 Try.zeroCells86) := Lib.hid (Blk.fresh _ _ _)
          have hpq := BQ.out.lt
          have B1 := Lib.hid (B1.out.alloc (.cells Try.zeroCells86 86))
          have B2 := Lib.hid (B2.out.alloc (.cells Try.zeroCells86 86))
          have BQ := Lib.hid (BQ.out.alloc (.cells Try.zeroCells86 86))
          have H2 := Lib.hid ((H2.out.alloc (Nat.le_refl _) (.cells Try.zeroCells86 86)).more (show _ ≤ (V2.alloc (.cells Try.zeroCells86 86)).heap.size by simp))
          have HB := Lib.hid (HB.out.alloc HB.out.size (.cells Try.zeroCells86 86))
          generalize (V2.alloc (.cells Try.zeroCells86 86)) = V3 at *
          obtain ⟨p, hp⟩ : ∃ p, V2.heap.size = p := ⟨_, rfl⟩
          rw [hp] at BP hp0 hpq ⊢
          clear HS hp
          have HS := And.intro B1.out B2.out
          refine hK.out _ _ HS ?_
          clear hK K
          try simp only [Act.put, List.setIfInBounds_toArray, List.set_cons_zero, List.set_cons_succ]
          refine Rg.oneR (i := 4) (oi := { dst := some 18, op := Op.call { callee := Callee.value (Operand.func 80), args := #[Operand.tmp 15, Operand.tmp 16, Operand.tmp 17], argTypes := #[86, 3, 83] }, type := 93, pos := "links.go:227", after := #[{ on := 1, ground := Ground.data }, { on := 2, ground := Ground.data }, { on := 3, ground := Ground.data }, { on := 1, ground := Ground.chain }], guard := none }) rfl (by kernel_rfl) ?_
          refine Rg.stepF ?_ ?_
          · kernel_rfl
          intro K hK
          rw [if_pos (by rfl)]
          go_simp
          go_at_call 80
          rw [← HR2.out]
          refine (CS.out A2 c2 bs _ _ (Nat.le_refl _) ha2 hc2 hl H2.out).mono ?_
          rintro e V4 ⟨A3, c3, A4, c4, rfl, h3, h4, hb, l3, l4, ha3, hc3⟩
          rw [HR2.out]
          have hpl := BP.out.lt
          have hql := BQ.out.lt
          have H3 := Lib.hid h3
          have H4 := Lib.hid h4
          obtain ⟨b3, eb3⟩ : ∃ b3, V4.heap.size = b3 := ⟨_, rfl⟩
          rw [eb3] at H3 H4
          have hb3 := Nat.le_of_eq eb3.symm
          clear eb3
          have B1 := Lib.hid (B1.out.below hb B1.out.lt)
          have B2 := Lib.hid (B2.out.below hb B2.out.lt)
          have BP := Lib.hid (BP.out.below hb BP.out.lt)
          have BQ := Lib.hid (BQ.out.below hb BQ.out.lt)
          have HB := Lib.hid (onward HB.out (Nat.le_refl _) hb)
          clear hb h3 h4 HS
          have HS := And.intro B1.out B2.out
          have i3 : (Try.prog.info? 86).map (·.size) = some (row 74 (nodeW g (.slice A3 bs.length c3))).size := by rw [row_size]; kernel_rfl
          have z3 : (Try.zeroCells86).size = (row 74 (nodeW g (.slice A3 bs.length c3))).size := by rw [row_size]; kernel_rfl
          have o3 := one_of HG.out (A := A3) (n := bs.length) (c := c3)
          obtain ⟨R3, hR3⟩ : ∃ R3, row 74 (nodeW g (.slice A3 bs.length c3)) = R3 := ⟨_, rfl⟩
          rw [hR3] at i3 z3 o3 ⊢
          have HR3 := Lib.hid hR3
          clear hR3
          go_wp2_with fail
          refine hK.out _ _ ?_
          clear hK K
          try simp only [Act.put, List.setIfInBounds_toArray, List.set_cons_zero, List.set_cons_succ]
          refine Rg.takeP (i := 5) (oi := { dst := some 13, op := Op.move (Operand.tmp 18), type := 93, pos := "links.go:227", after := #[{ on := 4, ground := Ground.data }], guard := none }) (v := ?_) rfl (by kernel_rfl) (fun _ _ _ h => h) (by rfl) ?_ ?_
          rotate_left 1
          · (intro w; go_simp; (try with_reducible rfl))
          try simp only [Act.put, List.setIfInBounds_toArray, List.set_cons_zero, List.set_cons_succ]
          refine Rg.takeP (i := 6) (oi := { dst := some 19, op := Op.extract (Operand.tmp 13) 0, type := 86, pos := "links.go:227", after := #[{ on := 5, ground := Ground.data }], guard := none }) (v := ?_) rfl (by kernel_rfl) (fun _ _ _ h => h) (by rfl) ?_ ?_
          rotate_left 1
          · (intro w; go_simp; (try with_reducible rfl))
          try simp only [Act.put, List.setIfInBounds_toArray, List.set_cons_zero, List.set_cons_succ]
          refine Rg.takeP (i := 7) (oi := { dst := some 20, op := Op.extract (Operand.tmp 13) 1, type := 37, pos := "links.go:227", after := #[{ on := 5, ground := Ground.data }, { on := 10, ground := Ground.gcOnly Departure.lateStores }], guard := none }) (v := ?_) rfl (by kernel_rfl) (fun _ _ _ h => h) (by rfl) ?_ ?_
          rotate_left 1
          · (intro w; go_simp; (try with_reducible rfl))
          try simp only [Act.put, List.setIfInBounds_toArray, List.set_cons_zero, List.set_cons_succ]
          refine Rg.oneR (i := 10) (oi := { dst := none, op := Op.store 86 (Operand.tmp 7) (Operand.tmp 19), type := 0, pos := "links.go:227", after := #[{ on := 8, ground := Ground.data }, { on := 6, ground := Ground.data }, { on := 4, ground := Ground.chain }, { on := 0, ground := Ground.phase }, { on := 1, ground := Ground.phase }, { on := 2, ground := Ground.phase }, { on := 3, ground := Ground.phase }, { on := 4, ground := Ground.phase }, { on := 5, ground := Ground.phase }, { on := 6, ground := Ground.phase }, { on := 7, ground := Ground.textOnly Departure.lateStores }, { on := 8, ground := Ground.phase }, { on := 9, ground := Ground.phase }], guard := none }) rfl (by kernel_rfl) ?_
          refine Rg.stepF ?_ ?_
          · kernel_rfl
          intro K hK
          rw [if_pos (by rfl)]
          refine wp_store_row 86 _ _ rfl p R3 rfl rfl 86 _ BP.out i3 z3 o3 ?_
          have BP := Lib.hid (BP.out.setRow R3)
          have B1 := Lib.hid (B1.out.setRow_other (g' := p) (by omega) R3)
          have B2 := Lib.hid (B2.out.setRow_other (g' := p) (by omega) R3)
          have BQ := Lib.hid (BQ.out.setRow_other (g' := p) (by omega) R3)
          have H3 := Lib.hid (H3.out.setRowIn l3 hpl R3)
          have H4 := Lib.hid (H4.out.setRowIn l4 hpl R3)
          have HB := Lib.hid (below_setRow HB.out (show w.heap.size ≤ p by omega) R3)
          have hb3 := Nat.le_trans hb3 (below_setRow (Below.refl 0 V4) (Nat.zero_le p) R3).size
          generalize (V4.setRow p R3) = V5 at *
          clear HS
          have HS := And.intro B1.out B2.out
          refine hK.out _ _ ?_
          clear hK K
          try simp only [Act.put, List.setIfInBounds_toArray, List.set_cons_zero, List.set_cons_succ]
          refine Rg.oneR (i := 11) (oi := { dst := none, op := Op.store 37 (Operand.tmp 8) (Operand.tmp 20), type := 0, pos := "links.go:227", after := #[{ on := 9, ground := Ground.data }, { on := 7, ground := Ground.data }, { on := 10, ground := Ground.chain }, { on := 0, ground := Ground.phase }, { on := 1, ground := Ground.phase }, { on := 2, ground := Ground.phase }, { on := 3, ground := Ground.phase }, { on := 4, ground := Ground.phase }, { on := 5, ground := Ground.phase }, { on := 6, ground := Ground.phase }, { on := 7, ground := Ground.phase }, { on := 8, ground := Ground.phase }, { on := 9, ground := Ground.phase }, { on := 10, ground := Ground.phase }], guard := none }) rfl (by kernel_rfl) ?_
          refine Rg.stepF ?_ ?_
          · kernel_rfl
          intro K hK
          rw [if_pos (by rfl)]
          refine wp_store_row 37 _ _ rfl q (Ms.msgC k i fr' A4 zs.length c4) rfl rfl 37 _ BQ.out (by kernel_rfl) rfl (by simp [Ms.msgC, Value.oneCell']) ?_
          have BQ := Lib.hid (BQ.out.setRow (Ms.msgC k i fr' A4 zs.length c4))
          have B1 := Lib.hid (B1.out.setRow_other (g' := q) (by omega) (Ms.msgC k i fr' A4 zs.length c4))
          have B2 := Lib.hid (B2.out.setRow_other (g' := q) (by omega) (Ms.msgC k i fr' A4 zs.length c4))
          have BP := Lib.hid (BP.out.setRow_other (g' := q) (by omega) (Ms.msgC k i fr' A4 zs.length c4))
          have H3 := Lib.hid (H3.out.setRowIn l3 hql (Ms.msgC k i fr' A4 zs.length c4))
          have H4 := Lib.hid (H4.out.setRowIn l4 hql (Ms.msgC k i fr' A4 zs.length c4))
          have HB := Lib.hid (below_setRow HB.out (show w.heap.size ≤ q by omega) (Ms.msgC k i fr' A4 zs.length c4))
          have hb3 := Nat.le_trans hb3 (below_setRow (Below.refl 0 V5) (Nat.zero_le q) (Ms.msgC k i fr' A4 zs.length c4)).size
          generalize (V5.setRow q (Ms.msgC k i fr' A4 zs.length c4)) = V6 at *
          clear HS
          have HS := And.intro B1.out B2.out
          refine hK.out _ _ ?_
          clear hK K
          try simp only [Act.put, List.setIfInBounds_toArray, List.set_cons_zero, List.set_cons_succ]
          refine Rg.doneR (by kernel_rfl) ?_ _
          refine NoPanic.normal ?_
          clear HS
          go_wp2_with fail
          go_meet
          refine ⟨p, q, A3, c3, A4, c4, rfl, rfl, by omega, by omega, by omega, ?_, BQ.out, B1.out, B2.out, H3.out.more hb3, H4.out.more hb3, HB.out, ha3, hc3⟩
          rw [HR3.out]
          exact BP.out
    ·
      refine Rg.stepS ?_
      intro K hK
      rw [if_pos (by rfl)]
      go_simp
      have hp0 := B2.out.lt
      have BP : Hid (Blk (V0.alloc (.cells Try.zeroCells86 86)) V0.heap.size 86 Try.zeroCells86) := Lib.hid (Blk.fresh _ _ _)
      have B1 := Lib.hid (B1.out.alloc (.cells Try.zeroCells86 86))
      have B2 := Lib.hid (B2.out.alloc (.cells Try.zeroCells86 86))
      have HB := Lib.hid (HB.out.alloc HB.out.size (.cells Try.zeroCells86 86))
      generalize (V0.alloc (.cells Try.zeroCells86 86)) = V1 at *
      obtain ⟨p, hp⟩ : ∃ p, V0.heap.size = p := ⟨_, rfl⟩
      rw [hp] at BP hp0 ⊢
      clear HS hp
      have HS := And.intro B1.out B2.out
      refine hK.out _ _ HS ?_
      clear hK K
      try simp only [Act.put, List.setIfInBounds_toArray, List.set_cons_zero, List.set_cons_succ]
      refine Rg.twoR (i := 1) (j := 9) (oi := { dst := some 15, op := Op.call { callee := Callee.value (Operand.func 62), args := #[Operand.tmp 14], argTypes := #[86] }, type := 86, pos := "links.go:227", after := #[{ on := 0, ground := Ground.data }], guard := none }) (oj := { dst := some 8, op := Op.alloc 37, type := 0, pos := "links.go:227", after := #[], guard := none }) (by kernel_rfl) rfl rfl ?_ ?_
      ·
        refine Rg.stepS ?_
        intro K hK
        rw [if_pos (by rfl)]
        go_simp
        go_at_call 62
        rw [← HR1.out]
        refine (copyNode_any f HF.out A c bs w.heap.size _ HB.out.size hA hnc hl (HR.out.below HB.out)).mono ?_
        rintro e V2 ⟨A2, c2, rfl, hown, hb⟩
        rw [HR1.out]
        obtain ⟨ha2, hc2⟩ := own_cap hown
        have H2 := Lib.hid (Rd.of_own hown)
        have B1 := Lib.hid (B1.out.below hb B1.out.lt)
        have B2 := Lib.hid (B2.out.below hb B2.out.lt)
        have BP := Lib.hid (BP.out.below hb BP.out.lt)
        have HB := Lib.hid (onward HB.out (Nat.le_refl _) hb)
        clear hb hown HS
        have HS := And.intro B1.out B2.out
        obtain ⟨R2, hR2⟩ : ∃ R2, row 74 (nodeW f (.slice A2 bs.length c2)) = R2 := ⟨_, rfl⟩
        rw [hR2]
        have HR2 := Lib.hid hR2
        clear hR2
        go_wp2_with fail
        refine hK.out _ _ HS ?_
        clear hK K
        try simp only [Act.put, List.setIfInBounds_toArray, List.set_cons_zero, List.set_cons_succ]
        refine Rg.twoR (i := 4) (j := 9) (oi := { dst := some 18, op := Op.call { callee := Callee.value (Operand.func 80), args := #[Operand.tmp 15, Operand.tmp 16, Operand.tmp 17], argTypes := #[86, 3, 83] }, type := 93, pos := "links.go:227", after := #[{ on := 1, ground := Ground.data }, { on := 2, ground := Ground.data }, { on := 3, ground := Ground.data }, { on := 1, ground := Ground.chain }], guard := none }) (oj := { dst := some 8, op := Op.alloc 37, type := 0, pos := "links.go:227", after := #[], guard := none }) (by kernel_rfl) rfl rfl ?_ ?_
        ·
          refine Rg.stepF ?_ ?_
          · kernel_rfl
          intro K hK
          rw [if_pos (by rfl)]
          go_simp
          go_at_call 80
          rw [← HR2.out]
          refine (CS.out A2 c2 bs _ _ (Nat.le_refl _) ha2 hc2 hl H2.out).mono ?_
          rintro e V3 ⟨A3, c3, A4, c4, rfl, h3, h4, hb, l3, l4, ha3, hc3⟩
          rw [HR2.out]
          have hpl := BP.out.lt
          have H3 := Lib.hid h3
          have H4 := Lib.hid h4
          obtain ⟨b3, eb3⟩ : ∃ b3, V3.heap.size = b3 := ⟨_, rfl⟩
          rw [eb3] at H3 H4
          have hb3 := Nat.le_of_eq eb3.symm
          clear eb3
          have B1 := Lib.hid (B1.out.below hb B1.out.lt)
          have B2 := Lib.hid (B2.out.below hb B2.out.lt)
          have BP := Lib.hid (BP.out.below hb BP.out.lt)
          have HB := Lib.hid (onward HB.out (Nat.le_refl _) hb)
          clear hb h3 h4 HS
          have HS := And.intro B1.out B2.out
          have i3 : (Try.prog.info? 86).map (·.size) = some (row 74 (nodeW g (.slice A3 bs.length c3))).size := by rw [row_size]; kernel_rfl
          have z3 : (Try.zeroCells86).size = (row 74 (nodeW g (.slice A3 bs.length c3))).size := by rw [row_size]; kernel_rfl
          have o3 := one_of HG.out (A := A3) (n := bs.length) (c := c3)
          obtain ⟨R3, hR3⟩ : ∃ R3, row 74 (nodeW g (.slice A3 bs.length c3)) = R3 := ⟨_, rfl⟩
          rw [hR3] at i3 z3 o3 ⊢
          have HR3 := Lib.hid hR3
          clear hR3
          go_wp2_with fail
          refine hK.out _ _ ?_
          clear hK K
          try simp only [Act.put, List.setIfInBounds_toArray, List.set_cons_zero, List.set_cons_succ]
          refine Rg.takeP (i := 5) (oi := { dst := some 13, op := Op.move (Operand.tmp 18), type := 93, pos := "links.go:227", after := #[{ on := 4, ground := Ground.data }], guard := none }) (v := ?_) rfl (by kernel_rfl) (fun _ _ _ h => h) (by rfl) ?_ ?_
          rotate_left 1
          · (intro w; go_simp; (try with_reducible rfl))
          try simp only [Act.put, List.setIfInBounds_toArray, List.set_cons_zero, List.set_cons_succ]
          refine Rg.takeP (i := 6) (oi := { dst := some 19, op := Op.extract (Operand.tmp 13) 0, type := 86, pos := "links.go:227", after := #[{ on := 5, ground := Ground.data }], guard := none }) (v := ?_) rfl (by kernel_rfl) (fun _ _ _ h => h) (by rfl) ?_ ?_
          rotate_left 1
          · (intro w; go_simp; (try with_reducible rfl))
          try simp only [Act.put, List.setIfInBounds_toArray, List.set_cons_zero, List.set_cons_succ]
          refine Rg.takeP (i := 7) (oi := { dst := some 20, op := Op.extract (Operand.tmp 13) 1, type := 37, pos := "links.go:227", after := #[{ on := 5, ground := Ground.data }, { on := 10, ground := Ground.gcOnly Departure.lateStores }], guard := none }) (v := ?_) rfl (by kernel_rfl) (fun _ _ _ h => h) (by rfl) ?_ ?_
          rotate_left 1
          · (intro w; go_simp; (try with_reducible rfl))
          try simp only [Act.put, List.setIfInBounds_toArray, List.set_cons_zero, List.set_cons_succ]
          refine Rg.oneR (i := 9) (oi := { dst := some 8, op := Op.alloc 37, type := 0, pos := "links.go:227", after := #[], guard := none }) rfl (by kernel_rfl) ?_
          refine Rg.stepS ?_
          intro K hK
          rw [if_pos (by rfl)]
          go_simp
          have hq0 := B2.out.lt
          have BQ : Hid (Blk (V3.alloc (.cells #[.int .i64 0, .int .i64 0, .int .i64 0, .slice none 0 0] 37)) V3.heap.size 37 #[.int .i64 0, .int .i64 0, .int .i64 0, .slice none 0 0]) := Lib.hid (Blk.fresh _ _ _)
          have hpq := BP.out.lt
          have B1 := Lib.hid (B1.out.alloc (.cells #[.int .i64 0, .int .i64 0, .int .i64 0, .slice none 0 0] 37))
          have B2 := Lib.hid (B2.out.alloc (.cells #[.int .i64 0, .int .i64 0, .int .i64 0, .slice none 0 0] 37))
          have BP := Lib.hid (BP.out.alloc (.cells #[.int .i64 0, .int .i64 0, .int .i64 0, .slice none 0 0] 37))
          have H3 := Lib.hid (H3.out.alloc hb3 (.cells #[.int .i64 0, .int .i64 0, .int .i64 0, .slice none 0 0] 37))
          have H4 := Lib.hid (H4.out.alloc hb3 (.cells #[.int .i64 0, .int .i64 0, .int .i64 0, .slice none 0 0] 37))
          have hql := hb3
          have hb3 := Nat.le_trans hb3 (show _ ≤ (V3.alloc (.cells #[.int .i64 0, .int .i64 0, .int .i64 0, .slice none 0 0] 37)).heap.size by simp)
          have HB := Lib.hid (HB.out.alloc HB.out.size (.cells #[.int .i64 0, .int .i64 0, .int .i64 0, .slice none 0 0] 37))
          generalize (V3.alloc (.cells #[.int .i64 0, .int .i64 0, .int .i64 0, .slice none 0 0] 37)) = V4 at *
          obtain ⟨q, hq⟩ : ∃ q, V3.heap.size = q := ⟨_, rfl⟩
          rw [hq] at BQ hq0 hql hpq ⊢
          clear HS hq
          have HS := And.intro B1.out B2.out
          refine hK.out _ _ HS ?_
          clear hK K
          try simp only [Act.put, List.setIfInBounds_toArray, List.set_cons_zero, List.set_cons_succ]
          refine Rg.oneR (i := 10) (oi := { dst := none, op := Op.store 86 (Operand.tmp 7) (Operand.tmp 19), type := 0, pos := "links.go:227", after := #[{ on := 8, ground := Ground.data }, { on := 6, ground := Ground.data }, { on := 4, ground := Ground.chain }, { on := 0, ground := Ground.phase }, { on := 1, ground := Ground.phase }, { on := 2, ground := Ground.phase }, { on := 3, ground := Ground.phase }, { on := 4, ground := Ground.phase }, { on := 5, ground := Ground.phase }, { on := 6, ground := Ground.phase }, { on := 7, ground := Ground.textOnly Departure.lateStores }, { on := 8, ground := Ground.phase }, { on := 9, ground := Ground.phase }], guard := none }) rfl (by kernel_rfl) ?_
          refine Rg.stepF ?_ ?_
          · kernel_rfl
          intro K hK
          rw [if_pos (by rfl)]
          refine wp_store_row 86 _ _ rfl p R3 rfl rfl 86 _ BP.out i3 z3 o3 ?_
          have BP := Lib.hid (BP.out.setRow R3)
          have B1 := Lib.hid (B1.out.setRow_other (g' := p) (by omega) R3)
          have B2 := Lib.hid (B2.out.setRow_other (g' := p) (by omega) R3)
          have BQ := Lib.hid (BQ.out.setRow_other (g' := p) (by omega) R3)
          have H3 := Lib.hid (H3.out.setRowIn l3 hpl R3)
          have H4 := Lib.hid (H4.out.setRowIn l4 hpl R3)
          have HB := Lib.hid (below_setRow HB.out (show w.heap.size ≤ p by omega) R3)
          have hb3 := Nat.le_trans hb3 (below_setRow (Below.refl 0 V4) (Nat.zero_le p) R3).size
          generalize (V4.setRow p R3) = V5 at *
          clear HS
          have HS := And.intro B1.out B2.out
          refine hK.out _ _ ?_
          clear hK K
          try simp only [Act.put, List.setIfInBounds_toArray, List.set_cons_zero, List.set_cons_succ]
          refine Rg.oneR (i := 11) (oi := { dst := none, op := Op.store 37 (Operand.tmp 8) (Operand.tmp 20), type := 0, pos := "links.go:227", after := #[{ on := 9, ground := Ground.data }, { on := 7, ground := Ground.data }, { on := 10, ground := Ground.chain }, { on := 0, ground := Ground.phase }, { on := 1, ground := Ground.phase }, { on := 2, ground := Ground.phase }, { on := 3, ground := Ground.phase }, { on := 4, ground := Ground.phase }, { on := 5, ground := Ground.phase }, { on := 6, ground := Ground.phase }, { on := 7, ground := Ground.phase }, { on := 8, ground := Ground.phase }, { on := 9, ground := Ground.phase }, { on := 10, ground := Ground.phase }], guard := none }) rfl (by kernel_rfl) ?_
          refine Rg.stepF ?_ ?_
          · kernel_rfl
          intro K hK
          rw [if_pos (by rfl)]
          refine wp_store_row 37 _ _ rfl q (Ms.msgC k i fr' A4 zs.length c4) rfl rfl 37 _ BQ.out (by kernel_rfl) rfl (by simp [Ms.msgC, Value.oneCell']) ?_
          have BQ := Lib.hid (BQ.out.setRow (Ms.msgC k i fr' A4 zs.length c4))
          have B1 := Lib.hid (B1.out.setRow_other (g' := q) (by omega) (Ms.msgC k i fr' A4 zs.length c4))
          have B2 := Lib.hid (B2.out.setRow_other (g' := q) (by omega) (Ms.msgC k i fr' A4 zs.length c4))
          have BP := Lib.hid (BP.out.setRow_other (g' := q) (by omega) (Ms.msgC k i fr' A4 zs.length c4))
          have H3 := Lib.hid (H3.out.setRowOut hql (Ms.msgC k i fr' A4 zs.length c4))
          have H4 := Lib.hid (H4.out.setRowOut hql (Ms.msgC k i fr' A4 zs.length c4))
          have HB := Lib.hid (below_setRow HB.out (show w.heap.size ≤ q by omega) (Ms.msgC k i fr' A4 zs.length c4))
          have hb3 := Nat.le_trans hb3 (below_setRow (Below.refl 0 V5) (Nat.zero_le q) (Ms.msgC k i fr' A4 zs.length c4)).size
          generalize (V5.setRow q (Ms.msgC k i fr' A4 zs.length c4)) = V6 at *
          clear HS
          have HS := And.intro B1.out B2.out
          refine hK.out _ _ ?_
          clear hK K
          try simp only [Act.put, List.setIfInBounds_toArray, List.set_cons_zero, List.set_cons_succ]
          refine Rg.doneR (by kernel_rfl) ?_ _
          refine NoPanic.normal ?_
          clear HS
          go_wp2_with fail
          go_meet
          refine ⟨p, q, A3, c3, A4, c4, rfl, rfl, by omega, by omega, by omega, ?_, BQ.out, B1.out, B2.out, H3.out.more hb3, H4.out.more hb3, HB.out, ha3, hc3⟩
          rw [HR3.out]
          exact BP.out
        ·
          refine Rg.stepS ?_
          intro K hK
          rw [if_pos (by rfl)]
          go_simp
          have hq0 := B2.out.lt
          have BQ : Hid (Blk (V2.alloc (.cells #[.int .i64 0, .int .i64 0, .int .i64 0, .slice none 0 0] 37)) V2.heap.size 37 #[.int .i64 0, .int .i64 0, .int .i64 0, .slice none 0 0]) := Lib.hid (Blk.fresh _ _ _)
          have hpq := BP.out.lt
          have B1 := Lib.hid (B1.out.alloc (.cells #[.int .i64 0, .int .i64 0, .int .i64 0, .slice none 0 0] 37))
          have B2 := Lib.hid (B2.out.alloc (.cells #[.int .i64 0, .int .i64 0, .int .i64 0, .slice none 0 0] 37))
          have BP := Lib.hid (BP.out.alloc (.cells #[.int .i64 0, .int .i64 0, .int .i64 0, .slice none 0 0] 37))
          have H2 := Lib.hid ((H2.out.alloc (Nat.le_refl _) (.cells #[.int .i64 0, .int .i64 0, .int .i64 0, .slice none 0 0] 37)).more (show _ ≤ (V2.alloc (.cells #[.int .i64 0, .int .i64 0, .int .i64 0, .slice none 0 0] 37)).heap.size by simp))
          have HB := Lib.hid (HB.out.alloc HB.out.size (.cells #[.int .i64 0, .int .i64 0, .int .i64 0, .slice none 0 0] 37))
          generalize (V2.alloc (.cells #[.int .i64 0, .int .i64 0, .int .i64 0, .slice none 0 0] 37)) = V3 at *
          obtain ⟨q, hq⟩ : ∃ q, V2.heap.size = q := ⟨_, rfl⟩
          rw [hq] at BQ hq0 hpq ⊢
          clear HS hq
          have HS := And.intro B1.out B2.out
          refine hK.out _ _ HS ?_
          clear hK K
          try simp only [Act.put, List.setIfInBounds_toArray, List.set_cons_zero, List.set_cons_succ]
          refine Rg.oneR (i := 4) (oi := { dst := some 18, op := Op.call { callee := Callee.value (Operand.func 80), args := #[Operand.tmp 15, Operand.tmp 16, Operand.tmp 17], argTypes := #[86, 3, 83] }, type := 93, pos := "links.go:227", after := #[{ on := 1, ground := Ground.data }, { on := 2, ground := Ground.data }, { on := 3, ground := Ground.data }, { on := 1, ground := Ground.chain }], guard := none }) rfl (by kernel_rfl) ?_
          refine Rg.stepF ?_ ?_
          · kernel_rfl
          intro K hK
          rw [if_pos (by rfl)]
          go_simp
          go_at_call 80
          rw [← HR2.out]
          refine (CS.out A2 c2 bs _ _ (Nat.le_refl _) ha2 hc2 hl H2.out).mono ?_
          rintro e V4 ⟨A3, c3, A4, c4, rfl, h3, h4, hb, l3, l4, ha3, hc3⟩
          rw [HR2.out]
          have hpl := BP.out.lt
          have hql := BQ.out.lt
          have H3 := Lib.hid h3
          have H4 := Lib.hid h4
          obtain ⟨b3, eb3⟩ : ∃ b3, V4.heap.size = b3 := ⟨_, rfl⟩
          rw [eb3] at H3 H4
          have hb3 := Nat.le_of_eq eb3.symm
          clear eb3
          have B1 := Lib.hid (B1.out.below hb B1.out.lt)
          have B2 := Lib.hid (B2.out.below hb B2.out.lt)
          have BP := Lib.hid (BP.out.below hb BP.out.lt)
          have BQ := Lib.hid (BQ.out.below hb BQ.out.lt)
          have HB := Lib.hid (onward HB.out (Nat.le_refl _) hb)
          clear hb h3 h4 HS
          have HS := And.intro B1.out B2.out
          have i3 : (Try.prog.info? 86).map (·.size) = some (row 74 (nodeW g (.slice A3 bs.length c3))).size := by rw [row_size]; kernel_rfl
          have z3 : (Try.zeroCells86).size = (row 74 (nodeW g (.slice A3 bs.length c3))).size := by rw [row_size]; kernel_rfl
          have o3 := one_of HG.out (A := A3) (n := bs.length) (c := c3)
          obtain ⟨R3, hR3⟩ : ∃ R3, row 74 (nodeW g (.slice A3 bs.length c3)) = R3 := ⟨_, rfl⟩
          rw [hR3] at i3 z3 o3 ⊢
          have HR3 := Lib.hid hR3
          clear hR3
          go_wp2_with fail
          refine hK.out _ _ ?_
          clear hK K
          try simp only [Act.put, List.setIfInBounds_toArray, List.set_cons_zero, List.set_cons_succ]
          refine Rg.takeP (i := 5) (oi := { dst := some 13, op := Op.move (Operand.tmp 18), type := 93, pos := "links.go:227", after := #[{ on := 4, ground := Ground.data }], guard := none }) (v := ?_) rfl (by kernel_rfl) (fun _ _ _ h => h) (by rfl) ?_ ?_
          rotate_left 1
          · (intro w; go_simp; (try with_reducible rfl))
          try simp only [Act.put, List.setIfInBounds_toArray, List.set_cons_zero, List.set_cons_succ]
          refine Rg.takeP (i := 6) (oi := { dst := some 19, op := Op.extract (Operand.tmp 13) 0, type := 86, pos := "links.go:227", after := #[{ on := 5, ground := Ground.data }], guard := none }) (v := ?_) rfl (by kernel_rfl) (fun _ _ _ h => h) (by rfl) ?_ ?_
          rotate_left 1
          · (intro w; go_simp; (try with_reducible rfl))
          try simp only [Act.put, List.setIfInBounds_toArray, List.set_cons_zero, List.set_cons_succ]
          refine Rg.takeP (i := 7) (oi := { dst := some 20, op := Op.extract (Operand.tmp 13) 1, type := 37, pos := "links.go:227", after := #[{ on := 5, ground := Ground.data }, { on := 10, ground := Ground.gcOnly Departure.lateStores }], guard := none }) (v := ?_) rfl (by kernel_rfl) (fun _ _ _ h => h) (by rfl) ?_ ?_
          rotate_left 1
          · (intro w; go_simp; (try with_reducible rfl))
          try simp only [Act.put, List.setIfInBounds_toArray, List.set_cons_zero, List.set_cons_succ]
          refine Rg.oneR (i := 10) (oi := { dst := none, op := Op.store 86 (Operand.tmp 7) (Operand.tmp 19), type := 0, pos := "links.go:227", after := #[{ on := 8, ground := Ground.data }, { on := 6, ground := Ground.data }, { on := 4, ground := Ground.chain }, { on := 0, ground := Ground.phase }, { on := 1, ground := Ground.phase }, { on := 2, ground := Ground.phase }, { on := 3, ground := Ground.phase }, { on := 4, ground := Ground.phase }, { on := 5, ground := Ground.phase }, { on := 6, ground := Ground.phase }, { on := 7, ground := Ground.textOnly Departure.lateStores }, { on := 8, ground := Ground.phase }, { on := 9, ground := Ground.phase }], guard := none }) rfl (by kernel_rfl) ?_
          refine Rg.stepF ?_ ?_
          · kernel_rfl
          intro K hK
          rw [if_pos (by rfl)]
          refine wp_store_row 86 _ _ rfl p R3 rfl rfl 86 _ BP.out i3 z3 o3 ?_
          have BP := Lib.hid (BP.out.setRow R3)
          have B1 := Lib.hid (B1.out.setRow_other (g' := p) (by omega) R3)
          have B2 := Lib.hid (B2.out.setRow_other (g' := p) (by omega) R3)
          have BQ := Lib.hid (BQ.out.setRow_other (g' := p) (by omega) R3)
          have H3 := Lib.hid (H3.out.setRowIn l3 hpl R3)
          have H4 := Lib.hid (H4.out.setRowIn l4 hpl R3)
          have HB := Lib.hid (below_setRow HB.out (show w.heap.size ≤ p by omega) R3)
          have hb3 := Nat.le_trans hb3 (below_setRow (Below.refl 0 V4) (Nat.zero_le p) R3).size
          generalize (V4.setRow p R3) = V5 at *
          clear HS
          have HS := And.intro B1.out B2.out
          refine hK.out _ _ ?_
          clear hK K
          try simp only [Act.put, List.setIfInBounds_toArray, List.set_cons_zero, List.set_cons_succ]
          refine Rg.oneR (i := 11) (oi := { dst := none, op := Op.store 37 (Operand.tmp 8) (Operand.tmp 20), type := 0, pos := "links.go:227", after := #[{ on := 9, ground := Ground.data }, { on := 7, ground := Ground.data }, { on := 10, ground := Ground.chain }, { on := 0, ground := Ground.phase }, { on := 1, ground := Ground.phase }, { on := 2, ground := Ground.phase }, { on := 3, ground := Ground.phase }, { on := 4, ground := Ground.phase }, { on := 5, ground := Ground.phase }, { on := 6, ground := Ground.phase }, { on := 7, ground := Ground.phase }, { on := 8, ground := Ground.phase }, { on := 9, ground := Ground.phase }, { on := 10, ground := Ground.phase }], guard := none }) rfl (by kernel_rfl) ?_
          refine Rg.stepF ?_ ?_
          · kernel_rfl
          intro K hK
          rw [if_pos (by rfl)]
          refine wp_store_row 37 _ _ rfl q (Ms.msgC k i fr' A4 zs.length c4) rfl rfl 37 _ BQ.out (by kernel_rfl) rfl (by simp [Ms.msgC, Value.oneCell']) ?_
          have BQ := Lib.hid (BQ.out.setRow (Ms.msgC k i fr' A4 zs.length c4))
          have B1 := Lib.hid (B1.out.setRow_other (g' := q) (by omega) (Ms.msgC k i fr' A4 zs.length c4))
          have B2 := Lib.hid (B2.out.setRow_other (g' := q) (by omega) (Ms.msgC k i fr' A4 zs.length c4))
          have BP := Lib.hid (BP.out.setRow_other (g' := q) (by omega) (Ms.msgC k i fr' A4 zs.length c4))
          have H3 := Lib.hid (H3.out.setRowIn l3 hql (Ms.msgC k i fr' A4 zs.length c4))
          have H4 := Lib.hid (H4.out.setRowIn l4 hql (Ms.msgC k i fr' A4 zs.length c4))
          have HB := Lib.hid (below_setRow HB.out (show w.heap.size ≤ q by omega) (Ms.msgC k i fr' A4 zs.length c4))
          have hb3 := Nat.le_trans hb3 (below_setRow (Below.refl 0 V5) (Nat.zero_le q) (Ms.msgC k i fr' A4 zs.length c4)).size
          generalize (V5.setRow q (Ms.msgC k i fr' A4 zs.length c4)) = V6 at *
          clear HS
          have HS := And.intro B1.out B2.out
          refine hK.out _ _ ?_
          clear hK K
          try simp only [Act.put, List.setIfInBounds_toArray, List.set_cons_zero, List.set_cons_succ]
          refine Rg.doneR (by kernel_rfl) ?_ _
          refine NoPanic.normal ?_
          clear HS
          go_wp2_with fail
          go_meet
          refine ⟨p, q, A3, c3, A4, c4, rfl, rfl, by omega, by omega, by omega, ?_, BQ.out, B1.out, B2.out, H3.out.more hb3, H4.out.more hb3, HB.out, ha3, hc3⟩
          rw [HR3.out]
          exact BP.out
      ·
        refine Rg.stepS ?_
        intro K hK
        rw [if_pos (by rfl)]
        go_simp
        have hq0 := B2.out.lt
        have BQ : Hid (Blk (V1.alloc (.cells #[.int .i64 0, .int .i64 0, .int .i64 0, .slice none 0 0] 37)) V1.heap.size 37 #[.int .i64 0, .int .i64 0, .int .i64 0, .slice none 0 0]) := Lib.hid (Blk.fresh _ _ _)
        have hpq := BP.out.lt
        have B1 := Lib.hid (B1.out.alloc (.cells #[.int .i64 0, .int .i64 0, .int .i64 0, .slice none 0 0] 37))
        have B2 := Lib.hid (B2.out.alloc (.cells #[.int .i64 0, .int .i64 0, .int .i64 0, .slice none 0 0] 37))
        have BP := Lib.hid (BP.out.alloc (.cells #[.int .i64 0, .int .i64 0, .int .i64 0, .slice none 0 0] 37))
        have HB := Lib.hid (HB.out.alloc HB.out.size (.cells #[.int .i64 0, .int .i64 0, .int .i64 0, .slice none 0 0] 37))
        generalize (V1.alloc (.cells #[.int .i64 0, .int .i64 0, .int .i64 0, .slice none 0 0] 37)) = V2 at *
        obtain ⟨q, hq⟩ : ∃ q, V1.heap.size = q := ⟨_, rfl⟩
        rw [hq] at BQ hq0 hpq ⊢
        clear HS hq
        have HS := And.intro B1.out B2.out
        refine hK.out _ _ HS ?_
        clear hK K
        try simp only [Act.put, List.setIfInBounds_toArray, List.set_cons_zero, List.set_cons_succ]
        refine Rg.oneR (i := 1) (oi := { dst := some 15, op := Op.call { callee := Callee.value (Operand.func 62), args := #[Operand.tmp 14], argTypes := #[86] }, type := 86, pos := "links.go:227", after := #[{ on := 0, ground := Ground.data }], guard := none }) rfl (by kernel_rfl) ?_
        refine Rg.stepS ?_
        intro K hK
        rw [if_pos (by rfl)]
        go_simp
        go_at_call 62
        rw [← HR1.out]
        refine (copyNode_any f HF.out A c bs w.heap.size _ HB.out.size hA hnc hl (HR.out.below HB.out)).mono ?_
        rintro e V3 ⟨A2, c2, rfl, hown, hb⟩
        rw [HR1.out]
        obtain ⟨ha2, hc2⟩ := own_cap hown
        have H2 := Lib.hid (Rd.of_own hown)
        have B1 := Lib.hid (B1.out.below hb B1.out.lt)
        have B2 := Lib.hid (B2.out.below hb B2.out.lt)
        have BP := Lib.hid (BP.out.below hb BP.out.lt)
        have BQ := Lib.hid (BQ.out.below hb BQ.out.lt)
        have HB := Lib.hid (onward HB.out (Nat.le_refl _) hb)
        clear hb hown HS
        have HS := And.intro B1.out B2.out
        obtain ⟨R2, hR2⟩ : ∃ R2, row 74 (nodeW f (.slice A2 bs.length c2)) = R2 := ⟨_, rfl⟩
        rw [hR2]
        have HR2 := Lib.hid hR2
        clear hR2
        go_wp2_with fail
        refine hK.out _ _ HS ?_
        clear hK K
        try simp only [Act.put, List.setIfInBounds_toArray, List.set_cons_zero, List.set_cons_succ]
        refine Rg.oneR (i := 4) (oi := { dst := some 18, op := Op.call { callee := Callee.value (Operand.func 80), args := #[Operand.tmp 15, Operand.tmp 16, Operand.tmp 17], argTypes := #[86, 3, 83] }, type := 93, pos := "links.go:227", after := #[{ on := 1, ground := Ground.data }, { on := 2, ground := Ground.data }, { on := 3, ground := Ground.data }, { on := 1, ground := Ground.chain }], guard := none }) rfl (by kernel_rfl) ?_
        refine Rg.stepF ?_ ?_
        · kernel_rfl
        intro K hK
        rw [if_pos (by rfl)]
        go_simp
        go_at_call 80
        rw [← HR2.out]
        refine (CS.out A2 c2 bs _ _ (Nat.le_refl _) ha2 hc2 hl H2.out).mono ?_
        rintro e V4 ⟨A3, c3, A4, c4, rfl, h3, h4, hb, l3, l4, ha3, hc3⟩
        rw [HR2.out]
        have hpl := BP.out.lt
        have hql := BQ.out.lt
        have H3 := Lib.hid h3
        have H4 := Lib.hid h4
        obtain ⟨b3, eb3⟩ : ∃ b3, V4.heap.size = b3 := ⟨_, rfl⟩
        rw [eb3] at H3 H4
        have hb3 := Nat.le_of_eq eb3.symm
        clear eb3
        have B1 := Lib.hid (B1.out.below hb B1.out.lt)
        have B2 := Lib.hid (B2.out.below hb B2.out.lt)
        have BP := Lib.hid (BP.out.below hb BP.out.lt)
        have BQ := Lib.hid (BQ.out.below hb BQ.out.lt)
        have HB := Lib.hid (onward HB.out (Nat.le_refl _) hb)
        clear hb h3 h4 HS
        have HS := And.intro B1.out B2.out
        have i3 : (Try.prog.info? 86).map (·.size) = some (row 74 (nodeW g (.slice A3 bs.length c3))).size := by rw [row_size]; kernel_rfl
        have z3 : (Try.zeroCells86).size = (row 74 (nodeW g (.slice A3 bs.length c3))).size := by rw [row_size]; kernel_rfl
        have o3 := one_of HG.out (A := A3) (n := bs.length) (c := c3)
        obtain ⟨R3, hR3⟩ : ∃ R3, row 74 (nodeW g (.slice A3 bs.length c3)) = R3 := ⟨_, rfl⟩
        rw [hR3] at i3 z3 o3 ⊢
        have HR3 := Lib.hid hR3
        clear hR3
        go_wp2_with fail
        refine hK.out _ _ ?_
        clear hK K
        try simp only [Act.put, List.setIfInBounds_toArray, List.set_cons_zero, List.set_cons_succ]
        refine Rg.takeP (i := 5) (oi := { dst := some 13, op := Op.move (Operand.tmp 18), type := 93, pos := "links.go:227", after := #[{ on := 4, ground := Ground.data }], guard := none }) (v := ?_) rfl (by kernel_rfl) (fun _ _ _ h => h) (by rfl) ?_ ?_
        rotate_left 1
        · (intro w; go_simp; (try with_reducible rfl))
        try simp only [Act.put, List.setIfInBounds_toArray, List.set_cons_zero, List.set_cons_succ]
        refine Rg.takeP (i := 6) (oi := { dst := some 19, op := Op.extract (Operand.tmp 13) 0, type := 86, pos := "links.go:227", after := #[{ on := 5, ground := Ground.data }], guard := none }) (v := ?_) rfl (by kernel_rfl) (fun _ _ _ h => h) (by rfl) ?_ ?_
        rotate_left 1
        · (intro w; go_simp; (try with_reducible rfl))
        try simp only [Act.put, List.setIfInBounds_toArray, List.set_cons_zero, List.set_cons_succ]
        refine Rg.takeP (i := 7) (oi := { dst := some 20, op := Op.extract (Operand.tmp 13) 1, type := 37, pos := "links.go:227", after := #[{ on := 5, ground := Ground.data }, { on := 10, ground := Ground.gcOnly Departure.lateStores }], guard := none }) (v := ?_) rfl (by kernel_rfl) (fun _ _ _ h => h) (by rfl) ?_ ?_
        rotate_left 1
        · (intro w; go_simp; (try with_reducible rfl))
        try simp only [Act.put, List.setIfInBounds_toArray, List.set_cons_zero, List.set_cons_succ]
        refine Rg.oneR (i := 10) (oi := { dst := none, op := Op.store 86 (Operand.tmp 7) (Operand.tmp 19), type := 0, pos := "links.go:227", after := #[{ on := 8, ground := Ground.data }, { on := 6, ground := Ground.data }, { on := 4, ground := Ground.chain }, { on := 0, ground := Ground.phase }, { on := 1, ground := Ground.phase }, { on := 2, ground := Ground.phase }, { on := 3, ground := Ground.phase }, { on := 4, ground := Ground.phase }, { on := 5, ground := Ground.phase }, { on := 6, ground := Ground.phase }, { on := 7, ground := Ground.textOnly Departure.lateStores }, { on := 8, ground := Ground.phase }, { on := 9, ground := Ground.phase }], guard := none }) rfl (by kernel_rfl) ?_
        refine Rg.stepF ?_ ?_
        · kernel_rfl
        intro K hK
        rw [if_pos (by rfl)]
        refine wp_store_row 86 _ _ rfl p R3 rfl rfl 86 _ BP.out i3 z3 o3 ?_
        have BP := Lib.hid (BP.out.setRow R3)
        have B1 := Lib.hid (B1.out.setRow_other (g' := p) (by omega) R3)
        have B2 := Lib.hid (B2.out.setRow_other (g' := p) (by omega) R3)
        have BQ := Lib.hid (BQ.out.setRow_other (g' := p) (by omega) R3)
        have H3 := Lib.hid (H3.out.setRowIn l3 hpl R3)
        have H4 := Lib.hid (H4.out.setRowIn l4 hpl R3)
        have HB := Lib.hid (below_setRow HB.out (show w.heap.size ≤ p by omega) R3)
        have hb3 := Nat.le_trans hb3 (below_setRow (Below.refl 0 V4) (Nat.zero_le p) R3).size
        generalize (V4.setRow p R3) = V5 at *
        clear HS
        have HS := And.intro B1.out B2.out
        refine hK.out _ _ ?_
        clear hK K
        try simp only [Act.put, List.setIfInBounds_toArray, List.set_cons_zero, List.set_cons_succ]
        refine Rg.oneR (i := 11) (oi := { dst := none, op := Op.store 37 (Operand.tmp 8) (Operand.tmp 20), type := 0, pos := "links.go:227", after := #[{ on := 9, ground := Ground.data }, { on := 7, ground := Ground.data }, { on := 10, ground := Ground.chain }, { on := 0, ground := Ground.phase }, { on := 1, ground := Ground.phase }, { on := 2, ground := Ground.phase }, { on := 3, ground := Ground.phase }, { on := 4, ground := Ground.phase }, { on := 5, ground := Ground.phase }, { on := 6, ground := Ground.phase }, { on := 7, ground := Ground.phase }, { on := 8, ground := Ground.phase }, { on := 9, ground := Ground.phase }, { on := 10, ground := Ground.phase }], guard := none }) rfl (by kernel_rfl) ?_
        refine Rg.stepF ?_ ?_
        · kernel_rfl
        intro K hK
        rw [if_pos (by rfl)]
        refine wp_store_row 37 _ _ rfl q (Ms.msgC k i fr' A4 zs.length c4) rfl rfl 37 _ BQ.out (by kernel_rfl) rfl (by simp [Ms.msgC, Value.oneCell']) ?_
        have BQ := Lib.hid (BQ.out.setRow (Ms.msgC k i fr' A4 zs.length c4))
        have B1 := Lib.hid (B1.out.setRow_other (g' := q) (by omega) (Ms.msgC k i fr' A4 zs.length c4))
        have B2 := Lib.hid (B2.out.setRow_other (g' := q) (by omega) (Ms.msgC k i fr' A4 zs.length c4))
        have BP := Lib.hid (BP.out.setRow_other (g' := q) (by omega) (Ms.msgC k i fr' A4 zs.length c4))
        have H3 := Lib.hid (H3.out.setRowIn l3 hql (Ms.msgC k i fr' A4 zs.length c4))
        have H4 := Lib.hid (H4.out.setRowIn l4 hql (Ms.msgC k i fr' A4 zs.length c4))
        have HB := Lib.hid (below_setRow HB.out (show w.heap.size ≤ q by omega) (Ms.msgC k i fr' A4 zs.length c4))
        have hb3 := Nat.le_trans hb3 (below_setRow (Below.refl 0 V5) (Nat.zero_le q) (Ms.msgC k i fr' A4 zs.length c4)).size
        generalize (V5.setRow q (Ms.msgC k i fr' A4 zs.length c4)) = V6 at *
        clear HS
        have HS := And.intro B1.out B2.out
        refine hK.out _ _ ?_
        clear hK K
        try simp only [Act.put, List.setIfInBounds_toArray, List.set_cons_zero, List.set_cons_succ]
        refine Rg.doneR (by kernel_rfl) ?_ _
        refine NoPanic.normal ?_
        clear HS
        go_wp2_with fail
        go_meet
        refine ⟨p, q, A3, c3, A4, c4, rfl, rfl, by omega, by omega, by omega, ?_, BQ.out, B1.out, B2.out, H3.out.more hb3, H4.out.more hb3, HB.out, ha3, hc3⟩
        rw [HR3.out]
        exact BP.out
    ·
      refine Rg.stepS ?_
      intro K hK
      rw [if_pos (by rfl)]
      go_simp
      have hq0 := B2.out.lt
      have BQ : Hid (Blk (V0.alloc (.cells #[.int .i64 0, .int .i64 0, .int .i64 0, .slice none 0 0] 37)) V0.heap.size 37 #[.int .i64 0, .int .i64 0, .int .i64 0, .slice none 0 0]) := Lib.hid (Blk.fresh _ _ _)
      have B1 := Lib.hid (B1.out.alloc (.cells #[.int .i64 0, .int .i64 0, .int .i64 0, .slice none 0 0] 37))
      have B2 := Lib.hid (B2.out.alloc (.cells #[.int .i64 0, .int .i64 0, .int .i64 0, .slice none 0 0] 37))
      have HB := Lib.hid (HB.out.alloc HB.out.size (.cells #[.int .i64 0, .int .i64 0, .int .i64 0, .slice none 0 0] 37))
      generalize (V0.alloc (.cells #[.int .i64 0, .int .i64 0, .int .i64 0, .slice none 0 0] 37)) = V1 at *
      obtain ⟨q, hq⟩ : ∃ q, V0.heap.size = q := ⟨_, rfl⟩
      rw [hq] at BQ hq0 ⊢
      clear HS hq
      have HS := And.intro B1.out B2.out
      refine hK.out _ _ HS ?_
      clear hK K
      try simp only [Act.put, List.setIfInBounds_toArray, List.set_cons_zero, List.set_cons_succ]
      refine Rg.twoR (i := 1) (j := 8) (oi := { dst := some 15, op := Op.call { callee := Callee.value (Operand.func 62), args := #[Operand.tmp 14], argTypes := #[86] }, type := 86, pos := "links.go:227", after := #[{ on := 0, ground := Ground.data }], guard := none }) (oj := { dst := some 7, op := Op.alloc 86, type := 0, pos := "links.go:227", after := #[], guard := none }) (by kernel_rfl) rfl rfl ?_ ?_
      ·
        refine Rg.stepS ?_
        intro K hK
        rw [if_pos (by rfl)]
        go_simp
        go_at_call 62
        rw [← HR1.out]
        refine (copyNode_any f HF.out A c bs w.heap.size _ HB.out.size hA hnc hl (HR.out.below HB.out)).mono ?_
        rintro e V2 ⟨A2, c2, rfl, hown, hb⟩
        rw [HR1.out]
        obtain ⟨ha2, hc2⟩ := own_cap hown
        have H2 := Lib.hid (Rd.of_own hown)
        have B1 := Lib.hid (B1.out.below hb B1.out.lt)
        have B2 := Lib.hid (B2.out.below hb B2.out.lt)
        have BQ := Lib.hid (BQ.out.below hb BQ.out.lt)
        have HB := Lib.hid (onward HB.out (Nat.le_refl _) hb)
        clear hb hown HS
        have HS := And.intro B1.out B2.out
        obtain ⟨R2, hR2⟩ : ∃ R2, row 74 (nodeW f (.slice A2 bs.length c2)) = R2 := ⟨_, rfl⟩
        rw [hR2]
        have HR2 := Lib.hid hR2
        clear hR2
        go_wp2_with fail
        refine hK.out _ _ HS ?_
        clear hK K
        try simp only [Act.put, List.setIfInBounds_toArray, List.set_cons_zero, List.set_cons_succ]
        refine Rg.twoR (i := 4) (j := 8) (oi := { dst := some 18, op := Op.call { callee := Callee.value (Operand.func 80), args := #[Operand.tmp 15, Operand.tmp 16, Operand.tmp 17], argTypes := #[86, 3, 83] }, type := 93, pos := "links.go:227", after := #[{ on := 1, ground := Ground.data }, { on := 2, ground := Ground.data }, { on := 3, ground := Ground.data }, { on := 1, ground := Ground.chain }], guard := none }) (oj := { dst := some 7, op := Op.alloc 86, type := 0, pos := "links.go:227", after := #[], guard := none }) (by kernel_rfl) rfl rfl ?_ ?_
        ·
          refine Rg.stepF ?_ ?_
          · kernel_rfl
          intro K hK
          rw [if_pos (by rfl)]
          go_simp
          go_at_call 80
          rw [← HR2.out]
          refine (CS.out A2 c2 bs _ _ (Nat.le_refl _) ha2 hc2 hl H2.out).mono ?_
          rintro e V3 ⟨A3, c3, A4, c4, rfl, h3, h4, hb, l3, l4, ha3, hc3⟩
          rw [HR2.out]
          have hql := BQ.out.lt
          have H3 := Lib.hid h3
          have H4 := Lib.hid h4
          obtain ⟨b3, eb3⟩ : ∃ b3, V3.heap.size = b3 := ⟨_, rfl⟩
          rw [eb3] at H3 H4
          have hb3 := Nat.le_of_eq eb3.symm
          clear eb3
          have B1 := Lib.hid (B1.out.below hb B1.out.lt)
          have B2 := Lib.hid (B2.out.below hb B2.out.lt)
          have BQ := Lib.hid (BQ.out.below hb BQ.out.lt)
          have HB := Lib.hid (onward HB.out (Nat.le_refl _) hb)
          clear hb h3 h4 HS
          have HS := And.intro B1.out B2.out
          have i3 : (Try.prog.info? 86).map (·.size) = some (row 74 (nodeW g (.slice A3 bs.length c3))).size := by rw [row_size]; kernel_rfl
          have z3 : (Try.zeroCells86).size = (row 74 (nodeW g (.slice A3 bs.length c3))).size := by rw [row_size]; kernel_rfl
          have o3 := one_of HG.out (A := A3) (n := bs.length) (c := c3)
          obtain ⟨R3, hR3⟩ : ∃ R3, row 74 (nodeW g (.slice A3 bs.length c3)) = R3 := ⟨_, rfl⟩
          rw [hR3] at i3 z3 o3 ⊢
          have HR3 := Lib.hid hR3
          clear hR3
          go_wp2_with fail
          refine hK.out _ _ ?_
          clear hK K
          try simp only [Act.put, List.setIfInBounds_toArray, List.set_cons_zero, List.set_cons_succ]
          refine Rg.takeP (i := 5) (oi := { dst := some 13, op := Op.move (Operand.tmp 18), type := 93, pos := "links.go:227", after := #[{ on := 4, ground := Ground.data }], guard := none }) (v := ?_) rfl (by kernel_rfl) (fun _ _ _ h => h) (by rfl) ?_ ?_
          rotate_left 1
          · (intro w; go_simp; (try with_reducible rfl))
          try simp only [Act.put, List.setIfInBounds_toArray, List.set_cons_zero, List.set_cons_succ]
          refine Rg.takeP (i := 6) (oi := { dst := some 19, op := Op.extract (Operand.tmp 13) 0, type := 86, pos := "links.go:227", after := #[{ on := 5, ground := Ground.data }], guard := none }) (v := ?_) rfl (by kernel_rfl) (fun _ _ _ h => h) (by rfl) ?_ ?_
          rotate_left 1
          · (intro w; go_simp; (try with_reducible rfl))
          try simp only [Act.put, List.setIfInBounds_toArray, List.set_cons_zero, List.set_cons_succ]
          refine Rg.takeP (i := 7) (oi := { dst := some 20, op := Op.extract (Operand.tmp 13) 1, type := 37, pos := "links.go:227", after := #[{ on := 5, ground := Ground.data }, { on := 10, ground := Ground.gcOnly Departure.lateStores }], guard := none }) (v := ?_) rfl (by kernel_rfl) (fun _ _ _ h => h) (by rfl) ?_ ?_
          rotate_left 1
          · (intro w; go_simp; (try with_reducible rfl))
          try simp only [Act.put, List.setIfInBounds_toArray, List.set_cons_zero, List.set_cons_succ]
          refine Rg.oneR (i := 8) (oi := { dst := some 7, op := Op.alloc 86, type := 0, pos := "links.go:227", after := #[], guard := none }) rfl (by kernel_rfl) ?_
          refine Rg.stepS ?_
          intro K hK
          rw [if_pos (by rfl)]
          go_simp
          have hp0 := B2.out.lt
          have BP : Hid (Blk (V3.alloc (.cells Try.zeroCells86 86)) V3.heap.size 86 Try.zeroCells86) := Lib.hid (Blk.fresh _ _ _)
          have hpq := BQ.out.lt
          have B1 := Lib.hid (B1.out.alloc (.cells Try.zeroCells86 86))
          have B2 := Lib.hid (B2.out.alloc (.cells Try.zeroCells86 86))
          have BQ := Lib.hid (BQ.out.alloc (.cells Try.zeroCells86 86))
          have H3 := Lib.hid (H3.out.alloc hb3 (.cells Try.zeroCells86 86))
          have H4 := Lib.hid (H4.out.alloc hb3 (.cells Try.zeroCells86 86))
          have hpl := hb3
          have hb3 := Nat.le_trans hb3 (show _ ≤ (V3.alloc (.cells Try.zeroCells86 86)).heap.size by simp)
          have HB := Lib.hid (HB.out.alloc HB.out.size (.cells Try.zeroCells86 86))
          generalize (V3.alloc (.cells Try.zeroCells86 86)) = V4 at *
          obtain ⟨p, hp⟩ : ∃ p, V3.heap.size = p := ⟨_, rfl⟩
          rw [hp] at BP hp0 hpl hpq ⊢
          clear HS hp
          have HS := And.intro B1.out B2.out
          refine hK.out _ _ HS ?_
          clear hK K
          try simp only [Act.put, List.setIfInBounds_toArray, List.set_cons_zero, List.set_cons_succ]
          refine Rg.oneR (i := 10) (oi := { dst := none, op := Op.store 86 (Operand.tmp 7) (Operand.tmp 19), type := 0, pos := "links.go:227", after := #[{ on := 8, ground := Ground.data }, { on := 6, ground := Ground.data }, { on := 4, ground := Ground.chain }, { on := 0, ground := Ground.phase }, { on := 1, ground := Ground.phase }, { on := 2, ground := Ground.phase }, { on := 3, ground := Ground.phase }, { on := 4, ground := Ground.phase }, { on := 5, ground := Ground.phase }, { on := 6, ground := Ground.phase }, { on := 7, ground := Ground.textOnly Departure.lateStores }, { on := 8, ground := Ground.phase }, { on := 9, ground := Ground.phase }], guard := none }) rfl (by kernel_rfl) ?_
          refine Rg.stepF ?_ ?_
          · kernel_rfl
          intro K hK
          rw [if_pos (by rfl)]
          refine wp_store_row 86 _ _ rfl p R3 rfl rfl 86 _ BP.out i3 z3 o3 ?_
          have BP := Lib.hid (BP.out.setRow R3)
          have B1 := Lib.hid (B1.out.setRow_other (g' := p) (by omega) R3)
          have B2 := Lib.hid (B2.out.setRow_other (g' := p) (by omega) R3)
          have BQ := Lib.hid (BQ.out.setRow_other (g' := p) (by omega) R3)
          have H3 := Lib.hid (H3.out.setRowOut hpl R3)
          have H4 := Lib.hid (H4.out.setRowOut hpl R3)
          have HB := Lib.hid (below_setRow HB.out (show w.heap.size ≤ p by omega) R3)
          have hb3 := Nat.le_trans hb3 (below_setRow (Below.refl 0 V4) (Nat.zero_le p) R3).size
          generalize (V4.setRow p R3) = V5 at *
          clear HS
          have HS := And.intro B1.out B2.out
          refine hK.out _ _ ?_
          clear hK K
          try simp only [Act.put, List.setIfInBounds_toArray, List.set_cons_zero, List.set_cons_succ]
          refine Rg.oneR (i := 11) (oi := { dst := none, op := Op.store 37 (Operand.tmp 8) (Operand.tmp 20), type := 0, pos := "links.go:227", after := #[{ on := 9, ground := Ground.data }, { on := 7, ground := Ground.data }, { on := 10, ground := Ground.chain }, { on := 0, ground := Ground.phase }, { on := 1, ground := Ground.phase }, { on := 2, ground := Ground.phase }, { on := 3, ground := Ground.phase }, { on := 4, ground := Ground.phase }, { on := 5, ground := Ground.phase }, { on := 6, ground := Ground.phase }, { on := 7, ground := Ground.phase }, { on := 8, ground := Ground.phase }, { on := 9, ground := Ground.phase }, { on := 10, ground := Ground.phase }], guard := none }) rfl (by kernel_rfl) ?_
          refine Rg.stepF ?_ ?_
          · kernel_rfl
          intro K hK
          rw [if_pos (by rfl)]
          refine wp_store_row 37 _ _ rfl q (Ms.msgC k i fr' A4 zs.length c4) rfl rfl 37 _ BQ.out (by kernel_rfl) rfl (by simp [Ms.msgC, Value.oneCell']) ?_
          have BQ := Lib.hid (BQ.out.setRow (Ms.msgC k i fr' A4 zs.length c4))
          have B1 := Lib.hid (B1.out.setRow_other (g' := q) (by omega) (Ms.msgC k i fr' A4 zs.length c4))
          have B2 := Lib.hid (B2.out.setRow_other (g' := q) (by omega) (Ms.msgC k i fr' A4 zs.length c4))
          have BP := Lib.hid (BP.out.setRow_other (g' := q) (by omega) (Ms.msgC k i fr' A4 zs.length c4))
          have H3 := Lib.hid (H3.out.setRowIn l3 hql (Ms.msgC k i fr' A4 zs.length c4))
          have H4 := Lib.hid (H4.out.setRowIn l4 hql (Ms.msgC k i fr' A4 zs.length c4))
          have HB := Lib.hid (below_setRow HB.out (show w.heap.size ≤ q by omega) (Ms.msgC k i fr' A4 zs.length c4))
          have hb3 := Nat.le_trans hb3 (below_setRow (Below.refl 0 V5) (Nat.zero_le q) (Ms.msgC k i fr' A4 zs.length c4)).size
          generalize (V5.setRow q (Ms.msgC k i fr' A4 zs.length c4)) = V6 at *
          clear HS
          have HS := And.intro B1.out B2.out
          refine hK.out _ _ ?_
          clear hK K
          try simp only [Act.put, List.setIfInBounds_toArray, List.set_cons_zero, List.set_cons_succ]
          refine Rg.doneR (by kernel_rfl) ?_ _
          refine NoPanic.normal ?_
          clear HS
          go_wp2_with fail
          go_meet
          refine ⟨p, q, A3, c3, A4, c4, rfl, rfl, by omega, by omega, by omega, ?_, BQ.out, B1.out, B2.out, H3.out.more hb3, H4.out.more hb3, HB.out, ha3, hc3⟩
          rw [HR3.out]
          exact BP.out
        ·
          refine Rg.stepS ?_
          intro K hK
          rw [if_pos (by rfl)]
          go_simp
          have hp0 := B2.out.lt
          have BP : Hid (Blk (V2.alloc (.cells Try.zeroCells86 86)) V2.heap.size 86 Try.zeroCells86) := Lib.hid (Blk.fresh _ _ _)
          have hpq := BQ.out.lt
          have B1 := Lib.hid (B1.out.alloc (.cells Try.zeroCells86 86))
          have B2 := Lib.hid (B2.out.alloc (.cells Try.zeroCells86 86))
          have BQ := Lib.hid (BQ.out.alloc (.cells Try.zeroCells86 86))
          have H2 := Lib.hid ((H2.out.alloc (Nat.le_refl _) (.cells Try.zeroCells86 86)).more (show _ ≤ (V2.alloc (.cells Try.zeroCells86 86)).heap.size by simp))
          have HB := Lib.hid (HB.out.alloc HB.out.size (.cells Try.zeroCells86 86))
          generalize (V2.alloc (.cells Try.zeroCells86 86)) = V3 at *
          obtain ⟨p, hp⟩ : ∃ p, V2.heap.size = p := ⟨_, rfl⟩
          rw [hp] at BP hp0 hpq ⊢
          clear HS hp
          have HS := And.intro B1.out B2.out
          refine hK.out _ _ HS ?_
          clear hK K
          try simp only [Act.put, List.setIfInBounds_toArray, List.set_cons_zero, List.set_cons_succ]
          refine Rg.oneR (i := 4) (oi := { dst := some 18, op := Op.call { callee := Callee.value (Operand.func 80), args := #[Operand.tmp 15, Operand.tmp 16, Operand.tmp 17], argTypes := #[86, 3, 83] }, type := 93, pos := "links.go:227", after := #[{ on := 1, ground := Ground.data }, { on := 2, ground := Ground.data }, { on := 3, ground := Ground.data }, { on := 1, ground := Ground.chain }], guard := none }) rfl (by kernel_rfl) ?_
          refine Rg.stepF ?_ ?_
          · kernel_rfl
          intro K hK
          rw [if_pos (by rfl)]
          go_simp
          go_at_call 80
          rw [← HR2.out]
          refine (CS.out A2 c2 bs _ _ (Nat.le_refl _) ha2 hc2 hl H2.out).mono ?_
          rintro e V4 ⟨A3, c3, A4, c4, rfl, h3, h4, hb, l3, l4, ha3, hc3⟩
          rw [HR2.out]
          have hpl := BP.out.lt
          have hql := BQ.out.lt
          have H3 := Lib.hid h3
          have H4 := Lib.hid h4
          obtain ⟨b3, eb3⟩ : ∃ b3, V4.heap.size = b3 := ⟨_, rfl⟩
          rw [eb3] at H3 H4
          have hb3 := Nat.le_of_eq eb3.symm
          clear eb3
          have B1 := Lib.hid (B1.out.below hb B1.out.lt)
          have B2 := Lib.hid (B2.out.below hb B2.out.lt)
          have BP := Lib.hid (BP.out.below hb BP.out.lt)
          have BQ := Lib.hid (BQ.out.below hb BQ.out.lt)
          have HB := Lib.hid (onward HB.out (Nat.le_refl _) hb)
          clear hb h3 h4 HS
          have HS := And.intro B1.out B2.out
          have i3 : (Try.prog.info? 86).map (·.size) = some (row 74 (nodeW g (.slice A3 bs.length c3))).size := by rw [row_size]; kernel_rfl
          have z3 : (Try.zeroCells86).size = (row 74 (nodeW g (.slice A3 bs.length c3))).size := by rw [row_size]; kernel_rfl
          have o3 := one_of HG.out (A := A3) (n := bs.length) (c := c3)
          obtain ⟨R3, hR3⟩ : ∃ R3, row 74 (nodeW g (.slice A3 bs.length c3)) = R3 := ⟨_, rfl⟩
          rw [hR3] at i3 z3 o3 ⊢
          have HR3 := Lib.hid hR3
          clear hR3
          go_wp2_with fail
          refine hK.out _ _ ?_
          clear hK K
          try simp only [Act.put, List.setIfInBounds_toArray, List.set_cons_zero, List.set_cons_succ]
          refine Rg.takeP (i := 5) (oi := { dst := some 13, op := Op.move (Operand.tmp 18), type := 93, pos := "links.go:227", after := #[{ on := 4, ground := Ground.data }], guard := none }) (v := ?_) rfl (by kernel_rfl) (fun _ _ _ h => h) (by rfl) ?_ ?_
          rotate_left 1
          · (intro w; go_simp; (try with_reducible rfl))
          try simp only [Act.put, List.setIfInBounds_toArray, List.set_cons_zero, List.set_cons_succ]
          refine Rg.takeP (i := 6) (oi := { dst := some 19, op := Op.extract (Operand.tmp 13) 0, type := 86, pos := "links.go:227", after := #[{ on := 5, ground := Ground.data }], guard := none }) (v := ?_) rfl (by kernel_rfl) (fun _ _ _ h => h) (by rfl) ?_ ?_
          rotate_left 1
          · (intro w; go_simp; (try with_reducible rfl))
          try simp only [Act.put, List.setIfInBounds_toArray, List.set_cons_zero, List.set_cons_succ]
          refine Rg.takeP (i := 7) (oi := { dst := some 20, op := Op.extract (Operand.tmp 13) 1, type := 37, pos := "links.go:227", after := #[{ on := 5, ground := Ground.data }, { on := 10, ground := Ground.gcOnly Departure.lateStores }], guard := none }) (v := ?_) rfl (by kernel_rfl) (fun _ _ _ h => h) (by rfl) ?_ ?_
          rotate_left 1
          · (intro w; go_simp; (try with_reducible rfl))
          try simp only [Act.put, List.setIfInBounds_toArray, List.set_cons_zero, List.set_cons_succ]
          refine Rg.oneR (i := 10) (oi := { dst := none, op := Op.store 86 (Operand.tmp 7) (Operand.tmp 19), type := 0, pos := "links.go:227", after := #[{ on := 8, ground := Ground.data }, { on := 6, ground := Ground.data }, { on := 4, ground := Ground.chain }, { on := 0, ground := Ground.phase }, { on := 1, ground := Ground.phase }, { on := 2, ground := Ground.phase }, { on := 3, ground := Ground.phase }, { on := 4, ground := Ground.phase }, { on := 5, ground := Ground.phase }, { on := 6, ground := Ground.phase }, { on := 7, ground := Ground.textOnly Departure.lateStores }, { on := 8, ground := Ground.phase }, { on := 9, ground := Ground.phase }], guard := none }) rfl (by kernel_rfl) ?_
          refine Rg.stepF ?_ ?_
          · kernel_rfl
          intro K hK
          rw [if_pos (by rfl)]
          refine wp_store_row 86 _ _ rfl p R3 rfl rfl 86 _ BP.out i3 z3 o3 ?_
          have BP := Lib.hid (BP.out.setRow R3)
          have B1 := Lib.hid (B1.out.setRow_other (g' := p) (by omega) R3)
          have B2 := Lib.hid (B2.out.setRow_other (g' := p) (by omega) R3)
          have BQ := Lib.hid (BQ.out.setRow_other (g' := p) (by omega) R3)
          have H3 := Lib.hid (H3.out.setRowIn l3 hpl R3)
          have H4 := Lib.hid (H4.out.setRowIn l4 hpl R3)
          have HB := Lib.hid (below_setRow HB.out (show w.heap.size ≤ p by omega) R3)
          have hb3 := Nat.le_trans hb3 (below_setRow (Below.refl 0 V4) (Nat.zero_le p) R3).size
          generalize (V4.setRow p R3) = V5 at *
          clear HS
          have HS := And.intro B1.out B2.out
          refine hK.out _ _ ?_
          clear hK K
          try simp only [Act.put, List.setIfInBounds_toArray, List.set_cons_zero, List.set_cons_succ]
          refine Rg.oneR (i := 11) (oi := { dst := none, op := Op.store 37 (Operand.tmp 8) (Operand.tmp 20), type := 0, pos := "links.go:227", after := #[{ on := 9, ground := Ground.data }, { on := 7, ground := Ground.data }, { on := 10, ground := Ground.chain }, { on := 0, ground := Ground.phase }, { on := 1, ground := Ground.phase }, { on := 2, ground := Ground.phase }, { on := 3, ground := Ground.phase }, { on := 4, ground := Ground.phase }, { on := 5, ground := Ground.phase }, { on := 6, ground := Ground.phase }, { on := 7, ground := Ground.phase }, { on := 8, ground := Ground.phase }, { on := 9, ground := Ground.phase }, { on := 10, ground := Ground.phase }], guard := none }) rfl (by kernel_rfl) ?_
          refine Rg.stepF ?_ ?_
          · kernel_rfl
          intro K hK
          rw [if_pos (by rfl)]
          refine wp_store_row 37 _ _ rfl q (Ms.msgC k i fr' A4 zs.length c4) rfl rfl 37 _ BQ.out (by kernel_rfl) rfl (by simp [Ms.msgC, Value.oneCell']) ?_
          have BQ := Lib.hid (BQ.out.setRow (Ms.msgC k i fr' A4 zs.length c4))
          have B1 := Lib.hid (B1.out.setRow_other (g' := q) (by omega) (Ms.msgC k i fr' A4 zs.length c4))
          have B2 := Lib.hid (B2.out.setRow_other (g' := q) (by omega) (Ms.msgC k i fr' A4 zs.length c4))
          have BP := Lib.hid (BP.out.setRow_other (g' := q) (by omega) (Ms.msgC k i fr' A4 zs.length c4))
          have H3 := Lib.hid (H3.out.setRowIn l3 hql (Ms.msgC k i fr' A4 zs.length c4))
          have H4 := Lib.hid (H4.out.setRowIn l4 hql (Ms.msgC k i fr' A4 zs.length c4))
          have HB := Lib.hid (below_setRow HB.out (show w.heap.size ≤ q by omega) (Ms.msgC k i fr' A4 zs.length c4))
          have hb3 := Nat.le_trans hb3 (below_setRow (Below.refl 0 V5) (Nat.zero_le q) (Ms.msgC k i fr' A4 zs.length c4)).size
          generalize (V5.setRow q (Ms.msgC k i fr' A4 zs.length c4)) = V6 at *
          clear HS
          have HS := And.intro B1.out B2.out
          refine hK.out _ _ ?_
          clear hK K
          try simp only [Act.put, List.setIfInBounds_toArray, List.set_cons_zero, List.set_cons_succ]
          refine Rg.doneR (by kernel_rfl) ?_ _
          refine NoPanic.normal ?_
          clear HS
          go_wp2_with fail
          go_meet
          refine ⟨p, q, A3, c3, A4, c4, rfl, rfl, by omega, by omega, by omega, ?_, BQ.out, B1.out, B2.out, H3.out.more hb3, H4.out.more hb3, HB.out, ha3, hc3⟩
          rw [HR3.out]
          exact BP.out
      ·
        refine Rg.stepS ?_
        intro K hK
        rw [if_pos (by rfl)]
        go_simp
        have hp0 := B2.out.lt
        have BP : Hid (Blk (V1.alloc (.cells Try.zeroCells86 86)) V1.heap.size 86 Try.zeroCells86) := Lib.hid (Blk.fresh _ _ _)
        have hpq := BQ.out.lt
        have B1 := Lib.hid (B1.out.alloc (.cells Try.zeroCells86 86))
        have B2 := Lib.hid (B2.out.alloc (.cells Try.zeroCells86 86))
        have BQ := Lib.hid (BQ.out.alloc (.cells Try.zeroCells86 86))
        have HB := Lib.hid (HB.out.alloc HB.out.size (.cells Try.zeroCells86 86))
        generalize (V1.alloc (.cells Try.zeroCells86 86)) = V2 at *
        obtain ⟨p, hp⟩ : ∃ p, V1.heap.size = p := ⟨_, rfl⟩
        rw [hp] at BP hp0 hpq ⊢
        clear HS hp
        have HS := And.intro B1.out B2.out
        refine hK.out _ _ HS ?_
        clear hK K
        try simp only [Act.put, List.setIfInBounds_toArray, List.set_cons_zero, List.set_cons_succ]
        refine Rg.oneR (i := 1) (oi := { dst := some 15, op := Op.call { callee := Callee.value (Operand.func 62), args := #[Operand.tmp 14], argTypes := #[86] }, type := 86, pos := "links.go:227", after := #[{ on := 0, ground := Ground.data }], guard := none }) rfl (by kernel_rfl) ?_
        refine Rg.stepS ?_
        intro K hK
        rw [if_pos (by rfl)]
        go_simp
        go_at_call 62
        rw [← HR1.out]
        refine (copyNode_any f HF.out A c bs w.heap.size _ HB.out.size hA hnc hl (HR.out.below HB.out)).mono ?_
        rintro e V3 ⟨A2, c2, rfl, hown, hb⟩
        rw [HR1.out]
        obtain ⟨ha2, hc2⟩ := own_cap hown
        have H2 := Lib.hid (Rd.of_own hown)
        have B1 := Lib.hid (B1.out.below hb B1.out.lt)
        have B2 := Lib.hid (B2.out.below hb B2.out.lt)
        have BP := Lib.hid (BP.out.below hb BP.out.lt)
        have BQ := Lib.hid (BQ.out.below hb BQ.out.lt)
        have HB := Lib.hid (onward HB.out (Nat.le_refl _) hb)
        clear hb hown HS
        have HS := And.intro B1.out B2.out
        obtain ⟨R2, hR2⟩ : ∃ R2, row 74 (nodeW f (.slice A2 bs.length c2)) = R2 := ⟨_, rfl⟩
        rw [hR2]
        have HR2 := Lib.hid hR2
        clear hR2
        go_wp2_with fail
        refine hK.out _ _ HS ?_
        clear hK K
        try simp only [Act.put, List.setIfInBounds_toArray, List.set_cons_zero, List.set_cons_succ]
        refine Rg.oneR (i := 4) (oi := { dst := some 18, op := Op.call { callee := Callee.value (Operand.func 80), args := #[Operand.tmp 15, Operand.tmp 16, Operand.tmp 17], argTypes := #[86, 3, 83] }, type := 93, pos := "links.go:227", after := #[{ on := 1, ground := Ground.data }, { on := 2, ground := Ground.data }, { on := 3, ground := Ground.data }, { on := 1, ground := Ground.chain }], guard := none }) rfl (by kernel_rfl) ?_
        refine Rg.stepF ?_ ?_
        · kernel_rfl
        intro K hK
        rw [if_pos (by rfl)]
        go_simp
        go_at_call 80
        rw [← HR2.out]
        refine (CS.out A2 c2 bs _ _ (Nat.le_refl _) ha2 hc2 hl H2.out).mono ?_
        rintro e V4 ⟨A3, c3, A4, c4, rfl, h3, h4, hb, l3, l4, ha3, hc3⟩
        rw [HR2.out]
        have hpl := BP.out.lt
        have hql := BQ.out.lt
        have H3 := Lib.hid h3
        have H4 := Lib.hid h4
        obtain ⟨b3, eb3⟩ : ∃ b3, V4.heap.size = b3 := ⟨_, rfl⟩
        rw [eb3] at H3 H4
        have hb3 := Nat.le_of_eq eb3.symm
        clear eb3
        have B1 := Lib.hid (B1.out.below hb B1.out.lt)
        have B2 := Lib.hid (B2.out.below hb B2.out.lt)
        have BP := Lib.hid (BP.out.below hb BP.out.lt)
        have BQ := Lib.hid (BQ.out.below hb BQ.out.lt)
        have HB := Lib.hid (onward HB.out (Nat.le_refl _) hb)
        clear hb h3 h4 HS
        have HS := And.intro B1.out B2.out
        have i3 : (Try.prog.info? 86).map (·.size) = some (row 74 (nodeW g (.slice A3 bs.length c3))).size := by rw [row_size]; kernel_rfl
        have z3 : (Try.zeroCells86).size = (row 74 (nodeW g (.slice A3 bs.length c3))).size := by rw [row_size]; kernel_rfl
        have o3 := one_of HG.out (A := A3) (n := bs.length) (c := c3)
        obtain ⟨R3, hR3⟩ : ∃ R3, row 74 (nodeW g (.slice A3 bs.length c3)) = R3 := ⟨_, rfl⟩
        rw [hR3] at i3 z3 o3 ⊢
        have HR3 := Lib.hid hR3
        clear hR3
        go_wp2_with fail
        refine hK.out _ _ ?_
        clear hK K
        try simp only [Act.put, List.setIfInBounds_toArray, List.set_cons_zero, List.set_cons_succ]
        refine Rg.takeP (i := 5) (oi := { dst := some 13, op := Op.move (Operand.tmp 18), type := 93, pos := "links.go:227", after := #[{ on := 4, ground := Ground.data }], guard := none }) (v := ?_) rfl (by kernel_rfl) (fun _ _ _ h => h) (by rfl) ?_ ?_
        rotate_left 1
        · (intro w; go_simp; (try with_reducible rfl))
        try simp only [Act.put, List.setIfInBounds_toArray, List.set_cons_zero, List.set_cons_succ]
        refine Rg.takeP (i := 6) (oi := { dst := some 19, op := Op.extract (Operand.tmp 13) 0, type := 86, pos := "links.go:227", after := #[{ on := 5, ground := Ground.data }], guard := none }) (v := ?_) rfl (by kernel_rfl) (fun _ _ _ h => h) (by rfl) ?_ ?_
        rotate_left 1
        · (intro w; go_simp; (try with_reducible rfl))
        try simp only [Act.put, List.setIfInBounds_toArray, List.set_cons_zero, List.set_cons_succ]
        refine Rg.takeP (i := 7) (oi := { dst := some 20, op := Op.extract (Operand.tmp 13) 1, type := 37, pos := "links.go:227", after := #[{ on := 5, ground := Ground.data }, { on := 10, ground := Ground.gcOnly Departure.lateStores }], guard := none }) (v := ?_) rfl (by kernel_rfl) (fun _ _ _ h => h) (by rfl) ?_ ?_
        rotate_left 1
        · (intro w; go_simp; (try with_reducible rfl))
        try simp only [Act.put, List.setIfInBounds_toArray, List.set_cons_zero, List.set_cons_succ]
        refine Rg.oneR (i := 10) (oi := { dst := none, op := Op.store 86 (Operand.tmp 7) (Operand.tmp 19), type := 0, pos := "links.go:227", after := #[{ on := 8, ground := Ground.data }, { on := 6, ground := Ground.data }, { on := 4, ground := Ground.chain }, { on := 0, ground := Ground.phase }, { on := 1, ground := Ground.phase }, { on := 2, ground := Ground.phase }, { on := 3, ground := Ground.phase }, { on := 4, ground := Ground.phase }, { on := 5, ground := Ground.phase }, { on := 6, ground := Ground.phase }, { on := 7, ground := Ground.textOnly Departure.lateStores }, { on := 8, ground := Ground.phase }, { on := 9, ground := Ground.phase }], guard := none }) rfl (by kernel_rfl) ?_
        refine Rg.stepF ?_ ?_
        · kernel_rfl
        intro K hK
        rw [if_pos (by rfl)]
        refine wp_store_row 86 _ _ rfl p R3 rfl rfl 86 _ BP.out i3 z3 o3 ?_
        have BP := Lib.hid (BP.out.setRow R3)
        have B1 := Lib.hid (B1.out.setRow_other (g' := p) (by omega) R3)
        have B2 := Lib.hid (B2.out.setRow_other (g' := p) (by omega) R3)
        have BQ := Lib.hid (BQ.out.setRow_other (g' := p) (by omega) R3)
        have H3 := Lib.hid (H3.out.setRowIn l3 hpl R3)
        have H4 := Lib.hid (H4.out.setRowIn l4 hpl R3)
        have HB := Lib.hid (below_setRow HB.out (show w.heap.size ≤ p by omega) R3)
        have hb3 := Nat.le_trans hb3 (below_setRow (Below.refl 0 V4) (Nat.zero_le p) R3).size
        generalize (V4.setRow p R3) = V5 at *
        clear HS
        have HS := And.intro B1.out B2.out
        refine hK.out _ _ ?_
        clear hK K
        try simp only [Act.put, List.setIfInBounds_toArray, List.set_cons_zero, List.set_cons_succ]
        refine Rg.oneR (i := 11) (oi := { dst := none, op := Op.store 37 (Operand.tmp 8) (Operand.tmp 20), type := 0, pos := "links.go:227", after := #[{ on := 9, ground := Ground.data }, { on := 7, ground := Ground.data }, { on := 10, ground := Ground.chain }, { on := 0, ground := Ground.phase }, { on := 1, ground := Ground.phase }, { on := 2, ground := Ground.phase }, { on := 3, ground := Ground.phase }, { on := 4, ground := Ground.phase }, { on := 5, ground := Ground.phase }, { on := 6, ground := Ground.phase }, { on := 7, ground := Ground.phase }, { on := 8, ground := Ground.phase }, { on := 9, ground := Ground.phase }, { on := 10, ground := Ground.phase }], guard := none }) rfl (by kernel_rfl) ?_
        refine Rg.stepF ?_ ?_
        · kernel_rfl
        intro K hK
        rw [if_pos (by rfl)]
        refine wp_store_row 37 _ _ rfl q (Ms.msgC k i fr' A4 zs.length c4) rfl rfl 37 _ BQ.out (by kernel_rfl) rfl (by simp [Ms.msgC, Value.oneCell']) ?_
        have BQ := Lib.hid (BQ.out.setRow (Ms.msgC k i fr' A4 zs.length c4))
        have B1 := Lib.hid (B1.out.setRow_other (g' := q) (by omega) (Ms.msgC k i fr' A4 zs.length c4))
        have B2 := Lib.hid (B2.out.setRow_other (g' := q) (by omega) (Ms.msgC k i fr' A4 zs.length c4))
        have BP := Lib.hid (BP.out.setRow_other (g' := q) (by omega) (Ms.msgC k i fr' A4 zs.length c4))
        have H3 := Lib.hid (H3.out.setRowIn l3 hql (Ms.msgC k i fr' A4 zs.length c4))
        have H4 := Lib.hid (H4.out.setRowIn l4 hql (Ms.msgC k i fr' A4 zs.length c4))
        have HB := Lib.hid (below_setRow HB.out (show w.heap.size ≤ q by omega) (Ms.msgC k i fr' A4 zs.length c4))
        have hb3 := Nat.le_trans hb3 (below_setRow (Below.refl 0 V5) (Nat.zero_le q) (Ms.msgC k i fr' A4 zs.length c4)).size
        generalize (V5.setRow q (Ms.msgC k i fr' A4 zs.length c4)) = V6 at *
        clear HS
        have HS := And.intro B1.out B2.out
        refine hK.out _ _ ?_
        clear hK K
        try simp only [Act.put, List.setIfInBounds_toArray, List.set_cons_zero, List.set_cons_succ]
        refine Rg.doneR (by kernel_rfl) ?_ _
        refine NoPanic.normal ?_
        clear HS
        go_wp2_with fail
        go_meet
        refine ⟨p, q, A3, c3, A4, c4, rfl, rfl, by omega, by omega, by omega, ?_, BQ.out, B1.out, B2.out, H3.out.more hb3, H4.out.more hb3, HB.out, ha3, hc3⟩
        rw [HR3.out]
        exact BP.out
  case rest =>
    obtain ⟨p, q, A3, c3, A4, c4, rfl, rfl, hp, hq, hpq, hP, hQ, hB1, hB2, h3, h4, hB, ha3, hc3⟩ := hcut
    have BP := Lib.hid hP
    have BQ := Lib.hid hQ
    have B1 := Lib.hid hB1
    have B2 := Lib.hid hB2
    have H3 := Lib.hid h3
    have H4 := Lib.hid h4
    have HB := Lib.hid hB
    clear hP hQ hB1 hB2 h3 h4 hB
    have i3 : (Try.prog.info? 86).map (·.size) = some (row 74 (nodeW g (.slice A3 bs.length c3))).size := by rw [row_size]; kernel_rfl
    obtain ⟨R3, hR3⟩ : ∃ R3, row 74 (nodeW g (.slice A3 bs.length c3)) = R3 := ⟨_, rfl⟩
    rw [hR3] at i3 BP
    have HR3 := Lib.hid hR3
    clear hR3
    go_wp2_with (first | (refine wpList_whole rfl 86 _ rfl w.heap.size rfl B1.out _ Try.underlying86 rfl i1 ?_) | (refine wpList_whole rfl 83 _ rfl (w.heap.size + 1) rfl B2.out _ Try.underlying83 rfl (by kernel_rfl) ?_))
    rw [← HR1.out]
    refine (CR.out A c bs w.heap.size _ HB.out.size hA hnc hl (HR.out.below HB.out)).mono ?_
    rintro e w2 ⟨A5, c5, A6, c6, rfl, h5, h6, hb, l5, l6, ha5, hc5⟩
    rw [HR1.out]
    have H5 := Lib.hid h5
    have H6 := Lib.hid h6
    have HB := Lib.hid (onward HB.out (Nat.le_refl _) hb)
    have BP := Lib.hid (BP.out.below hb BP.out.lt)
    have BQ := Lib.hid (BQ.out.below hb BQ.out.lt)
    have H3 := Lib.hid ((H3.out.below hb).more (hb).size)
    have H4 := Lib.hid ((H4.out.below hb).more (hb).size)
    clear h5 h6 hb l5 l6 B1 B2
    have i5 : (Try.prog.info? 86).map (·.size) = some (row 74 (nodeW g (.slice A5 bs.length c5))).size := by rw [row_size]; kernel_rfl
    have z5 : (Try.zeroCells86).size = (row 74 (nodeW g (.slice A5 bs.length c5))).size := by rw [row_size]; kernel_rfl
    have o5 := one_of HG.out (A := A5) (n := bs.length) (c := c5)
    obtain ⟨R5, hR5⟩ : ∃ R5, row 74 (nodeW g (.slice A5 bs.length c5)) = R5 := ⟨_, rfl⟩
    rw [hR5] at i5 z5 o5 ⊢
    have HR5 := Lib.hid hR5
    clear hR5
    have F1 : Hid (Blk ((w2.alloc (.cells Try.zeroCells86 86)).alloc (.cells #[.int .i64 0, .int .i64 0, .int .i64 0, .slice none 0 0] 37)) w2.heap.size 86 Try.zeroCells86) := Lib.hid ((Blk.fresh _ _ _).alloc _)
    have F2 : Hid (Blk (((w2.alloc (.cells Try.zeroCells86 86)).alloc (.cells #[.int .i64 0, .int .i64 0, .int .i64 0, .slice none 0 0] 37)).setRow w2.heap.size R5) (w2.heap.size + 1) 37 #[.int .i64 0, .int .i64 0, .int .i64 0, .slice none 0 0]) := Lib.hid ((Blk.new (by simp)).setRow_other (by omega) R5)
    obtain ⟨bel5, bn5, bm5, bs5⟩ := two_cells w2 86 37 Try.zeroCells86 #[.int .i64 0, .int .i64 0, .int .i64 0, .slice none 0 0] R5 (Ms.msgC k i fr' A6 zs.length c6)
    have BEL := Lib.hid bel5
    have BN5 := Lib.hid bn5
    have BM5 := Lib.hid bm5
    clear bel5 bn5 bm5
    go_upto_region 3 with (first | (refine wpList_store_row rfl 86 _ _ rfl w2.heap.size R5 rfl rfl 86 _ F1.out i5 z5 o5 ?_) | (refine wpList_store_row rfl 37 _ _ rfl (w2.heap.size + 1) (Ms.msgC k i fr' A6 zs.length c6) rfl rfl 37 _ F2.out (by kernel_rfl) rfl (by simp [Ms.msgC, Value.oneCell']) ?_))
    clear F1 F2
    generalize ((((w2.alloc (.cells Try.zeroCells86 86)).alloc (.cells #[.int .i64 0, .int .i64 0, .int .i64 0, .slice none 0 0] 37)).setRow w2.heap.size R5).setRow (w2.heap.size + 1) (Ms.msgC k i fr' A6 zs.length c6)) = w2v at *
    have HB := Lib.hid (onward HB.out (Nat.le_refl _) BEL.out)
    have BP := Lib.hid (BP.out.below BEL.out BP.out.lt)
    have BQ := Lib.hid (BQ.out.below BEL.out BQ.out.lt)
    have H3 := Lib.hid ((H3.out.below BEL.out).more BEL.out.size)
    have H4 := Lib.hid ((H4.out.below BEL.out).more BEL.out.size)
    have H5 := Lib.hid ((H5.out.below BEL.out).more BEL.out.size)
    have H6 := Lib.hid ((H6.out.below BEL.out).more BEL.out.size)
    clear BEL
    go_wp2_with fail
    refine (CB.out _).mono ?_
    rintro e w3 ⟨rfl, hb⟩
    have HB := Lib.hid (onward HB.out (Nat.le_refl _) hb)
    have BP := Lib.hid (BP.out.below hb BP.out.lt)
    have BQ := Lib.hid (BQ.out.below hb BQ.out.lt)
    have BN5 := Lib.hid (BN5.out.below hb BN5.out.lt)
    have BM5 := Lib.hid (BM5.out.below hb BM5.out.lt)
    have H3 := Lib.hid ((H3.out.below hb).more (hb).size)
    have H4 := Lib.hid ((H4.out.below hb).more (hb).size)
    have H5 := Lib.hid ((H5.out.below hb).more (hb).size)
    have H6 := Lib.hid ((H6.out.below hb).more (hb).size)
    clear hb
    go_wp2_with fail
    refine (CT.out _).mono ?_
    rintro e w4 ⟨A7, c7, A8, c8, rfl, h7, h8, hb, l7, l8, ha7, hc7⟩
    have HB := Lib.hid (onward HB.out (Nat.le_refl _) hb)
    have BP := Lib.hid (BP.out.below hb BP.out.lt)
    have BQ := Lib.hid (BQ.out.below hb BQ.out.lt)
    have BN5 := Lib.hid (BN5.out.below hb BN5.out.lt)
    have BM5 := Lib.hid (BM5.out.below hb BM5.out.lt)
    have H3 := Lib.hid ((H3.out.below hb).more (hb).size)
    have H4 := Lib.hid ((H4.out.below hb).more (hb).size)
    have H5 := Lib.hid ((H5.out.below hb).more (hb).size)
    have H6 := Lib.hid ((H6.out.below hb).more (hb).size)
    clear h7 h8 hb l7 l8
    have i7 : (Try.prog.info? 86).map (·.size) = some (row 74 (nodeW (senseF (nodeK 2 1 0 0 0 3) 1 2 0 0 0) (.slice A7 ([] : List Bool).length c7))).size := by rw [row_size]; kernel_rfl
    have z7 : (Try.zeroCells86).size = (row 74 (nodeW (senseF (nodeK 2 1 0 0 0 3) 1 2 0 0 0) (.slice A7 ([] : List Bool).length c7))).size := by rw [row_size]; kernel_rfl
    have o7 := one_of (ok_sense (ok_node 2 1 0 0 0) 1 2 (by omega) 0 0 0) (A := A7) (n := ([] : List Bool).length) (c := c7)
    obtain ⟨R7, hR7⟩ : ∃ R7, row 74 (nodeW (senseF (nodeK 2 1 0 0 0 3) 1 2 0 0 0) (.slice A7 ([] : List Bool).length c7)) = R7 := ⟨_, rfl⟩
    rw [hR7] at i7 z7 o7 ⊢
    have HR7 := Lib.hid hR7
    clear hR7
    have F1 : Hid (Blk ((w4.alloc (.cells Try.zeroCells86 86)).alloc (.cells #[.int .i64 0, .int .i64 0, .int .i64 0, .slice none 0 0] 37)) w4.heap.size 86 Try.zeroCells86) := Lib.hid ((Blk.fresh _ _ _).alloc _)
    have F2 : Hid (Blk (((w4.alloc (.cells Try.zeroCells86 86)).alloc (.cells #[.int .i64 0, .int .i64 0, .int .i64 0, .slice none 0 0] 37)).setRow w4.heap.size R7) (w4.heap.size + 1) 37 #[.int .i64 0, .int .i64 0, .int .i64 0, .slice none 0 0]) := Lib.hid ((Blk.new (by simp)).setRow_other (by omega) R7)
    obtain ⟨bel7, bn7, bm7, bs7⟩ := two_cells w4 86 37 Try.zeroCells86 #[.int .i64 0, .int .i64 0, .int .i64 0, .slice none 0 0] R7 (Ms.msgC 1 2 1 A8 3 c8)
    have BEL := Lib.hid bel7
    have BN7 := Lib.hid bn7
    have BM7 := Lib.hid bm7
    clear bel7 bn7 bm7
    go_upto_region 4 with (first | (refine wpList_store_row rfl 86 _ _ rfl w4.heap.size R7 rfl rfl 86 _ F1.out i7 z7 o7 ?_) | (refine wpList_store_row rfl 37 _ _ rfl (w4.heap.size + 1) (Ms.msgC 1 2 1 A8 3 c8) rfl rfl 37 _ F2.out (by kernel_rfl) rfl (by simp [Ms.msgC, Value.oneCell']) ?_))
    clear F1 F2
    generalize ((((w4.alloc (.cells Try.zeroCells86 86)).alloc (.cells #[.int .i64 0, .int .i64 0, .int .i64 0, .slice none 0 0] 37)).setRow w4.heap.size R7).setRow (w4.heap.size + 1) (Ms.msgC 1 2 1 A8 3 c8)) = w4v at *
    have HB := Lib.hid (onward HB.out (Nat.le_refl _) BEL.out)
    have BP := Lib.hid (BP.out.below BEL.out BP.out.lt)
    have BQ := Lib.hid (BQ.out.below BEL.out BQ.out.lt)
    have BN5 := Lib.hid (BN5.out.below BEL.out BN5.out.lt)
    have BM5 := Lib.hid (BM5.out.below BEL.out BM5.out.lt)
    have H3 := Lib.hid ((H3.out.below BEL.out).more (BEL.out).size)
    have H4 := Lib.hid ((H4.out.below BEL.out).more (BEL.out).size)
    have H5 := Lib.hid ((H5.out.below BEL.out).more (BEL.out).size)
    have H6 := Lib.hid ((H6.out.below BEL.out).more (BEL.out).size)
    clear BEL
    refine wp_region_list ?_
    refine wpList_whole (by rfl) 86 _ rfl p rfl BP.out _ Try.underlying86 rfl i3 ?_
    try simp only [Act.put, List.setIfInBounds_toArray, List.set_cons_zero, List.set_cons_succ]
    refine wpList_whole (by rfl) 86 _ rfl w2.heap.size rfl BN5.out _ Try.underlying86 rfl i5 ?_
    try simp only [Act.put, List.setIfInBounds_toArray, List.set_cons_zero, List.set_cons_succ]
    refine wpList_wanted (by rfl) (fun K hK => ?_)
    go_simp
    go_at_call 66
    rw [← HR3.out, ← HR5.out]
    refine (sameNode_any g HG.out A3 A5 c3 c5 bs w4v.heap.size w4v (Nat.le_refl _) (by omega) H3.out H5.out).mono ?_
    rintro e w5 ⟨rfl, hb⟩
    rw [HR3.out, HR5.out]
    have HB := Lib.hid (onward HB.out (Nat.le_refl _) hb)
    have BQ := Lib.hid (BQ.out.below hb BQ.out.lt)
    have BM5 := Lib.hid (BM5.out.below hb BM5.out.lt)
    have BM7 := Lib.hid (BM7.out.below hb BM7.out.lt)
    have H4 := Lib.hid ((H4.out.below hb).more (hb).size)
    have H6 := Lib.hid ((H6.out.below hb).more (hb).size)
    clear hb BP BN5 H3 H5
    refine hK _ _ ?_
    clear hK K
    try simp only [Act.put, List.setIfInBounds_toArray, List.set_cons_zero, List.set_cons_succ]
    refine wpList_wanted (by rfl) (fun K hK => ?_)
    go_simp
    refine hK _ _ ?_
    clear hK K
    try simp only [Act.put, List.setIfInBounds_toArray, List.set_cons_zero, List.set_cons_succ]
    refine wpList_whole (by rfl) 37 _ rfl q rfl BQ.out _ Try.underlying37 rfl (by kernel_rfl) ?_
    try simp only [Act.put, List.setIfInBounds_toArray, List.set_cons_zero, List.set_cons_succ]
    refine wpList_whole (by rfl) 37 _ rfl (w2.heap.size + 1) rfl BM5.out _ Try.underlying37 rfl (by kernel_rfl) ?_
    try simp only [Act.put, List.setIfInBounds_toArray, List.set_cons_zero, List.set_cons_succ]
    refine wpList_wanted (by rfl) (fun K hK => ?_)
    go_simp
    go_at_call 42
    refine (sameMessage_any k i fr' A4 A6 c4 c6 zs w5.heap.size w5 (Nat.le_refl _) (by omega) H4.out H6.out).mono ?_
    rintro e w6 ⟨rfl, hb⟩
    have HB := Lib.hid (onward HB.out (Nat.le_refl _) hb)
    have BM7 := Lib.hid (BM7.out.below hb BM7.out.lt)
    clear hb H4 H6 BQ BM5
    have y1 := BM7.out.cell 1
    simp only [Ms.msgC, List.getElem?_toArray, List.getElem?_cons_zero, List.getElem?_cons_succ] at y1
    go_wp2_with fail
    go_ret
    exact ⟨rfl, HB.out⟩

set_option maxRecDepth 100000 in
set_option maxHeartbeats 1000000 in
theorem lifted (os : Os) (started : os.Started) (H : Type) (enc : TypeId × Value → H) :
    ReturnsInHanded {} Try.checked os 22 .any (Rows.nodeSensesSpec.pre6 enc Try.prog Try.f22 Rows.nodeSensesRow.domain false) (Rows.nodeSensesSpec.post enc Try.prog Try.f22 false true false false) := by
  refine returnsInHanded_of_change_sized (C := Try.checked) Fr.own started (by kernel_rfl) Try.func22
    (ChangeSpec.witness6 (enc := enc) (C := Try.checked) false ⟨#[], #[.agg Try.zeroCells86, .int .i64 0, .agg #[.int .i64 0, .int .i64 0, .int .i64 0]], []⟩ 8 (by kernel_rfl) (by kernel_rfl) (by kernel_rfl) (by kernel_rfl)) ?_
  intro W base args ds gs before hval0 hW _ hsz0 _
  have hval : ∀ (j : Nat) t v, Try.f22.params[j]? = some t → args[j]? = some v → Value.okWide Try.prog W .any base t v := hval0
  have hsz : (DataW.weightsEach Try.prog (Try.f22.params.toList ++ Rows.nodeSensesSpec.plain.varTypes Try.prog) (ds ++ gs)).all (· ≤ reachBytes) = true := hsz0
  clear hval0 hsz0
  obtain ⟨p, q, hA0, hV0, _⟩ := id hW
  have hA : DataW.TrodAll enc Try.prog W 0 (fun _ => true) true Try.f22.params.toList args.toList ds p := hA0
  rw [Try.params22] at hA hval hsz
  obtain ⟨v0, vs0, d0, ds0, p0, q0, hargs, rfl, rfl, h0, r0⟩ := trodAll_cons hA
  obtain ⟨v1, vs1, d1, ds1, p1, q1, rfl, rfl, rfl, h1, r1⟩ := trodAll_cons r0
  obtain ⟨v2, vs2, d2, ds2, p2, q2, rfl, rfl, rfl, h2, r2⟩ := trodAll_cons r1
  obtain ⟨rfl, rfl, rfl⟩ := trodAll_nil r2
  obtain rfl : args = #[v0, v1, v2] := by cases args; simp_all
  obtain ⟨rfl, rfl⟩ := trodVars_none hV0
  refine Fr.of_walk (f := Try.f22) Fr.laidOut (by rw [Try.params22]; intro t ht; simp at ht; (first | (rcases ht with rfl | rfl | rfl | rfl | rfl | rfl) | (rcases ht with rfl | rfl | rfl | rfl | rfl) | (rcases ht with rfl | rfl | rfl | rfl) | (rcases ht with rfl | rfl | rfl) | (rcases ht with rfl | rfl) | (subst ht)) <;> exact ⟨by kernel_rfl, of_decide_eq_true (by kernel_rfl)⟩) rfl rfl Try.underlying4 (fun _ => rfl) hW ?_
  clear hW hA hA0 hV0
  obtain ⟨f, A, c, bs, rfl, hf, hnc, hc, hA, hr⟩ := Op.openNode (hval 0 86 v0 rfl rfl) h0 (Op.light_of_each (j := 0) hsz rfl rfl)
  obtain ⟨fr, rfl, rfl, rfl, wf_fr⟩ := open_int Try.underlying3 (hval 1 3 v1 rfl rfl) h1
  have bd_fr := Op.wf_i64 wf_fr
  obtain ⟨cs2, rfl⟩ := Op.okWide_agg (t := 83) (by kernel_rfl) (hval 2 83 v2 rfl rfl)
  have k2 := Op.flat_arg (ls := [3,3,3]) (by kernel_rfl) h2 (Op.light_of_each (j := 2) hsz rfl rfl)
  obtain ⟨y2_0, l2, e2, f2_0, k2⟩ := k2.cons
  obtain ⟨y2_1, l2, rfl, f2_1, k2⟩ := k2.cons
  obtain ⟨y2_2, l2, rfl, f2_2, k2⟩ := k2.cons
  obtain rfl := k2.nil_
  obtain rfl := Op.arr_of e2
  obtain ⟨g0, rfl, wf_g0⟩ := f2_0.int Try.underlying3
  obtain ⟨g1, rfl, wf_g1⟩ := f2_1.int Try.underlying3
  obtain ⟨g2, rfl, wf_g2⟩ := f2_2.int Try.underlying3
  exact walk f hf A c bs fr g0 g1 g2 W hA hnc (by omega) hr

theorem closedFacts : joinedFacts Try.prog 22 Try.f22 Rows.nodeSensesSpec Rows.nodeSensesRow = true := by
  unfold joinedFacts
  simp only [Bool.and_eq_true]
  refine ⟨⟨⟨⟨⟨⟨⟨⟨⟨⟨⟨⟨⟨⟨⟨⟨⟨⟨⟨⟨⟨⟨⟨⟨⟨⟨⟨⟨⟨⟨⟨?_, ?_⟩, ?_⟩, ?_⟩, ?_⟩, ?_⟩, ?_⟩, ?_⟩, ?_⟩, ?_⟩, ?_⟩, ?_⟩, ?_⟩, ?_⟩, ?_⟩, ?_⟩, ?_⟩, ?_⟩, ?_⟩, ?_⟩, ?_⟩, ?_⟩, ?_⟩, ?_⟩, ?_⟩, ?_⟩, ?_⟩, ?_⟩, ?_⟩, ?_⟩, ?_⟩, ?_⟩
  · as_aux_lemma => kernel_rfl
  · exact Fr.laidOut
  · exact Facts.mapsRowed_
  · as_aux_lemma => kernel_rfl
  · as_aux_lemma => kernel_rfl
  · as_aux_lemma => kernel_rfl
  · exact Facts.stops_
  · as_aux_lemma => kernel_rfl
  · exact Facts.knobs_
  · as_aux_lemma => kernel_rfl
  · as_aux_lemma => kernel_rfl
  · as_aux_lemma => kernel_rfl
  · as_aux_lemma => kernel_rfl
  · as_aux_lemma => kernel_rfl
  · as_aux_lemma => kernel_rfl
  · as_aux_lemma => kernel_rfl
  · as_aux_lemma => kernel_rfl
  · as_aux_lemma => kernel_rfl
  · as_aux_lemma => kernel_rfl
  · as_aux_lemma => kernel_rfl
  · as_aux_lemma => kernel_rfl
  · as_aux_lemma => kernel_rfl
  · exact Facts.keys_
  · as_aux_lemma => kernel_rfl
  · exact Facts.heard_
  · exact Facts.enter_
  · exact Facts.lifts_
  · exact Facts.make_
  · as_aux_lemma => kernel_rfl
  · as_aux_lemma => kernel_rfl
  · as_aux_lemma => kernel_rfl
  · as_aux_lemma => kernel_rfl

theorem proved : Rows.NodeSensesSaid :=
  OpenClaim.holds_of_wide 22 Try.f22 rfl rfl rfl rfl rfl rfl rfl ⟨rfl, rfl, rfl, rfl, rfl⟩ rfl rfl rfl rfl rfl (by kernel_rfl) Try.func22 closedFacts
    (of_decide_eq_true (by kernel_rfl)) (by unfold Func.isWrapper; first | (rw [if_pos (by decide +kernel)]; kernel_rfl) | (rw [if_neg (by decide +kernel)]; exact ⟨rfl, rfl⟩))
    (fun os started H enc _ => lifted os started H enc)

end Go.Proofs.Ytfaielkkecphbaa.lawNodeSenses
