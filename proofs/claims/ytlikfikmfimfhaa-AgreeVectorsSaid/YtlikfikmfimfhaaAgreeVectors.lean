/- The law AgreeVectors returns true: agree.Vectors and the reference's Vectors answer one square for all values, bad nodes and lies. Conditions: none. -/
import Derived.Test.YtlikfikmfimfhaaFrame
import Derived.Test.YtlikfikmfimfhaaFacts
import Derived.Test.YtlikfikmfimfhaaRefVec
import Derived.Test.YtlikfikmfimfhaaFlat
namespace Go.Proofs.Ytlikfikmfimfhaa.lawAgreeVectors
open Go.ChangeShapes Go.WideShapes Go.ChangeAt Go.RowKit Go.Proofs.Ytlikfikmfimfhaa.Mem Go.Proofs.Ytlikfikmfimfhaa.Rws Go.Proofs.Ytlikfikmfimfhaa.Ints Go.Proofs.Ytlikfikmfimfhaa.BigW Go.Proofs.Ytlikfikmfimfhaa.Av Go.Proofs.Ytlikfikmfimfhaa.Flat
set_option linter.unusedVariables false
set_option linter.unusedSimpArgs false

theorem closed : (vecF (-1) (v4 5 5 5 5) (fun _ => 0) 4).1 0 3 = 5 := by decide
theorem typed16 (f : Nat → Int) : Typed [true, true, true, true, true, true, true, true, true, true, true, true, true, true, true, true] (rowF .i64 16 f).toList := by
  show Typed [true, true, true, true, true, true, true, true, true, true, true, true, true, true, true, true] ((List.range 16).map fun i => Value.int .i64 (f i))
  simp [List.range_succ, Typed]
theorem eql_same {op : Oper} {a : Act} {x y : Operand} {u : TypeId} {R : Array Value} (ho : op.op = .binOp .eql 24 x y u) (hx : a.eval x = .agg R) (hy : a.eval y = .agg R) (hs : R.size = 16) (ht : Typed [true, true, true, true, true, true, true, true, true, true, true, true, true, true, true, true] R.toList) (w : World) : (execOp a.eval op).run Try.prog w = .ok (.value (.bool true)) w := by
  unfold execOp
  have hq : Program.eqGuardType Try.prog (Program.depth Try.prog) 24 = false := by kernel_rfl
  have he : eqOK Try.prog 20 24 = some [true, true, true, true, true, true, true, true, true, true, true, true, true, true, true, true] := by kernel_rfl
  have hi : (Try.prog.info? 24).map (·.size) = some ([true, true, true, true, true, true, true, true, true, true, true, true, true, true, true, true] : List Bool).length := by kernel_rfl
  simp only [ho, hx, hy, Sem.run_bind, run_eqGuard_rows hq, run_eql_refl he (by omega) Try.underlying24 rfl hi R hs ht, Result.andThen_ok, Sem.run_pure]

set_option maxRecDepth 100000 in
set_option maxHeartbeats 4000000 in
theorem walk (a0 a1 a2 a3 bad : Int) (A : Option Addr) (c : Nat) (lies : List Int) (w : World) (hA : A = none → c = 0) (hnc : lies.length ≤ c) (hc : c * 8 ≤ 140737488351232) (hr : Rd w w.heap.size 1 A lies.length (intsV lies)) :
    Calls Try.prog 3 #[.agg #[.int .i64 a0, .int .i64 a1, .int .i64 a2, .int .i64 a3], .int .i64 bad, .slice A lies.length c] w fun e w' => e = .returned (.bool true) ∧ Below w.heap.size w w' := by
  have HA0 := Lib.hid hA
  clear hA
  have hi : (Try.prog.info? 24).map (·.size) = some (rowF .i64 16 fun q => (vecF bad (v4 a0 a1 a2 a3) (fun k => lies.getD k 0) 4).1 (q / 4) (q % 4)).size := by rw [Go.Proofs.Ytlikfikmfimfhaa.Mem.rowF_size]; kernel_rfl
  have hz : (#[.int .i64 0, .int .i64 0, .int .i64 0, .int .i64 0, .int .i64 0, .int .i64 0, .int .i64 0, .int .i64 0, .int .i64 0, .int .i64 0, .int .i64 0, .int .i64 0, .int .i64 0, .int .i64 0, .int .i64 0, .int .i64 0] : Array Value).size = (rowF .i64 16 fun q => (vecF bad (v4 a0 a1 a2 a3) (fun k => lies.getD k 0) 4).1 (q / 4) (q % 4)).size := by rw [Go.Proofs.Ytlikfikmfimfhaa.Mem.rowF_size]; rfl
  have hone := rowF_one .i64 16 fun q => (vecF bad (v4 a0 a1 a2 a3) (fun k => lies.getD k 0) 4).1 (q / 4) (q % 4)
  have hrs := Go.Proofs.Ytlikfikmfimfhaa.Mem.rowF_size .i64 16 fun q => (vecF bad (v4 a0 a1 a2 a3) (fun k => lies.getD k 0) 4).1 (q / 4) (q % 4)
  have hrt := typed16 fun q => (vecF bad (v4 a0 a1 a2 a3) (fun k => lies.getD k 0) 4).1 (q / 4) (q % 4)
  obtain ⟨R, hR⟩ : ∃ R, (rowF .i64 16 fun q => (vecF bad (v4 a0 a1 a2 a3) (fun k => lies.getD k 0) 4).1 (q / 4) (q % 4)) = R := ⟨_, rfl⟩
  have HRR := Lib.hid hR
  rw [hR] at hi hz hone hrs hrt
  clear hR
  go_enter Try.func3, Try.ntmps3
  go_upto_region 1 with fail
  have HV := Lib.hid (show Blk (w.alloc (.cells #[.int .i64 a0, .int .i64 a1, .int .i64 a2, .int .i64 a3] 22)) w.heap.size 22 #[.int .i64 a0, .int .i64 a1, .int .i64 a2, .int .i64 a3] from Blk.new rfl)
  have HB := Lib.hid ((Below.refl w.heap.size w).alloc (Nat.le_refl _) (.cells #[.int .i64 a0, .int .i64 a1, .int .i64 a2, .int .i64 a3] 22))
  have HRD := Lib.hid (hr.below HB.out)
  clear hr
  generalize (w.alloc (.cells #[.int .i64 a0, .int .i64 a1, .int .i64 a2, .int .i64 a3] 22)) = w1 at *
  go_cut [7] (fun v wx => ∃ gx, v = .pointer (some ⟨gx, 0, none⟩) ∧ w.heap.size < gx ∧ Blk wx gx 24 R ∧ Blk wx w.heap.size 22 #[.int .i64 a0, .int .i64 a1, .int .i64 a2, .int .i64 a3] ∧ Rd wx w.heap.size 1 A lies.length (intsV lies) ∧ Below w.heap.size w wx)
  case first =>
    have HV := Lib.hid HV.out.drew
    have HRD := Lib.hid HRD.out.drew
    have HB := Lib.hid HB.out.drew
    have HS := HV.out
    refine wp_region_noPanic ?_
    refine Rg.beginR [0] (fun w' => Blk w' w.heap.size 22 #[.int .i64 a0, .int .i64 a1, .int .i64 a2, .int .i64 a3]) (by kernel_rfl) ?_
    generalize w1.drew = w1' at *
    refine Rg.takeS (i := 0) (oi := { dst := some 9, op := Op.load 22 (Operand.tmp 3), type := 22, pos := "links.go:113", after := #[], guard := none }) (v := .agg #[.int .i64 a0, .int .i64 a1, .int .i64 a2, .int .i64 a3]) rfl (by kernel_rfl) (fun _ _ _ h => h) (by rfl) HS ?_ ?_
    · (intro w' hSw; exact exec_load_st 22 (.tmp 3) rfl w.heap.size rfl hSw Try.underlying22 rfl (by kernel_rfl))
    try simp only [Act.put, List.setIfInBounds_toArray, List.set_cons_zero, List.set_cons_succ]
    refine Rg.takeP (i := 1) (oi := { dst := some 10, op := Op.move (Operand.tmp 1), type := 3, pos := "links.go:113", after := #[], guard := none }) (v := ?_) rfl (by kernel_rfl) (fun _ _ _ h => h) (by rfl) ?_ ?_
    rotate_left 1
    · (intro w; go_simp; (try with_reducible rfl))
    try simp only [Act.put, List.setIfInBounds_toArray, List.set_cons_zero, List.set_cons_succ]
    refine Rg.takeP (i := 2) (oi := { dst := some 11, op := Op.move (Operand.tmp 2), type := 23, pos := "links.go:113", after := #[], guard := none }) (v := ?_) rfl (by kernel_rfl) (fun _ _ _ h => h) (by rfl) ?_ ?_
    rotate_left 1
    · (intro w; go_simp; (try with_reducible rfl))
    try simp only [Act.put, List.setIfInBounds_toArray, List.set_cons_zero, List.set_cons_succ]
    refine Rg.twoR (i := 3) (j := 5) (oi := { dst := some 12, op := Op.call { callee := Callee.builtin Builtin.append, args := #[Operand.const (Value.slice none 0 0), Operand.tmp 11], argTypes := #[23, 23] }, type := 23, pos := "links.go:113", after := #[{ on := 2, ground := Ground.data }], guard := none }) (oj := { dst := some 7, op := Op.alloc 24, type := 0, pos := "links.go:113", after := #[], guard := none }) (by kernel_rfl) rfl rfl ?_ ?_
    ·
      refine Rg.stepS ?_
      intro K hK
      rw [if_pos (by rfl)]
      refine wp_append_rd _ (.const (.slice none 0 0)) (.tmp 11) 23 rfl (base := w.heap.size) Go.Proofs.Ytlikfikmfimfhaa.Ints.elemInts rfl (World.ownsRow_nil _ _ _ _) rfl (fun h => ⟨by have := HA0.out h; omega, HA0.out h⟩) HRD.out (intsV_one lies) (by unfold maxLen; omega) (by omega) HB.out.size ?_
      intro A2 c2 w2 hA2 hown2 hg2
      rw [Nat.zero_add, List.nil_append] at hown2
      simp only [Nat.zero_add]
      have HR2 := Lib.hid (Rd.of_own hown2)
      have HV := Lib.hid (HV.out.grown hg2 (by intro e; cases e))
      have HRD := Lib.hid (HRD.out.grown hg2 HB.out.size (by intro g e; cases e))
      have HB := Lib.hid (HB.out.grown hg2 HB.out.size (by intro g e; cases e))
      clear hA2 hown2 hg2
      (try clear HS)
      have HS := HV.out
      (try simp only [])
      refine hK.out _ _ HS ?_
      clear hK K
      try simp only [Act.put, List.setIfInBounds_toArray, List.set_cons_zero, List.set_cons_succ]
      refine Rg.twoR (i := 4) (j := 5) (oi := { dst := some 13, op := Op.call { callee := Callee.value (Operand.func 9), args := #[Operand.tmp 9, Operand.tmp 10, Operand.tmp 12], argTypes := #[22, 3, 23] }, type := 24, pos := "links.go:113", after := #[{ on := 0, ground := Ground.data }, { on := 1, ground := Ground.data }, { on := 3, ground := Ground.data }, { on := 3, ground := Ground.chain }], guard := none }) (oj := { dst := some 7, op := Op.alloc 24, type := 0, pos := "links.go:113", after := #[], guard := none }) (by kernel_rfl) rfl rfl ?_ ?_
      ·
        refine Rg.stepF ?_ ?_
        · kernel_rfl
        intro K hK
        rw [if_pos (by rfl)]
        go_simp
        go_at_call 9
        refine (vectors_any a0 a1 a2 a3 bad A2 c2 lies _ _ (Nat.le_refl _) HR2.out (by omega) (fun k => lies.getD k 0) (fun _ => rfl)).mono ?_
        rintro e w3 ⟨rfl, hb⟩
        rw [HRR.out]
        have HV := Lib.hid (HV.out.below hb HV.out.lt)
        have HRD := Lib.hid (HRD.out.below (hb.mono HB.out.size))
        have HB := Lib.hid (onward HB.out (Nat.le_refl _) hb)
        clear hb
        (try clear HS)
        have HS := HV.out
        go_wp2_with fail
        refine hK.out _ _ ?_
        clear hK K
        try simp only [Act.put, List.setIfInBounds_toArray, List.set_cons_zero, List.set_cons_succ]
        refine Rg.oneR (i := 5) (oi := { dst := some 7, op := Op.alloc 24, type := 0, pos := "links.go:113", after := #[], guard := none }) rfl (by kernel_rfl) ?_
        refine Rg.stepS ?_
        intro K hK
        go_simp
        have HX := Lib.hid (show Blk (w3.alloc (.cells #[.int .i64 0, .int .i64 0, .int .i64 0, .int .i64 0, .int .i64 0, .int .i64 0, .int .i64 0, .int .i64 0, .int .i64 0, .int .i64 0, .int .i64 0, .int .i64 0, .int .i64 0, .int .i64 0, .int .i64 0, .int .i64 0] 24)) w3.heap.size 24 #[.int .i64 0, .int .i64 0, .int .i64 0, .int .i64 0, .int .i64 0, .int .i64 0, .int .i64 0, .int .i64 0, .int .i64 0, .int .i64 0, .int .i64 0, .int .i64 0, .int .i64 0, .int .i64 0, .int .i64 0, .int .i64 0] from Blk.fresh _ _ _)
        have lX := HV.out.lt
        have HV := Lib.hid (HV.out.alloc (.cells #[.int .i64 0, .int .i64 0, .int .i64 0, .int .i64 0, .int .i64 0, .int .i64 0, .int .i64 0, .int .i64 0, .int .i64 0, .int .i64 0, .int .i64 0, .int .i64 0, .int .i64 0, .int .i64 0, .int .i64 0, .int .i64 0] 24))
        have HRD := Lib.hid (HRD.out.below ((Below.refl _ w3).alloc HB.out.size (.cells #[.int .i64 0, .int .i64 0, .int .i64 0, .int .i64 0, .int .i64 0, .int .i64 0, .int .i64 0, .int .i64 0, .int .i64 0, .int .i64 0, .int .i64 0, .int .i64 0, .int .i64 0, .int .i64 0, .int .i64 0, .int .i64 0] 24)))
        have HB := Lib.hid (HB.out.alloc HB.out.size (.cells #[.int .i64 0, .int .i64 0, .int .i64 0, .int .i64 0, .int .i64 0, .int .i64 0, .int .i64 0, .int .i64 0, .int .i64 0, .int .i64 0, .int .i64 0, .int .i64 0, .int .i64 0, .int .i64 0, .int .i64 0, .int .i64 0] 24))
        obtain ⟨gx, hgx⟩ : ∃ g, w3.heap.size = g := ⟨_, rfl⟩
        rw [hgx] at HX lX ⊢
        clear hgx
        generalize (w3.alloc (.cells #[.int .i64 0, .int .i64 0, .int .i64 0, .int .i64 0, .int .i64 0, .int .i64 0, .int .i64 0, .int .i64 0, .int .i64 0, .int .i64 0, .int .i64 0, .int .i64 0, .int .i64 0, .int .i64 0, .int .i64 0, .int .i64 0] 24)) = w3 at *
        (try clear HS)
        have HS := HV.out
        refine hK.out _ _ HS ?_
        clear hK K
        try simp only [Act.put, List.setIfInBounds_toArray, List.set_cons_zero, List.set_cons_succ]
        refine Rg.oneR (i := 6) (oi := { dst := none, op := Op.store 24 (Operand.tmp 7) (Operand.tmp 13), type := 0, pos := "links.go:113", after := #[{ on := 5, ground := Ground.data }, { on := 4, ground := Ground.data }, { on := 4, ground := Ground.chain }, { on := 0, ground := Ground.phase }, { on := 1, ground := Ground.phase }, { on := 2, ground := Ground.phase }, { on := 3, ground := Ground.phase }, { on := 4, ground := Ground.phase }, { on := 5, ground := Ground.phase }], guard := none }) rfl (by kernel_rfl) ?_
        refine Rg.stepF ?_ ?_
        · kernel_rfl
        intro K hK
        rw [if_pos (by rfl)]
        refine wp_store_row 24 _ _ rfl gx R rfl rfl 24 _ HX.out hi hz hone ?_
        refine hK.out _ _ ?_
        clear hK K
        try simp only [Act.put, List.setIfInBounds_toArray, List.set_cons_zero, List.set_cons_succ]
        refine Rg.doneR (by kernel_rfl) ?_ _
        refine NoPanic.normal ?_
        clear HS
        have HX := Lib.hid (HX.out.setRow R)
        have HV := Lib.hid (HV.out.setRow_other (g' := gx) (by omega) R)
        have HB' := below_setRow (B := w.heap.size) (Below.refl _ w3) (show w.heap.size ≤ gx by omega) R
        have HRD := Lib.hid (HRD.out.below HB')
        have HB := Lib.hid (below_setRow HB.out (show w.heap.size ≤ gx by omega) R)
        go_wp2_with fail
        go_meet
        exact ⟨gx, rfl, lX, HX.out, HV.out, HRD.out, HB.out⟩
      ·
        refine Rg.stepS ?_
        intro K hK
        go_simp
        have HX := Lib.hid (show Blk (w2.alloc (.cells #[.int .i64 0, .int .i64 0, .int .i64 0, .int .i64 0, .int .i64 0, .int .i64 0, .int .i64 0, .int .i64 0, .int .i64 0, .int .i64 0, .int .i64 0, .int .i64 0, .int .i64 0, .int .i64 0, .int .i64 0, .int .i64 0] 24)) w2.heap.size 24 #[.int .i64 0, .int .i64 0, .int .i64 0, .int .i64 0, .int .i64 0, .int .i64 0, .int .i64 0, .int .i64 0, .int .i64 0, .int .i64 0, .int .i64 0, .int .i64 0, .int .i64 0, .int .i64 0, .int .i64 0, .int .i64 0] from Blk.fresh _ _ _)
        have lX := HV.out.lt
        have HV := Lib.hid (HV.out.alloc (.cells #[.int .i64 0, .int .i64 0, .int .i64 0, .int .i64 0, .int .i64 0, .int .i64 0, .int .i64 0, .int .i64 0, .int .i64 0, .int .i64 0, .int .i64 0, .int .i64 0, .int .i64 0, .int .i64 0, .int .i64 0, .int .i64 0] 24))
        have HRD := Lib.hid (HRD.out.below ((Below.refl _ w2).alloc HB.out.size (.cells #[.int .i64 0, .int .i64 0, .int .i64 0, .int .i64 0, .int .i64 0, .int .i64 0, .int .i64 0, .int .i64 0, .int .i64 0, .int .i64 0, .int .i64 0, .int .i64 0, .int .i64 0, .int .i64 0, .int .i64 0, .int .i64 0] 24)))
        have HR2 := Lib.hid ((HR2.out.below ((Below.refl _ _).alloc (Nat.le_refl _) (.cells #[.int .i64 0, .int .i64 0, .int .i64 0, .int .i64 0, .int .i64 0, .int .i64 0, .int .i64 0, .int .i64 0, .int .i64 0, .int .i64 0, .int .i64 0, .int .i64 0, .int .i64 0, .int .i64 0, .int .i64 0, .int .i64 0] 24))).more (show w2.heap.size ≤ (w2.alloc (.cells #[.int .i64 0, .int .i64 0, .int .i64 0, .int .i64 0, .int .i64 0, .int .i64 0, .int .i64 0, .int .i64 0, .int .i64 0, .int .i64 0, .int .i64 0, .int .i64 0, .int .i64 0, .int .i64 0, .int .i64 0, .int .i64 0] 24)).heap.size from by simp))
        have HB := Lib.hid (HB.out.alloc HB.out.size (.cells #[.int .i64 0, .int .i64 0, .int .i64 0, .int .i64 0, .int .i64 0, .int .i64 0, .int .i64 0, .int .i64 0, .int .i64 0, .int .i64 0, .int .i64 0, .int .i64 0, .int .i64 0, .int .i64 0, .int .i64 0, .int .i64 0] 24))
        obtain ⟨gx, hgx⟩ : ∃ g, w2.heap.size = g := ⟨_, rfl⟩
        rw [hgx] at HX lX ⊢
        clear hgx
        generalize (w2.alloc (.cells #[.int .i64 0, .int .i64 0, .int .i64 0, .int .i64 0, .int .i64 0, .int .i64 0, .int .i64 0, .int .i64 0, .int .i64 0, .int .i64 0, .int .i64 0, .int .i64 0, .int .i64 0, .int .i64 0, .int .i64 0, .int .i64 0] 24)) = w2 at *
        (try clear HS)
        have HS := HV.out
        refine hK.out _ _ HS ?_
        clear hK K
        try simp only [Act.put, List.setIfInBounds_toArray, List.set_cons_zero, List.set_cons_succ]
        refine Rg.oneR (i := 4) (oi := { dst := some 13, op := Op.call { callee := Callee.value (Operand.func 9), args := #[Operand.tmp 9, Operand.tmp 10, Operand.tmp 12], argTypes := #[22, 3, 23] }, type := 24, pos := "links.go:113", after := #[{ on := 0, ground := Ground.data }, { on := 1, ground := Ground.data }, { on := 3, ground := Ground.data }, { on := 3, ground := Ground.chain }], guard := none }) rfl (by kernel_rfl) ?_
        refine Rg.stepF ?_ ?_
        · kernel_rfl
        intro K hK
        rw [if_pos (by rfl)]
        go_simp
        go_at_call 9
        refine (vectors_any a0 a1 a2 a3 bad A2 c2 lies _ _ (Nat.le_refl _) HR2.out (by omega) (fun k => lies.getD k 0) (fun _ => rfl)).mono ?_
        rintro e w3 ⟨rfl, hb⟩
        rw [HRR.out]
        have HV := Lib.hid (HV.out.below hb HV.out.lt)
        have HX := Lib.hid (HX.out.below hb HX.out.lt)
        have HRD := Lib.hid (HRD.out.below (hb.mono HB.out.size))
        have HB := Lib.hid (onward HB.out (Nat.le_refl _) hb)
        clear hb
        (try clear HS)
        have HS := HV.out
        go_wp2_with fail
        refine hK.out _ _ ?_
        clear hK K
        try simp only [Act.put, List.setIfInBounds_toArray, List.set_cons_zero, List.set_cons_succ]
        refine Rg.oneR (i := 6) (oi := { dst := none, op := Op.store 24 (Operand.tmp 7) (Operand.tmp 13), type := 0, pos := "links.go:113", after := #[{ on := 5, ground := Ground.data }, { on := 4, ground := Ground.data }, { on := 4, ground := Ground.chain }, { on := 0, ground := Ground.phase }, { on := 1, ground := Ground.phase }, { on := 2, ground := Ground.phase }, { on := 3, ground := Ground.phase }, { on := 4, ground := Ground.phase }, { on := 5, ground := Ground.phase }], guard := none }) rfl (by kernel_rfl) ?_
        refine Rg.stepF ?_ ?_
        · kernel_rfl
        intro K hK
        rw [if_pos (by rfl)]
        refine wp_store_row 24 _ _ rfl gx R rfl rfl 24 _ HX.out hi hz hone ?_
        refine hK.out _ _ ?_
        clear hK K
        try simp only [Act.put, List.setIfInBounds_toArray, List.set_cons_zero, List.set_cons_succ]
        refine Rg.doneR (by kernel_rfl) ?_ _
        refine NoPanic.normal ?_
        clear HS
        have HX := Lib.hid (HX.out.setRow R)
        have HV := Lib.hid (HV.out.setRow_other (g' := gx) (by omega) R)
        have HB' := below_setRow (B := w.heap.size) (Below.refl _ w3) (show w.heap.size ≤ gx by omega) R
        have HRD := Lib.hid (HRD.out.below HB')
        have HB := Lib.hid (below_setRow HB.out (show w.heap.size ≤ gx by omega) R)
        go_wp2_with fail
        go_meet
        exact ⟨gx, rfl, lX, HX.out, HV.out, HRD.out, HB.out⟩
    ·
      refine Rg.stepS ?_
      intro K hK
      go_simp
      have HX := Lib.hid (show Blk (w1'.alloc (.cells #[.int .i64 0, .int .i64 0, .int .i64 0, .int .i64 0, .int .i64 0, .int .i64 0, .int .i64 0, .int .i64 0, .int .i64 0, .int .i64 0, .int .i64 0, .int .i64 0, .int .i64 0, .int .i64 0, .int .i64 0, .int .i64 0] 24)) w1'.heap.size 24 #[.int .i64 0, .int .i64 0, .int .i64 0, .int .i64 0, .int .i64 0, .int .i64 0, .int .i64 0, .int .i64 0, .int .i64 0, .int .i64 0, .int .i64 0, .int .i64 0, .int .i64 0, .int .i64 0, .int .i64 0, .int .i64 0] from Blk.fresh _ _ _)
      have lX := HV.out.lt
      have HV := Lib.hid (HV.out.alloc (.cells #[.int .i64 0, .int .i64 0, .int .i64 0, .int .i64 0, .int .i64 0, .int .i64 0, .int .i64 0, .int .i64 0, .int .i64 0, .int .i64 0, .int .i64 0, .int .i64 0, .int .i64 0, .int .i64 0, .int .i64 0, .int .i64 0] 24))
      have HRD := Lib.hid (HRD.out.below ((Below.refl _ w1').alloc HB.out.size (.cells #[.int .i64 0, .int .i64 0, .int .i64 0, .int .i64 0, .int .i64 0, .int .i64 0, .int .i64 0, .int .i64 0, .int .i64 0, .int .i64 0, .int .i64 0, .int .i64 0, .int .i64 0, .int .i64 0, .int .i64 0, .int .i64 0] 24)))
      have HB := Lib.hid (HB.out.alloc HB.out.size (.cells #[.int .i64 0, .int .i64 0, .int .i64 0, .int .i64 0, .int .i64 0, .int .i64 0, .int .i64 0, .int .i64 0, .int .i64 0, .int .i64 0, .int .i64 0, .int .i64 0, .int .i64 0, .int .i64 0, .int .i64 0, .int .i64 0] 24))
      obtain ⟨gx, hgx⟩ : ∃ g, w1'.heap.size = g := ⟨_, rfl⟩
      rw [hgx] at HX lX ⊢
      clear hgx
      generalize (w1'.alloc (.cells #[.int .i64 0, .int .i64 0, .int .i64 0, .int .i64 0, .int .i64 0, .int .i64 0, .int .i64 0, .int .i64 0, .int .i64 0, .int .i64 0, .int .i64 0, .int .i64 0, .int .i64 0, .int .i64 0, .int .i64 0, .int .i64 0] 24)) = w1' at *
      (try clear HS)
      have HS := HV.out
      refine hK.out _ _ HS ?_
      clear hK K
      try simp only [Act.put, List.setIfInBounds_toArray, List.set_cons_zero, List.set_cons_succ]
      refine Rg.oneR (i := 3) (oi := { dst := some 12, op := Op.call { callee := Callee.builtin Builtin.append, args := #[Operand.const (Value.slice none 0 0), Operand.tmp 11], argTypes := #[23, 23] }, type := 23, pos := "links.go:113", after := #[{ on := 2, ground := Ground.data }], guard := none }) rfl (by kernel_rfl) ?_
      refine Rg.stepS ?_
      intro K hK
      rw [if_pos (by rfl)]
      refine wp_append_rd _ (.const (.slice none 0 0)) (.tmp 11) 23 rfl (base := w.heap.size) Go.Proofs.Ytlikfikmfimfhaa.Ints.elemInts rfl (World.ownsRow_nil _ _ _ _) rfl (fun h => ⟨by have := HA0.out h; omega, HA0.out h⟩) HRD.out (intsV_one lies) (by unfold maxLen; omega) (by omega) HB.out.size ?_
      intro A2 c2 w2 hA2 hown2 hg2
      rw [Nat.zero_add, List.nil_append] at hown2
      simp only [Nat.zero_add]
      have HR2 := Lib.hid (Rd.of_own hown2)
      have HV := Lib.hid (HV.out.grown hg2 (by intro e; cases e))
      have HX := Lib.hid (HX.out.grown hg2 (by intro e; cases e))
      have HRD := Lib.hid (HRD.out.grown hg2 HB.out.size (by intro g e; cases e))
      have HB := Lib.hid (HB.out.grown hg2 HB.out.size (by intro g e; cases e))
      clear hA2 hown2 hg2
      (try clear HS)
      have HS := HV.out
      (try simp only [])
      refine hK.out _ _ HS ?_
      clear hK K
      try simp only [Act.put, List.setIfInBounds_toArray, List.set_cons_zero, List.set_cons_succ]
      refine Rg.oneR (i := 4) (oi := { dst := some 13, op := Op.call { callee := Callee.value (Operand.func 9), args := #[Operand.tmp 9, Operand.tmp 10, Operand.tmp 12], argTypes := #[22, 3, 23] }, type := 24, pos := "links.go:113", after := #[{ on := 0, ground := Ground.data }, { on := 1, ground := Ground.data }, { on := 3, ground := Ground.data }, { on := 3, ground := Ground.chain }], guard := none }) rfl (by kernel_rfl) ?_
      refine Rg.stepF ?_ ?_
      · kernel_rfl
      intro K hK
      rw [if_pos (by rfl)]
      go_simp
      go_at_call 9
      refine (vectors_any a0 a1 a2 a3 bad A2 c2 lies _ _ (Nat.le_refl _) HR2.out (by omega) (fun k => lies.getD k 0) (fun _ => rfl)).mono ?_
      rintro e w3 ⟨rfl, hb⟩
      rw [HRR.out]
      have HV := Lib.hid (HV.out.below hb HV.out.lt)
      have HX := Lib.hid (HX.out.below hb HX.out.lt)
      have HRD := Lib.hid (HRD.out.below (hb.mono HB.out.size))
      have HB := Lib.hid (onward HB.out (Nat.le_refl _) hb)
      clear hb
      (try clear HS)
      have HS := HV.out
      go_wp2_with fail
      refine hK.out _ _ ?_
      clear hK K
      try simp only [Act.put, List.setIfInBounds_toArray, List.set_cons_zero, List.set_cons_succ]
      refine Rg.oneR (i := 6) (oi := { dst := none, op := Op.store 24 (Operand.tmp 7) (Operand.tmp 13), type := 0, pos := "links.go:113", after := #[{ on := 5, ground := Ground.data }, { on := 4, ground := Ground.data }, { on := 4, ground := Ground.chain }, { on := 0, ground := Ground.phase }, { on := 1, ground := Ground.phase }, { on := 2, ground := Ground.phase }, { on := 3, ground := Ground.phase }, { on := 4, ground := Ground.phase }, { on := 5, ground := Ground.phase }], guard := none }) rfl (by kernel_rfl) ?_
      refine Rg.stepF ?_ ?_
      · kernel_rfl
      intro K hK
      rw [if_pos (by rfl)]
      refine wp_store_row 24 _ _ rfl gx R rfl rfl 24 _ HX.out hi hz hone ?_
      refine hK.out _ _ ?_
      clear hK K
      try simp only [Act.put, List.setIfInBounds_toArray, List.set_cons_zero, List.set_cons_succ]
      refine Rg.doneR (by kernel_rfl) ?_ _
      refine NoPanic.normal ?_
      clear HS
      have HX := Lib.hid (HX.out.setRow R)
      have HV := Lib.hid (HV.out.setRow_other (g' := gx) (by omega) R)
      have HB' := below_setRow (B := w.heap.size) (Below.refl _ w3) (show w.heap.size ≤ gx by omega) R
      have HRD := Lib.hid (HRD.out.below HB')
      have HB := Lib.hid (below_setRow HB.out (show w.heap.size ≤ gx by omega) R)
      go_wp2_with fail
      go_meet
      exact ⟨gx, rfl, lX, HX.out, HV.out, HRD.out, HB.out⟩
  case rest =>
    obtain ⟨gx, rfl, lX, hx, hv, hrd, hb⟩ := hcut
    have HX := Lib.hid hx
    have HV := Lib.hid hv
    have HRD := Lib.hid hrd
    have HB := Lib.hid hb
    clear hx hv hrd hb
    go_wp2_with fail
    refine (vectors_any 5 5 5 5 (-1) none 0 [] wc.heap.size wc (Nat.le_refl _) ⟨rfl, fun h => absurd h (by simp)⟩ (by simp) (fun _ => 0) (fun k => by simp)).mono ?_
    rintro e w2 ⟨rfl, hb⟩
    have hi5 : (Try.prog.info? 24).map (·.size) = some (rowF .i64 16 fun q => (vecF (-1) (v4 5 5 5 5) (fun _ => 0) 4).1 (q / 4) (q % 4)).size := by rw [Go.Proofs.Ytlikfikmfimfhaa.Mem.rowF_size]; kernel_rfl
    have hz5 : (#[.int .i64 0, .int .i64 0, .int .i64 0, .int .i64 0, .int .i64 0, .int .i64 0, .int .i64 0, .int .i64 0, .int .i64 0, .int .i64 0, .int .i64 0, .int .i64 0, .int .i64 0, .int .i64 0, .int .i64 0, .int .i64 0] : Array Value).size = (rowF .i64 16 fun q => (vecF (-1) (v4 5 5 5 5) (fun _ => 0) 4).1 (q / 4) (q % 4)).size := by rw [Go.Proofs.Ytlikfikmfimfhaa.Mem.rowF_size]; rfl
    have h15 := rowF_one .i64 16 fun q => (vecF (-1) (v4 5 5 5 5) (fun _ => 0) 4).1 (q / 4) (q % 4)
    have H53 := Lib.hid (show (rowF .i64 16 fun q => (vecF (-1) (v4 5 5 5 5) (fun _ => 0) 4).1 (q / 4) (q % 4))[3]? = some (.int .i64 5) from by rw [rowF_at _ _ _ _ (by omega)]; exact congrArg (fun x => some (Value.int .i64 x)) closed)
    generalize (rowF .i64 16 fun q => (vecF (-1) (v4 5 5 5 5) (fun _ => 0) 4).1 (q / 4) (q % 4)) = R5 at *
    have HX := Lib.hid (HX.out.below hb HX.out.lt)
    have HV := Lib.hid (HV.out.below hb HV.out.lt)
    have HRD := Lib.hid (HRD.out.below (hb.mono HB.out.size))
    have HB := Lib.hid (onward HB.out (Nat.le_refl _) hb)
    clear hb
    have F5 := Lib.hid (show Blk (w2.alloc (.cells #[.int .i64 0, .int .i64 0, .int .i64 0, .int .i64 0, .int .i64 0, .int .i64 0, .int .i64 0, .int .i64 0, .int .i64 0, .int .i64 0, .int .i64 0, .int .i64 0, .int .i64 0, .int .i64 0, .int .i64 0, .int .i64 0] 24)) w2.heap.size 24 #[.int .i64 0, .int .i64 0, .int .i64 0, .int .i64 0, .int .i64 0, .int .i64 0, .int .i64 0, .int .i64 0, .int .i64 0, .int .i64 0, .int .i64 0, .int .i64 0, .int .i64 0, .int .i64 0, .int .i64 0, .int .i64 0] from Blk.fresh _ _ _)
    have l5 : gx < w2.heap.size := HX.out.lt
    have H5 := Lib.hid (F5.out.setRow R5)
    have HX := Lib.hid ((HX.out.alloc (.cells #[.int .i64 0, .int .i64 0, .int .i64 0, .int .i64 0, .int .i64 0, .int .i64 0, .int .i64 0, .int .i64 0, .int .i64 0, .int .i64 0, .int .i64 0, .int .i64 0, .int .i64 0, .int .i64 0, .int .i64 0, .int .i64 0] 24)).setRow_other (g' := w2.heap.size) (by omega) R5)
    have HV := Lib.hid ((HV.out.alloc (.cells #[.int .i64 0, .int .i64 0, .int .i64 0, .int .i64 0, .int .i64 0, .int .i64 0, .int .i64 0, .int .i64 0, .int .i64 0, .int .i64 0, .int .i64 0, .int .i64 0, .int .i64 0, .int .i64 0, .int .i64 0, .int .i64 0] 24)).setRow_other (g' := w2.heap.size) (by omega) R5)
    have HB5 := Lib.hid (below_setRow (B := w.heap.size) ((Below.refl _ w2).alloc HB.out.size (.cells #[.int .i64 0, .int .i64 0, .int .i64 0, .int .i64 0, .int .i64 0, .int .i64 0, .int .i64 0, .int .i64 0, .int .i64 0, .int .i64 0, .int .i64 0, .int .i64 0, .int .i64 0, .int .i64 0, .int .i64 0, .int .i64 0] 24)) (show w.heap.size ≤ w2.heap.size by omega) R5)
    have HRD := Lib.hid (HRD.out.below HB5.out)
    have HB := Lib.hid (HB.out.trans HB5.out)
    go_upto_region 3 with (refine wpList_store_row rfl 24 _ _ rfl w2.heap.size R5 rfl rfl 24 _ F5.out hi5 hz5 h15 ?_)
    clear F5 HB5 hi5 hz5 h15
    generalize ((w2.alloc (.cells #[.int .i64 0, .int .i64 0, .int .i64 0, .int .i64 0, .int .i64 0, .int .i64 0, .int .i64 0, .int .i64 0, .int .i64 0, .int .i64 0, .int .i64 0, .int .i64 0, .int .i64 0, .int .i64 0, .int .i64 0, .int .i64 0] 24)).setRow w2.heap.size R5) = w2' at *
    generalize w2.heap.size = g5 at *
    have HX := Lib.hid HX.out.drew
    have HV := Lib.hid HV.out.drew
    have H5 := Lib.hid H5.out.drew
    have HRD := Lib.hid HRD.out.drew
    have HB := Lib.hid HB.out.drew
    have HS := And.intro HX.out (And.intro HV.out ((H5.out.cell 3).trans H53.out))
    refine wp_region_noPanic ?_
    refine Rg.beginR [0, 1, 5, 9] (fun w' => Blk w' gx 24 R ∧ Blk w' w.heap.size 22 #[.int .i64 a0, .int .i64 a1, .int .i64 a2, .int .i64 a3] ∧ w'.cell? ⟨g5, 3, none⟩ = some (.int .i64 5)) (by kernel_rfl) ?_
    generalize w2'.drew = w3' at *
    refine Rg.takeS (i := 0) (oi := { dst := some 16, op := Op.load 24 (Operand.tmp 7), type := 24, pos := "links.go:115", after := #[], guard := none }) (v := .agg R) rfl (by kernel_rfl) (fun _ _ _ h => h) (by rfl) HS ?_ ?_
    · (intro w' hSw; exact exec_load_st 24 (.tmp 7) rfl gx rfl hSw.1 Try.underlying24 rfl hi)
    try simp only [Act.put, List.setIfInBounds_toArray, List.set_cons_zero, List.set_cons_succ]
    refine Rg.takeS (i := 1) (oi := { dst := some 17, op := Op.load 22 (Operand.tmp 3), type := 22, pos := "links.go:115", after := #[], guard := none }) (v := .agg #[.int .i64 a0, .int .i64 a1, .int .i64 a2, .int .i64 a3]) rfl (by kernel_rfl) (fun _ _ _ h => h) (by rfl) HS ?_ ?_
    · (intro w' hSw; exact exec_load_st 22 (.tmp 3) rfl w.heap.size rfl hSw.2.1 Try.underlying22 rfl (by kernel_rfl))
    try simp only [Act.put, List.setIfInBounds_toArray, List.set_cons_zero, List.set_cons_succ]
    refine Rg.takeP (i := 2) (oi := { dst := some 18, op := Op.move (Operand.tmp 1), type := 3, pos := "links.go:115", after := #[], guard := none }) (v := ?_) rfl (by kernel_rfl) (fun _ _ _ h => h) (by rfl) ?_ ?_
    rotate_left 1
    · (intro w; go_simp; (try with_reducible rfl))
    try simp only [Act.put, List.setIfInBounds_toArray, List.set_cons_zero, List.set_cons_succ]
    refine Rg.takeP (i := 3) (oi := { dst := some 19, op := Op.move (Operand.tmp 2), type := 23, pos := "links.go:115", after := #[], guard := none }) (v := ?_) rfl (by kernel_rfl) (fun _ _ _ h => h) (by rfl) ?_ ?_
    rotate_left 1
    · (intro w; go_simp; (try with_reducible rfl))
    try simp only [Act.put, List.setIfInBounds_toArray, List.set_cons_zero, List.set_cons_succ]
    refine Rg.oneR (i := 4) (oi := { dst := some 20, op := Op.call { callee := Callee.value (Operand.func 10), args := #[Operand.tmp 17, Operand.tmp 18, Operand.tmp 19], argTypes := #[22, 3, 23] }, type := 24, pos := "links.go:115", after := #[{ on := 1, ground := Ground.data }, { on := 2, ground := Ground.data }, { on := 3, ground := Ground.data }], guard := none }) rfl (by kernel_rfl) ?_
    refine Rg.stepS ?_
    intro K hK
    rw [if_pos (by rfl)]
    go_simp
    go_at_call 10
    refine (refvectors_any a0 a1 a2 a3 bad A c lies w.heap.size w3' HB.out.size HRD.out (by omega) (fun k => lies.getD k 0) (fun _ => rfl)).mono ?_
    rintro e w4' ⟨rfl, hb⟩
    rw [HRR.out]
    have HX := Lib.hid (HX.out.below hb HX.out.lt)
    have HV := Lib.hid (HV.out.below hb HV.out.lt)
    have H5 := Lib.hid (H5.out.below hb H5.out.lt)
    have HB := Lib.hid (onward HB.out (Nat.le_refl _) hb)
    clear hb HS
    have HS := And.intro HX.out (And.intro HV.out ((H5.out.cell 3).trans H53.out))
    go_wp2_with fail
    refine hK.out _ _ HS ?_
    clear hK K
    try simp only [Act.put, List.setIfInBounds_toArray, List.set_cons_zero, List.set_cons_succ]
    refine Rg.takeS (i := 5) (oi := { dst := some 21, op := Op.binOp BinOp.eql 24 (Operand.tmp 16) (Operand.tmp 20) 24, type := 4, pos := "links.go:115", after := #[{ on := 0, ground := Ground.data }, { on := 4, ground := Ground.data }], guard := none }) (v := .bool true) rfl (by kernel_rfl) (fun _ _ _ h => h) (by rfl) HS ?_ ?_
    · (intro w' hSw; exact eql_same rfl rfl rfl hrs hrt w')
    try simp only [Act.put, List.setIfInBounds_toArray, List.set_cons_zero, List.set_cons_succ]
    refine Rg.takeP (i := 6) (oi := { dst := some 22, op := Op.move (Operand.tmp 21), type := 4, pos := "links.go:115", after := #[{ on := 5, ground := Ground.data }, { on := 4, ground := Ground.chain }], guard := none }) (v := ?_) rfl (by kernel_rfl) (fun _ _ _ h => h) (by rfl) ?_ ?_
    rotate_left 1
    · (intro w; go_simp; (try with_reducible rfl))
    try simp only [Act.put, List.setIfInBounds_toArray, List.set_cons_zero, List.set_cons_succ]
    refine Rg.takeP (i := 7) (oi := { dst := some 23, op := Op.indexAddr 24 (Operand.tmp 8) (Operand.const (Value.int IntKind.i64 0)), type := 0, pos := "links.go:115", after := #[{ on := 6, ground := Ground.guard }], guard := some (6, true) }) (v := ?_) rfl (by kernel_rfl) (fun _ _ _ h => h) (by rfl) ?_ ?_
    rotate_left 1
    · (intro w; go_simp; (try with_reducible rfl))
    try simp only [Act.put, List.setIfInBounds_toArray, List.set_cons_zero, List.set_cons_succ]
    refine Rg.takeP (i := 8) (oi := { dst := some 24, op := Op.indexAddr 22 (Operand.tmp 23) (Operand.const (Value.int IntKind.i64 3)), type := 0, pos := "links.go:115", after := #[{ on := 7, ground := Ground.data }, { on := 6, ground := Ground.guard }], guard := some (6, true) }) (v := ?_) rfl (by kernel_rfl) (fun _ _ _ h => h) (by rfl) ?_ ?_
    rotate_left 1
    · (intro w; go_simp; (try with_reducible rfl))
    try simp only [Act.put, List.setIfInBounds_toArray, List.set_cons_zero, List.set_cons_succ]
    refine Rg.takeS (i := 9) (oi := { dst := some 25, op := Op.load 3 (Operand.tmp 24), type := 3, pos := "links.go:115", after := #[{ on := 8, ground := Ground.data }, { on := 6, ground := Ground.guard }], guard := some (6, true) }) (v := .int .i64 5) rfl (by kernel_rfl) (fun _ _ _ h => h) (by rfl) HS ?_ ?_
    · (intro w' hSw; have y := hSw.2.2; clear hSw; go_simp; (try with_reducible rfl))
    try simp only [Act.put, List.setIfInBounds_toArray, List.set_cons_zero, List.set_cons_succ]
    refine Rg.takeP (i := 10) (oi := { dst := some 26, op := Op.binOp BinOp.eql 3 (Operand.tmp 25) (Operand.const (Value.int IntKind.i64 5)) 3, type := 4, pos := "links.go:115", after := #[{ on := 9, ground := Ground.data }, { on := 6, ground := Ground.guard }], guard := some (6, true) }) (v := ?_) rfl (by kernel_rfl) (fun _ _ _ h => h) (by rfl) ?_ ?_
    rotate_left 1
    · (intro w; go_simp; (try with_reducible rfl))
    try simp only [Act.put, List.setIfInBounds_toArray, List.set_cons_zero, List.set_cons_succ]
    refine Rg.takeP (i := 11) (oi := { dst := some 27, op := Op.pick (Operand.tmp 22) (Operand.tmp 26) (Operand.const (Value.bool false)), type := 4, pos := "links.go:115", after := #[{ on := 6, ground := Ground.data }, { on := 10, ground := Ground.data }], guard := none }) (v := ?_) rfl (by kernel_rfl) (fun _ _ _ h => h) (by rfl) ?_ ?_
    rotate_left 1
    · (intro w; go_simp; (try with_reducible rfl))
    try simp only [Act.put, List.setIfInBounds_toArray, List.set_cons_zero, List.set_cons_succ]
    refine Rg.takeP (i := 12) (oi := { dst := some 6, op := Op.assign (Operand.tmp 27), type := 4, pos := "links.go:115", after := #[{ on := 11, ground := Ground.data }, { on := 6, ground := Ground.chain }, { on := 0, ground := Ground.phase }, { on := 1, ground := Ground.phase }, { on := 2, ground := Ground.phase }, { on := 3, ground := Ground.phase }, { on := 4, ground := Ground.phase }, { on := 5, ground := Ground.phase }, { on := 6, ground := Ground.phase }, { on := 7, ground := Ground.phase }, { on := 8, ground := Ground.phase }, { on := 9, ground := Ground.phase }, { on := 10, ground := Ground.phase }, { on := 11, ground := Ground.phase }], guard := none }) (v := ?_) rfl (by kernel_rfl) (fun _ _ _ h => h) (by rfl) ?_ ?_
    rotate_left 1
    · (intro w; go_simp; (try with_reducible rfl))
    try simp only [Act.put, List.setIfInBounds_toArray, List.set_cons_zero, List.set_cons_succ]
    refine Rg.doneR (by kernel_rfl) ?_ _
    refine NoPanic.normal ?_
    go_wp2_with fail
    go_ret
    exact ⟨rfl, HB.out⟩
set_option maxRecDepth 100000 in
set_option maxHeartbeats 1000000 in
theorem lifted (os : Os) (started : os.Started) (H : Type) (enc : TypeId × Value → H) :
    ReturnsInHanded {} Try.checked os 3 .any (Rows.agreeVectorsSpec.pre6 enc Try.prog Try.f3 Rows.agreeVectorsRow.domain false) (Rows.agreeVectorsSpec.post enc Try.prog Try.f3 false true false false) := by
  refine returnsInHanded_of_change_sized (C := Try.checked) Fr.own started (by kernel_rfl) Try.func3
    (ChangeSpec.witness6 (enc := enc) (C := Try.checked) false ⟨#[], #[.agg #[.int .i64 0, .int .i64 0, .int .i64 0, .int .i64 0], .int .i64 0, .slice none 0 0], []⟩ 8 (by kernel_rfl) (by kernel_rfl) (by kernel_rfl) (by kernel_rfl)) ?_
  intro W base args ds gs before hval0 hW _ hsz0 _
  have hval : ∀ (j : Nat) t v, Try.f3.params[j]? = some t → args[j]? = some v → Value.okWide Try.prog W .any base t v := hval0
  have hsz : (DataW.weightsEach Try.prog (Try.f3.params.toList ++ Rows.agreeVectorsSpec.plain.varTypes Try.prog) (ds ++ gs)).all (· ≤ reachBytes) = true := hsz0
  clear hval0 hsz0
  obtain ⟨p, q, hA0, hV0, _⟩ := id hW
  have hA : DataW.TrodAll enc Try.prog W 0 (fun _ => true) true Try.f3.params.toList args.toList ds p := hA0
  rw [Try.params3] at hA hval hsz
  obtain ⟨v0, vs0, d0, ds0, p0, q0, hargs, rfl, rfl, h0, r0⟩ := trodAll_cons hA
  obtain ⟨v1, vs1, d1, ds1, p1, q1, rfl, rfl, rfl, h1, r1⟩ := trodAll_cons r0
  obtain ⟨v2, vs2, d2, ds2, p2, q2, rfl, rfl, rfl, h2, r2⟩ := trodAll_cons r1
  obtain ⟨rfl, rfl, rfl⟩ := trodAll_nil r2
  obtain rfl : args = #[v0, v1, v2] := by cases args; simp_all
  obtain ⟨rfl, rfl⟩ := trodVars_none hV0
  refine Fr.of_walk (f := Try.f3) Fr.laidOut (by rw [Try.params3]; intro t ht; simp at ht; (first | (rcases ht with rfl | rfl | rfl | rfl | rfl | rfl) | (rcases ht with rfl | rfl | rfl | rfl | rfl) | (rcases ht with rfl | rfl | rfl | rfl) | (rcases ht with rfl | rfl | rfl) | (rcases ht with rfl | rfl) | (subst ht)) <;> exact ⟨by kernel_rfl, of_decide_eq_true (by kernel_rfl)⟩) rfl rfl Try.underlying4 (fun _ => rfl) hW ?_
  clear hW hA hA0 hV0
  obtain ⟨cs0, rfl⟩ := Op.okWide_agg (t := 22) (by kernel_rfl) (hval 0 22 v0 rfl rfl)
  have k0 := Op.flat_arg (ls := [3,3,3,3]) (by kernel_rfl) h0 (Op.light_of_each (j := 0) hsz rfl rfl)
  obtain ⟨y0_0, l0, e0, f0_0, k0⟩ := k0.cons
  obtain ⟨y0_1, l0, rfl, f0_1, k0⟩ := k0.cons
  obtain ⟨y0_2, l0, rfl, f0_2, k0⟩ := k0.cons
  obtain ⟨y0_3, l0, rfl, f0_3, k0⟩ := k0.cons
  obtain rfl := k0.nil_
  obtain rfl := Op.arr_of e0
  obtain ⟨a, rfl, wf_a⟩ := f0_0.int Try.underlying3
  obtain ⟨b, rfl, wf_b⟩ := f0_1.int Try.underlying3
  obtain ⟨c, rfl, wf_c⟩ := f0_2.int Try.underlying3
  obtain ⟨d, rfl, wf_d⟩ := f0_3.int Try.underlying3
  obtain ⟨bad, rfl, rfl, rfl, wf_bad⟩ := open_int Try.underlying3 (hval 1 3 v1 rfl rfl) h1
  have bd_bad := Op.wf_i64 wf_bad
  obtain ⟨A, cp, zs, rfl, g2, g3, g4, g5, g6⟩ := Mj.openInts (hval 2 23 v2 rfl rfl) h2 (Op.light_of_each (j := 2) hsz rfl rfl)
  exact walk a b c d bad A cp zs W g4 g2 g3 g5

theorem closedFacts : joinedFacts Try.prog 3 Try.f3 Rows.agreeVectorsSpec Rows.agreeVectorsRow = true := by
  unfold joinedFacts
  simp only [Bool.and_eq_true]
  refine ⟨⟨⟨⟨⟨⟨⟨⟨⟨⟨⟨⟨⟨⟨⟨⟨⟨⟨⟨⟨⟨⟨⟨⟨⟨⟨⟨⟨⟨⟨⟨?_, ?_⟩, ?_⟩, ?_⟩, ?_⟩, ?_⟩, ?_⟩, ?_⟩, ?_⟩, ?_⟩, ?_⟩, ?_⟩, ?_⟩, ?_⟩, ?_⟩, ?_⟩, ?_⟩, ?_⟩, ?_⟩, ?_⟩, ?_⟩, ?_⟩, ?_⟩, ?_⟩, ?_⟩, ?_⟩, ?_⟩, ?_⟩, ?_⟩, ?_⟩, ?_⟩, ?_⟩
  · as_aux_lemma => kernel_rfl
  · exact Fr.laidOut
  · exact Facts.mapsRowed_
  · as_aux_lemma => kernel_rfl
  · as_aux_lemma => kernel_rfl
  · as_aux_lemma => kernel_rfl
  · exact Facts.stops_
  · as_aux_lemma => kernel_rfl
  · exact Facts.knobs_
  · as_aux_lemma => kernel_rfl
  · as_aux_lemma => kernel_rfl
  · as_aux_lemma => kernel_rfl
  · as_aux_lemma => kernel_rfl
  · as_aux_lemma => kernel_rfl
  · as_aux_lemma => kernel_rfl
  · as_aux_lemma => kernel_rfl
  · as_aux_lemma => kernel_rfl
  · as_aux_lemma => kernel_rfl
  · as_aux_lemma => kernel_rfl
  · as_aux_lemma => kernel_rfl
  · as_aux_lemma => kernel_rfl
  · as_aux_lemma => kernel_rfl
  · exact Facts.keys_
  · as_aux_lemma => kernel_rfl
  · exact Facts.heard_
  · exact Facts.enter_
  · exact Facts.lifts_
  · exact Facts.make_
  · as_aux_lemma => kernel_rfl
  · as_aux_lemma => kernel_rfl
  · as_aux_lemma => kernel_rfl
  · as_aux_lemma => kernel_rfl

theorem proved : Rows.AgreeVectorsSaid :=
  OpenClaim.holds_of_wide 3 Try.f3 rfl rfl rfl rfl rfl rfl rfl ⟨rfl, rfl, rfl, rfl, rfl⟩ rfl rfl rfl rfl rfl (by kernel_rfl) Try.func3 closedFacts
    (of_decide_eq_true (by kernel_rfl)) (by unfold Func.isWrapper; first | (rw [if_pos (by decide +kernel)]; kernel_rfl) | (rw [if_neg (by decide +kernel)]; exact ⟨rfl, rfl⟩))
    (fun os started H enc _ => lifted os started H enc)

end Go.Proofs.Ytlikfikmfimfhaa.lawAgreeVectors
