/- The law MemberSteps returns true: member.Step and the reference's RollStep answer alike for all rolls and verdicts. Conditions: none. -/
import Derived.Test.YtfaielkkecphbaaFrame
import Derived.Test.YtfaielkkecphbaaFacts
import Derived.Test.YtfaielkkecphbaaStepR
import Derived.Test.YtfaielkkecphbaaNel
import Derived.Test.YtfaielkkecphbaaOpen
import Derived.Test.YtfaielkkecphbaaOpenN
import Derived.Test.YtfaielkkecphbaaReg3
import Derived.Test.YtfaielkkecphbaaRdIn
import Derived.Deep.DeepCutAuto
namespace Go.Proofs.Ytfaielkkecphbaa.lawMemberSteps
open Go.ChangeShapes Go.WideShapes Go.ChangeAt Go.RowKit Go.Proofs.Ytfaielkkecphbaa.Mem Go.Proofs.Ytfaielkkecphbaa.Rws Go.Proofs.Ytfaielkkecphbaa.Nd
set_option linter.unusedVariables false
set_option linter.unusedSimpArgs false

theorem one_cell (w : World) (t : TypeId) (zt R : Array Value) : Below w.heap.size w ((w.alloc (.cells zt t)).setRow w.heap.size R) ∧ Blk ((w.alloc (.cells zt t)).setRow w.heap.size R) w.heap.size t R :=
  ⟨below_setRow ((Below.refl w.heap.size w).alloc (Nat.le_refl _) (.cells zt t)) (Nat.le_refl _) R, (Blk.fresh _ _ _).setRow R⟩
def allRS : RS := ⟨fun _ => true, fun _ => 0, fun _ => 0⟩
theorem all_row : row 12 roll0 = allRS.row := rfl
theorem all_step : stepR allRS false [false, false, false, false] = (allRS, [], 0) := rfl

set_option maxRecDepth 100000 in
set_option maxHeartbeats 4000000 in
theorem walk (s : RS) (v : Int) (st : Bool) (A : Option Addr) (c : Nat) (bs : List Bool) (w : World) (hA : A = none → c = 0) (hnc : bs.length ≤ c) (hl : bs.length ≤ 140737488351232) (hr : Rd w w.heap.size 1 A bs.length (boolsV bs)) :
    Calls Try.prog 10 #[.agg s.row, .agg #[.int .i64 v, .bool st, .slice A bs.length c]] w fun e w' => e = .returned (.bool true) ∧ Below w.heap.size w w' := by
  have cS := fun A c B w h1 h2 => step_any s v st A c bs B w h1 hl h2
  have cR := fun A c B w h1 h2 => refstep_any s v st A c bs B w h1 hl h2
  obtain ⟨r, hrr⟩ : ∃ r, stepR s st bs = r := ⟨_, rfl⟩
  rw [hrr] at cS cR
  have ir : (Try.prog.info? 31).map (·.size) = some r.1.row.size := by unfold RS.row; rw [row_size]; kernel_rfl
  have zr : (#[.bool false, .bool false, .bool false, .bool false, .int .i64 0, .int .i64 0, .int .i64 0, .int .i64 0, .int .i64 0, .int .i64 0, .int .i64 0, .int .i64 0] : Array Value).size = r.1.row.size := by unfold RS.row; rw [row_size]; rfl
  have or_ := row_roll_one r.1
  have HLN := Lib.hid (show r.2.1.length ≤ 4 by rw [← hrr]; unfold stepR; (repeat' split) <;> first | exact Nat.zero_le _ | exact many_len _ _ 4)
  clear hrr
  obtain ⟨r1, l, er⟩ := r
  dsimp only at ir zr or_ HLN
  unfold StepAs at cS cR
  dsimp only at cS cR
  have HTYP := Lib.hid (show Flat.Typed rollLs r1.row.toList from typed_roll r1)
  obtain ⟨Rr, hRr⟩ : ∃ Rr, r1.row = Rr := ⟨_, rfl⟩
  rw [hRr] at ir zr or_ cS cR HTYP
  have iR : (Try.prog.info? 31).map (·.size) = some s.row.size := by unfold RS.row; rw [row_size]; kernel_rfl
  obtain ⟨Ro, hRo⟩ : ∃ Ro, s.row = Ro := ⟨_, rfl⟩
  rw [hRo] at iR cS cR ⊢
  have CS := Lib.hid cS
  have CR := Lib.hid cR
  have HR := Lib.hid hr
  clear cS cR hRo hRr hr
  have ira : (Try.prog.info? 31).map (·.size) = some allRS.row.size := by unfold RS.row; rw [row_size]; kernel_rfl
  have zra : (#[.bool false, .bool false, .bool false, .bool false, .int .i64 0, .int .i64 0, .int .i64 0, .int .i64 0, .int .i64 0, .int .i64 0, .int .i64 0, .int .i64 0] : Array Value).size = allRS.row.size := by unfold RS.row; rw [row_size]; rfl
  have ora := row_roll_one allRS
  have ha0 : allRS.row[0]? = some (.bool true) := by unfold RS.row; rw [row_at (by omega)]; rfl
  have cB := fun w => refroll_any w
  rw [all_row] at cB
  have cT := fun A c B w h1 h2 => step_any allRS 0 false A c [false, false, false, false] B w h1 (by simp) h2
  rw [all_step] at cT
  unfold StepAs at cT
  dsimp only at cT
  obtain ⟨Ra, hRa⟩ : ∃ Ra, allRS.row = Ra := ⟨_, rfl⟩
  rw [hRa] at ira zra ora ha0 cB cT
  have CB := Lib.hid cB
  have CT := Lib.hid cT
  clear cB cT hRa
  have D1 := Lib.hid (show Blk ((((w.alloc (.cells Ro 31)).alloc (.cells #[.int .i64 v, .bool st, .slice A bs.length c] 51)).alloc (.cells #[.int .i64 v, .bool st, .slice A bs.length c] 51))) w.heap.size 31 Ro from ((Blk.new rfl).alloc _).alloc _)
  have D2 := Lib.hid (show Blk ((((w.alloc (.cells Ro 31)).alloc (.cells #[.int .i64 v, .bool st, .slice A bs.length c] 51)).alloc (.cells #[.int .i64 v, .bool st, .slice A bs.length c] 51))) (w.heap.size + 1) 51 #[.int .i64 v, .bool st, .slice A bs.length c] from (Blk.new (by simp)).alloc _)
  have D3 := Lib.hid (show Blk ((((w.alloc (.cells Ro 31)).alloc (.cells #[.int .i64 v, .bool st, .slice A bs.length c] 51)).alloc (.cells #[.int .i64 v, .bool st, .slice A bs.length c] 51))) (w.heap.size + 1 + 1) 51 #[.int .i64 v, .bool st, .slice A bs.length c] from Blk.new (by simp))
  have HB := Lib.hid ((((Below.refl w.heap.size w).alloc (Nat.le_refl _) (.cells Ro 31)).alloc (by simp) (.cells #[.int .i64 v, .bool st, .slice A bs.length c] 51)).alloc (by simp; omega) (.cells #[.int .i64 v, .bool st, .slice A bs.length c] 51))
  go_enter Try.func10, Try.ntmps10
  go_upto_region 2 with fail
  generalize ((((w.alloc (.cells Ro 31)).alloc (.cells #[.int .i64 v, .bool st, .slice A bs.length c] 51)).alloc (.cells #[.int .i64 v, .bool st, .slice A bs.length c] 51))) = W at *
  have HBS := D3.out.lt
  have d2 := D2.out.cell 2
  simp only [List.getElem?_toArray, List.getElem?_cons_zero, List.getElem?_cons_succ] at d2
  have HRW := Lib.hid (HR.out.below HB.out)
  go_upto_region 3 with (at_builtin; refine wpList_append_rd _ rfl (.const (.slice none 0 0)) (.tmp 18) 49 rfl (base := W.heap.size) elemBools rfl (World.ownsRow_nil _ _ _ _) rfl (fun h => ⟨by have := hA h; omega, hA h⟩) HRW.out (boolsV_one bs) (by unfold maxLen; omega) (by omega) (Nat.le_refl _) ?_; intro A2 c2 w1 hA2 hown hg; (try simp only [List.nil_append, Nat.zero_add] at hown); have E1 := Lib.hid (D1.out.grown hg (by simp [Value.ownBlock, Act.eval])); have E2 := Lib.hid (D2.out.grown hg (by simp [Value.ownBlock, Act.eval])); have E3 := Lib.hid (D3.out.grown hg (by simp [Value.ownBlock, Act.eval])); have HB := Lib.hid (HB.out.grown hg HB.out.size (by intro g e; cases e)); have HW := Lib.hid hown; have f2 := E3.out.thaw 2; have y2 := E3.out.cell 2; clear hown hg hA2)
  clear d2 f2 y2 D1 D2 D3
  have B1 := Lib.hid (E1.out.other (p := ⟨w.heap.size + 1 + 1, 2, none⟩) (by show w.heap.size ≠ w.heap.size + 1 + 1; omega) (.slice A2 bs.length c2))
  have B2 := Lib.hid (E2.out.other (p := ⟨w.heap.size + 1 + 1, 2, none⟩) (by show w.heap.size + 1 ≠ w.heap.size + 1 + 1; omega) (.slice A2 bs.length c2))
  have B3 := Lib.hid (show Blk (w1.setCell ⟨w.heap.size + 1 + 1, 2, none⟩ (.slice A2 bs.length c2)) (w.heap.size + 1 + 1) 51 #[.int .i64 v, .bool st, .slice A2 bs.length c2] from E3.out.set 2 (.slice A2 bs.length c2))
  have HB := Lib.hid (HB.out.setCell (p := ⟨w.heap.size + 1 + 1, 2, none⟩) (by show w.heap.size ≤ w.heap.size + 1 + 1; omega) (.slice A2 bs.length c2))
  have HW := Lib.hid (Vt.own_setCell (g := w.heap.size + 1 + 1) (i := 2) HW.out (by omega) (.slice A2 bs.length c2))
  clear E1 E2 E3
  generalize (w1.setCell ⟨w.heap.size + 1 + 1, 2, none⟩ (.slice A2 bs.length c2)) = w2 at *
  go_wp2_with (first | (refine wpList_whole rfl 31 _ rfl w.heap.size rfl B1.out _ Try.underlying31 rfl iR ?_) | (refine wpList_whole rfl 51 _ rfl (w.heap.size + 1 + 1) rfl B3.out _ Try.underlying51 rfl (by kernel_rfl) ?_))
  refine (CS.out A2 c2 w2.heap.size _ (Nat.le_refl _) (Rd.of_own HW.out)).mono ?_
  rintro e w3 ⟨AX, cx, rfl, hx, hb, hcx⟩
  have HX := Lib.hid hx
  have HB := Lib.hid (onward HB.out (Nat.le_refl _) hb)
  have B1 := Lib.hid (B1.out.below hb B1.out.lt)
  have B2 := Lib.hid (B2.out.below hb B2.out.lt)
  clear hx hb HW B3
  have F1 : Hid (Blk (w3.alloc (.cells #[.bool false, .bool false, .bool false, .bool false, .int .i64 0, .int .i64 0, .int .i64 0, .int .i64 0, .int .i64 0, .int .i64 0, .int .i64 0, .int .i64 0] 31)) w3.heap.size 31 #[.bool false, .bool false, .bool false, .bool false, .int .i64 0, .int .i64 0, .int .i64 0, .int .i64 0, .int .i64 0, .int .i64 0, .int .i64 0, .int .i64 0]) := Lib.hid (Blk.fresh _ _ _)
  obtain ⟨bel, bn3⟩ := one_cell w3 31 #[.bool false, .bool false, .bool false, .bool false, .int .i64 0, .int .i64 0, .int .i64 0, .int .i64 0, .int .i64 0, .int .i64 0, .int .i64 0, .int .i64 0] Rr
  have BEL := Lib.hid bel
  have BN3 := Lib.hid bn3
  clear bel bn3
  go_upto_region 4 with (refine wpList_store_row rfl 31 _ _ rfl w3.heap.size Rr rfl rfl 31 _ F1.out ir zr or_ ?_)
  clear F1
  generalize ((w3.alloc (.cells #[.bool false, .bool false, .bool false, .bool false, .int .i64 0, .int .i64 0, .int .i64 0, .int .i64 0, .int .i64 0, .int .i64 0, .int .i64 0, .int .i64 0] 31)).setRow w3.heap.size Rr) = w3v at *
  obtain ⟨p3, hp3⟩ : ∃ p, w3.heap.size = p := ⟨_, rfl⟩
  rw [hp3] at BN3 ⊢
  clear hp3
  have HB := Lib.hid (onward HB.out (Nat.le_refl _) BEL.out)
  have B1 := Lib.hid (B1.out.below BEL.out B1.out.lt)
  have B2 := Lib.hid (B2.out.below BEL.out B2.out.lt)
  have HX := Lib.hid ((HX.out.below BEL.out).more BEL.out.size)
  clear BEL
  go_wp2_with (first | (refine wpList_whole rfl 31 _ rfl w.heap.size rfl B1.out _ Try.underlying31 rfl iR ?_) | (refine wpList_whole rfl 51 _ rfl (w.heap.size + 1) rfl B2.out _ Try.underlying51 rfl (by kernel_rfl) ?_))
  refine (CR.out A c w.heap.size _ HB.out.size (HR.out.below HB.out)).mono ?_
  rintro e w4 ⟨AY, cy, rfl, hy, hb, hcy⟩
  have HY := Lib.hid hy
  have HB := Lib.hid (onward HB.out (Nat.le_refl _) hb)
  have BN3 := Lib.hid (BN3.out.below hb BN3.out.lt)
  have HX := Lib.hid ((HX.out.below hb).more hb.size)
  clear hy hb B1 B2
  have F1 : Hid (Blk (w4.alloc (.cells #[.bool false, .bool false, .bool false, .bool false, .int .i64 0, .int .i64 0, .int .i64 0, .int .i64 0, .int .i64 0, .int .i64 0, .int .i64 0, .int .i64 0] 31)) w4.heap.size 31 #[.bool false, .bool false, .bool false, .bool false, .int .i64 0, .int .i64 0, .int .i64 0, .int .i64 0, .int .i64 0, .int .i64 0, .int .i64 0, .int .i64 0]) := Lib.hid (Blk.fresh _ _ _)
  obtain ⟨bel, bn4⟩ := one_cell w4 31 #[.bool false, .bool false, .bool false, .bool false, .int .i64 0, .int .i64 0, .int .i64 0, .int .i64 0, .int .i64 0, .int .i64 0, .int .i64 0, .int .i64 0] Rr
  have BEL := Lib.hid bel
  have BN4 := Lib.hid bn4
  clear bel bn4
  go_upto_region 5 with (refine wpList_store_row rfl 31 _ _ rfl w4.heap.size Rr rfl rfl 31 _ F1.out ir zr or_ ?_)
  clear F1
  generalize ((w4.alloc (.cells #[.bool false, .bool false, .bool false, .bool false, .int .i64 0, .int .i64 0, .int .i64 0, .int .i64 0, .int .i64 0, .int .i64 0, .int .i64 0, .int .i64 0] 31)).setRow w4.heap.size Rr) = w4v at *
  obtain ⟨p4, hp4⟩ : ∃ p, w4.heap.size = p := ⟨_, rfl⟩
  rw [hp4] at BN4 ⊢
  clear hp4
  have HB := Lib.hid (onward HB.out (Nat.le_refl _) BEL.out)
  have BN3 := Lib.hid (BN3.out.below BEL.out BN3.out.lt)
  have HX := Lib.hid ((HX.out.below BEL.out).more BEL.out.size)
  have HY := Lib.hid ((HY.out.below BEL.out).more BEL.out.size)
  clear BEL
  go_cut [12] (fun v12 wx => ∃ p, v12 = .pointer (some ⟨p, 0, none⟩) ∧ Blk wx p 31 Ra ∧ Blk wx p3 31 Rr ∧ Blk wx p4 31 Rr ∧ Rd wx wx.heap.size 2 AX l.length (changesV l) ∧ Rd wx wx.heap.size 2 AY l.length (changesV l) ∧ Below w.heap.size w wx)
  case first =>
    have BN3 := Lib.hid BN3.out.drew
    have BN4 := Lib.hid BN4.out.drew
    have HB := Lib.hid HB.out.drew
    obtain ⟨b0, eb0⟩ : ∃ b0, w4v.heap.size = b0 := ⟨_, rfl⟩
    rw [eb0] at HX HY
    have hb0 : b0 ≤ w4v.drew.heap.size := Nat.le_of_eq eb0.symm
    have HX : Hid (Rd w4v.drew b0 2 AX l.length (changesV l)) := Lib.hid HX.out.drew
    have HY : Hid (Rd w4v.drew b0 2 AY l.length (changesV l)) := Lib.hid HY.out.drew
    clear eb0
    refine wp_region_noPanic ?_
    refine Rg.beginR [] (fun _ => True) (by kernel_rfl) ?_
    have HS : True := trivial
    generalize w4v.drew = V0 at *
    refine Rg.threeR (i := 0) (j := 1) (l := 8) (oi := { dst := some 36, op := Op.call { callee := Callee.value (Operand.func 32), args := #[], argTypes := #[] }, type := 31, pos := "links.go:135", after := #[], guard := none }) (oj := { dst := some 37, op := Op.makeSlice 49 (Operand.const (Value.int IntKind.i64 4)) (Operand.const (Value.int IntKind.i64 4)), type := 49, pos := "links.go:135", after := #[], guard := none }) (ol := { dst := some 12, op := Op.alloc 31, type := 0, pos := "links.go:135", after := #[], guard := none }) (by kernel_rfl) rfl rfl rfl ?_ ?_ ?_
    ·
      refine Rg.stepF ?_ ?_
      · kernel_rfl
      intro K hK
      rw [if_pos (by rfl)]
      go_simp
      go_at_call 32
      refine (CB.out _).mono ?_
      rintro e V1 ⟨rfl, hb⟩
      have BN3 := Lib.hid (BN3.out.below hb BN3.out.lt)
      have BN4 := Lib.hid (BN4.out.below hb BN4.out.lt)
      have HX := Lib.hid (HX.out.below (hb.mono hb0))
      have HY := Lib.hid (HY.out.below (hb.mono hb0))
      have HB := Lib.hid (onward HB.out (Nat.le_refl _) hb)
      have hb0 := Nat.le_trans hb0 hb.size
      clear hb
      go_wp2_with fail
      refine hK.out _ _ ?_
      clear hK K
      try simp only [Act.put, List.setIfInBounds_toArray, List.set_cons_zero, List.set_cons_succ]
      refine Rg.twoR (i := 1) (j := 8) (oi := { dst := some 37, op := Op.makeSlice 49 (Operand.const (Value.int IntKind.i64 4)) (Operand.const (Value.int IntKind.i64 4)), type := 49, pos := "links.go:135", after := #[], guard := none }) (oj := { dst := some 12, op := Op.alloc 31, type := 0, pos := "links.go:135", after := #[], guard := none }) (by kernel_rfl) rfl rfl ?_ ?_
      ·
        refine Rg.stepF ?_ ?_
        · kernel_rfl
        intro K hK
        rw [if_pos (by rfl)]
        have hmk := make4
        go_simp
        clear hmk
        have HM : Hid (Rd (V1.alloc (.cells #[.bool false, .bool false, .bool false, .bool false] 4)) (V1.alloc (.cells #[.bool false, .bool false, .bool false, .bool false] 4)).heap.size 1 (some ⟨V1.heap.size, 0, none⟩) 4 (boolsV [false, false, false, false])) := Lib.hid ((rd_of_blk (Blk.fresh V1 4 #[.bool false, .bool false, .bool false, .bool false])).more (by simp))
        have hb : Below V1.heap.size V1 (V1.alloc (.cells #[.bool false, .bool false, .bool false, .bool false] 4)) := (Below.refl _ _).alloc (Nat.le_refl _) _
        have BN3 := Lib.hid (BN3.out.below hb BN3.out.lt)
        have BN4 := Lib.hid (BN4.out.below hb BN4.out.lt)
        have HX := Lib.hid (HX.out.below (hb.mono hb0))
        have HY := Lib.hid (HY.out.below (hb.mono hb0))
        have HB := Lib.hid (onward HB.out (Nat.le_refl _) hb)
        have hb0 := Nat.le_trans hb0 hb.size
        clear hb
        generalize (V1.alloc (.cells #[.bool false, .bool false, .bool false, .bool false] 4)) = V2 at *
        obtain ⟨q, hq⟩ : ∃ q, V1.heap.size = q := ⟨_, rfl⟩
        rw [hq] at HM ⊢
        clear hq
        refine hK.out _ _ ?_
        clear hK K
        try simp only [Act.put, List.setIfInBounds_toArray, List.set_cons_zero, List.set_cons_succ]
        refine Rg.takeP (i := 2) (oi := { dst := some 38, op := Op.build 51 #[(2, Operand.tmp 37)], type := 51, pos := "links.go:135", after := #[{ on := 1, ground := Ground.data }], guard := none }) (v := ?_) rfl (by kernel_rfl) (fun _ _ _ h => h) (by rfl) ?_ ?_
        rotate_left 1
        · (intro w; go_simp; (try with_reducible rfl))
        try simp only [Act.put, List.setIfInBounds_toArray, List.set_cons_zero, List.set_cons_succ]
        refine Rg.twoR (i := 3) (j := 8) (oi := { dst := some 39, op := Op.call { callee := Callee.value (Operand.func 45), args := #[Operand.tmp 36, Operand.tmp 38], argTypes := #[31, 51] }, type := 53, pos := "links.go:135", after := #[{ on := 0, ground := Ground.data }, { on := 2, ground := Ground.data }, { on := 0, ground := Ground.chain }], guard := none }) (oj := { dst := some 12, op := Op.alloc 31, type := 0, pos := "links.go:135", after := #[], guard := none }) (by kernel_rfl) rfl rfl ?_ ?_
        ·
          refine Rg.stepF ?_ ?_
          · kernel_rfl
          intro K hK
          rw [if_pos (by rfl)]
          go_simp
          go_at_call 45
          refine (CT.out (some ⟨q, 0, none⟩) 4 V2.heap.size V2 (Nat.le_refl _) HM.out).mono ?_
          rintro e V3 ⟨AZ, cz, rfl, -, hb, -⟩
          have BN3 := Lib.hid (BN3.out.below hb BN3.out.lt)
          have BN4 := Lib.hid (BN4.out.below hb BN4.out.lt)
          have HX := Lib.hid (HX.out.below (hb.mono hb0))
          have HY := Lib.hid (HY.out.below (hb.mono hb0))
          have HB := Lib.hid (onward HB.out (Nat.le_refl _) hb)
          have hb0 := Nat.le_trans hb0 hb.size
          clear hb
          go_wp2_with fail
          refine hK.out _ _ ?_
          clear hK K
          try simp only [Act.put, List.setIfInBounds_toArray, List.set_cons_zero, List.set_cons_succ]
          refine Rg.takeP (i := 4) (oi := { dst := some 35, op := Op.move (Operand.tmp 39), type := 53, pos := "links.go:135", after := #[{ on := 3, ground := Ground.data }], guard := none }) (v := ?_) rfl (by kernel_rfl) (fun _ _ _ h => h) (by rfl) ?_ ?_
          rotate_left 1
          · (intro w; go_simp; (try with_reducible rfl))
          try simp only [Act.put, List.setIfInBounds_toArray, List.set_cons_zero, List.set_cons_succ]
          refine Rg.takeP (i := 5) (oi := { dst := some 40, op := Op.extract (Operand.tmp 35) 0, type := 31, pos := "links.go:135", after := #[{ on := 4, ground := Ground.data }], guard := none }) (v := ?_) rfl (by kernel_rfl) (fun _ _ _ h => h) (by rfl) ?_ ?_
          rotate_left 1
          · (intro w; go_simp; (try with_reducible rfl))
          try simp only [Act.put, List.setIfInBounds_toArray, List.set_cons_zero, List.set_cons_succ]
          refine Rg.takeP (i := 6) (oi := { dst := some 41, op := Op.extract (Operand.tmp 35) 1, type := 52, pos := "links.go:135", after := #[{ on := 4, ground := Ground.data }, { on := 9, ground := Ground.gcOnly Departure.lateStores }], guard := none }) (v := ?_) rfl (by kernel_rfl) (fun _ _ _ h => h) (by rfl) ?_ ?_
          rotate_left 1
          · (intro w; go_simp; (try with_reducible rfl))
          try simp only [Act.put, List.setIfInBounds_toArray, List.set_cons_zero, List.set_cons_succ]
          refine Rg.takeP (i := 7) (oi := { dst := some 42, op := Op.extract (Operand.tmp 35) 2, type := 38, pos := "links.go:135", after := #[{ on := 4, ground := Ground.data }, { on := 10, ground := Ground.gcOnly Departure.lateStores }], guard := none }) (v := ?_) rfl (by kernel_rfl) (fun _ _ _ h => h) (by rfl) ?_ ?_
          rotate_left 1
          · (intro w; go_simp; (try with_reducible rfl))
          try simp only [Act.put, List.setIfInBounds_toArray, List.set_cons_zero, List.set_cons_succ]
          refine Rg.oneR (i := 8) (oi := { dst := some 12, op := Op.alloc 31, type := 0, pos := "links.go:135", after := #[], guard := none }) rfl (by kernel_rfl) ?_
          refine Rg.stepF ?_ ?_
          · kernel_rfl
          intro K hK
          rw [if_pos (by rfl)]
          go_simp
          have BP : Hid (Blk (V3.alloc (.cells #[.bool false, .bool false, .bool false, .bool false, .int .i64 0, .int .i64 0, .int .i64 0, .int .i64 0, .int .i64 0, .int .i64 0, .int .i64 0, .int .i64 0] 31)) V3.heap.size 31 #[.bool false, .bool false, .bool false, .bool false, .int .i64 0, .int .i64 0, .int .i64 0, .int .i64 0, .int .i64 0, .int .i64 0, .int .i64 0, .int .i64 0]) := Lib.hid (Blk.fresh _ _ _)
          have hp0 := hb0
          have hp3 := BN3.out.lt
          have hp4 := BN4.out.lt
          have hpw := HB.out.size
          have hb : Below V3.heap.size V3 (V3.alloc (.cells #[.bool false, .bool false, .bool false, .bool false, .int .i64 0, .int .i64 0, .int .i64 0, .int .i64 0, .int .i64 0, .int .i64 0, .int .i64 0, .int .i64 0] 31)) := (Below.refl _ _).alloc (Nat.le_refl _) _
          have BN3 := Lib.hid (BN3.out.below hb BN3.out.lt)
          have BN4 := Lib.hid (BN4.out.below hb BN4.out.lt)
          have HX := Lib.hid (HX.out.below (hb.mono hb0))
          have HY := Lib.hid (HY.out.below (hb.mono hb0))
          have HB := Lib.hid (onward HB.out (Nat.le_refl _) hb)
          have hb0 := Nat.le_trans hb0 hb.size
          clear hb
          generalize (V3.alloc (.cells #[.bool false, .bool false, .bool false, .bool false, .int .i64 0, .int .i64 0, .int .i64 0, .int .i64 0, .int .i64 0, .int .i64 0, .int .i64 0, .int .i64 0] 31)) = V4 at *
          obtain ⟨p, hp⟩ : ∃ p, V3.heap.size = p := ⟨_, rfl⟩
          rw [hp] at BP hp0 hp3 hp4 hpw ⊢
          clear hp
          refine hK.out _ _ ?_
          clear hK K
          try simp only [Act.put, List.setIfInBounds_toArray, List.set_cons_zero, List.set_cons_succ]
          refine Rg.oneR (i := 9) (oi := { dst := none, op := Op.store 31 (Operand.tmp 12) (Operand.tmp 40), type := 0, pos := "links.go:135", after := #[{ on := 8, ground := Ground.data }, { on := 5, ground := Ground.data }, { on := 3, ground := Ground.chain }, { on := 0, ground := Ground.phase }, { on := 1, ground := Ground.phase }, { on := 2, ground := Ground.phase }, { on := 3, ground := Ground.phase }, { on := 4, ground := Ground.phase }, { on := 5, ground := Ground.phase }, { on := 6, ground := Ground.textOnly Departure.lateStores }, { on := 7, ground := Ground.textOnly Departure.lateStores }, { on := 8, ground := Ground.phase }], guard := none }) rfl (by kernel_rfl) ?_
          refine Rg.stepF ?_ ?_
          · kernel_rfl
          intro K hK
          rw [if_pos (by rfl)]
          refine wp_store_row 31 _ _ rfl p Ra rfl rfl 31 _ BP.out ira zra ora ?_
          have BP := Lib.hid (BP.out.setRow Ra)
          have BN3 := Lib.hid (BN3.out.setRow_other (g' := p) (by omega) Ra)
          have BN4 := Lib.hid (BN4.out.setRow_other (g' := p) (by omega) Ra)
          have HX := Lib.hid (HX.out.setRowOut hp0 Ra)
          have HY := Lib.hid (HY.out.setRowOut hp0 Ra)
          have HB := Lib.hid (below_setRow HB.out hpw Ra)
          have hb0 := Nat.le_trans hb0 (below_setRow (Below.refl 0 V4) (Nat.zero_le p) Ra).size
          generalize (V4.setRow p Ra) = V5 at *
          refine hK.out _ _ ?_
          clear hK K
          try simp only [Act.put, List.setIfInBounds_toArray, List.set_cons_zero, List.set_cons_succ]
          refine Rg.takeP (i := 10) (oi := { dst := some 13, op := Op.assign (Operand.tmp 41), type := 52, pos := "links.go:135", after := #[{ on := 6, ground := Ground.data }, { on := 9, ground := Ground.chain }, { on := 0, ground := Ground.phase }, { on := 1, ground := Ground.phase }, { on := 2, ground := Ground.phase }, { on := 3, ground := Ground.phase }, { on := 4, ground := Ground.phase }, { on := 5, ground := Ground.phase }, { on := 6, ground := Ground.phase }, { on := 7, ground := Ground.textOnly Departure.lateStores }, { on := 8, ground := Ground.phase }, { on := 9, ground := Ground.phase }], guard := none }) (v := ?_) rfl (by kernel_rfl) (fun _ _ _ h => h) (by rfl) ?_ ?_
          rotate_left 1
          · (intro w; go_simp; (try with_reducible rfl))
          try simp only [Act.put, List.setIfInBounds_toArray, List.set_cons_zero, List.set_cons_succ]
          refine Rg.takeP (i := 11) (oi := { dst := some 14, op := Op.assign (Operand.tmp 42), type := 38, pos := "links.go:135", after := #[{ on := 7, ground := Ground.data }, { on := 10, ground := Ground.chain }, { on := 0, ground := Ground.phase }, { on := 1, ground := Ground.phase }, { on := 2, ground := Ground.phase }, { on := 3, ground := Ground.phase }, { on := 4, ground := Ground.phase }, { on := 5, ground := Ground.phase }, { on := 6, ground := Ground.phase }, { on := 7, ground := Ground.phase }, { on := 8, ground := Ground.phase }, { on := 9, ground := Ground.phase }, { on := 10, ground := Ground.phase }], guard := none }) (v := ?_) rfl (by kernel_rfl) (fun _ _ _ h => h) (by rfl) ?_ ?_
          rotate_left 1
          · (intro w; go_simp; (try with_reducible rfl))
          try simp only [Act.put, List.setIfInBounds_toArray, List.set_cons_zero, List.set_cons_succ]
          refine Rg.doneR (by kernel_rfl) ?_ _
          refine NoPanic.normal ?_
          go_wp2_with fail
          go_meet
          exact ⟨p, rfl, BP.out, BN3.out, BN4.out, HX.out.more hb0, HY.out.more hb0, HB.out⟩
        ·
          refine Rg.stepF ?_ ?_
          · kernel_rfl
          intro K hK
          rw [if_pos (by rfl)]
          go_simp
          have BP : Hid (Blk (V2.alloc (.cells #[.bool false, .bool false, .bool false, .bool false, .int .i64 0, .int .i64 0, .int .i64 0, .int .i64 0, .int .i64 0, .int .i64 0, .int .i64 0, .int .i64 0] 31)) V2.heap.size 31 #[.bool false, .bool false, .bool false, .bool false, .int .i64 0, .int .i64 0, .int .i64 0, .int .i64 0, .int .i64 0, .int .i64 0, .int .i64 0, .int .i64 0]) := Lib.hid (Blk.fresh _ _ _)
          have hp0 := hb0
          have hp3 := BN3.out.lt
          have hp4 := BN4.out.lt
          have hpw := HB.out.size
          have hb : Below V2.heap.size V2 (V2.alloc (.cells #[.bool false, .bool false, .bool false, .bool false, .int .i64 0, .int .i64 0, .int .i64 0, .int .i64 0, .int .i64 0, .int .i64 0, .int .i64 0, .int .i64 0] 31)) := (Below.refl _ _).alloc (Nat.le_refl _) _
          have BN3 := Lib.hid (BN3.out.below hb BN3.out.lt)
          have BN4 := Lib.hid (BN4.out.below hb BN4.out.lt)
          have HX := Lib.hid (HX.out.below (hb.mono hb0))
          have HY := Lib.hid (HY.out.below (hb.mono hb0))
          have HM := Lib.hid ((HM.out.below hb).more hb.size)
          have HB := Lib.hid (onward HB.out (Nat.le_refl _) hb)
          have hb0 := Nat.le_trans hb0 hb.size
          clear hb
          generalize (V2.alloc (.cells #[.bool false, .bool false, .bool false, .bool false, .int .i64 0, .int .i64 0, .int .i64 0, .int .i64 0, .int .i64 0, .int .i64 0, .int .i64 0, .int .i64 0] 31)) = V3 at *
          obtain ⟨p, hp⟩ : ∃ p, V2.heap.size = p := ⟨_, rfl⟩
          rw [hp] at BP hp0 hp3 hp4 hpw ⊢
          clear hp
          refine hK.out _ _ ?_
          clear hK K
          try simp only [Act.put, List.setIfInBounds_toArray, List.set_cons_zero, List.set_cons_succ]
          refine Rg.oneR (i := 3) (oi := { dst := some 39, op := Op.call { callee := Callee.value (Operand.func 45), args := #[Operand.tmp 36, Operand.tmp 38], argTypes := #[31, 51] }, type := 53, pos := "links.go:135", after := #[{ on := 0, ground := Ground.data }, { on := 2, ground := Ground.data }, { on := 0, ground := Ground.chain }], guard := none }) rfl (by kernel_rfl) ?_
          refine Rg.stepF ?_ ?_
          · kernel_rfl
          intro K hK
          rw [if_pos (by rfl)]
          go_simp
          go_at_call 45
          refine (CT.out (some ⟨q, 0, none⟩) 4 V3.heap.size V3 (Nat.le_refl _) HM.out).mono ?_
          rintro e V4 ⟨AZ, cz, rfl, -, hb, -⟩
          have BN3 := Lib.hid (BN3.out.below hb BN3.out.lt)
          have BN4 := Lib.hid (BN4.out.below hb BN4.out.lt)
          have BP := Lib.hid (BP.out.below hb BP.out.lt)
          have HX := Lib.hid (HX.out.below (hb.mono hb0))
          have HY := Lib.hid (HY.out.below (hb.mono hb0))
          have HB := Lib.hid (onward HB.out (Nat.le_refl _) hb)
          have hb0 := Nat.le_trans hb0 hb.size
          clear hb
          go_wp2_with fail
          refine hK.out _ _ ?_
          clear hK K
          try simp only [Act.put, List.setIfInBounds_toArray, List.set_cons_zero, List.set_cons_succ]
          refine Rg.takeP (i := 4) (oi := { dst := some 35, op := Op.move (Operand.tmp 39), type := 53, pos := "links.go:135", after := #[{ on := 3, ground := Ground.data }], guard := none }) (v := ?_) rfl (by kernel_rfl) (fun _ _ _ h => h) (by rfl) ?_ ?_
          rotate_left 1
          · (intro w; go_simp; (try with_reducible rfl))
          try simp only [Act.put, List.setIfInBounds_toArray, List.set_cons_zero, List.set_cons_succ]
          refine Rg.takeP (i := 5) (oi := { dst := some 40, op := Op.extract (Operand.tmp 35) 0, type := 31, pos := "links.go:135", after := #[{ on := 4, ground := Ground.data }], guard := none }) (v := ?_) rfl (by kernel_rfl) (fun _ _ _ h => h) (by rfl) ?_ ?_
          rotate_left 1
          · (intro w; go_simp; (try with_reducible rfl))
          try simp only [Act.put, List.setIfInBounds_toArray, List.set_cons_zero, List.set_cons_succ]
          refine Rg.takeP (i := 6) (oi := { dst := some 41, op := Op.extract (Operand.tmp 35) 1, type := 52, pos := "links.go:135", after := #[{ on := 4, ground := Ground.data }, { on := 9, ground := Ground.gcOnly Departure.lateStores }], guard := none }) (v := ?_) rfl (by kernel_rfl) (fun _ _ _ h => h) (by rfl) ?_ ?_
          rotate_left 1
          · (intro w; go_simp; (try with_reducible rfl))
          try simp only [Act.put, List.setIfInBounds_toArray, List.set_cons_zero, List.set_cons_succ]
          refine Rg.takeP (i := 7) (oi := { dst := some 42, op := Op.extract (Operand.tmp 35) 2, type := 38, pos := "links.go:135", after := #[{ on := 4, ground := Ground.data }, { on := 10, ground := Ground.gcOnly Departure.lateStores }], guard := none }) (v := ?_) rfl (by kernel_rfl) (fun _ _ _ h => h) (by rfl) ?_ ?_
          rotate_left 1
          · (intro w; go_simp; (try with_reducible rfl))
          try simp only [Act.put, List.setIfInBounds_toArray, List.set_cons_zero, List.set_cons_succ]
          refine Rg.oneR (i := 9) (oi := { dst := none, op := Op.store 31 (Operand.tmp 12) (Operand.tmp 40), type := 0, pos := "links.go:135", after := #[{ on := 8, ground := Ground.data }, { on := 5, ground := Ground.data }, { on := 3, ground := Ground.chain }, { on := 0, ground := Ground.phase }, { on := 1, ground := Ground.phase }, { on := 2, ground := Ground.phase }, { on := 3, ground := Ground.phase }, { on := 4, ground := Ground.phase }, { on := 5, ground := Ground.phase }, { on := 6, ground := Ground.textOnly Departure.lateStores }, { on := 7, ground := Ground.textOnly Departure.lateStores }, { on := 8, ground := Ground.phase }], guard := none }) rfl (by kernel_rfl) ?_
          refine Rg.stepF ?_ ?_
          · kernel_rfl
          intro K hK
          rw [if_pos (by rfl)]
          refine wp_store_row 31 _ _ rfl p Ra rfl rfl 31 _ BP.out ira zra ora ?_
          have BP := Lib.hid (BP.out.setRow Ra)
          have BN3 := Lib.hid (BN3.out.setRow_other (g' := p) (by omega) Ra)
          have BN4 := Lib.hid (BN4.out.setRow_other (g' := p) (by omega) Ra)
          have HX := Lib.hid (HX.out.setRowOut hp0 Ra)
          have HY := Lib.hid (HY.out.setRowOut hp0 Ra)
          have HB := Lib.hid (below_setRow HB.out hpw Ra)
          have hb0 := Nat.le_trans hb0 (below_setRow (Below.refl 0 V4) (Nat.zero_le p) Ra).size
          generalize (V4.setRow p Ra) = V5 at *
          refine hK.out _ _ ?_
          clear hK K
          try simp only [Act.put, List.setIfInBounds_toArray, List.set_cons_zero, List.set_cons_succ]
          refine Rg.takeP (i := 10) (oi := { dst := some 13, op := Op.assign (Operand.tmp 41), type := 52, pos := "links.go:135", after := #[{ on := 6, ground := Ground.data }, { on := 9, ground := Ground.chain }, { on := 0, ground := Ground.phase }, { on := 1, ground := Ground.phase }, { on := 2, ground := Ground.phase }, { on := 3, ground := Ground.phase }, { on := 4, ground := Ground.phase }, { on := 5, ground := Ground.phase }, { on := 6, ground := Ground.phase }, { on := 7, ground := Ground.textOnly Departure.lateStores }, { on := 8, ground := Ground.phase }, { on := 9, ground := Ground.phase }], guard := none }) (v := ?_) rfl (by kernel_rfl) (fun _ _ _ h => h) (by rfl) ?_ ?_
          rotate_left 1
          · (intro w; go_simp; (try with_reducible rfl))
          try simp only [Act.put, List.setIfInBounds_toArray, List.set_cons_zero, List.set_cons_succ]
          refine Rg.takeP (i := 11) (oi := { dst := some 14, op := Op.assign (Operand.tmp 42), type := 38, pos := "links.go:135", after := #[{ on := 7, ground := Ground.data }, { on := 10, ground := Ground.chain }, { on := 0, ground := Ground.phase }, { on := 1, ground := Ground.phase }, { on := 2, ground := Ground.phase }, { on := 3, ground := Ground.phase }, { on := 4, ground := Ground.phase }, { on := 5, ground := Ground.phase }, { on := 6, ground := Ground.phase }, { on := 7, ground := Ground.phase }, { on := 8, ground := Ground.phase }, { on := 9, ground := Ground.phase }, { on := 10, ground := Ground.phase }], guard := none }) (v := ?_) rfl (by kernel_rfl) (fun _ _ _ h => h) (by rfl) ?_ ?_
          rotate_left 1
          · (intro w; go_simp; (try with_reducible rfl))
          try simp only [Act.put, List.setIfInBounds_toArray, List.set_cons_zero, List.set_cons_succ]
          refine Rg.doneR (by kernel_rfl) ?_ _
          refine NoPanic.normal ?_
          go_wp2_with fail
          go_meet
          exact ⟨p, rfl, BP.out, BN3.out, BN4.out, HX.out.more hb0, HY.out.more hb0, HB.out⟩
      ·
        refine Rg.stepF ?_ ?_
        · kernel_rfl
        intro K hK
        rw [if_pos (by rfl)]
        go_simp
        have BP : Hid (Blk (V1.alloc (.cells #[.bool false, .bool false, .bool false, .bool false, .int .i64 0, .int .i64 0, .int .i64 0, .int .i64 0, .int .i64 0, .int .i64 0, .int .i64 0, .int .i64 0] 31)) V1.heap.size 31 #[.bool false, .bool false, .bool false, .bool false, .int .i64 0, .int .i64 0, .int .i64 0, .int .i64 0, .int .i64 0, .int .i64 0, .int .i64 0, .int .i64 0]) := Lib.hid (Blk.fresh _ _ _)
        have hp0 := hb0
        have hp3 := BN3.out.lt
        have hp4 := BN4.out.lt
        have hpw := HB.out.size
        have hb : Below V1.heap.size V1 (V1.alloc (.cells #[.bool false, .bool false, .bool false, .bool false, .int .i64 0, .int .i64 0, .int .i64 0, .int .i64 0, .int .i64 0, .int .i64 0, .int .i64 0, .int .i64 0] 31)) := (Below.refl _ _).alloc (Nat.le_refl _) _
        have BN3 := Lib.hid (BN3.out.below hb BN3.out.lt)
        have BN4 := Lib.hid (BN4.out.below hb BN4.out.lt)
        have HX := Lib.hid (HX.out.below (hb.mono hb0))
        have HY := Lib.hid (HY.out.below (hb.mono hb0))
        have HB := Lib.hid (onward HB.out (Nat.le_refl _) hb)
        have hb0 := Nat.le_trans hb0 hb.size
        clear hb
        generalize (V1.alloc (.cells #[.bool false, .bool false, .bool false, .bool false, .int .i64 0, .int .i64 0, .int .i64 0, .int .i64 0, .int .i64 0, .int .i64 0, .int .i64 0, .int .i64 0] 31)) = V2 at *
        obtain ⟨p, hp⟩ : ∃ p, V1.heap.size = p := ⟨_, rfl⟩
        rw [hp] at BP hp0 hp3 hp4 hpw ⊢
        clear hp
        refine hK.out _ _ ?_
        clear hK K
        try simp only [Act.put, List.setIfInBounds_toArray, List.set_cons_zero, List.set_cons_succ]
        refine Rg.oneR (i := 1) (oi := { dst := some 37, op := Op.makeSlice 49 (Operand.const (Value.int IntKind.i64 4)) (Operand.const (Value.int IntKind.i64 4)), type := 49, pos := "links.go:135", after := #[], guard := none }) rfl (by kernel_rfl) ?_
        refine Rg.stepF ?_ ?_
        · kernel_rfl
        intro K hK
        rw [if_pos (by rfl)]
        have hmk := make4
        go_simp
        clear hmk
        have HM : Hid (Rd (V2.alloc (.cells #[.bool false, .bool false, .bool false, .bool false] 4)) (V2.alloc (.cells #[.bool false, .bool false, .bool false, .bool false] 4)).heap.size 1 (some ⟨V2.heap.size, 0, none⟩) 4 (boolsV [false, false, false, false])) := Lib.hid ((rd_of_blk (Blk.fresh V2 4 #[.bool false, .bool false, .bool false, .bool false])).more (by simp))
        have hb : Below V2.heap.size V2 (V2.alloc (.cells #[.bool false, .bool false, .bool false, .bool false] 4)) := (Below.refl _ _).alloc (Nat.le_refl _) _
        have BN3 := Lib.hid (BN3.out.below hb BN3.out.lt)
        have BN4 := Lib.hid (BN4.out.below hb BN4.out.lt)
        have BP := Lib.hid (BP.out.below hb BP.out.lt)
        have HX := Lib.hid (HX.out.below (hb.mono hb0))
        have HY := Lib.hid (HY.out.below (hb.mono hb0))
        have HB := Lib.hid (onward HB.out (Nat.le_refl _) hb)
        have hb0 := Nat.le_trans hb0 hb.size
        clear hb
        generalize (V2.alloc (.cells #[.bool false, .bool false, .bool false, .bool false] 4)) = V3 at *
        obtain ⟨q, hq⟩ : ∃ q, V2.heap.size = q := ⟨_, rfl⟩
        rw [hq] at HM ⊢
        clear hq
        refine hK.out _ _ ?_
        clear hK K
        try simp only [Act.put, List.setIfInBounds_toArray, List.set_cons_zero, List.set_cons_succ]
        refine Rg.takeP (i := 2) (oi := { dst := some 38, op := Op.build 51 #[(2, Operand.tmp 37)], type := 51, pos := "links.go:135", after := #[{ on := 1, ground := Ground.data }], guard := none }) (v := ?_) rfl (by kernel_rfl) (fun _ _ _ h => h) (by rfl) ?_ ?_
        rotate_left 1
        · (intro w; go_simp; (try with_reducible rfl))
        try simp only [Act.put, List.setIfInBounds_toArray, List.set_cons_zero, List.set_cons_succ]
        refine Rg.oneR (i := 3) (oi := { dst := some 39, op := Op.call { callee := Callee.value (Operand.func 45), args := #[Operand.tmp 36, Operand.tmp 38], argTypes := #[31, 51] }, type := 53, pos := "links.go:135", after := #[{ on := 0, ground := Ground.data }, { on := 2, ground := Ground.data }, { on := 0, ground := Ground.chain }], guard := none }) rfl (by kernel_rfl) ?_
        refine Rg.stepF ?_ ?_
        · kernel_rfl
        intro K hK
        rw [if_pos (by rfl)]
        go_simp
        go_at_call 45
        refine (CT.out (some ⟨q, 0, none⟩) 4 V3.heap.size V3 (Nat.le_refl _) HM.out).mono ?_
        rintro e V4 ⟨AZ, cz, rfl, -, hb, -⟩
        have BN3 := Lib.hid (BN3.out.below hb BN3.out.lt)
        have BN4 := Lib.hid (BN4.out.below hb BN4.out.lt)
        have BP := Lib.hid (BP.out.below hb BP.out.lt)
        have HX := Lib.hid (HX.out.below (hb.mono hb0))
        have HY := Lib.hid (HY.out.below (hb.mono hb0))
        have HB := Lib.hid (onward HB.out (Nat.le_refl _) hb)
        have hb0 := Nat.le_trans hb0 hb.size
        clear hb
        go_wp2_with fail
        refine hK.out _ _ ?_
        clear hK K
        try simp only [Act.put, List.setIfInBounds_toArray, List.set_cons_zero, List.set_cons_succ]
        refine Rg.takeP (i := 4) (oi := { dst := some 35, op := Op.move (Operand.tmp 39), type := 53, pos := "links.go:135", after := #[{ on := 3, ground := Ground.data }], guard := none }) (v := ?_) rfl (by kernel_rfl) (fun _ _ _ h => h) (by rfl) ?_ ?_
        rotate_left 1
        · (intro w; go_simp; (try with_reducible rfl))
        try simp only [Act.put, List.setIfInBounds_toArray, List.set_cons_zero, List.set_cons_succ]
        refine Rg.takeP (i := 5) (oi := { dst := some 40, op := Op.extract (Operand.tmp 35) 0, type := 31, pos := "links.go:135", after := #[{ on := 4, ground := Ground.data }], guard := none }) (v := ?_) rfl (by kernel_rfl) (fun _ _ _ h => h) (by rfl) ?_ ?_
        rotate_left 1
        · (intro w; go_simp; (try with_reducible rfl))
        try simp only [Act.put, List.setIfInBounds_toArray, List.set_cons_zero, List.set_cons_succ]
        refine Rg.takeP (i := 6) (oi := { dst := some 41, op := Op.extract (Operand.tmp 35) 1, type := 52, pos := "links.go:135", after := #[{ on := 4, ground := Ground.data }, { on := 9, ground := Ground.gcOnly Departure.lateStores }], guard := none }) (v := ?_) rfl (by kernel_rfl) (fun _ _ _ h => h) (by rfl) ?_ ?_
        rotate_left 1
        · (intro w; go_simp; (try with_reducible rfl))
        try simp only [Act.put, List.setIfInBounds_toArray, List.set_cons_zero, List.set_cons_succ]
        refine Rg.takeP (i := 7) (oi := { dst := some 42, op := Op.extract (Operand.tmp 35) 2, type := 38, pos := "links.go:135", after := #[{ on := 4, ground := Ground.data }, { on := 10, ground := Ground.gcOnly Departure.lateStores }], guard := none }) (v := ?_) rfl (by kernel_rfl) (fun _ _ _ h => h) (by rfl) ?_ ?_
        rotate_left 1
        · (intro w; go_simp; (try with_reducible rfl))
        try simp only [Act.put, List.setIfInBounds_toArray, List.set_cons_zero, List.set_cons_succ]
        refine Rg.oneR (i := 9) (oi := { dst := none, op := Op.store 31 (Operand.tmp 12) (Operand.tmp 40), type := 0, pos := "links.go:135", after := #[{ on := 8, ground := Ground.data }, { on := 5, ground := Ground.data }, { on := 3, ground := Ground.chain }, { on := 0, ground := Ground.phase }, { on := 1, ground := Ground.phase }, { on := 2, ground := Ground.phase }, { on := 3, ground := Ground.phase }, { on := 4, ground := Ground.phase }, { on := 5, ground := Ground.phase }, { on := 6, ground := Ground.textOnly Departure.lateStores }, { on := 7, ground := Ground.textOnly Departure.lateStores }, { on := 8, ground := Ground.phase }], guard := none }) rfl (by kernel_rfl) ?_
        refine Rg.stepF ?_ ?_
        · kernel_rfl
        intro K hK
        rw [if_pos (by rfl)]
        refine wp_store_row 31 _ _ rfl p Ra rfl rfl 31 _ BP.out ira zra ora ?_
        have BP := Lib.hid (BP.out.setRow Ra)
        have BN3 := Lib.hid (BN3.out.setRow_other (g' := p) (by omega) Ra)
        have BN4 := Lib.hid (BN4.out.setRow_other (g' := p) (by omega) Ra)
        have HX := Lib.hid (HX.out.setRowOut hp0 Ra)
        have HY := Lib.hid (HY.out.setRowOut hp0 Ra)
        have HB := Lib.hid (below_setRow HB.out hpw Ra)
        have hb0 := Nat.le_trans hb0 (below_setRow (Below.refl 0 V4) (Nat.zero_le p) Ra).size
        generalize (V4.setRow p Ra) = V5 at *
        refine hK.out _ _ ?_
        clear hK K
        try simp only [Act.put, List.setIfInBounds_toArray, List.set_cons_zero, List.set_cons_succ]
        refine Rg.takeP (i := 10) (oi := { dst := some 13, op := Op.assign (Operand.tmp 41), type := 52, pos := "links.go:135", after := #[{ on := 6, ground := Ground.data }, { on := 9, ground := Ground.chain }, { on := 0, ground := Ground.phase }, { on := 1, ground := Ground.phase }, { on := 2, ground := Ground.phase }, { on := 3, ground := Ground.phase }, { on := 4, ground := Ground.phase }, { on := 5, ground := Ground.phase }, { on := 6, ground := Ground.phase }, { on := 7, ground := Ground.textOnly Departure.lateStores }, { on := 8, ground := Ground.phase }, { on := 9, ground := Ground.phase }], guard := none }) (v := ?_) rfl (by kernel_rfl) (fun _ _ _ h => h) (by rfl) ?_ ?_
        rotate_left 1
        · (intro w; go_simp; (try with_reducible rfl))
        try simp only [Act.put, List.setIfInBounds_toArray, List.set_cons_zero, List.set_cons_succ]
        refine Rg.takeP (i := 11) (oi := { dst := some 14, op := Op.assign (Operand.tmp 42), type := 38, pos := "links.go:135", after := #[{ on := 7, ground := Ground.data }, { on := 10, ground := Ground.chain }, { on := 0, ground := Ground.phase }, { on := 1, ground := Ground.phase }, { on := 2, ground := Ground.phase }, { on := 3, ground := Ground.phase }, { on := 4, ground := Ground.phase }, { on := 5, ground := Ground.phase }, { on := 6, ground := Ground.phase }, { on := 7, ground := Ground.phase }, { on := 8, ground := Ground.phase }, { on := 9, ground := Ground.phase }, { on := 10, ground := Ground.phase }], guard := none }) (v := ?_) rfl (by kernel_rfl) (fun _ _ _ h => h) (by rfl) ?_ ?_
        rotate_left 1
        · (intro w; go_simp; (try with_reducible rfl))
        try simp only [Act.put, List.setIfInBounds_toArray, List.set_cons_zero, List.set_cons_succ]
        refine Rg.doneR (by kernel_rfl) ?_ _
        refine NoPanic.normal ?_
        go_wp2_with fail
        go_meet
        exact ⟨p, rfl, BP.out, BN3.out, BN4.out, HX.out.more hb0, HY.out.more hb0, HB.out⟩
    ·
      refine Rg.stepF ?_ ?_
      · kernel_rfl
      intro K hK
      rw [if_pos (by rfl)]
      have hmk := make4
      go_simp
      clear hmk
      have HM : Hid (Rd (V0.alloc (.cells #[.bool false, .bool false, .bool false, .bool false] 4)) (V0.alloc (.cells #[.bool false, .bool false, .bool false, .bool false] 4)).heap.size 1 (some ⟨V0.heap.size, 0, none⟩) 4 (boolsV [false, false, false, false])) := Lib.hid ((rd_of_blk (Blk.fresh V0 4 #[.bool false, .bool false, .bool false, .bool false])).more (by simp))
      have hb : Below V0.heap.size V0 (V0.alloc (.cells #[.bool false, .bool false, .bool false, .bool false] 4)) := (Below.refl _ _).alloc (Nat.le_refl _) _
      have BN3 := Lib.hid (BN3.out.below hb BN3.out.lt)
      have BN4 := Lib.hid (BN4.out.below hb BN4.out.lt)
      have HX := Lib.hid (HX.out.below (hb.mono hb0))
      have HY := Lib.hid (HY.out.below (hb.mono hb0))
      have HB := Lib.hid (onward HB.out (Nat.le_refl _) hb)
      have hb0 := Nat.le_trans hb0 hb.size
      clear hb
      generalize (V0.alloc (.cells #[.bool false, .bool false, .bool false, .bool false] 4)) = V1 at *
      obtain ⟨q, hq⟩ : ∃ q, V0.heap.size = q := ⟨_, rfl⟩
      rw [hq] at HM ⊢
      clear hq
      refine hK.out _ _ ?_
      clear hK K
      try simp only [Act.put, List.setIfInBounds_toArray, List.set_cons_zero, List.set_cons_succ]
      refine Rg.takeP (i := 2) (oi := { dst := some 38, op := Op.build 51 #[(2, Operand.tmp 37)], type := 51, pos := "links.go:135", after := #[{ on := 1, ground := Ground.data }], guard := none }) (v := ?_) rfl (by kernel_rfl) (fun _ _ _ h => h) (by rfl) ?_ ?_
      rotate_left 1
      · (intro w; go_simp; (try with_reducible rfl))
      try simp only [Act.put, List.setIfInBounds_toArray, List.set_cons_zero, List.set_cons_succ]
      refine Rg.twoR (i := 0) (j := 8) (oi := { dst := some 36, op := Op.call { callee := Callee.value (Operand.func 32), args := #[], argTypes := #[] }, type := 31, pos := "links.go:135", after := #[], guard := none }) (oj := { dst := some 12, op := Op.alloc 31, type := 0, pos := "links.go:135", after := #[], guard := none }) (by kernel_rfl) rfl rfl ?_ ?_
      ·
        refine Rg.stepF ?_ ?_
        · kernel_rfl
        intro K hK
        rw [if_pos (by rfl)]
        go_simp
        go_at_call 32
        refine (CB.out _).mono ?_
        rintro e V2 ⟨rfl, hb⟩
        have BN3 := Lib.hid (BN3.out.below hb BN3.out.lt)
        have BN4 := Lib.hid (BN4.out.below hb BN4.out.lt)
        have HX := Lib.hid (HX.out.below (hb.mono hb0))
        have HY := Lib.hid (HY.out.below (hb.mono hb0))
        have HM := Lib.hid ((HM.out.below hb).more hb.size)
        have HB := Lib.hid (onward HB.out (Nat.le_refl _) hb)
        have hb0 := Nat.le_trans hb0 hb.size
        clear hb
        go_wp2_with fail
        refine hK.out _ _ ?_
        clear hK K
        try simp only [Act.put, List.setIfInBounds_toArray, List.set_cons_zero, List.set_cons_succ]
        refine Rg.twoR (i := 3) (j := 8) (oi := { dst := some 39, op := Op.call { callee := Callee.value (Operand.func 45), args := #[Operand.tmp 36, Operand.tmp 38], argTypes := #[31, 51] }, type := 53, pos := "links.go:135", after := #[{ on := 0, ground := Ground.data }, { on := 2, ground := Ground.data }, { on := 0, ground := Ground.chain }], guard := none }) (oj := { dst := some 12, op := Op.alloc 31, type := 0, pos := "links.go:135", after := #[], guard := none }) (by kernel_rfl) rfl rfl ?_ ?_
        ·
          refine Rg.stepF ?_ ?_
          · kernel_rfl
          intro K hK
          rw [if_pos (by rfl)]
          go_simp
          go_at_call 45
          refine (CT.out (some ⟨q, 0, none⟩) 4 V2.heap.size V2 (Nat.le_refl _) HM.out).mono ?_
          rintro e V3 ⟨AZ, cz, rfl, -, hb, -⟩
          have BN3 := Lib.hid (BN3.out.below hb BN3.out.lt)
          have BN4 := Lib.hid (BN4.out.below hb BN4.out.lt)
          have HX := Lib.hid (HX.out.below (hb.mono hb0))
          have HY := Lib.hid (HY.out.below (hb.mono hb0))
          have HB := Lib.hid (onward HB.out (Nat.le_refl _) hb)
          have hb0 := Nat.le_trans hb0 hb.size
          clear hb
          go_wp2_with fail
          refine hK.out _ _ ?_
          clear hK K
          try simp only [Act.put, List.setIfInBounds_toArray, List.set_cons_zero, List.set_cons_succ]
          refine Rg.takeP (i := 4) (oi := { dst := some 35, op := Op.move (Operand.tmp 39), type := 53, pos := "links.go:135", after := #[{ on := 3, ground := Ground.data }], guard := none }) (v := ?_) rfl (by kernel_rfl) (fun _ _ _ h => h) (by rfl) ?_ ?_
          rotate_left 1
          · (intro w; go_simp; (try with_reducible rfl))
          try simp only [Act.put, List.setIfInBounds_toArray, List.set_cons_zero, List.set_cons_succ]
          refine Rg.takeP (i := 5) (oi := { dst := some 40, op := Op.extract (Operand.tmp 35) 0, type := 31, pos := "links.go:135", after := #[{ on := 4, ground := Ground.data }], guard := none }) (v := ?_) rfl (by kernel_rfl) (fun _ _ _ h => h) (by rfl) ?_ ?_
          rotate_left 1
          · (intro w; go_simp; (try with_reducible rfl))
          try simp only [Act.put, List.setIfInBounds_toArray, List.set_cons_zero, List.set_cons_succ]
          refine Rg.takeP (i := 6) (oi := { dst := some 41, op := Op.extract (Operand.tmp 35) 1, type := 52, pos := "links.go:135", after := #[{ on := 4, ground := Ground.data }, { on := 9, ground := Ground.gcOnly Departure.lateStores }], guard := none }) (v := ?_) rfl (by kernel_rfl) (fun _ _ _ h => h) (by rfl) ?_ ?_
          rotate_left 1
          · (intro w; go_simp; (try with_reducible rfl))
          try simp only [Act.put, List.setIfInBounds_toArray, List.set_cons_zero, List.set_cons_succ]
          refine Rg.takeP (i := 7) (oi := { dst := some 42, op := Op.extract (Operand.tmp 35) 2, type := 38, pos := "links.go:135", after := #[{ on := 4, ground := Ground.data }, { on := 10, ground := Ground.gcOnly Departure.lateStores }], guard := none }) (v := ?_) rfl (by kernel_rfl) (fun _ _ _ h => h) (by rfl) ?_ ?_
          rotate_left 1
          · (intro w; go_simp; (try with_reducible rfl))
          try simp only [Act.put, List.setIfInBounds_toArray, List.set_cons_zero, List.set_cons_succ]
          refine Rg.oneR (i := 8) (oi := { dst := some 12, op := Op.alloc 31, type := 0, pos := "links.go:135", after := #[], guard := none }) rfl (by kernel_rfl) ?_
          refine Rg.stepF ?_ ?_
          · kernel_rfl
          intro K hK
          rw [if_pos (by rfl)]
          go_simp
          have BP : Hid (Blk (V3.alloc (.cells #[.bool false, .bool false, .bool false, .bool false, .int .i64 0, .int .i64 0, .int .i64 0, .int .i64 0, .int .i64 0, .int .i64 0, .int .i64 0, .int .i64 0] 31)) V3.heap.size 31 #[.bool false, .bool false, .bool false, .bool false, .int .i64 0, .int .i64 0, .int .i64 0, .int .i64 0, .int .i64 0, .int .i64 0, .int .i64 0, .int .i64 0]) := Lib.hid (Blk.fresh _ _ _)
          have hp0 := hb0
          have hp3 := BN3.out.lt
          have hp4 := BN4.out.lt
          have hpw := HB.out.size
          have hb : Below V3.heap.size V3 (V3.alloc (.cells #[.bool false, .bool false, .bool false, .bool false, .int .i64 0, .int .i64 0, .int .i64 0, .int .i64 0, .int .i64 0, .int .i64 0, .int .i64 0, .int .i64 0] 31)) := (Below.refl _ _).alloc (Nat.le_refl _) _
          have BN3 := Lib.hid (BN3.out.below hb BN3.out.lt)
          have BN4 := Lib.hid (BN4.out.below hb BN4.out.lt)
          have HX := Lib.hid (HX.out.below (hb.mono hb0))
          have HY := Lib.hid (HY.out.below (hb.mono hb0))
          have HB := Lib.hid (onward HB.out (Nat.le_refl _) hb)
          have hb0 := Nat.le_trans hb0 hb.size
          clear hb
          generalize (V3.alloc (.cells #[.bool false, .bool false, .bool false, .bool false, .int .i64 0, .int .i64 0, .int .i64 0, .int .i64 0, .int .i64 0, .int .i64 0, .int .i64 0, .int .i64 0] 31)) = V4 at *
          obtain ⟨p, hp⟩ : ∃ p, V3.heap.size = p := ⟨_, rfl⟩
          rw [hp] at BP hp0 hp3 hp4 hpw ⊢
          clear hp
          refine hK.out _ _ ?_
          clear hK K
          try simp only [Act.put, List.setIfInBounds_toArray, List.set_cons_zero, List.set_cons_succ]
          refine Rg.oneR (i := 9) (oi := { dst := none, op := Op.store 31 (Operand.tmp 12) (Operand.tmp 40), type := 0, pos := "links.go:135", after := #[{ on := 8, ground := Ground.data }, { on := 5, ground := Ground.data }, { on := 3, ground := Ground.chain }, { on := 0, ground := Ground.phase }, { on := 1, ground := Ground.phase }, { on := 2, ground := Ground.phase }, { on := 3, ground := Ground.phase }, { on := 4, ground := Ground.phase }, { on := 5, ground := Ground.phase }, { on := 6, ground := Ground.textOnly Departure.lateStores }, { on := 7, ground := Ground.textOnly Departure.lateStores }, { on := 8, ground := Ground.phase }], guard := none }) rfl (by kernel_rfl) ?_
          refine Rg.stepF ?_ ?_
          · kernel_rfl
          intro K hK
          rw [if_pos (by rfl)]
          refine wp_store_row 31 _ _ rfl p Ra rfl rfl 31 _ BP.out ira zra ora ?_
          have BP := Lib.hid (BP.out.setRow Ra)
          have BN3 := Lib.hid (BN3.out.setRow_other (g' := p) (by omega) Ra)
          have BN4 := Lib.hid (BN4.out.setRow_other (g' := p) (by omega) Ra)
          have HX := Lib.hid (HX.out.setRowOut hp0 Ra)
          have HY := Lib.hid (HY.out.setRowOut hp0 Ra)
          have HB := Lib.hid (below_setRow HB.out hpw Ra)
          have hb0 := Nat.le_trans hb0 (below_setRow (Below.refl 0 V4) (Nat.zero_le p) Ra).size
          generalize (V4.setRow p Ra) = V5 at *
          refine hK.out _ _ ?_
          clear hK K
          try simp only [Act.put, List.setIfInBounds_toArray, List.set_cons_zero, List.set_cons_succ]
          refine Rg.takeP (i := 10) (oi := { dst := some 13, op := Op.assign (Operand.tmp 41), type := 52, pos := "links.go:135", after := #[{ on := 6, ground := Ground.data }, { on := 9, ground := Ground.chain }, { on := 0, ground := Ground.phase }, { on := 1, ground := Ground.phase }, { on := 2, ground := Ground.phase }, { on := 3, ground := Ground.phase }, { on := 4, ground := Ground.phase }, { on := 5, ground := Ground.phase }, { on := 6, ground := Ground.phase }, { on := 7, ground := Ground.textOnly Departure.lateStores }, { on := 8, ground := Ground.phase }, { on := 9, ground := Ground.phase }], guard := none }) (v := ?_) rfl (by kernel_rfl) (fun _ _ _ h => h) (by rfl) ?_ ?_
          rotate_left 1
          · (intro w; go_simp; (try with_reducible rfl))
          try simp only [Act.put, List.setIfInBounds_toArray, List.set_cons_zero, List.set_cons_succ]
          refine Rg.takeP (i := 11) (oi := { dst := some 14, op := Op.assign (Operand.tmp 42), type := 38, pos := "links.go:135", after := #[{ on := 7, ground := Ground.data }, { on := 10, ground := Ground.chain }, { on := 0, ground := Ground.phase }, { on := 1, ground := Ground.phase }, { on := 2, ground := Ground.phase }, { on := 3, ground := Ground.phase }, { on := 4, ground := Ground.phase }, { on := 5, ground := Ground.phase }, { on := 6, ground := Ground.phase }, { on := 7, ground := Ground.phase }, { on := 8, ground := Ground.phase }, { on := 9, ground := Ground.phase }, { on := 10, ground := Ground.phase }], guard := none }) (v := ?_) rfl (by kernel_rfl) (fun _ _ _ h => h) (by rfl) ?_ ?_
          rotate_left 1
          · (intro w; go_simp; (try with_reducible rfl))
          try simp only [Act.put, List.setIfInBounds_toArray, List.set_cons_zero, List.set_cons_succ]
          refine Rg.doneR (by kernel_rfl) ?_ _
          refine NoPanic.normal ?_
          go_wp2_with fail
          go_meet
          exact ⟨p, rfl, BP.out, BN3.out, BN4.out, HX.out.more hb0, HY.out.more hb0, HB.out⟩
        ·
          refine Rg.stepF ?_ ?_
          · kernel_rfl
          intro K hK
          rw [if_pos (by rfl)]
          go_simp
          have BP : Hid (Blk (V2.alloc (.cells #[.bool false, .bool false, .bool false, .bool false, .int .i64 0, .int .i64 0, .int .i64 0, .int .i64 0, .int .i64 0, .int .i64 0, .int .i64 0, .int .i64 0] 31)) V2.heap.size 31 #[.bool false, .bool false, .bool false, .bool false, .int .i64 0, .int .i64 0, .int .i64 0, .int .i64 0, .int .i64 0, .int .i64 0, .int .i64 0, .int .i64 0]) := Lib.hid (Blk.fresh _ _ _)
          have hp0 := hb0
          have hp3 := BN3.out.lt
          have hp4 := BN4.out.lt
          have hpw := HB.out.size
          have hb : Below V2.heap.size V2 (V2.alloc (.cells #[.bool false, .bool false, .bool false, .bool false, .int .i64 0, .int .i64 0, .int .i64 0, .int .i64 0, .int .i64 0, .int .i64 0, .int .i64 0, .int .i64 0] 31)) := (Below.refl _ _).alloc (Nat.le_refl _) _
          have BN3 := Lib.hid (BN3.out.below hb BN3.out.lt)
          have BN4 := Lib.hid (BN4.out.below hb BN4.out.lt)
          have HX := Lib.hid (HX.out.below (hb.mono hb0))
          have HY := Lib.hid (HY.out.below (hb.mono hb0))
          have HM := Lib.hid ((HM.out.below hb).more hb.size)
          have HB := Lib.hid (onward HB.out (Nat.le_refl _) hb)
          have hb0 := Nat.le_trans hb0 hb.size
          clear hb
          generalize (V2.alloc (.cells #[.bool false, .bool false, .bool false, .bool false, .int .i64 0, .int .i64 0, .int .i64 0, .int .i64 0, .int .i64 0, .int .i64 0, .int .i64 0, .int .i64 0] 31)) = V3 at *
          obtain ⟨p, hp⟩ : ∃ p, V2.heap.size = p := ⟨_, rfl⟩
          rw [hp] at BP hp0 hp3 hp4 hpw ⊢
          clear hp
          refine hK.out _ _ ?_
          clear hK K
          try simp only [Act.put, List.setIfInBounds_toArray, List.set_cons_zero, List.set_cons_succ]
          refine Rg.oneR (i := 3) (oi := { dst := some 39, op := Op.call { callee := Callee.value (Operand.func 45), args := #[Operand.tmp 36, Operand.tmp 38], argTypes := #[31, 51] }, type := 53, pos := "links.go:135", after := #[{ on := 0, ground := Ground.data }, { on := 2, ground := Ground.data }, { on := 0, ground := Ground.chain }], guard := none }) rfl (by kernel_rfl) ?_
          refine Rg.stepF ?_ ?_
          · kernel_rfl
          intro K hK
          rw [if_pos (by rfl)]
          go_simp
          go_at_call 45
          refine (CT.out (some ⟨q, 0, none⟩) 4 V3.heap.size V3 (Nat.le_refl _) HM.out).mono ?_
          rintro e V4 ⟨AZ, cz, rfl, -, hb, -⟩
          have BN3 := Lib.hid (BN3.out.below hb BN3.out.lt)
          have BN4 := Lib.hid (BN4.out.below hb BN4.out.lt)
          have BP := Lib.hid (BP.out.below hb BP.out.lt)
          have HX := Lib.hid (HX.out.below (hb.mono hb0))
          have HY := Lib.hid (HY.out.below (hb.mono hb0))
          have HB := Lib.hid (onward HB.out (Nat.le_refl _) hb)
          have hb0 := Nat.le_trans hb0 hb.size
          clear hb
          go_wp2_with fail
          refine hK.out _ _ ?_
          clear hK K
          try simp only [Act.put, List.setIfInBounds_toArray, List.set_cons_zero, List.set_cons_succ]
          refine Rg.takeP (i := 4) (oi := { dst := some 35, op := Op.move (Operand.tmp 39), type := 53, pos := "links.go:135", after := #[{ on := 3, ground := Ground.data }], guard := none }) (v := ?_) rfl (by kernel_rfl) (fun _ _ _ h => h) (by rfl) ?_ ?_
          rotate_left 1
          · (intro w; go_simp; (try with_reducible rfl))
          try simp only [Act.put, List.setIfInBounds_toArray, List.set_cons_zero, List.set_cons_succ]
          refine Rg.takeP (i := 5) (oi := { dst := some 40, op := Op.extract (Operand.tmp 35) 0, type := 31, pos := "links.go:135", after := #[{ on := 4, ground := Ground.data }], guard := none }) (v := ?_) rfl (by kernel_rfl) (fun _ _ _ h => h) (by rfl) ?_ ?_
          rotate_left 1
          · (intro w; go_simp; (try with_reducible rfl))
          try simp only [Act.put, List.setIfInBounds_toArray, List.set_cons_zero, List.set_cons_succ]
          refine Rg.takeP (i := 6) (oi := { dst := some 41, op := Op.extract (Operand.tmp 35) 1, type := 52, pos := "links.go:135", after := #[{ on := 4, ground := Ground.data }, { on := 9, ground := Ground.gcOnly Departure.lateStores }], guard := none }) (v := ?_) rfl (by kernel_rfl) (fun _ _ _ h => h) (by rfl) ?_ ?_
          rotate_left 1
          · (intro w; go_simp; (try with_reducible rfl))
          try simp only [Act.put, List.setIfInBounds_toArray, List.set_cons_zero, List.set_cons_succ]
          refine Rg.takeP (i := 7) (oi := { dst := some 42, op := Op.extract (Operand.tmp 35) 2, type := 38, pos := "links.go:135", after := #[{ on := 4, ground := Ground.data }, { on := 10, ground := Ground.gcOnly Departure.lateStores }], guard := none }) (v := ?_) rfl (by kernel_rfl) (fun _ _ _ h => h) (by rfl) ?_ ?_
          rotate_left 1
          · (intro w; go_simp; (try with_reducible rfl))
          try simp only [Act.put, List.setIfInBounds_toArray, List.set_cons_zero, List.set_cons_succ]
          refine Rg.oneR (i := 9) (oi := { dst := none, op := Op.store 31 (Operand.tmp 12) (Operand.tmp 40), type := 0, pos := "links.go:135", after := #[{ on := 8, ground := Ground.data }, { on := 5, ground := Ground.data }, { on := 3, ground := Ground.chain }, { on := 0, ground := Ground.phase }, { on := 1, ground := Ground.phase }, { on := 2, ground := Ground.phase }, { on := 3, ground := Ground.phase }, { on := 4, ground := Ground.phase }, { on := 5, ground := Ground.phase }, { on := 6, ground := Ground.textOnly Departure.lateStores }, { on := 7, ground := Ground.textOnly Departure.lateStores }, { on := 8, ground := Ground.phase }], guard := none }) rfl (by kernel_rfl) ?_
          refine Rg.stepF ?_ ?_
          · kernel_rfl
          intro K hK
          rw [if_pos (by rfl)]
          refine wp_store_row 31 _ _ rfl p Ra rfl rfl 31 _ BP.out ira zra ora ?_
          have BP := Lib.hid (BP.out.setRow Ra)
          have BN3 := Lib.hid (BN3.out.setRow_other (g' := p) (by omega) Ra)
          have BN4 := Lib.hid (BN4.out.setRow_other (g' := p) (by omega) Ra)
          have HX := Lib.hid (HX.out.setRowOut hp0 Ra)
          have HY := Lib.hid (HY.out.setRowOut hp0 Ra)
          have HB := Lib.hid (below_setRow HB.out hpw Ra)
          have hb0 := Nat.le_trans hb0 (below_setRow (Below.refl 0 V4) (Nat.zero_le p) Ra).size
          generalize (V4.setRow p Ra) = V5 at *
          refine hK.out _ _ ?_
          clear hK K
          try simp only [Act.put, List.setIfInBounds_toArray, List.set_cons_zero, List.set_cons_succ]
          refine Rg.takeP (i := 10) (oi := { dst := some 13, op := Op.assign (Operand.tmp 41), type := 52, pos := "links.go:135", after := #[{ on := 6, ground := Ground.data }, { on := 9, ground := Ground.chain }, { on := 0, ground := Ground.phase }, { on := 1, ground := Ground.phase }, { on := 2, ground := Ground.phase }, { on := 3, ground := Ground.phase }, { on := 4, ground := Ground.phase }, { on := 5, ground := Ground.phase }, { on := 6, ground := Ground.phase }, { on := 7, ground := Ground.textOnly Departure.lateStores }, { on := 8, ground := Ground.phase }, { on := 9, ground := Ground.phase }], guard := none }) (v := ?_) rfl (by kernel_rfl) (fun _ _ _ h => h) (by rfl) ?_ ?_
          rotate_left 1
          · (intro w; go_simp; (try with_reducible rfl))
          try simp only [Act.put, List.setIfInBounds_toArray, List.set_cons_zero, List.set_cons_succ]
          refine Rg.takeP (i := 11) (oi := { dst := some 14, op := Op.assign (Operand.tmp 42), type := 38, pos := "links.go:135", after := #[{ on := 7, ground := Ground.data }, { on := 10, ground := Ground.chain }, { on := 0, ground := Ground.phase }, { on := 1, ground := Ground.phase }, { on := 2, ground := Ground.phase }, { on := 3, ground := Ground.phase }, { on := 4, ground := Ground.phase }, { on := 5, ground := Ground.phase }, { on := 6, ground := Ground.phase }, { on := 7, ground := Ground.phase }, { on := 8, ground := Ground.phase }, { on := 9, ground := Ground.phase }, { on := 10, ground := Ground.phase }], guard := none }) (v := ?_) rfl (by kernel_rfl) (fun _ _ _ h => h) (by rfl) ?_ ?_
          rotate_left 1
          · (intro w; go_simp; (try with_reducible rfl))
          try simp only [Act.put, List.setIfInBounds_toArray, List.set_cons_zero, List.set_cons_succ]
          refine Rg.doneR (by kernel_rfl) ?_ _
          refine NoPanic.normal ?_
          go_wp2_with fail
          go_meet
          exact ⟨p, rfl, BP.out, BN3.out, BN4.out, HX.out.more hb0, HY.out.more hb0, HB.out⟩
      ·
        refine Rg.stepF ?_ ?_
        · kernel_rfl
        intro K hK
        rw [if_pos (by rfl)]
        go_simp
        have BP : Hid (Blk (V1.alloc (.cells #[.bool false, .bool false, .bool false, .bool false, .int .i64 0, .int .i64 0, .int .i64 0, .int .i64 0, .int .i64 0, .int .i64 0, .int .i64 0, .int .i64 0] 31)) V1.heap.size 31 #[.bool false, .bool false, .bool false, .bool false, .int .i64 0, .int .i64 0, .int .i64 0, .int .i64 0, .int .i64 0, .int .i64 0, .int .i64 0, .int .i64 0]) := Lib.hid (Blk.fresh _ _ _)
        have hp0 := hb0
        have hp3 := BN3.out.lt
        have hp4 := BN4.out.lt
        have hpw := HB.out.size
        have hb : Below V1.heap.size V1 (V1.alloc (.cells #[.bool false, .bool false, .bool false, .bool false, .int .i64 0, .int .i64 0, .int .i64 0, .int .i64 0, .int .i64 0, .int .i64 0, .int .i64 0, .int .i64 0] 31)) := (Below.refl _ _).alloc (Nat.le_refl _) _
        have BN3 := Lib.hid (BN3.out.below hb BN3.out.lt)
        have BN4 := Lib.hid (BN4.out.below hb BN4.out.lt)
        have HX := Lib.hid (HX.out.below (hb.mono hb0))
        have HY := Lib.hid (HY.out.below (hb.mono hb0))
        have HM := Lib.hid ((HM.out.below hb).more hb.size)
        have HB := Lib.hid (onward HB.out (Nat.le_refl _) hb)
        have hb0 := Nat.le_trans hb0 hb.size
        clear hb
        generalize (V1.alloc (.cells #[.bool false, .bool false, .bool false, .bool false, .int .i64 0, .int .i64 0, .int .i64 0, .int .i64 0, .int .i64 0, .int .i64 0, .int .i64 0, .int .i64 0] 31)) = V2 at *
        obtain ⟨p, hp⟩ : ∃ p, V1.heap.size = p := ⟨_, rfl⟩
        rw [hp] at BP hp0 hp3 hp4 hpw ⊢
        clear hp
        refine hK.out _ _ ?_
        clear hK K
        try simp only [Act.put, List.setIfInBounds_toArray, List.set_cons_zero, List.set_cons_succ]
        refine Rg.oneR (i := 0) (oi := { dst := some 36, op := Op.call { callee := Callee.value (Operand.func 32), args := #[], argTypes := #[] }, type := 31, pos := "links.go:135", after := #[], guard := none }) rfl (by kernel_rfl) ?_
        refine Rg.stepF ?_ ?_
        · kernel_rfl
        intro K hK
        rw [if_pos (by rfl)]
        go_simp
        go_at_call 32
        refine (CB.out _).mono ?_
        rintro e V3 ⟨rfl, hb⟩
        have BN3 := Lib.hid (BN3.out.below hb BN3.out.lt)
        have BN4 := Lib.hid (BN4.out.below hb BN4.out.lt)
        have BP := Lib.hid (BP.out.below hb BP.out.lt)
        have HX := Lib.hid (HX.out.below (hb.mono hb0))
        have HY := Lib.hid (HY.out.below (hb.mono hb0))
        have HM := Lib.hid ((HM.out.below hb).more hb.size)
        have HB := Lib.hid (onward HB.out (Nat.le_refl _) hb)
        have hb0 := Nat.le_trans hb0 hb.size
        clear hb
        go_wp2_with fail
        refine hK.out _ _ ?_
        clear hK K
        try simp only [Act.put, List.setIfInBounds_toArray, List.set_cons_zero, List.set_cons_succ]
        refine Rg.oneR (i := 3) (oi := { dst := some 39, op := Op.call { callee := Callee.value (Operand.func 45), args := #[Operand.tmp 36, Operand.tmp 38], argTypes := #[31, 51] }, type := 53, pos := "links.go:135", after := #[{ on := 0, ground := Ground.data }, { on := 2, ground := Ground.data }, { on := 0, ground := Ground.chain }], guard := none }) rfl (by kernel_rfl) ?_
        refine Rg.stepF ?_ ?_
        · kernel_rfl
        intro K hK
        rw [if_pos (by rfl)]
        go_simp
        go_at_call 45
        refine (CT.out (some ⟨q, 0, none⟩) 4 V3.heap.size V3 (Nat.le_refl _) HM.out).mono ?_
        rintro e V4 ⟨AZ, cz, rfl, -, hb, -⟩
        have BN3 := Lib.hid (BN3.out.below hb BN3.out.lt)
        have BN4 := Lib.hid (BN4.out.below hb BN4.out.lt)
        have BP := Lib.hid (BP.out.below hb BP.out.lt)
        have HX := Lib.hid (HX.out.below (hb.mono hb0))
        have HY := Lib.hid (HY.out.below (hb.mono hb0))
        have HB := Lib.hid (onward HB.out (Nat.le_refl _) hb)
        have hb0 := Nat.le_trans hb0 hb.size
        clear hb
        go_wp2_with fail
        refine hK.out _ _ ?_
        clear hK K
        try simp only [Act.put, List.setIfInBounds_toArray, List.set_cons_zero, List.set_cons_succ]
        refine Rg.takeP (i := 4) (oi := { dst := some 35, op := Op.move (Operand.tmp 39), type := 53, pos := "links.go:135", after := #[{ on := 3, ground := Ground.data }], guard := none }) (v := ?_) rfl (by kernel_rfl) (fun _ _ _ h => h) (by rfl) ?_ ?_
        rotate_left 1
        · (intro w; go_simp; (try with_reducible rfl))
        try simp only [Act.put, List.setIfInBounds_toArray, List.set_cons_zero, List.set_cons_succ]
        refine Rg.takeP (i := 5) (oi := { dst := some 40, op := Op.extract (Operand.tmp 35) 0, type := 31, pos := "links.go:135", after := #[{ on := 4, ground := Ground.data }], guard := none }) (v := ?_) rfl (by kernel_rfl) (fun _ _ _ h => h) (by rfl) ?_ ?_
        rotate_left 1
        · (intro w; go_simp; (try with_reducible rfl))
        try simp only [Act.put, List.setIfInBounds_toArray, List.set_cons_zero, List.set_cons_succ]
        refine Rg.takeP (i := 6) (oi := { dst := some 41, op := Op.extract (Operand.tmp 35) 1, type := 52, pos := "links.go:135", after := #[{ on := 4, ground := Ground.data }, { on := 9, ground := Ground.gcOnly Departure.lateStores }], guard := none }) (v := ?_) rfl (by kernel_rfl) (fun _ _ _ h => h) (by rfl) ?_ ?_
        rotate_left 1
        · (intro w; go_simp; (try with_reducible rfl))
        try simp only [Act.put, List.setIfInBounds_toArray, List.set_cons_zero, List.set_cons_succ]
        refine Rg.takeP (i := 7) (oi := { dst := some 42, op := Op.extract (Operand.tmp 35) 2, type := 38, pos := "links.go:135", after := #[{ on := 4, ground := Ground.data }, { on := 10, ground := Ground.gcOnly Departure.lateStores }], guard := none }) (v := ?_) rfl (by kernel_rfl) (fun _ _ _ h => h) (by rfl) ?_ ?_
        rotate_left 1
        · (intro w; go_simp; (try with_reducible rfl))
        try simp only [Act.put, List.setIfInBounds_toArray, List.set_cons_zero, List.set_cons_succ]
        refine Rg.oneR (i := 9) (oi := { dst := none, op := Op.store 31 (Operand.tmp 12) (Operand.tmp 40), type := 0, pos := "links.go:135", after := #[{ on := 8, ground := Ground.data }, { on := 5, ground := Ground.data }, { on := 3, ground := Ground.chain }, { on := 0, ground := Ground.phase }, { on := 1, ground := Ground.phase }, { on := 2, ground := Ground.phase }, { on := 3, ground := Ground.phase }, { on := 4, ground := Ground.phase }, { on := 5, ground := Ground.phase }, { on := 6, ground := Ground.textOnly Departure.lateStores }, { on := 7, ground := Ground.textOnly Departure.lateStores }, { on := 8, ground := Ground.phase }], guard := none }) rfl (by kernel_rfl) ?_
        refine Rg.stepF ?_ ?_
        · kernel_rfl
        intro K hK
        rw [if_pos (by rfl)]
        refine wp_store_row 31 _ _ rfl p Ra rfl rfl 31 _ BP.out ira zra ora ?_
        have BP := Lib.hid (BP.out.setRow Ra)
        have BN3 := Lib.hid (BN3.out.setRow_other (g' := p) (by omega) Ra)
        have BN4 := Lib.hid (BN4.out.setRow_other (g' := p) (by omega) Ra)
        have HX := Lib.hid (HX.out.setRowOut hp0 Ra)
        have HY := Lib.hid (HY.out.setRowOut hp0 Ra)
        have HB := Lib.hid (below_setRow HB.out hpw Ra)
        have hb0 := Nat.le_trans hb0 (below_setRow (Below.refl 0 V4) (Nat.zero_le p) Ra).size
        generalize (V4.setRow p Ra) = V5 at *
        refine hK.out _ _ ?_
        clear hK K
        try simp only [Act.put, List.setIfInBounds_toArray, List.set_cons_zero, List.set_cons_succ]
        refine Rg.takeP (i := 10) (oi := { dst := some 13, op := Op.assign (Operand.tmp 41), type := 52, pos := "links.go:135", after := #[{ on := 6, ground := Ground.data }, { on := 9, ground := Ground.chain }, { on := 0, ground := Ground.phase }, { on := 1, ground := Ground.phase }, { on := 2, ground := Ground.phase }, { on := 3, ground := Ground.phase }, { on := 4, ground := Ground.phase }, { on := 5, ground := Ground.phase }, { on := 6, ground := Ground.phase }, { on := 7, ground := Ground.textOnly Departure.lateStores }, { on := 8, ground := Ground.phase }, { on := 9, ground := Ground.phase }], guard := none }) (v := ?_) rfl (by kernel_rfl) (fun _ _ _ h => h) (by rfl) ?_ ?_
        rotate_left 1
        · (intro w; go_simp; (try with_reducible rfl))
        try simp only [Act.put, List.setIfInBounds_toArray, List.set_cons_zero, List.set_cons_succ]
        refine Rg.takeP (i := 11) (oi := { dst := some 14, op := Op.assign (Operand.tmp 42), type := 38, pos := "links.go:135", after := #[{ on := 7, ground := Ground.data }, { on := 10, ground := Ground.chain }, { on := 0, ground := Ground.phase }, { on := 1, ground := Ground.phase }, { on := 2, ground := Ground.phase }, { on := 3, ground := Ground.phase }, { on := 4, ground := Ground.phase }, { on := 5, ground := Ground.phase }, { on := 6, ground := Ground.phase }, { on := 7, ground := Ground.phase }, { on := 8, ground := Ground.phase }, { on := 9, ground := Ground.phase }, { on := 10, ground := Ground.phase }], guard := none }) (v := ?_) rfl (by kernel_rfl) (fun _ _ _ h => h) (by rfl) ?_ ?_
        rotate_left 1
        · (intro w; go_simp; (try with_reducible rfl))
        try simp only [Act.put, List.setIfInBounds_toArray, List.set_cons_zero, List.set_cons_succ]
        refine Rg.doneR (by kernel_rfl) ?_ _
        refine NoPanic.normal ?_
        go_wp2_with fail
        go_meet
        exact ⟨p, rfl, BP.out, BN3.out, BN4.out, HX.out.more hb0, HY.out.more hb0, HB.out⟩
    ·
      refine Rg.stepF ?_ ?_
      · kernel_rfl
      intro K hK
      rw [if_pos (by rfl)]
      go_simp
      have BP : Hid (Blk (V0.alloc (.cells #[.bool false, .bool false, .bool false, .bool false, .int .i64 0, .int .i64 0, .int .i64 0, .int .i64 0, .int .i64 0, .int .i64 0, .int .i64 0, .int .i64 0] 31)) V0.heap.size 31 #[.bool false, .bool false, .bool false, .bool false, .int .i64 0, .int .i64 0, .int .i64 0, .int .i64 0, .int .i64 0, .int .i64 0, .int .i64 0, .int .i64 0]) := Lib.hid (Blk.fresh _ _ _)
      have hp0 := hb0
      have hp3 := BN3.out.lt
      have hp4 := BN4.out.lt
      have hpw := HB.out.size
      have hb : Below V0.heap.size V0 (V0.alloc (.cells #[.bool false, .bool false, .bool false, .bool false, .int .i64 0, .int .i64 0, .int .i64 0, .int .i64 0, .int .i64 0, .int .i64 0, .int .i64 0, .int .i64 0] 31)) := (Below.refl _ _).alloc (Nat.le_refl _) _
      have BN3 := Lib.hid (BN3.out.below hb BN3.out.lt)
      have BN4 := Lib.hid (BN4.out.below hb BN4.out.lt)
      have HX := Lib.hid (HX.out.below (hb.mono hb0))
      have HY := Lib.hid (HY.out.below (hb.mono hb0))
      have HB := Lib.hid (onward HB.out (Nat.le_refl _) hb)
      have hb0 := Nat.le_trans hb0 hb.size
      clear hb
      generalize (V0.alloc (.cells #[.bool false, .bool false, .bool false, .bool false, .int .i64 0, .int .i64 0, .int .i64 0, .int .i64 0, .int .i64 0, .int .i64 0, .int .i64 0, .int .i64 0] 31)) = V1 at *
      obtain ⟨p, hp⟩ : ∃ p, V0.heap.size = p := ⟨_, rfl⟩
      rw [hp] at BP hp0 hp3 hp4 hpw ⊢
      clear hp
      refine hK.out _ _ ?_
      clear hK K
      try simp only [Act.put, List.setIfInBounds_toArray, List.set_cons_zero, List.set_cons_succ]
      refine Rg.twoR (i := 0) (j := 1) (oi := { dst := some 36, op := Op.call { callee := Callee.value (Operand.func 32), args := #[], argTypes := #[] }, type := 31, pos := "links.go:135", after := #[], guard := none }) (oj := { dst := some 37, op := Op.makeSlice 49 (Operand.const (Value.int IntKind.i64 4)) (Operand.const (Value.int IntKind.i64 4)), type := 49, pos := "links.go:135", after := #[], guard := none }) (by kernel_rfl) rfl rfl ?_ ?_
      ·
        refine Rg.stepF ?_ ?_
        · kernel_rfl
        intro K hK
        rw [if_pos (by rfl)]
        go_simp
        go_at_call 32
        refine (CB.out _).mono ?_
        rintro e V2 ⟨rfl, hb⟩
        have BN3 := Lib.hid (BN3.out.below hb BN3.out.lt)
        have BN4 := Lib.hid (BN4.out.below hb BN4.out.lt)
        have BP := Lib.hid (BP.out.below hb BP.out.lt)
        have HX := Lib.hid (HX.out.below (hb.mono hb0))
        have HY := Lib.hid (HY.out.below (hb.mono hb0))
        have HB := Lib.hid (onward HB.out (Nat.le_refl _) hb)
        have hb0 := Nat.le_trans hb0 hb.size
        clear hb
        go_wp2_with fail
        refine hK.out _ _ ?_
        clear hK K
        try simp only [Act.put, List.setIfInBounds_toArray, List.set_cons_zero, List.set_cons_succ]
        refine Rg.oneR (i := 1) (oi := { dst := some 37, op := Op.makeSlice 49 (Operand.const (Value.int IntKind.i64 4)) (Operand.const (Value.int IntKind.i64 4)), type := 49, pos := "links.go:135", after := #[], guard := none }) rfl (by kernel_rfl) ?_
        refine Rg.stepF ?_ ?_
        · kernel_rfl
        intro K hK
        rw [if_pos (by rfl)]
        have hmk := make4
        go_simp
        clear hmk
        have HM : Hid (Rd (V2.alloc (.cells #[.bool false, .bool false, .bool false, .bool false] 4)) (V2.alloc (.cells #[.bool false, .bool false, .bool false, .bool false] 4)).heap.size 1 (some ⟨V2.heap.size, 0, none⟩) 4 (boolsV [false, false, false, false])) := Lib.hid ((rd_of_blk (Blk.fresh V2 4 #[.bool false, .bool false, .bool false, .bool false])).more (by simp))
        have hb : Below V2.heap.size V2 (V2.alloc (.cells #[.bool false, .bool false, .bool false, .bool false] 4)) := (Below.refl _ _).alloc (Nat.le_refl _) _
        have BN3 := Lib.hid (BN3.out.below hb BN3.out.lt)
        have BN4 := Lib.hid (BN4.out.below hb BN4.out.lt)
        have BP := Lib.hid (BP.out.below hb BP.out.lt)
        have HX := Lib.hid (HX.out.below (hb.mono hb0))
        have HY := Lib.hid (HY.out.below (hb.mono hb0))
        have HB := Lib.hid (onward HB.out (Nat.le_refl _) hb)
        have hb0 := Nat.le_trans hb0 hb.size
        clear hb
        generalize (V2.alloc (.cells #[.bool false, .bool false, .bool false, .bool false] 4)) = V3 at *
        obtain ⟨q, hq⟩ : ∃ q, V2.heap.size = q := ⟨_, rfl⟩
        rw [hq] at HM ⊢
        clear hq
        refine hK.out _ _ ?_
        clear hK K
        try simp only [Act.put, List.setIfInBounds_toArray, List.set_cons_zero, List.set_cons_succ]
        refine Rg.takeP (i := 2) (oi := { dst := some 38, op := Op.build 51 #[(2, Operand.tmp 37)], type := 51, pos := "links.go:135", after := #[{ on := 1, ground := Ground.data }], guard := none }) (v := ?_) rfl (by kernel_rfl) (fun _ _ _ h => h) (by rfl) ?_ ?_
        rotate_left 1
        · (intro w; go_simp; (try with_reducible rfl))
        try simp only [Act.put, List.setIfInBounds_toArray, List.set_cons_zero, List.set_cons_succ]
        refine Rg.oneR (i := 3) (oi := { dst := some 39, op := Op.call { callee := Callee.value (Operand.func 45), args := #[Operand.tmp 36, Operand.tmp 38], argTypes := #[31, 51] }, type := 53, pos := "links.go:135", after := #[{ on := 0, ground := Ground.data }, { on := 2, ground := Ground.data }, { on := 0, ground := Ground.chain }], guard := none }) rfl (by kernel_rfl) ?_
        refine Rg.stepF ?_ ?_
        · kernel_rfl
        intro K hK
        rw [if_pos (by rfl)]
        go_simp
        go_at_call 45
        refine (CT.out (some ⟨q, 0, none⟩) 4 V3.heap.size V3 (Nat.le_refl _) HM.out).mono ?_
        rintro e V4 ⟨AZ, cz, rfl, -, hb, -⟩
        have BN3 := Lib.hid (BN3.out.below hb BN3.out.lt)
        have BN4 := Lib.hid (BN4.out.below hb BN4.out.lt)
        have BP := Lib.hid (BP.out.below hb BP.out.lt)
        have HX := Lib.hid (HX.out.below (hb.mono hb0))
        have HY := Lib.hid (HY.out.below (hb.mono hb0))
        have HB := Lib.hid (onward HB.out (Nat.le_refl _) hb)
        have hb0 := Nat.le_trans hb0 hb.size
        clear hb
        go_wp2_with fail
        refine hK.out _ _ ?_
        clear hK K
        try simp only [Act.put, List.setIfInBounds_toArray, List.set_cons_zero, List.set_cons_succ]
        refine Rg.takeP (i := 4) (oi := { dst := some 35, op := Op.move (Operand.tmp 39), type := 53, pos := "links.go:135", after := #[{ on := 3, ground := Ground.data }], guard := none }) (v := ?_) rfl (by kernel_rfl) (fun _ _ _ h => h) (by rfl) ?_ ?_
        rotate_left 1
        · (intro w; go_simp; (try with_reducible rfl))
        try simp only [Act.put, List.setIfInBounds_toArray, List.set_cons_zero, List.set_cons_succ]
        refine Rg.takeP (i := 5) (oi := { dst := some 40, op := Op.extract (Operand.tmp 35) 0, type := 31, pos := "links.go:135", after := #[{ on := 4, ground := Ground.data }], guard := none }) (v := ?_) rfl (by kernel_rfl) (fun _ _ _ h => h) (by rfl) ?_ ?_
        rotate_left 1
        · (intro w; go_simp; (try with_reducible rfl))
        try simp only [Act.put, List.setIfInBounds_toArray, List.set_cons_zero, List.set_cons_succ]
        refine Rg.takeP (i := 6) (oi := { dst := some 41, op := Op.extract (Operand.tmp 35) 1, type := 52, pos := "links.go:135", after := #[{ on := 4, ground := Ground.data }, { on := 9, ground := Ground.gcOnly Departure.lateStores }], guard := none }) (v := ?_) rfl (by kernel_rfl) (fun _ _ _ h => h) (by rfl) ?_ ?_
        rotate_left 1
        · (intro w; go_simp; (try with_reducible rfl))
        try simp only [Act.put, List.setIfInBounds_toArray, List.set_cons_zero, List.set_cons_succ]
        refine Rg.takeP (i := 7) (oi := { dst := some 42, op := Op.extract (Operand.tmp 35) 2, type := 38, pos := "links.go:135", after := #[{ on := 4, ground := Ground.data }, { on := 10, ground := Ground.gcOnly Departure.lateStores }], guard := none }) (v := ?_) rfl (by kernel_rfl) (fun _ _ _ h => h) (by rfl) ?_ ?_
        rotate_left 1
        · (intro w; go_simp; (try with_reducible rfl))
        try simp only [Act.put, List.setIfInBounds_toArray, List.set_cons_zero, List.set_cons_succ]
        refine Rg.oneR (i := 9) (oi := { dst := none, op := Op.store 31 (Operand.tmp 12) (Operand.tmp 40), type := 0, pos := "links.go:135", after := #[{ on := 8, ground := Ground.data }, { on := 5, ground := Ground.data }, { on := 3, ground := Ground.chain }, { on := 0, ground := Ground.phase }, { on := 1, ground := Ground.phase }, { on := 2, ground := Ground.phase }, { on := 3, ground := Ground.phase }, { on := 4, ground := Ground.phase }, { on := 5, ground := Ground.phase }, { on := 6, ground := Ground.textOnly Departure.lateStores }, { on := 7, ground := Ground.textOnly Departure.lateStores }, { on := 8, ground := Ground.phase }], guard := none }) rfl (by kernel_rfl) ?_
        refine Rg.stepF ?_ ?_
        · kernel_rfl
        intro K hK
        rw [if_pos (by rfl)]
        refine wp_store_row 31 _ _ rfl p Ra rfl rfl 31 _ BP.out ira zra ora ?_
        have BP := Lib.hid (BP.out.setRow Ra)
        have BN3 := Lib.hid (BN3.out.setRow_other (g' := p) (by omega) Ra)
        have BN4 := Lib.hid (BN4.out.setRow_other (g' := p) (by omega) Ra)
        have HX := Lib.hid (HX.out.setRowOut hp0 Ra)
        have HY := Lib.hid (HY.out.setRowOut hp0 Ra)
        have HB := Lib.hid (below_setRow HB.out hpw Ra)
        have hb0 := Nat.le_trans hb0 (below_setRow (Below.refl 0 V4) (Nat.zero_le p) Ra).size
        generalize (V4.setRow p Ra) = V5 at *
        refine hK.out _ _ ?_
        clear hK K
        try simp only [Act.put, List.setIfInBounds_toArray, List.set_cons_zero, List.set_cons_succ]
        refine Rg.takeP (i := 10) (oi := { dst := some 13, op := Op.assign (Operand.tmp 41), type := 52, pos := "links.go:135", after := #[{ on := 6, ground := Ground.data }, { on := 9, ground := Ground.chain }, { on := 0, ground := Ground.phase }, { on := 1, ground := Ground.phase }, { on := 2, ground := Ground.phase }, { on := 3, ground := Ground.phase }, { on := 4, ground := Ground.phase }, { on := 5, ground := Ground.phase }, { on := 6, ground := Ground.phase }, { on := 7, ground := Ground.textOnly Departure.lateStores }, { on := 8, ground := Ground.phase }, { on := 9, ground := Ground.phase }], guard := none }) (v := ?_) rfl (by kernel_rfl) (fun _ _ _ h => h) (by rfl) ?_ ?_
        rotate_left 1
        · (intro w; go_simp; (try with_reducible rfl))
        try simp only [Act.put, List.setIfInBounds_toArray, List.set_cons_zero, List.set_cons_succ]
        refine Rg.takeP (i := 11) (oi := { dst := some 14, op := Op.assign (Operand.tmp 42), type := 38, pos := "links.go:135", after := #[{ on := 7, ground := Ground.data }, { on := 10, ground := Ground.chain }, { on := 0, ground := Ground.phase }, { on := 1, ground := Ground.phase }, { on := 2, ground := Ground.phase }, { on := 3, ground := Ground.phase }, { on := 4, ground := Ground.phase }, { on := 5, ground := Ground.phase }, { on := 6, ground := Ground.phase }, { on := 7, ground := Ground.phase }, { on := 8, ground := Ground.phase }, { on := 9, ground := Ground.phase }, { on := 10, ground := Ground.phase }], guard := none }) (v := ?_) rfl (by kernel_rfl) (fun _ _ _ h => h) (by rfl) ?_ ?_
        rotate_left 1
        · (intro w; go_simp; (try with_reducible rfl))
        try simp only [Act.put, List.setIfInBounds_toArray, List.set_cons_zero, List.set_cons_succ]
        refine Rg.doneR (by kernel_rfl) ?_ _
        refine NoPanic.normal ?_
        go_wp2_with fail
        go_meet
        exact ⟨p, rfl, BP.out, BN3.out, BN4.out, HX.out.more hb0, HY.out.more hb0, HB.out⟩
      ·
        refine Rg.stepF ?_ ?_
        · kernel_rfl
        intro K hK
        rw [if_pos (by rfl)]
        have hmk := make4
        go_simp
        clear hmk
        have HM : Hid (Rd (V1.alloc (.cells #[.bool false, .bool false, .bool false, .bool false] 4)) (V1.alloc (.cells #[.bool false, .bool false, .bool false, .bool false] 4)).heap.size 1 (some ⟨V1.heap.size, 0, none⟩) 4 (boolsV [false, false, false, false])) := Lib.hid ((rd_of_blk (Blk.fresh V1 4 #[.bool false, .bool false, .bool false, .bool false])).more (by simp))
        have hb : Below V1.heap.size V1 (V1.alloc (.cells #[.bool false, .bool false, .bool false, .bool false] 4)) := (Below.refl _ _).alloc (Nat.le_refl _) _
        have BN3 := Lib.hid (BN3.out.below hb BN3.out.lt)
        have BN4 := Lib.hid (BN4.out.below hb BN4.out.lt)
        have BP := Lib.hid (BP.out.below hb BP.out.lt)
        have HX := Lib.hid (HX.out.below (hb.mono hb0))
        have HY := Lib.hid (HY.out.below (hb.mono hb0))
        have HB := Lib.hid (onward HB.out (Nat.le_refl _) hb)
        have hb0 := Nat.le_trans hb0 hb.size
        clear hb
        generalize (V1.alloc (.cells #[.bool false, .bool false, .bool false, .bool false] 4)) = V2 at *
        obtain ⟨q, hq⟩ : ∃ q, V1.heap.size = q := ⟨_, rfl⟩
        rw [hq] at HM ⊢
        clear hq
        refine hK.out _ _ ?_
        clear hK K
        try simp only [Act.put, List.setIfInBounds_toArray, List.set_cons_zero, List.set_cons_succ]
        refine Rg.takeP (i := 2) (oi := { dst := some 38, op := Op.build 51 #[(2, Operand.tmp 37)], type := 51, pos := "links.go:135", after := #[{ on := 1, ground := Ground.data }], guard := none }) (v := ?_) rfl (by kernel_rfl) (fun _ _ _ h => h) (by rfl) ?_ ?_
        rotate_left 1
        · (intro w; go_simp; (try with_reducible rfl))
        try simp only [Act.put, List.setIfInBounds_toArray, List.set_cons_zero, List.set_cons_succ]
        refine Rg.oneR (i := 0) (oi := { dst := some 36, op := Op.call { callee := Callee.value (Operand.func 32), args := #[], argTypes := #[] }, type := 31, pos := "links.go:135", after := #[], guard := none }) rfl (by kernel_rfl) ?_
        refine Rg.stepF ?_ ?_
        · kernel_rfl
        intro K hK
        rw [if_pos (by rfl)]
        go_simp
        go_at_call 32
        refine (CB.out _).mono ?_
        rintro e V3 ⟨rfl, hb⟩
        have BN3 := Lib.hid (BN3.out.below hb BN3.out.lt)
        have BN4 := Lib.hid (BN4.out.below hb BN4.out.lt)
        have BP := Lib.hid (BP.out.below hb BP.out.lt)
        have HX := Lib.hid (HX.out.below (hb.mono hb0))
        have HY := Lib.hid (HY.out.below (hb.mono hb0))
        have HM := Lib.hid ((HM.out.below hb).more hb.size)
        have HB := Lib.hid (onward HB.out (Nat.le_refl _) hb)
        have hb0 := Nat.le_trans hb0 hb.size
        clear hb
        go_wp2_with fail
        refine hK.out _ _ ?_
        clear hK K
        try simp only [Act.put, List.setIfInBounds_toArray, List.set_cons_zero, List.set_cons_succ]
        refine Rg.oneR (i := 3) (oi := { dst := some 39, op := Op.call { callee := Callee.value (Operand.func 45), args := #[Operand.tmp 36, Operand.tmp 38], argTypes := #[31, 51] }, type := 53, pos := "links.go:135", after := #[{ on := 0, ground := Ground.data }, { on := 2, ground := Ground.data }, { on := 0, ground := Ground.chain }], guard := none }) rfl (by kernel_rfl) ?_
        refine Rg.stepF ?_ ?_
        · kernel_rfl
        intro K hK
        rw [if_pos (by rfl)]
        go_simp
        go_at_call 45
        refine (CT.out (some ⟨q, 0, none⟩) 4 V3.heap.size V3 (Nat.le_refl _) HM.out).mono ?_
        rintro e V4 ⟨AZ, cz, rfl, -, hb, -⟩
        have BN3 := Lib.hid (BN3.out.below hb BN3.out.lt)
        have BN4 := Lib.hid (BN4.out.below hb BN4.out.lt)
        have BP := Lib.hid (BP.out.below hb BP.out.lt)
        have HX := Lib.hid (HX.out.below (hb.mono hb0))
        have HY := Lib.hid (HY.out.below (hb.mono hb0))
        have HB := Lib.hid (onward HB.out (Nat.le_refl _) hb)
        have hb0 := Nat.le_trans hb0 hb.size
        clear hb
        go_wp2_with fail
        refine hK.out _ _ ?_
        clear hK K
        try simp only [Act.put, List.setIfInBounds_toArray, List.set_cons_zero, List.set_cons_succ]
        refine Rg.takeP (i := 4) (oi := { dst := some 35, op := Op.move (Operand.tmp 39), type := 53, pos := "links.go:135", after := #[{ on := 3, ground := Ground.data }], guard := none }) (v := ?_) rfl (by kernel_rfl) (fun _ _ _ h => h) (by rfl) ?_ ?_
        rotate_left 1
        · (intro w; go_simp; (try with_reducible rfl))
        try simp only [Act.put, List.setIfInBounds_toArray, List.set_cons_zero, List.set_cons_succ]
        refine Rg.takeP (i := 5) (oi := { dst := some 40, op := Op.extract (Operand.tmp 35) 0, type := 31, pos := "links.go:135", after := #[{ on := 4, ground := Ground.data }], guard := none }) (v := ?_) rfl (by kernel_rfl) (fun _ _ _ h => h) (by rfl) ?_ ?_
        rotate_left 1
        · (intro w; go_simp; (try with_reducible rfl))
        try simp only [Act.put, List.setIfInBounds_toArray, List.set_cons_zero, List.set_cons_succ]
        refine Rg.takeP (i := 6) (oi := { dst := some 41, op := Op.extract (Operand.tmp 35) 1, type := 52, pos := "links.go:135", after := #[{ on := 4, ground := Ground.data }, { on := 9, ground := Ground.gcOnly Departure.lateStores }], guard := none }) (v := ?_) rfl (by kernel_rfl) (fun _ _ _ h => h) (by rfl) ?_ ?_
        rotate_left 1
        · (intro w; go_simp; (try with_reducible rfl))
        try simp only [Act.put, List.setIfInBounds_toArray, List.set_cons_zero, List.set_cons_succ]
        refine Rg.takeP (i := 7) (oi := { dst := some 42, op := Op.extract (Operand.tmp 35) 2, type := 38, pos := "links.go:135", after := #[{ on := 4, ground := Ground.data }, { on := 10, ground := Ground.gcOnly Departure.lateStores }], guard := none }) (v := ?_) rfl (by kernel_rfl) (fun _ _ _ h => h) (by rfl) ?_ ?_
        rotate_left 1
        · (intro w; go_simp; (try with_reducible rfl))
        try simp only [Act.put, List.setIfInBounds_toArray, List.set_cons_zero, List.set_cons_succ]
        refine Rg.oneR (i := 9) (oi := { dst := none, op := Op.store 31 (Operand.tmp 12) (Operand.tmp 40), type := 0, pos := "links.go:135", after := #[{ on := 8, ground := Ground.data }, { on := 5, ground := Ground.data }, { on := 3, ground := Ground.chain }, { on := 0, ground := Ground.phase }, { on := 1, ground := Ground.phase }, { on := 2, ground := Ground.phase }, { on := 3, ground := Ground.phase }, { on := 4, ground := Ground.phase }, { on := 5, ground := Ground.phase }, { on := 6, ground := Ground.textOnly Departure.lateStores }, { on := 7, ground := Ground.textOnly Departure.lateStores }, { on := 8, ground := Ground.phase }], guard := none }) rfl (by kernel_rfl) ?_
        refine Rg.stepF ?_ ?_
        · kernel_rfl
        intro K hK
        rw [if_pos (by rfl)]
        refine wp_store_row 31 _ _ rfl p Ra rfl rfl 31 _ BP.out ira zra ora ?_
        have BP := Lib.hid (BP.out.setRow Ra)
        have BN3 := Lib.hid (BN3.out.setRow_other (g' := p) (by omega) Ra)
        have BN4 := Lib.hid (BN4.out.setRow_other (g' := p) (by omega) Ra)
        have HX := Lib.hid (HX.out.setRowOut hp0 Ra)
        have HY := Lib.hid (HY.out.setRowOut hp0 Ra)
        have HB := Lib.hid (below_setRow HB.out hpw Ra)
        have hb0 := Nat.le_trans hb0 (below_setRow (Below.refl 0 V4) (Nat.zero_le p) Ra).size
        generalize (V4.setRow p Ra) = V5 at *
        refine hK.out _ _ ?_
        clear hK K
        try simp only [Act.put, List.setIfInBounds_toArray, List.set_cons_zero, List.set_cons_succ]
        refine Rg.takeP (i := 10) (oi := { dst := some 13, op := Op.assign (Operand.tmp 41), type := 52, pos := "links.go:135", after := #[{ on := 6, ground := Ground.data }, { on := 9, ground := Ground.chain }, { on := 0, ground := Ground.phase }, { on := 1, ground := Ground.phase }, { on := 2, ground := Ground.phase }, { on := 3, ground := Ground.phase }, { on := 4, ground := Ground.phase }, { on := 5, ground := Ground.phase }, { on := 6, ground := Ground.phase }, { on := 7, ground := Ground.textOnly Departure.lateStores }, { on := 8, ground := Ground.phase }, { on := 9, ground := Ground.phase }], guard := none }) (v := ?_) rfl (by kernel_rfl) (fun _ _ _ h => h) (by rfl) ?_ ?_
        rotate_left 1
        · (intro w; go_simp; (try with_reducible rfl))
        try simp only [Act.put, List.setIfInBounds_toArray, List.set_cons_zero, List.set_cons_succ]
        refine Rg.takeP (i := 11) (oi := { dst := some 14, op := Op.assign (Operand.tmp 42), type := 38, pos := "links.go:135", after := #[{ on := 7, ground := Ground.data }, { on := 10, ground := Ground.chain }, { on := 0, ground := Ground.phase }, { on := 1, ground := Ground.phase }, { on := 2, ground := Ground.phase }, { on := 3, ground := Ground.phase }, { on := 4, ground := Ground.phase }, { on := 5, ground := Ground.phase }, { on := 6, ground := Ground.phase }, { on := 7, ground := Ground.phase }, { on := 8, ground := Ground.phase }, { on := 9, ground := Ground.phase }, { on := 10, ground := Ground.phase }], guard := none }) (v := ?_) rfl (by kernel_rfl) (fun _ _ _ h => h) (by rfl) ?_ ?_
        rotate_left 1
        · (intro w; go_simp; (try with_reducible rfl))
        try simp only [Act.put, List.setIfInBounds_toArray, List.set_cons_zero, List.set_cons_succ]
        refine Rg.doneR (by kernel_rfl) ?_ _
        refine NoPanic.normal ?_
        go_wp2_with fail
        go_meet
        exact ⟨p, rfl, BP.out, BN3.out, BN4.out, HX.out.more hb0, HY.out.more hb0, HB.out⟩
  case rest =>
    obtain ⟨p, rfl, ba, b3, b4, hx, hy, hb⟩ := hcut
    have BA := Lib.hid ba
    have BN3 := Lib.hid b3
    have BN4 := Lib.hid b4
    have HX := Lib.hid hx
    have HY := Lib.hid hy
    have HB := Lib.hid hb
    clear ba b3 b4 hx hy hb
    have ha := BA.out.cell 0
    rw [ha0] at ha
    have hne1 : (er != er) = false := by simp
    have hne2 : ((l.length : Int) != (l.length : Int)) = false := by simp
    go_upto_region 6 with fail
    refine wp_region_list ?_
    refine wpList_whole (by rfl) 31 _ rfl p3 rfl BN3.out _ Try.underlying31 rfl ir ?_
    try simp only [Act.put, List.setIfInBounds_toArray, List.set_cons_zero, List.set_cons_succ]
    refine wpList_whole (by rfl) 31 _ rfl p4 rfl BN4.out _ Try.underlying31 rfl ir ?_
    try simp only [Act.put, List.setIfInBounds_toArray, List.set_cons_zero, List.set_cons_succ]
    refine wpList_nel (by rfl) 31 31 _ _ rfl ok_roll (by omega) Try.underlying31 rfl (by kernel_rfl) (by kernel_rfl) Rr rfl rfl (by rw [← zr]; rfl) HTYP.out ?_
    try simp only [Act.put, List.setIfInBounds_toArray, List.set_cons_zero, List.set_cons_succ]
    go_wp2_with fail
    clear ha hne1 hne2 BA BN3 BN4
    have hl4 := HLN.out
    go_loopw [15] (fun i wr => ∃ (k n : Nat), k ≤ l.length ∧ i = .int .i64 k ∧ wr = wc.drewN n) (fun i _ => l.length - (intOf i).toNat)
    case atStart => exact ⟨0, 0, by omega, rfl, rfl⟩
    case round =>
      obtain ⟨k, n, hk, rfl, rfl⟩ := hrel
      by_cases hlt : k < l.length
      · obtain ⟨b, o, rfl, hbB, hcell⟩ := HX.out.2 (by omega)
        obtain ⟨b', o', rfl, hbB', hcell'⟩ := HY.out.2 (by omega)
        have hv0 := changesV_at l hlt
        have c0 : (wc.drewN n).cell? ⟨b, o + k * 2, none⟩ = some (.int .i64 l[k].1) := hcell _ _ hv0.1
        have c1 : (wc.drewN n).cell? ⟨b, o + k * 2 + 1, none⟩ = some (.int .i64 l[k].2) := by rw [Nat.add_assoc]; exact hcell _ _ hv0.2
        have c2 : (wc.drewN n).cell? ⟨b', o' + k * 2, none⟩ = some (.int .i64 l[k].1) := hcell' _ _ hv0.1
        have c3 : (wc.drewN n).cell? ⟨b', o' + k * 2 + 1, none⟩ = some (.int .i64 l[k].2) := by rw [Nat.add_assoc]; exact hcell' _ _ hv0.2
        have d0 : wc.cell? ⟨b, o + k * 2, none⟩ = some (.int .i64 l[k].1) := c0
        have d1 : wc.cell? ⟨b, o + k * 2 + 1, none⟩ = some (.int .i64 l[k].2) := c1
        have d2 : wc.cell? ⟨b', o' + k * 2, none⟩ = some (.int .i64 l[k].1) := c2
        have d3 : wc.cell? ⟨b', o' + k * 2 + 1, none⟩ = some (.int .i64 l[k].2) := c3
        generalize l[k].1 = z1 at *
        generalize l[k].2 = z2 at *
        have hk0 : (0 : Int) ≤ (k : Int) := by omega
        have hk1 : (k : Int) < (l.length : Int) := by omega
        clear hcell hcell' hv0
        go_wp2_with fail
        go_quiet (fail)
        go_wp2_with fail
        exact ⟨⟨k + 1, n + nq, by omega, by go_num, rfl⟩, by simp [intOf]; omega⟩
      · obtain rfl : k = l.length := by omega
        clear hlt
        go_wp2_with fail
        go_ret
        exact ⟨rfl, below_drewN HB.out _⟩
set_option maxRecDepth 100000 in
set_option maxHeartbeats 1000000 in
theorem lifted (os : Os) (started : os.Started) (H : Type) (enc : TypeId × Value → H) :
    ReturnsInHanded {} Try.checked os 10 .any (Rows.memberStepsSpec.pre6 enc Try.prog Try.f10 Rows.memberStepsRow.domain false) (Rows.memberStepsSpec.post enc Try.prog Try.f10 false true false false) := by
  refine returnsInHanded_of_change_sized (C := Try.checked) Fr.own started (by kernel_rfl) Try.func10
    (ChangeSpec.witness6 (enc := enc) (C := Try.checked) false ⟨#[], #[.agg #[.bool false, .bool false, .bool false, .bool false, .int .i64 0, .int .i64 0, .int .i64 0, .int .i64 0, .int .i64 0, .int .i64 0, .int .i64 0, .int .i64 0], .agg #[.int .i64 0, .bool false, .slice none 0 0]], []⟩ 8 (by kernel_rfl) (by kernel_rfl) (by kernel_rfl) (by kernel_rfl)) ?_
  intro W base args ds gs before hval0 hW _ hsz0 _
  have hval : ∀ (j : Nat) t v, Try.f10.params[j]? = some t → args[j]? = some v → Value.okWide Try.prog W .any base t v := hval0
  have hsz : (DataW.weightsEach Try.prog (Try.f10.params.toList ++ Rows.memberStepsSpec.plain.varTypes Try.prog) (ds ++ gs)).all (· ≤ reachBytes) = true := hsz0
  clear hval0 hsz0
  obtain ⟨p, q, hA0, hV0, _⟩ := id hW
  have hA : DataW.TrodAll enc Try.prog W 0 (fun _ => true) true Try.f10.params.toList args.toList ds p := hA0
  rw [Try.params10] at hA hval hsz
  obtain ⟨v0, vs0, d0, ds0, p0, q0, hargs, rfl, rfl, h0, r0⟩ := trodAll_cons hA
  obtain ⟨v1, vs1, d1, ds1, p1, q1, rfl, rfl, rfl, h1, r1⟩ := trodAll_cons r0
  obtain ⟨rfl, rfl, rfl⟩ := trodAll_nil r1
  obtain rfl : args = #[v0, v1] := by cases args; simp_all
  obtain ⟨rfl, rfl⟩ := trodVars_none hV0
  refine Fr.of_walk (f := Try.f10) Fr.laidOut (by rw [Try.params10]; intro t ht; simp at ht; (first | (rcases ht with rfl | rfl | rfl | rfl | rfl | rfl) | (rcases ht with rfl | rfl | rfl | rfl | rfl) | (rcases ht with rfl | rfl | rfl | rfl) | (rcases ht with rfl | rfl | rfl) | (rcases ht with rfl | rfl) | (subst ht)) <;> exact ⟨by kernel_rfl, of_decide_eq_true (by kernel_rfl)⟩) rfl rfl Try.underlying4 (fun _ => rfl) hW ?_
  clear hW hA hA0 hV0
  obtain ⟨cs0, rfl⟩ := Op.okWide_agg (t := 31) (by kernel_rfl) (hval 0 31 v0 rfl rfl)
  have k0 := Op.flat_arg (ls := [4,4,4,4,3,3,3,3,3,3,3,3]) (by kernel_rfl) h0 (Op.light_of_each (j := 0) hsz rfl rfl)
  obtain ⟨y0_0, l0, e0, f0_0, k0⟩ := k0.cons
  obtain ⟨y0_1, l0, rfl, f0_1, k0⟩ := k0.cons
  obtain ⟨y0_2, l0, rfl, f0_2, k0⟩ := k0.cons
  obtain ⟨y0_3, l0, rfl, f0_3, k0⟩ := k0.cons
  obtain ⟨y0_4, l0, rfl, f0_4, k0⟩ := k0.cons
  obtain ⟨y0_5, l0, rfl, f0_5, k0⟩ := k0.cons
  obtain ⟨y0_6, l0, rfl, f0_6, k0⟩ := k0.cons
  obtain ⟨y0_7, l0, rfl, f0_7, k0⟩ := k0.cons
  obtain ⟨y0_8, l0, rfl, f0_8, k0⟩ := k0.cons
  obtain ⟨y0_9, l0, rfl, f0_9, k0⟩ := k0.cons
  obtain ⟨y0_10, l0, rfl, f0_10, k0⟩ := k0.cons
  obtain ⟨y0_11, l0, rfl, f0_11, k0⟩ := k0.cons
  obtain rfl := k0.nil_
  obtain rfl := Op.arr_of e0
  obtain ⟨a, rfl⟩ := f0_0.bool Try.underlying4
  obtain ⟨b, rfl⟩ := f0_1.bool Try.underlying4
  obtain ⟨c, rfl⟩ := f0_2.bool Try.underlying4
  obtain ⟨d, rfl⟩ := f0_3.bool Try.underlying4
  obtain ⟨m0, rfl, wf_m0⟩ := f0_4.int Try.underlying3
  obtain ⟨m1, rfl, wf_m1⟩ := f0_5.int Try.underlying3
  obtain ⟨m2, rfl, wf_m2⟩ := f0_6.int Try.underlying3
  obtain ⟨m3, rfl, wf_m3⟩ := f0_7.int Try.underlying3
  obtain ⟨j0, rfl, wf_j0⟩ := f0_8.int Try.underlying3
  obtain ⟨j1, rfl, wf_j1⟩ := f0_9.int Try.underlying3
  obtain ⟨j2, rfl, wf_j2⟩ := f0_10.int Try.underlying3
  obtain ⟨j3, rfl, wf_j3⟩ := f0_11.int Try.underlying3
  obtain ⟨v, st, A, cap, bs, rfl, hnc, hc, hA, hr⟩ := Op.openVerdict (hval 1 51 v1 rfl rfl) h1 (Op.light_of_each (j := 1) hsz rfl rfl)
  exact walk ⟨fun i => [a, b, c, d].getD i false, fun i => [m0, m1, m2, m3].getD i 0, fun i => [j0, j1, j2, j3].getD i 0⟩ v st A cap bs W hA hnc (by omega) hr

theorem closedFacts : joinedFacts Try.prog 10 Try.f10 Rows.memberStepsSpec Rows.memberStepsRow = true := by
  unfold joinedFacts
  simp only [Bool.and_eq_true]
  refine ⟨⟨⟨⟨⟨⟨⟨⟨⟨⟨⟨⟨⟨⟨⟨⟨⟨⟨⟨⟨⟨⟨⟨⟨⟨⟨⟨⟨⟨⟨⟨?_, ?_⟩, ?_⟩, ?_⟩, ?_⟩, ?_⟩, ?_⟩, ?_⟩, ?_⟩, ?_⟩, ?_⟩, ?_⟩, ?_⟩, ?_⟩, ?_⟩, ?_⟩, ?_⟩, ?_⟩, ?_⟩, ?_⟩, ?_⟩, ?_⟩, ?_⟩, ?_⟩, ?_⟩, ?_⟩, ?_⟩, ?_⟩, ?_⟩, ?_⟩, ?_⟩, ?_⟩
  · as_aux_lemma => kernel_rfl
  · exact Fr.laidOut
  · exact Facts.mapsRowed_
  · as_aux_lemma => kernel_rfl
  · as_aux_lemma => kernel_rfl
  · as_aux_lemma => kernel_rfl
  · exact Facts.stops_
  · as_aux_lemma => kernel_rfl
  · exact Facts.knobs_
  · as_aux_lemma => kernel_rfl
  · as_aux_lemma => kernel_rfl
  · as_aux_lemma => kernel_rfl
  · as_aux_lemma => kernel_rfl
  · as_aux_lemma => kernel_rfl
  · as_aux_lemma => kernel_rfl
  · as_aux_lemma => kernel_rfl
  · as_aux_lemma => kernel_rfl
  · as_aux_lemma => kernel_rfl
  · as_aux_lemma => kernel_rfl
  · as_aux_lemma => kernel_rfl
  · as_aux_lemma => kernel_rfl
  · as_aux_lemma => kernel_rfl
  · exact Facts.keys_
  · as_aux_lemma => kernel_rfl
  · exact Facts.heard_
  · exact Facts.enter_
  · exact Facts.lifts_
  · exact Facts.make_
  · as_aux_lemma => kernel_rfl
  · as_aux_lemma => kernel_rfl
  · as_aux_lemma => kernel_rfl
  · as_aux_lemma => kernel_rfl

theorem proved : Rows.MemberStepsSaid :=
  OpenClaim.holds_of_wide 10 Try.f10 rfl rfl rfl rfl rfl rfl rfl ⟨rfl, rfl, rfl, rfl, rfl⟩ rfl rfl rfl rfl rfl (by kernel_rfl) Try.func10 closedFacts
    (of_decide_eq_true (by kernel_rfl)) (by unfold Func.isWrapper; first | (rw [if_pos (by decide +kernel)]; kernel_rfl) | (rw [if_neg (by decide +kernel)]; exact ⟨rfl, rfl⟩))
    (fun os started H enc _ => lifted os started H enc)

end Go.Proofs.Ytfaielkkecphbaa.lawMemberSteps
