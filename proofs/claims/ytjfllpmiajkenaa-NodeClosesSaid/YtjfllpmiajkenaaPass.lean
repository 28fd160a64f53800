/- Contract: node.Pass at a good computer. -/
import Derived.Test.YtjfllpmiajkenaaPassF
import Derived.Test.YtjfllpmiajkenaaRegR
namespace Go.Proofs.Ytjfllpmiajkenaa.Nd
open Go.RowKit Go.Proofs.Ytjfllpmiajkenaa.Mem Go.Proofs.Ytjfllpmiajkenaa.Rws Go.Proofs.Ytjfllpmiajkenaa.Flat
set_option linter.unusedVariables false
set_option linter.unusedSimpArgs false
theorem run_index_slices (s : Nat → Value) (k : Nat) (hk : k < 4) (w : World) : (Instr.index 78 (.agg (row 4 s)) (.int .i64 (k : Int))).run Try.prog w = .ok (s k) w :=
  run_index_row Try.underlying78 Try.underlying39 rfl (by kernel_rfl) s k hk w

set_option maxRecDepth 100000 in
set_option maxHeartbeats 4000000 in
theorem pass_any (f : Nat → Value) (hf : ∀ i, i < 73 → okT (nodeT i) (f i)) (k : Nat) (hk : k < 4) (hid : f 0 = .int .i64 (k : Int)) (fr : Int) (hfr : f 1 = .int .i64 fr) (A : Option Addr) (c : Nat) (bs : List Bool) (AI : Option Addr) (ci : Nat) (ms : List Ms.Msg) (B : Nat) (w : World) (hB : B ≤ w.heap.size) (hA : A = none → c = 0) (hnc : bs.length ≤ c) (hl : bs.length ≤ 140737488351232) (hr : Rd w B 1 A bs.length (boolsV bs)) (hml : ms.length ≤ 140737488355328) (hm : Ms.MsgsAt w B AI ms) :
    Calls Try.prog 31 #[.agg (row 74 (nodeW f (.slice A bs.length c))), .slice AI ms.length ci] w fun e w' => NodeMsg w w' (passK f (passV (k : Int) fr ms) 4) bs 2 (k : Int) fr (hvs (passK f (passV (k : Int) fr ms) 4)) e := by
  have hone : ∀ (A : Option Addr) (n c : Nat), (row 74 (nodeW f (.slice A n c))).all (·.oneCell') = true := fun A n c => one_of hf
  have HO := Lib.hid hone
  have HF := Lib.hid hf
  have HID := Lib.hid hid
  have HFR := Lib.hid hfr
  clear hf hone hid hfr
  go_enter Try.func31, Try.ntmps31
  go_upto_region 1 with fail
  have D3 : Hid (Blk (((w.alloc (.cells (row 74 (nodeW f (.slice A bs.length c))) 37)).alloc (.cells Try.zeroCells37 37)).alloc (.cells #[.int .i64 0, .int .i64 0, .int .i64 0, .slice none 0 0] 41)) w.heap.size 37 (row 74 (nodeW f (.slice A bs.length c)))) := Lib.hid (((Blk.new rfl).alloc _).alloc _)
  have D6 : Hid (Blk (((w.alloc (.cells (row 74 (nodeW f (.slice A bs.length c))) 37)).alloc (.cells Try.zeroCells37 37)).alloc (.cells #[.int .i64 0, .int .i64 0, .int .i64 0, .slice none 0 0] 41)) (w.heap.size + 1) 37 Try.zeroCells37) := Lib.hid ((Blk.new (by simp)).alloc _)
  have D7 : Hid (Blk (((w.alloc (.cells (row 74 (nodeW f (.slice A bs.length c))) 37)).alloc (.cells Try.zeroCells37 37)).alloc (.cells #[.int .i64 0, .int .i64 0, .int .i64 0, .slice none 0 0] 41)) (w.heap.size + 1 + 1) 41 #[.int .i64 0, .int .i64 0, .int .i64 0, .slice none 0 0]) := Lib.hid (Blk.new (by simp))
  have HB := Lib.hid (((((Below.refl w.heap.size w).alloc (Nat.le_refl _) (.cells (row 74 (nodeW f (.slice A bs.length c))) 37)).alloc (by simp) (.cells Try.zeroCells37 37)).alloc (by simp; omega) (.cells #[.int .i64 0, .int .i64 0, .int .i64 0, .slice none 0 0] 41)))
  have HR := Lib.hid hr
  have HMS := Lib.hid hm
  clear hr hm
  generalize (((w.alloc (.cells (row 74 (nodeW f (.slice A bs.length c))) 37)).alloc (.cells Try.zeroCells37 37)).alloc (.cells #[.int .i64 0, .int .i64 0, .int .i64 0, .slice none 0 0] 41)) = W at *
  have hi74 : ∀ A (n : Nat) c, (Try.prog.info? 37).map (·.size) = some (row 74 (nodeW f (.slice A n c))).size := fun A n c => by rw [row_size]; kernel_rfl
  have HI := Lib.hid hi74
  clear hi74
  have hwz : w.heap.size + 1 + 1 < W.heap.size := D7.out.lt
  have hia := HI.out A bs.length c
  obtain ⟨R1, hR1⟩ : ∃ R1, row 74 (nodeW f (.slice A bs.length c)) = R1 := ⟨_, rfl⟩
  have HR1 := Lib.hid hR1
  rw [hR1] at D3 hia
  clear hR1
  go_wp2_with (refine wpList_whole rfl 37 _ rfl w.heap.size rfl D3.out _ Try.underlying37 rfl hia ?_)
  rw [← HR1.out]
  refine (copied_any f HF.out A c bs B _ (Nat.le_trans hB HB.out.size) hA hnc hl (HR.out.below (HB.out.mono hB))).mono ?_
  rintro e w1 ⟨A2, c2, rfl, hown, hb1⟩
  rw [HR1.out]
  have HW1 := Lib.hid hown
  have HB1 := Lib.hid (onward HB.out (Nat.le_refl _) hb1)
  have hsz := hb1.size
  have hi2 := HI.out A2 bs.length c2
  have h12 := HO.out A2 bs.length c2
  have h20 : (row 74 (nodeW f (.slice A2 bs.length c2)))[0]? = some (.int .i64 (k : Int)) := by rw [row_at (by omega)]; exact congrArg some HID.out
  have h21 : (row 74 (nodeW f (.slice A2 bs.length c2)))[1]? = some (.int .i64 fr) := by rw [row_at (by omega)]; exact congrArg some HFR.out
  have hs2 : R1.size = (row 74 (nodeW f (.slice A2 bs.length c2))).size := by rw [← HR1.out, row_size, row_size]
  obtain ⟨R2, hR2⟩ : ∃ R2, row 74 (nodeW f (.slice A2 bs.length c2)) = R2 := ⟨_, rfl⟩
  have HR2 := Lib.hid hR2
  rw [hR2] at hi2 h12 h20 h21 hs2 ⊢
  clear hR2
  have E3 := Lib.hid (D3.out.below hb1 D3.out.lt)
  have F3 := Lib.hid (E3.out.setRow R2)
  have F6 := Lib.hid ((D6.out.below hb1 D6.out.lt).setRow_other (g' := w.heap.size) (by omega) R2)
  have F7 := Lib.hid ((D7.out.below hb1 D7.out.lt).setRow_other (g' := w.heap.size) (by omega) R2)
  have HB2 := Lib.hid (below_setRow HB1.out (Nat.le_refl _) R2)
  have HW2 := Lib.hid (own_setRow HW1.out (show w.heap.size < W.heap.size by omega) R2)
  have cT := fun w => strange_any R2 (k : Int) h20 w
  have hk0 : ¬ ((k : Int) < 0) := by omega
  have hbk : badId (k : Int) = false := by unfold badId; simp; omega
  rw [hbk] at cT
  clear hb1 hown hbk
  go_upto_region 4 with (first
    | (refine wpList_store_row rfl 37 _ _ rfl w.heap.size R2 rfl rfl 37 _ E3.out hi2 hs2 h12 ?_)
    | (refine wpList_whole rfl 37 _ rfl w.heap.size rfl F3.out _ Try.underlying37 rfl hi2 ?_)
    | (go_at_call 41; refine (cT _).mono ?_; rintro e w3 ⟨rfl, hb3⟩; have G3 := Lib.hid (F3.out.below hb3 F3.out.lt); have G6 := Lib.hid (F6.out.below hb3 F6.out.lt); have G7 := Lib.hid (F7.out.below hb3 F7.out.lt); have HB3 := Lib.hid (onward HB2.out (Nat.le_refl _) hb3); have HW3 := Lib.hid (ownsRow_below HW2.out hb3); have hz3 := Nat.le_trans hsz (Nat.le_trans (show w1.heap.size ≤ (w1.setRow w.heap.size R2).heap.size from (below_setRow (Below.refl 0 w1) (Nat.zero_le _) R2).size) hb3.size); clear hb3))
  clear HB HB1 HB2 HW1 HW2 D3 D6 D7 E3 F3 F6 F7 cT hs2
  have HNL := Lib.hid hnc
  have cH := Ms.hear_any R2 (k : Int) fr h20 h21 AI ci ms 3 1 (by omega) B w3 (Nat.le_trans hB HB3.out.size) hml (HMS.out.below (HB3.out.mono hB))
  rw [show ((1 : Nat) : Int) = 1 from rfl] at cH
  have CH := Lib.hid cH
  clear cH
  go_wp2_with (refine wpList_whole rfl 37 _ rfl w.heap.size rfl G3.out _ Try.underlying37 rfl hi2 ?_)
  refine CH.out.mono ?_
  rintro e w4 ⟨s, rfl, hs, hb⟩
  have hix := fun (j : Nat) (hj : j < 4) (w : World) => run_index_slices s j hj w
  have HIX := Lib.hid hix
  generalize row 4 s = R4 at *
  have G3 := Lib.hid (G3.out.below hb G3.out.lt)
  have G6 := Lib.hid (G6.out.below hb G6.out.lt)
  have G7 := Lib.hid (G7.out.below hb G7.out.lt)
  have HW := Lib.hid (ownsRow_below HW3.out hb)
  have HB4 := Lib.hid (onward HB3.out (Nat.le_refl _) hb)
  have HS := Lib.hid (fun i hi => (hs i hi).keep (base' := W.heap.size) fun n xs h => own_weaken h hz3)
  rw [← HR2.out] at G3
  clear hs hb HW3 HB3 CH h12 hi2 hix
  obtain ⟨pv, hpv⟩ : ∃ pv, passV (k : Int) fr ms = pv := ⟨_, rfl⟩
  have HQV := Lib.hid hpv
  have HPV := Lib.hid (fun j : Nat => show pv j = (Ms.firstOf (k : Int) fr 3 1 (j : Int) ms).map (fun m => m.zs.getD 0 0) by rw [← hpv]; rfl)
  clear hpv
  go_wp2_with fail
  go_loopw [17] (fun i wr => ∃ j : Nat, j ≤ 4 ∧ i = .int .i64 j ∧ Blk wr w.heap.size 37 (row 74 (nodeW (passK f pv j) (.slice A2 bs.length c2))) ∧ Blk wr (w.heap.size + 1) 37 Try.zeroCells37 ∧ Blk wr (w.heap.size + 1 + 1) 41 #[.int .i64 0, .int .i64 0, .int .i64 0, .slice none 0 0] ∧ wr.ownsRow W.heap.size 4 1 (.slice A2 bs.length c2) bs.length (boolsV bs) ∧ (∀ i : Nat, i < 4 → Ms.HeardAs wr W.heap.size (Ms.firstOf (k : Int) fr 3 1 (i : Int) ms) (s i)) ∧ Below w.heap.size w wr) (fun i _ => 4 - (intOf i).toNat)
  case atStart => exact ⟨0, by omega, rfl, by rw [passK_zero]; exact G3.out, G6.out, G7.out, HW.out, HS.out, HB4.out⟩
  case round =>
    clear G3 G6 G7 HW HS HB4
    obtain ⟨j, hj, rfl, g3, g6, g7, hw, hs, hb⟩ := hrel
    have G3 := Lib.hid g3
    have G6 := Lib.hid g6
    have G7 := Lib.hid g7
    have HW := Lib.hid hw
    have HS := Lib.hid hs
    have HB := Lib.hid hb
    clear g3 g6 g7 hw hs hb
    by_cases hlt : j < 4
    · have hix := fun w => HIX.out j hlt w
      have hsj := HS.out j hlt
      have hpj := HPV.out j
      cases ho : Ms.firstOf (k : Int) fr 3 1 (j : Int) ms with
      | none =>
        rw [ho] at hsj hpj
        rw [show s j = .slice none 0 0 from hsj] at hix
        have HPJ := Lib.hid (show pv j = none from hpj)
        clear hsj hpj ho
        go_wp2_with fail
        exact ⟨⟨j + 1, by omega, by go_num, by rw [passK_none f pv j _ HPJ.out]; exact G3.out, G6.out, G7.out, HW.out, HS.out, HB.out⟩, by simp [intOf]; omega⟩
      | some m =>
        have hzl := fit_len ho
        rw [ho] at hsj hpj
        obtain ⟨a, ca, hsv, how⟩ := hsj
        rw [hsv] at hix how
        obtain ⟨b, o, u, e1, hbB, hu, hcell⟩ := (Rd.of_own how).at (show 0 < m.zs.length by omega)
        injection e1 with e1
        subst e1
        obtain ⟨z, hz⟩ : ∃ z, m.zs = [z] := by
          match hq : m.zs, hzl with
          | [z], _ => exact ⟨z, rfl⟩
        have hpj : pv j = some (m.zs.getD 0 0) := hpj
        rw [hz] at hu hpj hix
        have hu : u = .int .i64 z := by simpa [Ms.intsV] using hu.symm
        subst hu
        have HPJ := Lib.hid (show pv j = some z from hpj)
        have hcell : wr.cell? ⟨b, o, none⟩ = some (.int .i64 z) := hcell
        have x5 : wr.cell? ⟨w.heap.size, 51 + j, none⟩ = some (nodeW (passK f pv j) (.slice A2 bs.length c2) (51 + j)) := by rw [G3.out.cell, row_at (by omega)]
        have f5 := G3.out.thaw (51 + j)
        have hlen : ([z] : List Int).length = 1 := rfl
        rw [hlen] at hix
        clear hsv how hu hpj ho hz hzl hlen
        go_wp2_with fail
        refine ⟨⟨j + 1, by omega, by go_num, ?_, G6.out.other (p := ⟨w.heap.size, 51 + j, none⟩) (by show w.heap.size + 1 ≠ w.heap.size; omega) _, G7.out.other (p := ⟨w.heap.size, 51 + j, none⟩) (by show w.heap.size + 1 + 1 ≠ w.heap.size; omega) _, Vt.own_setCell HW.out (by omega) _, fun i hi => (HS.out i hi).keep fun n xs h => Vt.own_setCell h (by omega) _, HB.out.setCell (p := ⟨w.heap.size, 51 + j, none⟩) (Nat.le_refl _) _⟩, by simp [intOf]; omega⟩
        rw [← passK_some f pv j hlt _ HPJ.out]
        exact G3.out.set (51 + j) _
    · obtain rfl : j = 4 := by omega
      clear hlt
      rw [show ((4 : Nat) : Int) = 4 from rfl]
      have HOK := Lib.hid (ok_pass HF.out pv 4 (Nat.le_refl _))
      have o5 := one_of HOK.out (A := A2) (n := bs.length) (c := c2)
      have i5 : (Try.prog.info? 37).map (·.size) = some (row 74 (nodeW (passK f pv 4) (.slice A2 bs.length c2))).size := by rw [row_size]; kernel_rfl
      have z5 : (Try.zeroCells37).size = (row 74 (nodeW (passK f pv 4) (.slice A2 bs.length c2))).size := by rw [row_size]; kernel_rfl
      have j0 : (row 74 (nodeW (passK f pv 4) (.slice A2 bs.length c2)))[0]? = some (.int .i64 (k : Int)) := by rw [row_at (by omega)]; exact congrArg some ((passK_low f pv 4 0 (by omega)).trans HID.out)
      have j1 : (row 74 (nodeW (passK f pv 4) (.slice A2 bs.length c2)))[1]? = some (.int .i64 fr) := by rw [row_at (by omega)]; exact congrArg some ((passK_low f pv 4 1 (by omega)).trans HFR.out)
      obtain ⟨R5, hR5⟩ : ∃ R5, row 74 (nodeW (passK f pv 4) (.slice A2 bs.length c2)) = R5 := ⟨_, rfl⟩
      rw [hR5] at o5 i5 z5 j0 j1 G3
      have HR5 := Lib.hid hR5
      clear hR5
      go_upto_region 10 with fail
      have G3 := Lib.hid G3.out.drew
      have G6 := Lib.hid G6.out.drew
      have G7 := Lib.hid G7.out.drew
      have HW := Lib.hid (ownsRow_below HW.out ((Below.refl wr.heap.size wr).drew))
      have HB := Lib.hid HB.out.drew
      clear HS
      have HS := G3.out
      refine wp_region_noPanic ?_
      refine Rg.beginR [0, 1] (fun w' => Blk w' w.heap.size 37 R5) (by kernel_rfl) ?_
      generalize wr.drew = V0 at *
      refine Rg.takeS (i := 0) (oi := { dst := some 30, op := Op.load 37 (Operand.tmp 2), type := 37, pos := "node.go:177", after := #[], guard := none }) (v := .agg R5) rfl (by kernel_rfl) (fun _ _ _ h => h) (by rfl) HS ?_ ?_
      · (intro w' hSw; exact exec_load_row 37 _ rfl _ rfl hSw Try.underlying37 rfl i5)
      try simp only [Act.put, List.setIfInBounds_toArray, List.set_cons_zero, List.set_cons_succ]
      refine Rg.takeS (i := 1) (oi := { dst := some 31, op := Op.load 37 (Operand.tmp 2), type := 37, pos := "node.go:177", after := #[], guard := none }) (v := .agg R5) rfl (by kernel_rfl) (fun _ _ _ h => h) (by rfl) HS ?_ ?_
      · (intro w' hSw; exact exec_load_row 37 _ rfl _ rfl hSw Try.underlying37 rfl i5)
      try simp only [Act.put, List.setIfInBounds_toArray, List.set_cons_zero, List.set_cons_succ]
      refine Rg.takeP (i := 2) (oi := { dst := some 32, op := Op.fieldAddr 37 (Operand.tmp 2) 6, type := 0, pos := "node.go:177", after := #[], guard := none }) (v := ?_) rfl (by kernel_rfl) (fun _ _ _ h => h) (by rfl) ?_ ?_
      rotate_left 1
      · (intro w; go_simp; (try with_reducible rfl))
      try simp only [Act.put, List.setIfInBounds_toArray, List.set_cons_zero, List.set_cons_succ]
      refine Rg.takeP (i := 3) (oi := { dst := some 33, op := Op.slice 28 (Operand.tmp 32) none none none, type := 39, pos := "node.go:177", after := #[{ on := 2, ground := Ground.data }], guard := none }) (v := ?_) rfl (by kernel_rfl) (fun _ _ _ h => h) (by rfl) ?_ ?_
      rotate_left 1
      · (intro w; go_simp; (try with_reducible rfl))
      try simp only [Act.put, List.setIfInBounds_toArray, List.set_cons_zero, List.set_cons_succ]
      refine Rg.oneR (i := 4) (oi := { dst := some 34, op := Op.call { callee := Callee.value (Operand.func 47), args := #[Operand.tmp 31, Operand.const (Value.int IntKind.i64 2), Operand.tmp 33], argTypes := #[37, 3, 39] }, type := 41, pos := "node.go:177", after := #[{ on := 1, ground := Ground.data }, { on := 3, ground := Ground.data }], guard := none }) rfl (by kernel_rfl) ?_
      refine Rg.stepS ?_
      intro K hK
      rw [if_pos (by rfl)]
      go_simp
      go_at_call 47
      refine (say_any R5 (k : Int) fr 2 (some ⟨w.heap.size, 51, none⟩) 4 4 j0 j1 V0).mono ?_
      rintro e V1 ⟨rfl, hb⟩
      have G3 := Lib.hid (G3.out.below hb G3.out.lt)
      have G6 := Lib.hid (G6.out.below hb G6.out.lt)
      have G7 := Lib.hid (G7.out.below hb G7.out.lt)
      have HW := Lib.hid (ownsRow_below HW.out hb)
      have HB := Lib.hid (onward HB.out (Nat.le_refl _) hb)
      clear hb HS
      have HS := G3.out
      go_wp2_with fail
      refine hK.out _ _ HS ?_
      clear hK K
      try simp only [Act.put, List.setIfInBounds_toArray, List.set_cons_zero, List.set_cons_succ]
      refine Rg.oneR (i := 5) (oi := { dst := none, op := Op.store 37 (Operand.tmp 4) (Operand.tmp 30), type := 0, pos := "node.go:177", after := #[{ on := 0, ground := Ground.data }, { on := 4, ground := Ground.chain }, { on := 0, ground := Ground.phase }, { on := 1, ground := Ground.textOnly Departure.lateStores }, { on := 2, ground := Ground.textOnly Departure.lateStores }, { on := 3, ground := Ground.textOnly Departure.lateStoresUnsure }, { on := 4, ground := Ground.textOnly Departure.lateStoresUnsure }], guard := none }) rfl (by kernel_rfl) ?_
      refine Rg.stepF ?_ ?_
      · kernel_rfl
      intro K hK
      rw [if_pos (by rfl)]
      refine wp_store_row 37 _ _ rfl (w.heap.size + 1) R5 rfl rfl 37 _ G6.out i5 z5 o5 ?_
      have G3 := Lib.hid (G3.out.setRow_other (g' := w.heap.size + 1) (by omega) R5)
      have G7 := Lib.hid (G7.out.setRow_other (g' := w.heap.size + 1) (by omega) R5)
      have G6 := Lib.hid (G6.out.setRow R5)
      have HB := Lib.hid (below_setRow HB.out (show w.heap.size ≤ w.heap.size + 1 by omega) R5)
      have HW := Lib.hid (own_setRow HW.out (show w.heap.size + 1 < W.heap.size by omega) R5)
      generalize (V1.setRow (w.heap.size + 1) R5) = V2 at *
      refine hK.out _ _ ?_
      clear hK K
      try simp only [Act.put, List.setIfInBounds_toArray, List.set_cons_zero, List.set_cons_succ]
      refine Rg.oneR (i := 6) (oi := { dst := none, op := Op.store 41 (Operand.tmp 5) (Operand.tmp 34), type := 0, pos := "node.go:177", after := #[{ on := 4, ground := Ground.data }, { on := 5, ground := Ground.chain }, { on := 0, ground := Ground.phase }, { on := 1, ground := Ground.phase }, { on := 2, ground := Ground.phase }, { on := 3, ground := Ground.phase }, { on := 4, ground := Ground.phase }, { on := 5, ground := Ground.phase }], guard := none }) rfl (by kernel_rfl) ?_
      refine Rg.stepF ?_ ?_
      · kernel_rfl
      intro K hK
      rw [if_pos (by rfl)]
      refine wp_store_row 41 _ _ rfl (w.heap.size + 1 + 1) (Ms.msgC 2 (k : Int) fr (some ⟨w.heap.size, 51, none⟩) 4 4) rfl rfl 41 _ G7.out (by kernel_rfl) rfl (by simp [Ms.msgC, Value.oneCell']) ?_
      have G3 := Lib.hid (G3.out.setRow_other (g' := w.heap.size + 1 + 1) (by omega) (Ms.msgC 2 (k : Int) fr (some ⟨w.heap.size, 51, none⟩) 4 4))
      have G6 := Lib.hid (G6.out.setRow_other (g' := w.heap.size + 1 + 1) (by omega) (Ms.msgC 2 (k : Int) fr (some ⟨w.heap.size, 51, none⟩) 4 4))
      have G7 := Lib.hid (G7.out.setRow (Ms.msgC 2 (k : Int) fr (some ⟨w.heap.size, 51, none⟩) 4 4))
      have HB := Lib.hid (below_setRow HB.out (show w.heap.size ≤ w.heap.size + 1 + 1 by omega) (Ms.msgC 2 (k : Int) fr (some ⟨w.heap.size, 51, none⟩) 4 4))
      have HW := Lib.hid (own_setRow HW.out (show w.heap.size + 1 + 1 < W.heap.size by omega) (Ms.msgC 2 (k : Int) fr (some ⟨w.heap.size, 51, none⟩) 4 4))
      generalize (V2.setRow (w.heap.size + 1 + 1) (Ms.msgC 2 (k : Int) fr (some ⟨w.heap.size, 51, none⟩) 4 4)) = V3 at *
      refine hK.out _ _ ?_
      clear hK K
      try simp only [Act.put, List.setIfInBounds_toArray, List.set_cons_zero, List.set_cons_succ]
      refine Rg.doneR (by kernel_rfl) ?_ _
      refine NoPanic.normal ?_
      clear HS
      go_wp2_with fail
      have hi4 : (Try.prog.info? 41).map (·.size) = some (Ms.msgC 2 (k : Int) fr (some ⟨w.heap.size, 51, none⟩) 4 4).size := by kernel_rfl
      refine ret_rows2 rfl rfl rfl G6.out ⟨by rw [Try.underlying37], i5⟩ G7.out ⟨by rw [Try.underlying41], hi4⟩ rfl ⟨A2, c2, some ⟨w.heap.size, 51, none⟩, 4, by rw [HQV.out, HR5.out]; rfl, Rd.of_own HW.out, ?_, HB.out, fun a h => Nat.le_trans (by omega) (own_lo HW.out a h), (fun a h => by cases h; exact Nat.le_refl _), own_cap HW.out⟩
      rw [HQV.out]
      have h3 := G3.out
      rw [← HR5.out] at h3
      exact (rd_heard HOK.out h3).more (by have := G3.out.lt; omega)
end Go.Proofs.Ytjfllpmiajkenaa.Nd
