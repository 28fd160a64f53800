/- Contract: the reference's Relay at a good computer. -/
import Derived.Test.YtfaielkkecphbaaRelay
namespace Go.Proofs.Ytfaielkkecphbaa.Nd
open Go.RowKit Go.Proofs.Ytfaielkkecphbaa.Mem Go.Proofs.Ytfaielkkecphbaa.Rws Go.Proofs.Ytfaielkkecphbaa.Flat
set_option linter.unusedVariables false
set_option linter.unusedSimpArgs false
theorem relayK_in (f : Nat → Value) (rv : Nat → Option (List Int)) (k i : Nat) (h : i < 39 + k * 3) (hk : k ≤ 4) : relayK f rv k i = relayK f rv 4 i := by
  unfold relayK
  by_cases h1 : 39 ≤ i
  · rw [if_pos ⟨h1, h⟩, if_pos ⟨h1, by omega⟩]
  · rw [if_neg (fun h => h1 h.1), if_neg (fun h => h1 h.1)]
theorem own_set_cell {w : World} {base : Nat} {e : TypeId} {size n : Nat} {v : Value} {xs : List Value} (h : w.ownsRow base e size v n xs) {p : Addr} (hp : ∀ {cur}, ¬ w.heap[p.block]? = some (.cells cur e (0, 0))) (u : Value) : (w.setCell p u).ownsRow base e size v n xs := by
  obtain ⟨hl, h | ⟨b, cap, cur, hv, hb, hh, hr⟩⟩ := h
  · exact ⟨hl, .inl h⟩
  · refine ⟨hl, .inr ⟨b, cap, cur, hv, hb, (Below.heap_setCell w p u b (fun e1 => ?_)).trans hh, hr⟩⟩
    rw [e1] at hh
    exact hp hh

set_option maxRecDepth 100000 in
set_option maxHeartbeats 4000000 in
theorem refrelay_any (f : Nat → Value) (hf : ∀ i, i < 73 → okT (nodeT i) (f i)) (k : Nat) (hk : k < 4) (hid : f 0 = .int .i64 (k : Int)) (fr : Int) (hfr : f 1 = .int .i64 fr) (A : Option Addr) (c : Nat) (bs : List Bool) (AI : Option Addr) (ci : Nat) (ms : List Ms.Msg) (B : Nat) (w : World) (hB : B ≤ w.heap.size) (hA : A = none → c = 0) (hnc : bs.length ≤ c) (hl : bs.length ≤ 140737488351232) (hr : Rd w B 1 A bs.length (boolsV bs)) (hml : ms.length ≤ 140737488355328) (hm : Ms.MsgsAt w B AI ms) :
    Calls Try.prog 68 #[.agg (row 74 (nodeW f (.slice A bs.length c))), .slice AI ms.length ci] w fun e w' => NodeMsg w w' (relayK f (relayV (k : Int) fr ms) 4) bs 2 (k : Int) fr (dvs (relayK f (relayV (k : Int) fr ms) 4)) e := by
  have hone : ∀ (A : Option Addr) (n c : Nat), (row 74 (nodeW f (.slice A n c))).all (·.oneCell') = true := fun A n c => one_of hf
  have HO := Lib.hid hone
  have HF := Lib.hid hf
  have HID := Lib.hid hid
  have HFR := Lib.hid hfr
  clear hf hone hid hfr
  go_enter Try.func68, Try.ntmps68
  go_upto_region 1 with fail
  have D3 : Hid (Blk (((w.alloc (.cells (row 74 (nodeW f (.slice A bs.length c))) 86)).alloc (.cells Try.zeroCells86 86)).alloc (.cells #[.int .i64 0, .int .i64 0, .int .i64 0, .slice none 0 0] 37)) w.heap.size 86 (row 74 (nodeW f (.slice A bs.length c)))) := Lib.hid (((Blk.new rfl).alloc _).alloc _)
  have D6 : Hid (Blk (((w.alloc (.cells (row 74 (nodeW f (.slice A bs.length c))) 86)).alloc (.cells Try.zeroCells86 86)).alloc (.cells #[.int .i64 0, .int .i64 0, .int .i64 0, .slice none 0 0] 37)) (w.heap.size + 1) 86 Try.zeroCells86) := Lib.hid ((Blk.new (by simp)).alloc _)
  have D7 : Hid (Blk (((w.alloc (.cells (row 74 (nodeW f (.slice A bs.length c))) 86)).alloc (.cells Try.zeroCells86 86)).alloc (.cells #[.int .i64 0, .int .i64 0, .int .i64 0, .slice none 0 0] 37)) (w.heap.size + 1 + 1) 37 #[.int .i64 0, .int .i64 0, .int .i64 0, .slice none 0 0]) := Lib.hid (Blk.new (by simp))
  have HB := Lib.hid (((((Below.refl w.heap.size w).alloc (Nat.le_refl _) (.cells (row 74 (nodeW f (.slice A bs.length c))) 86)).alloc (by simp) (.cells Try.zeroCells86 86)).alloc (by simp; omega) (.cells #[.int .i64 0, .int .i64 0, .int .i64 0, .slice none 0 0] 37)))
  have HR := Lib.hid hr
  have HMS := Lib.hid hm
  clear hr hm
  generalize (((w.alloc (.cells (row 74 (nodeW f (.slice A bs.length c))) 86)).alloc (.cells Try.zeroCells86 86)).alloc (.cells #[.int .i64 0, .int .i64 0, .int .i64 0, .slice none 0 0] 37)) = W at *
  have hi74 : ∀ A (n : Nat) c, (Try.prog.info? 86).map (·.size) = some (row 74 (nodeW f (.slice A n c))).size := fun A n c => by rw [row_size]; kernel_rfl
  have HI := Lib.hid hi74
  clear hi74
  have hwz : w.heap.size + 1 + 1 < W.heap.size := D7.out.lt
  have hia := HI.out A bs.length c
  obtain ⟨R1, hR1⟩ : ∃ R1, row 74 (nodeW f (.slice A bs.length c)) = R1 := ⟨_, rfl⟩
  have HR1 := Lib.hid hR1
  rw [hR1] at D3 hia
  clear hR1
  go_wp2_with (refine wpList_whole rfl 86 _ rfl w.heap.size rfl D3.out _ Try.underlying86 rfl hia ?_)
  rw [← HR1.out]
  refine (copyNode_any f HF.out A c bs B _ (Nat.le_trans hB HB.out.size) hA hnc hl (HR.out.below (HB.out.mono hB))).mono ?_
  rintro e w1 ⟨A2, c2, rfl, hown, hb1⟩
  rw [HR1.out]
  have HW1 := Lib.hid hown
  have HB1 := Lib.hid (onward HB.out (Nat.le_refl _) hb1)
  have hsz := hb1.size
  have hi2 := HI.out A2 bs.length c2
  have h12 := HO.out A2 bs.length c2
  have h20 : (row 74 (nodeW f (.slice A2 bs.length c2)))[0]? = some (.int .i64 (k : Int)) := by rw [row_at (by omega)]; exact congrArg some HID.out
  have h21 : (row 74 (nodeW f (.slice A2 bs.length c2)))[1]? = some (.int .i64 fr) := by rw [row_at (by omega)]; exact congrArg some HFR.out
  have hs2 : R1.size = (row 74 (nodeW f (.slice A2 bs.length c2))).size := by rw [← HR1.out, row_size, row_size]
  obtain ⟨R2, hR2⟩ : ∃ R2, row 74 (nodeW f (.slice A2 bs.length c2)) = R2 := ⟨_, rfl⟩
  have HR2 := Lib.hid hR2
  rw [hR2] at hi2 h12 h20 h21 hs2 ⊢
  clear hR2
  have E3 := Lib.hid (D3.out.below hb1 D3.out.lt)
  have F3 := Lib.hid (E3.out.setRow R2)
  have F6 := Lib.hid ((D6.out.below hb1 D6.out.lt).setRow_other (g' := w.heap.size) (by omega) R2)
  have F7 := Lib.hid ((D7.out.below hb1 D7.out.lt).setRow_other (g' := w.heap.size) (by omega) R2)
  have HB2 := Lib.hid (below_setRow HB1.out (Nat.le_refl _) R2)
  have HW2 := Lib.hid (own_setRow HW1.out (show w.heap.size < W.heap.size by omega) R2)
  have cT := fun w => none_any R2 (k : Int) h20 w
  have hk0 : ¬ ((k : Int) < 0) := by omega
  have hbk : badId (k : Int) = false := by unfold badId; simp; omega
  rw [hbk] at cT
  clear hb1 hown hbk
  go_upto_region 4 with (first
    | (refine wpList_store_row rfl 86 _ _ rfl w.heap.size R2 rfl rfl 86 _ E3.out hi2 hs2 h12 ?_)
    | (refine wpList_whole rfl 86 _ rfl w.heap.size rfl F3.out _ Try.underlying86 rfl hi2 ?_)
    | (go_at_call 112; refine (cT _).mono ?_; rintro e w3 ⟨rfl, hb3⟩; have G3 := Lib.hid (F3.out.below hb3 F3.out.lt); have G6 := Lib.hid (F6.out.below hb3 F6.out.lt); have G7 := Lib.hid (F7.out.below hb3 F7.out.lt); have HB3 := Lib.hid (onward HB2.out (Nat.le_refl _) hb3); have HW3 := Lib.hid (ownsRow_below HW2.out hb3); have hz3 := Nat.le_trans hsz (Nat.le_trans (show w1.heap.size ≤ (w1.setRow w.heap.size R2).heap.size from (below_setRow (Below.refl 0 w1) (Nat.zero_le _) R2).size) hb3.size); clear hb3))
  clear HB HB1 HB2 HW1 HW2 D3 D6 D7 E3 F3 F6 F7 cT hs2
  obtain ⟨rv, hrv⟩ : ∃ rv, relayV (k : Int) fr ms = rv := ⟨_, rfl⟩
  have HQV := Lib.hid hrv
  have HPV := Lib.hid (fun j : Nat => show rv j = (Ms.firstOf (k : Int) fr 1 3 (j : Int) ms).map (fun m => m.zs) by rw [← hrv]; rfl)
  clear hrv
  have y0 := (G3.out.cell 0).trans h20
  have y1 := (G3.out.cell 1).trans h21
  have HZ3 := Lib.hid hz3
  clear h12 hi2 h20 h21 hz3
  go_upto_region 5 with fail
  have G9 : Hid (Blk (w3.alloc (.cells (Ms.msgC 2 (k : Int) fr none 0 0) 37)) w3.heap.size 37 (Ms.msgC 2 (k : Int) fr none 0 0)) := Lib.hid (Blk.fresh _ _ _)
  have hb3 : Below w3.heap.size w3 (w3.alloc (.cells (Ms.msgC 2 (k : Int) fr none 0 0) 37)) := (Below.refl _ _).alloc (Nat.le_refl _) _
  have G3 := Lib.hid (G3.out.below hb3 G3.out.lt)
  have G6 := Lib.hid (G6.out.below hb3 G6.out.lt)
  have G7 := Lib.hid (G7.out.below hb3 G7.out.lt)
  have HW := Lib.hid (ownsRow_below HW3.out hb3)
  have HB := Lib.hid (onward HB3.out (Nat.le_refl _) hb3)
  clear HW3 HB3 hb3 y0 y1
  rw [show (w3.alloc (.cells #[.int .i64 2, .int .i64 (k : Int), .int .i64 fr, .slice none 0 0] 37)) = (w3.alloc (.cells (Ms.msgC 2 (k : Int) fr none 0 0) 37)) from rfl]
  generalize (w3.alloc (.cells (Ms.msgC 2 (k : Int) fr none 0 0) 37)) = W9 at *
  obtain ⟨g6, hg6⟩ : ∃ g, w3.heap.size = g := ⟨_, rfl⟩
  have hz3 := HZ3.out
  rw [hg6] at G9 hz3 ⊢
  clear hg6 HZ3
  rw [← HR2.out] at G3
  go_wp2_with fail
  go_loopw [7] (fun i wr => ∃ (j n : Nat) (AV : Option Addr) (cv : Nat), j ≤ 4 ∧ n = j * 3 ∧ i = .int .i64 j ∧ Blk wr w.heap.size 86 (row 74 (nodeW (relayK f rv j) (.slice A2 bs.length c2))) ∧ Blk wr (w.heap.size + 1) 86 Try.zeroCells86 ∧ Blk wr (w.heap.size + 1 + 1) 37 #[.int .i64 0, .int .i64 0, .int .i64 0, .slice none 0 0] ∧ Blk wr g6 37 (Ms.msgC 2 (k : Int) fr AV n cv) ∧ wr.ownsRow W.heap.size 4 1 (.slice A2 bs.length c2) bs.length (boolsV bs) ∧ wr.ownsRow (g6 + 1) 3 1 (.slice AV n cv) n ((List.range n).map fun q => (relayK f rv 4) (39 + q)) ∧ Below w.heap.size w wr) (fun i _ => 4 - (intOf i).toNat)
  case atStart => exact ⟨0, 0, none, 0, by omega, rfl, rfl, by rw [relayK_zero]; exact G3.out, G6.out, G7.out, G9.out, HW.out, World.ownsRow_nil _ _ _ _, HB.out⟩
  case round =>
    clear G3 G6 G7 G9 HW HB
    obtain ⟨j, n, AV, cv, hj, hn, rfl, g3, g6', g7, g9, hw, hv, hb⟩ := hrel
    have G3 := Lib.hid g3
    have G6 := Lib.hid g6'
    have G7 := Lib.hid g7
    have G9 := Lib.hid g9
    have HW := Lib.hid hw
    have HV := Lib.hid hv
    have HB := Lib.hid hb
    have HNJ := Lib.hid hn
    clear g3 g6' g7 g9 hw hv hb hn
    have HOK := Lib.hid (ok_relay HF.out rv j hj)
    have o5 := one_of HOK.out (A := A2) (n := bs.length) (c := c2)
    have i5 : (Try.prog.info? 86).map (·.size) = some (row 74 (nodeW (relayK f rv j) (.slice A2 bs.length c2))).size := by rw [row_size]; kernel_rfl
    have z5 : (Try.zeroCells86).size = (row 74 (nodeW (relayK f rv j) (.slice A2 bs.length c2))).size := by rw [row_size]; kernel_rfl
    have j0 : (row 74 (nodeW (relayK f rv j) (.slice A2 bs.length c2)))[0]? = some (.int .i64 (k : Int)) := by rw [row_at (by omega)]; exact congrArg some ((relayK_low f rv j 0 (by omega)).trans HID.out)
    have j1 : (row 74 (nodeW (relayK f rv j) (.slice A2 bs.length c2)))[1]? = some (.int .i64 fr) := by rw [row_at (by omega)]; exact congrArg some ((relayK_low f rv j 1 (by omega)).trans HFR.out)
    have G3F := G3
    obtain ⟨R5, hR5⟩ : ∃ R5, (row 74 (nodeW (relayK f rv j) (.slice A2 bs.length c2))) = R5 := ⟨_, rfl⟩
    rw [hR5] at o5 i5 z5 j0 j1 G3
    have HR5 := Lib.hid hR5
    clear hR5
    by_cases hlt : j < 4
    · have cF := Ms.first_any R5 (k : Int) fr j0 j1 AI ci ms (j : Int) 1 3 B wr (Nat.le_trans hB HB.out.size) hml (HMS.out.below (HB.out.mono hB))
      rw [show ((3 : Nat) : Int) = 3 from rfl] at cF
      have CF := Lib.hid cF
      have hpj := HPV.out j
      clear cF
      go_wp2_with (refine wpList_whole rfl 86 _ rfl w.heap.size rfl G3.out _ Try.underlying86 rfl i5 ?_)
      refine CF.out.mono ?_
      rintro e w4 ⟨hfa, hb⟩
      have G3 := Lib.hid (G3.out.below hb G3.out.lt)
      have G3F := Lib.hid (G3F.out.below hb G3F.out.lt)
      have G6 := Lib.hid (G6.out.below hb G6.out.lt)
      have G7 := Lib.hid (G7.out.below hb G7.out.lt)
      have G9 := Lib.hid (G9.out.below hb G9.out.lt)
      have HW := Lib.hid (ownsRow_below HW.out hb)
      have HV := Lib.hid (ownsRow_below HV.out hb)
      have HB := Lib.hid (onward HB.out (Nat.le_refl _) hb)
      clear hb CF
      cases ho : Ms.firstOf (k : Int) fr 1 3 (j : Int) ms with
      | none =>
        rw [ho] at hfa hpj
        obtain rfl : e = .returned (.tuple #[.slice none 0 0, .bool false]) := hfa
        have HPJ := Lib.hid (show rv j = none from hpj)
        clear hpj ho
        go_wp2_with fail
        have G3 := G3F
        rw [← relayK_none f rv j _ HPJ.out] at G3
        clear o5 i5 z5 j0 j1 HOK G3F HR5
        have HOK := Lib.hid (ok_relay HF.out rv (j + 1) (by omega))
        obtain ⟨R6, hR6⟩ : ∃ R6, (row 74 (nodeW (relayK f rv (j + 1)) (.slice A2 bs.length c2))) = R6 := ⟨_, rfl⟩
        have HNC := Lib.hid (fun (a : Nat) (ha : a < 3) => show R6[39 + j * 3 + a]? = some ((relayK f rv 4) (39 + (j * 3 + a))) by rw [← hR6, row_at (by omega)]; unfold nodeW; rw [if_neg (show ¬ (39 + j * 3 + a = 73) by omega), relayK_in f rv (j + 1) (39 + j * 3 + a) (by omega) (by omega), Nat.add_assoc])
        rw [hR6] at G3
        have HR6 := Lib.hid hR6
        clear hR6
        go_loopw [10] (fun ia wq => ∃ (a n : Nat) (AV : Option Addr) (cv : Nat), a ≤ 3 ∧ n = j * 3 + a ∧ ia = .int .i64 a ∧ Blk wq w.heap.size 86 R6 ∧ Blk wq (w.heap.size + 1) 86 Try.zeroCells86 ∧ Blk wq (w.heap.size + 1 + 1) 37 #[.int .i64 0, .int .i64 0, .int .i64 0, .slice none 0 0] ∧ Blk wq g6 37 (Ms.msgC 2 (k : Int) fr AV n cv) ∧ wq.ownsRow W.heap.size 4 1 (.slice A2 bs.length c2) bs.length (boolsV bs) ∧ wq.ownsRow (g6 + 1) 3 1 (.slice AV n cv) n ((List.range n).map fun q => (relayK f rv 4) (39 + q)) ∧ Below w.heap.size w wq) (fun ia _ => 3 - (intOf ia).toNat)
        case atStart => exact ⟨0, n, AV, cv, by omega, by have := HNJ.out; omega, rfl, G3.out, G6.out, G7.out, G9.out, HW.out, HV.out, HB.out⟩
        case round =>
          clear G3 G6 G7 G9 HW HV HB HNJ
          obtain ⟨a, n, AV, cv, ha, hn, rfl, g3, g6', g7, g9, hw, hv, hb⟩ := hrel
          have G3 := Lib.hid g3
          have G6 := Lib.hid g6'
          have G7 := Lib.hid g7
          have G9 := Lib.hid g9
          have HW := Lib.hid hw
          have HV := Lib.hid hv
          have HB := Lib.hid hb
          have HNJ := Lib.hid hn
          clear g3 g6' g7 g9 hw hv hb hn
          by_cases hla : a < 3
          · have hca := HNC.out a hla
            obtain ⟨z, hz⟩ : ∃ z, (relayK f rv 4) (39 + (j * 3 + a)) = .int .i64 z := by
              have h := ok_relay HF.out rv 4 (Nat.le_refl _) (39 + (j * 3 + a)) (by omega)
              have e : nodeT (39 + (j * 3 + a)) = true := by unfold nodeT; simp; omega
              rw [e] at h
              exact h
            rw [hz] at hca
            have HL := Lib.hid (show ((List.range n).map fun q => (relayK f rv 4) (39 + q)) ++ [Value.int .i64 z] = ((List.range (n + 1)).map fun q => (relayK f rv 4) (39 + q)) by rw [List.range_succ, List.map_append, List.map_singleton, HNJ.out, hz])
            have hn11 : n ≤ 11 := by have := HNJ.out; omega
            have hj0 : (0 : Int) ≤ (j : Int) := by omega
            have hj1 : (j : Int) < 4 := by omega
            have ha0 : (0 : Int) ≤ (a : Int) := by omega
            have ha1 : (a : Int) < 3 := by omega
            clear hz
            go_upto_region 14 with fail
            have G3 := Lib.hid (G3.out.drew)
            have G6 := Lib.hid (G6.out.drew)
            have G7 := Lib.hid (G7.out.drew)
            have G9 := Lib.hid (G9.out.drew)
            have HW := Lib.hid (ownsRow_below HW.out ((Below.refl wr.heap.size wr).drew))
            have HV := Lib.hid (ownsRow_below HV.out ((Below.refl wr.heap.size wr).drew))
            have HB := Lib.hid HB.out.drew
            have HS := And.intro G3.out G9.out
            refine wp_region_noPanic ?_
            refine Rg.beginR [1, 7] (fun w' => Blk w' w.heap.size 86 R6 ∧ Blk w' g6 37 (Ms.msgC 2 (k : Int) fr AV n cv)) (by kernel_rfl) ?_
            generalize wr.drew = V0 at *
            refine Rg.takeP (i := 0) (oi := { dst := some 51, op := Op.fieldAddr 37 (Operand.tmp 6) 3, type := 0, pos := "node.go:67", after := #[], guard := none }) (v := ?_) rfl (by kernel_rfl) (fun _ _ _ h => h) (by rfl) ?_ ?_
            rotate_left 1
            · (intro w; go_simp; (try with_reducible rfl))
            try simp only [Act.put, List.setIfInBounds_toArray, List.set_cons_zero, List.set_cons_succ]
            refine Rg.takeS (i := 1) (oi := { dst := some 52, op := Op.load 35 (Operand.tmp 51), type := 35, pos := "node.go:67", after := #[{ on := 0, ground := Ground.data }], guard := none }) (v := ?_) rfl (by kernel_rfl) (fun _ _ _ h => h) (by rfl) HS ?_ ?_
            rotate_left 1
            · (intro w' hSw; have y := hSw.2.cell 3; simp only [Ms.msgC, List.getElem?_toArray, List.getElem?_cons_zero, List.getElem?_cons_succ] at y; go_simp; (try with_reducible rfl))
            try simp only [Act.put, List.setIfInBounds_toArray, List.set_cons_zero, List.set_cons_succ]
            refine Rg.takeP (i := 2) (oi := { dst := some 53, op := Op.move (Operand.tmp 7), type := 3, pos := "node.go:67", after := #[], guard := none }) (v := ?_) rfl (by kernel_rfl) (fun _ _ _ h => h) (by rfl) ?_ ?_
            rotate_left 1
            · (intro w; go_simp; (try with_reducible rfl))
            try simp only [Act.put, List.setIfInBounds_toArray, List.set_cons_zero, List.set_cons_succ]
            refine Rg.takeP (i := 3) (oi := { dst := some 54, op := Op.move (Operand.tmp 10), type := 3, pos := "node.go:67", after := #[], guard := none }) (v := ?_) rfl (by kernel_rfl) (fun _ _ _ h => h) (by rfl) ?_ ?_
            rotate_left 1
            · (intro w; go_simp; (try with_reducible rfl))
            try simp only [Act.put, List.setIfInBounds_toArray, List.set_cons_zero, List.set_cons_succ]
            refine Rg.takeP (i := 4) (oi := { dst := some 55, op := Op.fieldAddr 86 (Operand.tmp 2) 5, type := 0, pos := "node.go:67", after := #[], guard := none }) (v := ?_) rfl (by kernel_rfl) (fun _ _ _ h => h) (by rfl) ?_ ?_
            rotate_left 1
            · (intro w; go_simp; (try with_reducible rfl))
            try simp only [Act.put, List.setIfInBounds_toArray, List.set_cons_zero, List.set_cons_succ]
            refine Rg.takeP (i := 5) (oi := { dst := some 56, op := Op.indexAddr 84 (Operand.tmp 55) (Operand.tmp 53), type := 0, pos := "node.go:67", after := #[{ on := 4, ground := Ground.data }, { on := 2, ground := Ground.data }], guard := none }) (v := ?_) rfl (by kernel_rfl) (fun _ _ _ h => h) (by rfl) ?_ ?_
            rotate_left 1
            · (intro w; go_simp; (try with_reducible rfl))
            try simp only [Act.put, List.setIfInBounds_toArray, List.set_cons_zero, List.set_cons_succ]
            refine Rg.takeP (i := 6) (oi := { dst := some 57, op := Op.indexAddr 83 (Operand.tmp 56) (Operand.tmp 54), type := 0, pos := "node.go:67", after := #[{ on := 5, ground := Ground.data }, { on := 3, ground := Ground.data }], guard := none }) (v := ?_) rfl (by kernel_rfl) (fun _ _ _ h => h) (by rfl) ?_ ?_
            rotate_left 1
            · (intro w; go_simp; (try with_reducible rfl))
            try simp only [Act.put, List.setIfInBounds_toArray, List.set_cons_zero, List.set_cons_succ]
            refine Rg.takeS (i := 7) (oi := { dst := some 58, op := Op.load 3 (Operand.tmp 57), type := 3, pos := "node.go:67", after := #[{ on := 6, ground := Ground.data }], guard := none }) (v := ?_) rfl (by kernel_rfl) (fun _ _ _ h => h) (by rfl) HS ?_ ?_
            rotate_left 1
            · (intro w' hSw; have y := (hSw.1.cell (39 + j * 3 + a)).trans hca; go_simp; (try with_reducible rfl))
            try simp only [Act.put, List.setIfInBounds_toArray, List.set_cons_zero, List.set_cons_succ]
            refine Rg.oneR (i := 8) (oi := { dst := some 59, op := Op.buildSlice 35 1 #[(0, Operand.tmp 58)], type := 35, pos := "node.go:67", after := #[{ on := 7, ground := Ground.data }], guard := none }) rfl (by kernel_rfl) ?_
            refine Rg.stepS ?_
            intro K hK
            go_simp
            have HN : Hid (Rd (V0.alloc (.cells #[.int .i64 z] 3)) (V0.heap.size + 1) 1 (some ⟨V0.heap.size, 0, none⟩) 1 [.int .i64 z]) := Lib.hid (Vt.rd_one _ _ _)
            have hb3 : Below V0.heap.size V0 (V0.alloc (.cells #[.int .i64 z] 3)) := (Below.refl _ _).alloc (Nat.le_refl _) _
            have G3 := Lib.hid (G3.out.below hb3 G3.out.lt)
            have G6 := Lib.hid (G6.out.below hb3 G6.out.lt)
            have G7 := Lib.hid (G7.out.below hb3 G7.out.lt)
            have G9 := Lib.hid (G9.out.below hb3 G9.out.lt)
            have HW := Lib.hid (ownsRow_below HW.out hb3)
            have HV := Lib.hid (ownsRow_below HV.out hb3)
            have HB := Lib.hid (onward HB.out (Nat.le_refl _) hb3)
            have hgs := G9.out.lt
            clear hb3 HS
            generalize (V0.alloc (.cells #[.int .i64 z] 3)) = V1 at *
            generalize V0.heap.size = nb at *
            have HS := And.intro G3.out G9.out
            refine hK.out _ _ HS ?_
            clear hK K
            try simp only [Act.put, List.setIfInBounds_toArray, List.set_cons_zero, List.set_cons_succ]
            refine Rg.oneR (i := 9) (oi := { dst := some 60, op := Op.call { callee := Callee.builtin Builtin.append, args := #[Operand.tmp 52, Operand.tmp 59], argTypes := #[35, 35] }, type := 35, pos := "node.go:67", after := #[{ on := 1, ground := Ground.data }, { on := 8, ground := Ground.data }], guard := none }) rfl (by kernel_rfl) ?_
            refine Rg.stepF ?_ ?_
            · kernel_rfl
            intro K hK
            rw [if_pos (by rfl)]
            refine wp_append_rd _ (.tmp 52) (.tmp 59) 35 rfl (base := g6 + 1) Ms.elemInts rfl HV.out rfl (fun h => by cases h) HN.out (by simp [Value.oneCell']) (by unfold maxLen; omega) (by omega) (by omega) ?_
            intro A' c' V2 hA' hown' hgr
            have hnb := HV.out
            have HW := Lib.hid (Ms.own_kept HW.out hgr (Ms.own_is HV.out (by decide)))
            have G3 := Lib.hid (G3.out.grown hgr (fun e => by have := (hnb.lt _ e.symm).1; omega))
            have G6 := Lib.hid (G6.out.grown hgr (fun e => by have := (hnb.lt _ e.symm).1; omega))
            have G7 := Lib.hid (G7.out.grown hgr (fun e => by have := (hnb.lt _ e.symm).1; omega))
            have G9 := Lib.hid (G9.out.grown hgr (fun e => by have := (hnb.lt _ e.symm).1; omega))
            have HB := Lib.hid (HB.out.grown hgr HB.out.size (fun g e => by have := (hnb.lt g e).1; omega))
            have HV := Lib.hid hown'
            clear hown' hgr hA' hnb
            have y2 := G9.out.cell 3
            have f2 := G9.out.thaw 3
            simp only [Ms.msgC, List.getElem?_toArray, List.getElem?_cons_zero, List.getElem?_cons_succ] at y2
            refine hK.out _ _ ?_
            clear hK K
            try simp only [Act.put, List.setIfInBounds_toArray, List.set_cons_zero, List.set_cons_succ]
            refine Rg.takeP (i := 10) (oi := { dst := some 61, op := Op.fieldAddr 37 (Operand.tmp 6) 3, type := 0, pos := "node.go:67", after := #[{ on := 0, ground := Ground.phase }, { on := 1, ground := Ground.phase }, { on := 2, ground := Ground.phase }, { on := 3, ground := Ground.phase }, { on := 4, ground := Ground.phase }, { on := 5, ground := Ground.phase }, { on := 6, ground := Ground.phase }, { on := 7, ground := Ground.phase }, { on := 8, ground := Ground.phase }, { on := 9, ground := Ground.phase }], guard := none }) (v := ?_) rfl (by kernel_rfl) (fun _ _ _ h => h) (by rfl) ?_ ?_
            rotate_left 1
            · (intro w; go_simp; (try with_reducible rfl))
            try simp only [Act.put, List.setIfInBounds_toArray, List.set_cons_zero, List.set_cons_succ]
            refine Rg.oneR (i := 11) (oi := { dst := none, op := Op.store 35 (Operand.tmp 61) (Operand.tmp 60), type := 0, pos := "node.go:67", after := #[{ on := 10, ground := Ground.data }, { on := 9, ground := Ground.data }, { on := 9, ground := Ground.chain }, { on := 0, ground := Ground.phase }, { on := 1, ground := Ground.phase }, { on := 2, ground := Ground.phase }, { on := 3, ground := Ground.phase }, { on := 4, ground := Ground.phase }, { on := 5, ground := Ground.phase }, { on := 6, ground := Ground.phase }, { on := 7, ground := Ground.phase }, { on := 8, ground := Ground.phase }, { on := 9, ground := Ground.phase }], guard := none }) rfl (by kernel_rfl) ?_
            refine Rg.stepF ?_ ?_
            · kernel_rfl
            intro K hK
            go_simp
            refine hK.out _ _ ?_
            clear hK K
            try simp only [Act.put, List.setIfInBounds_toArray, List.set_cons_zero, List.set_cons_succ]
            refine Rg.doneR (by kernel_rfl) ?_ _
            refine NoPanic.normal ?_
            go_wp2_with fail
            refine ⟨⟨a + 1, n + 1, A', c', by omega, by have := HNJ.out; omega, by go_num, G3.out.other (p := ⟨g6, 3, none⟩) (by show w.heap.size ≠ g6; omega) _, G6.out.other (p := ⟨g6, 3, none⟩) (by show w.heap.size + 1 ≠ g6; omega) _, G7.out.other (p := ⟨g6, 3, none⟩) (by show w.heap.size + 1 + 1 ≠ g6; omega) _, G9.out.set 3 _, ?_, ?_, HB.out.setCell (p := ⟨g6, 3, none⟩) (by show w.heap.size ≤ g6; omega) _⟩, by simp [intOf]; omega⟩
            · exact own_set_cell HW.out (by rw [G9.out]; exact fun h => by cases h) _
            · rw [← HL.out]; exact Vt.own_setCell HV.out (by omega) _
          · obtain rfl : a = 3 := by omega
            clear hla
            go_wp2_with fail
            exact ⟨⟨j + 1, n, AV, cv, by omega, by have := HNJ.out; omega, by go_num, by rw [HR6.out]; exact G3.out, G6.out, G7.out, G9.out, HW.out, HV.out, HB.out⟩, by simp [intOf]; omega⟩

      | some m =>
        have hzl := fit_len ho
        rw [ho] at hfa hpj
        obtain ⟨a, ca, rfl, _, _, hrd⟩ := hfa
        obtain ⟨b, o, rfl, hbB, hcell⟩ := hrd.2 (show 0 < m.zs.length by omega)
        obtain ⟨z0, z1, z2, hz⟩ : ∃ z0 z1 z2, m.zs = [z0, z1, z2] := by
          match hq : m.zs, hzl with
          | [z0, z1, z2], _ => exact ⟨z0, z1, z2, rfl⟩
        have hpj : rv j = some m.zs := hpj
        rw [hz] at hcell hpj ⊢
        have HPJ := Lib.hid hpj
        have hlen : ([z0, z1, z2] : List Int).length = 3 := rfl
        rw [hlen]
        have hj0 : (0 : Int) ≤ (j : Int) := by omega
        have hj1 : (j : Int) < 4 := by omega
        clear hpj ho hz hzl hlen hrd
        go_upto_region 10 with fail
        have G3 := Lib.hid (G3.out.drew)
        have G6 := Lib.hid (G6.out.drew)
        have G7 := Lib.hid (G7.out.drew)
        have G9 := Lib.hid (G9.out.drew)
        have G3F := Lib.hid (G3F.out.drew)
        have HW := Lib.hid (ownsRow_below HW.out ((Below.refl w4.heap.size w4).drew))
        have HV := Lib.hid (ownsRow_below HV.out ((Below.refl w4.heap.size w4).drew))
        have HB := Lib.hid HB.out.drew
        have HTH := Lib.hid (row_there G3F.out (39 + j * 3) 3 (by omega))
        have HS : w4.drew.cell? ⟨b, o, none⟩ = some (.int .i64 z0) ∧ w4.drew.cell? ⟨b, o + 1, none⟩ = some (.int .i64 z1) ∧ w4.drew.cell? ⟨b, o + 2, none⟩ = some (.int .i64 z2) := ⟨hcell 0 _ rfl, hcell 1 _ rfl, hcell 2 _ rfl⟩
        clear hcell
        refine wp_region_noPanic ?_
        refine Rg.beginR [3, 6, 9] (fun w' => w'.cell? ⟨b, o, none⟩ = some (.int .i64 z0) ∧ w'.cell? ⟨b, o + 1, none⟩ = some (.int .i64 z1) ∧ w'.cell? ⟨b, o + 2, none⟩ = some (.int .i64 z2)) (by kernel_rfl) ?_
        generalize w4.drew = V0 at *
        refine Rg.takeP (i := 0) (oi := { dst := some 34, op := Op.move (Operand.tmp 7), type := 3, pos := "node.go:64", after := #[], guard := none }) (v := ?_) rfl (by kernel_rfl) (fun _ _ _ h => h) (by rfl) ?_ ?_
        rotate_left 1
        · (intro w; go_simp; (try with_reducible rfl))
        try simp only [Act.put, List.setIfInBounds_toArray, List.set_cons_zero, List.set_cons_succ]
        refine Rg.takeP (i := 1) (oi := { dst := some 35, op := Op.move (Operand.tmp 8), type := 35, pos := "node.go:64", after := #[], guard := none }) (v := ?_) rfl (by kernel_rfl) (fun _ _ _ h => h) (by rfl) ?_ ?_
        rotate_left 1
        · (intro w; go_simp; (try with_reducible rfl))
        try simp only [Act.put, List.setIfInBounds_toArray, List.set_cons_zero, List.set_cons_succ]
        refine Rg.takeP (i := 2) (oi := { dst := some 36, op := Op.indexAddr 35 (Operand.tmp 35) (Operand.const (Value.int IntKind.i64 0)), type := 0, pos := "node.go:64", after := #[{ on := 1, ground := Ground.data }], guard := none }) (v := ?_) rfl (by kernel_rfl) (fun _ _ _ h => h) (by rfl) ?_ ?_
        rotate_left 1
        · (intro w; go_simp; (try with_reducible rfl))
        try simp only [Act.put, List.setIfInBounds_toArray, List.set_cons_zero, List.set_cons_succ]
        refine Rg.takeS (i := 3) (oi := { dst := some 37, op := Op.load 3 (Operand.tmp 36), type := 3, pos := "node.go:64", after := #[{ on := 2, ground := Ground.data }], guard := none }) (v := ?_) rfl (by kernel_rfl) (fun _ _ _ h => h) (by rfl) HS ?_ ?_
        rotate_left 1
        · (intro w' hSw; have y := hSw.1; go_simp; (try with_reducible rfl))
        try simp only [Act.put, List.setIfInBounds_toArray, List.set_cons_zero, List.set_cons_succ]
        refine Rg.takeP (i := 4) (oi := { dst := some 38, op := Op.move (Operand.tmp 8), type := 35, pos := "node.go:64", after := #[], guard := none }) (v := ?_) rfl (by kernel_rfl) (fun _ _ _ h => h) (by rfl) ?_ ?_
        rotate_left 1
        · (intro w; go_simp; (try with_reducible rfl))
        try simp only [Act.put, List.setIfInBounds_toArray, List.set_cons_zero, List.set_cons_succ]
        refine Rg.takeP (i := 5) (oi := { dst := some 39, op := Op.indexAddr 35 (Operand.tmp 38) (Operand.const (Value.int IntKind.i64 1)), type := 0, pos := "node.go:64", after := #[{ on := 4, ground := Ground.data }], guard := none }) (v := ?_) rfl (by kernel_rfl) (fun _ _ _ h => h) (by rfl) ?_ ?_
        rotate_left 1
        · (intro w; go_simp; (try with_reducible rfl))
        try simp only [Act.put, List.setIfInBounds_toArray, List.set_cons_zero, List.set_cons_succ]
        refine Rg.takeS (i := 6) (oi := { dst := some 40, op := Op.load 3 (Operand.tmp 39), type := 3, pos := "node.go:64", after := #[{ on := 5, ground := Ground.data }], guard := none }) (v := ?_) rfl (by kernel_rfl) (fun _ _ _ h => h) (by rfl) HS ?_ ?_
        rotate_left 1
        · (intro w' hSw; have y := hSw.2.1; go_simp; (try with_reducible rfl))
        try simp only [Act.put, List.setIfInBounds_toArray, List.set_cons_zero, List.set_cons_succ]
        refine Rg.takeP (i := 7) (oi := { dst := some 41, op := Op.move (Operand.tmp 8), type := 35, pos := "node.go:64", after := #[], guard := none }) (v := ?_) rfl (by kernel_rfl) (fun _ _ _ h => h) (by rfl) ?_ ?_
        rotate_left 1
        · (intro w; go_simp; (try with_reducible rfl))
        try simp only [Act.put, List.setIfInBounds_toArray, List.set_cons_zero, List.set_cons_succ]
        refine Rg.takeP (i := 8) (oi := { dst := some 42, op := Op.indexAddr 35 (Operand.tmp 41) (Operand.const (Value.int IntKind.i64 2)), type := 0, pos := "node.go:64", after := #[{ on := 7, ground := Ground.data }], guard := none }) (v := ?_) rfl (by kernel_rfl) (fun _ _ _ h => h) (by rfl) ?_ ?_
        rotate_left 1
        · (intro w; go_simp; (try with_reducible rfl))
        try simp only [Act.put, List.setIfInBounds_toArray, List.set_cons_zero, List.set_cons_succ]
        refine Rg.takeS (i := 9) (oi := { dst := some 43, op := Op.load 3 (Operand.tmp 42), type := 3, pos := "node.go:64", after := #[{ on := 8, ground := Ground.data }], guard := none }) (v := ?_) rfl (by kernel_rfl) (fun _ _ _ h => h) (by rfl) HS ?_ ?_
        rotate_left 1
        · (intro w' hSw; have y := hSw.2.2; go_simp; (try with_reducible rfl))
        try simp only [Act.put, List.setIfInBounds_toArray, List.set_cons_zero, List.set_cons_succ]
        refine Rg.takeP (i := 10) (oi := { dst := some 44, op := Op.build 83 #[(0, Operand.tmp 37), (1, Operand.tmp 40), (2, Operand.tmp 43)], type := 83, pos := "node.go:64", after := #[{ on := 3, ground := Ground.data }, { on := 6, ground := Ground.data }, { on := 9, ground := Ground.data }], guard := none }) (v := ?_) rfl (by kernel_rfl) (fun _ _ _ h => h) (by rfl) ?_ ?_
        rotate_left 1
        · (intro w; go_simp; (try with_reducible rfl))
        try simp only [Act.put, List.setIfInBounds_toArray, List.set_cons_zero, List.set_cons_succ]
        refine Rg.takeP (i := 11) (oi := { dst := some 45, op := Op.fieldAddr 86 (Operand.tmp 2) 5, type := 0, pos := "node.go:64", after := #[], guard := none }) (v := ?_) rfl (by kernel_rfl) (fun _ _ _ h => h) (by rfl) ?_ ?_
        rotate_left 1
        · (intro w; go_simp; (try with_reducible rfl))
        try simp only [Act.put, List.setIfInBounds_toArray, List.set_cons_zero, List.set_cons_succ]
        refine Rg.takeP (i := 12) (oi := { dst := some 46, op := Op.indexAddr 84 (Operand.tmp 45) (Operand.tmp 34), type := 0, pos := "node.go:64", after := #[{ on := 11, ground := Ground.data }, { on := 0, ground := Ground.data }, { on := 0, ground := Ground.phase }, { on := 1, ground := Ground.phase }, { on := 2, ground := Ground.phase }, { on := 3, ground := Ground.phase }, { on := 4, ground := Ground.phase }, { on := 5, ground := Ground.phase }, { on := 6, ground := Ground.phase }, { on := 7, ground := Ground.phase }, { on := 8, ground := Ground.phase }, { on := 9, ground := Ground.phase }, { on := 10, ground := Ground.phase }], guard := none }) (v := ?_) rfl (by kernel_rfl) (fun _ _ _ h => h) (by rfl) ?_ ?_
        rotate_left 1
        · (intro w; go_simp; (try with_reducible rfl))
        try simp only [Act.put, List.setIfInBounds_toArray, List.set_cons_zero, List.set_cons_succ]
        refine Rg.oneR (i := 13) (oi := { dst := none, op := Op.store 83 (Operand.tmp 46) (Operand.tmp 44), type := 0, pos := "node.go:64", after := #[{ on := 12, ground := Ground.data }, { on := 10, ground := Ground.data }, { on := 0, ground := Ground.phase }, { on := 1, ground := Ground.phase }, { on := 2, ground := Ground.phase }, { on := 3, ground := Ground.phase }, { on := 4, ground := Ground.phase }, { on := 5, ground := Ground.phase }, { on := 6, ground := Ground.phase }, { on := 7, ground := Ground.phase }, { on := 8, ground := Ground.phase }, { on := 9, ground := Ground.phase }, { on := 10, ground := Ground.phase }], guard := none }) rfl (by kernel_rfl) ?_
        refine Rg.stepF ?_ ?_
        · kernel_rfl
        intro K hK
        rw [if_pos (by rfl)]
        refine wp_store_mid 83 (.tmp 46) (.tmp 44) rfl w.heap.size (39 + j * 3) #[.int .i64 z0, .int .i64 z1, .int .i64 z2] rfl rfl HTH.out (by kernel_rfl) (by simp [Value.oneCell']) ?_
        have G3 := Lib.hid (blk_mid (w := V0) G3F.out (39 + j * 3) 3 (rz [z0, z1, z2]))
        rw [relayK_some f rv j hlt _ HPJ.out] at G3
        have G6 := Lib.hid (blk_mid_other (w := V0) (b' := w.heap.size) (by omega) (row 3 (rz [z0, z1, z2])).toList (39 + j * 3) _ G6.out)
        have G7 := Lib.hid (blk_mid_other (w := V0) (b' := w.heap.size) (by omega) (row 3 (rz [z0, z1, z2])).toList (39 + j * 3) _ G7.out)
        have G9 := Lib.hid (blk_mid_other (w := V0) (b' := w.heap.size) (by omega) (row 3 (rz [z0, z1, z2])).toList (39 + j * 3) _ G9.out)
        have HW := Lib.hid (own_setCells (show w.heap.size < W.heap.size by omega) (row 3 (rz [z0, z1, z2])).toList (39 + j * 3) HW.out)
        have HV := Lib.hid (own_setCells (show w.heap.size < g6 + 1 by omega) (row 3 (rz [z0, z1, z2])).toList (39 + j * 3) HV.out)
        have HB := Lib.hid (below_setCells (Nat.le_refl _) (row 3 (rz [z0, z1, z2])).toList (39 + j * 3) HB.out)
        have G3 : Hid (Blk (V0.setCells w.heap.size (39 + j * 3) (#[.int .i64 z0, .int .i64 z1, .int .i64 z2] : Array Value).toList) w.heap.size 86 (row 74 (nodeW (relayK f rv (j + 1)) (.slice A2 bs.length c2)))) := G3
        have G6 : Hid (Blk (V0.setCells w.heap.size (39 + j * 3) (#[.int .i64 z0, .int .i64 z1, .int .i64 z2] : Array Value).toList) (w.heap.size + 1) 86 Try.zeroCells86) := G6
        have G7 : Hid (Blk (V0.setCells w.heap.size (39 + j * 3) (#[.int .i64 z0, .int .i64 z1, .int .i64 z2] : Array Value).toList) (w.heap.size + 1 + 1) 37 #[.int .i64 0, .int .i64 0, .int .i64 0, .slice none 0 0]) := G7
        have G9 : Hid (Blk (V0.setCells w.heap.size (39 + j * 3) (#[.int .i64 z0, .int .i64 z1, .int .i64 z2] : Array Value).toList) g6 37 (Ms.msgC 2 (k : Int) fr AV n cv)) := G9
        have HW : Hid ((V0.setCells w.heap.size (39 + j * 3) (#[.int .i64 z0, .int .i64 z1, .int .i64 z2] : Array Value).toList).ownsRow W.heap.size 4 1 (.slice A2 bs.length c2) bs.length (boolsV bs)) := HW
        have HV : Hid ((V0.setCells w.heap.size (39 + j * 3) (#[.int .i64 z0, .int .i64 z1, .int .i64 z2] : Array Value).toList).ownsRow (g6 + 1) 3 1 (.slice AV n cv) n ((List.range n).map fun q => (relayK f rv 4) (39 + q))) := HV
        have HB : Hid (Below w.heap.size w (V0.setCells w.heap.size (39 + j * 3) (#[.int .i64 z0, .int .i64 z1, .int .i64 z2] : Array Value).toList)) := HB
        generalize (V0.setCells w.heap.size (39 + j * 3) (#[.int .i64 z0, .int .i64 z1, .int .i64 z2] : Array Value).toList) = V1 at *
        refine hK.out _ _ ?_
        clear hK K
        try simp only [Act.put, List.setIfInBounds_toArray, List.set_cons_zero, List.set_cons_succ]
        refine Rg.doneR (by kernel_rfl) ?_ _
        refine NoPanic.normal ?_
        clear HS
        go_wp2_with fail

        clear o5 i5 z5 j0 j1 HOK G3F HR5
        have HOK := Lib.hid (ok_relay HF.out rv (j + 1) (by omega))
        obtain ⟨R6, hR6⟩ : ∃ R6, (row 74 (nodeW (relayK f rv (j + 1)) (.slice A2 bs.length c2))) = R6 := ⟨_, rfl⟩
        have HNC := Lib.hid (fun (a : Nat) (ha : a < 3) => show R6[39 + j * 3 + a]? = some ((relayK f rv 4) (39 + (j * 3 + a))) by rw [← hR6, row_at (by omega)]; unfold nodeW; rw [if_neg (show ¬ (39 + j * 3 + a = 73) by omega), relayK_in f rv (j + 1) (39 + j * 3 + a) (by omega) (by omega), Nat.add_assoc])
        rw [hR6] at G3
        have HR6 := Lib.hid hR6
        clear hR6
        go_loopw [10] (fun ia wq => ∃ (a n : Nat) (AV : Option Addr) (cv : Nat), a ≤ 3 ∧ n = j * 3 + a ∧ ia = .int .i64 a ∧ Blk wq w.heap.size 86 R6 ∧ Blk wq (w.heap.size + 1) 86 Try.zeroCells86 ∧ Blk wq (w.heap.size + 1 + 1) 37 #[.int .i64 0, .int .i64 0, .int .i64 0, .slice none 0 0] ∧ Blk wq g6 37 (Ms.msgC 2 (k : Int) fr AV n cv) ∧ wq.ownsRow W.heap.size 4 1 (.slice A2 bs.length c2) bs.length (boolsV bs) ∧ wq.ownsRow (g6 + 1) 3 1 (.slice AV n cv) n ((List.range n).map fun q => (relayK f rv 4) (39 + q)) ∧ Below w.heap.size w wq) (fun ia _ => 3 - (intOf ia).toNat)
        case atStart => exact ⟨0, n, AV, cv, by omega, by have := HNJ.out; omega, rfl, G3.out, G6.out, G7.out, G9.out, HW.out, HV.out, HB.out⟩
        case round =>
          clear G3 G6 G7 G9 HW HV HB HNJ
          obtain ⟨a, n, AV, cv, ha, hn, rfl, g3, g6', g7, g9, hw, hv, hb⟩ := hrel
          have G3 := Lib.hid g3
          have G6 := Lib.hid g6'
          have G7 := Lib.hid g7
          have G9 := Lib.hid g9
          have HW := Lib.hid hw
          have HV := Lib.hid hv
          have HB := Lib.hid hb
          have HNJ := Lib.hid hn
          clear g3 g6' g7 g9 hw hv hb hn
          by_cases hla : a < 3
          · have hca := HNC.out a hla
            obtain ⟨z, hz⟩ : ∃ z, (relayK f rv 4) (39 + (j * 3 + a)) = .int .i64 z := by
              have h := ok_relay HF.out rv 4 (Nat.le_refl _) (39 + (j * 3 + a)) (by omega)
              have e : nodeT (39 + (j * 3 + a)) = true := by unfold nodeT; simp; omega
              rw [e] at h
              exact h
            rw [hz] at hca
            have HL := Lib.hid (show ((List.range n).map fun q => (relayK f rv 4) (39 + q)) ++ [Value.int .i64 z] = ((List.range (n + 1)).map fun q => (relayK f rv 4) (39 + q)) by rw [List.range_succ, List.map_append, List.map_singleton, HNJ.out, hz])
            have hn11 : n ≤ 11 := by have := HNJ.out; omega
            have hj0 : (0 : Int) ≤ (j : Int) := by omega
            have hj1 : (j : Int) < 4 := by omega
            have ha0 : (0 : Int) ≤ (a : Int) := by omega
            have ha1 : (a : Int) < 3 := by omega
            clear hz
            go_upto_region 14 with fail
            have G3 := Lib.hid (G3.out.drew)
            have G6 := Lib.hid (G6.out.drew)
            have G7 := Lib.hid (G7.out.drew)
            have G9 := Lib.hid (G9.out.drew)
            have HW := Lib.hid (ownsRow_below HW.out ((Below.refl wr.heap.size wr).drew))
            have HV := Lib.hid (ownsRow_below HV.out ((Below.refl wr.heap.size wr).drew))
            have HB := Lib.hid HB.out.drew
            have HS := And.intro G3.out G9.out
            refine wp_region_noPanic ?_
            refine Rg.beginR [1, 7] (fun w' => Blk w' w.heap.size 86 R6 ∧ Blk w' g6 37 (Ms.msgC 2 (k : Int) fr AV n cv)) (by kernel_rfl) ?_
            generalize wr.drew = V0 at *
            refine Rg.takeP (i := 0) (oi := { dst := some 51, op := Op.fieldAddr 37 (Operand.tmp 6) 3, type := 0, pos := "node.go:67", after := #[], guard := none }) (v := ?_) rfl (by kernel_rfl) (fun _ _ _ h => h) (by rfl) ?_ ?_
            rotate_left 1
            · (intro w; go_simp; (try with_reducible rfl))
            try simp only [Act.put, List.setIfInBounds_toArray, List.set_cons_zero, List.set_cons_succ]
            refine Rg.takeS (i := 1) (oi := { dst := some 52, op := Op.load 35 (Operand.tmp 51), type := 35, pos := "node.go:67", after := #[{ on := 0, ground := Ground.data }], guard := none }) (v := ?_) rfl (by kernel_rfl) (fun _ _ _ h => h) (by rfl) HS ?_ ?_
            rotate_left 1
            · (intro w' hSw; have y := hSw.2.cell 3; simp only [Ms.msgC, List.getElem?_toArray, List.getElem?_cons_zero, List.getElem?_cons_succ] at y; go_simp; (try with_reducible rfl))
            try simp only [Act.put, List.setIfInBounds_toArray, List.set_cons_zero, List.set_cons_succ]
            refine Rg.takeP (i := 2) (oi := { dst := some 53, op := Op.move (Operand.tmp 7), type := 3, pos := "node.go:67", after := #[], guard := none }) (v := ?_) rfl (by kernel_rfl) (fun _ _ _ h => h) (by rfl) ?_ ?_
            rotate_left 1
            · (intro w; go_simp; (try with_reducible rfl))
            try simp only [Act.put, List.setIfInBounds_toArray, List.set_cons_zero, List.set_cons_succ]
            refine Rg.takeP (i := 3) (oi := { dst := some 54, op := Op.move (Operand.tmp 10), type := 3, pos := "node.go:67", after := #[], guard := none }) (v := ?_) rfl (by kernel_rfl) (fun _ _ _ h => h) (by rfl) ?_ ?_
            rotate_left 1
            · (intro w; go_simp; (try with_reducible rfl))
            try simp only [Act.put, List.setIfInBounds_toArray, List.set_cons_zero, List.set_cons_succ]
            refine Rg.takeP (i := 4) (oi := { dst := some 55, op := Op.fieldAddr 86 (Operand.tmp 2) 5, type := 0, pos := "node.go:67", after := #[], guard := none }) (v := ?_) rfl (by kernel_rfl) (fun _ _ _ h => h) (by rfl) ?_ ?_
            rotate_left 1
            · (intro w; go_simp; (try with_reducible rfl))
            try simp only [Act.put, List.setIfInBounds_toArray, List.set_cons_zero, List.set_cons_succ]
            refine Rg.takeP (i := 5) (oi := { dst := some 56, op := Op.indexAddr 84 (Operand.tmp 55) (Operand.tmp 53), type := 0, pos := "node.go:67", after := #[{ on := 4, ground := Ground.data }, { on := 2, ground := Ground.data }], guard := none }) (v := ?_) rfl (by kernel_rfl) (fun _ _ _ h => h) (by rfl) ?_ ?_
            rotate_left 1
            · (intro w; go_simp; (try with_reducible rfl))
            try simp only [Act.put, List.setIfInBounds_toArray, List.set_cons_zero, List.set_cons_succ]
            refine Rg.takeP (i := 6) (oi := { dst := some 57, op := Op.indexAddr 83 (Operand.tmp 56) (Operand.tmp 54), type := 0, pos := "node.go:67", after := #[{ on := 5, ground := Ground.data }, { on := 3, ground := Ground.data }], guard := none }) (v := ?_) rfl (by kernel_rfl) (fun _ _ _ h => h) (by rfl) ?_ ?_
            rotate_left 1
            · (intro w; go_simp; (try with_reducible rfl))
            try simp only [Act.put, List.setIfInBounds_toArray, List.set_cons_zero, List.set_cons_succ]
            refine Rg.takeS (i := 7) (oi := { dst := some 58, op := Op.load 3 (Operand.tmp 57), type := 3, pos := "node.go:67", after := #[{ on := 6, ground := Ground.data }], guard := none }) (v := ?_) rfl (by kernel_rfl) (fun _ _ _ h => h) (by rfl) HS ?_ ?_
            rotate_left 1
            · (intro w' hSw; have y := (hSw.1.cell (39 + j * 3 + a)).trans hca; go_simp; (try with_reducible rfl))
            try simp only [Act.put, List.setIfInBounds_toArray, List.set_cons_zero, List.set_cons_succ]
            refine Rg.oneR (i := 8) (oi := { dst := some 59, op := Op.buildSlice 35 1 #[(0, Operand.tmp 58)], type := 35, pos := "node.go:67", after := #[{ on := 7, ground := Ground.data }], guard := none }) rfl (by kernel_rfl) ?_
            refine Rg.stepS ?_
            intro K hK
            go_simp
            have HN : Hid (Rd (V0.alloc (.cells #[.int .i64 z] 3)) (V0.heap.size + 1) 1 (some ⟨V0.heap.size, 0, none⟩) 1 [.int .i64 z]) := Lib.hid (Vt.rd_one _ _ _)
            have hb3 : Below V0.heap.size V0 (V0.alloc (.cells #[.int .i64 z] 3)) := (Below.refl _ _).alloc (Nat.le_refl _) _
            have G3 := Lib.hid (G3.out.below hb3 G3.out.lt)
            have G6 := Lib.hid (G6.out.below hb3 G6.out.lt)
            have G7 := Lib.hid (G7.out.below hb3 G7.out.lt)
            have G9 := Lib.hid (G9.out.below hb3 G9.out.lt)
            have HW := Lib.hid (ownsRow_below HW.out hb3)
            have HV := Lib.hid (ownsRow_below HV.out hb3)
            have HB := Lib.hid (onward HB.out (Nat.le_refl _) hb3)
            have hgs := G9.out.lt
            clear hb3 HS
            generalize (V0.alloc (.cells #[.int .i64 z] 3)) = V1 at *
            generalize V0.heap.size = nb at *
            have HS := And.intro G3.out G9.out
            refine hK.out _ _ HS ?_
            clear hK K
            try simp only [Act.put, List.setIfInBounds_toArray, List.set_cons_zero, List.set_cons_succ]
            refine Rg.oneR (i := 9) (oi := { dst := some 60, op := Op.call { callee := Callee.builtin Builtin.append, args := #[Operand.tmp 52, Operand.tmp 59], argTypes := #[35, 35] }, type := 35, pos := "node.go:67", after := #[{ on := 1, ground := Ground.data }, { on := 8, ground := Ground.data }], guard := none }) rfl (by kernel_rfl) ?_
            refine Rg.stepF ?_ ?_
            · kernel_rfl
            intro K hK
            rw [if_pos (by rfl)]
            refine wp_append_rd _ (.tmp 52) (.tmp 59) 35 rfl (base := g6 + 1) Ms.elemInts rfl HV.out rfl (fun h => by cases h) HN.out (by simp [Value.oneCell']) (by unfold maxLen; omega) (by omega) (by omega) ?_
            intro A' c' V2 hA' hown' hgr
            have hnb := HV.out
            have HW := Lib.hid (Ms.own_kept HW.out hgr (Ms.own_is HV.out (by decide)))
            have G3 := Lib.hid (G3.out.grown hgr (fun e => by have := (hnb.lt _ e.symm).1; omega))
            have G6 := Lib.hid (G6.out.grown hgr (fun e => by have := (hnb.lt _ e.symm).1; omega))
            have G7 := Lib.hid (G7.out.grown hgr (fun e => by have := (hnb.lt _ e.symm).1; omega))
            have G9 := Lib.hid (G9.out.grown hgr (fun e => by have := (hnb.lt _ e.symm).1; omega))
            have HB := Lib.hid (HB.out.grown hgr HB.out.size (fun g e => by have := (hnb.lt g e).1; omega))
            have HV := Lib.hid hown'
            clear hown' hgr hA' hnb
            have y2 := G9.out.cell 3
            have f2 := G9.out.thaw 3
            simp only [Ms.msgC, List.getElem?_toArray, List.getElem?_cons_zero, List.getElem?_cons_succ] at y2
            refine hK.out _ _ ?_
            clear hK K
            try simp only [Act.put, List.setIfInBounds_toArray, List.set_cons_zero, List.set_cons_succ]
            refine Rg.takeP (i := 10) (oi := { dst := some 61, op := Op.fieldAddr 37 (Operand.tmp 6) 3, type := 0, pos := "node.go:67", after := #[{ on := 0, ground := Ground.phase }, { on := 1, ground := Ground.phase }, { on := 2, ground := Ground.phase }, { on := 3, ground := Ground.phase }, { on := 4, ground := Ground.phase }, { on := 5, ground := Ground.phase }, { on := 6, ground := Ground.phase }, { on := 7, ground := Ground.phase }, { on := 8, ground := Ground.phase }, { on := 9, ground := Ground.phase }], guard := none }) (v := ?_) rfl (by kernel_rfl) (fun _ _ _ h => h) (by rfl) ?_ ?_
            rotate_left 1
            · (intro w; go_simp; (try with_reducible rfl))
            try simp only [Act.put, List.setIfInBounds_toArray, List.set_cons_zero, List.set_cons_succ]
            refine Rg.oneR (i := 11) (oi := { dst := none, op := Op.store 35 (Operand.tmp 61) (Operand.tmp 60), type := 0, pos := "node.go:67", after := #[{ on := 10, ground := Ground.data }, { on := 9, ground := Ground.data }, { on := 9, ground := Ground.chain }, { on := 0, ground := Ground.phase }, { on := 1, ground := Ground.phase }, { on := 2, ground := Ground.phase }, { on := 3, ground := Ground.phase }, { on := 4, ground := Ground.phase }, { on := 5, ground := Ground.phase }, { on := 6, ground := Ground.phase }, { on := 7, ground := Ground.phase }, { on := 8, ground := Ground.phase }, { on := 9, ground := Ground.phase }], guard := none }) rfl (by kernel_rfl) ?_
            refine Rg.stepF ?_ ?_
            · kernel_rfl
            intro K hK
            go_simp
            refine hK.out _ _ ?_
            clear hK K
            try simp only [Act.put, List.setIfInBounds_toArray, List.set_cons_zero, List.set_cons_succ]
            refine Rg.doneR (by kernel_rfl) ?_ _
            refine NoPanic.normal ?_
            go_wp2_with fail
            refine ⟨⟨a + 1, n + 1, A', c', by omega, by have := HNJ.out; omega, by go_num, G3.out.other (p := ⟨g6, 3, none⟩) (by show w.heap.size ≠ g6; omega) _, G6.out.other (p := ⟨g6, 3, none⟩) (by show w.heap.size + 1 ≠ g6; omega) _, G7.out.other (p := ⟨g6, 3, none⟩) (by show w.heap.size + 1 + 1 ≠ g6; omega) _, G9.out.set 3 _, ?_, ?_, HB.out.setCell (p := ⟨g6, 3, none⟩) (by show w.heap.size ≤ g6; omega) _⟩, by simp [intOf]; omega⟩
            · exact own_set_cell HW.out (by rw [G9.out]; exact fun h => by cases h) _
            · rw [← HL.out]; exact Vt.own_setCell HV.out (by omega) _
          · obtain rfl : a = 3 := by omega
            clear hla
            go_wp2_with fail
            exact ⟨⟨j + 1, n, AV, cv, by omega, by have := HNJ.out; omega, by go_num, by rw [HR6.out]; exact G3.out, G6.out, G7.out, G9.out, HW.out, HV.out, HB.out⟩, by simp [intOf]; omega⟩

    · obtain rfl : j = 4 := by omega
      clear hlt G3F
      obtain rfl : n = 12 := by have := HNJ.out; omega
      rw [show ((4 : Nat) : Int) = 4 from rfl]
      go_upto_region 15 with fail
      have G3 := Lib.hid (G3.out.drew)
      have G6 := Lib.hid (G6.out.drew)
      have G7 := Lib.hid (G7.out.drew)
      have G9 := Lib.hid (G9.out.drew)
      have HW := Lib.hid (ownsRow_below HW.out ((Below.refl wr.heap.size wr).drew))
      have HV := Lib.hid (ownsRow_below HV.out ((Below.refl wr.heap.size wr).drew))
      have HB := Lib.hid HB.out.drew
      have HS := And.intro G3.out G9.out
      refine wp_region_noPanic ?_
      refine Rg.beginR [0, 1] (fun w' => Blk w' w.heap.size 86 R5 ∧ Blk w' g6 37 (Ms.msgC 2 (k : Int) fr AV 12 cv)) (by kernel_rfl) ?_
      generalize wr.drew = V0 at *
      refine Rg.takeS (i := 0) (oi := { dst := some 62, op := Op.load 86 (Operand.tmp 2), type := 86, pos := "node.go:70", after := #[], guard := none }) (v := .agg R5) rfl (by kernel_rfl) (fun _ _ _ h => h) (by rfl) HS ?_ ?_
      · (intro w' hSw; exact exec_load_row 86 _ rfl _ rfl hSw.1 Try.underlying86 rfl i5)
      try simp only [Act.put, List.setIfInBounds_toArray, List.set_cons_zero, List.set_cons_succ]
      refine Rg.takeS (i := 1) (oi := { dst := some 63, op := Op.load 37 (Operand.tmp 6), type := 37, pos := "node.go:70", after := #[{ on := 2, ground := Ground.gcOnly Departure.lateStores }], guard := none }) (v := .agg (Ms.msgC 2 (k : Int) fr AV 12 cv)) rfl (by kernel_rfl) (fun _ _ _ h => h) (by rfl) HS ?_ ?_
      · (intro w' hSw; exact exec_load_row 37 _ rfl _ rfl hSw.2 Try.underlying37 rfl (by kernel_rfl))
      try simp only [Act.put, List.setIfInBounds_toArray, List.set_cons_zero, List.set_cons_succ]
      refine Rg.oneR (i := 2) (oi := { dst := none, op := Op.store 86 (Operand.tmp 4) (Operand.tmp 62), type := 0, pos := "node.go:70", after := #[{ on := 0, ground := Ground.data }, { on := 0, ground := Ground.phase }, { on := 1, ground := Ground.textOnly Departure.lateStores }], guard := none }) rfl (by kernel_rfl) ?_
      refine Rg.stepS ?_
      intro K hK
      rw [if_pos (by rfl)]
      refine wp_store_row 86 _ _ rfl (w.heap.size + 1) R5 rfl rfl 86 _ G6.out i5 z5 o5 ?_
      have G3 := Lib.hid (G3.out.setRow_other (g' := w.heap.size + 1) (by omega) R5)
      have G7 := Lib.hid (G7.out.setRow_other (g' := w.heap.size + 1) (by omega) R5)
      have G9 := Lib.hid (G9.out.setRow_other (g' := w.heap.size + 1) (by omega) R5)
      have G6 := Lib.hid (G6.out.setRow R5)
      have HB := Lib.hid (below_setRow HB.out (show w.heap.size ≤ w.heap.size + 1 by omega) R5)
      have HW := Lib.hid (own_setRow HW.out (show w.heap.size + 1 < W.heap.size by omega) R5)
      have HV := Lib.hid (own_setRow HV.out (show w.heap.size + 1 < g6 + 1 by omega) R5)
      generalize (V0.setRow (w.heap.size + 1) R5) = V2 at *
      clear HS
      have HS := And.intro G3.out G9.out
      refine hK.out _ _ HS ?_
      clear hK K
      try simp only [Act.put, List.setIfInBounds_toArray, List.set_cons_zero, List.set_cons_succ]
      refine Rg.oneR (i := 3) (oi := { dst := none, op := Op.store 37 (Operand.tmp 5) (Operand.tmp 63), type := 0, pos := "node.go:70", after := #[{ on := 1, ground := Ground.data }, { on := 2, ground := Ground.chain }, { on := 0, ground := Ground.phase }, { on := 1, ground := Ground.phase }, { on := 2, ground := Ground.phase }], guard := none }) rfl (by kernel_rfl) ?_
      refine Rg.stepF ?_ ?_
      · kernel_rfl
      intro K hK
      rw [if_pos (by rfl)]
      refine wp_store_row 37 _ _ rfl (w.heap.size + 1 + 1) (Ms.msgC 2 (k : Int) fr AV 12 cv) rfl rfl 37 _ G7.out (by kernel_rfl) rfl (by simp [Ms.msgC, Value.oneCell']) ?_
      have G3 := Lib.hid (G3.out.setRow_other (g' := w.heap.size + 1 + 1) (by omega) (Ms.msgC 2 (k : Int) fr AV 12 cv))
      have G6 := Lib.hid (G6.out.setRow_other (g' := w.heap.size + 1 + 1) (by omega) (Ms.msgC 2 (k : Int) fr AV 12 cv))
      have G7 := Lib.hid (G7.out.setRow (Ms.msgC 2 (k : Int) fr AV 12 cv))
      have HB := Lib.hid (below_setRow HB.out (show w.heap.size ≤ w.heap.size + 1 + 1 by omega) (Ms.msgC 2 (k : Int) fr AV 12 cv))
      have HW := Lib.hid (own_setRow HW.out (show w.heap.size + 1 + 1 < W.heap.size by omega) (Ms.msgC 2 (k : Int) fr AV 12 cv))
      have HV := Lib.hid (own_setRow HV.out (show w.heap.size + 1 + 1 < g6 + 1 by omega) (Ms.msgC 2 (k : Int) fr AV 12 cv))
      generalize (V2.setRow (w.heap.size + 1 + 1) (Ms.msgC 2 (k : Int) fr AV 12 cv)) = V3 at *
      refine hK.out _ _ ?_
      clear hK K
      try simp only [Act.put, List.setIfInBounds_toArray, List.set_cons_zero, List.set_cons_succ]
      refine Rg.doneR (by kernel_rfl) ?_ _
      refine NoPanic.normal ?_
      clear HS
      go_wp2_with fail
      have hi4 : (Try.prog.info? 37).map (·.size) = some (Ms.msgC 2 (k : Int) fr AV 12 cv).size := by kernel_rfl
      exact ret_rows2 rfl rfl rfl G6.out ⟨by rw [Try.underlying86], i5⟩ G7.out ⟨by rw [Try.underlying37], hi4⟩ rfl ⟨A2, c2, AV, cv, by rw [HQV.out, HR5.out]; rfl, Rd.of_own HW.out, by rw [HQV.out, ← dvs_row HOK.out]; exact Rd.of_own HV.out, HB.out, fun a h => Nat.le_trans (by omega) (own_lo HW.out a h), fun a h => Nat.le_trans (by omega) (own_lo HV.out a h), own_cap HW.out⟩
end Go.Proofs.Ytfaielkkecphbaa.Nd
