/- Contract: the reference's Sense at a good computer. -/
import Derived.Test.YtjfllpmiajkenaaSenseB
namespace Go.Proofs.Ytjfllpmiajkenaa.Nd
open Go.RowKit Go.Proofs.Ytjfllpmiajkenaa.Mem Go.Proofs.Ytjfllpmiajkenaa.Rws Go.Proofs.Ytjfllpmiajkenaa.Flat
set_option linter.unusedVariables false
set_option linter.unusedSimpArgs false
theorem refsense_row (f : Nat → Value) (fr : Int) (k : Nat) (hk : k < 4) (r0 r1 r2 : Int) (S : Value) :
    row 74 (over 51 4 zero (over 39 12 (over (k * 3) 3 (rd3 r0 r1 r2) zero) (fun i => if i = 1 then .int .i64 fr else nodeW f S i))) = row 74 (nodeW (senseF f fr k r0 r1 r2) S) := by
  rw [← sense_row f fr k hk r0 r1 r2 S]
  refine row_congr fun i hi => ?_
  unfold over
  by_cases h1 : 39 ≤ i ∧ i < 39 + 12
  · have h51 : ¬ (51 ≤ i ∧ i < 51 + 4) := by omega
    simp only [if_neg h51, if_pos h1]
    by_cases h2 : k * 3 ≤ i - 39 ∧ i - 39 < k * 3 + 3
    · rw [if_pos h2, if_pos (show 39 + k * 3 ≤ i ∧ i < 39 + k * 3 + 3 by omega)]
      exact congrArg _ (by omega)
    · rw [if_neg h2, if_neg (show ¬ (39 + k * 3 ≤ i ∧ i < 39 + k * 3 + 3) by omega)]
  · have h39 : ¬ (39 + k * 3 ≤ i ∧ i < 39 + k * 3 + 3) := by omega
    simp only [if_neg h1, if_neg h39]

set_option maxRecDepth 100000 in
set_option maxHeartbeats 2000000 in
theorem refsense_any (f : Nat → Value) (hf : ∀ i, i < 73 → okT (nodeT i) (f i)) (k : Nat) (hk : k < 4) (hid : f 0 = .int .i64 (k : Int)) (fr r0 r1 r2 : Int) (A : Option Addr) (c : Nat) (bs : List Bool) (B : Nat) (w : World) (hB : B ≤ w.heap.size) (hA : A = none → c = 0) (hnc : bs.length ≤ c) (hl : bs.length ≤ 140737488351232) (hr : Rd w B 1 A bs.length (boolsV bs)) :
    Calls Try.prog 30 #[.agg (row 74 (nodeW f (.slice A bs.length c))), .int .i64 fr, .agg #[.int .i64 r0, .int .i64 r1, .int .i64 r2]] w fun e w' => NodeMsg w w' (senseF f fr k r0 r1 r2) bs 1 (k : Int) fr [r0, r1, r2] e := by
  obtain ⟨ifr, hfr⟩ := hf 1 (by omega)
  have hone : ∀ (A : Option Addr) (n c : Nat), (row 74 (nodeW f (.slice A n c))).all (·.oneCell') = true := fun A n c => one_of hf
  have HSF := Lib.hid (ok_sense hf fr k hk r0 r1 r2)
  have HS0 := Lib.hid ((sense0 f fr k hk r0 r1 r2).trans hid)
  have HS1 := Lib.hid (sense1 f fr k hk r0 r1 r2)
  have HO := Lib.hid hone
  have HF := Lib.hid hf
  have HID := Lib.hid hid
  have HFR := Lib.hid hfr
  clear hf hone hid hfr
  go_enter Try.func30, Try.ntmps30
  go_upto_region 1 with fail
  have D3 : Hid (Blk ((((w.alloc (.cells (row 74 (nodeW f (.slice A bs.length c))) 37)).alloc (.cells #[.int .i64 r0, .int .i64 r1, .int .i64 r2] 31)).alloc (.cells Try.zeroCells37 37)).alloc (.cells #[.int .i64 0, .int .i64 0, .int .i64 0, .slice none 0 0] 41)) w.heap.size 37 (row 74 (nodeW f (.slice A bs.length c)))) := Lib.hid ((((Blk.new rfl).alloc _).alloc _).alloc _)
  have D5 : Hid (Blk ((((w.alloc (.cells (row 74 (nodeW f (.slice A bs.length c))) 37)).alloc (.cells #[.int .i64 r0, .int .i64 r1, .int .i64 r2] 31)).alloc (.cells Try.zeroCells37 37)).alloc (.cells #[.int .i64 0, .int .i64 0, .int .i64 0, .slice none 0 0] 41)) (w.heap.size + 1) 31 #[.int .i64 r0, .int .i64 r1, .int .i64 r2]) := Lib.hid (((Blk.new (by simp)).alloc _).alloc _)
  have D6 : Hid (Blk ((((w.alloc (.cells (row 74 (nodeW f (.slice A bs.length c))) 37)).alloc (.cells #[.int .i64 r0, .int .i64 r1, .int .i64 r2] 31)).alloc (.cells Try.zeroCells37 37)).alloc (.cells #[.int .i64 0, .int .i64 0, .int .i64 0, .slice none 0 0] 41)) (w.heap.size + 1 + 1) 37 Try.zeroCells37) := Lib.hid ((Blk.new (by simp)).alloc _)
  have D7 : Hid (Blk ((((w.alloc (.cells (row 74 (nodeW f (.slice A bs.length c))) 37)).alloc (.cells #[.int .i64 r0, .int .i64 r1, .int .i64 r2] 31)).alloc (.cells Try.zeroCells37 37)).alloc (.cells #[.int .i64 0, .int .i64 0, .int .i64 0, .slice none 0 0] 41)) (w.heap.size + 1 + 1 + 1) 41 #[.int .i64 0, .int .i64 0, .int .i64 0, .slice none 0 0]) := Lib.hid (Blk.new (by simp))
  have HB := Lib.hid ((((((Below.refl w.heap.size w).alloc (Nat.le_refl _) (.cells (row 74 (nodeW f (.slice A bs.length c))) 37)).alloc (by simp) (.cells #[.int .i64 r0, .int .i64 r1, .int .i64 r2] 31)).alloc (by simp; omega) (.cells Try.zeroCells37 37)).alloc (by simp; omega) (.cells #[.int .i64 0, .int .i64 0, .int .i64 0, .slice none 0 0] 41)))
  have HR := Lib.hid hr
  clear hr
  generalize ((((w.alloc (.cells (row 74 (nodeW f (.slice A bs.length c))) 37)).alloc (.cells #[.int .i64 r0, .int .i64 r1, .int .i64 r2] 31)).alloc (.cells Try.zeroCells37 37)).alloc (.cells #[.int .i64 0, .int .i64 0, .int .i64 0, .slice none 0 0] 41)) = W at *
  have hi74 : ∀ A (n : Nat) c, (Try.prog.info? 37).map (·.size) = some (row 74 (nodeW f (.slice A n c))).size := fun A n c => by rw [row_size]; kernel_rfl
  have HI := Lib.hid hi74
  clear hi74
  have hwz : w.heap.size + 1 + 1 + 1 < W.heap.size := D7.out.lt
  have hia := HI.out A bs.length c
  obtain ⟨R1, hR1⟩ : ∃ R1, row 74 (nodeW f (.slice A bs.length c)) = R1 := ⟨_, rfl⟩
  have HR1 := Lib.hid hR1
  rw [hR1] at D3 hia
  clear hR1
  go_wp2_with (refine wpList_whole rfl 37 _ rfl w.heap.size rfl D3.out _ Try.underlying37 rfl hia ?_)
  rw [← HR1.out]
  refine (copyNode_any f HF.out A c bs B _ (Nat.le_trans hB HB.out.size) hA hnc hl (HR.out.below (HB.out.mono hB))).mono ?_
  rintro e w1 ⟨A2, c2, rfl, hown, hb1⟩
  rw [HR1.out]
  have HW1 := Lib.hid hown
  have HB1 := Lib.hid (onward HB.out (Nat.le_refl _) hb1)
  have hsz := hb1.size
  have hi2 := HI.out A2 bs.length c2
  have h12 := HO.out A2 bs.length c2
  have h20 : (row 74 (nodeW f (.slice A2 bs.length c2)))[0]? = some (.int .i64 (k : Int)) := by rw [row_at (by omega)]; exact congrArg some HID.out
  have h21 : (row 74 (nodeW f (.slice A2 bs.length c2)))[1]? = some (.int .i64 ifr) := by rw [row_at (by omega)]; exact congrArg some HFR.out
  have hs2 : R1.size = (row 74 (nodeW f (.slice A2 bs.length c2))).size := by rw [← HR1.out, row_size, row_size]
  obtain ⟨R2, hR2⟩ : ∃ R2, row 74 (nodeW f (.slice A2 bs.length c2)) = R2 := ⟨_, rfl⟩
  have HR2 := Lib.hid hR2
  rw [hR2] at hi2 h12 h20 h21 hs2 ⊢
  clear hR2
  have E3 := Lib.hid (D3.out.below hb1 D3.out.lt)
  have F3 := Lib.hid (E3.out.setRow R2)
  have F5 := Lib.hid ((D5.out.below hb1 D5.out.lt).setRow_other (g' := w.heap.size) (by omega) R2)
  have F6 := Lib.hid ((D6.out.below hb1 D6.out.lt).setRow_other (g' := w.heap.size) (by omega) R2)
  have F7 := Lib.hid ((D7.out.below hb1 D7.out.lt).setRow_other (g' := w.heap.size) (by omega) R2)
  have HB2 := Lib.hid (below_setRow HB1.out (Nat.le_refl _) R2)
  have HW2 := Lib.hid (own_setRow HW1.out (show w.heap.size < W.heap.size by omega) R2)
  have hk0 : ¬ ((k : Int) < 0) := by omega
  have hbk : badId (k : Int) = false := by unfold badId; simp; omega
  have cT := fun w => none_any R2 (k : Int) h20 w
  rw [hbk] at cT
  clear hb1 hown hbk
  go_upto_region 4 with (first
    | (refine wpList_store_row rfl 37 _ _ rfl w.heap.size R2 rfl rfl 37 _ E3.out hi2 hs2 h12 ?_)
    | (refine wpList_whole rfl 37 _ rfl w.heap.size rfl F3.out _ Try.underlying37 rfl hi2 ?_)
    | (go_at_call 50; refine (cT _).mono ?_; rintro e w3 ⟨rfl, hb3⟩; have G3 := Lib.hid (F3.out.below hb3 F3.out.lt); have G5 := Lib.hid (F5.out.below hb3 F5.out.lt); have G6 := Lib.hid (F6.out.below hb3 F6.out.lt); have G7 := Lib.hid (F7.out.below hb3 F7.out.lt); have HB3 := Lib.hid (onward HB2.out (Nat.le_refl _) hb3); have HW3 := Lib.hid (ownsRow_below HW2.out hb3); clear hb3))
  rw [← HR2.out] at G3
  have H4 := Lib.hid (G3.out.set 1 (.int .i64 fr))
  rw [row_set] at H4
  have x1 : w3.cell? ⟨w.heap.size, 1, none⟩ = some (.int .i64 ifr) := by rw [G3.out.cell, row_at (by omega)]; exact congrArg some HFR.out
  have f1 := G3.out.thaw 1
  have A5 := Lib.hid (G5.out.other (p := ⟨w.heap.size, 1, none⟩) (by show w.heap.size + 1 ≠ w.heap.size; omega) (.int .i64 fr))
  have A6 := Lib.hid (G6.out.other (p := ⟨w.heap.size, 1, none⟩) (by show w.heap.size + 1 + 1 ≠ w.heap.size; omega) (.int .i64 fr))
  have A7 := Lib.hid (G7.out.other (p := ⟨w.heap.size, 1, none⟩) (by show w.heap.size + 1 + 1 + 1 ≠ w.heap.size; omega) (.int .i64 fr))
  have HB4 := Lib.hid (HB3.out.setCell (p := ⟨w.heap.size, 1, none⟩) (Nat.le_refl _) (.int .i64 fr))
  have HW4 := Lib.hid (ownsRow_setCell_below HW3.out (a := ⟨w.heap.size, 1, none⟩) (show w.heap.size < W.heap.size by omega) (.int .i64 fr))
  clear HB HB1 HB2 HB3 HW1 HW2 HW3 D3 D5 D6 D7 E3 F3 F5 F6 F7 G5 G6 G7 cT h20 h21 h12 hi2 hs2
  go_upto_region 5 with fail
  generalize (w3.setCell ⟨w.heap.size, 1, none⟩ (.int .i64 fr)) = W4 at *
  clear x1 f1 G3
  have hz8 : #[.int .i64 0, .int .i64 0, .int .i64 0, .int .i64 0, .int .i64 0, .int .i64 0, .int .i64 0, .int .i64 0, .int .i64 0, .int .i64 0, .int .i64 0, .int .i64 0] = row 12 zero := rfl
  have D8 : Hid (Blk (W4.alloc (.cells #[.int .i64 0, .int .i64 0, .int .i64 0, .int .i64 0, .int .i64 0, .int .i64 0, .int .i64 0, .int .i64 0, .int .i64 0, .int .i64 0, .int .i64 0, .int .i64 0] 32)) W4.heap.size 32 (row 12 zero)) := Lib.hid (by rw [← hz8]; exact Blk.fresh _ _ _)
  have H5 := Lib.hid (H4.out.alloc (.cells #[.int .i64 0, .int .i64 0, .int .i64 0, .int .i64 0, .int .i64 0, .int .i64 0, .int .i64 0, .int .i64 0, .int .i64 0, .int .i64 0, .int .i64 0, .int .i64 0] 32))
  have A5 := Lib.hid (A5.out.alloc (.cells #[.int .i64 0, .int .i64 0, .int .i64 0, .int .i64 0, .int .i64 0, .int .i64 0, .int .i64 0, .int .i64 0, .int .i64 0, .int .i64 0, .int .i64 0, .int .i64 0] 32))
  have A6 := Lib.hid (A6.out.alloc (.cells #[.int .i64 0, .int .i64 0, .int .i64 0, .int .i64 0, .int .i64 0, .int .i64 0, .int .i64 0, .int .i64 0, .int .i64 0, .int .i64 0, .int .i64 0, .int .i64 0] 32))
  have hg8 : w.heap.size + 1 + 1 + 1 < W4.heap.size := A7.out.lt
  have A7 := Lib.hid (A7.out.alloc (.cells #[.int .i64 0, .int .i64 0, .int .i64 0, .int .i64 0, .int .i64 0, .int .i64 0, .int .i64 0, .int .i64 0, .int .i64 0, .int .i64 0, .int .i64 0, .int .i64 0] 32))
  have HB5 := Lib.hid (HB4.out.alloc (show w.heap.size ≤ W4.heap.size by omega) (.cells #[.int .i64 0, .int .i64 0, .int .i64 0, .int .i64 0, .int .i64 0, .int .i64 0, .int .i64 0, .int .i64 0, .int .i64 0, .int .i64 0, .int .i64 0, .int .i64 0] 32))
  have HC5 := Lib.hid ((Below.refl W4.heap.size W4).alloc (Nat.le_refl _) (.cells #[.int .i64 0, .int .i64 0, .int .i64 0, .int .i64 0, .int .i64 0, .int .i64 0, .int .i64 0, .int .i64 0, .int .i64 0, .int .i64 0, .int .i64 0, .int .i64 0] 32))
  clear hz8 HB4 H4
  go_upto_region 6 with fail
  obtain ⟨g8, hg⟩ : ∃ g8, W4.heap.size = g8 := ⟨_, rfl⟩
  generalize (W4.alloc (.cells #[.int .i64 0, .int .i64 0, .int .i64 0, .int .i64 0, .int .i64 0, .int .i64 0, .int .i64 0, .int .i64 0, .int .i64 0, .int .i64 0, .int .i64 0, .int .i64 0] 32)) = W5 at *
  have HW5 := Lib.hid (fun W' h => ownsRow_below (w' := W') HW4.out h)
  rw [hg] at HC5 D8 hg8 HW5 ⊢
  have y0 : W5.cell? ⟨w.heap.size, 0, none⟩ = some (.int .i64 (k : Int)) := by rw [H5.out.cell, row_at (by omega), if_neg (by omega)]; exact congrArg some HID.out
  have y1 := A5.out.cell 0
  have y2 := A5.out.cell 1
  have y3 := A5.out.cell 2
  simp only [List.getElem?_toArray, List.getElem?_cons_zero, List.getElem?_cons_succ] at y1 y2 y3
  have hk4 : (k : Int) < 4 := by omega
  have hk5 : (0 : Int) ≤ (k : Int) := by omega
  refine wp_region_list ?_
  refine wpList_plain rfl (fun K hK => ?_)
  go_simp
  refine hK _ _ ?_
  clear hK K
  try simp only [Act.put, List.setIfInBounds_toArray, List.set_cons_zero, List.set_cons_succ]
  refine wpList_plain rfl (fun K hK => ?_)
  go_simp
  refine hK _ _ ?_
  clear hK K
  try simp only [Act.put, List.setIfInBounds_toArray, List.set_cons_zero, List.set_cons_succ]
  refine wpList_plain rfl (fun K hK => ?_)
  go_simp
  refine hK _ _ ?_
  clear hK K
  try simp only [Act.put, List.setIfInBounds_toArray, List.set_cons_zero, List.set_cons_succ]
  refine wpList_plain rfl (fun K hK => ?_)
  go_simp
  refine hK _ _ ?_
  clear hK K
  try simp only [Act.put, List.setIfInBounds_toArray, List.set_cons_zero, List.set_cons_succ]
  clear y0 y1 y2 y3
  have q6 : W5.there g8 (k * 3) (lit3 r0 r1 r2).size := row_there D8.out (k * 3) 3 (by omega)
  have i6 : (Try.prog.info? 31).map (·.size) = some (lit3 r0 r1 r2).size := by kernel_rfl
  have o6 : (lit3 r0 r1 r2).all (·.oneCell') = true := by simp [lit3, Value.oneCell']
  refine wpList_plain rfl (fun K hK => ?_)
  refine wp_store_mid 31 (.tmp 20) (.tmp 19) rfl g8 (k * 3) (lit3 r0 r1 r2) rfl rfl q6 i6 o6 (hK _ _ ?_)
  clear hK K
  try simp only [Act.put, List.setIfInBounds_toArray, List.set_cons_zero, List.set_cons_succ]
  clear q6 i6 o6
  have D8 := Lib.hid (blk_lit (lit3_row r0 r1 r2) D8.out (k * 3))
  have H5 := Lib.hid (blk_mid_other (w := W5) (b' := g8) (by omega) (lit3 r0 r1 r2).toList (k * 3) _ H5.out)
  have A5 := Lib.hid (blk_mid_other (w := W5) (b' := g8) (by omega) (lit3 r0 r1 r2).toList (k * 3) _ A5.out)
  have A6 := Lib.hid (blk_mid_other (w := W5) (b' := g8) (by omega) (lit3 r0 r1 r2).toList (k * 3) _ A6.out)
  have A7 := Lib.hid (blk_mid_other (w := W5) (b' := g8) (by omega) (lit3 r0 r1 r2).toList (k * 3) _ A7.out)
  have HB5 := Lib.hid (below_setCells (show w.heap.size ≤ g8 by omega) (lit3 r0 r1 r2).toList (k * 3) HB5.out)
  have HW6 := Lib.hid (HW5.out _ (below_setCells (Nat.le_refl _) (lit3 r0 r1 r2).toList (k * 3) HC5.out))
  clear HW5 HC5 HW4
  generalize (W5.setCells g8 (k * 3) (lit3 r0 r1 r2).toList) = W6 at *
  go_upto_region 7 with fail
  obtain ⟨R8, hR8⟩ : ∃ R8, row 12 (over (k * 3) 3 (rd3 r0 r1 r2) zero) = R8 := ⟨_, rfl⟩
  have e8 : R8.size = 12 := by rw [← hR8, row_size]
  have i8 : (Try.prog.info? 32).map (·.size) = some R8.size := by rw [e8]; kernel_rfl
  have o8 : R8.all (·.oneCell') = true := by rw [← hR8]; exact row_one fun i _ => by (unfold over rd3 zero; (repeat' split) <;> rfl)
  have q8 : W6.there w.heap.size 39 R8.size := by rw [e8]; exact row_there H5.out 39 12 (by omega)
  rw [hR8] at D8
  have HR8 := Lib.hid hR8.symm
  clear hR8 e8
  refine wp_region_list ?_
  refine wpList_whole (by rfl) 32 _ rfl g8 rfl D8.out _ Try.underlying32 rfl i8 ?_
  try simp only [Act.put, List.setIfInBounds_toArray, List.set_cons_zero, List.set_cons_succ]
  refine wpList_plain rfl (fun K hK => ?_)
  go_simp
  refine hK _ _ ?_
  clear hK K
  try simp only [Act.put, List.setIfInBounds_toArray, List.set_cons_zero, List.set_cons_succ]
  refine wpList_plain rfl (fun K hK => ?_)
  refine wp_store_mid 32 (.tmp 22) (.tmp 21) rfl w.heap.size 39 R8 rfl rfl q8 i8 o8 (hK _ _ ?_)
  clear hK K
  try simp only [Act.put, List.setIfInBounds_toArray, List.set_cons_zero, List.set_cons_succ]
  have H5 := Lib.hid (blk_lit HR8.out H5.out 39)
  have A5 := Lib.hid (blk_mid_other (w := W6) (b' := w.heap.size) (by omega) R8.toList 39 _ A5.out)
  have A6 := Lib.hid (blk_mid_other (w := W6) (b' := w.heap.size) (by omega) R8.toList 39 _ A6.out)
  have A7 := Lib.hid (blk_mid_other (w := W6) (b' := w.heap.size) (by omega) R8.toList 39 _ A7.out)
  have HB5 := Lib.hid (below_setCells (Nat.le_refl _) R8.toList 39 HB5.out)
  have HW6 := Lib.hid (own_setCells (show w.heap.size < W.heap.size by omega) R8.toList 39 HW6.out)
  clear q8 i8 o8 D8
  generalize (W6.setCells w.heap.size 39 R8.toList) = W7 at *
  go_upto_region 8 with fail
  have q6 : W7.there w.heap.size 51 lit4.size := row_there H5.out 51 4 (by omega)
  have i6 : (Try.prog.info? 28).map (·.size) = some lit4.size := by kernel_rfl
  have o6 : lit4.all (·.oneCell') = true := by simp [lit4, Value.oneCell']
  refine wp_region_list ?_
  refine wpList_plain rfl (fun K hK => ?_)
  go_simp
  refine hK _ _ ?_
  clear hK K
  try simp only [Act.put, List.setIfInBounds_toArray, List.set_cons_zero, List.set_cons_succ]
  refine wpList_plain rfl (fun K hK => ?_)
  go_simp
  refine hK _ _ ?_
  clear hK K
  try simp only [Act.put, List.setIfInBounds_toArray, List.set_cons_zero, List.set_cons_succ]
  refine wpList_plain rfl (fun K hK => ?_)
  refine wp_store_mid 28 (.tmp 24) (.tmp 23) rfl w.heap.size 51 lit4 rfl rfl q6 i6 o6 (hK _ _ ?_)
  clear hK K
  try simp only [Act.put, List.setIfInBounds_toArray, List.set_cons_zero, List.set_cons_succ]
  have H5 := Lib.hid (blk_lit lit4_row H5.out 51)
  have A5 := Lib.hid (blk_mid_other (w := W7) (b' := w.heap.size) (by omega) lit4.toList 51 _ A5.out)
  have A6 := Lib.hid (blk_mid_other (w := W7) (b' := w.heap.size) (by omega) lit4.toList 51 _ A6.out)
  have A7 := Lib.hid (blk_mid_other (w := W7) (b' := w.heap.size) (by omega) lit4.toList 51 _ A7.out)
  have HB5 := Lib.hid (below_setCells (Nat.le_refl _) lit4.toList 51 HB5.out)
  have HW6 := Lib.hid (own_setCells (show w.heap.size < W.heap.size by omega) lit4.toList 51 HW6.out)
  clear q6 i6 o6
  generalize (W7.setCells w.heap.size 51 lit4.toList) = W8 at *
  rw [refsense_row f fr k hk] at H5
  go_upto_region 9 with fail
  have i3 : (Try.prog.info? 37).map (·.size) = some (row 74 (nodeW (senseF f fr k r0 r1 r2) (.slice A2 bs.length c2))).size := HI.out A2 bs.length c2
  have sF := HSF.out
  have s3 := fun (A : Option Addr) (n c : Nat) => (one_of sF : (row 74 (nodeW (senseF f fr k r0 r1 r2) (.slice A n c))).all (·.oneCell') = true)
  have o3 := s3 A2 bs.length c2
  have z3 : (Try.zeroCells37).size = (row 74 (nodeW (senseF f fr k r0 r1 r2) (.slice A2 bs.length c2))).size := by rw [row_size]; kernel_rfl
  have j0 : (row 74 (nodeW (senseF f fr k r0 r1 r2) (.slice A2 bs.length c2)))[0]? = some (.int .i64 (k : Int)) := by rw [row_at (by omega)]; exact congrArg some HS0.out
  obtain ⟨R3, hR3⟩ : ∃ R3, row 74 (nodeW (senseF f fr k r0 r1 r2) (.slice A2 bs.length c2)) = R3 := ⟨_, rfl⟩
  have HR3 := Lib.hid hR3
  rw [hR3] at H5 o3 z3 j0 i3
  clear hR3 sF s3
  refine wp_region_noPanic ?_
  have H5 := Lib.hid H5.out.drew
  have A5 := Lib.hid A5.out.drew
  have A6 := Lib.hid A6.out.drew
  have A7 := Lib.hid A7.out.drew
  have HB5 := Lib.hid HB5.out.drew
  have HW6 := Lib.hid (ownsRow_below HW6.out ((Below.refl W8.heap.size W8).drew))
  have HS := And.intro H5.out A5.out
  refine Rg.beginR [0, 2, 5, 7, 9] (fun w' => Blk w' w.heap.size 37 R3 ∧ Blk w' (w.heap.size + 1) 31 #[.int .i64 r0, .int .i64 r1, .int .i64 r2]) (by kernel_rfl) ?_
  generalize W8.drew = V0 at *
  refine Rg.takeS (i := 0) (oi := { dst := some 25, op := Op.load 37 (Operand.tmp 3), type := 37, pos := "node.go:51", after := #[], guard := none }) (v := .agg R3) rfl (by kernel_rfl) (fun _ _ _ h => h) (by rfl) HS ?_ ?_
  · (intro w' hSw; exact exec_load_row 37 _ rfl _ rfl hSw.1 Try.underlying37 rfl i3)
  try simp only [Act.put, List.setIfInBounds_toArray, List.set_cons_zero, List.set_cons_succ]
  refine Rg.takeP (i := 1) (oi := { dst := some 26, op := Op.fieldAddr 37 (Operand.tmp 3) 0, type := 0, pos := "node.go:51", after := #[{ on := 12, ground := Ground.gcOnly Departure.lateStores }], guard := none }) (v := ?_) rfl (by kernel_rfl) (fun _ _ _ h => h) (by rfl) ?_ ?_
  rotate_left 1
  · (intro w; go_simp; (try with_reducible rfl))
  try simp only [Act.put, List.setIfInBounds_toArray, List.set_cons_zero, List.set_cons_succ]
  refine Rg.takeS (i := 2) (oi := { dst := some 27, op := Op.load 3 (Operand.tmp 26), type := 3, pos := "node.go:51", after := #[{ on := 1, ground := Ground.data }, { on := 12, ground := Ground.gcOnly Departure.lateStores }], guard := none }) (v := ?_) rfl (by kernel_rfl) (fun _ _ _ h => h) (by rfl) HS ?_ ?_
  rotate_left 1
  · (intro w' hSw; have y := (hSw.1.cell 0).trans j0; go_simp; (try with_reducible rfl))
  try simp only [Act.put, List.setIfInBounds_toArray, List.set_cons_zero, List.set_cons_succ]
  refine Rg.takeP (i := 3) (oi := { dst := some 28, op := Op.move (Operand.tmp 1), type := 3, pos := "node.go:51", after := #[{ on := 12, ground := Ground.gcOnly Departure.lateStores }], guard := none }) (v := ?_) rfl (by kernel_rfl) (fun _ _ _ h => h) (by rfl) ?_ ?_
  rotate_left 1
  · (intro w; go_simp; (try with_reducible rfl))
  try simp only [Act.put, List.setIfInBounds_toArray, List.set_cons_zero, List.set_cons_succ]
  refine Rg.takeP (i := 4) (oi := { dst := some 29, op := Op.indexAddr 31 (Operand.tmp 5) (Operand.const (Value.int IntKind.i64 0)), type := 0, pos := "node.go:51", after := #[{ on := 12, ground := Ground.gcOnly Departure.lateStores }], guard := none }) (v := ?_) rfl (by kernel_rfl) (fun _ _ _ h => h) (by rfl) ?_ ?_
  rotate_left 1
  · (intro w; go_simp; (try with_reducible rfl))
  try simp only [Act.put, List.setIfInBounds_toArray, List.set_cons_zero, List.set_cons_succ]
  refine Rg.takeS (i := 5) (oi := { dst := some 30, op := Op.load 3 (Operand.tmp 29), type := 3, pos := "node.go:51", after := #[{ on := 4, ground := Ground.data }, { on := 12, ground := Ground.gcOnly Departure.lateStores }], guard := none }) (v := ?_) rfl (by kernel_rfl) (fun _ _ _ h => h) (by rfl) HS ?_ ?_
  rotate_left 1
  · (intro w' hSw; have y := hSw.2.cell 0; simp only [List.getElem?_toArray, List.getElem?_cons_zero, List.getElem?_cons_succ] at y; go_simp; (try with_reducible rfl))
  try simp only [Act.put, List.setIfInBounds_toArray, List.set_cons_zero, List.set_cons_succ]
  refine Rg.takeP (i := 6) (oi := { dst := some 31, op := Op.indexAddr 31 (Operand.tmp 5) (Operand.const (Value.int IntKind.i64 1)), type := 0, pos := "node.go:51", after := #[{ on := 12, ground := Ground.gcOnly Departure.lateStores }], guard := none }) (v := ?_) rfl (by kernel_rfl) (fun _ _ _ h => h) (by rfl) ?_ ?_
  rotate_left 1
  · (intro w; go_simp; (try with_reducible rfl))
  try simp only [Act.put, List.setIfInBounds_toArray, List.set_cons_zero, List.set_cons_succ]
  refine Rg.takeS (i := 7) (oi := { dst := some 32, op := Op.load 3 (Operand.tmp 31), type := 3, pos := "node.go:51", after := #[{ on := 6, ground := Ground.data }, { on := 12, ground := Ground.gcOnly Departure.lateStores }], guard := none }) (v := ?_) rfl (by kernel_rfl) (fun _ _ _ h => h) (by rfl) HS ?_ ?_
  rotate_left 1
  · (intro w' hSw; have y := hSw.2.cell 1; simp only [List.getElem?_toArray, List.getElem?_cons_zero, List.getElem?_cons_succ] at y; go_simp; (try with_reducible rfl))
  try simp only [Act.put, List.setIfInBounds_toArray, List.set_cons_zero, List.set_cons_succ]
  refine Rg.takeP (i := 8) (oi := { dst := some 33, op := Op.indexAddr 31 (Operand.tmp 5) (Operand.const (Value.int IntKind.i64 2)), type := 0, pos := "node.go:51", after := #[{ on := 12, ground := Ground.gcOnly Departure.lateStores }], guard := none }) (v := ?_) rfl (by kernel_rfl) (fun _ _ _ h => h) (by rfl) ?_ ?_
  rotate_left 1
  · (intro w; go_simp; (try with_reducible rfl))
  try simp only [Act.put, List.setIfInBounds_toArray, List.set_cons_zero, List.set_cons_succ]
  refine Rg.takeS (i := 9) (oi := { dst := some 34, op := Op.load 3 (Operand.tmp 33), type := 3, pos := "node.go:51", after := #[{ on := 8, ground := Ground.data }, { on := 12, ground := Ground.gcOnly Departure.lateStores }], guard := none }) (v := ?_) rfl (by kernel_rfl) (fun _ _ _ h => h) (by rfl) HS ?_ ?_
  rotate_left 1
  · (intro w' hSw; have y := hSw.2.cell 2; simp only [List.getElem?_toArray, List.getElem?_cons_zero, List.getElem?_cons_succ] at y; go_simp; (try with_reducible rfl))
  try simp only [Act.put, List.setIfInBounds_toArray, List.set_cons_zero, List.set_cons_succ]
  refine Rg.twoR (i := 10) (j := 12) (oi := { dst := some 35, op := Op.buildSlice 39 3 #[(0, Operand.tmp 30), (1, Operand.tmp 32), (2, Operand.tmp 34)], type := 39, pos := "node.go:51", after := #[{ on := 5, ground := Ground.data }, { on := 7, ground := Ground.data }, { on := 9, ground := Ground.data }, { on := 12, ground := Ground.gcOnly Departure.lateStores }], guard := none }) (oj := { dst := none, op := Op.store 37 (Operand.tmp 6) (Operand.tmp 25), type := 0, pos := "node.go:51", after := #[{ on := 0, ground := Ground.data }, { on := 0, ground := Ground.phase }, { on := 1, ground := Ground.textOnly Departure.lateStores }, { on := 2, ground := Ground.textOnly Departure.lateStores }, { on := 3, ground := Ground.textOnly Departure.lateStores }, { on := 4, ground := Ground.textOnly Departure.lateStores }, { on := 5, ground := Ground.textOnly Departure.lateStores }, { on := 6, ground := Ground.textOnly Departure.lateStores }, { on := 7, ground := Ground.textOnly Departure.lateStores }, { on := 8, ground := Ground.textOnly Departure.lateStores }, { on := 9, ground := Ground.textOnly Departure.lateStores }, { on := 10, ground := Ground.textOnly Departure.lateStores }, { on := 11, ground := Ground.textOnly Departure.lateStores }], guard := none }) (by kernel_rfl) rfl rfl ?_ ?_
  ·
    refine Rg.stepS ?_
    intro K hK
    go_simp
    have hga : w.heap.size + 1 + 1 + 1 < V0.heap.size := A7.out.lt
    have HQ : Hid (Blk (V0.alloc (.cells #[.int .i64 r0, .int .i64 r1, .int .i64 r2] 3)) V0.heap.size 3 #[.int .i64 r0, .int .i64 r1, .int .i64 r2]) := Lib.hid (Blk.fresh _ _ _)
    have H5 := Lib.hid (H5.out.alloc (.cells #[.int .i64 r0, .int .i64 r1, .int .i64 r2] 3))
    have A5 := Lib.hid (A5.out.alloc (.cells #[.int .i64 r0, .int .i64 r1, .int .i64 r2] 3))
    have A6 := Lib.hid (A6.out.alloc (.cells #[.int .i64 r0, .int .i64 r1, .int .i64 r2] 3))
    have A7 := Lib.hid (A7.out.alloc (.cells #[.int .i64 r0, .int .i64 r1, .int .i64 r2] 3))
    have HB5 := Lib.hid (HB5.out.alloc HB5.out.size (.cells #[.int .i64 r0, .int .i64 r1, .int .i64 r2] 3))
    have HW6 := Lib.hid (ownsRow_below HW6.out ((Below.refl V0.heap.size V0).alloc (Nat.le_refl _) (.cells #[.int .i64 r0, .int .i64 r1, .int .i64 r2] 3)))
    generalize (V0.alloc (.cells #[.int .i64 r0, .int .i64 r1, .int .i64 r2] 3)) = V1 at *
    obtain ⟨ga, hgb⟩ : ∃ ga, V0.heap.size = ga := ⟨_, rfl⟩
    rw [hgb] at HQ hga ⊢
    clear HS
    have HS := And.intro H5.out A5.out
    refine hK.out _ _ HS ?_
    clear hK K
    try simp only [Act.put, List.setIfInBounds_toArray, List.set_cons_zero, List.set_cons_succ]
    refine Rg.takeP (i := 11) (oi := { dst := some 36, op := Op.build 41 #[(0, Operand.const (Value.int IntKind.i64 1)), (1, Operand.tmp 27), (2, Operand.tmp 28), (3, Operand.tmp 35)], type := 41, pos := "node.go:51", after := #[{ on := 2, ground := Ground.data }, { on := 3, ground := Ground.data }, { on := 10, ground := Ground.data }, { on := 12, ground := Ground.gcOnly Departure.lateStores }], guard := none }) (v := ?_) rfl (by kernel_rfl) (fun _ _ _ h => h) (by rfl) ?_ ?_
    rotate_left 1
    · (intro w; go_simp; (try with_reducible rfl))
    try simp only [Act.put, List.setIfInBounds_toArray, List.set_cons_zero, List.set_cons_succ]
    refine Rg.oneR (i := 12) (oi := { dst := none, op := Op.store 37 (Operand.tmp 6) (Operand.tmp 25), type := 0, pos := "node.go:51", after := #[{ on := 0, ground := Ground.data }, { on := 0, ground := Ground.phase }, { on := 1, ground := Ground.textOnly Departure.lateStores }, { on := 2, ground := Ground.textOnly Departure.lateStores }, { on := 3, ground := Ground.textOnly Departure.lateStores }, { on := 4, ground := Ground.textOnly Departure.lateStores }, { on := 5, ground := Ground.textOnly Departure.lateStores }, { on := 6, ground := Ground.textOnly Departure.lateStores }, { on := 7, ground := Ground.textOnly Departure.lateStores }, { on := 8, ground := Ground.textOnly Departure.lateStores }, { on := 9, ground := Ground.textOnly Departure.lateStores }, { on := 10, ground := Ground.textOnly Departure.lateStores }, { on := 11, ground := Ground.textOnly Departure.lateStores }], guard := none }) rfl (by kernel_rfl) ?_
    refine Rg.stepS ?_
    intro K hK
    rw [if_pos (by rfl)]
    refine wp_store_row 37 _ _ rfl (w.heap.size + 1 + 1) R3 rfl rfl 37 _ A6.out i3 z3 o3 ?_
    have HQ := Lib.hid (HQ.out.setRow_other (g' := w.heap.size + 1 + 1) (by omega) R3)
    have H5 := Lib.hid (H5.out.setRow_other (g' := w.heap.size + 1 + 1) (by omega) R3)
    have A5 := Lib.hid (A5.out.setRow_other (g' := w.heap.size + 1 + 1) (by omega) R3)
    have A7 := Lib.hid (A7.out.setRow_other (g' := w.heap.size + 1 + 1) (by omega) R3)
    have A6 := Lib.hid (A6.out.setRow R3)
    have HB5 := Lib.hid (below_setRow HB5.out (show w.heap.size ≤ w.heap.size + 1 + 1 by omega) R3)
    have HW6 := Lib.hid (own_setRow HW6.out (show w.heap.size + 1 + 1 < W.heap.size by omega) R3)
    generalize (V1.setRow (w.heap.size + 1 + 1) R3) = V2 at *
    clear HS
    have HS := And.intro H5.out A5.out
    refine hK.out _ _ HS ?_
    clear hK K
    try simp only [Act.put, List.setIfInBounds_toArray, List.set_cons_zero, List.set_cons_succ]
    refine Rg.oneR (i := 13) (oi := { dst := none, op := Op.store 41 (Operand.tmp 7) (Operand.tmp 36), type := 0, pos := "node.go:51", after := #[{ on := 11, ground := Ground.data }, { on := 12, ground := Ground.chain }, { on := 0, ground := Ground.phase }, { on := 1, ground := Ground.phase }, { on := 2, ground := Ground.phase }, { on := 3, ground := Ground.phase }, { on := 4, ground := Ground.phase }, { on := 5, ground := Ground.phase }, { on := 6, ground := Ground.phase }, { on := 7, ground := Ground.phase }, { on := 8, ground := Ground.phase }, { on := 9, ground := Ground.phase }, { on := 10, ground := Ground.phase }, { on := 11, ground := Ground.phase }, { on := 12, ground := Ground.phase }], guard := none }) rfl (by kernel_rfl) ?_
    refine Rg.stepF ?_ ?_
    · kernel_rfl
    intro K hK
    rw [if_pos (by rfl)]
    refine wp_store_row 41 _ _ rfl (w.heap.size + 1 + 1 + 1) (Ms.msgC 1 (k : Int) fr (some ⟨ga, 0, none⟩) 3 3) rfl rfl 41 _ A7.out (by kernel_rfl) rfl (by simp [Ms.msgC, Value.oneCell']) ?_
    have A6 := Lib.hid (A6.out.setRow_other (g' := w.heap.size + 1 + 1 + 1) (by omega) (Ms.msgC 1 (k : Int) fr (some ⟨ga, 0, none⟩) 3 3))
    have HQ := Lib.hid (HQ.out.setRow_other (g' := w.heap.size + 1 + 1 + 1) (by omega) (Ms.msgC 1 (k : Int) fr (some ⟨ga, 0, none⟩) 3 3))
    have A7 := Lib.hid (A7.out.setRow (Ms.msgC 1 (k : Int) fr (some ⟨ga, 0, none⟩) 3 3))
    have HB5 := Lib.hid (below_setRow HB5.out (show w.heap.size ≤ w.heap.size + 1 + 1 + 1 by omega) (Ms.msgC 1 (k : Int) fr (some ⟨ga, 0, none⟩) 3 3))
    have HW6 := Lib.hid (own_setRow HW6.out (show w.heap.size + 1 + 1 + 1 < W.heap.size by omega) (Ms.msgC 1 (k : Int) fr (some ⟨ga, 0, none⟩) 3 3))
    generalize (V2.setRow (w.heap.size + 1 + 1 + 1) (Ms.msgC 1 (k : Int) fr (some ⟨ga, 0, none⟩) 3 3)) = V9 at *
    refine hK.out _ _ ?_
    clear hK K
    try simp only [Act.put, List.setIfInBounds_toArray, List.set_cons_zero, List.set_cons_succ]
    refine Rg.doneR (by kernel_rfl) ?_ _
    refine NoPanic.normal ?_
    clear H5 HS
    go_wp2_with fail
    have hi4 : (Try.prog.info? 41).map (·.size) = some (Ms.msgC 1 (k : Int) fr (some ⟨ga, 0, none⟩) 3 3).size := by kernel_rfl
    refine ret_rows2 rfl rfl rfl A6.out ⟨by rw [Try.underlying37], i3⟩ A7.out ⟨by rw [Try.underlying41], hi4⟩ rfl ⟨A2, c2, some ⟨ga, 0, none⟩, 3, by rw [HR3.out]; rfl, Rd.of_own HW6.out, (rd_of_blk HQ.out).more (by have := HQ.out.lt; omega), HB5.out, fun a h => Nat.le_trans (by omega) (own_lo HW6.out a h), (fun a h => by cases h; show w.heap.size ≤ ga; omega), own_cap HW6.out⟩
  ·
    refine Rg.stepS ?_
    intro K hK
    rw [if_pos (by rfl)]
    refine wp_store_row 37 _ _ rfl (w.heap.size + 1 + 1) R3 rfl rfl 37 _ A6.out i3 z3 o3 ?_
    have H5 := Lib.hid (H5.out.setRow_other (g' := w.heap.size + 1 + 1) (by omega) R3)
    have A5 := Lib.hid (A5.out.setRow_other (g' := w.heap.size + 1 + 1) (by omega) R3)
    have A7 := Lib.hid (A7.out.setRow_other (g' := w.heap.size + 1 + 1) (by omega) R3)
    have A6 := Lib.hid (A6.out.setRow R3)
    have HB5 := Lib.hid (below_setRow HB5.out (show w.heap.size ≤ w.heap.size + 1 + 1 by omega) R3)
    have HW6 := Lib.hid (own_setRow HW6.out (show w.heap.size + 1 + 1 < W.heap.size by omega) R3)
    generalize (V0.setRow (w.heap.size + 1 + 1) R3) = V1 at *
    clear HS
    have HS := And.intro H5.out A5.out
    refine hK.out _ _ HS ?_
    clear hK K
    try simp only [Act.put, List.setIfInBounds_toArray, List.set_cons_zero, List.set_cons_succ]
    refine Rg.oneR (i := 10) (oi := { dst := some 35, op := Op.buildSlice 39 3 #[(0, Operand.tmp 30), (1, Operand.tmp 32), (2, Operand.tmp 34)], type := 39, pos := "node.go:51", after := #[{ on := 5, ground := Ground.data }, { on := 7, ground := Ground.data }, { on := 9, ground := Ground.data }, { on := 12, ground := Ground.gcOnly Departure.lateStores }], guard := none }) rfl (by kernel_rfl) ?_
    refine Rg.stepS ?_
    intro K hK
    go_simp
    have hga : w.heap.size + 1 + 1 + 1 < V1.heap.size := A7.out.lt
    have HQ : Hid (Blk (V1.alloc (.cells #[.int .i64 r0, .int .i64 r1, .int .i64 r2] 3)) V1.heap.size 3 #[.int .i64 r0, .int .i64 r1, .int .i64 r2]) := Lib.hid (Blk.fresh _ _ _)
    have H5 := Lib.hid (H5.out.alloc (.cells #[.int .i64 r0, .int .i64 r1, .int .i64 r2] 3))
    have A5 := Lib.hid (A5.out.alloc (.cells #[.int .i64 r0, .int .i64 r1, .int .i64 r2] 3))
    have A6 := Lib.hid (A6.out.alloc (.cells #[.int .i64 r0, .int .i64 r1, .int .i64 r2] 3))
    have A7 := Lib.hid (A7.out.alloc (.cells #[.int .i64 r0, .int .i64 r1, .int .i64 r2] 3))
    have HB5 := Lib.hid (HB5.out.alloc HB5.out.size (.cells #[.int .i64 r0, .int .i64 r1, .int .i64 r2] 3))
    have HW6 := Lib.hid (ownsRow_below HW6.out ((Below.refl V1.heap.size V1).alloc (Nat.le_refl _) (.cells #[.int .i64 r0, .int .i64 r1, .int .i64 r2] 3)))
    generalize (V1.alloc (.cells #[.int .i64 r0, .int .i64 r1, .int .i64 r2] 3)) = V2 at *
    obtain ⟨ga, hgb⟩ : ∃ ga, V1.heap.size = ga := ⟨_, rfl⟩
    rw [hgb] at HQ hga ⊢
    clear HS
    have HS := And.intro H5.out A5.out
    refine hK.out _ _ HS ?_
    clear hK K
    try simp only [Act.put, List.setIfInBounds_toArray, List.set_cons_zero, List.set_cons_succ]
    refine Rg.takeP (i := 11) (oi := { dst := some 36, op := Op.build 41 #[(0, Operand.const (Value.int IntKind.i64 1)), (1, Operand.tmp 27), (2, Operand.tmp 28), (3, Operand.tmp 35)], type := 41, pos := "node.go:51", after := #[{ on := 2, ground := Ground.data }, { on := 3, ground := Ground.data }, { on := 10, ground := Ground.data }, { on := 12, ground := Ground.gcOnly Departure.lateStores }], guard := none }) (v := ?_) rfl (by kernel_rfl) (fun _ _ _ h => h) (by rfl) ?_ ?_
    rotate_left 1
    · (intro w; go_simp; (try with_reducible rfl))
    try simp only [Act.put, List.setIfInBounds_toArray, List.set_cons_zero, List.set_cons_succ]
    refine Rg.oneR (i := 13) (oi := { dst := none, op := Op.store 41 (Operand.tmp 7) (Operand.tmp 36), type := 0, pos := "node.go:51", after := #[{ on := 11, ground := Ground.data }, { on := 12, ground := Ground.chain }, { on := 0, ground := Ground.phase }, { on := 1, ground := Ground.phase }, { on := 2, ground := Ground.phase }, { on := 3, ground := Ground.phase }, { on := 4, ground := Ground.phase }, { on := 5, ground := Ground.phase }, { on := 6, ground := Ground.phase }, { on := 7, ground := Ground.phase }, { on := 8, ground := Ground.phase }, { on := 9, ground := Ground.phase }, { on := 10, ground := Ground.phase }, { on := 11, ground := Ground.phase }, { on := 12, ground := Ground.phase }], guard := none }) rfl (by kernel_rfl) ?_
    refine Rg.stepF ?_ ?_
    · kernel_rfl
    intro K hK
    rw [if_pos (by rfl)]
    refine wp_store_row 41 _ _ rfl (w.heap.size + 1 + 1 + 1) (Ms.msgC 1 (k : Int) fr (some ⟨ga, 0, none⟩) 3 3) rfl rfl 41 _ A7.out (by kernel_rfl) rfl (by simp [Ms.msgC, Value.oneCell']) ?_
    have A6 := Lib.hid (A6.out.setRow_other (g' := w.heap.size + 1 + 1 + 1) (by omega) (Ms.msgC 1 (k : Int) fr (some ⟨ga, 0, none⟩) 3 3))
    have HQ := Lib.hid (HQ.out.setRow_other (g' := w.heap.size + 1 + 1 + 1) (by omega) (Ms.msgC 1 (k : Int) fr (some ⟨ga, 0, none⟩) 3 3))
    have A7 := Lib.hid (A7.out.setRow (Ms.msgC 1 (k : Int) fr (some ⟨ga, 0, none⟩) 3 3))
    have HB5 := Lib.hid (below_setRow HB5.out (show w.heap.size ≤ w.heap.size + 1 + 1 + 1 by omega) (Ms.msgC 1 (k : Int) fr (some ⟨ga, 0, none⟩) 3 3))
    have HW6 := Lib.hid (own_setRow HW6.out (show w.heap.size + 1 + 1 + 1 < W.heap.size by omega) (Ms.msgC 1 (k : Int) fr (some ⟨ga, 0, none⟩) 3 3))
    generalize (V2.setRow (w.heap.size + 1 + 1 + 1) (Ms.msgC 1 (k : Int) fr (some ⟨ga, 0, none⟩) 3 3)) = V9 at *
    refine hK.out _ _ ?_
    clear hK K
    try simp only [Act.put, List.setIfInBounds_toArray, List.set_cons_zero, List.set_cons_succ]
    refine Rg.doneR (by kernel_rfl) ?_ _
    refine NoPanic.normal ?_
    clear H5 HS
    go_wp2_with fail
    have hi4 : (Try.prog.info? 41).map (·.size) = some (Ms.msgC 1 (k : Int) fr (some ⟨ga, 0, none⟩) 3 3).size := by kernel_rfl
    refine ret_rows2 rfl rfl rfl A6.out ⟨by rw [Try.underlying37], i3⟩ A7.out ⟨by rw [Try.underlying41], hi4⟩ rfl ⟨A2, c2, some ⟨ga, 0, none⟩, 3, by rw [HR3.out]; rfl, Rd.of_own HW6.out, (rd_of_blk HQ.out).more (by have := HQ.out.lt; omega), HB5.out, fun a h => Nat.le_trans (by omega) (own_lo HW6.out a h), (fun a h => by cases h; show w.heap.size ≤ ga; omega), own_cap HW6.out⟩
end Go.Proofs.Ytjfllpmiajkenaa.Nd
