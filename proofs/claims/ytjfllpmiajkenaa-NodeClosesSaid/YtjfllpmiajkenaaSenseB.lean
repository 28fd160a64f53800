/- Contracts: node.Sense and the reference's Sense at a strange computer. -/
import Derived.Test.YtjfllpmiajkenaaSense
namespace Go.Proofs.Ytjfllpmiajkenaa.Nd
open Go.RowKit Go.Proofs.Ytjfllpmiajkenaa.Mem Go.Proofs.Ytjfllpmiajkenaa.Rws Go.Proofs.Ytjfllpmiajkenaa.Flat
set_option linter.unusedVariables false
set_option linter.unusedSimpArgs false

set_option maxRecDepth 100000 in
set_option maxHeartbeats 2000000 in
theorem sense_bad (f : Nat → Value) (hf : ∀ i, i < 73 → okT (nodeT i) (f i)) (id : Int) (hbad : badId id = true) (hid : f 0 = .int .i64 id) (fr r0 r1 r2 : Int) (A : Option Addr) (c : Nat) (bs : List Bool) (B : Nat) (w : World) (hB : B ≤ w.heap.size) (hA : A = none → c = 0) (hnc : bs.length ≤ c) (hl : bs.length ≤ 140737488351232) (hr : Rd w B 1 A bs.length (boolsV bs)) :
    Calls Try.prog 29 #[.agg (row 74 (nodeW f (.slice A bs.length c))), .int .i64 fr, .agg #[.int .i64 r0, .int .i64 r1, .int .i64 r2]] w fun e w' => NodeMsg w w' f bs 0 0 0 [] e := by
  obtain ⟨ifr, hfr⟩ := hf 1 (by omega)
  have hone : ∀ (A : Option Addr) (n c : Nat), (row 74 (nodeW f (.slice A n c))).all (·.oneCell') = true := fun A n c => one_of hf
  have HO := Lib.hid hone
  have HF := Lib.hid hf
  have HID := Lib.hid hid
  have HFR := Lib.hid hfr
  clear hf hone hid hfr
  go_enter Try.func29, Try.ntmps29
  go_upto_region 1 with fail
  have D3 : Hid (Blk ((((w.alloc (.cells (row 74 (nodeW f (.slice A bs.length c))) 37)).alloc (.cells #[.int .i64 r0, .int .i64 r1, .int .i64 r2] 31)).alloc (.cells Try.zeroCells37 37)).alloc (.cells #[.int .i64 0, .int .i64 0, .int .i64 0, .slice none 0 0] 41)) w.heap.size 37 (row 74 (nodeW f (.slice A bs.length c)))) := Lib.hid ((((Blk.new rfl).alloc _).alloc _).alloc _)
  have D5 : Hid (Blk ((((w.alloc (.cells (row 74 (nodeW f (.slice A bs.length c))) 37)).alloc (.cells #[.int .i64 r0, .int .i64 r1, .int .i64 r2] 31)).alloc (.cells Try.zeroCells37 37)).alloc (.cells #[.int .i64 0, .int .i64 0, .int .i64 0, .slice none 0 0] 41)) (w.heap.size + 1) 31 #[.int .i64 r0, .int .i64 r1, .int .i64 r2]) := Lib.hid (((Blk.new (by simp)).alloc _).alloc _)
  have D6 : Hid (Blk ((((w.alloc (.cells (row 74 (nodeW f (.slice A bs.length c))) 37)).alloc (.cells #[.int .i64 r0, .int .i64 r1, .int .i64 r2] 31)).alloc (.cells Try.zeroCells37 37)).alloc (.cells #[.int .i64 0, .int .i64 0, .int .i64 0, .slice none 0 0] 41)) (w.heap.size + 1 + 1) 37 Try.zeroCells37) := Lib.hid ((Blk.new (by simp)).alloc _)
  have D7 : Hid (Blk ((((w.alloc (.cells (row 74 (nodeW f (.slice A bs.length c))) 37)).alloc (.cells #[.int .i64 r0, .int .i64 r1, .int .i64 r2] 31)).alloc (.cells Try.zeroCells37 37)).alloc (.cells #[.int .i64 0, .int .i64 0, .int .i64 0, .slice none 0 0] 41)) (w.heap.size + 1 + 1 + 1) 41 #[.int .i64 0, .int .i64 0, .int .i64 0, .slice none 0 0]) := Lib.hid (Blk.new (by simp))
  have HB := Lib.hid ((((((Below.refl w.heap.size w).alloc (Nat.le_refl _) (.cells (row 74 (nodeW f (.slice A bs.length c))) 37)).alloc (by simp) (.cells #[.int .i64 r0, .int .i64 r1, .int .i64 r2] 31)).alloc (by simp; omega) (.cells Try.zeroCells37 37)).alloc (by simp; omega) (.cells #[.int .i64 0, .int .i64 0, .int .i64 0, .slice none 0 0] 41)))
  have HR := Lib.hid hr
  clear hr
  generalize ((((w.alloc (.cells (row 74 (nodeW f (.slice A bs.length c))) 37)).alloc (.cells #[.int .i64 r0, .int .i64 r1, .int .i64 r2] 31)).alloc (.cells Try.zeroCells37 37)).alloc (.cells #[.int .i64 0, .int .i64 0, .int .i64 0, .slice none 0 0] 41)) = W at *
  have hi74 : ∀ A (n : Nat) c, (Try.prog.info? 37).map (·.size) = some (row 74 (nodeW f (.slice A n c))).size := fun A n c => by rw [row_size]; kernel_rfl
  have HI := Lib.hid hi74
  clear hi74
  have hwz : w.heap.size + 1 + 1 + 1 < W.heap.size := D7.out.lt
  have hia := HI.out A bs.length c
  obtain ⟨R1, hR1⟩ : ∃ R1, row 74 (nodeW f (.slice A bs.length c)) = R1 := ⟨_, rfl⟩
  have HR1 := Lib.hid hR1
  rw [hR1] at D3 hia
  clear hR1
  go_wp2_with (refine wpList_whole rfl 37 _ rfl w.heap.size rfl D3.out _ Try.underlying37 rfl hia ?_)
  rw [← HR1.out]
  refine (copied_any f HF.out A c bs B _ (Nat.le_trans hB HB.out.size) hA hnc hl (HR.out.below (HB.out.mono hB))).mono ?_
  rintro e w1 ⟨A2, c2, rfl, hown, hb1⟩
  rw [HR1.out]
  have HW1 := Lib.hid hown
  have HB1 := Lib.hid (onward HB.out (Nat.le_refl _) hb1)
  have hsz := hb1.size
  have hi2 := HI.out A2 bs.length c2
  have h12 := HO.out A2 bs.length c2
  have h20 : (row 74 (nodeW f (.slice A2 bs.length c2)))[0]? = some (.int .i64 id) := by rw [row_at (by omega)]; exact congrArg some HID.out
  have h21 : (row 74 (nodeW f (.slice A2 bs.length c2)))[1]? = some (.int .i64 ifr) := by rw [row_at (by omega)]; exact congrArg some HFR.out
  have hs2 : R1.size = (row 74 (nodeW f (.slice A2 bs.length c2))).size := by rw [← HR1.out, row_size, row_size]
  obtain ⟨R2, hR2⟩ : ∃ R2, row 74 (nodeW f (.slice A2 bs.length c2)) = R2 := ⟨_, rfl⟩
  have HR2 := Lib.hid hR2
  rw [hR2] at hi2 h12 h20 h21 hs2 ⊢
  clear hR2
  have E3 := Lib.hid (D3.out.below hb1 D3.out.lt)
  have F3 := Lib.hid (E3.out.setRow R2)
  have F5 := Lib.hid ((D5.out.below hb1 D5.out.lt).setRow_other (g' := w.heap.size) (by omega) R2)
  have F6 := Lib.hid ((D6.out.below hb1 D6.out.lt).setRow_other (g' := w.heap.size) (by omega) R2)
  have F7 := Lib.hid ((D7.out.below hb1 D7.out.lt).setRow_other (g' := w.heap.size) (by omega) R2)
  have HB2 := Lib.hid (below_setRow HB1.out (Nat.le_refl _) R2)
  have HW2 := Lib.hid (own_setRow HW1.out (show w.heap.size < W.heap.size by omega) R2)
  have cT := fun w => strange_any R2 id h20 w
  rw [hbad] at cT
  clear hb1 hown
  go_upto_region 3 with (first
    | (refine wpList_store_row rfl 37 _ _ rfl w.heap.size R2 rfl rfl 37 _ E3.out hi2 hs2 h12 ?_)
    | (refine wpList_whole rfl 37 _ rfl w.heap.size rfl F3.out _ Try.underlying37 rfl hi2 ?_)
    | (go_at_call 41; refine (cT _).mono ?_; rintro e w3 ⟨rfl, hb3⟩; have G3 := Lib.hid (F3.out.below hb3 F3.out.lt); have G5 := Lib.hid (F5.out.below hb3 F5.out.lt); have G6 := Lib.hid (F6.out.below hb3 F6.out.lt); have G7 := Lib.hid (F7.out.below hb3 F7.out.lt); have HB3 := Lib.hid (onward HB2.out (Nat.le_refl _) hb3); have HW3 := Lib.hid (ownsRow_below HW2.out hb3); clear hb3))
  clear HB HB1 HB2 HW1 HW2 D3 D5 D6 D7 E3 F3 F5 F6 F7 G5 cT h20 h21 hs2
  have z2 : (Try.zeroCells37).size = R2.size := by rw [← HR2.out, row_size]; kernel_rfl
  refine wp_region_list ?_
  refine wpList_whole (by rfl) 37 _ rfl w.heap.size rfl G3.out _ Try.underlying37 rfl hi2 ?_
  try simp only [Act.put, List.setIfInBounds_toArray, List.set_cons_zero, List.set_cons_succ]
  refine wpList_plain rfl (fun K hK => ?_)
  go_simp
  refine hK _ _ ?_
  clear hK K
  try simp only [Act.put, List.setIfInBounds_toArray, List.set_cons_zero, List.set_cons_succ]
  refine wpList_store_row (by rfl) 37 _ _ rfl (w.heap.size + 1 + 1) R2 rfl rfl 37 _ G6.out hi2 z2 h12 ?_
  have A6 := Lib.hid (G6.out.setRow R2)
  have A7 := Lib.hid (G7.out.setRow_other (g' := w.heap.size + 1 + 1) (by omega) R2)
  have HB8 := Lib.hid (below_setRow HB3.out (show w.heap.size ≤ w.heap.size + 1 + 1 by omega) R2)
  have HW8 := Lib.hid (own_setRow HW3.out (show w.heap.size + 1 + 1 < W.heap.size by omega) R2)
  clear G6 G7 G3 HB3 HW3
  generalize (w3.setRow (w.heap.size + 1 + 1) R2) = W8 at *
  try simp only [Act.put, List.setIfInBounds_toArray, List.set_cons_zero, List.set_cons_succ]
  refine wpList_store_row (by rfl) 41 _ _ rfl (w.heap.size + 1 + 1 + 1) (Ms.msgC 0 0 0 none 0 0) rfl rfl 41 _ A7.out (by kernel_rfl) rfl (by simp [Ms.msgC, Value.oneCell']) ?_
  have A6 := Lib.hid (A6.out.setRow_other (g' := w.heap.size + 1 + 1 + 1) (by omega) (Ms.msgC 0 0 0 none 0 0))
  have A7 := Lib.hid (A7.out.setRow (Ms.msgC 0 0 0 none 0 0))
  have HB8 := Lib.hid (below_setRow HB8.out (show w.heap.size ≤ w.heap.size + 1 + 1 + 1 by omega) (Ms.msgC 0 0 0 none 0 0))
  have HW8 := Lib.hid (own_setRow HW8.out (show w.heap.size + 1 + 1 + 1 < W.heap.size by omega) (Ms.msgC 0 0 0 none 0 0))
  generalize (W8.setRow (w.heap.size + 1 + 1 + 1) (Ms.msgC 0 0 0 none 0 0)) = W9 at *
  try simp only [Act.put, List.setIfInBounds_toArray, List.set_cons_zero, List.set_cons_succ]
  go_wp2_with fail
  have hi4 : (Try.prog.info? 41).map (·.size) = some (Ms.msgC 0 0 0 none 0 0).size := by kernel_rfl
  refine ret_rows2 rfl rfl rfl A6.out ⟨by rw [Try.underlying37], hi2⟩ A7.out ⟨by rw [Try.underlying41], hi4⟩ rfl ⟨A2, c2, none, 0, by rw [HR2.out]; rfl, Rd.of_own HW8.out, Rd.nil _ _ _ _, HB8.out, fun a h => Nat.le_trans (by omega) (own_lo HW8.out a h), (fun a h => by cases h), own_cap HW8.out⟩

set_option maxRecDepth 100000 in
set_option maxHeartbeats 2000000 in
theorem refsense_bad (f : Nat → Value) (hf : ∀ i, i < 73 → okT (nodeT i) (f i)) (id : Int) (hbad : badId id = true) (hid : f 0 = .int .i64 id) (fr r0 r1 r2 : Int) (A : Option Addr) (c : Nat) (bs : List Bool) (B : Nat) (w : World) (hB : B ≤ w.heap.size) (hA : A = none → c = 0) (hnc : bs.length ≤ c) (hl : bs.length ≤ 140737488351232) (hr : Rd w B 1 A bs.length (boolsV bs)) :
    Calls Try.prog 30 #[.agg (row 74 (nodeW f (.slice A bs.length c))), .int .i64 fr, .agg #[.int .i64 r0, .int .i64 r1, .int .i64 r2]] w fun e w' => NodeMsg w w' f bs 0 0 0 [] e := by
  obtain ⟨ifr, hfr⟩ := hf 1 (by omega)
  have hone : ∀ (A : Option Addr) (n c : Nat), (row 74 (nodeW f (.slice A n c))).all (·.oneCell') = true := fun A n c => one_of hf
  have HO := Lib.hid hone
  have HF := Lib.hid hf
  have HID := Lib.hid hid
  have HFR := Lib.hid hfr
  clear hf hone hid hfr
  go_enter Try.func30, Try.ntmps30
  go_upto_region 1 with fail
  have D3 : Hid (Blk ((((w.alloc (.cells (row 74 (nodeW f (.slice A bs.length c))) 37)).alloc (.cells #[.int .i64 r0, .int .i64 r1, .int .i64 r2] 31)).alloc (.cells Try.zeroCells37 37)).alloc (.cells #[.int .i64 0, .int .i64 0, .int .i64 0, .slice none 0 0] 41)) w.heap.size 37 (row 74 (nodeW f (.slice A bs.length c)))) := Lib.hid ((((Blk.new rfl).alloc _).alloc _).alloc _)
  have D5 : Hid (Blk ((((w.alloc (.cells (row 74 (nodeW f (.slice A bs.length c))) 37)).alloc (.cells #[.int .i64 r0, .int .i64 r1, .int .i64 r2] 31)).alloc (.cells Try.zeroCells37 37)).alloc (.cells #[.int .i64 0, .int .i64 0, .int .i64 0, .slice none 0 0] 41)) (w.heap.size + 1) 31 #[.int .i64 r0, .int .i64 r1, .int .i64 r2]) := Lib.hid (((Blk.new (by simp)).alloc _).alloc _)
  have D6 : Hid (Blk ((((w.alloc (.cells (row 74 (nodeW f (.slice A bs.length c))) 37)).alloc (.cells #[.int .i64 r0, .int .i64 r1, .int .i64 r2] 31)).alloc (.cells Try.zeroCells37 37)).alloc (.cells #[.int .i64 0, .int .i64 0, .int .i64 0, .slice none 0 0] 41)) (w.heap.size + 1 + 1) 37 Try.zeroCells37) := Lib.hid ((Blk.new (by simp)).alloc _)
  have D7 : Hid (Blk ((((w.alloc (.cells (row 74 (nodeW f (.slice A bs.length c))) 37)).alloc (.cells #[.int .i64 r0, .int .i64 r1, .int .i64 r2] 31)).alloc (.cells Try.zeroCells37 37)).alloc (.cells #[.int .i64 0, .int .i64 0, .int .i64 0, .slice none 0 0] 41)) (w.heap.size + 1 + 1 + 1) 41 #[.int .i64 0, .int .i64 0, .int .i64 0, .slice none 0 0]) := Lib.hid (Blk.new (by simp))
  have HB := Lib.hid ((((((Below.refl w.heap.size w).alloc (Nat.le_refl _) (.cells (row 74 (nodeW f (.slice A bs.length c))) 37)).alloc (by simp) (.cells #[.int .i64 r0, .int .i64 r1, .int .i64 r2] 31)).alloc (by simp; omega) (.cells Try.zeroCells37 37)).alloc (by simp; omega) (.cells #[.int .i64 0, .int .i64 0, .int .i64 0, .slice none 0 0] 41)))
  have HR := Lib.hid hr
  clear hr
  generalize ((((w.alloc (.cells (row 74 (nodeW f (.slice A bs.length c))) 37)).alloc (.cells #[.int .i64 r0, .int .i64 r1, .int .i64 r2] 31)).alloc (.cells Try.zeroCells37 37)).alloc (.cells #[.int .i64 0, .int .i64 0, .int .i64 0, .slice none 0 0] 41)) = W at *
  have hi74 : ∀ A (n : Nat) c, (Try.prog.info? 37).map (·.size) = some (row 74 (nodeW f (.slice A n c))).size := fun A n c => by rw [row_size]; kernel_rfl
  have HI := Lib.hid hi74
  clear hi74
  have hwz : w.heap.size + 1 + 1 + 1 < W.heap.size := D7.out.lt
  have hia := HI.out A bs.length c
  obtain ⟨R1, hR1⟩ : ∃ R1, row 74 (nodeW f (.slice A bs.length c)) = R1 := ⟨_, rfl⟩
  have HR1 := Lib.hid hR1
  rw [hR1] at D3 hia
  clear hR1
  go_wp2_with (refine wpList_whole rfl 37 _ rfl w.heap.size rfl D3.out _ Try.underlying37 rfl hia ?_)
  rw [← HR1.out]
  refine (copyNode_any f HF.out A c bs B _ (Nat.le_trans hB HB.out.size) hA hnc hl (HR.out.below (HB.out.mono hB))).mono ?_
  rintro e w1 ⟨A2, c2, rfl, hown, hb1⟩
  rw [HR1.out]
  have HW1 := Lib.hid hown
  have HB1 := Lib.hid (onward HB.out (Nat.le_refl _) hb1)
  have hsz := hb1.size
  have hi2 := HI.out A2 bs.length c2
  have h12 := HO.out A2 bs.length c2
  have h20 : (row 74 (nodeW f (.slice A2 bs.length c2)))[0]? = some (.int .i64 id) := by rw [row_at (by omega)]; exact congrArg some HID.out
  have h21 : (row 74 (nodeW f (.slice A2 bs.length c2)))[1]? = some (.int .i64 ifr) := by rw [row_at (by omega)]; exact congrArg some HFR.out
  have hs2 : R1.size = (row 74 (nodeW f (.slice A2 bs.length c2))).size := by rw [← HR1.out, row_size, row_size]
  obtain ⟨R2, hR2⟩ : ∃ R2, row 74 (nodeW f (.slice A2 bs.length c2)) = R2 := ⟨_, rfl⟩
  have HR2 := Lib.hid hR2
  rw [hR2] at hi2 h12 h20 h21 hs2 ⊢
  clear hR2
  have E3 := Lib.hid (D3.out.below hb1 D3.out.lt)
  have F3 := Lib.hid (E3.out.setRow R2)
  have F5 := Lib.hid ((D5.out.below hb1 D5.out.lt).setRow_other (g' := w.heap.size) (by omega) R2)
  have F6 := Lib.hid ((D6.out.below hb1 D6.out.lt).setRow_other (g' := w.heap.size) (by omega) R2)
  have F7 := Lib.hid ((D7.out.below hb1 D7.out.lt).setRow_other (g' := w.heap.size) (by omega) R2)
  have HB2 := Lib.hid (below_setRow HB1.out (Nat.le_refl _) R2)
  have HW2 := Lib.hid (own_setRow HW1.out (show w.heap.size < W.heap.size by omega) R2)
  have cT := fun w => none_any R2 id h20 w
  rw [hbad] at cT
  clear hb1 hown
  go_upto_region 3 with (first
    | (refine wpList_store_row rfl 37 _ _ rfl w.heap.size R2 rfl rfl 37 _ E3.out hi2 hs2 h12 ?_)
    | (refine wpList_whole rfl 37 _ rfl w.heap.size rfl F3.out _ Try.underlying37 rfl hi2 ?_)
    | (go_at_call 50; refine (cT _).mono ?_; rintro e w3 ⟨rfl, hb3⟩; have G3 := Lib.hid (F3.out.below hb3 F3.out.lt); have G5 := Lib.hid (F5.out.below hb3 F5.out.lt); have G6 := Lib.hid (F6.out.below hb3 F6.out.lt); have G7 := Lib.hid (F7.out.below hb3 F7.out.lt); have HB3 := Lib.hid (onward HB2.out (Nat.le_refl _) hb3); have HW3 := Lib.hid (ownsRow_below HW2.out hb3); clear hb3))
  clear HB HB1 HB2 HW1 HW2 D3 D5 D6 D7 E3 F3 F5 F6 F7 G5 cT h20 h21 hs2
  have z2 : (Try.zeroCells37).size = R2.size := by rw [← HR2.out, row_size]; kernel_rfl
  refine wp_region_list ?_
  refine wpList_whole (by rfl) 37 _ rfl w.heap.size rfl G3.out _ Try.underlying37 rfl hi2 ?_
  try simp only [Act.put, List.setIfInBounds_toArray, List.set_cons_zero, List.set_cons_succ]
  refine wpList_plain rfl (fun K hK => ?_)
  go_simp
  refine hK _ _ ?_
  clear hK K
  try simp only [Act.put, List.setIfInBounds_toArray, List.set_cons_zero, List.set_cons_succ]
  refine wpList_store_row (by rfl) 37 _ _ rfl (w.heap.size + 1 + 1) R2 rfl rfl 37 _ G6.out hi2 z2 h12 ?_
  have A6 := Lib.hid (G6.out.setRow R2)
  have A7 := Lib.hid (G7.out.setRow_other (g' := w.heap.size + 1 + 1) (by omega) R2)
  have HB8 := Lib.hid (below_setRow HB3.out (show w.heap.size ≤ w.heap.size + 1 + 1 by omega) R2)
  have HW8 := Lib.hid (own_setRow HW3.out (show w.heap.size + 1 + 1 < W.heap.size by omega) R2)
  clear G6 G7 G3 HB3 HW3
  generalize (w3.setRow (w.heap.size + 1 + 1) R2) = W8 at *
  try simp only [Act.put, List.setIfInBounds_toArray, List.set_cons_zero, List.set_cons_succ]
  refine wpList_store_row (by rfl) 41 _ _ rfl (w.heap.size + 1 + 1 + 1) (Ms.msgC 0 0 0 none 0 0) rfl rfl 41 _ A7.out (by kernel_rfl) rfl (by simp [Ms.msgC, Value.oneCell']) ?_
  have A6 := Lib.hid (A6.out.setRow_other (g' := w.heap.size + 1 + 1 + 1) (by omega) (Ms.msgC 0 0 0 none 0 0))
  have A7 := Lib.hid (A7.out.setRow (Ms.msgC 0 0 0 none 0 0))
  have HB8 := Lib.hid (below_setRow HB8.out (show w.heap.size ≤ w.heap.size + 1 + 1 + 1 by omega) (Ms.msgC 0 0 0 none 0 0))
  have HW8 := Lib.hid (own_setRow HW8.out (show w.heap.size + 1 + 1 + 1 < W.heap.size by omega) (Ms.msgC 0 0 0 none 0 0))
  generalize (W8.setRow (w.heap.size + 1 + 1 + 1) (Ms.msgC 0 0 0 none 0 0)) = W9 at *
  try simp only [Act.put, List.setIfInBounds_toArray, List.set_cons_zero, List.set_cons_succ]
  go_wp2_with fail
  have hi4 : (Try.prog.info? 41).map (·.size) = some (Ms.msgC 0 0 0 none 0 0).size := by kernel_rfl
  refine ret_rows2 rfl rfl rfl A6.out ⟨by rw [Try.underlying37], hi2⟩ A7.out ⟨by rw [Try.underlying41], hi4⟩ rfl ⟨A2, c2, none, 0, by rw [HR2.out]; rfl, Rd.of_own HW8.out, Rd.nil _ _ _ _, HB8.out, fun a h => Nat.le_trans (by omega) (own_lo HW8.out a h), (fun a h => by cases h), own_cap HW8.out⟩
end Go.Proofs.Ytjfllpmiajkenaa.Nd
