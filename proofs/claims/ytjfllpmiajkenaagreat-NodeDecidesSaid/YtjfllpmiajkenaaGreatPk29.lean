import Derived.Test.YtjfllpmiajkenaaGreatPk3
import Derived.Test.YtjfllpmiajkenaaGreatPk5
import Derived.Test.YtjfllpmiajkenaaGreatPk27
import Derived.Test.YtjfllpmiajkenaaGreatPk28
import Derived.Test.YtjfllpmiajkenaaGreatPk7
import Derived.Test.YtjfllpmiajkenaaGreatPk2
import Derived.Test.YtjfllpmiajkenaaGreatPk0
namespace Go.Proofs.YtjfllpmiajkenaaGreat.Nd
open Go.RowKit Go.Proofs.YtjfllpmiajkenaaGreat.Mem Go.Proofs.YtjfllpmiajkenaaGreat.Rws Go.Proofs.YtjfllpmiajkenaaGreat.Flat
set_option linter.unusedVariables false
set_option linter.unusedSimpArgs false
set_option maxRecDepth 100000 in
set_option maxHeartbeats 2000000 in
theorem decide_bad (f : Nat → Value) (hf : ∀ i, i < 73 → okT (nodeT i) (f i)) (id : Int) (hbad : badId id = true) (hid : f 0 = .int .i64 id) (A : Option Addr) (c : Nat) (bs : List Bool) (AI : Option Addr) (ci : Nat) (ms : List Ms.Msg) (B : Nat) (w : World) (hB : B ≤ w.heap.size) (hA : A = none → c = 0) (hnc : bs.length ≤ c) (hl : bs.length ≤ 140737488351232) (hr : Rd w B 1 A bs.length (boolsV bs)) (hml : ms.length ≤ 140737488355328) (hm : Ms.MsgsAt w B AI ms) :
    Calls Tryz.prog 6 #[.agg (row 74 (nodeW f (.slice A bs.length c))), .slice AI ms.length ci] w fun e w' => NodeMsg w w' f bs 0 0 0 [] e := by
  obtain ⟨ifr, hfr⟩ := hf 1 (by omega)
  have hone : ∀ (A : Option Addr) (n c : Nat), (row 74 (nodeW f (.slice A n c))).all (·.oneCell') = true := fun A n c => one_of hf
  have HO := Lib.hid hone
  have HF := Lib.hid hf
  have HID := Lib.hid hid
  have HFR := Lib.hid hfr
  clear hf hone hid hfr
  go_enter Tryz.func6, Tryz.ntmps6
  go_upto_region 1 with fail
  have D3 : Hid (Blk (((w.alloc (.cells (row 74 (nodeW f (.slice A bs.length c))) 37)).alloc (.cells Tryz.zeroCells37 37)).alloc (.cells #[.int .i64 0, .int .i64 0, .int .i64 0, .slice none 0 0] 41)) w.heap.size 37 (row 74 (nodeW f (.slice A bs.length c)))) := Lib.hid (((Blk.new rfl).alloc _).alloc _)
  have D6 : Hid (Blk (((w.alloc (.cells (row 74 (nodeW f (.slice A bs.length c))) 37)).alloc (.cells Tryz.zeroCells37 37)).alloc (.cells #[.int .i64 0, .int .i64 0, .int .i64 0, .slice none 0 0] 41)) (w.heap.size + 1) 37 Tryz.zeroCells37) := Lib.hid ((Blk.new (by simp)).alloc _)
  have D7 : Hid (Blk (((w.alloc (.cells (row 74 (nodeW f (.slice A bs.length c))) 37)).alloc (.cells Tryz.zeroCells37 37)).alloc (.cells #[.int .i64 0, .int .i64 0, .int .i64 0, .slice none 0 0] 41)) (w.heap.size + 1 + 1) 41 #[.int .i64 0, .int .i64 0, .int .i64 0, .slice none 0 0]) := Lib.hid (Blk.new (by simp))
  have HB := Lib.hid (((((Below.refl w.heap.size w).alloc (Nat.le_refl _) (.cells (row 74 (nodeW f (.slice A bs.length c))) 37)).alloc (by simp) (.cells Tryz.zeroCells37 37)).alloc (by simp; omega) (.cells #[.int .i64 0, .int .i64 0, .int .i64 0, .slice none 0 0] 41)))
  have HR := Lib.hid hr
  have HMS := Lib.hid hm
  clear hr hm
  generalize (((w.alloc (.cells (row 74 (nodeW f (.slice A bs.length c))) 37)).alloc (.cells Tryz.zeroCells37 37)).alloc (.cells #[.int .i64 0, .int .i64 0, .int .i64 0, .slice none 0 0] 41)) = W at *
  have hi74 : ∀ A (n : Nat) c, (Tryz.prog.info? 37).map (·.size) = some (row 74 (nodeW f (.slice A n c))).size := fun A n c => by rw [row_size]; kernel_rfl
  have HI := Lib.hid hi74
  clear hi74
  have hwz : w.heap.size + 1 + 1 < W.heap.size := D7.out.lt
  have hia := HI.out A bs.length c
  obtain ⟨R1, hR1⟩ : ∃ R1, row 74 (nodeW f (.slice A bs.length c)) = R1 := ⟨_, rfl⟩
  have HR1 := Lib.hid hR1
  rw [hR1] at D3 hia
  clear hR1
  go_wp2_with (refine wpList_whole rfl 37 _ rfl w.heap.size rfl D3.out _ Tryz.underlying37 rfl hia ?_)
  rw [← HR1.out]
  refine (copied_any f HF.out A c bs B _ (Nat.le_trans hB HB.out.size) hA hnc hl (HR.out.below (HB.out.mono hB))).mono ?_
  rintro e w1 ⟨A2, c2, rfl, hown, hb1⟩
  rw [HR1.out]
  have HW1 := Lib.hid hown
  have HB1 := Lib.hid (onward HB.out (Nat.le_refl _) hb1)
  have hsz := hb1.size
  have hi2 := HI.out A2 bs.length c2
  have h12 := HO.out A2 bs.length c2
  have h20 : (row 74 (nodeW f (.slice A2 bs.length c2)))[0]? = some (.int .i64 id) := by rw [row_at (by omega)]; exact congrArg some HID.out
  have h21 : (row 74 (nodeW f (.slice A2 bs.length c2)))[1]? = some (.int .i64 ifr) := by rw [row_at (by omega)]; exact congrArg some HFR.out
  have hs2 : R1.size = (row 74 (nodeW f (.slice A2 bs.length c2))).size := by rw [← HR1.out, row_size, row_size]
  obtain ⟨R2, hR2⟩ : ∃ R2, row 74 (nodeW f (.slice A2 bs.length c2)) = R2 := ⟨_, rfl⟩
  have HR2 := Lib.hid hR2
  rw [hR2] at hi2 h12 h20 h21 hs2 ⊢
  clear hR2
  have E3 := Lib.hid (D3.out.below hb1 D3.out.lt)
  have F3 := Lib.hid (E3.out.setRow R2)
  have F6 := Lib.hid ((D6.out.below hb1 D6.out.lt).setRow_other (g' := w.heap.size) (by omega) R2)
  have F7 := Lib.hid ((D7.out.below hb1 D7.out.lt).setRow_other (g' := w.heap.size) (by omega) R2)
  have HB2 := Lib.hid (below_setRow HB1.out (Nat.le_refl _) R2)
  have HW2 := Lib.hid (own_setRow HW1.out (show w.heap.size < W.heap.size by omega) R2)
  have cT := fun w => strange_any R2 id h20 w
  rw [hbad] at cT
  clear hb1 hown
  go_upto_region 3 with (first
    | (refine wpList_store_row rfl 37 _ _ rfl w.heap.size R2 rfl rfl 37 _ E3.out hi2 hs2 h12 ?_)
    | (refine wpList_whole rfl 37 _ rfl w.heap.size rfl F3.out _ Tryz.underlying37 rfl hi2 ?_)
    | (go_at_call 23; refine (cT _).mono ?_; rintro e w3 ⟨rfl, hb3⟩; have G3 := Lib.hid (F3.out.below hb3 F3.out.lt); have G6 := Lib.hid (F6.out.below hb3 F6.out.lt); have G7 := Lib.hid (F7.out.below hb3 F7.out.lt); have HB3 := Lib.hid (onward HB2.out (Nat.le_refl _) hb3); have HW3 := Lib.hid (ownsRow_below HW2.out hb3); have hz3 := Nat.le_trans hsz (Nat.le_trans (show w1.heap.size ≤ (w1.setRow w.heap.size R2).heap.size from (below_setRow (Below.refl 0 w1) (Nat.zero_le _) R2).size) hb3.size); clear hb3))
  clear HB HB1 HB2 HW1 HW2 D3 D6 D7 E3 F3 F6 F7 cT hs2
  have z2 : (Tryz.zeroCells37).size = R2.size := by rw [← HR2.out, row_size]; kernel_rfl
  refine wp_region_list ?_
  refine wpList_whole (by rfl) 37 _ rfl w.heap.size rfl G3.out _ Tryz.underlying37 rfl hi2 ?_
  try simp only [Act.put, List.setIfInBounds_toArray, List.set_cons_zero, List.set_cons_succ]
  refine wpList_plain rfl (fun K hK => ?_)
  go_simp
  refine hK _ _ ?_
  clear hK K
  try simp only [Act.put, List.setIfInBounds_toArray, List.set_cons_zero, List.set_cons_succ]
  refine wpList_store_row (by rfl) 37 _ _ rfl (w.heap.size + 1) R2 rfl rfl 37 _ G6.out hi2 z2 h12 ?_
  have A6 := Lib.hid (G6.out.setRow R2)
  have A7 := Lib.hid (G7.out.setRow_other (g' := w.heap.size + 1) (by omega) R2)
  have HB8 := Lib.hid (below_setRow HB3.out (show w.heap.size ≤ w.heap.size + 1 by omega) R2)
  have HW8 := Lib.hid (own_setRow HW3.out (show w.heap.size + 1 < W.heap.size by omega) R2)
  clear G6 G7 G3 HB3 HW3
  generalize (w3.setRow (w.heap.size + 1) R2) = W8 at *
  try simp only [Act.put, List.setIfInBounds_toArray, List.set_cons_zero, List.set_cons_succ]
  refine wpList_store_row (by rfl) 41 _ _ rfl (w.heap.size + 1 + 1) (Ms.msgC 0 0 0 none 0 0) rfl rfl 41 _ A7.out (by kernel_rfl) rfl (by simp [Ms.msgC, Value.oneCell']) ?_
  have A6 := Lib.hid (A6.out.setRow_other (g' := w.heap.size + 1 + 1) (by omega) (Ms.msgC 0 0 0 none 0 0))
  have A7 := Lib.hid (A7.out.setRow (Ms.msgC 0 0 0 none 0 0))
  have HB8 := Lib.hid (below_setRow HB8.out (show w.heap.size ≤ w.heap.size + 1 + 1 by omega) (Ms.msgC 0 0 0 none 0 0))
  have HW8 := Lib.hid (own_setRow HW8.out (show w.heap.size + 1 + 1 < W.heap.size by omega) (Ms.msgC 0 0 0 none 0 0))
  generalize (W8.setRow (w.heap.size + 1 + 1) (Ms.msgC 0 0 0 none 0 0)) = W9 at *
  try simp only [Act.put, List.setIfInBounds_toArray, List.set_cons_zero, List.set_cons_succ]
  go_wp2_with fail
  have hi4 : (Tryz.prog.info? 41).map (·.size) = some (Ms.msgC 0 0 0 none 0 0).size := by kernel_rfl
  refine ret_rows2 rfl rfl rfl A6.out ⟨by rw [Tryz.underlying37], hi2⟩ A7.out ⟨by rw [Tryz.underlying41], hi4⟩ rfl ⟨A2, c2, none, 0, by rw [HR2.out]; rfl, Rd.of_own HW8.out, Rd.nil _ _ _ _, HB8.out, fun a h => Nat.le_trans (by omega) (own_lo HW8.out a h), (fun a h => by cases h), own_cap HW8.out⟩
set_option maxRecDepth 100000 in
set_option maxHeartbeats 2000000 in
theorem refdecide_bad (f : Nat → Value) (hf : ∀ i, i < 73 → okT (nodeT i) (f i)) (id : Int) (hbad : badId id = true) (hid : f 0 = .int .i64 id) (A : Option Addr) (c : Nat) (bs : List Bool) (AI : Option Addr) (ci : Nat) (ms : List Ms.Msg) (B : Nat) (w : World) (hB : B ≤ w.heap.size) (hA : A = none → c = 0) (hnc : bs.length ≤ c) (hl : bs.length ≤ 140737488351232) (hr : Rd w B 1 A bs.length (boolsV bs)) (hml : ms.length ≤ 140737488355328) (hm : Ms.MsgsAt w B AI ms) :
    Calls Tryz.prog 9 #[.agg (row 74 (nodeW f (.slice A bs.length c))), .slice AI ms.length ci] w fun e w' => NodeMsg w w' f bs 0 0 0 [] e := by
  obtain ⟨ifr, hfr⟩ := hf 1 (by omega)
  have hone : ∀ (A : Option Addr) (n c : Nat), (row 74 (nodeW f (.slice A n c))).all (·.oneCell') = true := fun A n c => one_of hf
  have HO := Lib.hid hone
  have HF := Lib.hid hf
  have HID := Lib.hid hid
  have HFR := Lib.hid hfr
  clear hf hone hid hfr
  go_enter Tryz.func9, Tryz.ntmps9
  go_upto_region 1 with fail
  have D3 : Hid (Blk (((w.alloc (.cells (row 74 (nodeW f (.slice A bs.length c))) 37)).alloc (.cells Tryz.zeroCells37 37)).alloc (.cells #[.int .i64 0, .int .i64 0, .int .i64 0, .slice none 0 0] 41)) w.heap.size 37 (row 74 (nodeW f (.slice A bs.length c)))) := Lib.hid (((Blk.new rfl).alloc _).alloc _)
  have D6 : Hid (Blk (((w.alloc (.cells (row 74 (nodeW f (.slice A bs.length c))) 37)).alloc (.cells Tryz.zeroCells37 37)).alloc (.cells #[.int .i64 0, .int .i64 0, .int .i64 0, .slice none 0 0] 41)) (w.heap.size + 1) 37 Tryz.zeroCells37) := Lib.hid ((Blk.new (by simp)).alloc _)
  have D7 : Hid (Blk (((w.alloc (.cells (row 74 (nodeW f (.slice A bs.length c))) 37)).alloc (.cells Tryz.zeroCells37 37)).alloc (.cells #[.int .i64 0, .int .i64 0, .int .i64 0, .slice none 0 0] 41)) (w.heap.size + 1 + 1) 41 #[.int .i64 0, .int .i64 0, .int .i64 0, .slice none 0 0]) := Lib.hid (Blk.new (by simp))
  have HB := Lib.hid (((((Below.refl w.heap.size w).alloc (Nat.le_refl _) (.cells (row 74 (nodeW f (.slice A bs.length c))) 37)).alloc (by simp) (.cells Tryz.zeroCells37 37)).alloc (by simp; omega) (.cells #[.int .i64 0, .int .i64 0, .int .i64 0, .slice none 0 0] 41)))
  have HR := Lib.hid hr
  have HMS := Lib.hid hm
  clear hr hm
  generalize (((w.alloc (.cells (row 74 (nodeW f (.slice A bs.length c))) 37)).alloc (.cells Tryz.zeroCells37 37)).alloc (.cells #[.int .i64 0, .int .i64 0, .int .i64 0, .slice none 0 0] 41)) = W at *
  have hi74 : ∀ A (n : Nat) c, (Tryz.prog.info? 37).map (·.size) = some (row 74 (nodeW f (.slice A n c))).size := fun A n c => by rw [row_size]; kernel_rfl
  have HI := Lib.hid hi74
  clear hi74
  have hwz : w.heap.size + 1 + 1 < W.heap.size := D7.out.lt
  have hia := HI.out A bs.length c
  obtain ⟨R1, hR1⟩ : ∃ R1, row 74 (nodeW f (.slice A bs.length c)) = R1 := ⟨_, rfl⟩
  have HR1 := Lib.hid hR1
  rw [hR1] at D3 hia
  clear hR1
  go_wp2_with (refine wpList_whole rfl 37 _ rfl w.heap.size rfl D3.out _ Tryz.underlying37 rfl hia ?_)
  rw [← HR1.out]
  refine (copyNode_any f HF.out A c bs B _ (Nat.le_trans hB HB.out.size) hA hnc hl (HR.out.below (HB.out.mono hB))).mono ?_
  rintro e w1 ⟨A2, c2, rfl, hown, hb1⟩
  rw [HR1.out]
  have HW1 := Lib.hid hown
  have HB1 := Lib.hid (onward HB.out (Nat.le_refl _) hb1)
  have hsz := hb1.size
  have hi2 := HI.out A2 bs.length c2
  have h12 := HO.out A2 bs.length c2
  have h20 : (row 74 (nodeW f (.slice A2 bs.length c2)))[0]? = some (.int .i64 id) := by rw [row_at (by omega)]; exact congrArg some HID.out
  have h21 : (row 74 (nodeW f (.slice A2 bs.length c2)))[1]? = some (.int .i64 ifr) := by rw [row_at (by omega)]; exact congrArg some HFR.out
  have hs2 : R1.size = (row 74 (nodeW f (.slice A2 bs.length c2))).size := by rw [← HR1.out, row_size, row_size]
  obtain ⟨R2, hR2⟩ : ∃ R2, row 74 (nodeW f (.slice A2 bs.length c2)) = R2 := ⟨_, rfl⟩
  have HR2 := Lib.hid hR2
  rw [hR2] at hi2 h12 h20 h21 hs2 ⊢
  clear hR2
  have E3 := Lib.hid (D3.out.below hb1 D3.out.lt)
  have F3 := Lib.hid (E3.out.setRow R2)
  have F6 := Lib.hid ((D6.out.below hb1 D6.out.lt).setRow_other (g' := w.heap.size) (by omega) R2)
  have F7 := Lib.hid ((D7.out.below hb1 D7.out.lt).setRow_other (g' := w.heap.size) (by omega) R2)
  have HB2 := Lib.hid (below_setRow HB1.out (Nat.le_refl _) R2)
  have HW2 := Lib.hid (own_setRow HW1.out (show w.heap.size < W.heap.size by omega) R2)
  have cT := fun w => none_any R2 id h20 w
  rw [hbad] at cT
  clear hb1 hown
  go_upto_region 3 with (first
    | (refine wpList_store_row rfl 37 _ _ rfl w.heap.size R2 rfl rfl 37 _ E3.out hi2 hs2 h12 ?_)
    | (refine wpList_whole rfl 37 _ rfl w.heap.size rfl F3.out _ Tryz.underlying37 rfl hi2 ?_)
    | (go_at_call 32; refine (cT _).mono ?_; rintro e w3 ⟨rfl, hb3⟩; have G3 := Lib.hid (F3.out.below hb3 F3.out.lt); have G6 := Lib.hid (F6.out.below hb3 F6.out.lt); have G7 := Lib.hid (F7.out.below hb3 F7.out.lt); have HB3 := Lib.hid (onward HB2.out (Nat.le_refl _) hb3); have HW3 := Lib.hid (ownsRow_below HW2.out hb3); have hz3 := Nat.le_trans hsz (Nat.le_trans (show w1.heap.size ≤ (w1.setRow w.heap.size R2).heap.size from (below_setRow (Below.refl 0 w1) (Nat.zero_le _) R2).size) hb3.size); clear hb3))
  clear HB HB1 HB2 HW1 HW2 D3 D6 D7 E3 F3 F6 F7 cT hs2
  have z2 : (Tryz.zeroCells37).size = R2.size := by rw [← HR2.out, row_size]; kernel_rfl
  refine wp_region_list ?_
  refine wpList_whole (by rfl) 37 _ rfl w.heap.size rfl G3.out _ Tryz.underlying37 rfl hi2 ?_
  try simp only [Act.put, List.setIfInBounds_toArray, List.set_cons_zero, List.set_cons_succ]
  refine wpList_plain rfl (fun K hK => ?_)
  go_simp
  refine hK _ _ ?_
  clear hK K
  try simp only [Act.put, List.setIfInBounds_toArray, List.set_cons_zero, List.set_cons_succ]
  refine wpList_store_row (by rfl) 37 _ _ rfl (w.heap.size + 1) R2 rfl rfl 37 _ G6.out hi2 z2 h12 ?_
  have A6 := Lib.hid (G6.out.setRow R2)
  have A7 := Lib.hid (G7.out.setRow_other (g' := w.heap.size + 1) (by omega) R2)
  have HB8 := Lib.hid (below_setRow HB3.out (show w.heap.size ≤ w.heap.size + 1 by omega) R2)
  have HW8 := Lib.hid (own_setRow HW3.out (show w.heap.size + 1 < W.heap.size by omega) R2)
  clear G6 G7 G3 HB3 HW3
  generalize (w3.setRow (w.heap.size + 1) R2) = W8 at *
  try simp only [Act.put, List.setIfInBounds_toArray, List.set_cons_zero, List.set_cons_succ]
  refine wpList_store_row (by rfl) 41 _ _ rfl (w.heap.size + 1 + 1) (Ms.msgC 0 0 0 none 0 0) rfl rfl 41 _ A7.out (by kernel_rfl) rfl (by simp [Ms.msgC, Value.oneCell']) ?_
  have A6 := Lib.hid (A6.out.setRow_other (g' := w.heap.size + 1 + 1) (by omega) (Ms.msgC 0 0 0 none 0 0))
  have A7 := Lib.hid (A7.out.setRow (Ms.msgC 0 0 0 none 0 0))
  have HB8 := Lib.hid (below_setRow HB8.out (show w.heap.size ≤ w.heap.size + 1 + 1 by omega) (Ms.msgC 0 0 0 none 0 0))
  have HW8 := Lib.hid (own_setRow HW8.out (show w.heap.size + 1 + 1 < W.heap.size by omega) (Ms.msgC 0 0 0 none 0 0))
  generalize (W8.setRow (w.heap.size + 1 + 1) (Ms.msgC 0 0 0 none 0 0)) = W9 at *
  try simp only [Act.put, List.setIfInBounds_toArray, List.set_cons_zero, List.set_cons_succ]
  go_wp2_with fail
  have hi4 : (Tryz.prog.info? 41).map (·.size) = some (Ms.msgC 0 0 0 none 0 0).size := by kernel_rfl
  refine ret_rows2 rfl rfl rfl A6.out ⟨by rw [Tryz.underlying37], hi2⟩ A7.out ⟨by rw [Tryz.underlying41], hi4⟩ rfl ⟨A2, c2, none, 0, by rw [HR2.out]; rfl, Rd.of_own HW8.out, Rd.nil _ _ _ _, HB8.out, fun a h => Nat.le_trans (by omega) (own_lo HW8.out a h), (fun a h => by cases h), own_cap HW8.out⟩
end Go.Proofs.YtjfllpmiajkenaaGreat.Nd
namespace Go.Proofs.YtjfllpmiajkenaaGreat.Dc
open Go.RowKit Go.Proofs.YtjfllpmiajkenaaGreat.Mem Go.Proofs.YtjfllpmiajkenaaGreat.Rws Go.Proofs.YtjfllpmiajkenaaGreat.Flat Go.Proofs.YtjfllpmiajkenaaGreat.Nd
set_option linter.unusedVariables false
def MsgAsB (F : FuncId) (f : Nat → Value) (ms : List Ms.Msg) (bs : List Bool) (g : Nat → Value) (bo : List Bool) (k i fr : Int) (zs : List Int) : Prop :=
  ∀ (A : Option Addr) (c : Nat) (AI : Option Addr) (ci : Nat) (B : Nat) (w : World), B ≤ w.heap.size → (A = none → c = 0) → bs.length ≤ c → bs.length ≤ 140737488351232 → Rd w B 1 A bs.length (boolsV bs) → ms.length ≤ 140737488355328 → Ms.MsgsAt w B AI ms →
    Calls Tryz.prog F #[.agg (row 74 (nodeW f (.slice A bs.length c))), .slice AI ms.length ci] w fun e w' => NodeMsg w w' g bo k i fr zs e
def wfB : Value → Bool
  | .int .i64 z => (Lit.int .i64 z).wf
  | _ => true
theorem wf_begun : ∀ i z, i < 73 → nodeK 2 1 0 0 0 3 i = .int .i64 z → Wf z := fun i z hi h => by
  have hall : (List.range 73).all (fun i => wfB (nodeK 2 1 0 0 0 3 i)) = true := by kernel_rfl
  have h1 := List.all_eq_true.1 hall i (List.mem_range.2 hi)
  rw [h] at h1
  exact h1
theorem decides (f : Nat → Value) (hf : ∀ i, i < 73 → okT (nodeT i) (f i)) (hw : ∀ i z, i < 73 → f i = .int .i64 z → Wf z) (ms : List Ms.Msg) (hmw : ∀ m ∈ ms, ∀ z ∈ m.zs, Wf z) :
    ∃ g k i fr zs, (∀ i, i < 73 → okT (nodeT i) (g i)) ∧ zs.length ≤ 140737488355328 ∧ ∀ bs : List Bool, ∃ bo : List Bool, (bs.length ≤ 140737488351232 → bo.length ≤ 140737488351232) ∧ MsgAsB 6 f ms bs g bo k i fr zs ∧ MsgAsB 9 f ms bs g bo k i fr zs := by
  obtain ⟨id, hid⟩ := hf 0 (by omega)
  obtain ⟨fr, hfr⟩ := hf 1 (by omega)
  cases hb : badId id with
  | true =>
    exact ⟨f, 0, 0, 0, [], hf, by simp, fun bs => ⟨bs, fun h => h, fun A c AI ci B w h1 h2 h3 h4 h5 h6 h7 => decide_bad f hf id hb hid A c bs AI ci ms B w h1 h2 h3 h4 h5 h6 h7,
      fun A c AI ci B w h1 h2 h3 h4 h5 h6 h7 => refdecide_bad f hf id hb hid A c bs AI ci ms B w h1 h2 h3 h4 h5 h6 h7⟩⟩
  | false =>
    obtain ⟨k, hk, hid⟩ := good_id hid hb
    exact ⟨decF k (agreedZ k fr ms f) f, 3, k, fr, _, ok_decF hf k hk _, by simp, fun bs => ⟨bs, fun h => h, fun A c AI ci B w h1 h2 h3 h4 h5 h6 h7 => decide_any f hf k hk hid fr hfr A c bs AI ci ms B w h1 h2 h3 h4 h5 h6 h7 hw hmw,
      fun A c AI ci B w h1 h2 h3 h4 h5 h6 h7 => refdecide_any f hf k hk hid fr hfr A c bs AI ci ms B w h1 h2 h3 h4 h5 h6 h7 hw hmw⟩⟩
theorem decide_begun : ∃ g k fr zs bo, (∀ i, i < 73 → okT (nodeT i) (g i)) ∧ MsgAsB 6 (nodeK 2 1 0 0 0 3) [] [] g bo k 2 fr zs :=
  ⟨_, 3, 0, _, _, ok_decF (ok_node 2 1 0 0 0) 2 (by omega) (agreedZ 2 0 [] (nodeK 2 1 0 0 0 3)), fun A c AI ci B w h1 h2 h3 h4 h5 h6 h7 => decide_any (nodeK 2 1 0 0 0 3) (ok_node 2 1 0 0 0) 2 (by omega) rfl 0 rfl A c [] AI ci [] B w h1 h2 h3 h4 h5 h6 h7 wf_begun (fun m h => by cases h)⟩
end Go.Proofs.YtjfllpmiajkenaaGreat.Dc
namespace Go.Proofs.YtjfllpmiajkenaaGreat.Op
open Go.ChangeShapes Go.WideShapes Go.ChangeAt Go.RowKit Go.Proofs.YtjfllpmiajkenaaGreat.Mem Go.Proofs.YtjfllpmiajkenaaGreat.Rws Go.Proofs.YtjfllpmiajkenaaGreat.Nd
set_option linter.unusedVariables false
set_option linter.unusedSimpArgs false
section
variable {H : Type} {enc : TypeId × Value → H} {P : Program} {w : World} {base : Nat} {spare : Nat → Bool} {held : Bool}
theorem Cells.get : ∀ {ts : List TypeId} {vs : List Value}, Cells enc P w base spare held ts vs → ∀ (i : Nat) (t : TypeId), ts[i]? = some t → ∃ v, vs[i]? = some v ∧ Leaf enc P w base spare held t v
  | [], _, _, i, t, h => by simp at h
  | _ :: _, [], h, _, _, _ => h.elim
  | t0 :: ts, v :: vs, h, 0, t, e => by
    simp at e; subst e; exact ⟨v, rfl, h.1⟩
  | t0 :: ts, v :: vs, h, i + 1, t, e => by
    simp at e
    obtain ⟨u, hu, hl⟩ := Cells.get h.2 i t e
    exact ⟨u, by simpa using hu, hl⟩
theorem bools_of {t : TypeId} (ht : P.underlying t = some .bool) : ∀ {xs : List Value}, (∀ x ∈ xs, Leaf enc P w base spare held t x) → ∃ bs : List Bool, xs = boolsV bs
  | [], _ => ⟨[], rfl⟩
  | x :: xs, h => by
    obtain ⟨zs, rfl⟩ := bools_of ht (fun y hy => h y (List.mem_cons_of_mem _ hy))
    obtain ⟨m, rfl⟩ := Leaf.bool ht (h x List.mem_cons_self)
    exact ⟨m :: zs, rfl⟩
theorem Leaf.bools {t e : TypeId} {v : Value} (ht : P.underlying t = some (.slice e)) (he : P.underlying e = some .bool) (hce : P.cellsOf e = 1) (hsp : ∀ b, spare b = true)
    (h : Leaf enc P w base spare held t v) : ∃ (A : Option Addr) (c : Nat) (bs : List Bool), v = .slice A bs.length c ∧ bs.length ≤ c ∧ c ≤ maxLen ∧ c * P.bytesOf e ≤ reachBytes ∧ (A = none → c = 0) ∧ Rd w w.heap.size 1 A bs.length (boolsV bs) := by
  obtain ⟨A, n, c, xs, rfl, h1, h2, h3, h4, h5, h6⟩ := Leaf.slice (le := [e]) ht (by simp [leaves, he]) hce (by simp) hsp h
  obtain ⟨zs, rfl⟩ := bools_of he (one_cells (by simpa using h5.1) h6)
  have hn : n = zs.length := by have := h5.1; simp [boolsV] at this; omega
  subst hn
  exact ⟨A, c, zs, rfl, h1, h2, h3, h4, h5⟩
end
def leafKind (P : Program) (t : TypeId) : Option Bool := match P.underlying t with
  | some (.int .i64) => some true
  | some .bool => some false
  | _ => none
set_option maxRecDepth 100000 in
theorem kinds_node : (leaves Tryz.prog 20 37).map (fun ls => (ls.length, (List.range 73).map (fun i => (ls[i]?).bind (leafKind Tryz.prog)), ls[73]?)) = some (74, (List.range 73).map (fun i => some (nodeT i)), some 33) := by kernel_rfl
set_option maxRecDepth 100000 in
theorem openNode2 {H : Type} {enc : TypeId × Value → H} {W : World} {base : Nat} {v : Value} {d : DataW H} {ps : List MemPlace} (hv : Value.okWide Tryz.prog W .any base 37 v)
    (h : DataW.Trod enc Tryz.prog W 0 (fun _ => true) true 37 v d ps) (hl : Op.Light Tryz.prog 37 d) :
    ∃ (f : Nat → Value) (A : Option Addr) (c : Nat) (bs : List Bool), v = .agg (row 74 (nodeW f (.slice A bs.length c))) ∧ (∀ i, i < 73 → okT (nodeT i) (f i)) ∧ bs.length ≤ c ∧ c ≤ 140737488351232 ∧ (A = none → c = 0) ∧ Rd W W.heap.size 1 A bs.length (boolsV bs) ∧ ∀ i z, i < 73 → f i = .int .i64 z → (Lit.int .i64 z).wf = true := by
  obtain ⟨cs, rfl⟩ := Op.okWide_agg (t := 37) (by rw [Tryz.underlying37]) hv
  have hk := kinds_node
  obtain ⟨ls, hls, hk⟩ := Option.map_eq_some_iff.1 hk
  simp only [Prod.mk.injEq] at hk
  obtain ⟨hlen, hkind, hlast⟩ := hk
  have k := Op.flat_arg hls h hl
  have kl := Cells.length k
  have hsz : cs.size = 74 := by
    have : (Value.agg cs).cells.toList.length = cs.size := by simp [Value.cells]
    omega
  obtain ⟨x, hx, lx⟩ := Cells.get k 73 _ hlast
  obtain ⟨A, c, bs, rfl, h1, h2, h3, h4, h5⟩ := lx.bools Tryz.underlying33 Tryz.underlying4 (by kernel_rfl) (fun _ => rfl)
  rw [show Tryz.prog.bytesOf 4 = 1 from by kernel_rfl] at h3
  have hcell : ∀ (i : Nat) (v : Value), (Value.agg cs).cells.toList[i]? = some v ↔ cs[i]? = some v := fun i v => by simp [Value.cells]
  refine ⟨fun i => cs.getD i undef, A, c, bs, ?_, ?_, h1, by unfold reachBytes at h3; omega, h4, h5, ?_⟩
  · refine congrArg Value.agg (Array.ext_getElem? fun i => ?_)
    by_cases hi : i < 74
    · rw [row_at hi]
      unfold nodeW
      by_cases h73 : i = 73
      · subst h73; rw [if_pos rfl]; exact (hcell _ _).1 hx
      · rw [if_neg h73]; simp [Array.getD, hsz, hi]
    · rw [Array.getElem?_eq_none (by omega), Array.getElem?_eq_none (by rw [row_size]; omega)]
  · intro i hi
    have hki := congrArg (·[i]?) hkind
    simp [hi] at hki
    obtain ⟨t, ht, hkt⟩ := Option.bind_eq_some_iff.1 hki
    obtain ⟨u, hu, lu⟩ := Cells.get k i t ht
    have hcu : cs.getD i undef = u := by have := (hcell _ _).1 hu; simp [Array.getD_eq_getD_getElem?, this]
    show okT (nodeT i) (cs.getD i undef)
    rw [hcu]
    unfold leafKind at hkt
    split at hkt
    · next e => simp at hkt; rw [hkt]; obtain ⟨m, rfl, _⟩ := lu.int e; exact ⟨m, rfl⟩
    · next e => simp at hkt; rw [hkt]; obtain ⟨m, rfl⟩ := lu.bool e; exact ⟨m, rfl⟩
    · cases hkt
  · intro i z hi hz
    have hki := congrArg (·[i]?) hkind
    simp [hi] at hki
    obtain ⟨t, ht, hkt⟩ := Option.bind_eq_some_iff.1 hki
    obtain ⟨u, hu, lu⟩ := Cells.get k i t ht
    have hcu : cs.getD i undef = u := by have := (hcell _ _).1 hu; simp [Array.getD_eq_getD_getElem?, this]
    have hz : cs.getD i undef = .int .i64 z := hz
    rw [hcu] at hz
    unfold leafKind at hkt
    split at hkt
    · next e => obtain ⟨m, rfl, hw⟩ := lu.int e; injection hz with _ hz; subst hz; exact hw
    · next e => obtain ⟨m, rfl⟩ := lu.bool e; cases hz
    · cases hkt
end Go.Proofs.YtjfllpmiajkenaaGreat.Op
namespace Go.Proofs.YtjfllpmiajkenaaGreat.lawNodeDecides
open Go.ChangeShapes Go.WideShapes Go.ChangeAt Go.RowKit Go.Proofs.YtjfllpmiajkenaaGreat.Mem Go.Proofs.YtjfllpmiajkenaaGreat.Rws Go.Proofs.YtjfllpmiajkenaaGreat.Nd Go.Proofs.YtjfllpmiajkenaaGreat.Dc
set_option linter.unusedVariables false
set_option linter.unusedSimpArgs false
set_option maxRecDepth 100000 in
set_option maxHeartbeats 4000000 in
theorem walk (f : Nat → Value) (hf : ∀ i, i < 73 → okT (nodeT i) (f i)) (A : Option Addr) (c : Nat) (bs : List Bool) (AI : Option Addr) (ci : Nat) (ms : List Ms.Msg) (w : World) (hA : A = none → c = 0) (hnc : bs.length ≤ c) (hl : bs.length ≤ 140737488351232) (hr : Rd w w.heap.size 1 A bs.length (boolsV bs)) (hw : ∀ i z, i < 73 → f i = .int .i64 z → Wf z) (hmw : ∀ m ∈ ms, ∀ z ∈ m.zs, Wf z) (hml : ms.length * 48 ≤ 140737488351232) (hm : Ms.MsgsAt w w.heap.size AI ms) :
    Calls Tryz.prog 3 #[.agg (row 74 (nodeW f (.slice A bs.length c))), .slice AI ms.length ci] w fun e w' => e = .returned (.bool true) ∧ Below w.heap.size w w' := by
  obtain ⟨g, k, i, fr', zs, hg, hz, hjs⟩ := decides f hf hw ms hmw
  obtain ⟨bo, hbo, cS, cR⟩ := hjs bs
  obtain ⟨g0, k0, fr0, zs0, b7, hg0, cT0⟩ := decide_begun
  have cB := fun w' => begun_any w'
  have cT := fun w' => cT0 none 0 none 0 w'.heap.size w' (Nat.le_refl _) (fun _ => rfl) (Nat.zero_le _) (by simp) (Rd.nil _ _ _ _) (by simp) (Ms.MsgsAt.nil _ _ _)
  simp only [List.length_nil] at cT
  rw [← last_node 2 1 0 0 0] at cT
  have HF := Lib.hid hf
  generalize row 74 (nodeK 2 1 0 0 0 3) = R0 at cB cT
  have CB := Lib.hid cB
  have CT := Lib.hid cT
  have HG := Lib.hid hg
  have HG0 := Lib.hid hg0
  have HR := Lib.hid hr
  have HM := Lib.hid hm
  have CS := Lib.hid cS
  have CR := Lib.hid cR
  clear cB cT cT0 hf hg hg0 hr hm cS cR
  have i1 : (Tryz.prog.info? 37).map (·.size) = some (row 74 (nodeW f (.slice A bs.length c))).size := by rw [row_size]; kernel_rfl
  obtain ⟨R1, hR1⟩ : ∃ R1, row 74 (nodeW f (.slice A bs.length c)) = R1 := ⟨_, rfl⟩
  rw [hR1] at i1 ⊢
  have HR1 := Lib.hid hR1
  clear hR1
  go_enter Tryz.func3, Tryz.ntmps3
  have B1 : Hid (Blk (w.alloc (.cells R1 37)) w.heap.size 37 R1) := Lib.hid (Blk.fresh _ _ _)
  have HB := Lib.hid ((Below.refl w.heap.size w).alloc (Nat.le_refl _) (.cells R1 37))
  go_wp2_with (refine wpList_whole rfl 37 _ rfl w.heap.size rfl B1.out _ Tryz.underlying37 rfl i1 ?_)
  rw [← HR1.out]
  refine (copyNode_any f HF.out A c bs w.heap.size _ (by simp) hA hnc hl (HR.out.below (by rw [HR1.out]; exact HB.out))).mono ?_
  rintro e w1 ⟨A2, c2, rfl, hown, hb⟩
  rw [HR1.out] at hb ⊢
  obtain ⟨ha2, hc2⟩ := own_cap hown
  have H2 := Lib.hid (Rd.of_own hown)
  have B1 := Lib.hid (B1.out.below hb B1.out.lt)
  have HB := Lib.hid (onward HB.out (Nat.le_refl _) hb)
  clear hb hown
  obtain ⟨R2, hR2⟩ : ∃ R2, row 74 (nodeW f (.slice A2 bs.length c2)) = R2 := ⟨_, rfl⟩
  rw [hR2]
  have HR2 := Lib.hid hR2
  clear hR2
  go_wp2_with fail
  refine (Ms.messages_any AI ci ms w.heap.size _ HB.out.size hml (HM.out.below HB.out)).mono ?_
  rintro e w2 ⟨AM, cm, rfl, hom, hb⟩
  have HM2 := Lib.hid hom.at.1
  have B1 := Lib.hid (B1.out.below hb B1.out.lt)
  have H2 := Lib.hid ((H2.out.below hb).more hb.size)
  have HB := Lib.hid (onward HB.out (Nat.le_refl _) hb)
  clear hb hom
  go_wp2_with fail
  rw [← HR2.out]
  refine (CS.out A2 c2 AM cm w2.heap.size _ (Nat.le_refl _) ha2 hc2 hl H2.out (by omega) HM2.out).mono ?_
  rintro e w3 ⟨A3, c3, A4, c4, rfl, h3, h4, hb, l3, l4, ha3, hc3⟩
  rw [HR2.out]
  have H3 := Lib.hid h3
  have H4 := Lib.hid h4
  have B1 := Lib.hid (B1.out.below hb B1.out.lt)
  have HB := Lib.hid (onward HB.out (Nat.le_refl _) hb)
  clear hb h3 h4 l3 l4 H2 HM2 ha2 hc2
  have i3 : (Tryz.prog.info? 37).map (·.size) = some (row 74 (nodeW g (.slice A3 bo.length c3))).size := by rw [row_size]; kernel_rfl
  have z3 : (Tryz.zeroCells37).size = (row 74 (nodeW g (.slice A3 bo.length c3))).size := by rw [row_size]; kernel_rfl
  have o3 := one_of HG.out (A := A3) (n := bo.length) (c := c3)
  obtain ⟨R3, hR3⟩ : ∃ R3, row 74 (nodeW g (.slice A3 bo.length c3)) = R3 := ⟨_, rfl⟩
  rw [hR3] at i3 z3 o3 ⊢
  have HR3 := Lib.hid hR3
  clear hR3
  have F1 : Hid (Blk ((w3.alloc (.cells Tryz.zeroCells37 37)).alloc (.cells #[.int .i64 0, .int .i64 0, .int .i64 0, .slice none 0 0] 41)) w3.heap.size 37 Tryz.zeroCells37) := Lib.hid ((Blk.fresh _ _ _).alloc _)
  have F2 : Hid (Blk (((w3.alloc (.cells Tryz.zeroCells37 37)).alloc (.cells #[.int .i64 0, .int .i64 0, .int .i64 0, .slice none 0 0] 41)).setRow w3.heap.size R3) (w3.heap.size + 1) 41 #[.int .i64 0, .int .i64 0, .int .i64 0, .slice none 0 0]) := Lib.hid ((Blk.new (by simp)).setRow_other (by omega) R3)
  obtain ⟨bel3, bn3, bm3, bs3⟩ := two_cells w3 37 41 Tryz.zeroCells37 #[.int .i64 0, .int .i64 0, .int .i64 0, .slice none 0 0] R3 (Ms.msgC k i fr' A4 zs.length c4)
  have BEL := Lib.hid bel3
  have BN3 := Lib.hid bn3
  have BM3 := Lib.hid bm3
  clear bel3 bn3 bm3
  go_upto_region 2 with (first | (refine wpList_store_row rfl 37 _ _ rfl w3.heap.size R3 rfl rfl 37 _ F1.out i3 z3 o3 ?_) | (refine wpList_store_row rfl 41 _ _ rfl (w3.heap.size + 1) (Ms.msgC k i fr' A4 zs.length c4) rfl rfl 41 _ F2.out (by kernel_rfl) rfl (by simp [Ms.msgC, Value.oneCell']) ?_))
  clear F1 F2
  generalize ((((w3.alloc (.cells Tryz.zeroCells37 37)).alloc (.cells #[.int .i64 0, .int .i64 0, .int .i64 0, .slice none 0 0] 41)).setRow w3.heap.size R3).setRow (w3.heap.size + 1) (Ms.msgC k i fr' A4 zs.length c4)) = w3v at *
  obtain ⟨p3, hp3⟩ : ∃ p, w3.heap.size = p := ⟨_, rfl⟩
  rw [hp3] at BN3 BM3 bs3 ⊢
  have HB := Lib.hid (onward HB.out (Nat.le_refl _) BEL.out)
  have B1 := Lib.hid (B1.out.below BEL.out B1.out.lt)
  have H3 := Lib.hid ((H3.out.below BEL.out).more BEL.out.size)
  have H4 := Lib.hid ((H4.out.below BEL.out).more BEL.out.size)
  clear BEL
  go_wp2_with (refine wpList_whole rfl 37 _ rfl w.heap.size rfl B1.out _ Tryz.underlying37 rfl i1 ?_)
  rw [← HR1.out]
  refine (CR.out A c AI ci w.heap.size _ HB.out.size hA hnc hl (HR.out.below HB.out) (by omega) (HM.out.below HB.out)).mono ?_
  rintro e w4 ⟨A5, c5, A6, c6, rfl, h5, h6, hb, l5, l6, ha5, hc5⟩
  rw [HR1.out]
  have H5 := Lib.hid h5
  have H6 := Lib.hid h6
  have HB := Lib.hid (onward HB.out (Nat.le_refl _) hb)
  have BN3 := Lib.hid (BN3.out.below hb BN3.out.lt)
  have BM3 := Lib.hid (BM3.out.below hb BM3.out.lt)
  have H3 := Lib.hid ((H3.out.below hb).more hb.size)
  have H4 := Lib.hid ((H4.out.below hb).more hb.size)
  clear h5 h6 hb l5 l6 B1
  have i5 : (Tryz.prog.info? 37).map (·.size) = some (row 74 (nodeW g (.slice A5 bo.length c5))).size := by rw [row_size]; kernel_rfl
  have z5 : (Tryz.zeroCells37).size = (row 74 (nodeW g (.slice A5 bo.length c5))).size := by rw [row_size]; kernel_rfl
  have o5 := one_of HG.out (A := A5) (n := bo.length) (c := c5)
  obtain ⟨R5, hR5⟩ : ∃ R5, row 74 (nodeW g (.slice A5 bo.length c5)) = R5 := ⟨_, rfl⟩
  rw [hR5] at i5 z5 o5 ⊢
  have HR5 := Lib.hid hR5
  clear hR5
  have F1 : Hid (Blk ((w4.alloc (.cells Tryz.zeroCells37 37)).alloc (.cells #[.int .i64 0, .int .i64 0, .int .i64 0, .slice none 0 0] 41)) w4.heap.size 37 Tryz.zeroCells37) := Lib.hid ((Blk.fresh _ _ _).alloc _)
  have F2 : Hid (Blk (((w4.alloc (.cells Tryz.zeroCells37 37)).alloc (.cells #[.int .i64 0, .int .i64 0, .int .i64 0, .slice none 0 0] 41)).setRow w4.heap.size R5) (w4.heap.size + 1) 41 #[.int .i64 0, .int .i64 0, .int .i64 0, .slice none 0 0]) := Lib.hid ((Blk.new (by simp)).setRow_other (by omega) R5)
  obtain ⟨bel5, bn5, bm5, bs5⟩ := two_cells w4 37 41 Tryz.zeroCells37 #[.int .i64 0, .int .i64 0, .int .i64 0, .slice none 0 0] R5 (Ms.msgC k i fr' A6 zs.length c6)
  have BEL := Lib.hid bel5
  have BN5 := Lib.hid bn5
  have BM5 := Lib.hid bm5
  clear bel5 bn5 bm5
  go_upto_region 3 with (first | (refine wpList_store_row rfl 37 _ _ rfl w4.heap.size R5 rfl rfl 37 _ F1.out i5 z5 o5 ?_) | (refine wpList_store_row rfl 41 _ _ rfl (w4.heap.size + 1) (Ms.msgC k i fr' A6 zs.length c6) rfl rfl 41 _ F2.out (by kernel_rfl) rfl (by simp [Ms.msgC, Value.oneCell']) ?_))
  clear F1 F2
  generalize ((((w4.alloc (.cells Tryz.zeroCells37 37)).alloc (.cells #[.int .i64 0, .int .i64 0, .int .i64 0, .slice none 0 0] 41)).setRow w4.heap.size R5).setRow (w4.heap.size + 1) (Ms.msgC k i fr' A6 zs.length c6)) = w4v at *
  obtain ⟨p5, hp5⟩ : ∃ p, w4.heap.size = p := ⟨_, rfl⟩
  rw [hp5] at BN5 BM5 bs5 ⊢
  have HB := Lib.hid (onward HB.out (Nat.le_refl _) BEL.out)
  have BN3 := Lib.hid (BN3.out.below BEL.out BN3.out.lt)
  have BM3 := Lib.hid (BM3.out.below BEL.out BM3.out.lt)
  have H3 := Lib.hid ((H3.out.below BEL.out).more BEL.out.size)
  have H4 := Lib.hid ((H4.out.below BEL.out).more BEL.out.size)
  have H5 := Lib.hid ((H5.out.below BEL.out).more BEL.out.size)
  have H6 := Lib.hid ((H6.out.below BEL.out).more BEL.out.size)
  clear BEL
  go_wp2_with fail
  refine (CB.out _).mono ?_
  rintro e w5 ⟨rfl, hb⟩
  have HB := Lib.hid (onward HB.out (Nat.le_refl _) hb)
  have BN3 := Lib.hid (BN3.out.below hb BN3.out.lt)
  have BM3 := Lib.hid (BM3.out.below hb BM3.out.lt)
  have BN5 := Lib.hid (BN5.out.below hb BN5.out.lt)
  have BM5 := Lib.hid (BM5.out.below hb BM5.out.lt)
  have H3 := Lib.hid ((H3.out.below hb).more hb.size)
  have H4 := Lib.hid ((H4.out.below hb).more hb.size)
  have H5 := Lib.hid ((H5.out.below hb).more hb.size)
  have H6 := Lib.hid ((H6.out.below hb).more hb.size)
  clear hb
  go_wp2_with fail
  refine (CT.out _).mono ?_
  rintro e w6 ⟨A7, c7, A8, c8, rfl, h7, h8, hb, l7, l8, ha7, hc7⟩
  have HB := Lib.hid (onward HB.out (Nat.le_refl _) hb)
  have BN3 := Lib.hid (BN3.out.below hb BN3.out.lt)
  have BM3 := Lib.hid (BM3.out.below hb BM3.out.lt)
  have BN5 := Lib.hid (BN5.out.below hb BN5.out.lt)
  have BM5 := Lib.hid (BM5.out.below hb BM5.out.lt)
  have H3 := Lib.hid ((H3.out.below hb).more hb.size)
  have H4 := Lib.hid ((H4.out.below hb).more hb.size)
  have H5 := Lib.hid ((H5.out.below hb).more hb.size)
  have H6 := Lib.hid ((H6.out.below hb).more hb.size)
  clear h7 h8 hb l7 l8
  have i7 : (Tryz.prog.info? 37).map (·.size) = some (row 74 (nodeW g0 (.slice A7 b7.length c7))).size := by rw [row_size]; kernel_rfl
  have z7 : (Tryz.zeroCells37).size = (row 74 (nodeW g0 (.slice A7 b7.length c7))).size := by rw [row_size]; kernel_rfl
  have o7 := one_of HG0.out (A := A7) (n := b7.length) (c := c7)
  obtain ⟨R7, hR7⟩ : ∃ R7, row 74 (nodeW g0 (.slice A7 b7.length c7)) = R7 := ⟨_, rfl⟩
  rw [hR7] at i7 z7 o7 ⊢
  have HR7 := Lib.hid hR7
  clear hR7
  have F1 : Hid (Blk ((w6.alloc (.cells Tryz.zeroCells37 37)).alloc (.cells #[.int .i64 0, .int .i64 0, .int .i64 0, .slice none 0 0] 41)) w6.heap.size 37 Tryz.zeroCells37) := Lib.hid ((Blk.fresh _ _ _).alloc _)
  have F2 : Hid (Blk (((w6.alloc (.cells Tryz.zeroCells37 37)).alloc (.cells #[.int .i64 0, .int .i64 0, .int .i64 0, .slice none 0 0] 41)).setRow w6.heap.size R7) (w6.heap.size + 1) 41 #[.int .i64 0, .int .i64 0, .int .i64 0, .slice none 0 0]) := Lib.hid ((Blk.new (by simp)).setRow_other (by omega) R7)
  obtain ⟨bel7, bn7, bm7, bs7⟩ := two_cells w6 37 41 Tryz.zeroCells37 #[.int .i64 0, .int .i64 0, .int .i64 0, .slice none 0 0] R7 (Ms.msgC k0 2 fr0 A8 zs0.length c8)
  have BEL := Lib.hid bel7
  have BN7 := Lib.hid bn7
  have BM7 := Lib.hid bm7
  clear bel7 bn7 bm7
  go_upto_region 4 with (first | (refine wpList_store_row rfl 37 _ _ rfl w6.heap.size R7 rfl rfl 37 _ F1.out i7 z7 o7 ?_) | (refine wpList_store_row rfl 41 _ _ rfl (w6.heap.size + 1) (Ms.msgC k0 2 fr0 A8 zs0.length c8) rfl rfl 41 _ F2.out (by kernel_rfl) rfl (by simp [Ms.msgC, Value.oneCell']) ?_))
  clear F1 F2
  generalize ((((w6.alloc (.cells Tryz.zeroCells37 37)).alloc (.cells #[.int .i64 0, .int .i64 0, .int .i64 0, .slice none 0 0] 41)).setRow w6.heap.size R7).setRow (w6.heap.size + 1) (Ms.msgC k0 2 fr0 A8 zs0.length c8)) = w6v at *
  obtain ⟨p7, hp7⟩ : ∃ p, w6.heap.size = p := ⟨_, rfl⟩
  rw [hp7] at BN7 BM7 bs7 ⊢
  have HB := Lib.hid (onward HB.out (Nat.le_refl _) BEL.out)
  have BN3 := Lib.hid (BN3.out.below BEL.out BN3.out.lt)
  have BM3 := Lib.hid (BM3.out.below BEL.out BM3.out.lt)
  have BN5 := Lib.hid (BN5.out.below BEL.out BN5.out.lt)
  have BM5 := Lib.hid (BM5.out.below BEL.out BM5.out.lt)
  have H3 := Lib.hid ((H3.out.below BEL.out).more BEL.out.size)
  have H4 := Lib.hid ((H4.out.below BEL.out).more BEL.out.size)
  have H5 := Lib.hid ((H5.out.below BEL.out).more BEL.out.size)
  have H6 := Lib.hid ((H6.out.below BEL.out).more BEL.out.size)
  clear BEL
  refine wp_region_list ?_
  refine wpList_whole (by rfl) 37 _ rfl p3 rfl BN3.out _ Tryz.underlying37 rfl i3 ?_
  try simp only [Act.put, List.setIfInBounds_toArray, List.set_cons_zero, List.set_cons_succ]
  refine wpList_whole (by rfl) 37 _ rfl p5 rfl BN5.out _ Tryz.underlying37 rfl i5 ?_
  try simp only [Act.put, List.setIfInBounds_toArray, List.set_cons_zero, List.set_cons_succ]
  refine wpList_wanted (by rfl) (fun K hK => ?_)
  go_simp
  go_at_call 11
  rw [← HR3.out, ← HR5.out]
  refine (sameNode_any g HG.out A3 A5 c3 c5 bo w6v.heap.size w6v (Nat.le_refl _) (by have := hbo hl; omega) H3.out H5.out).mono ?_
  rintro e w7 ⟨rfl, hb⟩
  rw [HR3.out, HR5.out]
  have HB := Lib.hid (onward HB.out (Nat.le_refl _) hb)
  have BM3 := Lib.hid (BM3.out.below hb BM3.out.lt)
  have BM5 := Lib.hid (BM5.out.below hb BM5.out.lt)
  have BM7 := Lib.hid (BM7.out.below hb BM7.out.lt)
  have H4 := Lib.hid ((H4.out.below hb).more hb.size)
  have H6 := Lib.hid ((H6.out.below hb).more hb.size)
  clear hb BN3 BN5 H3 H5
  refine hK _ _ ?_
  clear hK K
  try simp only [Act.put, List.setIfInBounds_toArray, List.set_cons_zero, List.set_cons_succ]
  refine wpList_wanted (by rfl) (fun K hK => ?_)
  go_simp
  refine hK _ _ ?_
  clear hK K
  try simp only [Act.put, List.setIfInBounds_toArray, List.set_cons_zero, List.set_cons_succ]
  refine wpList_whole (by rfl) 41 _ rfl (p3 + 1) rfl BM3.out _ Tryz.underlying41 rfl (by kernel_rfl) ?_
  try simp only [Act.put, List.setIfInBounds_toArray, List.set_cons_zero, List.set_cons_succ]
  refine wpList_whole (by rfl) 41 _ rfl (p5 + 1) rfl BM5.out _ Tryz.underlying41 rfl (by kernel_rfl) ?_
  try simp only [Act.put, List.setIfInBounds_toArray, List.set_cons_zero, List.set_cons_succ]
  refine wpList_wanted (by rfl) (fun K hK => ?_)
  go_simp
  go_at_call 12
  refine (sameMessage_any k i fr' A4 A6 c4 c6 zs w7.heap.size w7 (Nat.le_refl _) hz H4.out H6.out).mono ?_
  rintro e w8 ⟨rfl, hb⟩
  have HB := Lib.hid (onward HB.out (Nat.le_refl _) hb)
  have BM7 := Lib.hid (BM7.out.below hb BM7.out.lt)
  clear hb H4 H6 BM3 BM5
  have y1 := BM7.out.cell 1
  simp only [Ms.msgC, List.getElem?_toArray, List.getElem?_cons_zero, List.getElem?_cons_succ] at y1
  go_wp2_with fail
  go_ret
  exact ⟨rfl, HB.out⟩
set_option maxRecDepth 100000 in
set_option maxHeartbeats 1000000 in
theorem lifted (os : Os) (started : os.Started) (H : Type) (enc : TypeId × Value → H) :
    ReturnsInHanded {} Tryz.checked os 3 .any (Rows.nodeDecidesSpec.pre6 enc Tryz.prog Tryz.f3 Rows.nodeDecidesRow.domain false) (Rows.nodeDecidesSpec.post enc Tryz.prog Tryz.f3 false true false false) := by
  refine returnsInHanded_of_change_sized (C := Tryz.checked) Fr.own started (by kernel_rfl) Tryz.func3
    (ChangeSpec.witness6 (enc := enc) (C := Tryz.checked) false ⟨#[], #[.agg Tryz.zeroCells37, .slice none 0 0], []⟩ 8 (by kernel_rfl) (by kernel_rfl) (by kernel_rfl) (by kernel_rfl)) ?_
  intro W base args ds gs before hval0 hW _ hsz0 _
  have hval : ∀ (j : Nat) t v, Tryz.f3.params[j]? = some t → args[j]? = some v → Value.okWide Tryz.prog W .any base t v := hval0
  have hsz : (DataW.weightsEach Tryz.prog (Tryz.f3.params.toList ++ Rows.nodeDecidesSpec.plain.varTypes Tryz.prog) (ds ++ gs)).all (· ≤ reachBytes) = true := hsz0
  clear hval0 hsz0
  obtain ⟨p, q, hA0, hV0, _⟩ := id hW
  have hA : DataW.TrodAll enc Tryz.prog W 0 (fun _ => true) true Tryz.f3.params.toList args.toList ds p := hA0
  rw [Tryz.params3] at hA hval hsz
  obtain ⟨v0, vs0, d0, ds0, p0, q0, hargs, rfl, rfl, h0, r0⟩ := trodAll_cons hA
  obtain ⟨v1, vs1, d1, ds1, p1, q1, rfl, rfl, rfl, h1, r1⟩ := trodAll_cons r0
  obtain ⟨rfl, rfl, rfl⟩ := trodAll_nil r1
  obtain rfl : args = #[v0, v1] := by cases args; simp_all
  obtain ⟨rfl, rfl⟩ := trodVars_none hV0
  refine Fr.of_walk (f := Tryz.f3) Fr.laidOut (by rw [Tryz.params3]; intro t ht; simp at ht; (first | (rcases ht with rfl | rfl | rfl | rfl | rfl | rfl) | (rcases ht with rfl | rfl | rfl | rfl | rfl) | (rcases ht with rfl | rfl | rfl | rfl) | (rcases ht with rfl | rfl | rfl) | (rcases ht with rfl | rfl) | (subst ht)) <;> exact ⟨by kernel_rfl, of_decide_eq_true (by kernel_rfl)⟩) rfl rfl Tryz.underlying4 (fun _ => rfl) hW ?_
  clear hW hA hA0 hV0
  obtain ⟨f, A, c, bs, rfl, hf, hnc, hc, hA, hr, hw⟩ := Op.openNode2 (hval 0 37 v0 rfl rfl) h0 (Op.light_of_each (j := 0) hsz rfl rfl)
  obtain ⟨AI, ci, ms, rfl, hmc, hmb, _, hm, hmw⟩ := Ms.openMsgs2 (hval 1 38 v1 rfl rfl) h1 (Op.light_of_each (j := 1) hsz rfl rfl)
  exact walk f hf A c bs AI ci ms W hA hnc (by omega) hr hw hmw (by omega) hm
set_option maxHeartbeats 2000000 in
theorem closedFacts : joinedFacts Tryz.prog 3 Tryz.f3 Rows.nodeDecidesSpec Rows.nodeDecidesRow = true := by
  unfold joinedFacts
  simp only [Bool.and_eq_true]
  refine ⟨⟨⟨⟨⟨⟨⟨⟨⟨⟨⟨⟨⟨⟨⟨⟨⟨⟨⟨⟨⟨⟨⟨⟨⟨⟨⟨⟨⟨⟨⟨?_, ?_⟩, ?_⟩, ?_⟩, ?_⟩, ?_⟩, ?_⟩, ?_⟩, ?_⟩, ?_⟩, ?_⟩, ?_⟩, ?_⟩, ?_⟩, ?_⟩, ?_⟩, ?_⟩, ?_⟩, ?_⟩, ?_⟩, ?_⟩, ?_⟩, ?_⟩, ?_⟩, ?_⟩, ?_⟩, ?_⟩, ?_⟩, ?_⟩, ?_⟩, ?_⟩, ?_⟩
  · as_aux_lemma => kernel_rfl
  · exact Fr.laidOut
  · exact Facts.mapsRowed_
  · as_aux_lemma => kernel_rfl
  · as_aux_lemma => kernel_rfl
  · as_aux_lemma => kernel_rfl
  · exact Facts.stops_
  · as_aux_lemma => kernel_rfl
  · exact Facts.knobs_
  · as_aux_lemma => kernel_rfl
  · as_aux_lemma => kernel_rfl
  · as_aux_lemma => kernel_rfl
  · as_aux_lemma => kernel_rfl
  · as_aux_lemma => kernel_rfl
  · as_aux_lemma => kernel_rfl
  · as_aux_lemma => kernel_rfl
  · as_aux_lemma => kernel_rfl
  · as_aux_lemma => kernel_rfl
  · as_aux_lemma => kernel_rfl
  · as_aux_lemma => kernel_rfl
  · as_aux_lemma => kernel_rfl
  · as_aux_lemma => kernel_rfl
  · exact Facts.keys_
  · as_aux_lemma => kernel_rfl
  · exact Facts.heard_
  · exact Facts.enter_
  · exact Facts.lifts_
  · exact Facts.make_
  · as_aux_lemma => kernel_rfl
  · as_aux_lemma => kernel_rfl
  · as_aux_lemma => kernel_rfl
  · as_aux_lemma => kernel_rfl
theorem proved : Rows.NodeDecidesSaid :=
  OpenClaim.holds_of_wide 3 Tryz.f3 rfl rfl rfl rfl rfl rfl rfl ⟨rfl, rfl, rfl, rfl, rfl⟩ rfl rfl rfl rfl rfl (by kernel_rfl) Tryz.func3 closedFacts
    (of_decide_eq_true (by kernel_rfl)) (by unfold Func.isWrapper; first | (rw [if_pos (by decide +kernel)]; kernel_rfl) | (rw [if_neg (by decide +kernel)]; exact ⟨rfl, rfl⟩))
    (fun os started H enc _ => lifted os started H enc)
end Go.Proofs.YtjfllpmiajkenaaGreat.lawNodeDecides
