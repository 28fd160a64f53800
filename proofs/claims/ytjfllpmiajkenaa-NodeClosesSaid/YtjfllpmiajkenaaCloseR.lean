/- Contracts: the reference's Close, at a strange computer and at a good one. -/
import Derived.Test.YtjfllpmiajkenaaUnpackR
import Derived.Test.YtjfllpmiajkenaaSameZ
import Derived.Test.YtjfllpmiajkenaaReportF
import Derived.Test.YtjfllpmiajkenaaFirst
import Derived.Test.YtjfllpmiajkenaaSenseB
import Derived.Test.YtjfllpmiajkenaaHear
namespace Go.Proofs.Ytjfllpmiajkenaa.Nd
open Go.RowKit Go.Proofs.Ytjfllpmiajkenaa.Mem Go.Proofs.Ytjfllpmiajkenaa.Rws Go.Proofs.Ytjfllpmiajkenaa.Flat
set_option linter.unusedVariables false
set_option linter.unusedSimpArgs false
/-- what first answers, as one word -/
theorem first_val {w : World} {B : Nat} {o : Option Ms.Msg} {e : Ending} (h : Ms.FirstAs w B o e) : ∃ v, e = .returned (.tuple #[v, .bool o.isSome]) ∧ ∀ m, o = some m → ∃ a c, v = .slice a m.zs.length c ∧ m.zs.length ≤ c ∧ Rd w B 1 a m.zs.length (Ms.intsV m.zs) := by
  cases o with
  | none => exact ⟨_, h, fun m h => by cases h⟩
  | some m => obtain ⟨a, c, e, h1, h2, h3⟩ := h; exact ⟨_, e, fun m' h => by cases h; exact ⟨a, c, rfl, h2, h3⟩⟩

set_option maxRecDepth 100000 in
set_option maxHeartbeats 2000000 in
theorem refclose_bad (f : Nat → Value) (hf : ∀ i, i < 73 → okT (nodeT i) (f i)) (id : Int) (hbad : badId id = true) (hid : f 0 = .int .i64 id) (A : Option Addr) (c : Nat) (bs : List Bool) (AI : Option Addr) (ci : Nat) (ms : List Ms.Msg) (B : Nat) (w : World) (hB : B ≤ w.heap.size) (hA : A = none → c = 0) (hnc : bs.length ≤ c) (hl : bs.length ≤ 140737488351232) (hr : Rd w B 1 A bs.length (boolsV bs)) (hml : ms.length ≤ 140737488355328) (hm : Ms.MsgsAt w B AI ms) :
    Calls Try.prog 21 #[.agg (row 74 (nodeW f (.slice A bs.length c))), .slice AI ms.length ci] w fun e w' => NodeRep w w' f bs rep0 e := by
  obtain ⟨ifr, hfr⟩ := hf 1 (by omega)
  have hone : ∀ (A : Option Addr) (n c : Nat), (row 74 (nodeW f (.slice A n c))).all (·.oneCell') = true := fun A n c => one_of hf
  have HO := Lib.hid hone
  have HF := Lib.hid hf
  have HID := Lib.hid hid
  have HFR := Lib.hid hfr
  clear hf hone hid hfr
  go_enter Try.func21, Try.ntmps21
  go_upto_region 1 with fail
  have D3 : Hid (Blk (((w.alloc (.cells (row 74 (nodeW f (.slice A bs.length c))) 37)).alloc (.cells Try.zeroCells37 37)).alloc (.cells #[.int .i64 0, .int .i64 0, .int .i64 0, .int .i64 0, .int .i64 0, .int .i64 0, .int .i64 0, .int .i64 0, .int .i64 0, .bool false, .bool false, .bool false, .bool false, .bool false] 51)) w.heap.size 37 (row 74 (nodeW f (.slice A bs.length c)))) := Lib.hid (((Blk.new rfl).alloc _).alloc _)
  have D6 : Hid (Blk (((w.alloc (.cells (row 74 (nodeW f (.slice A bs.length c))) 37)).alloc (.cells Try.zeroCells37 37)).alloc (.cells #[.int .i64 0, .int .i64 0, .int .i64 0, .int .i64 0, .int .i64 0, .int .i64 0, .int .i64 0, .int .i64 0, .int .i64 0, .bool false, .bool false, .bool false, .bool false, .bool false] 51)) (w.heap.size + 1) 37 Try.zeroCells37) := Lib.hid ((Blk.new (by simp)).alloc _)
  have D7 : Hid (Blk (((w.alloc (.cells (row 74 (nodeW f (.slice A bs.length c))) 37)).alloc (.cells Try.zeroCells37 37)).alloc (.cells #[.int .i64 0, .int .i64 0, .int .i64 0, .int .i64 0, .int .i64 0, .int .i64 0, .int .i64 0, .int .i64 0, .int .i64 0, .bool false, .bool false, .bool false, .bool false, .bool false] 51)) (w.heap.size + 1 + 1) 51 #[.int .i64 0, .int .i64 0, .int .i64 0, .int .i64 0, .int .i64 0, .int .i64 0, .int .i64 0, .int .i64 0, .int .i64 0, .bool false, .bool false, .bool false, .bool false, .bool false]) := Lib.hid (Blk.new (by simp))
  have HB := Lib.hid (((((Below.refl w.heap.size w).alloc (Nat.le_refl _) (.cells (row 74 (nodeW f (.slice A bs.length c))) 37)).alloc (by simp) (.cells Try.zeroCells37 37)).alloc (by simp; omega) (.cells #[.int .i64 0, .int .i64 0, .int .i64 0, .int .i64 0, .int .i64 0, .int .i64 0, .int .i64 0, .int .i64 0, .int .i64 0, .bool false, .bool false, .bool false, .bool false, .bool false] 51)))
  have HR := Lib.hid hr
  have HMS := Lib.hid hm
  clear hr hm
  generalize (((w.alloc (.cells (row 74 (nodeW f (.slice A bs.length c))) 37)).alloc (.cells Try.zeroCells37 37)).alloc (.cells #[.int .i64 0, .int .i64 0, .int .i64 0, .int .i64 0, .int .i64 0, .int .i64 0, .int .i64 0, .int .i64 0, .int .i64 0, .bool false, .bool false, .bool false, .bool false, .bool false] 51)) = W at *
  have hi74 : ∀ A (n : Nat) c, (Try.prog.info? 37).map (·.size) = some (row 74 (nodeW f (.slice A n c))).size := fun A n c => by rw [row_size]; kernel_rfl
  have HI := Lib.hid hi74
  clear hi74
  have hwz : w.heap.size + 1 + 1 < W.heap.size := D7.out.lt
  have hia := HI.out A bs.length c
  obtain ⟨R1, hR1⟩ : ∃ R1, row 74 (nodeW f (.slice A bs.length c)) = R1 := ⟨_, rfl⟩
  have HR1 := Lib.hid hR1
  rw [hR1] at D3 hia
  clear hR1
  go_wp2_with (refine wpList_whole rfl 37 _ rfl w.heap.size rfl D3.out _ Try.underlying37 rfl hia ?_)
  rw [← HR1.out]
  refine (copyNode_any f HF.out A c bs B _ (Nat.le_trans hB HB.out.size) hA hnc hl (HR.out.below (HB.out.mono hB))).mono ?_
  rintro e w1 ⟨A2, c2, rfl, hown, hb1⟩
  rw [HR1.out]
  have HW1 := Lib.hid hown
  have HB1 := Lib.hid (onward HB.out (Nat.le_refl _) hb1)
  have hsz := hb1.size
  have hi2 := HI.out A2 bs.length c2
  have h12 := HO.out A2 bs.length c2
  have h20 : (row 74 (nodeW f (.slice A2 bs.length c2)))[0]? = some (.int .i64 id) := by rw [row_at (by omega)]; exact congrArg some HID.out
  have h21 : (row 74 (nodeW f (.slice A2 bs.length c2)))[1]? = some (.int .i64 ifr) := by rw [row_at (by omega)]; exact congrArg some HFR.out
  have hs2 : R1.size = (row 74 (nodeW f (.slice A2 bs.length c2))).size := by rw [← HR1.out, row_size, row_size]
  obtain ⟨R2, hR2⟩ : ∃ R2, row 74 (nodeW f (.slice A2 bs.length c2)) = R2 := ⟨_, rfl⟩
  have HR2 := Lib.hid hR2
  rw [hR2] at hi2 h12 h20 h21 hs2 ⊢
  clear hR2
  have E3 := Lib.hid (D3.out.below hb1 D3.out.lt)
  have F3 := Lib.hid (E3.out.setRow R2)
  have F6 := Lib.hid ((D6.out.below hb1 D6.out.lt).setRow_other (g' := w.heap.size) (by omega) R2)
  have F7 := Lib.hid ((D7.out.below hb1 D7.out.lt).setRow_other (g' := w.heap.size) (by omega) R2)
  have HB2 := Lib.hid (below_setRow HB1.out (Nat.le_refl _) R2)
  have HW2 := Lib.hid (own_setRow HW1.out (show w.heap.size < W.heap.size by omega) R2)
  have cT := fun w => none_any R2 id h20 w
  rw [hbad] at cT
  clear hb1 hown
  go_upto_region 3 with (first
    | (refine wpList_store_row rfl 37 _ _ rfl w.heap.size R2 rfl rfl 37 _ E3.out hi2 hs2 h12 ?_)
    | (refine wpList_whole rfl 37 _ rfl w.heap.size rfl F3.out _ Try.underlying37 rfl hi2 ?_)
    | (go_at_call 50; refine (cT _).mono ?_; rintro e w3 ⟨rfl, hb3⟩; have G3 := Lib.hid (F3.out.below hb3 F3.out.lt); have G6 := Lib.hid (F6.out.below hb3 F6.out.lt); have G7 := Lib.hid (F7.out.below hb3 F7.out.lt); have HB3 := Lib.hid (onward HB2.out (Nat.le_refl _) hb3); have HW3 := Lib.hid (ownsRow_below HW2.out hb3); have hz3 := Nat.le_trans hsz (Nat.le_trans (show w1.heap.size ≤ (w1.setRow w.heap.size R2).heap.size from (below_setRow (Below.refl 0 w1) (Nat.zero_le _) R2).size) hb3.size); clear hb3))
  clear HB HB1 HB2 HW1 HW2 D3 D6 D7 E3 F3 F6 F7 cT hs2
  have z2 : (Try.zeroCells37).size = R2.size := by rw [← HR2.out, row_size]; kernel_rfl
  refine wp_region_list ?_
  refine wpList_whole (by rfl) 37 _ rfl w.heap.size rfl G3.out _ Try.underlying37 rfl hi2 ?_
  try simp only [Act.put, List.setIfInBounds_toArray, List.set_cons_zero, List.set_cons_succ]
  refine wpList_plain rfl (fun K hK => ?_)
  go_simp
  refine hK _ _ ?_
  clear hK K
  try simp only [Act.put, List.setIfInBounds_toArray, List.set_cons_zero, List.set_cons_succ]
  refine wpList_store_row (by rfl) 37 _ _ rfl (w.heap.size + 1) R2 rfl rfl 37 _ G6.out hi2 z2 h12 ?_
  have A6 := Lib.hid (G6.out.setRow R2)
  have A7 := Lib.hid (G7.out.setRow_other (g' := w.heap.size + 1) (by omega) R2)
  have HB8 := Lib.hid (below_setRow HB3.out (show w.heap.size ≤ w.heap.size + 1 by omega) R2)
  have HW8 := Lib.hid (own_setRow HW3.out (show w.heap.size + 1 < W.heap.size by omega) R2)
  clear G6 G7 G3 HB3 HW3
  generalize (w3.setRow (w.heap.size + 1) R2) = W8 at *
  try simp only [Act.put, List.setIfInBounds_toArray, List.set_cons_zero, List.set_cons_succ]
  refine wpList_store_row (by rfl) 51 _ _ rfl (w.heap.size + 1 + 1) rep0 rfl rfl 51 _ A7.out (by kernel_rfl) rfl (by simp [rep0, Value.oneCell']) ?_
  have A6 := Lib.hid (A6.out.setRow_other (g' := w.heap.size + 1 + 1) (by omega) rep0)
  have A7 := Lib.hid (A7.out.setRow rep0)
  have HB8 := Lib.hid (below_setRow HB8.out (show w.heap.size ≤ w.heap.size + 1 + 1 by omega) rep0)
  have HW8 := Lib.hid (own_setRow HW8.out (show w.heap.size + 1 + 1 < W.heap.size by omega) rep0)
  generalize (W8.setRow (w.heap.size + 1 + 1) rep0) = W9 at *
  try simp only [Act.put, List.setIfInBounds_toArray, List.set_cons_zero, List.set_cons_succ]
  go_wp2_with fail
  have hi4 : (Try.prog.info? 51).map (·.size) = some rep0.size := by kernel_rfl
  refine ret_rows2 rfl rfl rfl A6.out ⟨by rw [Try.underlying37], hi2⟩ A7.out ⟨by rw [Try.underlying51], hi4⟩ rfl ⟨A2, c2, by rw [HR2.out], Rd.of_own HW8.out, HB8.out, fun a h => Nat.le_trans (by omega) (own_lo HW8.out a h), own_cap HW8.out⟩

set_option maxRecDepth 100000 in
set_option maxHeartbeats 4000000 in
theorem refclose_any (f : Nat → Value) (hf : ∀ i, i < 73 → okT (nodeT i) (f i)) (k : Nat) (hk : k < 4) (hid : f 0 = .int .i64 (k : Int)) (fr : Int) (hfr : f 1 = .int .i64 fr) (A : Option Addr) (c : Nat) (bs : List Bool) (AI : Option Addr) (ci : Nat) (ms : List Ms.Msg) (B : Nat) (w : World) (hB : B ≤ w.heap.size) (hA : A = none → c = 0) (hnc : bs.length ≤ c) (hl : bs.length ≤ 140737488351232) (hr : Rd w B 1 A bs.length (boolsV bs)) (hml : ms.length ≤ 140737488355328) (hm : Ms.MsgsAt w B AI ms) :
    Calls Try.prog 21 #[.agg (row 74 (nodeW f (.slice A bs.length c))), .slice AI ms.length ci] w fun e w' => NodeRep w w' (closeF (fun i : Nat => Ms.firstOf (k : Int) fr 5 24 (i : Int) ms) f) bs (row 14 (repF (closeF (fun i : Nat => Ms.firstOf (k : Int) fr 5 24 (i : Int) ms) f))) e := by
  have hone : ∀ (A : Option Addr) (n c : Nat), (row 74 (nodeW f (.slice A n c))).all (·.oneCell') = true := fun A n c => one_of hf
  have HO := Lib.hid hone
  have HF := Lib.hid hf
  have HID := Lib.hid hid
  have HFR := Lib.hid hfr
  clear hf hone hid hfr
  go_enter Try.func21, Try.ntmps21
  go_upto_region 1 with fail
  have D3 : Hid (Blk (((w.alloc (.cells (row 74 (nodeW f (.slice A bs.length c))) 37)).alloc (.cells Try.zeroCells37 37)).alloc (.cells #[.int .i64 0, .int .i64 0, .int .i64 0, .int .i64 0, .int .i64 0, .int .i64 0, .int .i64 0, .int .i64 0, .int .i64 0, .bool false, .bool false, .bool false, .bool false, .bool false] 51)) w.heap.size 37 (row 74 (nodeW f (.slice A bs.length c)))) := Lib.hid (((Blk.new rfl).alloc _).alloc _)
  have D6 : Hid (Blk (((w.alloc (.cells (row 74 (nodeW f (.slice A bs.length c))) 37)).alloc (.cells Try.zeroCells37 37)).alloc (.cells #[.int .i64 0, .int .i64 0, .int .i64 0, .int .i64 0, .int .i64 0, .int .i64 0, .int .i64 0, .int .i64 0, .int .i64 0, .bool false, .bool false, .bool false, .bool false, .bool false] 51)) (w.heap.size + 1) 37 Try.zeroCells37) := Lib.hid ((Blk.new (by simp)).alloc _)
  have D7 : Hid (Blk (((w.alloc (.cells (row 74 (nodeW f (.slice A bs.length c))) 37)).alloc (.cells Try.zeroCells37 37)).alloc (.cells #[.int .i64 0, .int .i64 0, .int .i64 0, .int .i64 0, .int .i64 0, .int .i64 0, .int .i64 0, .int .i64 0, .int .i64 0, .bool false, .bool false, .bool false, .bool false, .bool false] 51)) (w.heap.size + 1 + 1) 51 #[.int .i64 0, .int .i64 0, .int .i64 0, .int .i64 0, .int .i64 0, .int .i64 0, .int .i64 0, .int .i64 0, .int .i64 0, .bool false, .bool false, .bool false, .bool false, .bool false]) := Lib.hid (Blk.new (by simp))
  have HB := Lib.hid (((((Below.refl w.heap.size w).alloc (Nat.le_refl _) (.cells (row 74 (nodeW f (.slice A bs.length c))) 37)).alloc (by simp) (.cells Try.zeroCells37 37)).alloc (by simp; omega) (.cells #[.int .i64 0, .int .i64 0, .int .i64 0, .int .i64 0, .int .i64 0, .int .i64 0, .int .i64 0, .int .i64 0, .int .i64 0, .bool false, .bool false, .bool false, .bool false, .bool false] 51)))
  have HR := Lib.hid hr
  have HMS := Lib.hid hm
  clear hr hm
  generalize (((w.alloc (.cells (row 74 (nodeW f (.slice A bs.length c))) 37)).alloc (.cells Try.zeroCells37 37)).alloc (.cells #[.int .i64 0, .int .i64 0, .int .i64 0, .int .i64 0, .int .i64 0, .int .i64 0, .int .i64 0, .int .i64 0, .int .i64 0, .bool false, .bool false, .bool false, .bool false, .bool false] 51)) = W at *
  have hi74 : ∀ A (n : Nat) c, (Try.prog.info? 37).map (·.size) = some (row 74 (nodeW f (.slice A n c))).size := fun A n c => by rw [row_size]; kernel_rfl
  have HI := Lib.hid hi74
  clear hi74
  have hwz : w.heap.size + 1 + 1 < W.heap.size := D7.out.lt
  have hia := HI.out A bs.length c
  obtain ⟨R1, hR1⟩ : ∃ R1, row 74 (nodeW f (.slice A bs.length c)) = R1 := ⟨_, rfl⟩
  have HR1 := Lib.hid hR1
  rw [hR1] at D3 hia
  clear hR1
  go_wp2_with (refine wpList_whole rfl 37 _ rfl w.heap.size rfl D3.out _ Try.underlying37 rfl hia ?_)
  rw [← HR1.out]
  refine (copyNode_any f HF.out A c bs B _ (Nat.le_trans hB HB.out.size) hA hnc hl (HR.out.below (HB.out.mono hB))).mono ?_
  rintro e w1 ⟨A2, c2, rfl, hown, hb1⟩
  rw [HR1.out]
  have HW1 := Lib.hid hown
  have HB1 := Lib.hid (onward HB.out (Nat.le_refl _) hb1)
  have hsz := hb1.size
  have hi2 := HI.out A2 bs.length c2
  have h12 := HO.out A2 bs.length c2
  have h20 : (row 74 (nodeW f (.slice A2 bs.length c2)))[0]? = some (.int .i64 (k : Int)) := by rw [row_at (by omega)]; exact congrArg some HID.out
  have h21 : (row 74 (nodeW f (.slice A2 bs.length c2)))[1]? = some (.int .i64 fr) := by rw [row_at (by omega)]; exact congrArg some HFR.out
  have hs2 : R1.size = (row 74 (nodeW f (.slice A2 bs.length c2))).size := by rw [← HR1.out, row_size, row_size]
  obtain ⟨R2, hR2⟩ : ∃ R2, row 74 (nodeW f (.slice A2 bs.length c2)) = R2 := ⟨_, rfl⟩
  have HR2 := Lib.hid hR2
  rw [hR2] at hi2 h12 h20 h21 hs2 ⊢
  clear hR2
  have E3 := Lib.hid (D3.out.below hb1 D3.out.lt)
  have F3 := Lib.hid (E3.out.setRow R2)
  have F6 := Lib.hid ((D6.out.below hb1 D6.out.lt).setRow_other (g' := w.heap.size) (by omega) R2)
  have F7 := Lib.hid ((D7.out.below hb1 D7.out.lt).setRow_other (g' := w.heap.size) (by omega) R2)
  have HB2 := Lib.hid (below_setRow HB1.out (Nat.le_refl _) R2)
  have HW2 := Lib.hid (own_setRow HW1.out (show w.heap.size < W.heap.size by omega) R2)
  have cT := fun w => none_any R2 (k : Int) h20 w
  have hk0 : ¬ ((k : Int) < 0) := by omega
  have hbk : badId (k : Int) = false := by unfold badId; simp; omega
  rw [hbk] at cT
  clear hb1 hown hbk
  go_upto_region 4 with (first
    | (refine wpList_store_row rfl 37 _ _ rfl w.heap.size R2 rfl rfl 37 _ E3.out hi2 hs2 h12 ?_)
    | (refine wpList_whole rfl 37 _ rfl w.heap.size rfl F3.out _ Try.underlying37 rfl hi2 ?_)
    | (go_at_call 50; refine (cT _).mono ?_; rintro e w3 ⟨rfl, hb3⟩; have G3 := Lib.hid (F3.out.below hb3 F3.out.lt); have G6 := Lib.hid (F6.out.below hb3 F6.out.lt); have G7 := Lib.hid (F7.out.below hb3 F7.out.lt); have HB3 := Lib.hid (onward HB2.out (Nat.le_refl _) hb3); have HW3 := Lib.hid (ownsRow_below HW2.out hb3); have hz3 := Nat.le_trans hsz (Nat.le_trans (show w1.heap.size ≤ (w1.setRow w.heap.size R2).heap.size from (below_setRow (Below.refl 0 w1) (Nat.zero_le _) R2).size) hb3.size); clear hb3))
  clear HB HB1 HB2 HW1 HW2 D3 D6 D7 E3 F3 F6 F7 cT hs2
  rw [← HR2.out] at G3
  clear h12 hi2 h20 h21 HR
  obtain ⟨st, hst⟩ := HF.out 72 (by omega)
  obtain ⟨vv, hvv⟩ := HF.out 71 (by omega)
  obtain ⟨dd, hdd⟩ := HF.out 70 (by omega)
  have HLB := Lib.hid (show lostB f = (st && (vv != dd)) by unfold lostB; rw [hst, hvv, hdd]; rfl)
  have x72 : w3.cell? ⟨w.heap.size, 72, none⟩ = some (.bool st) := by rw [G3.out.cell, row_at (by omega)]; exact congrArg some hst
  have x71 : w3.cell? ⟨w.heap.size, 71, none⟩ = some (.int .i64 vv) := by rw [G3.out.cell, row_at (by omega)]; exact congrArg some hvv
  have x70 : w3.cell? ⟨w.heap.size, 70, none⟩ = some (.int .i64 dd) := by rw [G3.out.cell, row_at (by omega)]; exact congrArg some hdd
  clear hst hvv hdd
  obtain ⟨o, ho⟩ : ∃ o, (fun i : Nat => Ms.firstOf (k : Int) fr 5 24 (i : Int) ms) = o := ⟨_, rfl⟩
  have HOO := Lib.hid ho
  have HOL := Lib.hid (fun (i : Nat) m (h : o i = some m) => show m.zs.length = 24 from fit_len (by rw [← ho] at h; exact h))
  have HOI := Lib.hid (fun (i : Nat) => show Ms.firstOf (k : Int) fr 5 24 (i : Int) ms = o i from congrFun ho i)
  clear ho
  have HC0 := Lib.hid (fun (h : lostB f = false) => show closeF o f = f from if_neg (by rw [h]; exact Bool.false_ne_true))
  have HC1 := Lib.hid (fun (h : lostB f = true) => show closeF o f = adoptF o f from if_pos h)
  cases st with
  | false =>
    have G3 := Lib.hid (show Blk w3 w.heap.size 37 (row 74 (nodeW (if false = true then f else closeF o f) (.slice A2 bs.length c2))) from by rw [if_neg Bool.false_ne_true, HC0.out (by rw [HLB.out]; rfl)]; exact G3.out)
    have HW := HW3
    have HB := HB3
    clear HW3 HB3
    go_wp2_with fail
    clear x70 x71 x72
    go_loopw [6, 7] (fun lv iv wr => ∃ (i : Nat) (lb : Bool), i ≤ 4 ∧ iv = .int .i64 (i : Int) ∧ lv = .bool lb ∧ (lb = true → lostB f = true ∧ NoPair o i (i + 1)) ∧ Blk wr w.heap.size 37 (row 74 (nodeW (if lb = true then f else closeF o f) (.slice A2 bs.length c2))) ∧ Blk wr (w.heap.size + 1) 37 Try.zeroCells37 ∧ Blk wr (w.heap.size + 1 + 1) 51 #[.int .i64 0, .int .i64 0, .int .i64 0, .int .i64 0, .int .i64 0, .int .i64 0, .int .i64 0, .int .i64 0, .int .i64 0, .bool false, .bool false, .bool false, .bool false, .bool false] ∧ wr.ownsRow W.heap.size 4 1 (.slice A2 bs.length c2) bs.length (boolsV bs) ∧ Below w.heap.size w wr) (fun _ iv _ => 4 - (intOf iv).toNat)
    case atStart => exact ⟨0, false, by omega, rfl, rfl, fun h => (by cases h), G3.out, G6.out, G7.out, HW.out, HB.out⟩
    case round =>
      clear G3 G6 G7 HW HB
      obtain ⟨i, lb, hi, rfl, rfl, hnp, g3, g6, g7, hw, hb⟩ := hrel
      have G3 := Lib.hid g3
      have G6 := Lib.hid g6
      have G7 := Lib.hid g7
      have HW := Lib.hid hw
      have HB := Lib.hid hb
      have HNP := Lib.hid hnp
      clear g3 g6 g7 hw hb hnp
      by_cases hlt : i < 4
      · have hi1 : (i : Int) < 4 := by omega
        have hi0 : (0 : Int) ≤ (i : Int) := by omega
        go_wp2_with fail
        generalize wr = wq at *
        go_loopw [6, 8] (fun lv kv wr => ∃ (j : Nat) (lb : Bool), i < j ∧ j ≤ 4 ∧ kv = .int .i64 (j : Int) ∧ lv = .bool lb ∧ (lb = true → lostB f = true ∧ NoPair o i j) ∧ Blk wr w.heap.size 37 (row 74 (nodeW (if lb = true then f else closeF o f) (.slice A2 bs.length c2))) ∧ Blk wr (w.heap.size + 1) 37 Try.zeroCells37 ∧ Blk wr (w.heap.size + 1 + 1) 51 #[.int .i64 0, .int .i64 0, .int .i64 0, .int .i64 0, .int .i64 0, .int .i64 0, .int .i64 0, .int .i64 0, .int .i64 0, .bool false, .bool false, .bool false, .bool false, .bool false] ∧ wr.ownsRow W.heap.size 4 1 (.slice A2 bs.length c2) bs.length (boolsV bs) ∧ Below w.heap.size w wr) (fun _ kv _ => 4 - (intOf kv).toNat)
        case atStart => exact ⟨i + 1, lb, by omega, by omega, by go_num, rfl, HNP.out, G3.out, G6.out, G7.out, HW.out, HB.out⟩
        case round =>
          clear G3 G6 G7 HW HB HNP
          obtain ⟨j, lb_, hij, hj, rfl, rfl, hnp, g3, g6, g7, hw, hb⟩ := hrel
          have G3 := Lib.hid g3
          have G6 := Lib.hid g6
          have G7 := Lib.hid g7
          have HW := Lib.hid hw
          have HB := Lib.hid hb
          have HNP := Lib.hid hnp
          clear g3 g6 g7 hw hb hnp
          by_cases hlj : j < 4
          · have hj1 : (j : Int) < 4 := by omega
            have hj0 : (0 : Int) ≤ (j : Int) := by omega
            obtain ⟨g, hg⟩ : ∃ g, (if lb_ = true then f else closeF o f) = g := ⟨_, rfl⟩
            have HGE := Lib.hid hg
            have hg0 : g 0 = .int .i64 (k : Int) := by rw [← hg]; split; exact HID.out; exact (close_keep o f 0 (by omega)).trans HID.out
            have hg1 : g 1 = .int .i64 fr := by rw [← hg]; split; exact HFR.out; exact (close_keep o f 1 (by omega)).trans HFR.out
            rw [hg] at G3
            clear hg
            have ig : (Try.prog.info? 37).map (·.size) = some (row 74 (nodeW g (.slice A2 bs.length c2))).size := by rw [row_size]; kernel_rfl
            have CF := Lib.hid (fun (i : Nat) v (hv : B ≤ v.heap.size) (hm : Ms.MsgsAt v B AI ms) => show Calls Try.prog 58 #[.agg (row 74 (nodeW g (.slice A2 bs.length c2))), .slice AI ms.length ci, .int .i64 (i : Int), .int .i64 5, .int .i64 24] v fun e w' => Ms.FirstAs w' B (o i) e ∧ Below v.heap.size v w' from by
              have c := Ms.first_any (row 74 (nodeW g (.slice A2 bs.length c2))) (k : Int) fr (by rw [row_at (by omega)]; exact congrArg some hg0) (by rw [row_at (by omega)]; exact congrArg some hg1) AI ci ms (i : Int) 5 24 B v hv hml hm
              rw [HOI.out i] at c
              exact c)
            clear hg0 hg1
            go_wp2_with (refine wpList_whole rfl 37 _ rfl w.heap.size rfl G3.out _ Try.underlying37 rfl ig ?_)
            refine (CF.out i _ (Nat.le_trans hB HB.out.size) (HMS.out.below (HB.out.mono hB))).mono ?_
            rintro e wa ⟨hfa, hb⟩
            obtain ⟨va, rfl, hva⟩ := first_val hfa
            have G3 := Lib.hid (G3.out.below hb G3.out.lt)
            have G6 := Lib.hid (G6.out.below hb G6.out.lt)
            have G7 := Lib.hid (G7.out.below hb G7.out.lt)
            have HW := Lib.hid (ownsRow_below HW.out hb)
            have HVa := Lib.hid hva
            have HB := Lib.hid (onward HB.out (Nat.le_refl _) hb)
            clear hb
            go_wp2_with (refine wpList_whole rfl 37 _ rfl w.heap.size rfl G3.out _ Try.underlying37 rfl ig ?_)
            refine (CF.out j _ (Nat.le_trans hB HB.out.size) (HMS.out.below (HB.out.mono hB))).mono ?_
            rintro e wb ⟨hfb, hb⟩
            obtain ⟨vb, rfl, hvb⟩ := first_val hfb
            have G3 := Lib.hid (G3.out.below hb G3.out.lt)
            have G6 := Lib.hid (G6.out.below hb G6.out.lt)
            have G7 := Lib.hid (G7.out.below hb G7.out.lt)
            have HW := Lib.hid (ownsRow_below HW.out hb)
            have HVb := Lib.hid hvb
            have HVa := Lib.hid (fun m h => by obtain ⟨a, c, h1, h2, h3⟩ := HVa.out m h; exact (⟨a, c, h1, h2, h3.below (hb.mono (Nat.le_trans hB HB.out.size))⟩ : ∃ a c, va = .slice a m.zs.length c ∧ m.zs.length ≤ c ∧ Rd wb B 1 a m.zs.length (Ms.intsV m.zs)))
            have HB := Lib.hid (onward HB.out (Nat.le_refl _) hb)
            clear hb
            cases lb_ with
            | false =>
              rw [← HGE.out] at G3
              clear CF HGE ig
              go_wp2_with fail
              exact ⟨⟨j + 1, false, by omega, by omega, by go_num, rfl, fun h => (by cases h), G3.out, G6.out, G7.out, HW.out, HB.out⟩, by simp [intOf]; omega⟩
            | true =>
              have HLO := Lib.hid (HNP.out rfl)
              have HGF := Lib.hid (show f = g from HGE.out)
              cases hoi : o i with
              | none =>
                have HPN := Lib.hid (HLO.out.2.step (pair_none1 (k := j) hoi))
                rw [← HGE.out] at G3
                clear CF HGE HGF ig
                simp only [Option.isSome_none]
                go_wp2_with fail
                exact ⟨⟨j + 1, true, by omega, by omega, by go_num, rfl, fun _ => ⟨HLO.out.1, HPN.out⟩, G3.out, G6.out, G7.out, HW.out, HB.out⟩, by simp [intOf]; omega⟩
              | some Am =>
                cases hok : o j with
                | none =>
                  have HPN := Lib.hid (HLO.out.2.step (pair_none2 (i := i) hok))
                  rw [← HGE.out] at G3
                  clear CF HGE HGF ig
                  simp only [Option.isSome_none, Option.isSome_some]
                  go_wp2_with fail
                  exact ⟨⟨j + 1, true, by omega, by omega, by go_num, rfl, fun _ => ⟨HLO.out.1, HPN.out⟩, G3.out, G6.out, G7.out, HW.out, HB.out⟩, by simp [intOf]; omega⟩
                | some Bm =>
                  have hla := HOL.out i Am hoi
                  have hlb := HOL.out j Bm hok
                  obtain ⟨aa, ca, rfl, hca, hra⟩ := HVa.out Am hoi
                  obtain ⟨ab, cb, rfl, hcb, hrb⟩ := HVb.out Bm hok
                  rw [hla] at hca hra ⊢
                  rw [hlb] at hcb hrb ⊢
                  have HRA := Lib.hid hra
                  have HRB := Lib.hid hrb
                  simp only [Option.isSome_some]
                  have CS := Lib.hid (fun v (h1 : Rd v B 1 aa 24 (Ms.intsV Am.zs)) (h2 : Rd v B 1 ab 24 (Ms.intsV Bm.zs)) => show Calls Try.prog 56 #[.slice aa 24 ca, .slice ab 24 cb] v fun e w' => e = .returned (.bool (decide (Am.zs = Bm.zs))) ∧ Below v.heap.size v w' from by
                    have c := Ms.sameInts_eq aa ab ca cb Am.zs Bm.zs (hlb.trans hla.symm) B v (by omega) (by rw [hla]; exact h1) (by rw [hla]; exact h2)
                    rw [hla] at c
                    exact c)
                  have HLA := Lib.hid hla
                  have HCA := Lib.hid hca
                  have HPY := Lib.hid (fun h : Am.zs = Bm.zs => HLO.out.2.found hij hlj (pair_some hoi hok h))
                  have HPX := Lib.hid (fun h : ¬ Am.zs = Bm.zs => HLO.out.2.step (pair_other hoi hok h))
                  have hgf := HGF.out
                  subst hgf
                  clear hoi hok hla hlb hca hcb hra hrb CF
                  go_wp2_with fail
                  refine (CS.out _ HRA.out HRB.out).mono ?_
                  rintro e wc ⟨rfl, hb⟩
                  have G3 := Lib.hid (G3.out.below hb G3.out.lt)
                  have G6 := Lib.hid (G6.out.below hb G6.out.lt)
                  have G7 := Lib.hid (G7.out.below hb G7.out.lt)
                  have HW := Lib.hid (ownsRow_below HW.out hb)
                  have HRA := Lib.hid (HRA.out.below (hb.mono (Nat.le_trans hB HB.out.size)))
                  have HB := Lib.hid (onward HB.out (Nat.le_refl _) hb)
                  clear hb CS HRB
                  by_cases hze : Am.zs = Bm.zs
                  · have HPO := Lib.hid (HPY.out hze)
                    have hdz : decide (Am.zs = Bm.zs) = true := decide_eq_true hze
                    clear HPY HPX hze
                    rw [hdz]
                    have HAF := Lib.hid (show closeF o f = takeU Am.zs f by rw [HC1.out HLO.out.1]; unfold adoptF; rw [HPO.out])
                    go_wp2_with (refine wpList_whole rfl 37 _ rfl w.heap.size rfl G3.out _ Try.underlying37 rfl ig ?_)
                    refine (unpacked_any f HF.out Am.zs HLA.out aa ca HCA.out (.slice A2 bs.length c2) rfl wc (by rw [HLA.out]; exact HRA.out.more (Nat.le_trans hB HB.out.size))).mono ?_
                    rintro e wd ⟨g2, rfl, hok2, hrow, hb⟩
                    have HOK2 := Lib.hid hok2
                    have HROW := Lib.hid hrow
                    have G3 := Lib.hid (G3.out.below hb G3.out.lt)
                    have G6 := Lib.hid (G6.out.below hb G6.out.lt)
                    have G7 := Lib.hid (G7.out.below hb G7.out.lt)
                    have HW := Lib.hid (ownsRow_below HW.out hb)
                    have HB := Lib.hid (onward HB.out (Nat.le_refl _) hb)
                    clear hb hok2 hrow
                    have iM : (Try.prog.info? 37).map (·.size) = some (row 74 (nodeW g2 (.slice A2 bs.length c2))).size := by rw [row_size]; kernel_rfl
                    have zM : (Try.zeroCells37).size = (row 74 (nodeW g2 (.slice A2 bs.length c2))).size := by rw [row_size]; kernel_rfl
                    have oM : (row 74 (nodeW g2 (.slice A2 bs.length c2))).all (·.oneCell') = true := one_of2 HOK2.out rfl
                    have zG : (row 74 (nodeW f (.slice A2 bs.length c2))).size = (row 74 (nodeW g2 (.slice A2 bs.length c2))).size := by rw [row_size, row_size]
                    obtain ⟨RM, hRM⟩ : ∃ R, row 74 (nodeW g2 (.slice A2 bs.length c2)) = R := ⟨_, rfl⟩
                    rw [hRM] at iM zM oM HROW zG ⊢
                    clear hRM
                    have HM0 := Lib.hid (Blk.fresh wd 37 Try.zeroCells37)
                    go_upto_region 16 with (refine wpList_store_row rfl 37 _ _ rfl wd.heap.size RM rfl rfl 37 _ HM0.out iM zM oM ?_)
                    have HM := Lib.hid (HM0.out.setRow RM)
                    have hb8 : Below wd.heap.size wd ((wd.alloc (.cells Try.zeroCells37 37)).setRow wd.heap.size RM) := below_setRow ((Below.refl _ _).alloc (Nat.le_refl _) _) (Nat.le_refl _) RM
                    have G3 := Lib.hid (G3.out.below hb8 G3.out.lt)
                    have hgm := G7.out.lt
                    have G6 := Lib.hid (G6.out.below hb8 G6.out.lt)
                    have G7 := Lib.hid (G7.out.below hb8 G7.out.lt)
                    have HW := Lib.hid (ownsRow_below HW.out hb8)
                    have HB := Lib.hid (onward HB.out (Nat.le_refl _) hb8)
                    clear hb8 HM0
                    generalize ((wd.alloc (.cells Try.zeroCells37 37)).setRow wd.heap.size RM) = we at *
                    obtain ⟨gm, hgmm⟩ : ∃ g, wd.heap.size = g := ⟨_, rfl⟩
                    rw [hgmm] at HM hgm ⊢
                    clear hgmm
                    cases hu : unpackOk Am.zs with
                    | false =>
                      have HCE := Lib.hid (show closeF o f = f by rw [HAF.out]; unfold takeU; rw [hu]; rfl)
                      clear hu
                      go_wp2_with fail
                      exact ⟨⟨j + 1, false, by omega, by omega, by go_num, rfl, fun h => (by cases h), by rw [if_neg Bool.false_ne_true, HCE.out]; exact G3.out, G6.out, G7.out, HW.out, HB.out⟩, by simp [intOf]; omega⟩
                    | true =>
                      have HCE := Lib.hid (show closeF o f = unpackF Am.zs f by rw [HAF.out]; unfold takeU; rw [hu]; rfl)
                      have HRW := Lib.hid (HROW.out hu)
                      clear hu
                      go_wp2_with (first | (refine wpList_whole rfl 37 _ rfl gm rfl HM.out _ Try.underlying37 rfl iM ?_) | (refine wpList_store_row rfl 37 _ _ rfl w.heap.size RM rfl rfl 37 _ G3.out iM zG oM ?_))
                      exact ⟨⟨j + 1, false, by omega, by omega, by go_num, rfl, fun h => (by cases h), by rw [if_neg Bool.false_ne_true, HCE.out, ← HRW.out]; exact G3.out.setRow RM, G6.out.setRow_other (by omega) RM, G7.out.setRow_other (by omega) RM, own_setRow HW.out (show w.heap.size < W.heap.size by omega) RM, below_setRow HB.out (Nat.le_refl _) RM⟩, by simp [intOf]; omega⟩
                  · have HPO := Lib.hid (HPX.out hze)
                    have hdz : decide (Am.zs = Bm.zs) = false := decide_eq_false hze
                    clear HPY HPX hze
                    rw [hdz]
                    go_wp2_with fail
                    exact ⟨⟨j + 1, true, by omega, by omega, by go_num, rfl, fun _ => ⟨HLO.out.1, HPO.out⟩, by rw [if_pos rfl]; exact G3.out, G6.out, G7.out, HW.out, HB.out⟩, by simp [intOf]; omega⟩
          · obtain rfl : j = 4 := by omega
            clear hlj
            go_wp2_with fail
            exact ⟨⟨i + 1, lb_, by omega, by go_num, rfl, fun h => ⟨(HNP.out h).1, (HNP.out h).2.next⟩, G3.out, G6.out, G7.out, HW.out, HB.out⟩, by simp [intOf]; omega⟩
      · obtain rfl : i = 4 := by omega
        clear hlt
        have HCL := Lib.hid (show (if lb = true then f else closeF o f) = closeF o f from by
          cases lb with
          | false => rfl
          | true => exact ((HC1.out (HNP.out rfl).1).trans (by unfold adoptF; rw [(HNP.out rfl).2.all (Nat.le_refl _)]; rfl)).symm)
        rw [HCL.out] at G3
        obtain ⟨F, hF⟩ : ∃ F, closeF o f = F := ⟨_, rfl⟩
        have HFE := Lib.hid hF
        have HOK := Lib.hid (show ∀ i, i < 73 → okT (nodeT i) (F i) from by rw [← hF]; exact ok_close HF.out o)
        rw [hF] at G3
        clear hF
        obtain ⟨a0, b0, u0, u1, u2, x0, x1, x2, dg, sg, i0, i1, i2, i3, q0, q1, q67, q68, q69, q6, q13, q20, q70, q72, q27, q28, q29, q30⟩ := rep_cells HOK.out
        have HQA := Lib.hid (fun (i : Nat) (hi : i < 73) => show (row 74 (nodeW F (.slice A2 bs.length c2)))[i]? = some (F i) from by rw [row_at (by omega)]; unfold nodeW; rw [if_neg (by omega)])
        have HU := Lib.hid (show (row 3 fun j => nodeW F (.slice A2 bs.length c2) (67 + j)) = #[.int .i64 u0, .int .i64 u1, .int .i64 u2] from by rw [← q67, ← q68, ← q69]; rfl)
        have HIn := Lib.hid (show (row 4 fun j => nodeW F (.slice A2 bs.length c2) (27 + j)) = #[.bool i0, .bool i1, .bool i2, .bool i3] from by rw [← q27, ← q28, ← q29, ← q30]; rfl)
        have HRF := Lib.hid (show row 14 (repF F) = #[.int .i64 a0, .int .i64 b0, .int .i64 u0, .int .i64 u1, .int .i64 u2, .int .i64 x0, .int .i64 x1, .int .i64 x2, .int .i64 dg, .bool sg, .bool i0, .bool i1, .bool i2, .bool i3] from by rw [repF_row, q0, q1, q67, q68, q69, q6, q13, q20, q70, q72, q27, q28, q29, q30])
        have c0 := (HQA.out 0 (by omega)).trans (congrArg some q0)
        have c1 := (HQA.out 1 (by omega)).trans (congrArg some q1)
        have c6 := (HQA.out 6 (by omega)).trans (congrArg some q6)
        have c13 := (HQA.out 13 (by omega)).trans (congrArg some q13)
        have c20 := (HQA.out 20 (by omega)).trans (congrArg some q20)
        have c70 := (HQA.out 70 (by omega)).trans (congrArg some q70)
        have c72 := (HQA.out 72 (by omega)).trans (congrArg some q72)
        clear q0 q1 q67 q68 q69 q6 q13 q20 q70 q72 q27 q28 q29 q30
        have o5 := one_of HOK.out (A := A2) (n := bs.length) (c := c2)
        have i5 : (Try.prog.info? 37).map (·.size) = some (row 74 (nodeW F (.slice A2 bs.length c2))).size := by rw [row_size]; kernel_rfl
        have z5 : (Try.zeroCells37).size = (row 74 (nodeW F (.slice A2 bs.length c2))).size := by rw [row_size]; kernel_rfl
        have iP : (Try.prog.info? 51).map (·.size) = some (#[.int .i64 a0, .int .i64 b0, .int .i64 u0, .int .i64 u1, .int .i64 u2, .int .i64 x0, .int .i64 x1, .int .i64 x2, .int .i64 dg, .bool sg, .bool i0, .bool i1, .bool i2, .bool i3] : Array Value).size := by kernel_rfl
        have oP : (#[.int .i64 a0, .int .i64 b0, .int .i64 u0, .int .i64 u1, .int .i64 u2, .int .i64 x0, .int .i64 x1, .int .i64 x2, .int .i64 dg, .bool sg, .bool i0, .bool i1, .bool i2, .bool i3] : Array Value).all (·.oneCell') = true := by simp [Value.oneCell']
        go_upto_region 18 with fail
        have G3 := Lib.hid G3.out.drew
        have G6 := Lib.hid G6.out.drew
        have G7 := Lib.hid G7.out.drew
        have HW := Lib.hid (ownsRow_below HW.out ((Below.refl wr.heap.size wr).drew))
        have HB := Lib.hid HB.out.drew
        have HS := G3.out
        refine wp_region_noPanic ?_
        refine Rg.beginR [0, 2, 4, 6, 10, 14, 18, 21, 24, 27] (fun w' => Blk w' w.heap.size 37 (row 74 (nodeW F (.slice A2 bs.length c2)))) (by kernel_rfl) ?_
        generalize wr.drew = V0 at *
        refine Rg.takeS (i := 0) (oi := { dst := some 76, op := Op.load 37 (Operand.tmp 2), type := 37, pos := "node.go:223", after := #[], guard := none }) (v := .agg (row 74 (nodeW F (.slice A2 bs.length c2)))) rfl (by kernel_rfl) (fun _ _ _ h => h) (by rfl) HS ?_ ?_
        · (intro w' hSw; exact exec_load_row 37 _ rfl _ rfl hSw Try.underlying37 rfl i5)
        try simp only [Act.put, List.setIfInBounds_toArray, List.set_cons_zero, List.set_cons_succ]
        refine Rg.takeP (i := 1) (oi := { dst := some 77, op := Op.fieldAddr 37 (Operand.tmp 2) 0, type := 0, pos := "node.go:223", after := #[{ on := 29, ground := Ground.gcOnly Departure.lateStores }], guard := none }) (v := ?_) rfl (by kernel_rfl) (fun _ _ _ h => h) (by rfl) ?_ ?_
        rotate_left 1
        · (intro w; go_simp; (try with_reducible rfl))
        try simp only [Act.put, List.setIfInBounds_toArray, List.set_cons_zero, List.set_cons_succ]
        refine Rg.takeS (i := 2) (oi := { dst := some 78, op := Op.load 3 (Operand.tmp 77), type := 3, pos := "node.go:223", after := #[{ on := 1, ground := Ground.data }, { on := 29, ground := Ground.gcOnly Departure.lateStores }], guard := none }) (v := ?_) rfl (by kernel_rfl) (fun _ _ _ h => h) (by rfl) HS ?_ ?_
        rotate_left 1
        · (intro w' hSw; have y := (hSw.cell 0).trans c0; go_simp; (try with_reducible rfl))
        try simp only [Act.put, List.setIfInBounds_toArray, List.set_cons_zero, List.set_cons_succ]
        refine Rg.takeP (i := 3) (oi := { dst := some 79, op := Op.fieldAddr 37 (Operand.tmp 2) 1, type := 0, pos := "node.go:223", after := #[{ on := 29, ground := Ground.gcOnly Departure.lateStores }], guard := none }) (v := ?_) rfl (by kernel_rfl) (fun _ _ _ h => h) (by rfl) ?_ ?_
        rotate_left 1
        · (intro w; go_simp; (try with_reducible rfl))
        try simp only [Act.put, List.setIfInBounds_toArray, List.set_cons_zero, List.set_cons_succ]
        refine Rg.takeS (i := 4) (oi := { dst := some 80, op := Op.load 3 (Operand.tmp 79), type := 3, pos := "node.go:223", after := #[{ on := 3, ground := Ground.data }, { on := 29, ground := Ground.gcOnly Departure.lateStores }], guard := none }) (v := ?_) rfl (by kernel_rfl) (fun _ _ _ h => h) (by rfl) HS ?_ ?_
        rotate_left 1
        · (intro w' hSw; have y := (hSw.cell 1).trans c1; go_simp; (try with_reducible rfl))
        try simp only [Act.put, List.setIfInBounds_toArray, List.set_cons_zero, List.set_cons_succ]
        refine Rg.takeP (i := 5) (oi := { dst := some 81, op := Op.fieldAddr 37 (Operand.tmp 2) 8, type := 0, pos := "node.go:223", after := #[{ on := 29, ground := Ground.gcOnly Departure.lateStores }], guard := none }) (v := ?_) rfl (by kernel_rfl) (fun _ _ _ h => h) (by rfl) ?_ ?_
        rotate_left 1
        · (intro w; go_simp; (try with_reducible rfl))
        try simp only [Act.put, List.setIfInBounds_toArray, List.set_cons_zero, List.set_cons_succ]
        refine Rg.takeS (i := 6) (oi := { dst := some 82, op := Op.load 31 (Operand.tmp 81), type := 31, pos := "node.go:223", after := #[{ on := 5, ground := Ground.data }, { on := 29, ground := Ground.gcOnly Departure.lateStores }], guard := none }) (v := .agg #[.int .i64 u0, .int .i64 u1, .int .i64 u2]) rfl (by kernel_rfl) (fun _ _ _ h => h) (by rfl) HS ?_ ?_
        · (intro w' hSw; rw [← HU.out]; exact exec_load_mid 31 _ rfl _ 67 3 rfl _ _ (row_range hSw 67 3 (by omega)) Try.underlying31 rfl (by kernel_rfl))
        try simp only [Act.put, List.setIfInBounds_toArray, List.set_cons_zero, List.set_cons_succ]
        refine Rg.takeP (i := 7) (oi := { dst := some 83, op := Op.fieldAddr 37 (Operand.tmp 2) 3, type := 0, pos := "node.go:223", after := #[{ on := 29, ground := Ground.gcOnly Departure.lateStores }], guard := none }) (v := ?_) rfl (by kernel_rfl) (fun _ _ _ h => h) (by rfl) ?_ ?_
        rotate_left 1
        · (intro w; go_simp; (try with_reducible rfl))
        try simp only [Act.put, List.setIfInBounds_toArray, List.set_cons_zero, List.set_cons_succ]
        refine Rg.takeP (i := 8) (oi := { dst := some 84, op := Op.indexAddr 26 (Operand.tmp 83) (Operand.const (Value.int IntKind.i64 0)), type := 0, pos := "node.go:223", after := #[{ on := 7, ground := Ground.data }, { on := 29, ground := Ground.gcOnly Departure.lateStores }], guard := none }) (v := ?_) rfl (by kernel_rfl) (fun _ _ _ h => h) (by rfl) ?_ ?_
        rotate_left 1
        · (intro w; go_simp; (try with_reducible rfl))
        try simp only [Act.put, List.setIfInBounds_toArray, List.set_cons_zero, List.set_cons_succ]
        refine Rg.takeP (i := 9) (oi := { dst := some 85, op := Op.fieldAddr 25 (Operand.tmp 84) 0, type := 0, pos := "node.go:223", after := #[{ on := 8, ground := Ground.data }, { on := 29, ground := Ground.gcOnly Departure.lateStores }], guard := none }) (v := ?_) rfl (by kernel_rfl) (fun _ _ _ h => h) (by rfl) ?_ ?_
        rotate_left 1
        · (intro w; go_simp; (try with_reducible rfl))
        try simp only [Act.put, List.setIfInBounds_toArray, List.set_cons_zero, List.set_cons_succ]
        refine Rg.takeS (i := 10) (oi := { dst := some 86, op := Op.load 3 (Operand.tmp 85), type := 3, pos := "node.go:223", after := #[{ on := 9, ground := Ground.data }, { on := 29, ground := Ground.gcOnly Departure.lateStores }], guard := none }) (v := ?_) rfl (by kernel_rfl) (fun _ _ _ h => h) (by rfl) HS ?_ ?_
        rotate_left 1
        · (intro w' hSw; have y := (hSw.cell 6).trans c6; go_simp; (try with_reducible rfl))
        try simp only [Act.put, List.setIfInBounds_toArray, List.set_cons_zero, List.set_cons_succ]
        refine Rg.takeP (i := 11) (oi := { dst := some 87, op := Op.fieldAddr 37 (Operand.tmp 2) 3, type := 0, pos := "node.go:223", after := #[{ on := 29, ground := Ground.gcOnly Departure.lateStores }], guard := none }) (v := ?_) rfl (by kernel_rfl) (fun _ _ _ h => h) (by rfl) ?_ ?_
        rotate_left 1
        · (intro w; go_simp; (try with_reducible rfl))
        try simp only [Act.put, List.setIfInBounds_toArray, List.set_cons_zero, List.set_cons_succ]
        refine Rg.takeP (i := 12) (oi := { dst := some 88, op := Op.indexAddr 26 (Operand.tmp 87) (Operand.const (Value.int IntKind.i64 1)), type := 0, pos := "node.go:223", after := #[{ on := 11, ground := Ground.data }, { on := 29, ground := Ground.gcOnly Departure.lateStores }], guard := none }) (v := ?_) rfl (by kernel_rfl) (fun _ _ _ h => h) (by rfl) ?_ ?_
        rotate_left 1
        · (intro w; go_simp; (try with_reducible rfl))
        try simp only [Act.put, List.setIfInBounds_toArray, List.set_cons_zero, List.set_cons_succ]
        refine Rg.takeP (i := 13) (oi := { dst := some 89, op := Op.fieldAddr 25 (Operand.tmp 88) 0, type := 0, pos := "node.go:223", after := #[{ on := 12, ground := Ground.data }, { on := 29, ground := Ground.gcOnly Departure.lateStores }], guard := none }) (v := ?_) rfl (by kernel_rfl) (fun _ _ _ h => h) (by rfl) ?_ ?_
        rotate_left 1
        · (intro w; go_simp; (try with_reducible rfl))
        try simp only [Act.put, List.setIfInBounds_toArray, List.set_cons_zero, List.set_cons_succ]
        refine Rg.takeS (i := 14) (oi := { dst := some 90, op := Op.load 3 (Operand.tmp 89), type := 3, pos := "node.go:223", after := #[{ on := 13, ground := Ground.data }, { on := 29, ground := Ground.gcOnly Departure.lateStores }], guard := none }) (v := ?_) rfl (by kernel_rfl) (fun _ _ _ h => h) (by rfl) HS ?_ ?_
        rotate_left 1
        · (intro w' hSw; have y := (hSw.cell 13).trans c13; go_simp; (try with_reducible rfl))
        try simp only [Act.put, List.setIfInBounds_toArray, List.set_cons_zero, List.set_cons_succ]
        refine Rg.takeP (i := 15) (oi := { dst := some 91, op := Op.fieldAddr 37 (Operand.tmp 2) 3, type := 0, pos := "node.go:223", after := #[{ on := 29, ground := Ground.gcOnly Departure.lateStores }], guard := none }) (v := ?_) rfl (by kernel_rfl) (fun _ _ _ h => h) (by rfl) ?_ ?_
        rotate_left 1
        · (intro w; go_simp; (try with_reducible rfl))
        try simp only [Act.put, List.setIfInBounds_toArray, List.set_cons_zero, List.set_cons_succ]
        refine Rg.takeP (i := 16) (oi := { dst := some 92, op := Op.indexAddr 26 (Operand.tmp 91) (Operand.const (Value.int IntKind.i64 2)), type := 0, pos := "node.go:223", after := #[{ on := 15, ground := Ground.data }, { on := 29, ground := Ground.gcOnly Departure.lateStores }], guard := none }) (v := ?_) rfl (by kernel_rfl) (fun _ _ _ h => h) (by rfl) ?_ ?_
        rotate_left 1
        · (intro w; go_simp; (try with_reducible rfl))
        try simp only [Act.put, List.setIfInBounds_toArray, List.set_cons_zero, List.set_cons_succ]
        refine Rg.takeP (i := 17) (oi := { dst := some 93, op := Op.fieldAddr 25 (Operand.tmp 92) 0, type := 0, pos := "node.go:223", after := #[{ on := 16, ground := Ground.data }, { on := 29, ground := Ground.gcOnly Departure.lateStores }], guard := none }) (v := ?_) rfl (by kernel_rfl) (fun _ _ _ h => h) (by rfl) ?_ ?_
        rotate_left 1
        · (intro w; go_simp; (try with_reducible rfl))
        try simp only [Act.put, List.setIfInBounds_toArray, List.set_cons_zero, List.set_cons_succ]
        refine Rg.takeS (i := 18) (oi := { dst := some 94, op := Op.load 3 (Operand.tmp 93), type := 3, pos := "node.go:223", after := #[{ on := 17, ground := Ground.data }, { on := 29, ground := Ground.gcOnly Departure.lateStores }], guard := none }) (v := ?_) rfl (by kernel_rfl) (fun _ _ _ h => h) (by rfl) HS ?_ ?_
        rotate_left 1
        · (intro w' hSw; have y := (hSw.cell 20).trans c20; go_simp; (try with_reducible rfl))
        try simp only [Act.put, List.setIfInBounds_toArray, List.set_cons_zero, List.set_cons_succ]
        refine Rg.takeP (i := 19) (oi := { dst := some 95, op := Op.build 31 #[(0, Operand.tmp 86), (1, Operand.tmp 90), (2, Operand.tmp 94)], type := 31, pos := "node.go:223", after := #[{ on := 10, ground := Ground.data }, { on := 14, ground := Ground.data }, { on := 18, ground := Ground.data }, { on := 29, ground := Ground.gcOnly Departure.lateStores }], guard := none }) (v := ?_) rfl (by kernel_rfl) (fun _ _ _ h => h) (by rfl) ?_ ?_
        rotate_left 1
        · (intro w; go_simp; (try with_reducible rfl))
        try simp only [Act.put, List.setIfInBounds_toArray, List.set_cons_zero, List.set_cons_succ]
        refine Rg.takeP (i := 20) (oi := { dst := some 96, op := Op.fieldAddr 37 (Operand.tmp 2) 9, type := 0, pos := "node.go:223", after := #[{ on := 29, ground := Ground.gcOnly Departure.lateStores }], guard := none }) (v := ?_) rfl (by kernel_rfl) (fun _ _ _ h => h) (by rfl) ?_ ?_
        rotate_left 1
        · (intro w; go_simp; (try with_reducible rfl))
        try simp only [Act.put, List.setIfInBounds_toArray, List.set_cons_zero, List.set_cons_succ]
        refine Rg.takeS (i := 21) (oi := { dst := some 97, op := Op.load 3 (Operand.tmp 96), type := 3, pos := "node.go:223", after := #[{ on := 20, ground := Ground.data }, { on := 29, ground := Ground.gcOnly Departure.lateStores }], guard := none }) (v := ?_) rfl (by kernel_rfl) (fun _ _ _ h => h) (by rfl) HS ?_ ?_
        rotate_left 1
        · (intro w' hSw; have y := (hSw.cell 70).trans c70; go_simp; (try with_reducible rfl))
        try simp only [Act.put, List.setIfInBounds_toArray, List.set_cons_zero, List.set_cons_succ]
        refine Rg.takeP (i := 22) (oi := { dst := some 98, op := Op.fieldAddr 37 (Operand.tmp 2) 10, type := 0, pos := "node.go:223", after := #[{ on := 29, ground := Ground.gcOnly Departure.lateStores }], guard := none }) (v := ?_) rfl (by kernel_rfl) (fun _ _ _ h => h) (by rfl) ?_ ?_
        rotate_left 1
        · (intro w; go_simp; (try with_reducible rfl))
        try simp only [Act.put, List.setIfInBounds_toArray, List.set_cons_zero, List.set_cons_succ]
        refine Rg.takeP (i := 23) (oi := { dst := some 99, op := Op.fieldAddr 35 (Operand.tmp 98) 1, type := 0, pos := "node.go:223", after := #[{ on := 22, ground := Ground.data }, { on := 29, ground := Ground.gcOnly Departure.lateStores }], guard := none }) (v := ?_) rfl (by kernel_rfl) (fun _ _ _ h => h) (by rfl) ?_ ?_
        rotate_left 1
        · (intro w; go_simp; (try with_reducible rfl))
        try simp only [Act.put, List.setIfInBounds_toArray, List.set_cons_zero, List.set_cons_succ]
        refine Rg.takeS (i := 24) (oi := { dst := some 100, op := Op.load 4 (Operand.tmp 99), type := 4, pos := "node.go:223", after := #[{ on := 23, ground := Ground.data }, { on := 29, ground := Ground.gcOnly Departure.lateStores }], guard := none }) (v := ?_) rfl (by kernel_rfl) (fun _ _ _ h => h) (by rfl) HS ?_ ?_
        rotate_left 1
        · (intro w' hSw; have y := (hSw.cell 72).trans c72; go_simp; (try with_reducible rfl))
        try simp only [Act.put, List.setIfInBounds_toArray, List.set_cons_zero, List.set_cons_succ]
        refine Rg.takeP (i := 25) (oi := { dst := some 101, op := Op.fieldAddr 37 (Operand.tmp 2) 4, type := 0, pos := "node.go:223", after := #[{ on := 29, ground := Ground.gcOnly Departure.lateStores }], guard := none }) (v := ?_) rfl (by kernel_rfl) (fun _ _ _ h => h) (by rfl) ?_ ?_
        rotate_left 1
        · (intro w; go_simp; (try with_reducible rfl))
        try simp only [Act.put, List.setIfInBounds_toArray, List.set_cons_zero, List.set_cons_succ]
        refine Rg.takeP (i := 26) (oi := { dst := some 102, op := Op.fieldAddr 30 (Operand.tmp 101) 0, type := 0, pos := "node.go:223", after := #[{ on := 25, ground := Ground.data }, { on := 29, ground := Ground.gcOnly Departure.lateStores }], guard := none }) (v := ?_) rfl (by kernel_rfl) (fun _ _ _ h => h) (by rfl) ?_ ?_
        rotate_left 1
        · (intro w; go_simp; (try with_reducible rfl))
        try simp only [Act.put, List.setIfInBounds_toArray, List.set_cons_zero, List.set_cons_succ]
        refine Rg.takeS (i := 27) (oi := { dst := some 103, op := Op.load 27 (Operand.tmp 102), type := 27, pos := "node.go:223", after := #[{ on := 26, ground := Ground.data }, { on := 29, ground := Ground.gcOnly Departure.lateStores }], guard := none }) (v := .agg #[.bool i0, .bool i1, .bool i2, .bool i3]) rfl (by kernel_rfl) (fun _ _ _ h => h) (by rfl) HS ?_ ?_
        · (intro w' hSw; rw [← HIn.out]; exact exec_load_mid 27 _ rfl _ 27 4 rfl _ _ (row_range hSw 27 4 (by omega)) Try.underlying27 rfl (by kernel_rfl))
        try simp only [Act.put, List.setIfInBounds_toArray, List.set_cons_zero, List.set_cons_succ]
        refine Rg.takeP (i := 28) (oi := { dst := some 104, op := Op.build 51 #[(0, Operand.tmp 78), (1, Operand.tmp 80), (2, Operand.tmp 82), (3, Operand.tmp 95), (4, Operand.tmp 97), (5, Operand.tmp 100), (6, Operand.tmp 103)], type := 51, pos := "node.go:223", after := #[{ on := 2, ground := Ground.data }, { on := 4, ground := Ground.data }, { on := 6, ground := Ground.data }, { on := 19, ground := Ground.data }, { on := 21, ground := Ground.data }, { on := 24, ground := Ground.data }, { on := 27, ground := Ground.data }, { on := 29, ground := Ground.gcOnly Departure.lateStores }], guard := none }) (v := ?_) rfl (by kernel_rfl) (fun _ _ _ h => h) (by rfl) ?_ ?_
        rotate_left 1
        · (intro w; go_simp; (try with_reducible rfl))
        try simp only [Act.put, List.setIfInBounds_toArray, List.set_cons_zero, List.set_cons_succ]
        refine Rg.oneR (i := 29) (oi := { dst := none, op := Op.store 37 (Operand.tmp 4) (Operand.tmp 76), type := 0, pos := "node.go:223", after := #[{ on := 0, ground := Ground.data }, { on := 0, ground := Ground.phase }, { on := 1, ground := Ground.textOnly Departure.lateStores }, { on := 2, ground := Ground.textOnly Departure.lateStores }, { on := 3, ground := Ground.textOnly Departure.lateStores }, { on := 4, ground := Ground.textOnly Departure.lateStores }, { on := 5, ground := Ground.textOnly Departure.lateStores }, { on := 6, ground := Ground.textOnly Departure.lateStores }, { on := 7, ground := Ground.textOnly Departure.lateStores }, { on := 8, ground := Ground.textOnly Departure.lateStores }, { on := 9, ground := Ground.textOnly Departure.lateStores }, { on := 10, ground := Ground.textOnly Departure.lateStores }, { on := 11, ground := Ground.textOnly Departure.lateStores }, { on := 12, ground := Ground.textOnly Departure.lateStores }, { on := 13, ground := Ground.textOnly Departure.lateStores }, { on := 14, ground := Ground.textOnly Departure.lateStores }, { on := 15, ground := Ground.textOnly Departure.lateStores }, { on := 16, ground := Ground.textOnly Departure.lateStores }, { on := 17, ground := Ground.textOnly Departure.lateStores }, { on := 18, ground := Ground.textOnly Departure.lateStores }, { on := 19, ground := Ground.textOnly Departure.lateStores }, { on := 20, ground := Ground.textOnly Departure.lateStores }, { on := 21, ground := Ground.textOnly Departure.lateStores }, { on := 22, ground := Ground.textOnly Departure.lateStores }, { on := 23, ground := Ground.textOnly Departure.lateStores }, { on := 24, ground := Ground.textOnly Departure.lateStores }, { on := 25, ground := Ground.textOnly Departure.lateStores }, { on := 26, ground := Ground.textOnly Departure.lateStores }, { on := 27, ground := Ground.textOnly Departure.lateStores }, { on := 28, ground := Ground.textOnly Departure.lateStores }], guard := none }) rfl (by kernel_rfl) ?_
        refine Rg.stepS ?_
        intro K hK
        rw [if_pos (by rfl)]
        refine wp_store_row 37 _ _ rfl (w.heap.size + 1) (row 74 (nodeW F (.slice A2 bs.length c2))) rfl rfl 37 _ G6.out i5 z5 o5 ?_
        have G3 := Lib.hid (G3.out.setRow_other (g' := w.heap.size + 1) (by omega) (row 74 (nodeW F (.slice A2 bs.length c2))))
        have G7 := Lib.hid (G7.out.setRow_other (g' := w.heap.size + 1) (by omega) (row 74 (nodeW F (.slice A2 bs.length c2))))
        have G6 := Lib.hid (G6.out.setRow (row 74 (nodeW F (.slice A2 bs.length c2))))
        have HB := Lib.hid (below_setRow HB.out (show w.heap.size ≤ w.heap.size + 1 by omega) (row 74 (nodeW F (.slice A2 bs.length c2))))
        have HW := Lib.hid (own_setRow HW.out (show w.heap.size + 1 < W.heap.size by omega) (row 74 (nodeW F (.slice A2 bs.length c2))))
        clear HS
        generalize (V0.setRow (w.heap.size + 1) (row 74 (nodeW F (.slice A2 bs.length c2)))) = V1 at *
        have HS := G3.out
        refine hK.out _ _ HS ?_
        clear hK K
        try simp only [Act.put, List.setIfInBounds_toArray, List.set_cons_zero, List.set_cons_succ]
        refine Rg.oneR (i := 30) (oi := { dst := none, op := Op.store 51 (Operand.tmp 5) (Operand.tmp 104), type := 0, pos := "node.go:223", after := #[{ on := 28, ground := Ground.data }, { on := 29, ground := Ground.chain }, { on := 0, ground := Ground.phase }, { on := 1, ground := Ground.phase }, { on := 2, ground := Ground.phase }, { on := 3, ground := Ground.phase }, { on := 4, ground := Ground.phase }, { on := 5, ground := Ground.phase }, { on := 6, ground := Ground.phase }, { on := 7, ground := Ground.phase }, { on := 8, ground := Ground.phase }, { on := 9, ground := Ground.phase }, { on := 10, ground := Ground.phase }, { on := 11, ground := Ground.phase }, { on := 12, ground := Ground.phase }, { on := 13, ground := Ground.phase }, { on := 14, ground := Ground.phase }, { on := 15, ground := Ground.phase }, { on := 16, ground := Ground.phase }, { on := 17, ground := Ground.phase }, { on := 18, ground := Ground.phase }, { on := 19, ground := Ground.phase }, { on := 20, ground := Ground.phase }, { on := 21, ground := Ground.phase }, { on := 22, ground := Ground.phase }, { on := 23, ground := Ground.phase }, { on := 24, ground := Ground.phase }, { on := 25, ground := Ground.phase }, { on := 26, ground := Ground.phase }, { on := 27, ground := Ground.phase }, { on := 28, ground := Ground.phase }, { on := 29, ground := Ground.phase }], guard := none }) rfl (by kernel_rfl) ?_
        refine Rg.stepF ?_ ?_
        · kernel_rfl
        intro K hK
        rw [if_pos (by rfl)]
        refine wp_store_row 51 _ _ rfl (w.heap.size + 1 + 1) #[.int .i64 a0, .int .i64 b0, .int .i64 u0, .int .i64 u1, .int .i64 u2, .int .i64 x0, .int .i64 x1, .int .i64 x2, .int .i64 dg, .bool sg, .bool i0, .bool i1, .bool i2, .bool i3] rfl rfl 51 _ G7.out iP rfl oP ?_
        have G6 := Lib.hid (G6.out.setRow_other (g' := w.heap.size + 1 + 1) (by omega) #[.int .i64 a0, .int .i64 b0, .int .i64 u0, .int .i64 u1, .int .i64 u2, .int .i64 x0, .int .i64 x1, .int .i64 x2, .int .i64 dg, .bool sg, .bool i0, .bool i1, .bool i2, .bool i3])
        have G7 := Lib.hid (G7.out.setRow #[.int .i64 a0, .int .i64 b0, .int .i64 u0, .int .i64 u1, .int .i64 u2, .int .i64 x0, .int .i64 x1, .int .i64 x2, .int .i64 dg, .bool sg, .bool i0, .bool i1, .bool i2, .bool i3])
        have HB := Lib.hid (below_setRow HB.out (show w.heap.size ≤ w.heap.size + 1 + 1 by omega) #[.int .i64 a0, .int .i64 b0, .int .i64 u0, .int .i64 u1, .int .i64 u2, .int .i64 x0, .int .i64 x1, .int .i64 x2, .int .i64 dg, .bool sg, .bool i0, .bool i1, .bool i2, .bool i3])
        have HW := Lib.hid (own_setRow HW.out (show w.heap.size + 1 + 1 < W.heap.size by omega) #[.int .i64 a0, .int .i64 b0, .int .i64 u0, .int .i64 u1, .int .i64 u2, .int .i64 x0, .int .i64 x1, .int .i64 x2, .int .i64 dg, .bool sg, .bool i0, .bool i1, .bool i2, .bool i3])
        clear HS
        generalize (V1.setRow (w.heap.size + 1 + 1) #[.int .i64 a0, .int .i64 b0, .int .i64 u0, .int .i64 u1, .int .i64 u2, .int .i64 x0, .int .i64 x1, .int .i64 x2, .int .i64 dg, .bool sg, .bool i0, .bool i1, .bool i2, .bool i3]) = V2 at *
        refine hK.out _ _ ?_
        clear hK K
        try simp only [Act.put, List.setIfInBounds_toArray, List.set_cons_zero, List.set_cons_succ]
        refine Rg.doneR (by kernel_rfl) ?_ _
        refine NoPanic.normal ?_
        go_wp2_with fail
        exact ret_rows2 rfl rfl rfl G6.out ⟨by rw [Try.underlying37], i5⟩ G7.out ⟨by rw [Try.underlying51], iP⟩ rfl ⟨A2, c2, by rw [HOO.out, HFE.out, HRF.out], Rd.of_own HW.out, HB.out, fun a h => Nat.le_trans (by omega) (own_lo HW.out a h), own_cap HW.out⟩
  | true =>
    cases hne : (vv != dd) with
    | false =>
      have G3 := Lib.hid (show Blk w3 w.heap.size 37 (row 74 (nodeW (if false = true then f else closeF o f) (.slice A2 bs.length c2))) from by rw [if_neg Bool.false_ne_true, HC0.out (by rw [HLB.out, hne]; rfl)]; exact G3.out)
      have HW := HW3
      have HB := HB3
      clear HW3 HB3
      go_wp2_with fail
      clear x70 x71 x72
      go_loopw [6, 7] (fun lv iv wr => ∃ (i : Nat) (lb : Bool), i ≤ 4 ∧ iv = .int .i64 (i : Int) ∧ lv = .bool lb ∧ (lb = true → lostB f = true ∧ NoPair o i (i + 1)) ∧ Blk wr w.heap.size 37 (row 74 (nodeW (if lb = true then f else closeF o f) (.slice A2 bs.length c2))) ∧ Blk wr (w.heap.size + 1) 37 Try.zeroCells37 ∧ Blk wr (w.heap.size + 1 + 1) 51 #[.int .i64 0, .int .i64 0, .int .i64 0, .int .i64 0, .int .i64 0, .int .i64 0, .int .i64 0, .int .i64 0, .int .i64 0, .bool false, .bool false, .bool false, .bool false, .bool false] ∧ wr.ownsRow W.heap.size 4 1 (.slice A2 bs.length c2) bs.length (boolsV bs) ∧ Below w.heap.size w wr) (fun _ iv _ => 4 - (intOf iv).toNat)
      case atStart => exact ⟨0, false, by omega, rfl, rfl, fun h => (by cases h), G3.out, G6.out, G7.out, HW.out, HB.out⟩
      case round =>
        clear G3 G6 G7 HW HB
        obtain ⟨i, lb, hi, rfl, rfl, hnp, g3, g6, g7, hw, hb⟩ := hrel
        have G3 := Lib.hid g3
        have G6 := Lib.hid g6
        have G7 := Lib.hid g7
        have HW := Lib.hid hw
        have HB := Lib.hid hb
        have HNP := Lib.hid hnp
        clear g3 g6 g7 hw hb hnp
        by_cases hlt : i < 4
        · have hi1 : (i : Int) < 4 := by omega
          have hi0 : (0 : Int) ≤ (i : Int) := by omega
          go_wp2_with fail
          generalize wr = wq at *
          go_loopw [6, 8] (fun lv kv wr => ∃ (j : Nat) (lb : Bool), i < j ∧ j ≤ 4 ∧ kv = .int .i64 (j : Int) ∧ lv = .bool lb ∧ (lb = true → lostB f = true ∧ NoPair o i j) ∧ Blk wr w.heap.size 37 (row 74 (nodeW (if lb = true then f else closeF o f) (.slice A2 bs.length c2))) ∧ Blk wr (w.heap.size + 1) 37 Try.zeroCells37 ∧ Blk wr (w.heap.size + 1 + 1) 51 #[.int .i64 0, .int .i64 0, .int .i64 0, .int .i64 0, .int .i64 0, .int .i64 0, .int .i64 0, .int .i64 0, .int .i64 0, .bool false, .bool false, .bool false, .bool false, .bool false] ∧ wr.ownsRow W.heap.size 4 1 (.slice A2 bs.length c2) bs.length (boolsV bs) ∧ Below w.heap.size w wr) (fun _ kv _ => 4 - (intOf kv).toNat)
          case atStart => exact ⟨i + 1, lb, by omega, by omega, by go_num, rfl, HNP.out, G3.out, G6.out, G7.out, HW.out, HB.out⟩
          case round =>
            clear G3 G6 G7 HW HB HNP
            obtain ⟨j, lb_, hij, hj, rfl, rfl, hnp, g3, g6, g7, hw, hb⟩ := hrel
            have G3 := Lib.hid g3
            have G6 := Lib.hid g6
            have G7 := Lib.hid g7
            have HW := Lib.hid hw
            have HB := Lib.hid hb
            have HNP := Lib.hid hnp
            clear g3 g6 g7 hw hb hnp
            by_cases hlj : j < 4
            · have hj1 : (j : Int) < 4 := by omega
              have hj0 : (0 : Int) ≤ (j : Int) := by omega
              obtain ⟨g, hg⟩ : ∃ g, (if lb_ = true then f else closeF o f) = g := ⟨_, rfl⟩
              have HGE := Lib.hid hg
              have hg0 : g 0 = .int .i64 (k : Int) := by rw [← hg]; split; exact HID.out; exact (close_keep o f 0 (by omega)).trans HID.out
              have hg1 : g 1 = .int .i64 fr := by rw [← hg]; split; exact HFR.out; exact (close_keep o f 1 (by omega)).trans HFR.out
              rw [hg] at G3
              clear hg
              have ig : (Try.prog.info? 37).map (·.size) = some (row 74 (nodeW g (.slice A2 bs.length c2))).size := by rw [row_size]; kernel_rfl
              have CF := Lib.hid (fun (i : Nat) v (hv : B ≤ v.heap.size) (hm : Ms.MsgsAt v B AI ms) => show Calls Try.prog 58 #[.agg (row 74 (nodeW g (.slice A2 bs.length c2))), .slice AI ms.length ci, .int .i64 (i : Int), .int .i64 5, .int .i64 24] v fun e w' => Ms.FirstAs w' B (o i) e ∧ Below v.heap.size v w' from by
                have c := Ms.first_any (row 74 (nodeW g (.slice A2 bs.length c2))) (k : Int) fr (by rw [row_at (by omega)]; exact congrArg some hg0) (by rw [row_at (by omega)]; exact congrArg some hg1) AI ci ms (i : Int) 5 24 B v hv hml hm
                rw [HOI.out i] at c
                exact c)
              clear hg0 hg1
              go_wp2_with (refine wpList_whole rfl 37 _ rfl w.heap.size rfl G3.out _ Try.underlying37 rfl ig ?_)
              refine (CF.out i _ (Nat.le_trans hB HB.out.size) (HMS.out.below (HB.out.mono hB))).mono ?_
              rintro e wa ⟨hfa, hb⟩
              obtain ⟨va, rfl, hva⟩ := first_val hfa
              have G3 := Lib.hid (G3.out.below hb G3.out.lt)
              have G6 := Lib.hid (G6.out.below hb G6.out.lt)
              have G7 := Lib.hid (G7.out.below hb G7.out.lt)
              have HW := Lib.hid (ownsRow_below HW.out hb)
              have HVa := Lib.hid hva
              have HB := Lib.hid (onward HB.out (Nat.le_refl _) hb)
              clear hb
              go_wp2_with (refine wpList_whole rfl 37 _ rfl w.heap.size rfl G3.out _ Try.underlying37 rfl ig ?_)
              refine (CF.out j _ (Nat.le_trans hB HB.out.size) (HMS.out.below (HB.out.mono hB))).mono ?_
              rintro e wb ⟨hfb, hb⟩
              obtain ⟨vb, rfl, hvb⟩ := first_val hfb
              have G3 := Lib.hid (G3.out.below hb G3.out.lt)
              have G6 := Lib.hid (G6.out.below hb G6.out.lt)
              have G7 := Lib.hid (G7.out.below hb G7.out.lt)
              have HW := Lib.hid (ownsRow_below HW.out hb)
              have HVb := Lib.hid hvb
              have HVa := Lib.hid (fun m h => by obtain ⟨a, c, h1, h2, h3⟩ := HVa.out m h; exact (⟨a, c, h1, h2, h3.below (hb.mono (Nat.le_trans hB HB.out.size))⟩ : ∃ a c, va = .slice a m.zs.length c ∧ m.zs.length ≤ c ∧ Rd wb B 1 a m.zs.length (Ms.intsV m.zs)))
              have HB := Lib.hid (onward HB.out (Nat.le_refl _) hb)
              clear hb
              cases lb_ with
              | false =>
                rw [← HGE.out] at G3
                clear CF HGE ig
                go_wp2_with fail
                exact ⟨⟨j + 1, false, by omega, by omega, by go_num, rfl, fun h => (by cases h), G3.out, G6.out, G7.out, HW.out, HB.out⟩, by simp [intOf]; omega⟩
              | true =>
                have HLO := Lib.hid (HNP.out rfl)
                have HGF := Lib.hid (show f = g from HGE.out)
                cases hoi : o i with
                | none =>
                  have HPN := Lib.hid (HLO.out.2.step (pair_none1 (k := j) hoi))
                  rw [← HGE.out] at G3
                  clear CF HGE HGF ig
                  simp only [Option.isSome_none]
                  go_wp2_with fail
                  exact ⟨⟨j + 1, true, by omega, by omega, by go_num, rfl, fun _ => ⟨HLO.out.1, HPN.out⟩, G3.out, G6.out, G7.out, HW.out, HB.out⟩, by simp [intOf]; omega⟩
                | some Am =>
                  cases hok : o j with
                  | none =>
                    have HPN := Lib.hid (HLO.out.2.step (pair_none2 (i := i) hok))
                    rw [← HGE.out] at G3
                    clear CF HGE HGF ig
                    simp only [Option.isSome_none, Option.isSome_some]
                    go_wp2_with fail
                    exact ⟨⟨j + 1, true, by omega, by omega, by go_num, rfl, fun _ => ⟨HLO.out.1, HPN.out⟩, G3.out, G6.out, G7.out, HW.out, HB.out⟩, by simp [intOf]; omega⟩
                  | some Bm =>
                    have hla := HOL.out i Am hoi
                    have hlb := HOL.out j Bm hok
                    obtain ⟨aa, ca, rfl, hca, hra⟩ := HVa.out Am hoi
                    obtain ⟨ab, cb, rfl, hcb, hrb⟩ := HVb.out Bm hok
                    rw [hla] at hca hra ⊢
                    rw [hlb] at hcb hrb ⊢
                    have HRA := Lib.hid hra
                    have HRB := Lib.hid hrb
                    simp only [Option.isSome_some]
                    have CS := Lib.hid (fun v (h1 : Rd v B 1 aa 24 (Ms.intsV Am.zs)) (h2 : Rd v B 1 ab 24 (Ms.intsV Bm.zs)) => show Calls Try.prog 56 #[.slice aa 24 ca, .slice ab 24 cb] v fun e w' => e = .returned (.bool (decide (Am.zs = Bm.zs))) ∧ Below v.heap.size v w' from by
                      have c := Ms.sameInts_eq aa ab ca cb Am.zs Bm.zs (hlb.trans hla.symm) B v (by omega) (by rw [hla]; exact h1) (by rw [hla]; exact h2)
                      rw [hla] at c
                      exact c)
                    have HLA := Lib.hid hla
                    have HCA := Lib.hid hca
                    have HPY := Lib.hid (fun h : Am.zs = Bm.zs => HLO.out.2.found hij hlj (pair_some hoi hok h))
                    have HPX := Lib.hid (fun h : ¬ Am.zs = Bm.zs => HLO.out.2.step (pair_other hoi hok h))
                    have hgf := HGF.out
                    subst hgf
                    clear hoi hok hla hlb hca hcb hra hrb CF
                    go_wp2_with fail
                    refine (CS.out _ HRA.out HRB.out).mono ?_
                    rintro e wc ⟨rfl, hb⟩
                    have G3 := Lib.hid (G3.out.below hb G3.out.lt)
                    have G6 := Lib.hid (G6.out.below hb G6.out.lt)
                    have G7 := Lib.hid (G7.out.below hb G7.out.lt)
                    have HW := Lib.hid (ownsRow_below HW.out hb)
                    have HRA := Lib.hid (HRA.out.below (hb.mono (Nat.le_trans hB HB.out.size)))
                    have HB := Lib.hid (onward HB.out (Nat.le_refl _) hb)
                    clear hb CS HRB
                    by_cases hze : Am.zs = Bm.zs
                    · have HPO := Lib.hid (HPY.out hze)
                      have hdz : decide (Am.zs = Bm.zs) = true := decide_eq_true hze
                      clear HPY HPX hze
                      rw [hdz]
                      have HAF := Lib.hid (show closeF o f = takeU Am.zs f by rw [HC1.out HLO.out.1]; unfold adoptF; rw [HPO.out])
                      go_wp2_with (refine wpList_whole rfl 37 _ rfl w.heap.size rfl G3.out _ Try.underlying37 rfl ig ?_)
                      refine (unpacked_any f HF.out Am.zs HLA.out aa ca HCA.out (.slice A2 bs.length c2) rfl wc (by rw [HLA.out]; exact HRA.out.more (Nat.le_trans hB HB.out.size))).mono ?_
                      rintro e wd ⟨g2, rfl, hok2, hrow, hb⟩
                      have HOK2 := Lib.hid hok2
                      have HROW := Lib.hid hrow
                      have G3 := Lib.hid (G3.out.below hb G3.out.lt)
                      have G6 := Lib.hid (G6.out.below hb G6.out.lt)
                      have G7 := Lib.hid (G7.out.below hb G7.out.lt)
                      have HW := Lib.hid (ownsRow_below HW.out hb)
                      have HB := Lib.hid (onward HB.out (Nat.le_refl _) hb)
                      clear hb hok2 hrow
                      have iM : (Try.prog.info? 37).map (·.size) = some (row 74 (nodeW g2 (.slice A2 bs.length c2))).size := by rw [row_size]; kernel_rfl
                      have zM : (Try.zeroCells37).size = (row 74 (nodeW g2 (.slice A2 bs.length c2))).size := by rw [row_size]; kernel_rfl
                      have oM : (row 74 (nodeW g2 (.slice A2 bs.length c2))).all (·.oneCell') = true := one_of2 HOK2.out rfl
                      have zG : (row 74 (nodeW f (.slice A2 bs.length c2))).size = (row 74 (nodeW g2 (.slice A2 bs.length c2))).size := by rw [row_size, row_size]
                      obtain ⟨RM, hRM⟩ : ∃ R, row 74 (nodeW g2 (.slice A2 bs.length c2)) = R := ⟨_, rfl⟩
                      rw [hRM] at iM zM oM HROW zG ⊢
                      clear hRM
                      have HM0 := Lib.hid (Blk.fresh wd 37 Try.zeroCells37)
                      go_upto_region 16 with (refine wpList_store_row rfl 37 _ _ rfl wd.heap.size RM rfl rfl 37 _ HM0.out iM zM oM ?_)
                      have HM := Lib.hid (HM0.out.setRow RM)
                      have hb8 : Below wd.heap.size wd ((wd.alloc (.cells Try.zeroCells37 37)).setRow wd.heap.size RM) := below_setRow ((Below.refl _ _).alloc (Nat.le_refl _) _) (Nat.le_refl _) RM
                      have G3 := Lib.hid (G3.out.below hb8 G3.out.lt)
                      have hgm := G7.out.lt
                      have G6 := Lib.hid (G6.out.below hb8 G6.out.lt)
                      have G7 := Lib.hid (G7.out.below hb8 G7.out.lt)
                      have HW := Lib.hid (ownsRow_below HW.out hb8)
                      have HB := Lib.hid (onward HB.out (Nat.le_refl _) hb8)
                      clear hb8 HM0
                      generalize ((wd.alloc (.cells Try.zeroCells37 37)).setRow wd.heap.size RM) = we at *
                      obtain ⟨gm, hgmm⟩ : ∃ g, wd.heap.size = g := ⟨_, rfl⟩
                      rw [hgmm] at HM hgm ⊢
                      clear hgmm
                      cases hu : unpackOk Am.zs with
                      | false =>
                        have HCE := Lib.hid (show closeF o f = f by rw [HAF.out]; unfold takeU; rw [hu]; rfl)
                        clear hu
                        go_wp2_with fail
                        exact ⟨⟨j + 1, false, by omega, by omega, by go_num, rfl, fun h => (by cases h), by rw [if_neg Bool.false_ne_true, HCE.out]; exact G3.out, G6.out, G7.out, HW.out, HB.out⟩, by simp [intOf]; omega⟩
                      | true =>
                        have HCE := Lib.hid (show closeF o f = unpackF Am.zs f by rw [HAF.out]; unfold takeU; rw [hu]; rfl)
                        have HRW := Lib.hid (HROW.out hu)
                        clear hu
                        go_wp2_with (first | (refine wpList_whole rfl 37 _ rfl gm rfl HM.out _ Try.underlying37 rfl iM ?_) | (refine wpList_store_row rfl 37 _ _ rfl w.heap.size RM rfl rfl 37 _ G3.out iM zG oM ?_))
                        exact ⟨⟨j + 1, false, by omega, by omega, by go_num, rfl, fun h => (by cases h), by rw [if_neg Bool.false_ne_true, HCE.out, ← HRW.out]; exact G3.out.setRow RM, G6.out.setRow_other (by omega) RM, G7.out.setRow_other (by omega) RM, own_setRow HW.out (show w.heap.size < W.heap.size by omega) RM, below_setRow HB.out (Nat.le_refl _) RM⟩, by simp [intOf]; omega⟩
                    · have HPO := Lib.hid (HPX.out hze)
                      have hdz : decide (Am.zs = Bm.zs) = false := decide_eq_false hze
                      clear HPY HPX hze
                      rw [hdz]
                      go_wp2_with fail
                      exact ⟨⟨j + 1, true, by omega, by omega, by go_num, rfl, fun _ => ⟨HLO.out.1, HPO.out⟩, by rw [if_pos rfl]; exact G3.out, G6.out, G7.out, HW.out, HB.out⟩, by simp [intOf]; omega⟩
            · obtain rfl : j = 4 := by omega
              clear hlj
              go_wp2_with fail
              exact ⟨⟨i + 1, lb_, by omega, by go_num, rfl, fun h => ⟨(HNP.out h).1, (HNP.out h).2.next⟩, G3.out, G6.out, G7.out, HW.out, HB.out⟩, by simp [intOf]; omega⟩
        · obtain rfl : i = 4 := by omega
          clear hlt
          have HCL := Lib.hid (show (if lb = true then f else closeF o f) = closeF o f from by
            cases lb with
            | false => rfl
            | true => exact ((HC1.out (HNP.out rfl).1).trans (by unfold adoptF; rw [(HNP.out rfl).2.all (Nat.le_refl _)]; rfl)).symm)
          rw [HCL.out] at G3
          obtain ⟨F, hF⟩ : ∃ F, closeF o f = F := ⟨_, rfl⟩
          have HFE := Lib.hid hF
          have HOK := Lib.hid (show ∀ i, i < 73 → okT (nodeT i) (F i) from by rw [← hF]; exact ok_close HF.out o)
          rw [hF] at G3
          clear hF
          obtain ⟨a0, b0, u0, u1, u2, x0, x1, x2, dg, sg, i0, i1, i2, i3, q0, q1, q67, q68, q69, q6, q13, q20, q70, q72, q27, q28, q29, q30⟩ := rep_cells HOK.out
          have HQA := Lib.hid (fun (i : Nat) (hi : i < 73) => show (row 74 (nodeW F (.slice A2 bs.length c2)))[i]? = some (F i) from by rw [row_at (by omega)]; unfold nodeW; rw [if_neg (by omega)])
          have HU := Lib.hid (show (row 3 fun j => nodeW F (.slice A2 bs.length c2) (67 + j)) = #[.int .i64 u0, .int .i64 u1, .int .i64 u2] from by rw [← q67, ← q68, ← q69]; rfl)
          have HIn := Lib.hid (show (row 4 fun j => nodeW F (.slice A2 bs.length c2) (27 + j)) = #[.bool i0, .bool i1, .bool i2, .bool i3] from by rw [← q27, ← q28, ← q29, ← q30]; rfl)
          have HRF := Lib.hid (show row 14 (repF F) = #[.int .i64 a0, .int .i64 b0, .int .i64 u0, .int .i64 u1, .int .i64 u2, .int .i64 x0, .int .i64 x1, .int .i64 x2, .int .i64 dg, .bool sg, .bool i0, .bool i1, .bool i2, .bool i3] from by rw [repF_row, q0, q1, q67, q68, q69, q6, q13, q20, q70, q72, q27, q28, q29, q30])
          have c0 := (HQA.out 0 (by omega)).trans (congrArg some q0)
          have c1 := (HQA.out 1 (by omega)).trans (congrArg some q1)
          have c6 := (HQA.out 6 (by omega)).trans (congrArg some q6)
          have c13 := (HQA.out 13 (by omega)).trans (congrArg some q13)
          have c20 := (HQA.out 20 (by omega)).trans (congrArg some q20)
          have c70 := (HQA.out 70 (by omega)).trans (congrArg some q70)
          have c72 := (HQA.out 72 (by omega)).trans (congrArg some q72)
          clear q0 q1 q67 q68 q69 q6 q13 q20 q70 q72 q27 q28 q29 q30
          have o5 := one_of HOK.out (A := A2) (n := bs.length) (c := c2)
          have i5 : (Try.prog.info? 37).map (·.size) = some (row 74 (nodeW F (.slice A2 bs.length c2))).size := by rw [row_size]; kernel_rfl
          have z5 : (Try.zeroCells37).size = (row 74 (nodeW F (.slice A2 bs.length c2))).size := by rw [row_size]; kernel_rfl
          have iP : (Try.prog.info? 51).map (·.size) = some (#[.int .i64 a0, .int .i64 b0, .int .i64 u0, .int .i64 u1, .int .i64 u2, .int .i64 x0, .int .i64 x1, .int .i64 x2, .int .i64 dg, .bool sg, .bool i0, .bool i1, .bool i2, .bool i3] : Array Value).size := by kernel_rfl
          have oP : (#[.int .i64 a0, .int .i64 b0, .int .i64 u0, .int .i64 u1, .int .i64 u2, .int .i64 x0, .int .i64 x1, .int .i64 x2, .int .i64 dg, .bool sg, .bool i0, .bool i1, .bool i2, .bool i3] : Array Value).all (·.oneCell') = true := by simp [Value.oneCell']
          go_upto_region 18 with fail
          have G3 := Lib.hid G3.out.drew
          have G6 := Lib.hid G6.out.drew
          have G7 := Lib.hid G7.out.drew
          have HW := Lib.hid (ownsRow_below HW.out ((Below.refl wr.heap.size wr).drew))
          have HB := Lib.hid HB.out.drew
          have HS := G3.out
          refine wp_region_noPanic ?_
          refine Rg.beginR [0, 2, 4, 6, 10, 14, 18, 21, 24, 27] (fun w' => Blk w' w.heap.size 37 (row 74 (nodeW F (.slice A2 bs.length c2)))) (by kernel_rfl) ?_
          generalize wr.drew = V0 at *
          refine Rg.takeS (i := 0) (oi := { dst := some 76, op := Op.load 37 (Operand.tmp 2), type := 37, pos := "node.go:223", after := #[], guard := none }) (v := .agg (row 74 (nodeW F (.slice A2 bs.length c2)))) rfl (by kernel_rfl) (fun _ _ _ h => h) (by rfl) HS ?_ ?_
          · (intro w' hSw; exact exec_load_row 37 _ rfl _ rfl hSw Try.underlying37 rfl i5)
          try simp only [Act.put, List.setIfInBounds_toArray, List.set_cons_zero, List.set_cons_succ]
          refine Rg.takeP (i := 1) (oi := { dst := some 77, op := Op.fieldAddr 37 (Operand.tmp 2) 0, type := 0, pos := "node.go:223", after := #[{ on := 29, ground := Ground.gcOnly Departure.lateStores }], guard := none }) (v := ?_) rfl (by kernel_rfl) (fun _ _ _ h => h) (by rfl) ?_ ?_
          rotate_left 1
          · (intro w; go_simp; (try with_reducible rfl))
          try simp only [Act.put, List.setIfInBounds_toArray, List.set_cons_zero, List.set_cons_succ]
          refine Rg.takeS (i := 2) (oi := { dst := some 78, op := Op.load 3 (Operand.tmp 77), type := 3, pos := "node.go:223", after := #[{ on := 1, ground := Ground.data }, { on := 29, ground := Ground.gcOnly Departure.lateStores }], guard := none }) (v := ?_) rfl (by kernel_rfl) (fun _ _ _ h => h) (by rfl) HS ?_ ?_
          rotate_left 1
          · (intro w' hSw; have y := (hSw.cell 0).trans c0; go_simp; (try with_reducible rfl))
          try simp only [Act.put, List.setIfInBounds_toArray, List.set_cons_zero, List.set_cons_succ]
          refine Rg.takeP (i := 3) (oi := { dst := some 79, op := Op.fieldAddr 37 (Operand.tmp 2) 1, type := 0, pos := "node.go:223", after := #[{ on := 29, ground := Ground.gcOnly Departure.lateStores }], guard := none }) (v := ?_) rfl (by kernel_rfl) (fun _ _ _ h => h) (by rfl) ?_ ?_
          rotate_left 1
          · (intro w; go_simp; (try with_reducible rfl))
          try simp only [Act.put, List.setIfInBounds_toArray, List.set_cons_zero, List.set_cons_succ]
          refine Rg.takeS (i := 4) (oi := { dst := some 80, op := Op.load 3 (Operand.tmp 79), type := 3, pos := "node.go:223", after := #[{ on := 3, ground := Ground.data }, { on := 29, ground := Ground.gcOnly Departure.lateStores }], guard := none }) (v := ?_) rfl (by kernel_rfl) (fun _ _ _ h => h) (by rfl) HS ?_ ?_
          rotate_left 1
          · (intro w' hSw; have y := (hSw.cell 1).trans c1; go_simp; (try with_reducible rfl))
          try simp only [Act.put, List.setIfInBounds_toArray, List.set_cons_zero, List.set_cons_succ]
          refine Rg.takeP (i := 5) (oi := { dst := some 81, op := Op.fieldAddr 37 (Operand.tmp 2) 8, type := 0, pos := "node.go:223", after := #[{ on := 29, ground := Ground.gcOnly Departure.lateStores }], guard := none }) (v := ?_) rfl (by kernel_rfl) (fun _ _ _ h => h) (by rfl) ?_ ?_
          rotate_left 1
          · (intro w; go_simp; (try with_reducible rfl))
          try simp only [Act.put, List.setIfInBounds_toArray, List.set_cons_zero, List.set_cons_succ]
          refine Rg.takeS (i := 6) (oi := { dst := some 82, op := Op.load 31 (Operand.tmp 81), type := 31, pos := "node.go:223", after := #[{ on := 5, ground := Ground.data }, { on := 29, ground := Ground.gcOnly Departure.lateStores }], guard := none }) (v := .agg #[.int .i64 u0, .int .i64 u1, .int .i64 u2]) rfl (by kernel_rfl) (fun _ _ _ h => h) (by rfl) HS ?_ ?_
          · (intro w' hSw; rw [← HU.out]; exact exec_load_mid 31 _ rfl _ 67 3 rfl _ _ (row_range hSw 67 3 (by omega)) Try.underlying31 rfl (by kernel_rfl))
          try simp only [Act.put, List.setIfInBounds_toArray, List.set_cons_zero, List.set_cons_succ]
          refine Rg.takeP (i := 7) (oi := { dst := some 83, op := Op.fieldAddr 37 (Operand.tmp 2) 3, type := 0, pos := "node.go:223", after := #[{ on := 29, ground := Ground.gcOnly Departure.lateStores }], guard := none }) (v := ?_) rfl (by kernel_rfl) (fun _ _ _ h => h) (by rfl) ?_ ?_
          rotate_left 1
          · (intro w; go_simp; (try with_reducible rfl))
          try simp only [Act.put, List.setIfInBounds_toArray, List.set_cons_zero, List.set_cons_succ]
          refine Rg.takeP (i := 8) (oi := { dst := some 84, op := Op.indexAddr 26 (Operand.tmp 83) (Operand.const (Value.int IntKind.i64 0)), type := 0, pos := "node.go:223", after := #[{ on := 7, ground := Ground.data }, { on := 29, ground := Ground.gcOnly Departure.lateStores }], guard := none }) (v := ?_) rfl (by kernel_rfl) (fun _ _ _ h => h) (by rfl) ?_ ?_
          rotate_left 1
          · (intro w; go_simp; (try with_reducible rfl))
          try simp only [Act.put, List.setIfInBounds_toArray, List.set_cons_zero, List.set_cons_succ]
          refine Rg.takeP (i := 9) (oi := { dst := some 85, op := Op.fieldAddr 25 (Operand.tmp 84) 0, type := 0, pos := "node.go:223", after := #[{ on := 8, ground := Ground.data }, { on := 29, ground := Ground.gcOnly Departure.lateStores }], guard := none }) (v := ?_) rfl (by kernel_rfl) (fun _ _ _ h => h) (by rfl) ?_ ?_
          rotate_left 1
          · (intro w; go_simp; (try with_reducible rfl))
          try simp only [Act.put, List.setIfInBounds_toArray, List.set_cons_zero, List.set_cons_succ]
          refine Rg.takeS (i := 10) (oi := { dst := some 86, op := Op.load 3 (Operand.tmp 85), type := 3, pos := "node.go:223", after := #[{ on := 9, ground := Ground.data }, { on := 29, ground := Ground.gcOnly Departure.lateStores }], guard := none }) (v := ?_) rfl (by kernel_rfl) (fun _ _ _ h => h) (by rfl) HS ?_ ?_
          rotate_left 1
          · (intro w' hSw; have y := (hSw.cell 6).trans c6; go_simp; (try with_reducible rfl))
          try simp only [Act.put, List.setIfInBounds_toArray, List.set_cons_zero, List.set_cons_succ]
          refine Rg.takeP (i := 11) (oi := { dst := some 87, op := Op.fieldAddr 37 (Operand.tmp 2) 3, type := 0, pos := "node.go:223", after := #[{ on := 29, ground := Ground.gcOnly Departure.lateStores }], guard := none }) (v := ?_) rfl (by kernel_rfl) (fun _ _ _ h => h) (by rfl) ?_ ?_
          rotate_left 1
          · (intro w; go_simp; (try with_reducible rfl))
          try simp only [Act.put, List.setIfInBounds_toArray, List.set_cons_zero, List.set_cons_succ]
          refine Rg.takeP (i := 12) (oi := { dst := some 88, op := Op.indexAddr 26 (Operand.tmp 87) (Operand.const (Value.int IntKind.i64 1)), type := 0, pos := "node.go:223", after := #[{ on := 11, ground := Ground.data }, { on := 29, ground := Ground.gcOnly Departure.lateStores }], guard := none }) (v := ?_) rfl (by kernel_rfl) (fun _ _ _ h => h) (by rfl) ?_ ?_
          rotate_left 1
          · (intro w; go_simp; (try with_reducible rfl))
          try simp only [Act.put, List.setIfInBounds_toArray, List.set_cons_zero, List.set_cons_succ]
          refine Rg.takeP (i := 13) (oi := { dst := some 89, op := Op.fieldAddr 25 (Operand.tmp 88) 0, type := 0, pos := "node.go:223", after := #[{ on := 12, ground := Ground.data }, { on := 29, ground := Ground.gcOnly Departure.lateStores }], guard := none }) (v := ?_) rfl (by kernel_rfl) (fun _ _ _ h => h) (by rfl) ?_ ?_
          rotate_left 1
          · (intro w; go_simp; (try with_reducible rfl))
          try simp only [Act.put, List.setIfInBounds_toArray, List.set_cons_zero, List.set_cons_succ]
          refine Rg.takeS (i := 14) (oi := { dst := some 90, op := Op.load 3 (Operand.tmp 89), type := 3, pos := "node.go:223", after := #[{ on := 13, ground := Ground.data }, { on := 29, ground := Ground.gcOnly Departure.lateStores }], guard := none }) (v := ?_) rfl (by kernel_rfl) (fun _ _ _ h => h) (by rfl) HS ?_ ?_
          rotate_left 1
          · (intro w' hSw; have y := (hSw.cell 13).trans c13; go_simp; (try with_reducible rfl))
          try simp only [Act.put, List.setIfInBounds_toArray, List.set_cons_zero, List.set_cons_succ]
          refine Rg.takeP (i := 15) (oi := { dst := some 91, op := Op.fieldAddr 37 (Operand.tmp 2) 3, type := 0, pos := "node.go:223", after := #[{ on := 29, ground := Ground.gcOnly Departure.lateStores }], guard := none }) (v := ?_) rfl (by kernel_rfl) (fun _ _ _ h => h) (by rfl) ?_ ?_
          rotate_left 1
          · (intro w; go_simp; (try with_reducible rfl))
          try simp only [Act.put, List.setIfInBounds_toArray, List.set_cons_zero, List.set_cons_succ]
          refine Rg.takeP (i := 16) (oi := { dst := some 92, op := Op.indexAddr 26 (Operand.tmp 91) (Operand.const (Value.int IntKind.i64 2)), type := 0, pos := "node.go:223", after := #[{ on := 15, ground := Ground.data }, { on := 29, ground := Ground.gcOnly Departure.lateStores }], guard := none }) (v := ?_) rfl (by kernel_rfl) (fun _ _ _ h => h) (by rfl) ?_ ?_
          rotate_left 1
          · (intro w; go_simp; (try with_reducible rfl))
          try simp only [Act.put, List.setIfInBounds_toArray, List.set_cons_zero, List.set_cons_succ]
          refine Rg.takeP (i := 17) (oi := { dst := some 93, op := Op.fieldAddr 25 (Operand.tmp 92) 0, type := 0, pos := "node.go:223", after := #[{ on := 16, ground := Ground.data }, { on := 29, ground := Ground.gcOnly Departure.lateStores }], guard := none }) (v := ?_) rfl (by kernel_rfl) (fun _ _ _ h => h) (by rfl) ?_ ?_
          rotate_left 1
          · (intro w; go_simp; (try with_reducible rfl))
          try simp only [Act.put, List.setIfInBounds_toArray, List.set_cons_zero, List.set_cons_succ]
          refine Rg.takeS (i := 18) (oi := { dst := some 94, op := Op.load 3 (Operand.tmp 93), type := 3, pos := "node.go:223", after := #[{ on := 17, ground := Ground.data }, { on := 29, ground := Ground.gcOnly Departure.lateStores }], guard := none }) (v := ?_) rfl (by kernel_rfl) (fun _ _ _ h => h) (by rfl) HS ?_ ?_
          rotate_left 1
          · (intro w' hSw; have y := (hSw.cell 20).trans c20; go_simp; (try with_reducible rfl))
          try simp only [Act.put, List.setIfInBounds_toArray, List.set_cons_zero, List.set_cons_succ]
          refine Rg.takeP (i := 19) (oi := { dst := some 95, op := Op.build 31 #[(0, Operand.tmp 86), (1, Operand.tmp 90), (2, Operand.tmp 94)], type := 31, pos := "node.go:223", after := #[{ on := 10, ground := Ground.data }, { on := 14, ground := Ground.data }, { on := 18, ground := Ground.data }, { on := 29, ground := Ground.gcOnly Departure.lateStores }], guard := none }) (v := ?_) rfl (by kernel_rfl) (fun _ _ _ h => h) (by rfl) ?_ ?_
          rotate_left 1
          · (intro w; go_simp; (try with_reducible rfl))
          try simp only [Act.put, List.setIfInBounds_toArray, List.set_cons_zero, List.set_cons_succ]
          refine Rg.takeP (i := 20) (oi := { dst := some 96, op := Op.fieldAddr 37 (Operand.tmp 2) 9, type := 0, pos := "node.go:223", after := #[{ on := 29, ground := Ground.gcOnly Departure.lateStores }], guard := none }) (v := ?_) rfl (by kernel_rfl) (fun _ _ _ h => h) (by rfl) ?_ ?_
          rotate_left 1
          · (intro w; go_simp; (try with_reducible rfl))
          try simp only [Act.put, List.setIfInBounds_toArray, List.set_cons_zero, List.set_cons_succ]
          refine Rg.takeS (i := 21) (oi := { dst := some 97, op := Op.load 3 (Operand.tmp 96), type := 3, pos := "node.go:223", after := #[{ on := 20, ground := Ground.data }, { on := 29, ground := Ground.gcOnly Departure.lateStores }], guard := none }) (v := ?_) rfl (by kernel_rfl) (fun _ _ _ h => h) (by rfl) HS ?_ ?_
          rotate_left 1
          · (intro w' hSw; have y := (hSw.cell 70).trans c70; go_simp; (try with_reducible rfl))
          try simp only [Act.put, List.setIfInBounds_toArray, List.set_cons_zero, List.set_cons_succ]
          refine Rg.takeP (i := 22) (oi := { dst := some 98, op := Op.fieldAddr 37 (Operand.tmp 2) 10, type := 0, pos := "node.go:223", after := #[{ on := 29, ground := Ground.gcOnly Departure.lateStores }], guard := none }) (v := ?_) rfl (by kernel_rfl) (fun _ _ _ h => h) (by rfl) ?_ ?_
          rotate_left 1
          · (intro w; go_simp; (try with_reducible rfl))
          try simp only [Act.put, List.setIfInBounds_toArray, List.set_cons_zero, List.set_cons_succ]
          refine Rg.takeP (i := 23) (oi := { dst := some 99, op := Op.fieldAddr 35 (Operand.tmp 98) 1, type := 0, pos := "node.go:223", after := #[{ on := 22, ground := Ground.data }, { on := 29, ground := Ground.gcOnly Departure.lateStores }], guard := none }) (v := ?_) rfl (by kernel_rfl) (fun _ _ _ h => h) (by rfl) ?_ ?_
          rotate_left 1
          · (intro w; go_simp; (try with_reducible rfl))
          try simp only [Act.put, List.setIfInBounds_toArray, List.set_cons_zero, List.set_cons_succ]
          refine Rg.takeS (i := 24) (oi := { dst := some 100, op := Op.load 4 (Operand.tmp 99), type := 4, pos := "node.go:223", after := #[{ on := 23, ground := Ground.data }, { on := 29, ground := Ground.gcOnly Departure.lateStores }], guard := none }) (v := ?_) rfl (by kernel_rfl) (fun _ _ _ h => h) (by rfl) HS ?_ ?_
          rotate_left 1
          · (intro w' hSw; have y := (hSw.cell 72).trans c72; go_simp; (try with_reducible rfl))
          try simp only [Act.put, List.setIfInBounds_toArray, List.set_cons_zero, List.set_cons_succ]
          refine Rg.takeP (i := 25) (oi := { dst := some 101, op := Op.fieldAddr 37 (Operand.tmp 2) 4, type := 0, pos := "node.go:223", after := #[{ on := 29, ground := Ground.gcOnly Departure.lateStores }], guard := none }) (v := ?_) rfl (by kernel_rfl) (fun _ _ _ h => h) (by rfl) ?_ ?_
          rotate_left 1
          · (intro w; go_simp; (try with_reducible rfl))
          try simp only [Act.put, List.setIfInBounds_toArray, List.set_cons_zero, List.set_cons_succ]
          refine Rg.takeP (i := 26) (oi := { dst := some 102, op := Op.fieldAddr 30 (Operand.tmp 101) 0, type := 0, pos := "node.go:223", after := #[{ on := 25, ground := Ground.data }, { on := 29, ground := Ground.gcOnly Departure.lateStores }], guard := none }) (v := ?_) rfl (by kernel_rfl) (fun _ _ _ h => h) (by rfl) ?_ ?_
          rotate_left 1
          · (intro w; go_simp; (try with_reducible rfl))
          try simp only [Act.put, List.setIfInBounds_toArray, List.set_cons_zero, List.set_cons_succ]
          refine Rg.takeS (i := 27) (oi := { dst := some 103, op := Op.load 27 (Operand.tmp 102), type := 27, pos := "node.go:223", after := #[{ on := 26, ground := Ground.data }, { on := 29, ground := Ground.gcOnly Departure.lateStores }], guard := none }) (v := .agg #[.bool i0, .bool i1, .bool i2, .bool i3]) rfl (by kernel_rfl) (fun _ _ _ h => h) (by rfl) HS ?_ ?_
          · (intro w' hSw; rw [← HIn.out]; exact exec_load_mid 27 _ rfl _ 27 4 rfl _ _ (row_range hSw 27 4 (by omega)) Try.underlying27 rfl (by kernel_rfl))
          try simp only [Act.put, List.setIfInBounds_toArray, List.set_cons_zero, List.set_cons_succ]
          refine Rg.takeP (i := 28) (oi := { dst := some 104, op := Op.build 51 #[(0, Operand.tmp 78), (1, Operand.tmp 80), (2, Operand.tmp 82), (3, Operand.tmp 95), (4, Operand.tmp 97), (5, Operand.tmp 100), (6, Operand.tmp 103)], type := 51, pos := "node.go:223", after := #[{ on := 2, ground := Ground.data }, { on := 4, ground := Ground.data }, { on := 6, ground := Ground.data }, { on := 19, ground := Ground.data }, { on := 21, ground := Ground.data }, { on := 24, ground := Ground.data }, { on := 27, ground := Ground.data }, { on := 29, ground := Ground.gcOnly Departure.lateStores }], guard := none }) (v := ?_) rfl (by kernel_rfl) (fun _ _ _ h => h) (by rfl) ?_ ?_
          rotate_left 1
          · (intro w; go_simp; (try with_reducible rfl))
          try simp only [Act.put, List.setIfInBounds_toArray, List.set_cons_zero, List.set_cons_succ]
          refine Rg.oneR (i := 29) (oi := { dst := none, op := Op.store 37 (Operand.tmp 4) (Operand.tmp 76), type := 0, pos := "node.go:223", after := #[{ on := 0, ground := Ground.data }, { on := 0, ground := Ground.phase }, { on := 1, ground := Ground.textOnly Departure.lateStores }, { on := 2, ground := Ground.textOnly Departure.lateStores }, { on := 3, ground := Ground.textOnly Departure.lateStores }, { on := 4, ground := Ground.textOnly Departure.lateStores }, { on := 5, ground := Ground.textOnly Departure.lateStores }, { on := 6, ground := Ground.textOnly Departure.lateStores }, { on := 7, ground := Ground.textOnly Departure.lateStores }, { on := 8, ground := Ground.textOnly Departure.lateStores }, { on := 9, ground := Ground.textOnly Departure.lateStores }, { on := 10, ground := Ground.textOnly Departure.lateStores }, { on := 11, ground := Ground.textOnly Departure.lateStores }, { on := 12, ground := Ground.textOnly Departure.lateStores }, { on := 13, ground := Ground.textOnly Departure.lateStores }, { on := 14, ground := Ground.textOnly Departure.lateStores }, { on := 15, ground := Ground.textOnly Departure.lateStores }, { on := 16, ground := Ground.textOnly Departure.lateStores }, { on := 17, ground := Ground.textOnly Departure.lateStores }, { on := 18, ground := Ground.textOnly Departure.lateStores }, { on := 19, ground := Ground.textOnly Departure.lateStores }, { on := 20, ground := Ground.textOnly Departure.lateStores }, { on := 21, ground := Ground.textOnly Departure.lateStores }, { on := 22, ground := Ground.textOnly Departure.lateStores }, { on := 23, ground := Ground.textOnly Departure.lateStores }, { on := 24, ground := Ground.textOnly Departure.lateStores }, { on := 25, ground := Ground.textOnly Departure.lateStores }, { on := 26, ground := Ground.textOnly Departure.lateStores }, { on := 27, ground := Ground.textOnly Departure.lateStores }, { on := 28, ground := Ground.textOnly Departure.lateStores }], guard := none }) rfl (by kernel_rfl) ?_
          refine Rg.stepS ?_
          intro K hK
          rw [if_pos (by rfl)]
          refine wp_store_row 37 _ _ rfl (w.heap.size + 1) (row 74 (nodeW F (.slice A2 bs.length c2))) rfl rfl 37 _ G6.out i5 z5 o5 ?_
          have G3 := Lib.hid (G3.out.setRow_other (g' := w.heap.size + 1) (by omega) (row 74 (nodeW F (.slice A2 bs.length c2))))
          have G7 := Lib.hid (G7.out.setRow_other (g' := w.heap.size + 1) (by omega) (row 74 (nodeW F (.slice A2 bs.length c2))))
          have G6 := Lib.hid (G6.out.setRow (row 74 (nodeW F (.slice A2 bs.length c2))))
          have HB := Lib.hid (below_setRow HB.out (show w.heap.size ≤ w.heap.size + 1 by omega) (row 74 (nodeW F (.slice A2 bs.length c2))))
          have HW := Lib.hid (own_setRow HW.out (show w.heap.size + 1 < W.heap.size by omega) (row 74 (nodeW F (.slice A2 bs.length c2))))
          clear HS
          generalize (V0.setRow (w.heap.size + 1) (row 74 (nodeW F (.slice A2 bs.length c2)))) = V1 at *
          have HS := G3.out
          refine hK.out _ _ HS ?_
          clear hK K
          try simp only [Act.put, List.setIfInBounds_toArray, List.set_cons_zero, List.set_cons_succ]
          refine Rg.oneR (i := 30) (oi := { dst := none, op := Op.store 51 (Operand.tmp 5) (Operand.tmp 104), type := 0, pos := "node.go:223", after := #[{ on := 28, ground := Ground.data }, { on := 29, ground := Ground.chain }, { on := 0, ground := Ground.phase }, { on := 1, ground := Ground.phase }, { on := 2, ground := Ground.phase }, { on := 3, ground := Ground.phase }, { on := 4, ground := Ground.phase }, { on := 5, ground := Ground.phase }, { on := 6, ground := Ground.phase }, { on := 7, ground := Ground.phase }, { on := 8, ground := Ground.phase }, { on := 9, ground := Ground.phase }, { on := 10, ground := Ground.phase }, { on := 11, ground := Ground.phase }, { on := 12, ground := Ground.phase }, { on := 13, ground := Ground.phase }, { on := 14, ground := Ground.phase }, { on := 15, ground := Ground.phase }, { on := 16, ground := Ground.phase }, { on := 17, ground := Ground.phase }, { on := 18, ground := Ground.phase }, { on := 19, ground := Ground.phase }, { on := 20, ground := Ground.phase }, { on := 21, ground := Ground.phase }, { on := 22, ground := Ground.phase }, { on := 23, ground := Ground.phase }, { on := 24, ground := Ground.phase }, { on := 25, ground := Ground.phase }, { on := 26, ground := Ground.phase }, { on := 27, ground := Ground.phase }, { on := 28, ground := Ground.phase }, { on := 29, ground := Ground.phase }], guard := none }) rfl (by kernel_rfl) ?_
          refine Rg.stepF ?_ ?_
          · kernel_rfl
          intro K hK
          rw [if_pos (by rfl)]
          refine wp_store_row 51 _ _ rfl (w.heap.size + 1 + 1) #[.int .i64 a0, .int .i64 b0, .int .i64 u0, .int .i64 u1, .int .i64 u2, .int .i64 x0, .int .i64 x1, .int .i64 x2, .int .i64 dg, .bool sg, .bool i0, .bool i1, .bool i2, .bool i3] rfl rfl 51 _ G7.out iP rfl oP ?_
          have G6 := Lib.hid (G6.out.setRow_other (g' := w.heap.size + 1 + 1) (by omega) #[.int .i64 a0, .int .i64 b0, .int .i64 u0, .int .i64 u1, .int .i64 u2, .int .i64 x0, .int .i64 x1, .int .i64 x2, .int .i64 dg, .bool sg, .bool i0, .bool i1, .bool i2, .bool i3])
          have G7 := Lib.hid (G7.out.setRow #[.int .i64 a0, .int .i64 b0, .int .i64 u0, .int .i64 u1, .int .i64 u2, .int .i64 x0, .int .i64 x1, .int .i64 x2, .int .i64 dg, .bool sg, .bool i0, .bool i1, .bool i2, .bool i3])
          have HB := Lib.hid (below_setRow HB.out (show w.heap.size ≤ w.heap.size + 1 + 1 by omega) #[.int .i64 a0, .int .i64 b0, .int .i64 u0, .int .i64 u1, .int .i64 u2, .int .i64 x0, .int .i64 x1, .int .i64 x2, .int .i64 dg, .bool sg, .bool i0, .bool i1, .bool i2, .bool i3])
          have HW := Lib.hid (own_setRow HW.out (show w.heap.size + 1 + 1 < W.heap.size by omega) #[.int .i64 a0, .int .i64 b0, .int .i64 u0, .int .i64 u1, .int .i64 u2, .int .i64 x0, .int .i64 x1, .int .i64 x2, .int .i64 dg, .bool sg, .bool i0, .bool i1, .bool i2, .bool i3])
          clear HS
          generalize (V1.setRow (w.heap.size + 1 + 1) #[.int .i64 a0, .int .i64 b0, .int .i64 u0, .int .i64 u1, .int .i64 u2, .int .i64 x0, .int .i64 x1, .int .i64 x2, .int .i64 dg, .bool sg, .bool i0, .bool i1, .bool i2, .bool i3]) = V2 at *
          refine hK.out _ _ ?_
          clear hK K
          try simp only [Act.put, List.setIfInBounds_toArray, List.set_cons_zero, List.set_cons_succ]
          refine Rg.doneR (by kernel_rfl) ?_ _
          refine NoPanic.normal ?_
          go_wp2_with fail
          exact ret_rows2 rfl rfl rfl G6.out ⟨by rw [Try.underlying37], i5⟩ G7.out ⟨by rw [Try.underlying51], iP⟩ rfl ⟨A2, c2, by rw [HOO.out, HFE.out, HRF.out], Rd.of_own HW.out, HB.out, fun a h => Nat.le_trans (by omega) (own_lo HW.out a h), own_cap HW.out⟩
    | true =>
      have G3 := Lib.hid (show Blk w3 w.heap.size 37 (row 74 (nodeW (if true = true then f else closeF o f) (.slice A2 bs.length c2))) from by rw [if_pos rfl]; exact G3.out)
      have HW := HW3
      have HB := HB3
      clear HW3 HB3
      go_wp2_with fail
      clear x70 x71 x72
      go_loopw [6, 7] (fun lv iv wr => ∃ (i : Nat) (lb : Bool), i ≤ 4 ∧ iv = .int .i64 (i : Int) ∧ lv = .bool lb ∧ (lb = true → lostB f = true ∧ NoPair o i (i + 1)) ∧ Blk wr w.heap.size 37 (row 74 (nodeW (if lb = true then f else closeF o f) (.slice A2 bs.length c2))) ∧ Blk wr (w.heap.size + 1) 37 Try.zeroCells37 ∧ Blk wr (w.heap.size + 1 + 1) 51 #[.int .i64 0, .int .i64 0, .int .i64 0, .int .i64 0, .int .i64 0, .int .i64 0, .int .i64 0, .int .i64 0, .int .i64 0, .bool false, .bool false, .bool false, .bool false, .bool false] ∧ wr.ownsRow W.heap.size 4 1 (.slice A2 bs.length c2) bs.length (boolsV bs) ∧ Below w.heap.size w wr) (fun _ iv _ => 4 - (intOf iv).toNat)
      case atStart => exact ⟨0, true, by omega, rfl, rfl, fun _ => ⟨by rw [HLB.out, hne]; rfl, NoPair.start o⟩, G3.out, G6.out, G7.out, HW.out, HB.out⟩
      case round =>
        clear G3 G6 G7 HW HB
        obtain ⟨i, lb, hi, rfl, rfl, hnp, g3, g6, g7, hw, hb⟩ := hrel
        have G3 := Lib.hid g3
        have G6 := Lib.hid g6
        have G7 := Lib.hid g7
        have HW := Lib.hid hw
        have HB := Lib.hid hb
        have HNP := Lib.hid hnp
        clear g3 g6 g7 hw hb hnp
        by_cases hlt : i < 4
        · have hi1 : (i : Int) < 4 := by omega
          have hi0 : (0 : Int) ≤ (i : Int) := by omega
          go_wp2_with fail
          generalize wr = wq at *
          go_loopw [6, 8] (fun lv kv wr => ∃ (j : Nat) (lb : Bool), i < j ∧ j ≤ 4 ∧ kv = .int .i64 (j : Int) ∧ lv = .bool lb ∧ (lb = true → lostB f = true ∧ NoPair o i j) ∧ Blk wr w.heap.size 37 (row 74 (nodeW (if lb = true then f else closeF o f) (.slice A2 bs.length c2))) ∧ Blk wr (w.heap.size + 1) 37 Try.zeroCells37 ∧ Blk wr (w.heap.size + 1 + 1) 51 #[.int .i64 0, .int .i64 0, .int .i64 0, .int .i64 0, .int .i64 0, .int .i64 0, .int .i64 0, .int .i64 0, .int .i64 0, .bool false, .bool false, .bool false, .bool false, .bool false] ∧ wr.ownsRow W.heap.size 4 1 (.slice A2 bs.length c2) bs.length (boolsV bs) ∧ Below w.heap.size w wr) (fun _ kv _ => 4 - (intOf kv).toNat)
          case atStart => exact ⟨i + 1, lb, by omega, by omega, by go_num, rfl, HNP.out, G3.out, G6.out, G7.out, HW.out, HB.out⟩
          case round =>
            clear G3 G6 G7 HW HB HNP
            obtain ⟨j, lb_, hij, hj, rfl, rfl, hnp, g3, g6, g7, hw, hb⟩ := hrel
            have G3 := Lib.hid g3
            have G6 := Lib.hid g6
            have G7 := Lib.hid g7
            have HW := Lib.hid hw
            have HB := Lib.hid hb
            have HNP := Lib.hid hnp
            clear g3 g6 g7 hw hb hnp
            by_cases hlj : j < 4
            · have hj1 : (j : Int) < 4 := by omega
              have hj0 : (0 : Int) ≤ (j : Int) := by omega
              obtain ⟨g, hg⟩ : ∃ g, (if lb_ = true then f else closeF o f) = g := ⟨_, rfl⟩
              have HGE := Lib.hid hg
              have hg0 : g 0 = .int .i64 (k : Int) := by rw [← hg]; split; exact HID.out; exact (close_keep o f 0 (by omega)).trans HID.out
              have hg1 : g 1 = .int .i64 fr := by rw [← hg]; split; exact HFR.out; exact (close_keep o f 1 (by omega)).trans HFR.out
              rw [hg] at G3
              clear hg
              have ig : (Try.prog.info? 37).map (·.size) = some (row 74 (nodeW g (.slice A2 bs.length c2))).size := by rw [row_size]; kernel_rfl
              have CF := Lib.hid (fun (i : Nat) v (hv : B ≤ v.heap.size) (hm : Ms.MsgsAt v B AI ms) => show Calls Try.prog 58 #[.agg (row 74 (nodeW g (.slice A2 bs.length c2))), .slice AI ms.length ci, .int .i64 (i : Int), .int .i64 5, .int .i64 24] v fun e w' => Ms.FirstAs w' B (o i) e ∧ Below v.heap.size v w' from by
                have c := Ms.first_any (row 74 (nodeW g (.slice A2 bs.length c2))) (k : Int) fr (by rw [row_at (by omega)]; exact congrArg some hg0) (by rw [row_at (by omega)]; exact congrArg some hg1) AI ci ms (i : Int) 5 24 B v hv hml hm
                rw [HOI.out i] at c
                exact c)
              clear hg0 hg1
              go_wp2_with (refine wpList_whole rfl 37 _ rfl w.heap.size rfl G3.out _ Try.underlying37 rfl ig ?_)
              refine (CF.out i _ (Nat.le_trans hB HB.out.size) (HMS.out.below (HB.out.mono hB))).mono ?_
              rintro e wa ⟨hfa, hb⟩
              obtain ⟨va, rfl, hva⟩ := first_val hfa
              have G3 := Lib.hid (G3.out.below hb G3.out.lt)
              have G6 := Lib.hid (G6.out.below hb G6.out.lt)
              have G7 := Lib.hid (G7.out.below hb G7.out.lt)
              have HW := Lib.hid (ownsRow_below HW.out hb)
              have HVa := Lib.hid hva
              have HB := Lib.hid (onward HB.out (Nat.le_refl _) hb)
              clear hb
              go_wp2_with (refine wpList_whole rfl 37 _ rfl w.heap.size rfl G3.out _ Try.underlying37 rfl ig ?_)
              refine (CF.out j _ (Nat.le_trans hB HB.out.size) (HMS.out.below (HB.out.mono hB))).mono ?_
              rintro e wb ⟨hfb, hb⟩
              obtain ⟨vb, rfl, hvb⟩ := first_val hfb
              have G3 := Lib.hid (G3.out.below hb G3.out.lt)
              have G6 := Lib.hid (G6.out.below hb G6.out.lt)
              have G7 := Lib.hid (G7.out.below hb G7.out.lt)
              have HW := Lib.hid (ownsRow_below HW.out hb)
              have HVb := Lib.hid hvb
              have HVa := Lib.hid (fun m h => by obtain ⟨a, c, h1, h2, h3⟩ := HVa.out m h; exact (⟨a, c, h1, h2, h3.below (hb.mono (Nat.le_trans hB HB.out.size))⟩ : ∃ a c, va = .slice a m.zs.length c ∧ m.zs.length ≤ c ∧ Rd wb B 1 a m.zs.length (Ms.intsV m.zs)))
              have HB := Lib.hid (onward HB.out (Nat.le_refl _) hb)
              clear hb
              cases lb_ with
              | false =>
                rw [← HGE.out] at G3
                clear CF HGE ig
                go_wp2_with fail
                exact ⟨⟨j + 1, false, by omega, by omega, by go_num, rfl, fun h => (by cases h), G3.out, G6.out, G7.out, HW.out, HB.out⟩, by simp [intOf]; omega⟩
              | true =>
                have HLO := Lib.hid (HNP.out rfl)
                have HGF := Lib.hid (show f = g from HGE.out)
                cases hoi : o i with
                | none =>
                  have HPN := Lib.hid (HLO.out.2.step (pair_none1 (k := j) hoi))
                  rw [← HGE.out] at G3
                  clear CF HGE HGF ig
                  simp only [Option.isSome_none]
                  go_wp2_with fail
                  exact ⟨⟨j + 1, true, by omega, by omega, by go_num, rfl, fun _ => ⟨HLO.out.1, HPN.out⟩, G3.out, G6.out, G7.out, HW.out, HB.out⟩, by simp [intOf]; omega⟩
                | some Am =>
                  cases hok : o j with
                  | none =>
                    have HPN := Lib.hid (HLO.out.2.step (pair_none2 (i := i) hok))
                    rw [← HGE.out] at G3
                    clear CF HGE HGF ig
                    simp only [Option.isSome_none, Option.isSome_some]
                    go_wp2_with fail
                    exact ⟨⟨j + 1, true, by omega, by omega, by go_num, rfl, fun _ => ⟨HLO.out.1, HPN.out⟩, G3.out, G6.out, G7.out, HW.out, HB.out⟩, by simp [intOf]; omega⟩
                  | some Bm =>
                    have hla := HOL.out i Am hoi
                    have hlb := HOL.out j Bm hok
                    obtain ⟨aa, ca, rfl, hca, hra⟩ := HVa.out Am hoi
                    obtain ⟨ab, cb, rfl, hcb, hrb⟩ := HVb.out Bm hok
                    rw [hla] at hca hra ⊢
                    rw [hlb] at hcb hrb ⊢
                    have HRA := Lib.hid hra
                    have HRB := Lib.hid hrb
                    simp only [Option.isSome_some]
                    have CS := Lib.hid (fun v (h1 : Rd v B 1 aa 24 (Ms.intsV Am.zs)) (h2 : Rd v B 1 ab 24 (Ms.intsV Bm.zs)) => show Calls Try.prog 56 #[.slice aa 24 ca, .slice ab 24 cb] v fun e w' => e = .returned (.bool (decide (Am.zs = Bm.zs))) ∧ Below v.heap.size v w' from by
                      have c := Ms.sameInts_eq aa ab ca cb Am.zs Bm.zs (hlb.trans hla.symm) B v (by omega) (by rw [hla]; exact h1) (by rw [hla]; exact h2)
                      rw [hla] at c
                      exact c)
                    have HLA := Lib.hid hla
                    have HCA := Lib.hid hca
                    have HPY := Lib.hid (fun h : Am.zs = Bm.zs => HLO.out.2.found hij hlj (pair_some hoi hok h))
                    have HPX := Lib.hid (fun h : ¬ Am.zs = Bm.zs => HLO.out.2.step (pair_other hoi hok h))
                    have hgf := HGF.out
                    subst hgf
                    clear hoi hok hla hlb hca hcb hra hrb CF
                    go_wp2_with fail
                    refine (CS.out _ HRA.out HRB.out).mono ?_
                    rintro e wc ⟨rfl, hb⟩
                    have G3 := Lib.hid (G3.out.below hb G3.out.lt)
                    have G6 := Lib.hid (G6.out.below hb G6.out.lt)
                    have G7 := Lib.hid (G7.out.below hb G7.out.lt)
                    have HW := Lib.hid (ownsRow_below HW.out hb)
                    have HRA := Lib.hid (HRA.out.below (hb.mono (Nat.le_trans hB HB.out.size)))
                    have HB := Lib.hid (onward HB.out (Nat.le_refl _) hb)
                    clear hb CS HRB
                    by_cases hze : Am.zs = Bm.zs
                    · have HPO := Lib.hid (HPY.out hze)
                      have hdz : decide (Am.zs = Bm.zs) = true := decide_eq_true hze
                      clear HPY HPX hze
                      rw [hdz]
                      have HAF := Lib.hid (show closeF o f = takeU Am.zs f by rw [HC1.out HLO.out.1]; unfold adoptF; rw [HPO.out])
                      go_wp2_with (refine wpList_whole rfl 37 _ rfl w.heap.size rfl G3.out _ Try.underlying37 rfl ig ?_)
                      refine (unpacked_any f HF.out Am.zs HLA.out aa ca HCA.out (.slice A2 bs.length c2) rfl wc (by rw [HLA.out]; exact HRA.out.more (Nat.le_trans hB HB.out.size))).mono ?_
                      rintro e wd ⟨g2, rfl, hok2, hrow, hb⟩
                      have HOK2 := Lib.hid hok2
                      have HROW := Lib.hid hrow
                      have G3 := Lib.hid (G3.out.below hb G3.out.lt)
                      have G6 := Lib.hid (G6.out.below hb G6.out.lt)
                      have G7 := Lib.hid (G7.out.below hb G7.out.lt)
                      have HW := Lib.hid (ownsRow_below HW.out hb)
                      have HB := Lib.hid (onward HB.out (Nat.le_refl _) hb)
                      clear hb hok2 hrow
                      have iM : (Try.prog.info? 37).map (·.size) = some (row 74 (nodeW g2 (.slice A2 bs.length c2))).size := by rw [row_size]; kernel_rfl
                      have zM : (Try.zeroCells37).size = (row 74 (nodeW g2 (.slice A2 bs.length c2))).size := by rw [row_size]; kernel_rfl
                      have oM : (row 74 (nodeW g2 (.slice A2 bs.length c2))).all (·.oneCell') = true := one_of2 HOK2.out rfl
                      have zG : (row 74 (nodeW f (.slice A2 bs.length c2))).size = (row 74 (nodeW g2 (.slice A2 bs.length c2))).size := by rw [row_size, row_size]
                      obtain ⟨RM, hRM⟩ : ∃ R, row 74 (nodeW g2 (.slice A2 bs.length c2)) = R := ⟨_, rfl⟩
                      rw [hRM] at iM zM oM HROW zG ⊢
                      clear hRM
                      have HM0 := Lib.hid (Blk.fresh wd 37 Try.zeroCells37)
                      go_upto_region 16 with (refine wpList_store_row rfl 37 _ _ rfl wd.heap.size RM rfl rfl 37 _ HM0.out iM zM oM ?_)
                      have HM := Lib.hid (HM0.out.setRow RM)
                      have hb8 : Below wd.heap.size wd ((wd.alloc (.cells Try.zeroCells37 37)).setRow wd.heap.size RM) := below_setRow ((Below.refl _ _).alloc (Nat.le_refl _) _) (Nat.le_refl _) RM
                      have G3 := Lib.hid (G3.out.below hb8 G3.out.lt)
                      have hgm := G7.out.lt
                      have G6 := Lib.hid (G6.out.below hb8 G6.out.lt)
                      have G7 := Lib.hid (G7.out.below hb8 G7.out.lt)
                      have HW := Lib.hid (ownsRow_below HW.out hb8)
                      have HB := Lib.hid (onward HB.out (Nat.le_refl _) hb8)
                      clear hb8 HM0
                      generalize ((wd.alloc (.cells Try.zeroCells37 37)).setRow wd.heap.size RM) = we at *
                      obtain ⟨gm, hgmm⟩ : ∃ g, wd.heap.size = g := ⟨_, rfl⟩
                      rw [hgmm] at HM hgm ⊢
                      clear hgmm
                      cases hu : unpackOk Am.zs with
                      | false =>
                        have HCE := Lib.hid (show closeF o f = f by rw [HAF.out]; unfold takeU; rw [hu]; rfl)
                        clear hu
                        go_wp2_with fail
                        exact ⟨⟨j + 1, false, by omega, by omega, by go_num, rfl, fun h => (by cases h), by rw [if_neg Bool.false_ne_true, HCE.out]; exact G3.out, G6.out, G7.out, HW.out, HB.out⟩, by simp [intOf]; omega⟩
                      | true =>
                        have HCE := Lib.hid (show closeF o f = unpackF Am.zs f by rw [HAF.out]; unfold takeU; rw [hu]; rfl)
                        have HRW := Lib.hid (HROW.out hu)
                        clear hu
                        go_wp2_with (first | (refine wpList_whole rfl 37 _ rfl gm rfl HM.out _ Try.underlying37 rfl iM ?_) | (refine wpList_store_row rfl 37 _ _ rfl w.heap.size RM rfl rfl 37 _ G3.out iM zG oM ?_))
                        exact ⟨⟨j + 1, false, by omega, by omega, by go_num, rfl, fun h => (by cases h), by rw [if_neg Bool.false_ne_true, HCE.out, ← HRW.out]; exact G3.out.setRow RM, G6.out.setRow_other (by omega) RM, G7.out.setRow_other (by omega) RM, own_setRow HW.out (show w.heap.size < W.heap.size by omega) RM, below_setRow HB.out (Nat.le_refl _) RM⟩, by simp [intOf]; omega⟩
                    · have HPO := Lib.hid (HPX.out hze)
                      have hdz : decide (Am.zs = Bm.zs) = false := decide_eq_false hze
                      clear HPY HPX hze
                      rw [hdz]
                      go_wp2_with fail
                      exact ⟨⟨j + 1, true, by omega, by omega, by go_num, rfl, fun _ => ⟨HLO.out.1, HPO.out⟩, by rw [if_pos rfl]; exact G3.out, G6.out, G7.out, HW.out, HB.out⟩, by simp [intOf]; omega⟩
            · obtain rfl : j = 4 := by omega
              clear hlj
              go_wp2_with fail
              exact ⟨⟨i + 1, lb_, by omega, by go_num, rfl, fun h => ⟨(HNP.out h).1, (HNP.out h).2.next⟩, G3.out, G6.out, G7.out, HW.out, HB.out⟩, by simp [intOf]; omega⟩
        · obtain rfl : i = 4 := by omega
          clear hlt
          have HCL := Lib.hid (show (if lb = true then f else closeF o f) = closeF o f from by
            cases lb with
            | false => rfl
            | true => exact ((HC1.out (HNP.out rfl).1).trans (by unfold adoptF; rw [(HNP.out rfl).2.all (Nat.le_refl _)]; rfl)).symm)
          rw [HCL.out] at G3
          obtain ⟨F, hF⟩ : ∃ F, closeF o f = F := ⟨_, rfl⟩
          have HFE := Lib.hid hF
          have HOK := Lib.hid (show ∀ i, i < 73 → okT (nodeT i) (F i) from by rw [← hF]; exact ok_close HF.out o)
          rw [hF] at G3
          clear hF
          obtain ⟨a0, b0, u0, u1, u2, x0, x1, x2, dg, sg, i0, i1, i2, i3, q0, q1, q67, q68, q69, q6, q13, q20, q70, q72, q27, q28, q29, q30⟩ := rep_cells HOK.out
          have HQA := Lib.hid (fun (i : Nat) (hi : i < 73) => show (row 74 (nodeW F (.slice A2 bs.length c2)))[i]? = some (F i) from by rw [row_at (by omega)]; unfold nodeW; rw [if_neg (by omega)])
          have HU := Lib.hid (show (row 3 fun j => nodeW F (.slice A2 bs.length c2) (67 + j)) = #[.int .i64 u0, .int .i64 u1, .int .i64 u2] from by rw [← q67, ← q68, ← q69]; rfl)
          have HIn := Lib.hid (show (row 4 fun j => nodeW F (.slice A2 bs.length c2) (27 + j)) = #[.bool i0, .bool i1, .bool i2, .bool i3] from by rw [← q27, ← q28, ← q29, ← q30]; rfl)
          have HRF := Lib.hid (show row 14 (repF F) = #[.int .i64 a0, .int .i64 b0, .int .i64 u0, .int .i64 u1, .int .i64 u2, .int .i64 x0, .int .i64 x1, .int .i64 x2, .int .i64 dg, .bool sg, .bool i0, .bool i1, .bool i2, .bool i3] from by rw [repF_row, q0, q1, q67, q68, q69, q6, q13, q20, q70, q72, q27, q28, q29, q30])
          have c0 := (HQA.out 0 (by omega)).trans (congrArg some q0)
          have c1 := (HQA.out 1 (by omega)).trans (congrArg some q1)
          have c6 := (HQA.out 6 (by omega)).trans (congrArg some q6)
          have c13 := (HQA.out 13 (by omega)).trans (congrArg some q13)
          have c20 := (HQA.out 20 (by omega)).trans (congrArg some q20)
          have c70 := (HQA.out 70 (by omega)).trans (congrArg some q70)
          have c72 := (HQA.out 72 (by omega)).trans (congrArg some q72)
          clear q0 q1 q67 q68 q69 q6 q13 q20 q70 q72 q27 q28 q29 q30
          have o5 := one_of HOK.out (A := A2) (n := bs.length) (c := c2)
          have i5 : (Try.prog.info? 37).map (·.size) = some (row 74 (nodeW F (.slice A2 bs.length c2))).size := by rw [row_size]; kernel_rfl
          have z5 : (Try.zeroCells37).size = (row 74 (nodeW F (.slice A2 bs.length c2))).size := by rw [row_size]; kernel_rfl
          have iP : (Try.prog.info? 51).map (·.size) = some (#[.int .i64 a0, .int .i64 b0, .int .i64 u0, .int .i64 u1, .int .i64 u2, .int .i64 x0, .int .i64 x1, .int .i64 x2, .int .i64 dg, .bool sg, .bool i0, .bool i1, .bool i2, .bool i3] : Array Value).size := by kernel_rfl
          have oP : (#[.int .i64 a0, .int .i64 b0, .int .i64 u0, .int .i64 u1, .int .i64 u2, .int .i64 x0, .int .i64 x1, .int .i64 x2, .int .i64 dg, .bool sg, .bool i0, .bool i1, .bool i2, .bool i3] : Array Value).all (·.oneCell') = true := by simp [Value.oneCell']
          go_upto_region 18 with fail
          have G3 := Lib.hid G3.out.drew
          have G6 := Lib.hid G6.out.drew
          have G7 := Lib.hid G7.out.drew
          have HW := Lib.hid (ownsRow_below HW.out ((Below.refl wr.heap.size wr).drew))
          have HB := Lib.hid HB.out.drew
          have HS := G3.out
          refine wp_region_noPanic ?_
          refine Rg.beginR [0, 2, 4, 6, 10, 14, 18, 21, 24, 27] (fun w' => Blk w' w.heap.size 37 (row 74 (nodeW F (.slice A2 bs.length c2)))) (by kernel_rfl) ?_
          generalize wr.drew = V0 at *
          refine Rg.takeS (i := 0) (oi := { dst := some 76, op := Op.load 37 (Operand.tmp 2), type := 37, pos := "node.go:223", after := #[], guard := none }) (v := .agg (row 74 (nodeW F (.slice A2 bs.length c2)))) rfl (by kernel_rfl) (fun _ _ _ h => h) (by rfl) HS ?_ ?_
          · (intro w' hSw; exact exec_load_row 37 _ rfl _ rfl hSw Try.underlying37 rfl i5)
          try simp only [Act.put, List.setIfInBounds_toArray, List.set_cons_zero, List.set_cons_succ]
          refine Rg.takeP (i := 1) (oi := { dst := some 77, op := Op.fieldAddr 37 (Operand.tmp 2) 0, type := 0, pos := "node.go:223", after := #[{ on := 29, ground := Ground.gcOnly Departure.lateStores }], guard := none }) (v := ?_) rfl (by kernel_rfl) (fun _ _ _ h => h) (by rfl) ?_ ?_
          rotate_left 1
          · (intro w; go_simp; (try with_reducible rfl))
          try simp only [Act.put, List.setIfInBounds_toArray, List.set_cons_zero, List.set_cons_succ]
          refine Rg.takeS (i := 2) (oi := { dst := some 78, op := Op.load 3 (Operand.tmp 77), type := 3, pos := "node.go:223", after := #[{ on := 1, ground := Ground.data }, { on := 29, ground := Ground.gcOnly Departure.lateStores }], guard := none }) (v := ?_) rfl (by kernel_rfl) (fun _ _ _ h => h) (by rfl) HS ?_ ?_
          rotate_left 1
          · (intro w' hSw; have y := (hSw.cell 0).trans c0; go_simp; (try with_reducible rfl))
          try simp only [Act.put, List.setIfInBounds_toArray, List.set_cons_zero, List.set_cons_succ]
          refine Rg.takeP (i := 3) (oi := { dst := some 79, op := Op.fieldAddr 37 (Operand.tmp 2) 1, type := 0, pos := "node.go:223", after := #[{ on := 29, ground := Ground.gcOnly Departure.lateStores }], guard := none }) (v := ?_) rfl (by kernel_rfl) (fun _ _ _ h => h) (by rfl) ?_ ?_
          rotate_left 1
          · (intro w; go_simp; (try with_reducible rfl))
          try simp only [Act.put, List.setIfInBounds_toArray, List.set_cons_zero, List.set_cons_succ]
          refine Rg.takeS (i := 4) (oi := { dst := some 80, op := Op.load 3 (Operand.tmp 79), type := 3, pos := "node.go:223", after := #[{ on := 3, ground := Ground.data }, { on := 29, ground := Ground.gcOnly Departure.lateStores }], guard := none }) (v := ?_) rfl (by kernel_rfl) (fun _ _ _ h => h) (by rfl) HS ?_ ?_
          rotate_left 1
          · (intro w' hSw; have y := (hSw.cell 1).trans c1; go_simp; (try with_reducible rfl))
          try simp only [Act.put, List.setIfInBounds_toArray, List.set_cons_zero, List.set_cons_succ]
          refine Rg.takeP (i := 5) (oi := { dst := some 81, op := Op.fieldAddr 37 (Operand.tmp 2) 8, type := 0, pos := "node.go:223", after := #[{ on := 29, ground := Ground.gcOnly Departure.lateStores }], guard := none }) (v := ?_) rfl (by kernel_rfl) (fun _ _ _ h => h) (by rfl) ?_ ?_
          rotate_left 1
          · (intro w; go_simp; (try with_reducible rfl))
          try simp only [Act.put, List.setIfInBounds_toArray, List.set_cons_zero, List.set_cons_succ]
          refine Rg.takeS (i := 6) (oi := { dst := some 82, op := Op.load 31 (Operand.tmp 81), type := 31, pos := "node.go:223", after := #[{ on := 5, ground := Ground.data }, { on := 29, ground := Ground.gcOnly Departure.lateStores }], guard := none }) (v := .agg #[.int .i64 u0, .int .i64 u1, .int .i64 u2]) rfl (by kernel_rfl) (fun _ _ _ h => h) (by rfl) HS ?_ ?_
          · (intro w' hSw; rw [← HU.out]; exact exec_load_mid 31 _ rfl _ 67 3 rfl _ _ (row_range hSw 67 3 (by omega)) Try.underlying31 rfl (by kernel_rfl))
          try simp only [Act.put, List.setIfInBounds_toArray, List.set_cons_zero, List.set_cons_succ]
          refine Rg.takeP (i := 7) (oi := { dst := some 83, op := Op.fieldAddr 37 (Operand.tmp 2) 3, type := 0, pos := "node.go:223", after := #[{ on := 29, ground := Ground.gcOnly Departure.lateStores }], guard := none }) (v := ?_) rfl (by kernel_rfl) (fun _ _ _ h => h) (by rfl) ?_ ?_
          rotate_left 1
          · (intro w; go_simp; (try with_reducible rfl))
          try simp only [Act.put, List.setIfInBounds_toArray, List.set_cons_zero, List.set_cons_succ]
          refine Rg.takeP (i := 8) (oi := { dst := some 84, op := Op.indexAddr 26 (Operand.tmp 83) (Operand.const (Value.int IntKind.i64 0)), type := 0, pos := "node.go:223", after := #[{ on := 7, ground := Ground.data }, { on := 29, ground := Ground.gcOnly Departure.lateStores }], guard := none }) (v := ?_) rfl (by kernel_rfl) (fun _ _ _ h => h) (by rfl) ?_ ?_
          rotate_left 1
          · (intro w; go_simp; (try with_reducible rfl))
          try simp only [Act.put, List.setIfInBounds_toArray, List.set_cons_zero, List.set_cons_succ]
          refine Rg.takeP (i := 9) (oi := { dst := some 85, op := Op.fieldAddr 25 (Operand.tmp 84) 0, type := 0, pos := "node.go:223", after := #[{ on := 8, ground := Ground.data }, { on := 29, ground := Ground.gcOnly Departure.lateStores }], guard := none }) (v := ?_) rfl (by kernel_rfl) (fun _ _ _ h => h) (by rfl) ?_ ?_
          rotate_left 1
          · (intro w; go_simp; (try with_reducible rfl))
          try simp only [Act.put, List.setIfInBounds_toArray, List.set_cons_zero, List.set_cons_succ]
          refine Rg.takeS (i := 10) (oi := { dst := some 86, op := Op.load 3 (Operand.tmp 85), type := 3, pos := "node.go:223", after := #[{ on := 9, ground := Ground.data }, { on := 29, ground := Ground.gcOnly Departure.lateStores }], guard := none }) (v := ?_) rfl (by kernel_rfl) (fun _ _ _ h => h) (by rfl) HS ?_ ?_
          rotate_left 1
          · (intro w' hSw; have y := (hSw.cell 6).trans c6; go_simp; (try with_reducible rfl))
          try simp only [Act.put, List.setIfInBounds_toArray, List.set_cons_zero, List.set_cons_succ]
          refine Rg.takeP (i := 11) (oi := { dst := some 87, op := Op.fieldAddr 37 (Operand.tmp 2) 3, type := 0, pos := "node.go:223", after := #[{ on := 29, ground := Ground.gcOnly Departure.lateStores }], guard := none }) (v := ?_) rfl (by kernel_rfl) (fun _ _ _ h => h) (by rfl) ?_ ?_
          rotate_left 1
          · (intro w; go_simp; (try with_reducible rfl))
          try simp only [Act.put, List.setIfInBounds_toArray, List.set_cons_zero, List.set_cons_succ]
          refine Rg.takeP (i := 12) (oi := { dst := some 88, op := Op.indexAddr 26 (Operand.tmp 87) (Operand.const (Value.int IntKind.i64 1)), type := 0, pos := "node.go:223", after := #[{ on := 11, ground := Ground.data }, { on := 29, ground := Ground.gcOnly Departure.lateStores }], guard := none }) (v := ?_) rfl (by kernel_rfl) (fun _ _ _ h => h) (by rfl) ?_ ?_
          rotate_left 1
          · (intro w; go_simp; (try with_reducible rfl))
          try simp only [Act.put, List.setIfInBounds_toArray, List.set_cons_zero, List.set_cons_succ]
          refine Rg.takeP (i := 13) (oi := { dst := some 89, op := Op.fieldAddr 25 (Operand.tmp 88) 0, type := 0, pos := "node.go:223", after := #[{ on := 12, ground := Ground.data }, { on := 29, ground := Ground.gcOnly Departure.lateStores }], guard := none }) (v := ?_) rfl (by kernel_rfl) (fun _ _ _ h => h) (by rfl) ?_ ?_
          rotate_left 1
          · (intro w; go_simp; (try with_reducible rfl))
          try simp only [Act.put, List.setIfInBounds_toArray, List.set_cons_zero, List.set_cons_succ]
          refine Rg.takeS (i := 14) (oi := { dst := some 90, op := Op.load 3 (Operand.tmp 89), type := 3, pos := "node.go:223", after := #[{ on := 13, ground := Ground.data }, { on := 29, ground := Ground.gcOnly Departure.lateStores }], guard := none }) (v := ?_) rfl (by kernel_rfl) (fun _ _ _ h => h) (by rfl) HS ?_ ?_
          rotate_left 1
          · (intro w' hSw; have y := (hSw.cell 13).trans c13; go_simp; (try with_reducible rfl))
          try simp only [Act.put, List.setIfInBounds_toArray, List.set_cons_zero, List.set_cons_succ]
          refine Rg.takeP (i := 15) (oi := { dst := some 91, op := Op.fieldAddr 37 (Operand.tmp 2) 3, type := 0, pos := "node.go:223", after := #[{ on := 29, ground := Ground.gcOnly Departure.lateStores }], guard := none }) (v := ?_) rfl (by kernel_rfl) (fun _ _ _ h => h) (by rfl) ?_ ?_
          rotate_left 1
          · (intro w; go_simp; (try with_reducible rfl))
          try simp only [Act.put, List.setIfInBounds_toArray, List.set_cons_zero, List.set_cons_succ]
          refine Rg.takeP (i := 16) (oi := { dst := some 92, op := Op.indexAddr 26 (Operand.tmp 91) (Operand.const (Value.int IntKind.i64 2)), type := 0, pos := "node.go:223", after := #[{ on := 15, ground := Ground.data }, { on := 29, ground := Ground.gcOnly Departure.lateStores }], guard := none }) (v := ?_) rfl (by kernel_rfl) (fun _ _ _ h => h) (by rfl) ?_ ?_
          rotate_left 1
          · (intro w; go_simp; (try with_reducible rfl))
          try simp only [Act.put, List.setIfInBounds_toArray, List.set_cons_zero, List.set_cons_succ]
          refine Rg.takeP (i := 17) (oi := { dst := some 93, op := Op.fieldAddr 25 (Operand.tmp 92) 0, type := 0, pos := "node.go:223", after := #[{ on := 16, ground := Ground.data }, { on := 29, ground := Ground.gcOnly Departure.lateStores }], guard := none }) (v := ?_) rfl (by kernel_rfl) (fun _ _ _ h => h) (by rfl) ?_ ?_
          rotate_left 1
          · (intro w; go_simp; (try with_reducible rfl))
          try simp only [Act.put, List.setIfInBounds_toArray, List.set_cons_zero, List.set_cons_succ]
          refine Rg.takeS (i := 18) (oi := { dst := some 94, op := Op.load 3 (Operand.tmp 93), type := 3, pos := "node.go:223", after := #[{ on := 17, ground := Ground.data }, { on := 29, ground := Ground.gcOnly Departure.lateStores }], guard := none }) (v := ?_) rfl (by kernel_rfl) (fun _ _ _ h => h) (by rfl) HS ?_ ?_
          rotate_left 1
          · (intro w' hSw; have y := (hSw.cell 20).trans c20; go_simp; (try with_reducible rfl))
          try simp only [Act.put, List.setIfInBounds_toArray, List.set_cons_zero, List.set_cons_succ]
          refine Rg.takeP (i := 19) (oi := { dst := some 95, op := Op.build 31 #[(0, Operand.tmp 86), (1, Operand.tmp 90), (2, Operand.tmp 94)], type := 31, pos := "node.go:223", after := #[{ on := 10, ground := Ground.data }, { on := 14, ground := Ground.data }, { on := 18, ground := Ground.data }, { on := 29, ground := Ground.gcOnly Departure.lateStores }], guard := none }) (v := ?_) rfl (by kernel_rfl) (fun _ _ _ h => h) (by rfl) ?_ ?_
          rotate_left 1
          · (intro w; go_simp; (try with_reducible rfl))
          try simp only [Act.put, List.setIfInBounds_toArray, List.set_cons_zero, List.set_cons_succ]
          refine Rg.takeP (i := 20) (oi := { dst := some 96, op := Op.fieldAddr 37 (Operand.tmp 2) 9, type := 0, pos := "node.go:223", after := #[{ on := 29, ground := Ground.gcOnly Departure.lateStores }], guard := none }) (v := ?_) rfl (by kernel_rfl) (fun _ _ _ h => h) (by rfl) ?_ ?_
          rotate_left 1
          · (intro w; go_simp; (try with_reducible rfl))
          try simp only [Act.put, List.setIfInBounds_toArray, List.set_cons_zero, List.set_cons_succ]
          refine Rg.takeS (i := 21) (oi := { dst := some 97, op := Op.load 3 (Operand.tmp 96), type := 3, pos := "node.go:223", after := #[{ on := 20, ground := Ground.data }, { on := 29, ground := Ground.gcOnly Departure.lateStores }], guard := none }) (v := ?_) rfl (by kernel_rfl) (fun _ _ _ h => h) (by rfl) HS ?_ ?_
          rotate_left 1
          · (intro w' hSw; have y := (hSw.cell 70).trans c70; go_simp; (try with_reducible rfl))
          try simp only [Act.put, List.setIfInBounds_toArray, List.set_cons_zero, List.set_cons_succ]
          refine Rg.takeP (i := 22) (oi := { dst := some 98, op := Op.fieldAddr 37 (Operand.tmp 2) 10, type := 0, pos := "node.go:223", after := #[{ on := 29, ground := Ground.gcOnly Departure.lateStores }], guard := none }) (v := ?_) rfl (by kernel_rfl) (fun _ _ _ h => h) (by rfl) ?_ ?_
          rotate_left 1
          · (intro w; go_simp; (try with_reducible rfl))
          try simp only [Act.put, List.setIfInBounds_toArray, List.set_cons_zero, List.set_cons_succ]
          refine Rg.takeP (i := 23) (oi := { dst := some 99, op := Op.fieldAddr 35 (Operand.tmp 98) 1, type := 0, pos := "node.go:223", after := #[{ on := 22, ground := Ground.data }, { on := 29, ground := Ground.gcOnly Departure.lateStores }], guard := none }) (v := ?_) rfl (by kernel_rfl) (fun _ _ _ h => h) (by rfl) ?_ ?_
          rotate_left 1
          · (intro w; go_simp; (try with_reducible rfl))
          try simp only [Act.put, List.setIfInBounds_toArray, List.set_cons_zero, List.set_cons_succ]
          refine Rg.takeS (i := 24) (oi := { dst := some 100, op := Op.load 4 (Operand.tmp 99), type := 4, pos := "node.go:223", after := #[{ on := 23, ground := Ground.data }, { on := 29, ground := Ground.gcOnly Departure.lateStores }], guard := none }) (v := ?_) rfl (by kernel_rfl) (fun _ _ _ h => h) (by rfl) HS ?_ ?_
          rotate_left 1
          · (intro w' hSw; have y := (hSw.cell 72).trans c72; go_simp; (try with_reducible rfl))
          try simp only [Act.put, List.setIfInBounds_toArray, List.set_cons_zero, List.set_cons_succ]
          refine Rg.takeP (i := 25) (oi := { dst := some 101, op := Op.fieldAddr 37 (Operand.tmp 2) 4, type := 0, pos := "node.go:223", after := #[{ on := 29, ground := Ground.gcOnly Departure.lateStores }], guard := none }) (v := ?_) rfl (by kernel_rfl) (fun _ _ _ h => h) (by rfl) ?_ ?_
          rotate_left 1
          · (intro w; go_simp; (try with_reducible rfl))
          try simp only [Act.put, List.setIfInBounds_toArray, List.set_cons_zero, List.set_cons_succ]
          refine Rg.takeP (i := 26) (oi := { dst := some 102, op := Op.fieldAddr 30 (Operand.tmp 101) 0, type := 0, pos := "node.go:223", after := #[{ on := 25, ground := Ground.data }, { on := 29, ground := Ground.gcOnly Departure.lateStores }], guard := none }) (v := ?_) rfl (by kernel_rfl) (fun _ _ _ h => h) (by rfl) ?_ ?_
          rotate_left 1
          · (intro w; go_simp; (try with_reducible rfl))
          try simp only [Act.put, List.setIfInBounds_toArray, List.set_cons_zero, List.set_cons_succ]
          refine Rg.takeS (i := 27) (oi := { dst := some 103, op := Op.load 27 (Operand.tmp 102), type := 27, pos := "node.go:223", after := #[{ on := 26, ground := Ground.data }, { on := 29, ground := Ground.gcOnly Departure.lateStores }], guard := none }) (v := .agg #[.bool i0, .bool i1, .bool i2, .bool i3]) rfl (by kernel_rfl) (fun _ _ _ h => h) (by rfl) HS ?_ ?_
          · (intro w' hSw; rw [← HIn.out]; exact exec_load_mid 27 _ rfl _ 27 4 rfl _ _ (row_range hSw 27 4 (by omega)) Try.underlying27 rfl (by kernel_rfl))
          try simp only [Act.put, List.setIfInBounds_toArray, List.set_cons_zero, List.set_cons_succ]
          refine Rg.takeP (i := 28) (oi := { dst := some 104, op := Op.build 51 #[(0, Operand.tmp 78), (1, Operand.tmp 80), (2, Operand.tmp 82), (3, Operand.tmp 95), (4, Operand.tmp 97), (5, Operand.tmp 100), (6, Operand.tmp 103)], type := 51, pos := "node.go:223", after := #[{ on := 2, ground := Ground.data }, { on := 4, ground := Ground.data }, { on := 6, ground := Ground.data }, { on := 19, ground := Ground.data }, { on := 21, ground := Ground.data }, { on := 24, ground := Ground.data }, { on := 27, ground := Ground.data }, { on := 29, ground := Ground.gcOnly Departure.lateStores }], guard := none }) (v := ?_) rfl (by kernel_rfl) (fun _ _ _ h => h) (by rfl) ?_ ?_
          rotate_left 1
          · (intro w; go_simp; (try with_reducible rfl))
          try simp only [Act.put, List.setIfInBounds_toArray, List.set_cons_zero, List.set_cons_succ]
          refine Rg.oneR (i := 29) (oi := { dst := none, op := Op.store 37 (Operand.tmp 4) (Operand.tmp 76), type := 0, pos := "node.go:223", after := #[{ on := 0, ground := Ground.data }, { on := 0, ground := Ground.phase }, { on := 1, ground := Ground.textOnly Departure.lateStores }, { on := 2, ground := Ground.textOnly Departure.lateStores }, { on := 3, ground := Ground.textOnly Departure.lateStores }, { on := 4, ground := Ground.textOnly Departure.lateStores }, { on := 5, ground := Ground.textOnly Departure.lateStores }, { on := 6, ground := Ground.textOnly Departure.lateStores }, { on := 7, ground := Ground.textOnly Departure.lateStores }, { on := 8, ground := Ground.textOnly Departure.lateStores }, { on := 9, ground := Ground.textOnly Departure.lateStores }, { on := 10, ground := Ground.textOnly Departure.lateStores }, { on := 11, ground := Ground.textOnly Departure.lateStores }, { on := 12, ground := Ground.textOnly Departure.lateStores }, { on := 13, ground := Ground.textOnly Departure.lateStores }, { on := 14, ground := Ground.textOnly Departure.lateStores }, { on := 15, ground := Ground.textOnly Departure.lateStores }, { on := 16, ground := Ground.textOnly Departure.lateStores }, { on := 17, ground := Ground.textOnly Departure.lateStores }, { on := 18, ground := Ground.textOnly Departure.lateStores }, { on := 19, ground := Ground.textOnly Departure.lateStores }, { on := 20, ground := Ground.textOnly Departure.lateStores }, { on := 21, ground := Ground.textOnly Departure.lateStores }, { on := 22, ground := Ground.textOnly Departure.lateStores }, { on := 23, ground := Ground.textOnly Departure.lateStores }, { on := 24, ground := Ground.textOnly Departure.lateStores }, { on := 25, ground := Ground.textOnly Departure.lateStores }, { on := 26, ground := Ground.textOnly Departure.lateStores }, { on := 27, ground := Ground.textOnly Departure.lateStores }, { on := 28, ground := Ground.textOnly Departure.lateStores }], guard := none }) rfl (by kernel_rfl) ?_
          refine Rg.stepS ?_
          intro K hK
          rw [if_pos (by rfl)]
          refine wp_store_row 37 _ _ rfl (w.heap.size + 1) (row 74 (nodeW F (.slice A2 bs.length c2))) rfl rfl 37 _ G6.out i5 z5 o5 ?_
          have G3 := Lib.hid (G3.out.setRow_other (g' := w.heap.size + 1) (by omega) (row 74 (nodeW F (.slice A2 bs.length c2))))
          have G7 := Lib.hid (G7.out.setRow_other (g' := w.heap.size + 1) (by omega) (row 74 (nodeW F (.slice A2 bs.length c2))))
          have G6 := Lib.hid (G6.out.setRow (row 74 (nodeW F (.slice A2 bs.length c2))))
          have HB := Lib.hid (below_setRow HB.out (show w.heap.size ≤ w.heap.size + 1 by omega) (row 74 (nodeW F (.slice A2 bs.length c2))))
          have HW := Lib.hid (own_setRow HW.out (show w.heap.size + 1 < W.heap.size by omega) (row 74 (nodeW F (.slice A2 bs.length c2))))
          clear HS
          generalize (V0.setRow (w.heap.size + 1) (row 74 (nodeW F (.slice A2 bs.length c2)))) = V1 at *
          have HS := G3.out
          refine hK.out _ _ HS ?_
          clear hK K
          try simp only [Act.put, List.setIfInBounds_toArray, List.set_cons_zero, List.set_cons_succ]
          refine Rg.oneR (i := 30) (oi := { dst := none, op := Op.store 51 (Operand.tmp 5) (Operand.tmp 104), type := 0, pos := "node.go:223", after := #[{ on := 28, ground := Ground.data }, { on := 29, ground := Ground.chain }, { on := 0, ground := Ground.phase }, { on := 1, ground := Ground.phase }, { on := 2, ground := Ground.phase }, { on := 3, ground := Ground.phase }, { on := 4, ground := Ground.phase }, { on := 5, ground := Ground.phase }, { on := 6, ground := Ground.phase }, { on := 7, ground := Ground.phase }, { on := 8, ground := Ground.phase }, { on := 9, ground := Ground.phase }, { on := 10, ground := Ground.phase }, { on := 11, ground := Ground.phase }, { on := 12, ground := Ground.phase }, { on := 13, ground := Ground.phase }, { on := 14, ground := Ground.phase }, { on := 15, ground := Ground.phase }, { on := 16, ground := Ground.phase }, { on := 17, ground := Ground.phase }, { on := 18, ground := Ground.phase }, { on := 19, ground := Ground.phase }, { on := 20, ground := Ground.phase }, { on := 21, ground := Ground.phase }, { on := 22, ground := Ground.phase }, { on := 23, ground := Ground.phase }, { on := 24, ground := Ground.phase }, { on := 25, ground := Ground.phase }, { on := 26, ground := Ground.phase }, { on := 27, ground := Ground.phase }, { on := 28, ground := Ground.phase }, { on := 29, ground := Ground.phase }], guard := none }) rfl (by kernel_rfl) ?_
          refine Rg.stepF ?_ ?_
          · kernel_rfl
          intro K hK
          rw [if_pos (by rfl)]
          refine wp_store_row 51 _ _ rfl (w.heap.size + 1 + 1) #[.int .i64 a0, .int .i64 b0, .int .i64 u0, .int .i64 u1, .int .i64 u2, .int .i64 x0, .int .i64 x1, .int .i64 x2, .int .i64 dg, .bool sg, .bool i0, .bool i1, .bool i2, .bool i3] rfl rfl 51 _ G7.out iP rfl oP ?_
          have G6 := Lib.hid (G6.out.setRow_other (g' := w.heap.size + 1 + 1) (by omega) #[.int .i64 a0, .int .i64 b0, .int .i64 u0, .int .i64 u1, .int .i64 u2, .int .i64 x0, .int .i64 x1, .int .i64 x2, .int .i64 dg, .bool sg, .bool i0, .bool i1, .bool i2, .bool i3])
          have G7 := Lib.hid (G7.out.setRow #[.int .i64 a0, .int .i64 b0, .int .i64 u0, .int .i64 u1, .int .i64 u2, .int .i64 x0, .int .i64 x1, .int .i64 x2, .int .i64 dg, .bool sg, .bool i0, .bool i1, .bool i2, .bool i3])
          have HB := Lib.hid (below_setRow HB.out (show w.heap.size ≤ w.heap.size + 1 + 1 by omega) #[.int .i64 a0, .int .i64 b0, .int .i64 u0, .int .i64 u1, .int .i64 u2, .int .i64 x0, .int .i64 x1, .int .i64 x2, .int .i64 dg, .bool sg, .bool i0, .bool i1, .bool i2, .bool i3])
          have HW := Lib.hid (own_setRow HW.out (show w.heap.size + 1 + 1 < W.heap.size by omega) #[.int .i64 a0, .int .i64 b0, .int .i64 u0, .int .i64 u1, .int .i64 u2, .int .i64 x0, .int .i64 x1, .int .i64 x2, .int .i64 dg, .bool sg, .bool i0, .bool i1, .bool i2, .bool i3])
          clear HS
          generalize (V1.setRow (w.heap.size + 1 + 1) #[.int .i64 a0, .int .i64 b0, .int .i64 u0, .int .i64 u1, .int .i64 u2, .int .i64 x0, .int .i64 x1, .int .i64 x2, .int .i64 dg, .bool sg, .bool i0, .bool i1, .bool i2, .bool i3]) = V2 at *
          refine hK.out _ _ ?_
          clear hK K
          try simp only [Act.put, List.setIfInBounds_toArray, List.set_cons_zero, List.set_cons_succ]
          refine Rg.doneR (by kernel_rfl) ?_ _
          refine NoPanic.normal ?_
          go_wp2_with fail
          exact ret_rows2 rfl rfl rfl G6.out ⟨by rw [Try.underlying37], i5⟩ G7.out ⟨by rw [Try.underlying51], iP⟩ rfl ⟨A2, c2, by rw [HOO.out, HFE.out, HRF.out], Rd.of_own HW.out, HB.out, fun a h => Nat.le_trans (by omega) (own_lo HW.out a h), own_cap HW.out⟩
end Go.Proofs.Ytjfllpmiajkenaa.Nd
