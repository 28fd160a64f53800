/- The law NodeCloses returns true: node.Close and the reference's Close answer alike for all computers and messages. Conditions: none. -/
import Derived.Test.YtjfllpmiajkenaaFrame
import Derived.Test.YtjfllpmiajkenaaFacts
import Derived.Test.YtjfllpmiajkenaaCloses
import Derived.Test.YtjfllpmiajkenaaOpenN
namespace Go.Proofs.Ytjfllpmiajkenaa.lawNodeCloses
open Go.ChangeShapes Go.WideShapes Go.ChangeAt Go.RowKit Go.Proofs.Ytjfllpmiajkenaa.Mem Go.Proofs.Ytjfllpmiajkenaa.Rws Go.Proofs.Ytjfllpmiajkenaa.Nd
set_option linter.unusedVariables false
set_option linter.unusedSimpArgs false

set_option maxRecDepth 100000 in
set_option maxHeartbeats 4000000 in
theorem walk (f : Nat → Value) (hf : ∀ i, i < 73 → okT (nodeT i) (f i)) (A : Option Addr) (c : Nat) (bs : List Bool) (AI : Option Addr) (ci : Nat) (ms : List Ms.Msg) (w : World) (hA : A = none → c = 0) (hnc : bs.length ≤ c) (hl : bs.length ≤ 140737488351232) (hr : Rd w w.heap.size 1 A bs.length (boolsV bs)) (hml : ms.length * 48 ≤ 140737488351232) (hm : Ms.MsgsAt w w.heap.size AI ms) :
    Calls Try.prog 4 #[.agg (row 74 (nodeW f (.slice A bs.length c))), .slice AI ms.length ci] w fun e w' => e = .returned (.bool true) ∧ Below w.heap.size w w' := by
  obtain ⟨g, rf, hg, hrf, cS, cR⟩ := closes f hf ms
  obtain ⟨g0, rf0, hg0, hrf0, hr0, cT0⟩ := close_begun
  have cB := fun w' => begun_any w'
  have cT := fun w' => cT0 none 0 [] none 0 w'.heap.size w' (Nat.le_refl _) (fun _ => rfl) (Nat.zero_le _) (by simp) (Rd.nil _ _ _ _) (by simp) (Ms.MsgsAt.nil _ _ _)
  simp only [List.length_nil] at cT
  rw [← last_node 2 1 0 0 0] at cT
  have iRX : (Try.prog.info? 51).map (·.size) = some (row 14 rf).size := by rw [row_size]; kernel_rfl
  have zRX : (#[.int .i64 0, .int .i64 0, .int .i64 0, .int .i64 0, .int .i64 0, .int .i64 0, .int .i64 0, .int .i64 0, .int .i64 0, .bool false, .bool false, .bool false, .bool false, .bool false] : Array Value).size = (row 14 rf).size := by rw [row_size]; rfl
  have oRX := okR_one hrf
  have HTY := Lib.hid (show Flat.Typed repLs ((List.range repLs.length).map rf) from by have h := typed_row repLs 0 rf hrf; simpa using h)
  obtain ⟨RX, hRX⟩ : ∃ R, row 14 rf = R := ⟨_, rfl⟩
  have HRX := Lib.hid hRX
  unfold RepAs at cS cR
  rw [hRX] at iRX zRX oRX cS cR
  have iRY : (Try.prog.info? 51).map (·.size) = some (row 14 rf0).size := by rw [row_size]; kernel_rfl
  have zRY : (#[.int .i64 0, .int .i64 0, .int .i64 0, .int .i64 0, .int .i64 0, .int .i64 0, .int .i64 0, .int .i64 0, .int .i64 0, .bool false, .bool false, .bool false, .bool false, .bool false] : Array Value).size = (row 14 rf0).size := by rw [row_size]; rfl
  have oRY := okR_one hrf0
  have hy0 : (row 14 rf0)[0]? = some (.int .i64 2) := by rw [row_at (by omega), hr0]
  obtain ⟨RY, hRY⟩ : ∃ R, row 14 rf0 = R := ⟨_, rfl⟩
  rw [hRY] at iRY zRY oRY cT hy0
  have HY0 := Lib.hid hy0
  clear hRX hRY hy0 hrf hrf0
  have HF := Lib.hid hf
  generalize row 74 (nodeK 2 1 0 0 0 3) = R0 at cB cT
  have CB := Lib.hid cB
  have CT := Lib.hid cT
  have HG := Lib.hid hg
  have HG0 := Lib.hid hg0
  have HR := Lib.hid hr
  have HM := Lib.hid hm
  have CS := Lib.hid cS
  have CR := Lib.hid cR
  clear cB cT cT0 hf hg hg0 hr hm cS cR
  have i1 : (Try.prog.info? 37).map (·.size) = some (row 74 (nodeW f (.slice A bs.length c))).size := by rw [row_size]; kernel_rfl
  obtain ⟨R1, hR1⟩ : ∃ R1, row 74 (nodeW f (.slice A bs.length c)) = R1 := ⟨_, rfl⟩
  rw [hR1] at i1 ⊢
  have HR1 := Lib.hid hR1
  clear hR1
  go_enter Try.func4, Try.ntmps4
  have B1 : Hid (Blk (w.alloc (.cells R1 37)) w.heap.size 37 R1) := Lib.hid (Blk.fresh _ _ _)
  have HB := Lib.hid ((Below.refl w.heap.size w).alloc (Nat.le_refl _) (.cells R1 37))
  go_wp2_with (refine wpList_whole rfl 37 _ rfl w.heap.size rfl B1.out _ Try.underlying37 rfl i1 ?_)
  rw [← HR1.out]
  refine (copyNode_any f HF.out A c bs w.heap.size _ (by simp) hA hnc hl (HR.out.below (by rw [HR1.out]; exact HB.out))).mono ?_
  rintro e w1 ⟨A2, c2, rfl, hown, hb⟩
  rw [HR1.out] at hb ⊢
  obtain ⟨ha2, hc2⟩ := own_cap hown
  have H2 := Lib.hid (Rd.of_own hown)
  have B1 := Lib.hid (B1.out.below hb B1.out.lt)
  have HB := Lib.hid (onward HB.out (Nat.le_refl _) hb)
  clear hb hown
  obtain ⟨R2, hR2⟩ : ∃ R2, row 74 (nodeW f (.slice A2 bs.length c2)) = R2 := ⟨_, rfl⟩
  rw [hR2]
  have HR2 := Lib.hid hR2
  clear hR2
  go_wp2_with fail
  refine (Ms.messages_any AI ci ms w.heap.size _ HB.out.size hml (HM.out.below HB.out)).mono ?_
  rintro e w2 ⟨AM, cm, rfl, hom, hb⟩
  have HM2 := Lib.hid hom.at.1
  have B1 := Lib.hid (B1.out.below hb B1.out.lt)
  have H2 := Lib.hid ((H2.out.below hb).more hb.size)
  have HB := Lib.hid (onward HB.out (Nat.le_refl _) hb)
  clear hb hom
  go_wp2_with fail
  rw [← HR2.out]
  refine (CS.out A2 c2 bs AM cm w2.heap.size _ (Nat.le_refl _) ha2 hc2 hl H2.out (by omega) HM2.out).mono ?_
  rintro e w3 ⟨A3, c3, rfl, h3, hb, l3, ha3, hc3⟩
  rw [HR2.out]
  have H3 := Lib.hid h3
  have B1 := Lib.hid (B1.out.below hb B1.out.lt)
  have HB := Lib.hid (onward HB.out (Nat.le_refl _) hb)
  clear hb h3 l3 H2 HM2 ha2 hc2
  have i3 : (Try.prog.info? 37).map (·.size) = some (row 74 (nodeW g (.slice A3 bs.length c3))).size := by rw [row_size]; kernel_rfl
  have z3 : (Try.zeroCells37).size = (row 74 (nodeW g (.slice A3 bs.length c3))).size := by rw [row_size]; kernel_rfl
  have o3 := one_of HG.out (A := A3) (n := bs.length) (c := c3)
  obtain ⟨R3, hR3⟩ : ∃ R3, row 74 (nodeW g (.slice A3 bs.length c3)) = R3 := ⟨_, rfl⟩
  rw [hR3] at i3 z3 o3 ⊢
  have HR3 := Lib.hid hR3
  clear hR3
  have F1 : Hid (Blk ((w3.alloc (.cells Try.zeroCells37 37)).alloc (.cells #[.int .i64 0, .int .i64 0, .int .i64 0, .int .i64 0, .int .i64 0, .int .i64 0, .int .i64 0, .int .i64 0, .int .i64 0, .bool false, .bool false, .bool false, .bool false, .bool false] 51)) w3.heap.size 37 Try.zeroCells37) := Lib.hid ((Blk.fresh _ _ _).alloc _)
  have F2 : Hid (Blk (((w3.alloc (.cells Try.zeroCells37 37)).alloc (.cells #[.int .i64 0, .int .i64 0, .int .i64 0, .int .i64 0, .int .i64 0, .int .i64 0, .int .i64 0, .int .i64 0, .int .i64 0, .bool false, .bool false, .bool false, .bool false, .bool false] 51)).setRow w3.heap.size R3) (w3.heap.size + 1) 51 #[.int .i64 0, .int .i64 0, .int .i64 0, .int .i64 0, .int .i64 0, .int .i64 0, .int .i64 0, .int .i64 0, .int .i64 0, .bool false, .bool false, .bool false, .bool false, .bool false]) := Lib.hid ((Blk.new (by simp)).setRow_other (by omega) R3)
  obtain ⟨bel3, bn3, bm3, bs3⟩ := two_cells w3 37 51 Try.zeroCells37 #[.int .i64 0, .int .i64 0, .int .i64 0, .int .i64 0, .int .i64 0, .int .i64 0, .int .i64 0, .int .i64 0, .int .i64 0, .bool false, .bool false, .bool false, .bool false, .bool false] R3 RX
  have BEL := Lib.hid bel3
  have BN3 := Lib.hid bn3
  have BM3 := Lib.hid bm3
  clear bel3 bn3 bm3
  go_upto_region 2 with (first | (refine wpList_store_row rfl 37 _ _ rfl w3.heap.size R3 rfl rfl 37 _ F1.out i3 z3 o3 ?_) | (refine wpList_store_row rfl 51 _ _ rfl (w3.heap.size + 1) RX rfl rfl 51 _ F2.out iRX zRX oRX ?_))
  clear F1 F2
  generalize ((((w3.alloc (.cells Try.zeroCells37 37)).alloc (.cells #[.int .i64 0, .int .i64 0, .int .i64 0, .int .i64 0, .int .i64 0, .int .i64 0, .int .i64 0, .int .i64 0, .int .i64 0, .bool false, .bool false, .bool false, .bool false, .bool false] 51)).setRow w3.heap.size R3).setRow (w3.heap.size + 1) RX) = w3v at *
  obtain ⟨p3, hp3⟩ : ∃ p, w3.heap.size = p := ⟨_, rfl⟩
  rw [hp3] at BN3 BM3 bs3 ⊢
  have HB := Lib.hid (onward HB.out (Nat.le_refl _) BEL.out)
  have B1 := Lib.hid (B1.out.below BEL.out B1.out.lt)
  have H3 := Lib.hid ((H3.out.below BEL.out).more BEL.out.size)
  clear BEL
  go_wp2_with (refine wpList_whole rfl 37 _ rfl w.heap.size rfl B1.out _ Try.underlying37 rfl i1 ?_)
  rw [← HR1.out]
  refine (CR.out A c bs AI ci w.heap.size _ HB.out.size hA hnc hl (HR.out.below HB.out) (by omega) (HM.out.below HB.out)).mono ?_
  rintro e w4 ⟨A5, c5, rfl, h5, hb, l5, ha5, hc5⟩
  rw [HR1.out]
  have H5 := Lib.hid h5
  have HB := Lib.hid (onward HB.out (Nat.le_refl _) hb)
  have BN3 := Lib.hid (BN3.out.below hb BN3.out.lt)
  have BM3 := Lib.hid (BM3.out.below hb BM3.out.lt)
  have H3 := Lib.hid ((H3.out.below hb).more hb.size)
  clear h5 hb l5 B1
  have i5 : (Try.prog.info? 37).map (·.size) = some (row 74 (nodeW g (.slice A5 bs.length c5))).size := by rw [row_size]; kernel_rfl
  have z5 : (Try.zeroCells37).size = (row 74 (nodeW g (.slice A5 bs.length c5))).size := by rw [row_size]; kernel_rfl
  have o5 := one_of HG.out (A := A5) (n := bs.length) (c := c5)
  obtain ⟨R5, hR5⟩ : ∃ R5, row 74 (nodeW g (.slice A5 bs.length c5)) = R5 := ⟨_, rfl⟩
  rw [hR5] at i5 z5 o5 ⊢
  have HR5 := Lib.hid hR5
  clear hR5
  have F1 : Hid (Blk ((w4.alloc (.cells Try.zeroCells37 37)).alloc (.cells #[.int .i64 0, .int .i64 0, .int .i64 0, .int .i64 0, .int .i64 0, .int .i64 0, .int .i64 0, .int .i64 0, .int .i64 0, .bool false, .bool false, .bool false, .bool false, .bool false] 51)) w4.heap.size 37 Try.zeroCells37) := Lib.hid ((Blk.fresh _ _ _).alloc _)
  have F2 : Hid (Blk (((w4.alloc (.cells Try.zeroCells37 37)).alloc (.cells #[.int .i64 0, .int .i64 0, .int .i64 0, .int .i64 0, .int .i64 0, .int .i64 0, .int .i64 0, .int .i64 0, .int .i64 0, .bool false, .bool false, .bool false, .bool false, .bool false] 51)).setRow w4.heap.size R5) (w4.heap.size + 1) 51 #[.int .i64 0, .int .i64 0, .int .i64 0, .int .i64 0, .int .i64 0, .int .i64 0, .int .i64 0, .int .i64 0, .int .i64 0, .bool false, .bool false, .bool false, .bool false, .bool false]) := Lib.hid ((Blk.new (by simp)).setRow_other (by omega) R5)
  obtain ⟨bel5, bn5, bm5, bs5⟩ := two_cells w4 37 51 Try.zeroCells37 #[.int .i64 0, .int .i64 0, .int .i64 0, .int .i64 0, .int .i64 0, .int .i64 0, .int .i64 0, .int .i64 0, .int .i64 0, .bool false, .bool false, .bool false, .bool false, .bool false] R5 RX
  have BEL := Lib.hid bel5
  have BN5 := Lib.hid bn5
  have BM5 := Lib.hid bm5
  clear bel5 bn5 bm5
  go_upto_region 3 with (first | (refine wpList_store_row rfl 37 _ _ rfl w4.heap.size R5 rfl rfl 37 _ F1.out i5 z5 o5 ?_) | (refine wpList_store_row rfl 51 _ _ rfl (w4.heap.size + 1) RX rfl rfl 51 _ F2.out iRX zRX oRX ?_))
  clear F1 F2
  generalize ((((w4.alloc (.cells Try.zeroCells37 37)).alloc (.cells #[.int .i64 0, .int .i64 0, .int .i64 0, .int .i64 0, .int .i64 0, .int .i64 0, .int .i64 0, .int .i64 0, .int .i64 0, .bool false, .bool false, .bool false, .bool false, .bool false] 51)).setRow w4.heap.size R5).setRow (w4.heap.size + 1) RX) = w4v at *
  obtain ⟨p5, hp5⟩ : ∃ p, w4.heap.size = p := ⟨_, rfl⟩
  rw [hp5] at BN5 BM5 bs5 ⊢
  have HB := Lib.hid (onward HB.out (Nat.le_refl _) BEL.out)
  have BN3 := Lib.hid (BN3.out.below BEL.out BN3.out.lt)
  have BM3 := Lib.hid (BM3.out.below BEL.out BM3.out.lt)
  have H3 := Lib.hid ((H3.out.below BEL.out).more BEL.out.size)
  have H5 := Lib.hid ((H5.out.below BEL.out).more BEL.out.size)
  clear BEL
  go_wp2_with fail
  refine (CB.out _).mono ?_
  rintro e w5 ⟨rfl, hb⟩
  have HB := Lib.hid (onward HB.out (Nat.le_refl _) hb)
  have BN3 := Lib.hid (BN3.out.below hb BN3.out.lt)
  have BM3 := Lib.hid (BM3.out.below hb BM3.out.lt)
  have BN5 := Lib.hid (BN5.out.below hb BN5.out.lt)
  have BM5 := Lib.hid (BM5.out.below hb BM5.out.lt)
  have H3 := Lib.hid ((H3.out.below hb).more hb.size)
  have H5 := Lib.hid ((H5.out.below hb).more hb.size)
  clear hb
  go_wp2_with fail
  refine (CT.out _).mono ?_
  rintro e w6 ⟨A7, c7, rfl, h7, hb, l7, ha7, hc7⟩
  have HB := Lib.hid (onward HB.out (Nat.le_refl _) hb)
  have BN3 := Lib.hid (BN3.out.below hb BN3.out.lt)
  have BM3 := Lib.hid (BM3.out.below hb BM3.out.lt)
  have BN5 := Lib.hid (BN5.out.below hb BN5.out.lt)
  have BM5 := Lib.hid (BM5.out.below hb BM5.out.lt)
  have H3 := Lib.hid ((H3.out.below hb).more hb.size)
  have H5 := Lib.hid ((H5.out.below hb).more hb.size)
  clear h7 hb l7
  have i7 : (Try.prog.info? 37).map (·.size) = some (row 74 (nodeW g0 (.slice A7 ([] : List Bool).length c7))).size := by rw [row_size]; kernel_rfl
  have z7 : (Try.zeroCells37).size = (row 74 (nodeW g0 (.slice A7 ([] : List Bool).length c7))).size := by rw [row_size]; kernel_rfl
  have o7 := one_of HG0.out (A := A7) (n := ([] : List Bool).length) (c := c7)
  obtain ⟨R7, hR7⟩ : ∃ R7, row 74 (nodeW g0 (.slice A7 ([] : List Bool).length c7)) = R7 := ⟨_, rfl⟩
  rw [hR7] at i7 z7 o7 ⊢
  have HR7 := Lib.hid hR7
  clear hR7
  have F1 : Hid (Blk ((w6.alloc (.cells Try.zeroCells37 37)).alloc (.cells #[.int .i64 0, .int .i64 0, .int .i64 0, .int .i64 0, .int .i64 0, .int .i64 0, .int .i64 0, .int .i64 0, .int .i64 0, .bool false, .bool false, .bool false, .bool false, .bool false] 51)) w6.heap.size 37 Try.zeroCells37) := Lib.hid ((Blk.fresh _ _ _).alloc _)
  have F2 : Hid (Blk (((w6.alloc (.cells Try.zeroCells37 37)).alloc (.cells #[.int .i64 0, .int .i64 0, .int .i64 0, .int .i64 0, .int .i64 0, .int .i64 0, .int .i64 0, .int .i64 0, .int .i64 0, .bool false, .bool false, .bool false, .bool false, .bool false] 51)).setRow w6.heap.size R7) (w6.heap.size + 1) 51 #[.int .i64 0, .int .i64 0, .int .i64 0, .int .i64 0, .int .i64 0, .int .i64 0, .int .i64 0, .int .i64 0, .int .i64 0, .bool false, .bool false, .bool false, .bool false, .bool false]) := Lib.hid ((Blk.new (by simp)).setRow_other (by omega) R7)
  obtain ⟨bel7, bn7, bm7, bs7⟩ := two_cells w6 37 51 Try.zeroCells37 #[.int .i64 0, .int .i64 0, .int .i64 0, .int .i64 0, .int .i64 0, .int .i64 0, .int .i64 0, .int .i64 0, .int .i64 0, .bool false, .bool false, .bool false, .bool false, .bool false] R7 RY
  have BEL := Lib.hid bel7
  have BN7 := Lib.hid bn7
  have BM7 := Lib.hid bm7
  clear bel7 bn7 bm7
  go_upto_region 4 with (first | (refine wpList_store_row rfl 37 _ _ rfl w6.heap.size R7 rfl rfl 37 _ F1.out i7 z7 o7 ?_) | (refine wpList_store_row rfl 51 _ _ rfl (w6.heap.size + 1) RY rfl rfl 51 _ F2.out iRY zRY oRY ?_))
  clear F1 F2
  generalize ((((w6.alloc (.cells Try.zeroCells37 37)).alloc (.cells #[.int .i64 0, .int .i64 0, .int .i64 0, .int .i64 0, .int .i64 0, .int .i64 0, .int .i64 0, .int .i64 0, .int .i64 0, .bool false, .bool false, .bool false, .bool false, .bool false] 51)).setRow w6.heap.size R7).setRow (w6.heap.size + 1) RY) = w6v at *
  obtain ⟨p7, hp7⟩ : ∃ p, w6.heap.size = p := ⟨_, rfl⟩
  rw [hp7] at BN7 BM7 bs7 ⊢
  have HB := Lib.hid (onward HB.out (Nat.le_refl _) BEL.out)
  have BN3 := Lib.hid (BN3.out.below BEL.out BN3.out.lt)
  have BM3 := Lib.hid (BM3.out.below BEL.out BM3.out.lt)
  have BN5 := Lib.hid (BN5.out.below BEL.out BN5.out.lt)
  have BM5 := Lib.hid (BM5.out.below BEL.out BM5.out.lt)
  have H3 := Lib.hid ((H3.out.below BEL.out).more BEL.out.size)
  have H5 := Lib.hid ((H5.out.below BEL.out).more BEL.out.size)
  clear BEL
  refine wp_region_list ?_
  refine wpList_whole (by rfl) 37 _ rfl p3 rfl BN3.out _ Try.underlying37 rfl i3 ?_
  try simp only [Act.put, List.setIfInBounds_toArray, List.set_cons_zero, List.set_cons_succ]
  refine wpList_whole (by rfl) 37 _ rfl p5 rfl BN5.out _ Try.underlying37 rfl i5 ?_
  try simp only [Act.put, List.setIfInBounds_toArray, List.set_cons_zero, List.set_cons_succ]
  refine wpList_wanted (by rfl) (fun K hK => ?_)
  go_simp
  go_at_call 18
  rw [← HR3.out, ← HR5.out]
  refine (sameNode_any g HG.out A3 A5 c3 c5 bs w6v.heap.size w6v (Nat.le_refl _) (by omega) H3.out H5.out).mono ?_
  rintro e w7 ⟨rfl, hb⟩
  rw [HR3.out, HR5.out]
  have HB := Lib.hid (onward HB.out (Nat.le_refl _) hb)
  have BM3 := Lib.hid (BM3.out.below hb BM3.out.lt)
  have BM5 := Lib.hid (BM5.out.below hb BM5.out.lt)
  have BM7 := Lib.hid (BM7.out.below hb BM7.out.lt)
  clear hb BN3 BN5 H3 H5
  refine hK _ _ ?_
  clear hK K
  try simp only [Act.put, List.setIfInBounds_toArray, List.set_cons_zero, List.set_cons_succ]
  refine wpList_wanted (by rfl) (fun K hK => ?_)
  go_simp
  refine hK _ _ ?_
  clear hK K
  try simp only [Act.put, List.setIfInBounds_toArray, List.set_cons_zero, List.set_cons_succ]
  refine wpList_whole (by rfl) 51 _ rfl (p3 + 1) rfl BM3.out _ Try.underlying51 rfl iRX ?_
  try simp only [Act.put, List.setIfInBounds_toArray, List.set_cons_zero, List.set_cons_succ]
  refine wpList_whole (by rfl) 51 _ rfl (p5 + 1) rfl BM5.out _ Try.underlying51 rfl iRX ?_
  try simp only [Act.put, List.setIfInBounds_toArray, List.set_cons_zero, List.set_cons_succ]
  rw [← HRX.out]
  refine wpList_eql (by rfl) 51 _ _ _ rfl (d := 20) (ls := repLs) (by kernel_rfl) (by omega) Try.underlying51 rfl (by kernel_rfl) (by kernel_rfl) rf rfl rfl HTY.out ?_
  try simp only [Act.put, List.setIfInBounds_toArray, List.set_cons_zero, List.set_cons_succ]
  have y1 := (BM7.out.cell 0).trans HY0.out
  clear BM3 BM5
  go_wp2_with fail
  go_ret
  exact ⟨rfl, HB.out⟩
set_option maxRecDepth 100000 in
set_option maxHeartbeats 1000000 in
theorem lifted (os : Os) (started : os.Started) (H : Type) (enc : TypeId × Value → H) :
    ReturnsInHanded {} Try.checked os 4 .any (Rows.nodeClosesSpec.pre6 enc Try.prog Try.f4 Rows.nodeClosesRow.domain false) (Rows.nodeClosesSpec.post enc Try.prog Try.f4 false true false false) := by
  refine returnsInHanded_of_change_sized (C := Try.checked) Fr.own started (by kernel_rfl) Try.func4
    (ChangeSpec.witness6 (enc := enc) (C := Try.checked) false ⟨#[], #[.agg Try.zeroCells37, .slice none 0 0], []⟩ 8 (by kernel_rfl) (by kernel_rfl) (by kernel_rfl) (by kernel_rfl)) ?_
  intro W base args ds gs before hval0 hW _ hsz0 _
  have hval : ∀ (j : Nat) t v, Try.f4.params[j]? = some t → args[j]? = some v → Value.okWide Try.prog W .any base t v := hval0
  have hsz : (DataW.weightsEach Try.prog (Try.f4.params.toList ++ Rows.nodeClosesSpec.plain.varTypes Try.prog) (ds ++ gs)).all (· ≤ reachBytes) = true := hsz0
  clear hval0 hsz0
  obtain ⟨p, q, hA0, hV0, _⟩ := id hW
  have hA : DataW.TrodAll enc Try.prog W 0 (fun _ => true) true Try.f4.params.toList args.toList ds p := hA0
  rw [Try.params4] at hA hval hsz
  obtain ⟨v0, vs0, d0, ds0, p0, q0, hargs, rfl, rfl, h0, r0⟩ := trodAll_cons hA
  obtain ⟨v1, vs1, d1, ds1, p1, q1, rfl, rfl, rfl, h1, r1⟩ := trodAll_cons r0
  obtain ⟨rfl, rfl, rfl⟩ := trodAll_nil r1
  obtain rfl : args = #[v0, v1] := by cases args; simp_all
  obtain ⟨rfl, rfl⟩ := trodVars_none hV0
  refine Fr.of_walk (f := Try.f4) Fr.laidOut (by rw [Try.params4]; intro t ht; simp at ht; (first | (rcases ht with rfl | rfl | rfl | rfl | rfl | rfl) | (rcases ht with rfl | rfl | rfl | rfl | rfl) | (rcases ht with rfl | rfl | rfl | rfl) | (rcases ht with rfl | rfl | rfl) | (rcases ht with rfl | rfl) | (subst ht)) <;> exact ⟨by kernel_rfl, of_decide_eq_true (by kernel_rfl)⟩) rfl rfl Try.underlying4 (fun _ => rfl) hW ?_
  clear hW hA hA0 hV0
  obtain ⟨f, A, c, bs, rfl, hf, hnc, hc, hA, hr⟩ := Op.openNode (hval 0 37 v0 rfl rfl) h0 (Op.light_of_each (j := 0) hsz rfl rfl)
  obtain ⟨AI, ci, ms, rfl, hmc, hmb, _, hm⟩ := Ms.openMsgs (hval 1 38 v1 rfl rfl) h1 (Op.light_of_each (j := 1) hsz rfl rfl)
  exact walk f hf A c bs AI ci ms W hA hnc (by omega) hr (by omega) hm

theorem closedFacts : joinedFacts Try.prog 4 Try.f4 Rows.nodeClosesSpec Rows.nodeClosesRow = true := by
  unfold joinedFacts
  simp only [Bool.and_eq_true]
  refine ⟨⟨⟨⟨⟨⟨⟨⟨⟨⟨⟨⟨⟨⟨⟨⟨⟨⟨⟨⟨⟨⟨⟨⟨⟨⟨⟨⟨⟨⟨⟨?_, ?_⟩, ?_⟩, ?_⟩, ?_⟩, ?_⟩, ?_⟩, ?_⟩, ?_⟩, ?_⟩, ?_⟩, ?_⟩, ?_⟩, ?_⟩, ?_⟩, ?_⟩, ?_⟩, ?_⟩, ?_⟩, ?_⟩, ?_⟩, ?_⟩, ?_⟩, ?_⟩, ?_⟩, ?_⟩, ?_⟩, ?_⟩, ?_⟩, ?_⟩, ?_⟩, ?_⟩
  · as_aux_lemma => kernel_rfl
  · exact Fr.laidOut
  · exact Facts.mapsRowed_
  · as_aux_lemma => kernel_rfl
  · as_aux_lemma => kernel_rfl
  · as_aux_lemma => kernel_rfl
  · exact Facts.stops_
  · as_aux_lemma => kernel_rfl
  · exact Facts.knobs_
  · as_aux_lemma => kernel_rfl
  · as_aux_lemma => kernel_rfl
  · as_aux_lemma => kernel_rfl
  · as_aux_lemma => kernel_rfl
  · as_aux_lemma => kernel_rfl
  · as_aux_lemma => kernel_rfl
  · as_aux_lemma => kernel_rfl
  · as_aux_lemma => kernel_rfl
  · as_aux_lemma => kernel_rfl
  · as_aux_lemma => kernel_rfl
  · as_aux_lemma => kernel_rfl
  · as_aux_lemma => kernel_rfl
  · as_aux_lemma => kernel_rfl
  · exact Facts.keys_
  · as_aux_lemma => kernel_rfl
  · exact Facts.heard_
  · exact Facts.enter_
  · exact Facts.lifts_
  · exact Facts.make_
  · as_aux_lemma => kernel_rfl
  · as_aux_lemma => kernel_rfl
  · as_aux_lemma => kernel_rfl
  · as_aux_lemma => kernel_rfl

theorem proved : Rows.NodeClosesSaid :=
  OpenClaim.holds_of_wide 4 Try.f4 rfl rfl rfl rfl rfl rfl rfl ⟨rfl, rfl, rfl, rfl, rfl⟩ rfl rfl rfl rfl rfl (by kernel_rfl) Try.func4 closedFacts
    (of_decide_eq_true (by kernel_rfl)) (by unfold Func.isWrapper; first | (rw [if_pos (by decide +kernel)]; kernel_rfl) | (rw [if_neg (by decide +kernel)]; exact ⟨rfl, rfl⟩))
    (fun os started H enc _ => lifted os started H enc)

end Go.Proofs.Ytjfllpmiajkenaa.lawNodeCloses
