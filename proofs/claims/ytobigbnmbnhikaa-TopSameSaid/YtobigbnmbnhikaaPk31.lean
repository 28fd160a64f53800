/- The law TopSame returns true: in every run with one and the same faulty computer all others know the same behind each frame. Conditions: none. -/
import Derived.Test.YtobigbnmbnhikaaPk0
import Derived.Test.YtobigbnmbnhikaaPk30
set_option linter.unusedVariables false
set_option linter.unusedSimpArgs false
namespace Go.Proofs.Ytobigbnmbnhikaa
namespace lawTopSame
open Go.ChangeShapes Go.WideShapes Go.ChangeAt Go.RowKit Mem Rws Nd Cl Cf
set_option maxRecDepth 100000 in
set_option maxHeartbeats 4000000 in
theorem walk (t0 t1 t2 t3 : Int) (ht : Wf t0 ∧ Wf t1 ∧ Wf t2 ∧ Wf t3) (A : Option Addr) (c : Nat) (xs : List InS) (hxl : xs.length ≤ 1099511627776) (hxw : ∀ x ∈ xs, (∀ i, i < 12 → Wf (x.rd i)) ∧ Wf x.bad) (bad : Int) (hbad : -9223372036854775808 ≤ bad ∧ bad ≤ 9223372036854775807) (w : World) (h : InsAt w w.heap.size A xs) :
  Calls Try.prog 3 #[.agg #[.int .i64 t0, .int .i64 t1, .int .i64 t2, .int .i64 t3], .slice A xs.length c, .int .i64 bad] w fun e w' => e = .returned (.bool true) ∧ Below w.heap.size w w' := by
 have HIN := Lib.hid h
 have B3 := Lib.hid (show Blk (w.alloc (.cells #[.int .i64 t0, .int .i64 t1, .int .i64 t2, .int .i64 t3] 23)) w.heap.size 23 #[.int .i64 t0, .int .i64 t1, .int .i64 t2, .int .i64 t3] from Blk.fresh _ _ _)
 have hb : Below w.heap.size w (w.alloc (.cells #[.int .i64 t0, .int .i64 t1, .int .i64 t2, .int .i64 t3] 23)) := (Below.refl _ _).alloc (Nat.le_refl _) _; have HB := Lib.hid hb; have HIN := Lib.hid ((HIN.out.below hb).more hb.size); clear h hb
 go_enter Try.func3, Try.ntmps3
 go_wp2_with fail; refine (spot_any bad 5 hbad (.inr rfl) _).mono ?_; rintro e w1 ⟨r, hr0, hr5, rfl, rfl⟩; obtain ⟨bd, hbd⟩ : ∃ b, r - 1 = b := ⟨_, rfl⟩
 have hwr : IntKind.i64.wrap (r - 1) = bd := by rw [IntKind.wrap_i64]; omega
 have hol : (ones bd xs).length ≤ 200 := by rw [ones_len]; omega
 have HGI := Lib.hid (ones_good (bad := bd) (xs := xs) (by omega) hxw); clear hbd hr0 hr5 hbad hxw
 go_upto_region 2 with fail
 generalize (w.alloc (.cells #[.int .i64 t0, .int .i64 t1, .int .i64 t2, .int .i64 t3] 23)) = w1 at *
 obtain ⟨gt, hgt⟩ : ∃ g, w.heap.size = g := ⟨_, rfl⟩; have HGT := Lib.hid hgt; rw [hgt] at B3 HB ⊢; clear hgt; have hb : Below w1.heap.size w1 w1.drew := (Below.refl _ _).drew; have HB := Lib.hid (onward HB.out (Nat.le_of_eq HGT.out.symm) hb); have B3 := Lib.hid (B3.out.below hb B3.out.lt); have HIN := Lib.hid ((HIN.out.below hb).more hb.size); clear hb; refine wp_region_noPanic ?_; have HSS : Blk w1.drew gt 23 #[.int .i64 t0, .int .i64 t1, .int .i64 t2, .int .i64 t3] := B3.out; refine Rg.beginR [0] (fun w' => Blk w' gt 23 #[.int .i64 t0, .int .i64 t1, .int .i64 t2, .int .i64 t3]) (by kernel_rfl) ?_
 generalize w1.drew = wv at *
 refine Rg.ts 0 ⟨some 18, .load 23 (.tmp 3), _, _, _, none⟩ (v := .agg #[.int .i64 t0, .int .i64 t1, .int .i64 t2, .int .i64 t3]) rfl HSS ?_ ?_
 · (intro w' hSw; exact exec_load_row 23 _ rfl _ rfl hSw Try.underlying23 rfl (by kernel_rfl))
 try simp only [Rg.lp]
 refine Rg.tp 1 ⟨some 19, .move (.tmp 1), _, _, _, none⟩ (v := ?_) rfl ?_ ?_; rotate_left 1
 · (intro w; go_simp; (try with_reducible rfl))
 try simp only [Rg.lp]
 refine Rg.tp 2 ⟨some 20, .move (.tmp 2), _, _, _, none⟩ (v := ?_) rfl ?_ ?_; rotate_left 1
 · (intro w; go_simp; (try with_reducible rfl))
 try simp only [Rg.lp]
 refine Rg.or1 3 ⟨some 21, .call { callee := .value (.func 11), args := #[.tmp 19, .tmp 20], argTypes := _ }, _, _, _, none⟩ rfl ?_; refine Rg.stepS ?_; intro K hK; rw [if_pos (by rfl)]; go_simp; clear HSS; refine (one_any A c xs bd wv hxl HIN.out).mono ?_; rintro e w4 ⟨A4, c4, rfl, ha4, hc4, hin4, hb⟩; have HIN4 := Lib.hid hin4; have HB := Lib.hid (onward HB.out (Nat.le_of_eq HGT.out.symm) hb); have B3 := Lib.hid (B3.out.below hb B3.out.lt); clear hin4 hb
 generalize wv = wq at *
 generalize w4 = wv at *
 have HSS : Blk wv gt 23 #[.int .i64 t0, .int .i64 t1, .int .i64 t2, .int .i64 t3] := B3.out; refine hK.out _ _ HSS ?_; clear hK K; try simp only [Rg.lp]
 refine Rg.or1 4 ⟨some 22, .call { callee := .value (.func 10), args := #[.tmp 18, .tmp 21], argTypes := _ }, _, _, _, none⟩ rfl ?_; refine Rg.stepF ?_ ?_
 · kernel_rfl
 intro K hK; rw [if_pos (by rfl)]; go_simp; clear HSS; refine (behind_any t0 t1 t2 t3 ht A4 c4 (ones bd xs) HGI.out.1 wv HIN4.out).mono ?_; rintro e w4 ⟨CA, CC, OA, OC, cs, os, rfl, hoc, hci, hoo, hri, hb⟩; have HOC := Lib.hid hoc; have HCI := Lib.hid hci; have HB := Lib.hid (onward HB.out (Nat.le_of_eq HGT.out.symm) hb); clear hoc hci hoo hri hb
 generalize wv = wq at *
 generalize w4 = wv at *
 refine hK.out _ _ ?_; clear hK K; try simp only [Rg.lp]
 refine Rg.tp 5 ⟨some 17, .move (.tmp 22), _, _, _, none⟩ (v := ?_) rfl ?_ ?_; rotate_left 1
 · (intro w; go_simp; (try with_reducible rfl))
 try simp only [Rg.lp]
 refine Rg.tp 6 ⟨some 23, .extract (.tmp 17) 0, _, _, _, none⟩ (v := ?_) rfl ?_ ?_; rotate_left 1
 · (intro w; go_simp; (try with_reducible rfl))
 try simp only [Rg.lp]
 refine Rg.tp 7 ⟨some 24, .extract (.tmp 17) 1, _, _, _, none⟩ (v := ?_) rfl ?_ ?_; rotate_left 1
 · (intro w; go_simp; (try with_reducible rfl))
 try simp only [Rg.lp]
 refine Rg.tp 8 ⟨some 25, .extract (.tmp 17) 2, _, _, _, none⟩ (v := ?_) rfl ?_ ?_; rotate_left 1
 · (intro w; go_simp; (try with_reducible rfl))
 try simp only [Rg.lp]
 refine Rg.tp 9 ⟨some 7, .assign (.tmp 23), _, _, _, none⟩ (v := ?_) rfl ?_ ?_; rotate_left 1
 · (intro w; go_simp; (try with_reducible rfl))
 try simp only [Rg.lp]
 refine Rg.tp 10 ⟨some 8, .assign (.tmp 24), _, _, _, none⟩ (v := ?_) rfl ?_ ?_; rotate_left 1
 · (intro w; go_simp; (try with_reducible rfl))
 try simp only [Rg.lp]
 refine Rg.tp 11 ⟨some 9, .assign (.tmp 25), _, _, _, none⟩ (v := ?_) rfl ?_ ?_; rotate_left 1
 · (intro w; go_simp; (try with_reducible rfl))
 try simp only [Rg.lp]
 refine Rg.doneR (by kernel_rfl) ?_ _; refine NoPanic.normal ?_; clear HIN HIN4 B3
 go_upto_region 3 with fail
 go_wp2_with fail; refine (alive_any _).mono ?_; rintro e w6 ⟨rfl, hb⟩; have HOC := Lib.hid (ownsRow_below HOC.out hb); have HCI := Lib.hid (HCI.out.below hb); have HB := Lib.hid (onward HB.out (Nat.le_of_eq HGT.out.symm) hb); clear hb; go_wp2_with fail
 go_loopw [34] (fun v wr => ∃ j : Nat, j ≤ (ones bd xs).length ∧ v = .int .i64 (j : Int) ∧ Below w6.heap.size w6 wr) (fun v _ => (ones bd xs).length - (intOf v).toNat)
 case atStart => exact ⟨0, by omega, rfl, Below.refl _ _⟩
 case round =>
  obtain ⟨j, hj, rfl, hbr⟩ := hrel; have HBR := Lib.hid hbr; clear hbr
  by_cases hlj : j < (ones bd xs).length
  ·
   have hj0 : (0 : Int) ≤ (j : Int) := by omega
   have hj1 : (j : Int) < ((ones bd xs).length : Int) := by omega
   obtain ⟨b, o, VA, VC, rfl, hbl, hrg, hvo⟩ := clus_at HOC.out HCI.out hlj
   have HRG := Lib.hid (show wr.rangeAt b (o + j * 297) ((List.range 297).map (cluCell (runS t0 t1 t2 t3 (ones bd xs) (j + 1)).fr (runS t0 t1 t2 t3 (ones bd xs) (j + 1)).F (verOf VA (runS t0 t1 t2 t3 (ones bd xs) (j + 1)).V VC))) from fun k v hv => (HBR.out.cell (p := ⟨b, o + j * 297 + k, none⟩) hbl).trans (hrg k v hv))
   have HVO := Lib.hid (hvo.below HBR.out); clear hrg hvo
   have iN : (Try.prog.info? 48).map (·.size) = some (row 297 (cluCell (runS t0 t1 t2 t3 (ones bd xs) (j + 1)).fr (runS t0 t1 t2 t3 (ones bd xs) (j + 1)).F (verOf VA (runS t0 t1 t2 t3 (ones bd xs) (j + 1)).V VC))).size := by rw [row_size]; kernel_rfl
   have zN : (Try.zeroCells48).size = (row 297 (cluCell (runS t0 t1 t2 t3 (ones bd xs) (j + 1)).fr (runS t0 t1 t2 t3 (ones bd xs) (j + 1)).F (verOf VA (runS t0 t1 t2 t3 (ones bd xs) (j + 1)).V VC))).size := by rw [row_size]; kernel_rfl
   have oN := row_one (cluCell_one (sane_run ht HGI.out.1 (j + 1) (by omega)).ok (runS t0 t1 t2 t3 (ones bd xs) (j + 1)).fr (runS t0 t1 t2 t3 (ones bd xs) (j + 1)).V VA VC); obtain ⟨RN, hRN⟩ : ∃ R, row 297 (cluCell (runS t0 t1 t2 t3 (ones bd xs) (j + 1)).fr (runS t0 t1 t2 t3 (ones bd xs) (j + 1)).F (verOf VA (runS t0 t1 t2 t3 (ones bd xs) (j + 1)).V VC)) = R := ⟨_, rfl⟩; rw [hRN] at iN zN oN; have HRN := Lib.hid hRN; have F1 : Hid (Blk (wr.alloc (.cells Try.zeroCells48 48)) wr.heap.size 48 Try.zeroCells48) := Lib.hid (Blk.fresh _ _ _)
   go_upto_region 8 with (first
    | (refine wpList_rng rfl 48 _ rfl b (o + j * 297) 297 rfl (cluCell (runS t0 t1 t2 t3 (ones bd xs) (j + 1)).fr (runS t0 t1 t2 t3 (ones bd xs) (j + 1)).F (verOf VA (runS t0 t1 t2 t3 (ones bd xs) (j + 1)).V VC)) HRG.out _ Try.underlying48 rfl (by kernel_rfl) ?_; rw [hRN])
    | (refine wpList_store_row rfl 48 _ _ rfl wr.heap.size RN rfl rfl 48 _ F1.out iN zN oN ?_))
   have hbn := below_setRow ((Below.refl wr.heap.size wr).alloc (Nat.le_refl _) (.cells Try.zeroCells48 48)) (Nat.le_refl _) RN; have HBS := Lib.hid (onward HBR.out (Nat.le_refl _) hbn); have HVS := Lib.hid (HVO.out.below hbn); have B11 := Lib.hid (F1.out.setRow RN); clear hRN F1 hbn HRG iN zN oN HVO HBR
   generalize ((wr.alloc (.cells Try.zeroCells48 48)).setRow wr.heap.size RN) = wp at *
   obtain ⟨g11, hg11⟩ : ∃ g, wr.heap.size = g := ⟨_, rfl⟩; rw [hg11] at B11 ⊢; clear hg11; rw [← HRN.out] at B11; clear HRN
   generalize wr = wr0 at *
   go_wp2_with fail
   go_loopw [12] (fun v wr => ∃ p : Nat, p ≤ 4 ∧ v = .int .i64 (p : Int) ∧ Below wp.heap.size wp wr) (fun v _ => 4 - (intOf v).toNat)
   case atStart => exact ⟨0, by omega, rfl, Below.refl _ _⟩
   case round =>
    obtain ⟨p, hp, rfl, hbp⟩ := hrel; have HBP := Lib.hid hbp; clear hbp
    by_cases hp4 : p < 4
    ·
     have hp0 : (0 : Int) ≤ (p : Int) := by omega
     have hp1 : (p : Int) < 4 := by omega
     generalize wr = wr1 at *
     go_wp2_with fail
     go_loopw [13] (fun v wr => ∃ q : Nat, q ≤ 4 ∧ v = .int .i64 (q : Int) ∧ Below wp.heap.size wp wr) (fun v _ => 4 - (intOf v).toNat)
     case atStart => exact ⟨0, by omega, rfl, HBP.out⟩
     case round =>
      obtain ⟨q, hq, rfl, hbq⟩ := hrel; have HBQ := Lib.hid hbq; clear hbq
      by_cases hq4 : q < 4
      ·
       have hq0 : (0 : Int) ≤ (q : Int) := by omega
       have hq1 : (q : Int) < 4 := by omega
       by_cases hpb : (p : Int) = bd
       ·
        have hpt : ((p : Int) != bd) = false := by simp [hpb]
        go_upto_region 14 with fail
        have hqr : Below wr.heap.size wr wr := Below.refl _ _
        go_quiet (fail)
        go_wp2_with fail; exact ⟨⟨q + 1, by omega, by go_num, below_drewN HBQ.out _⟩, by simp [intOf]; omega⟩
       ·
        have hpt : ((p : Int) != bd) = true := by simp [hpb]
        by_cases hqb : (q : Int) = bd
        ·
         have hqt : ((q : Int) != bd) = false := by simp [hqb]
         go_upto_region 14 with fail
         have hqr : Below wr.heap.size wr wr := Below.refl _ _
         go_quiet (fail)
         go_wp2_with fail; exact ⟨⟨q + 1, by omega, by go_num, below_drewN HBQ.out _⟩, by simp [intOf]; omega⟩
        ·
         have hqt : ((q : Int) != bd) = true := by simp [hqb]
         go_upto_region 14 with fail
         have hbq : Below wr.heap.size wr wr.drew := (Below.refl _ _).drew; have HBQ := Lib.hid (onward HBQ.out (Nat.le_refl _) hbq); clear hbq; refine wp_region_noPanic ?_; have HSS : Blk wr.drew g11 48 (row 297 (cluCell (runS t0 t1 t2 t3 (ones bd xs) (j + 1)).fr (runS t0 t1 t2 t3 (ones bd xs) (j + 1)).F (verOf VA (runS t0 t1 t2 t3 (ones bd xs) (j + 1)).V VC))) := B11.out.below HBQ.out B11.out.lt; refine Rg.beginR [12, 16] (fun w' => Blk w' g11 48 (row 297 (cluCell (runS t0 t1 t2 t3 (ones bd xs) (j + 1)).fr (runS t0 t1 t2 t3 (ones bd xs) (j + 1)).F (verOf VA (runS t0 t1 t2 t3 (ones bd xs) (j + 1)).V VC)))) (by kernel_rfl) ?_
         generalize wr.drew = wv at *
         refine Rg.tp 0 ⟨some 46, .move (.tmp 12), _, _, _, none⟩ (v := ?_) rfl ?_ ?_; rotate_left 1
         · (intro w; go_simp; (try with_reducible rfl))
         try simp only [Rg.lp]
         refine Rg.tp 1 ⟨some 47, .move (.tmp 2), _, _, _, none⟩ (v := ?_) rfl ?_ ?_; rotate_left 1
         · (intro w; go_simp; (try with_reducible rfl))
         try simp only [Rg.lp]
         refine Rg.tp 2 ⟨some 48, .binOp .neq 3 (.tmp 46) (.tmp 47) 3, _, _, _, none⟩ (v := ?_) rfl ?_ ?_; rotate_left 1
         · (intro w; go_simp; (try with_reducible rfl))
         try simp only [Rg.lp]
         refine Rg.tp 3 ⟨some 49, .move (.tmp 48), _, _, _, none⟩ (v := ?_) rfl ?_ ?_; rotate_left 1
         · (intro w; go_simp; (try with_reducible rfl))
         try simp only [Rg.lp]
         refine Rg.tp 4 ⟨some 50, .move (.tmp 13), _, _, _, some (3, true)⟩ (v := ?_) rfl ?_ ?_; rotate_left 1
         · (intro w; go_simp; (try with_reducible rfl))
         try simp only [Rg.lp]
         refine Rg.tp 5 ⟨some 51, .move (.tmp 2), _, _, _, some (3, true)⟩ (v := ?_) rfl ?_ ?_; rotate_left 1
         · (intro w; go_simp; (try with_reducible rfl))
         try simp only [Rg.lp]
         refine Rg.tp 6 ⟨some 52, .binOp .neq 3 (.tmp 50) (.tmp 51) 3, _, _, _, some (3, true)⟩ (v := ?_) rfl ?_ ?_; rotate_left 1
         · (intro w; go_simp; (try with_reducible rfl))
         try simp only [Rg.lp]
         refine Rg.tp 7 ⟨some 53, .pick (.tmp 49) (.tmp 52) (.const (.bool false)), _, _, _, none⟩ (v := ?_) rfl ?_ ?_; rotate_left 1
         · (intro w; go_simp; (try with_reducible rfl))
         try simp only [Rg.lp]
         refine Rg.tp 8 ⟨some 54, .move (.tmp 53), _, _, _, none⟩ (v := ?_) rfl ?_ ?_; rotate_left 1
         · (intro w; go_simp; (try with_reducible rfl))
         try simp only [Rg.lp]
         refine Rg.tp 9 ⟨some 55, .move (.tmp 12), _, _, _, some (8, true)⟩ (v := ?_) rfl ?_ ?_; rotate_left 1
         · (intro w; go_simp; (try with_reducible rfl))
         try simp only [Rg.lp]
         refine Rg.tp 10 ⟨some 56, .fieldAddr 48 (.tmp 11) 1, _, _, _, some (8, true)⟩ (v := ?_) rfl ?_ ?_; rotate_left 1
         · (intro w; go_simp; (try with_reducible rfl))
         try simp only [Rg.lp]
         refine Rg.tp 11 ⟨some 57, .indexAddr 46 (.tmp 56) (.tmp 55), _, _, _, some (8, true)⟩ (v := ?_) rfl ?_ ?_; rotate_left 1
         · (intro w; go_simp; (try with_reducible rfl))
         try simp only [Rg.lp]
         refine Rg.ts 12 ⟨some 58, .load 45 (.tmp 57), _, _, _, some (8, true)⟩ (v := .agg (row 74 (nodeW ((runS t0 t1 t2 t3 (ones bd xs) (j + 1)).F p) (.slice (VA p) ((runS t0 t1 t2 t3 (ones bd xs) (j + 1)).V p).length (VC p))))) rfl HSS ?_ ?_
         · (intro w' hSw; exact exec_load_mid 45 _ rfl g11 (1 + p * 74) 74 rfl _ _ (node_range hSw (show p < 4 by omega)) Try.underlying45 rfl (by kernel_rfl))
         try simp only [Rg.lp]
         refine Rg.tp 13 ⟨some 59, .move (.tmp 13), _, _, _, some (8, true)⟩ (v := ?_) rfl ?_ ?_; rotate_left 1
         · (intro w; go_simp; (try with_reducible rfl))
         try simp only [Rg.lp]
         refine Rg.tp 14 ⟨some 60, .fieldAddr 48 (.tmp 11) 1, _, _, _, some (8, true)⟩ (v := ?_) rfl ?_ ?_; rotate_left 1
         · (intro w; go_simp; (try with_reducible rfl))
         try simp only [Rg.lp]
         refine Rg.tp 15 ⟨some 61, .indexAddr 46 (.tmp 60) (.tmp 59), _, _, _, some (8, true)⟩ (v := ?_) rfl ?_ ?_; rotate_left 1
         · (intro w; go_simp; (try with_reducible rfl))
         try simp only [Rg.lp]
         refine Rg.ts 16 ⟨some 62, .load 45 (.tmp 61), _, _, _, some (8, true)⟩ (v := .agg (row 74 (nodeW ((runS t0 t1 t2 t3 (ones bd xs) (j + 1)).F q) (.slice (VA q) ((runS t0 t1 t2 t3 (ones bd xs) (j + 1)).V q).length (VC q))))) rfl HSS ?_ ?_
         · (intro w' hSw; exact exec_load_mid 45 _ rfl g11 (1 + q * 74) 74 rfl _ _ (node_range hSw (show q < 4 by omega)) Try.underlying45 rfl (by kernel_rfl))
         try simp only [Rg.lp]
         refine Rg.or1 17 ⟨some 63, .call { callee := .value (.func 13), args := #[.tmp 58, .tmp 62], argTypes := _ }, _, _, _, some (8, true)⟩ rfl ?_; refine Rg.stepF ?_ ?_
         · kernel_rfl
         intro K hK; rw [if_pos (by rfl)]; go_simp; clear HSS
         have htw := twins_run ht HGI.out.1 HGI.out.2 (show j < (ones bd xs).length from hlj) hp4 hq4 hpb hqb
         rw [show ((runS t0 t1 t2 t3 (ones bd xs) (j + 1)).V q).length = ((runS t0 t1 t2 t3 (ones bd xs) (j + 1)).V p).length by rw [htw.2]]
         refine (twins_any ((runS t0 t1 t2 t3 (ones bd xs) (j + 1)).F p) ((runS t0 t1 t2 t3 (ones bd xs) (j + 1)).F q) ((sane_run ht HGI.out.1 (j + 1) (by omega)).ok p hp4) htw.1 (VA p) (VA q) (VC p) (VC q) ((runS t0 t1 t2 t3 (ones bd xs) (j + 1)).V p) wv (by have := (sane_run ht HGI.out.1 (j + 1) (by omega)).v p hp4; omega) (((HVS.out p hp4).2.2.1.below HBQ.out).more HBQ.out.size) (by rw [htw.2]; exact ((HVS.out q hq4).2.2.1.below HBQ.out).more HBQ.out.size)).mono ?_; rintro e w4 ⟨rfl, hb⟩; have HBQ := Lib.hid (onward HBQ.out (Nat.le_refl _) hb); clear hb htw; refine hK.out _ _ ?_; clear hK K; try simp only [Rg.lp]
         refine Rg.tp 18 ⟨some 64, .unOp UnOp.not 4 (.tmp 63), _, _, _, some (8, true)⟩ (v := ?_) rfl ?_ ?_; rotate_left 1
         · (intro w; go_simp; (try with_reducible rfl))
         try simp only [Rg.lp]
         refine Rg.tp 19 ⟨some 65, .pick (.tmp 54) (.tmp 64) (.const (.bool false)), _, _, _, none⟩ (v := ?_) rfl ?_ ?_; rotate_left 1
         · (intro w; go_simp; (try with_reducible rfl))
         try simp only [Rg.lp]
         refine Rg.doneR (by kernel_rfl) ?_ _; refine NoPanic.normal ?_; go_wp2_with fail; exact ⟨⟨q + 1, by omega, by go_num, HBQ.out⟩, by simp [intOf]; omega⟩
      ·
       obtain rfl : q = 4 := by omega
       clear hq4; go_wp2_with fail; exact ⟨⟨p + 1, by omega, by go_num, HBQ.out⟩, by simp [intOf]; omega⟩
    ·
     obtain rfl : p = 4 := by omega
     clear hp4; go_wp2_with fail; exact ⟨⟨j + 1, by omega, by go_num, onward HBS.out (Nat.le_refl _) HBP.out⟩, by simp [intOf]; omega⟩
  ·
   obtain rfl : j = (ones bd xs).length := by omega
   clear hlj; go_wp2_with fail
   go_ret
   exact ⟨rfl, by rw [HGT.out]; exact onward HB.out (Nat.le_of_eq HGT.out.symm) HBR.out⟩
set_option maxRecDepth 100000 in
set_option maxHeartbeats 1000000 in
theorem lifted (os : Os) (started : os.Started) (H : Type) (enc : TypeId × Value → H) :
  ReturnsInHanded {} Try.checked os 3 .any (Rows.topSameSpec.pre6 enc Try.prog Try.f3 Rows.topSameRow.domain false) (Rows.topSameSpec.post enc Try.prog Try.f3 false true false false) := by
 refine returnsInHanded_of_change_sized (C := Try.checked) Fr.own started (by kernel_rfl) Try.func3
  (ChangeSpec.witness6 (enc := enc) (C := Try.checked) false ⟨#[], #[.agg #[.int .i64 0, .int .i64 0, .int .i64 0, .int .i64 0], .slice none 0 0, .int .i64 0], []⟩ 8 (by kernel_rfl) (by kernel_rfl) (by kernel_rfl) (by kernel_rfl)) ?_
 intro W base args ds gs before hval0 hW _ hsz0 _; have hval : ∀ (j : Nat) t v, Try.f3.params[j]? = some t → args[j]? = some v → Value.okWide Try.prog W .any base t v := hval0; have hsz : (DataW.weightsEach Try.prog (Try.f3.params.toList ++ Rows.topSameSpec.plain.varTypes Try.prog) (ds ++ gs)).all (· ≤ reachBytes) = true := hsz0; clear hval0 hsz0; obtain ⟨p, q, hA0, hV0, _⟩ := id hW; have hA : DataW.TrodAll enc Try.prog W 0 (fun _ => true) true Try.f3.params.toList args.toList ds p := hA0; rw [Try.params3] at hA hval hsz; obtain ⟨v0, vs0, d0, ds0, p0, q0, hargs, rfl, rfl, h0, r0⟩ := trodAll_cons hA; obtain ⟨v1, vs1, d1, ds1, p1, q1, rfl, rfl, rfl, h1, r1⟩ := trodAll_cons r0; obtain ⟨v2, vs2, d2, ds2, p2, q2, rfl, rfl, rfl, h2, r2⟩ := trodAll_cons r1; obtain ⟨rfl, rfl, rfl⟩ := trodAll_nil r2
 obtain rfl : args = #[v0, v1, v2] := by cases args; simp_all
 obtain ⟨rfl, rfl⟩ := trodVars_none hV0
 refine Fr.of_walk (f := Try.f3) Fr.laidOut (by rw [Try.params3]; intro t ht; simp at ht; (first | (rcases ht with rfl | rfl | rfl | rfl | rfl | rfl) | (rcases ht with rfl | rfl | rfl | rfl | rfl) | (rcases ht with rfl | rfl | rfl | rfl) | (rcases ht with rfl | rfl | rfl) | (rcases ht with rfl | rfl) | (subst ht)) <;> exact ⟨by kernel_rfl, of_decide_eq_true (by kernel_rfl)⟩) rfl rfl Try.underlying4 (fun _ => rfl) hW ?_
 clear hW hA hA0 hV0; obtain ⟨cs0, rfl⟩ := Op.okWide_agg (t := 23) (by kernel_rfl) (hval 0 23 v0 rfl rfl); have k0 := Op.flat_arg (ls := [3,3,3,3]) (by kernel_rfl) h0 (Op.light_of_each (j := 0) hsz rfl rfl); obtain ⟨y0_0, l0, e0, f0_0, k0⟩ := k0.cons; obtain ⟨y0_1, l0, rfl, f0_1, k0⟩ := k0.cons; obtain ⟨y0_2, l0, rfl, f0_2, k0⟩ := k0.cons; obtain ⟨y0_3, l0, rfl, f0_3, k0⟩ := k0.cons; obtain rfl := k0.nil_; obtain rfl := Op.arr_of e0; obtain ⟨t0, rfl, wf_t0⟩ := f0_0.int Try.underlying3; obtain ⟨t1, rfl, wf_t1⟩ := f0_1.int Try.underlying3; obtain ⟨t2, rfl, wf_t2⟩ := f0_2.int Try.underlying3; obtain ⟨t3, rfl, wf_t3⟩ := f0_3.int Try.underlying3; obtain ⟨AI, ci, xs, rfl, hxc, hxb, _, hxs, hxw⟩ := Cf.openInputs (hval 1 24 v1 rfl rfl) h1 (Op.light_of_each (j := 1) hsz rfl rfl); obtain ⟨bad, rfl, rfl, rfl, wf_bad⟩ := open_int Try.underlying3 (hval 2 3 v2 rfl rfl) h2; have bd_bad := Op.wf_i64 wf_bad; exact walk t0 t1 t2 t3 ⟨wf_t0, wf_t1, wf_t2, wf_t3⟩ AI ci xs (by omega) hxw bad bd_bad W hxs
set_option maxHeartbeats 2000000 in
theorem closedFacts : joinedFacts Try.prog 3 Try.f3 Rows.topSameSpec Rows.topSameRow = true := by
 unfold joinedFacts
 simp only [Bool.and_eq_true]; refine ⟨⟨⟨⟨⟨⟨⟨⟨⟨⟨⟨⟨⟨⟨⟨⟨⟨⟨⟨⟨⟨⟨⟨⟨⟨⟨⟨⟨⟨⟨⟨?_, ?_⟩, ?_⟩, ?_⟩, ?_⟩, ?_⟩, ?_⟩, ?_⟩, ?_⟩, ?_⟩, ?_⟩, ?_⟩, ?_⟩, ?_⟩, ?_⟩, ?_⟩, ?_⟩, ?_⟩, ?_⟩, ?_⟩, ?_⟩, ?_⟩, ?_⟩, ?_⟩, ?_⟩, ?_⟩, ?_⟩, ?_⟩, ?_⟩, ?_⟩, ?_⟩, ?_⟩
 · as_aux_lemma => kernel_rfl
 · exact Fr.laidOut
 · exact Facts.mapsRowed_
 · as_aux_lemma => kernel_rfl
 · as_aux_lemma => kernel_rfl
 · as_aux_lemma => kernel_rfl
 · exact Facts.stops_
 · as_aux_lemma => kernel_rfl
 · exact Facts.knobs_
 · as_aux_lemma => kernel_rfl
 · as_aux_lemma => kernel_rfl
 · as_aux_lemma => kernel_rfl
 · as_aux_lemma => kernel_rfl
 · as_aux_lemma => kernel_rfl
 · as_aux_lemma => kernel_rfl
 · as_aux_lemma => kernel_rfl
 · as_aux_lemma => kernel_rfl
 · as_aux_lemma => kernel_rfl
 · as_aux_lemma => kernel_rfl
 · as_aux_lemma => kernel_rfl
 · as_aux_lemma => kernel_rfl
 · as_aux_lemma => kernel_rfl
 · exact Facts.keys_
 · as_aux_lemma => kernel_rfl
 · exact Facts.heard_
 · exact Facts.enter_
 · exact Facts.lifts_
 · exact Facts.make_
 · as_aux_lemma => kernel_rfl
 · as_aux_lemma => kernel_rfl
 · as_aux_lemma => kernel_rfl
 · as_aux_lemma => kernel_rfl
theorem proved : Rows.TopSameSaid :=
 OpenClaim.holds_of_wide 3 Try.f3 rfl rfl rfl rfl rfl rfl rfl ⟨rfl, rfl, rfl, rfl, rfl⟩ rfl rfl rfl rfl rfl (by kernel_rfl) Try.func3 closedFacts
  (of_decide_eq_true (by kernel_rfl)) (by unfold Func.isWrapper; first | (rw [if_pos (by decide +kernel)]; kernel_rfl) | (rw [if_neg (by decide +kernel)]; exact ⟨rfl, rfl⟩))
  (fun os started H enc _ => lifted os started H enc)
end lawTopSame
end Go.Proofs.Ytobigbnmbnhikaa
