import Derived.Test.YtobigbnmbnhikaaPb0
import Derived.Test.YtobigbnmbnhikaaPbc16
import Derived.Test.YtobigbnmbnhikaaPb11
import Derived.Test.YtobigbnmbnhikaaPb8
import Derived.Test.YtobigbnmbnhikaaPb9
import Derived.Test.YtobigbnmbnhikaaPbc20
set_option linter.unusedVariables false
set_option linter.unusedSimpArgs false
namespace Go.Proofs.Ytobigbnmbnhikaa
namespace Nd
open Go.RowKit Mem Rws Flat BigW
set_option maxRecDepth 100000 in
set_option maxHeartbeats 8000000 in
theorem decide_any (f : Nat → Value) (hf : ∀ i, i < 73 → okT (nodeT i) (f i)) (k : Nat) (hk : k < 4) (hid : f 0 = .int .i64 (k : Int)) (fr : Int) (hfr : f 1 = .int .i64 fr) (A : Option Addr) (c : Nat) (bs : List Bool) (AI : Option Addr) (ci : Nat) (ms : List Ms.Msg) (B : Nat) (w : World) (hB : B ≤ w.heap.size) (hA : A = none → c = 0) (hnc : bs.length ≤ c) (hl : bs.length ≤ 140737488351232) (hr : Rd w B 1 A bs.length (boolsV bs)) (hml : ms.length ≤ 140737488355328) (hm : Ms.MsgsAt w B AI ms) (hw : ∀ i z, i < 73 → f i = .int .i64 z → Wf z) (hmw : ∀ m ∈ ms, ∀ z ∈ m.zs, Wf z) :
  Calls Try.prog 24 #[.agg (row 74 (nodeW f (.slice A bs.length c))), .slice AI ms.length ci] w fun e w' => NodeMsg w w' (decF k (agreedZ k fr ms f) f) bs 3 (k : Int) fr [digestZ (decG f (agreedZ k fr ms f) allP 3 3)] e := by
 have hone : ∀ (A : Option Addr) (n c : Nat), (row 74 (nodeW f (.slice A n c))).all (·.oneCell') = true := fun A n c => one_of hf; have HWF := zz (wf_agreed hf hw hmw k fr); have HSI := zz (fun a (ha : a < 3) => st_in hf hw a ha); have HTI := zz (fun i (hi : 2 ≤ i ∧ i < 6) => tun_in hf hw i hi); clear hw hmw; have HO := zz hone; have HF := zz hf; have HID := zz hid; have HFR := zz hfr; clear hf hone hid hfr
 go_enter Try.func24, Try.ntmps24
 go_upto_region 1 with fail
 have D3 : Hid (Blk (((w.alloc (.cells (row 74 (nodeW f (.slice A bs.length c))) 45)).alloc (.cells Try.zeroCells45 45)).alloc (.cells #[.int .i64 0, .int .i64 0, .int .i64 0, .slice none 0 0] 71)) w.heap.size 45 (row 74 (nodeW f (.slice A bs.length c)))) := zz (((Blk.new rfl).alloc _).alloc _); have D6 : Hid (Blk (((w.alloc (.cells (row 74 (nodeW f (.slice A bs.length c))) 45)).alloc (.cells Try.zeroCells45 45)).alloc (.cells #[.int .i64 0, .int .i64 0, .int .i64 0, .slice none 0 0] 71)) (w.heap.size + 1) 45 Try.zeroCells45) := zz ((Blk.new (by simp)).alloc _); have D7 : Hid (Blk (((w.alloc (.cells (row 74 (nodeW f (.slice A bs.length c))) 45)).alloc (.cells Try.zeroCells45 45)).alloc (.cells #[.int .i64 0, .int .i64 0, .int .i64 0, .slice none 0 0] 71)) (w.heap.size + 1 + 1) 71 #[.int .i64 0, .int .i64 0, .int .i64 0, .slice none 0 0]) := zz (Blk.new (by simp)); have HB := zz (((((Below.refl w.heap.size w).alloc (Nat.le_refl _) (.cells (row 74 (nodeW f (.slice A bs.length c))) 45)).alloc (by simp) (.cells Try.zeroCells45 45)).alloc (by simp; omega) (.cells #[.int .i64 0, .int .i64 0, .int .i64 0, .slice none 0 0] 71))); have HR := zz hr; have HMS := zz hm; clear hr hm
 generalize (((w.alloc (.cells (row 74 (nodeW f (.slice A bs.length c))) 45)).alloc (.cells Try.zeroCells45 45)).alloc (.cells #[.int .i64 0, .int .i64 0, .int .i64 0, .slice none 0 0] 71)) = W at *
 have hi74 : ∀ A (n : Nat) c, (Try.prog.info? 45).map (·.size) = some (row 74 (nodeW f (.slice A n c))).size := fun A n c => by rw [row_size]; kernel_rfl
 have HI := zz hi74; clear hi74; have hwz : w.heap.size + 1 + 1 < W.heap.size := D7.out.lt; have hia := HI.out A bs.length c; obtain ⟨R1, hR1⟩ : ∃ R1, row 74 (nodeW f (.slice A bs.length c)) = R1 := ⟨_, rfl⟩; have HR1 := zz hR1; rw [hR1] at D3 hia; clear hR1
 go_wp2_with (refine wpList_whole rfl 45 _ rfl w.heap.size rfl D3.out _ Try.underlying45 rfl hia ?_)
 rw [← HR1.out]; refine (copied_any f HF.out A c bs B _ (Nat.le_trans hB HB.out.size) hA hnc hl (HR.out.below (HB.out.mono hB))).mono ?_; rintro e w1 ⟨A2, c2, rfl, hown, hb1⟩; rw [HR1.out]; have HW1 := zz hown; have HB1 := zz (onward HB.out (Nat.le_refl _) hb1); have hsz := hb1.size; have hi2 := HI.out A2 bs.length c2; have h12 := HO.out A2 bs.length c2
 have h20 : (row 74 (nodeW f (.slice A2 bs.length c2)))[0]? = some (.int .i64 (k : Int)) := by rw [row_at (by omega)]; exact congrArg some HID.out
 have h21 : (row 74 (nodeW f (.slice A2 bs.length c2)))[1]? = some (.int .i64 fr) := by rw [row_at (by omega)]; exact congrArg some HFR.out
 have hs2 : R1.size = (row 74 (nodeW f (.slice A2 bs.length c2))).size := by rw [← HR1.out, row_size, row_size]
 obtain ⟨R2, hR2⟩ : ∃ R2, row 74 (nodeW f (.slice A2 bs.length c2)) = R2 := ⟨_, rfl⟩; have HR2 := zz hR2; rw [hR2] at hi2 h12 h20 h21 hs2 ⊢; clear hR2; have E3 := zz (D3.out.below hb1 D3.out.lt); have F3 := zz (E3.out.setRow R2); have F6 := zz ((D6.out.below hb1 D6.out.lt).setRow_other (g' := w.heap.size) (by omega) R2); have F7 := zz ((D7.out.below hb1 D7.out.lt).setRow_other (g' := w.heap.size) (by omega) R2); have HB2 := zz (below_setRow HB1.out (Nat.le_refl _) R2)
 have HW2 := zz (own_setRow HW1.out (show w.heap.size < W.heap.size by omega) R2)
 have cT := fun w => strange_any R2 (k : Int) h20 w
 have hk0 : ¬ ((k : Int) < 0) := by omega
 have hbk : badId (k : Int) = false := by unfold badId; simp; omega
 rw [hbk] at cT; clear hb1 hown hbk
 go_upto_region 4 with (first
  | (refine wpList_store_row rfl 45 _ _ rfl w.heap.size R2 rfl rfl 45 _ E3.out hi2 hs2 h12 ?_)
  | (refine wpList_whole rfl 45 _ rfl w.heap.size rfl F3.out _ Try.underlying45 rfl hi2 ?_)
  | (go_at_call 37; refine (cT _).mono ?_; rintro e w3 ⟨rfl, hb3⟩; have G3 := zz (F3.out.below hb3 F3.out.lt); have G6 := zz (F6.out.below hb3 F6.out.lt); have G7 := zz (F7.out.below hb3 F7.out.lt); have HB3 := zz (onward HB2.out (Nat.le_refl _) hb3); have HW3 := zz (ownsRow_below HW2.out hb3); have hz3 := Nat.le_trans hsz (Nat.le_trans (show w1.heap.size ≤ (w1.setRow w.heap.size R2).heap.size from (below_setRow (Below.refl 0 w1) (Nat.zero_le _) R2).size) hb3.size); clear hb3))
 clear HB HB1 HB2 HW1 HW2 D3 D6 D7 E3 F3 F6 F7 cT hs2; have cH := Ms.hear_any R2 (k : Int) fr h20 h21 AI ci ms 2 12 (by omega) B w3 (Nat.le_trans hB HB3.out.size) hml (HMS.out.below (HB3.out.mono hB))
 rw [show ((12 : Nat) : Int) = 12 from rfl] at cH
 have CH := zz cH; clear cH
 go_wp2_with (refine wpList_whole rfl 45 _ rfl w.heap.size rfl G3.out _ Try.underlying45 rfl hi2 ?_)
 refine CH.out.mono ?_; rintro e w4 ⟨s, rfl, hs, hb⟩; have o4 : (row 4 s).all (·.oneCell') = true := row_one fun i hi => (hs i hi).one
 have i4 : (Try.prog.info? 101).map (·.size) = some (row 4 s).size := by rw [row_size]; kernel_rfl
 have z4 : (#[.slice none 0 0, .slice none 0 0, .slice none 0 0, .slice none 0 0] : Array Value).size = (row 4 s).size := by rw [row_size]; rfl
 have HK3 : Hid (NK w w.heap.size A2 c2 bs w3) := zz ⟨HB3.out, G6.out, G7.out, own_weaken HW3.out (by omega)⟩; have HK := zz (HK3.out.step hb); have G3 := zz (G3.out.below hb G3.out.lt)
 have HS0 := zz (fun i hi => (hs i hi).keep (fun n xs h => own_weaken h (show w.heap.size + 1 + 1 + 1 ≤ w3.heap.size from G7.out.lt)))
 have HZ3 := zz (show w.heap.size + 1 + 1 + 1 ≤ w4.heap.size from Nat.le_trans G7.out.lt hb.size)
 rw [← HR2.out] at G3; clear hs hb HW3 HB3 CH h12 hi2 HR hz3 HK3 G6 G7; obtain ⟨R4, hR4⟩ : ∃ R4, row 4 s = R4 := ⟨_, rfl⟩; rw [hR4] at o4 i4 z4 ⊢; have HR4 := zz hR4; clear hR4; have HH0 := zz (Blk.fresh w4 101 #[.slice none 0 0, .slice none 0 0, .slice none 0 0, .slice none 0 0])
 go_upto_region 5 with (refine wpList_store_row rfl 101 _ _ rfl w4.heap.size R4 rfl rfl 101 _ HH0.out i4 z4 o4 ?_)
 have HH := zz (HH0.out.setRow R4); have hb5 : Below w4.heap.size w4 ((w4.alloc (.cells #[.slice none 0 0, .slice none 0 0, .slice none 0 0, .slice none 0 0] 101)).setRow w4.heap.size R4) := below_setRow ((Below.refl _ _).alloc (Nat.le_refl _) _) (Nat.le_refl _) R4; have G3 := zz (G3.out.below hb5 G3.out.lt); have HK := zz (HK.out.step hb5); have HS := zz (fun i hi => (HS0.out i hi).below hb5); clear hb5 HS0 HH0
 generalize ((w4.alloc (.cells #[.slice none 0 0, .slice none 0 0, .slice none 0 0, .slice none 0 0] 101)).setRow w4.heap.size R4) = w5 at *
 obtain ⟨gh, hgh⟩ : ∃ g, w4.heap.size = g := ⟨_, rfl⟩; rw [hgh] at HH HZ3 ⊢; clear hgh; have HD : Hid (DK w w.heap.size A2 c2 bs (fun i : Nat => Ms.firstOf (k : Int) fr 2 12 (i : Int) ms) s gh R4 w5) := zz ⟨HK.out, HH.out, fun i hi => HS.out i hi⟩; have HOM := zz (fun (i : Nat) m (h : Ms.firstOf (k : Int) fr 2 12 (i : Int) ms = some m) => fit_len h)
 have HAZ := zz (fun j : Nat => show agreedZ k fr ms f j = takenZ k (j / 3) (dirZ f j) j (fun i => Ms.firstOf (k : Int) fr 2 12 (i : Int) ms) from rfl)
 clear HK HH HS; obtain ⟨z, hz⟩ : ∃ z, agreedZ k fr ms f = z := ⟨_, rfl⟩; have HZZ := zz hz; rw [hz] at HWF HAZ; clear hz; obtain ⟨o, ho⟩ : ∃ o, (fun i : Nat => Ms.firstOf (k : Int) fr 2 12 (i : Int) ms) = o := ⟨_, rfl⟩; rw [ho] at HD HAZ
 have HOM := zz (fun (i : Nat) m (h : o i = some m) => show m.zs.length = 12 from HOM.out i m (by rw [← ho] at h; exact h))
 clear ho
 have G3 := zz (show Blk w5 w.heap.size 45 (row 74 (nodeW (decG f z (fun x => decide (x < 0 * 3)) 0 0) (.slice A2 bs.length c2))) from by rw [decG_start f z _ (fun j hj => by simp)]; exact G3.out)
 have h30 : (row 74 (nodeW f (.slice A2 bs.length c2)))[0]? = some (.int .i64 (k : Int)) := by rw [HR2.out]; exact h20
 clear h20 h21 h30; go_wp2_with fail
 go_loopw [20] (fun iv wr => ∃ sx : Nat, sx ≤ 4 ∧ iv = .int .i64 (sx : Int) ∧ Blk wr w.heap.size 45 (row 74 (nodeW (decG f z (fun x => decide (x < sx * 3)) 0 0) (.slice A2 bs.length c2))) ∧ DK w w.heap.size A2 c2 bs o s gh R4 wr) (fun iv _ => 4 - (intOf iv).toNat)
 case atStart => exact ⟨0, by omega, rfl, G3.out, HD.out⟩
 case round =>
  obtain ⟨sx, hsx, rfl, hg3, hd⟩ := hrel; clear G3 HD; have G3 := zz hg3; have HD := zz hd; clear hg3 hd
  by_cases hls : sx < 4
  ·
   have s0 : (0 : Int) ≤ (sx : Int) := by omega
   have s4 : (sx : Int) < 4 := by omega
   have HSX := zz hls; clear hls; go_wp2_with fail
   generalize wr = wq at *
   go_loopw [23] (fun iv wr => ∃ a : Nat, a ≤ 3 ∧ iv = .int .i64 (a : Int) ∧ Blk wr w.heap.size 45 (row 74 (nodeW (decG f z (fun x => decide (x < sx * 3 + a)) 0 0) (.slice A2 bs.length c2))) ∧ DK w w.heap.size A2 c2 bs o s gh R4 wr) (fun iv _ => 3 - (intOf iv).toNat)
   case atStart => exact ⟨0, by omega, rfl, G3.out, HD.out⟩
   case round =>
    obtain ⟨a, ha, rfl, hg3, hd⟩ := hrel; clear G3 HD; have G3 := zz hg3; have HD := zz hd; clear hg3 hd
    by_cases hla : a < 3
    ·
     have a0 : (0 : Int) ≤ (a : Int) := by omega
     have a3 : (a : Int) < 3 := by omega
     have HLA := zz hla
     have hlj : sx * 3 + a < 12 := by have := HSX.out; omega
     have HLJ := zz hlj
     have x39 : (row 74 (nodeW (decG f z (fun x => decide (x < sx * 3 + a)) 0 0) (.slice A2 bs.length c2)))[39 + sx * 3 + a]? = some (.int .i64 (dirZ f (sx * 3 + a))) := by
      rw [row_at (by omega)]
      unfold nodeW dirZ
      rw [if_neg (by omega), decG_low _ _ _ _ _ _ (by omega) (by omega) (by omega), Nat.add_assoc, ← cell_int HF.out (39 + (sx * 3 + a)) (by omega) (by unfold nodeT; simp; omega)]
     have HN39 := zz x39
     have HN0 := zz (show (row 74 (nodeW (decG f z (fun x => decide (x < sx * 3 + a)) 0 0) (.slice A2 bs.length c2)))[0]? = some (.int .i64 (k : Int)) from by rw [row_at (by omega)]; unfold nodeW; rw [if_neg (by omega), decG_low _ _ _ _ _ _ (by omega) (by omega) (by omega), HID.out])
     have HN55 := zz (show ∃ v, (row 74 (nodeW (decG f z (fun x => decide (x < sx * 3 + a)) 0 0) (.slice A2 bs.length c2)))[55 + sx * 3 + a]? = some (.int .i64 v) from by
      refine ⟨iv (decG f z (fun x => decide (x < sx * 3 + a)) 0 0 (55 + sx * 3 + a)), ?_⟩; rw [row_at (by omega)]
      unfold nodeW
      rw [if_neg (by omega), ← cell_int (ok_decG HF.out z _ 0 0 (by omega) (by omega)) (55 + sx * 3 + a) (by omega) (by unfold nodeT; simp; omega)])
     have HAG := zz (fun (v : Int) (hv : v = z (sx * 3 + a)) => show ((row 74 (nodeW (decG f z (fun x => decide (x < sx * 3 + a)) 0 0) (.slice A2 bs.length c2)))).setIfInBounds (55 + sx * 3 + a) (.int .i64 v) = row 74 (nodeW (decG f z (fun x => decide (x < sx * 3 + (a + 1))) 0 0) (.slice A2 bs.length c2)) from by
      rw [Nat.add_assoc]
      exact decG_agree f z _ _ 0 0 (by omega) (sx * 3 + a) hlj hv (fun x hx => by rw [Bool.eq_iff_iff]; simp; omega) _)
     have HTK := zz (show z (sx * 3 + a) = takenZ k sx (dirZ f (sx * 3 + a)) (sx * 3 + a) o from by rw [HAZ.out, show (sx * 3 + a) / 3 = sx by omega])
     obtain ⟨d, hd⟩ : ∃ d, dirZ f (sx * 3 + a) = d := ⟨_, rfl⟩; rw [hd] at HN39 HTK; obtain ⟨zj, hzj⟩ : ∃ d, z (sx * 3 + a) = d := ⟨_, rfl⟩; rw [hzj] at HTK HAG; obtain ⟨RN, hRN⟩ : ∃ RN, (row 74 (nodeW (decG f z (fun x => decide (x < sx * 3 + a)) 0 0) (.slice A2 bs.length c2))) = RN := ⟨_, rfl⟩; rw [hRN] at G3 HN39 HN0 HN55 HAG; clear hlj hd hzj hRN x39 hla
     go_upto_region 11 with fail
     have G3 := zz G3.out.drew; have HD := zz HD.out.drew; have HS_ := (G3.out.cell (39 + sx * 3 + a)).trans HN39.out; refine wp_region_noPanic ?_; refine Rg.beginR [7] (fun w' => w'.cell? ⟨w.heap.size, 39 + sx * 3 + a, none⟩ = some (.int .i64 d)) (by kernel_rfl) ?_
     generalize wr.drew = V0 at *
     obtain ⟨v55, h55⟩ := HN55.out; have x55 := (G3.out.cell (55 + sx * 3 + a)).trans h55; have f55 := G3.out.thaw (55 + sx * 3 + a); refine Rg.tq 0 ⟨some 26, .move (.tmp 7), _, _, _, none⟩ rfl ?_; (try simp only [Rg.lp]); refine Rg.tq 1 ⟨some 27, .move (.tmp 8), _, _, _, none⟩ rfl ?_; (try simp only [Rg.lp]); refine Rg.tq 2 ⟨some 28, .move (.tmp 7), _, _, _, none⟩ rfl ?_; (try simp only [Rg.lp]); refine Rg.tq 3 ⟨some 29, .move (.tmp 8), _, _, _, none⟩ rfl ?_; (try simp only [Rg.lp]); refine Rg.tq 4 ⟨some 30, .fieldAddr 45 (.tmp 2) 5, _, _, _, none⟩ rfl ?_; (try simp only [Rg.lp]); refine Rg.tq 5 ⟨some 31, .indexAddr 40 (.tmp 30) (.tmp 28), _, _, _, none⟩ rfl ?_; (try simp only [Rg.lp]); refine Rg.tq 6 ⟨some 32, .indexAddr 39 (.tmp 31) (.tmp 29), _, _, _, none⟩ rfl ?_; (try simp only [Rg.lp]); refine Rg.tr 7 ⟨some 33, .load 3 (.tmp 32), _, _, _, none⟩ rfl HS_ ?_; (try simp only [Rg.lp]); refine Rg.tq 8 ⟨some 34, .fieldAddr 45 (.tmp 2) 7, _, _, _, none⟩ rfl ?_; (try simp only [Rg.lp]); refine Rg.tq 9 ⟨some 35, .indexAddr 40 (.tmp 34) (.tmp 26), _, _, _, none⟩ rfl ?_; (try simp only [Rg.lp]); refine Rg.tq 10 ⟨some 36, .indexAddr 39 (.tmp 35) (.tmp 27), _, _, _, none⟩ rfl ?_; (try simp only [Rg.lp]); refine Rg.or1 11 ⟨none, .store 3 (.tmp 36) (.tmp 33), _, _, _, none⟩ rfl ?_; refine Rg.stepF ?_ ?_
     · kernel_rfl
     intro K hK; go_simp; refine hK.out _ _ ?_; clear hK K; (try simp only [Rg.lp]); refine Rg.doneR (by kernel_rfl) ?_ _; refine NoPanic.normal ?_; have H55 := zz h55; clear HS_ x55 f55 h55; have HD := zz (HD.out.set (55 + sx * 3 + a) (.int .i64 d) (by have := HZ3.out; omega)); have G3 := zz (G3.out.set (55 + sx * 3 + a) (.int .i64 d))
     generalize (V0.setCell ⟨w.heap.size, 55 + sx * 3 + a, none⟩ (.int .i64 d)) = W6 at *
     have x0 : W6.cell? ⟨w.heap.size, 0, none⟩ = some (.int .i64 (k : Int)) := by rw [G3.out.cell, Array.getElem?_setIfInBounds_ne (by omega)]; exact HN0.out
     by_cases hsk : sx = k
     ·
      have e1 : ((sx : Int) != (k : Int)) = false := by simp [hsk]
      have HE := zz (show d = zj by rw [HTK.out]; unfold takenZ; rw [if_pos hsk])
      clear hsk HTK; go_wp2_with fail; exact ⟨⟨a + 1, by have := HLA.out; omega, by go_num, by rw [← HAG.out d HE.out]; exact G3.out, HD.out⟩, by have := HLA.out; simp [intOf]; omega⟩
     ·
      have e1 : ((sx : Int) != (k : Int)) = true := by simp; omega
      have e2 : ¬ ((sx : Int) = (k : Int)) := by omega
      have HE := zz (show zj = MajLaw.maj (d :: toldL k sx (sx * 3 + a) o 4) 0 by rw [HTK.out]; unfold takenZ; rw [if_neg hsk])
      have hl2 := toldL_two (sx * 3 + a) o hk HSX.out hsk
      have HTL := zz (show MajLaw.maj (d :: toldL k sx (sx * 3 + a) o 4) 0 = MajLaw.maj [d, pairF (toldL k sx (sx * 3 + a) o 4) 0, pairF (toldL k sx (sx * 3 + a) o 4) 1] 0 from by
       match hq : toldL k sx (sx * 3 + a) o 4, hl2 with
       | [p, q], _ => rfl)
      have HTW := zz (fun (v : World) (hv : DK w w.heap.size A2 c2 bs o s gh R4 v) => show Calls Try.prog 40 #[.agg R4, .int .i64 (k : Int), .int .i64 (sx : Int), .int .i64 ((sx * 3 + a : Nat) : Int)] v fun e w' => e = .returned (.agg (rowF .i64 2 (pairF (toldL k sx (sx * 3 + a) o 4)))) ∧ Below v.heap.size v w' from by
       rw [← HR4.out]
       exact told_any s o k sx (sx * 3 + a) hk HSX.out hsk v (fun i hi => HeardRd.of (hv.hs i hi)) fun i m hm => by have := HOM.out i m hm; have := HLJ.out; omega)
      rw [HTL.out] at HE
      generalize pairF (toldL k sx (sx * 3 + a) o 4) = P at *
      obtain ⟨q, hq⟩ : ∃ q : Nat, sx * 3 + a = q := ⟨_, rfl⟩
      have eq1 : (sx : Int) * 3 + (a : Int) = (q : Int) := by omega
      have HQ := zz hq; rw [hq] at HTW; have hi4 : (Try.prog.info? 101).map (·.size) = some R4.size := i4; have cTW := HTW.out W6 HD.out
      have i2 : (Try.prog.info? 61).map (·.size) = some (rowF .i64 2 P).size := by rw [rowF_size]; kernel_rfl
      have z2 : (#[.int .i64 0, .int .i64 0] : Array Value).size = (rowF .i64 2 P).size := by rw [rowF_size]; rfl
      have o2 : (rowF .i64 2 P).all (·.oneCell') = true := rowF_one; obtain ⟨RP, hRP⟩ : ∃ R, rowF .i64 2 P = R := ⟨_, rfl⟩; rw [hRP] at cTW i2 z2 o2; have HRP := zz hRP; have CTW := zz cTW; have HHB := zz HD.out.hh; clear hsk HTK hl2 HTL HTW hq hRP cTW
      go_wp2_with (refine wpList_whole rfl 101 _ rfl gh rfl HHB.out _ Try.underlying101 rfl hi4 ?_)
      refine CTW.out.mono ?_; rintro e w7 ⟨rfl, hb⟩; have HD := zz (HD.out.step hb); have G3 := zz (G3.out.below hb G3.out.lt); clear hb x0 CTW HHB; have HT0 := zz (Blk.fresh w7 61 #[.int .i64 0, .int .i64 0])
      go_upto_region 14 with (refine wpList_store_row rfl 61 _ _ rfl w7.heap.size RP rfl rfl 61 _ HT0.out i2 z2 o2 ?_)
      have HT := zz (HT0.out.setRow RP); have hb8 : Below w7.heap.size w7 ((w7.alloc (.cells #[.int .i64 0, .int .i64 0] 61)).setRow w7.heap.size RP) := below_setRow ((Below.refl _ _).alloc (Nat.le_refl _) _) (Nat.le_refl _) RP; have HD := zz (HD.out.step hb8); have hgt0 := G3.out.lt; have G3 := zz (G3.out.below hb8 G3.out.lt); clear HT0 hb8
      generalize ((w7.alloc (.cells #[.int .i64 0, .int .i64 0] 61)).setRow w7.heap.size RP) = w8 at *
      obtain ⟨gt, hgt⟩ : ∃ g, w7.heap.size = g := ⟨_, rfl⟩; rw [hgt] at HT hgt0 ⊢; clear hgt; rw [← HRP.out] at HT; have G3 := zz G3.out.drew; have HD := zz HD.out.drew; have HT := zz HT.out.drew
      have hx39 : (RN.setIfInBounds (55 + sx * 3 + a) (.int .i64 d))[39 + sx * 3 + a]? = some (.int .i64 d) := by rw [Array.getElem?_setIfInBounds_ne (by omega)]; exact HN39.out
      have HS := And.intro ((G3.out.cell (39 + sx * 3 + a)).trans hx39) HT.out; refine wp_region_noPanic ?_; refine Rg.beginR [7, 9, 11] (fun w' => w'.cell? ⟨w.heap.size, 39 + sx * 3 + a, none⟩ = some (.int .i64 d) ∧ Blk w' gt 61 (rowF .i64 2 P)) (by kernel_rfl) ?_
      generalize w8.drew = V0 at *
      refine Rg.tq 0 ⟨some 50, .move (.tmp 7), _, _, _, none⟩ rfl ?_; (try simp only [Rg.lp]); refine Rg.tq 1 ⟨some 51, .move (.tmp 8), _, _, _, none⟩ rfl ?_; (try simp only [Rg.lp]); refine Rg.tq 2 ⟨some 52, .move (.tmp 7), _, _, _, none⟩ rfl ?_; (try simp only [Rg.lp]); refine Rg.tq 3 ⟨some 53, .move (.tmp 8), _, _, _, none⟩ rfl ?_; (try simp only [Rg.lp]); refine Rg.tq 4 ⟨some 54, .fieldAddr 45 (.tmp 2) 5, _, _, _, none⟩ rfl ?_; (try simp only [Rg.lp]); refine Rg.tq 5 ⟨some 55, .indexAddr 40 (.tmp 54) (.tmp 52), _, _, _, none⟩ rfl ?_; (try simp only [Rg.lp]); refine Rg.tq 6 ⟨some 56, .indexAddr 39 (.tmp 55) (.tmp 53), _, _, _, none⟩ rfl ?_; (try simp only [Rg.lp]); refine Rg.ts 7 ⟨some 57, .load 3 (.tmp 56), _, _, _, none⟩ (v := ?_) rfl HS ?_ ?_; rotate_left 1
      · (intro w' hSw; have y := hSw.1; go_simp; (try with_reducible rfl))
      (try simp only [Rg.lp]); refine Rg.tq 8 ⟨some 58, .indexAddr 61 (.tmp 9) (.const (.int .i64 0)), _, _, _, none⟩ rfl ?_; (try simp only [Rg.lp]); refine Rg.ts 9 ⟨some 59, .load 3 (.tmp 58), _, _, _, none⟩ (v := ?_) rfl HS ?_ ?_; rotate_left 1
      · (intro w' hSw; have y := (hSw.2.cell 0).trans (rowF_at _ _ _ _ (by omega)); go_simp; (try with_reducible rfl))
      (try simp only [Rg.lp]); refine Rg.tq 10 ⟨some 60, .indexAddr 61 (.tmp 9) (.const (.int .i64 1)), _, _, _, none⟩ rfl ?_; (try simp only [Rg.lp]); refine Rg.ts 11 ⟨some 61, .load 3 (.tmp 60), _, _, _, none⟩ (v := ?_) rfl HS ?_ ?_; rotate_left 1
      · (intro w' hSw; have y := (hSw.2.cell 1).trans (rowF_at _ _ _ _ (by omega)); go_simp; (try with_reducible rfl))
      (try simp only [Rg.lp]); refine Rg.tq 13 ⟨some 63, .fieldAddr 45 (.tmp 2) 7, _, _, _, none⟩ rfl ?_; (try simp only [Rg.lp]); refine Rg.tq 14 ⟨some 64, .indexAddr 40 (.tmp 63) (.tmp 50), _, _, _, none⟩ rfl ?_; (try simp only [Rg.lp]); refine Rg.or1 12 ⟨some 62, .call { callee := .value (.func 41), args := #[.tmp 57, .tmp 59, .tmp 61], argTypes := _ }, _, _, _, none⟩ rfl ?_; refine Rg.stepF ?_ ?_
      · kernel_rfl
      intro K hK; rw [if_pos (by rfl)]; go_simp
      go_at_call 41
      refine (Mj.decide_any d (P 0) (P 1) V0).mono ?_; rintro e V1 ⟨rfl, hb⟩; have HD := zz (HD.out.step hb); have G3 := zz (G3.out.below hb G3.out.lt); clear hb HS; have HS := trivial; rw [← HE.out]; have f55 := G3.out.thaw (55 + sx * 3 + a); have hsz0 := (Array.getElem?_eq_some_iff.1 H55.out).1
      have x55 : V1.cell? ⟨w.heap.size, 55 + sx * 3 + a, none⟩ = some (.int .i64 d) := by rw [G3.out.cell, Array.getElem?_setIfInBounds_self_of_lt hsz0]
      refine hK.out _ _ ?_; clear hK K; (try simp only [Rg.lp]); refine Rg.tq 15 ⟨some 65, .indexAddr 39 (.tmp 64) (.tmp 51), _, _, _, none⟩ rfl ?_; (try simp only [Rg.lp]); refine Rg.or1 16 ⟨none, .store 3 (.tmp 65) (.tmp 62), _, _, _, none⟩ rfl ?_; refine Rg.stepF ?_ ?_
      · kernel_rfl
      intro K hK; go_simp; refine hK.out _ _ ?_; clear hK K; (try simp only [Rg.lp]); refine Rg.doneR (by kernel_rfl) ?_ _; refine NoPanic.normal ?_; go_wp2_with fail; refine ⟨⟨a + 1, by have := HLA.out; omega, by go_num, ?_, HD.out.set (55 + sx * 3 + a) (.int .i64 zj) (by have := HZ3.out; omega)⟩, by have := HLA.out; simp [intOf]; omega⟩; have h := G3.out.set (55 + sx * 3 + a) (.int .i64 zj); rw [Array.setIfInBounds_setIfInBounds, HAG.out zj rfl] at h; exact h
    ·
     obtain rfl : a = 3 := by omega
     rw [show ((3 : Nat) : Int) = 3 from rfl]
     clear hla; go_wp2_with fail
     exact ⟨⟨sx + 1, by have := HSX.out; omega, by go_num, by rw [show (sx + 1) * 3 = sx * 3 + 3 by omega]; exact G3.out, HD.out⟩, by have := HSX.out; simp [intOf]; omega⟩
  ·
   obtain rfl : sx = 4 := by omega
   rw [show ((4 : Nat) : Int) = 4 from rfl]
   have G3 := zz (show Blk wr w.heap.size 45 (row 74 (nodeW (decG f z allP 0 0) (.slice A2 bs.length c2))) from by rw [← decG_all f z 0 0]; exact G3.out)
   clear hls; go_wp2_with fail; have HK := zz HD.out.nk; clear HD HAZ HOM
   generalize wr = wq at *
   go_loopw [68] (fun iv wr => ∃ a : Nat, a ≤ 3 ∧ iv = .int .i64 (a : Int) ∧ Blk wr w.heap.size 45 (row 74 (nodeW (decG f z allP a a) (.slice A2 bs.length c2))) ∧ NK w w.heap.size A2 c2 bs wr) (fun iv _ => 3 - (intOf iv).toNat)
   case atStart => exact ⟨0, by omega, rfl, G3.out, HK.out⟩
   case round =>
    obtain ⟨a, ha, rfl, hg3, hd⟩ := hrel; clear G3 HK; have G3 := zz hg3; have HK := zz hd; clear hg3 hd
    by_cases hla : a < 3
    ·
     have a0 : (0 : Int) ≤ (a : Int) := by omega
     have a3 : (a : Int) < 3 := by omega
     have HLA := zz hla; have HUI := zz (used_in (f := f) HWF.out a hla)
     have HCF := zz (fun v => show Calls Try.prog 42 #[.agg (row 74 (nodeW (decG f z allP a a) (.slice A2 bs.length c2))), .int .i64 (a : Int)] v fun e w' => e = .returned (.int .i64 (usedZ f z a)) ∧ Below v.heap.size v w' from by
      have h := fuse_any (decG f z allP a a) (ok_decG HF.out z allP a a (by omega) (by omega)) a hla (fun sx hs => by unfold agZ; rw [decG_ag f z allP a a (by omega) (sx * 3 + a) (by omega) rfl]; exact HWF.out _ (by omega)) (.slice A2 bs.length c2) v; rw [fuse_used f z allP a a (by omega) (by omega) a hla (fun _ _ => rfl)] at h
      exact h)
     have HUS := zz (decG_used f z allP a a (by omega) hla (.slice A2 bs.length c2))
     have HN67 := zz (show ∃ v, (row 74 (nodeW (decG f z allP a a) (.slice A2 bs.length c2)))[67 + a]? = some (.int .i64 v) from by
      refine ⟨iv (decG f z allP a a (67 + a)), ?_⟩; rw [row_at (by omega)]
      unfold nodeW
      rw [if_neg (by omega), ← cell_int (ok_decG HF.out z _ a a (by omega) (by omega)) (67 + a) (by omega) (by unfold nodeT; simp; omega)])
     have HST := zz (show (row 7 fun j => nodeW (decG f z allP a (a + 1)) (.slice A2 bs.length c2) (6 + a * 7 + j)) = stC (stOf f a) from by
      rw [← st_load HF.out a hla]
      exact row_congr fun j hj => by unfold nodeW; rw [if_neg (by omega), Nat.add_assoc, decG_ax _ _ _ _ _ hla _ hj])
     have HTU := zz (show (row 4 fun j => nodeW (decG f z allP a (a + 1)) (.slice A2 bs.length c2) (2 + j)) = tunC (iv (f 2)) (iv (f 3)) (iv (f 4)) (iv (f 5)) from by
      have e : ∀ j, j < 4 → nodeW (decG f z allP a (a + 1)) (.slice A2 bs.length c2) (2 + j) = .int .i64 (iv (f (2 + j))) := fun j hj => by unfold nodeW; rw [if_neg (by omega), decG_low _ _ _ _ _ _ (by omega) (by omega) (by omega)]; exact cell_int HF.out (2 + j) (by omega) (by unfold nodeT; simp; omega)
      rw [row_congr (g := fun j => .int .i64 (iv (f (2 + j)))) e]
      rfl)
     have HU67 := zz (show (row 74 (nodeW (decG f z allP a (a + 1)) (.slice A2 bs.length c2)))[67 + a]? = some (.int .i64 (usedZ f z a)) from by rw [row_at (by omega)]; unfold nodeW; rw [if_neg (by omega), decG_us _ _ _ _ _ (by omega) _ (by omega) (by omega)])
     have HCS := zz (fun v => show Calls Try.prog 43 #[.agg (stC (stOf f a)), .agg (tunC (iv (f 2)) (iv (f 3)) (iv (f 4)) (iv (f 5))), .int .i64 (usedZ f z a)] v fun e w' => e = .returned (.tuple #[.agg (stC (newSt f z a)), .bool (fstep (stOf f a) (iv (f 2)) (iv (f 3)) (iv (f 4)) (iv (f 5)) (usedZ f z a)).2]) ∧ Below v.heap.size v w' from
      fstep_any (stOf f a) _ _ _ _ _ v (HSI.out a hla) (HTI.out 2 (by omega)) (HTI.out 3 (by omega)) (HTI.out 4 (by omega)) (HTI.out 5 (by omega)) HUI.out)
     have HAX := zz (decG_axis f z allP a (a + 1) hla (.slice A2 bs.length c2))
     have hiN : ∀ u, (Try.prog.info? 45).map (·.size) = some (row 74 (nodeW (decG f z allP a u) (.slice A2 bs.length c2))).size := fun u => by rw [row_size]; kernel_rfl
     have hiA := hiN a; clear hiN; obtain ⟨U, hU⟩ : ∃ U, usedZ f z a = U := ⟨_, rfl⟩; rw [hU] at HCF HUS HU67 HCS; obtain ⟨RA, hRA⟩ : ∃ RA, (row 74 (nodeW (decG f z allP a a) (.slice A2 bs.length c2))) = RA := ⟨_, rfl⟩; rw [hRA] at G3 HCF HUS HN67 hiA; obtain ⟨TC, hTC⟩ : ∃ T, tunC (iv (f 2)) (iv (f 3)) (iv (f 4)) (iv (f 5)) = T := ⟨_, rfl⟩; rw [hTC] at HTU HCS; obtain ⟨SC, hSC⟩ : ∃ T, stC (stOf f a) = T := ⟨_, rfl⟩; rw [hSC] at HST HCS; clear hU hRA hla hTC hSC
     go_wp2_with (refine wpList_whole rfl 45 _ rfl w.heap.size rfl G3.out _ Try.underlying45 rfl hiA ?_)
     refine (HCF.out _).mono ?_; rintro e w6 ⟨rfl, hb⟩; have G3 := zz (G3.out.below hb G3.out.lt); have HK := zz (HK.out.step hb); clear hb HCF; obtain ⟨v67, h67⟩ := HN67.out; have x67 := (G3.out.cell (67 + a)).trans h67; have f67 := G3.out.thaw (67 + a)
     go_upto_region 21 with fail
     have HK := zz (HK.out.set (67 + a) (.int .i64 U)); have G3 := zz (G3.out.set (67 + a) (.int .i64 U)); rw [HUS.out] at G3; clear x67 f67 h67 HN67 HUS
     generalize (w6.setCell ⟨w.heap.size, 67 + a, none⟩ (.int .i64 U)) = w7 at *
     have G3 := zz G3.out.drew; have HK := zz HK.out.drew; have HS := G3.out; refine wp_region_noPanic ?_; refine Rg.beginR [4, 6, 10] (fun w' => Blk w' w.heap.size 45 (row 74 (nodeW (decG f z allP a (a + 1)) (.slice A2 bs.length c2)))) (by kernel_rfl) ?_
     generalize w7.drew = V0 at *
     refine Rg.tq 0 ⟨some 78, .move (.tmp 10), _, _, _, none⟩ rfl ?_; (try simp only [Rg.lp]); refine Rg.tq 1 ⟨some 79, .move (.tmp 10), _, _, _, none⟩ rfl ?_; (try simp only [Rg.lp]); refine Rg.tq 2 ⟨some 80, .fieldAddr 45 (.tmp 2) 3, _, _, _, none⟩ rfl ?_; (try simp only [Rg.lp]); refine Rg.tq 3 ⟨some 81, .indexAddr 34 (.tmp 80) (.tmp 79), _, _, _, none⟩ rfl ?_; (try simp only [Rg.lp]); refine Rg.ts 4 ⟨some 82, .load 33 (.tmp 81), _, _, _, none⟩ (v := .agg SC) rfl HS ?_ ?_
     · (intro w' hSw; rw [← HST.out]; exact exec_load_mid 33 (.tmp 81) rfl w.heap.size (6 + a * 7) 7 rfl _ _ (row_range hSw (6 + a * 7) 7 (by have := HLA.out; omega)) Try.underlying33 rfl (by kernel_rfl))
     (try simp only [Rg.lp]); refine Rg.tq 5 ⟨some 83, .fieldAddr 45 (.tmp 2) 2, _, _, _, none⟩ rfl ?_; (try simp only [Rg.lp]); refine Rg.ts 6 ⟨some 84, .load 23 (.tmp 83), _, _, _, none⟩ (v := .agg TC) rfl HS ?_ ?_
     · (intro w' hSw; rw [← HTU.out]; exact exec_load_mid 23 (.tmp 83) rfl w.heap.size 2 4 rfl _ _ (row_range hSw 2 4 (by omega)) Try.underlying23 rfl (by kernel_rfl))
     (try simp only [Rg.lp]); refine Rg.tq 7 ⟨some 85, .move (.tmp 10), _, _, _, none⟩ rfl ?_; (try simp only [Rg.lp]); refine Rg.tq 8 ⟨some 86, .fieldAddr 45 (.tmp 2) 8, _, _, _, none⟩ rfl ?_; (try simp only [Rg.lp]); refine Rg.tq 9 ⟨some 87, .indexAddr 39 (.tmp 86) (.tmp 85), _, _, _, none⟩ rfl ?_; (try simp only [Rg.lp]); refine Rg.ts 10 ⟨some 88, .load 3 (.tmp 87), _, _, _, none⟩ (v := .int .i64 U) rfl HS ?_ ?_
     · (intro w' hSw; have y := (hSw.cell (67 + a)).trans HU67.out; go_simp; (try with_reducible rfl))
     (try simp only [Rg.lp]); refine Rg.tq 15 ⟨some 92, .fieldAddr 45 (.tmp 2) 3, _, _, _, none⟩ rfl ?_; (try simp only [Rg.lp]); refine Rg.or1 11 ⟨some 89, .call { callee := .value (.func 43), args := #[.tmp 82, .tmp 84, .tmp 88], argTypes := _ }, _, _, _, none⟩ rfl ?_; refine Rg.stepF ?_ ?_
     · kernel_rfl
     intro K hK; rw [if_pos (by rfl)]; go_simp
     go_at_call 43
     refine (HCS.out _).mono ?_; rintro e V1 ⟨rfl, hb⟩; have G3 := zz (G3.out.below hb G3.out.lt); have HK := zz (HK.out.step hb); clear hb HS; have HS := trivial; go_wp2_with fail; refine hK.out _ _ ?_; clear hK K; (try simp only [Rg.lp]); refine Rg.tq 12 ⟨some 77, .move (.tmp 89), _, _, _, none⟩ rfl ?_; (try simp only [Rg.lp]); refine Rg.tq 13 ⟨some 90, .extract (.tmp 77) 0, _, _, _, none⟩ rfl ?_; (try simp only [Rg.lp]); refine Rg.tq 14 ⟨some 91, .extract (.tmp 77) 1, _, _, _, none⟩ rfl ?_; (try simp only [Rg.lp]); refine Rg.tq 16 ⟨some 93, .indexAddr 34 (.tmp 92) (.tmp 78), _, _, _, none⟩ rfl ?_; (try simp only [Rg.lp]); refine Rg.or1 17 ⟨none, .store 33 (.tmp 93) (.tmp 90), _, _, _, none⟩ rfl ?_; refine Rg.stepF ?_ ?_
     · kernel_rfl
     intro K hK; rw [if_pos (by rfl)]; refine wp_store_mid 33 (.tmp 93) (.tmp 90) rfl w.heap.size (6 + a * 7) (stC (newSt f z a)) rfl rfl (by rw [stC_row, row_size]; exact row_there G3.out (6 + a * 7) 7 (by have := HLA.out; omega)) (by rw [stC_row, row_size]; kernel_rfl) (by rw [stC_row]; exact row_one (stCell_one _)) ?_; have G3 := zz (blk_mid G3.out (6 + a * 7) 7 (stCell (newSt f z a))); rw [HAX.out, ← stC_row] at G3; have HK := zz (HK.out.sets (stC (newSt f z a)).toList (6 + a * 7))
     generalize (V1.setCells w.heap.size (6 + a * 7) (stC (newSt f z a)).toList) = V2 at *
     refine hK.out _ _ ?_; clear hK K; (try simp only [Rg.lp]); refine Rg.doneR (by kernel_rfl) ?_ _; refine NoPanic.normal ?_; go_wp2_with fail; exact ⟨⟨a + 1, by have := HLA.out; omega, by go_num, G3.out, HK.out⟩, by have := HLA.out; simp [intOf]; omega⟩
    ·
     obtain rfl : a = 3 := by omega
     rw [show ((3 : Nat) : Int) = 3 from rfl]
     clear hla
     have HDG := zz (fun v => show Calls Try.prog 44 #[.agg (row 74 (nodeW (decG f z allP 3 3) (.slice A2 bs.length c2)))] v fun e w' => e = .returned (.int .i64 (digestZ (decG f z allP 3 3))) ∧ Below v.heap.size v w' from digest_any (decG f z allP 3 3) (ok_decG HF.out z allP 3 3 (by omega) (by omega)) (.slice A2 bs.length c2) v)
     have HFR3 := zz (decF_row k hk z f (.slice A2 bs.length c2))
     have HN := zz (show ∀ i, i < 73 → ∃ v, (row 74 (nodeW (decG f z allP 3 3) (.slice A2 bs.length c2)))[i]? = some v from fun i hi => ⟨_, row_at (by omega)⟩)
     have HN0 := zz (show (row 74 (nodeW (decG f z allP 3 3) (.slice A2 bs.length c2)))[0]? = some (.int .i64 (k : Int)) from by rw [row_at (by omega)]; unfold nodeW; rw [if_neg (by omega), decG_low _ _ _ _ _ _ (by omega) (by omega) (by omega), HID.out])
     have HN51 := zz (show ∃ v, (row 74 (nodeW (decG f z allP 3 3) (.slice A2 bs.length c2)))[51 + k]? = some (.int .i64 v) from by
      refine ⟨iv (decG f z allP 3 3 (51 + k)), ?_⟩; rw [row_at (by omega)]
      unfold nodeW
      rw [if_neg (by omega), ← cell_int (ok_decG HF.out z _ 3 3 (by omega) (by omega)) (51 + k) (by omega) (by unfold nodeT; simp; omega)])
     have HN70 := zz (show ∃ v, (row 74 (nodeW (decG f z allP 3 3) (.slice A2 bs.length c2)))[70]? = some (.int .i64 v) from by
      refine ⟨iv (decG f z allP 3 3 70), ?_⟩; rw [row_at (by omega)]
      unfold nodeW
      rw [if_neg (by omega), ← cell_int (ok_decG HF.out z _ 3 3 (by omega) (by omega)) 70 (by omega) (by unfold nodeT; simp)])
     have hiA : (Try.prog.info? 45).map (·.size) = some (row 74 (nodeW (decG f z allP 3 3) (.slice A2 bs.length c2))).size := by rw [row_size]; kernel_rfl
     have k4 : (k : Int) < 4 := by omega
     obtain ⟨dg, hdg⟩ : ∃ d, digestZ (decG f z allP 3 3) = d := ⟨_, rfl⟩; have HDE := zz hdg; rw [hdg] at HDG HFR3; obtain ⟨RA, hRA⟩ : ∃ RA, (row 74 (nodeW (decG f z allP 3 3) (.slice A2 bs.length c2))) = RA := ⟨_, rfl⟩; rw [hRA] at G3 HDG HFR3 HN HN0 HN51 HN70 hiA; clear hRA hdg
     go_wp2_with (refine wpList_whole rfl 45 _ rfl w.heap.size rfl G3.out _ Try.underlying45 rfl hiA ?_)
     refine (HDG.out _).mono ?_; rintro e w6 ⟨rfl, hb⟩; have G3 := zz (G3.out.below hb G3.out.lt); have HK := zz (HK.out.step hb); clear hb HDG; obtain ⟨v70, h70⟩ := HN70.out; have x70 := (G3.out.cell 70).trans h70; have f70 := G3.out.thaw 70
     go_upto_region 24 with fail
     have HK := zz (HK.out.set 70 (.int .i64 dg)); have G3 := zz (G3.out.set 70 (.int .i64 dg)); clear x70 f70
     generalize (w6.setCell ⟨w.heap.size, 70, none⟩ (.int .i64 dg)) = w7 at *
     have x70 : w7.cell? ⟨w.heap.size, 70, none⟩ = some (.int .i64 dg) := by rw [G3.out.cell, Array.getElem?_setIfInBounds_self_of_lt (Array.getElem?_eq_some_iff.1 h70).1]
     have x0 : w7.cell? ⟨w.heap.size, 0, none⟩ = some (.int .i64 (k : Int)) := by rw [G3.out.cell, Array.getElem?_setIfInBounds_ne (by omega)]; exact HN0.out
     obtain ⟨v51, h51⟩ := HN51.out
     have x51 : w7.cell? ⟨w.heap.size, 51 + k, none⟩ = some (.int .i64 v51) := by rw [G3.out.cell, Array.getElem?_setIfInBounds_ne (by omega)]; exact h51
     have f51 := G3.out.thaw (51 + k)
     go_upto_region 25 with fail
     have HK := zz (HK.out.set (51 + k) (.int .i64 dg)); have G3 := zz (G3.out.set (51 + k) (.int .i64 dg)); rw [HFR3.out] at G3; clear x70 x0 x51 f51 h51 h70 HN HN0 HN51 HN70 HFR3 hiA
     generalize (w7.setCell ⟨w.heap.size, 51 + k, none⟩ (.int .i64 dg)) = w8 at *
     obtain ⟨F, hF⟩ : ∃ F, decF k z f = F := ⟨_, rfl⟩; have HFE := zz hF
     have HOK := zz (show ∀ i, i < 73 → okT (nodeT i) (F i) from by rw [← hF]; exact ok_decF HF.out k hk z)
     have hF0 : F 0 = .int .i64 (k : Int) := by rw [← hF]; unfold decF; rw [if_neg (by omega), decG_low _ _ _ _ _ _ (by omega) (by omega) (by omega)]; exact HID.out
     have hF1 : F 1 = .int .i64 fr := by rw [← hF]; unfold decF; rw [if_neg (by omega), decG_low _ _ _ _ _ _ (by omega) (by omega) (by omega)]; exact HFR.out
     have hF70 : F 70 = .int .i64 dg := by rw [← hF]; unfold decF; rw [if_pos (.inl rfl), HDE.out]
     rw [hF] at G3; clear hF; have o5 := one_of HOK.out (A := A2) (n := bs.length) (c := c2)
     have i5 : (Try.prog.info? 45).map (·.size) = some (row 74 (nodeW F (.slice A2 bs.length c2))).size := by rw [row_size]; kernel_rfl
     have z5 : (Try.zeroCells45).size = (row 74 (nodeW F (.slice A2 bs.length c2))).size := by rw [row_size]; kernel_rfl
     have j0 : (row 74 (nodeW F (.slice A2 bs.length c2)))[0]? = some (.int .i64 (k : Int)) := by rw [row_at (by omega)]; exact congrArg some hF0
     have j1 : (row 74 (nodeW F (.slice A2 bs.length c2)))[1]? = some (.int .i64 fr) := by rw [row_at (by omega)]; exact congrArg some hF1
     have J70 := zz (show (row 74 (nodeW F (.slice A2 bs.length c2)))[70]? = some (.int .i64 dg) from by rw [row_at (by omega)]; exact congrArg some hF70)
     obtain ⟨R5, hR5⟩ : ∃ R5, row 74 (nodeW F (.slice A2 bs.length c2)) = R5 := ⟨_, rfl⟩; rw [hR5] at o5 i5 z5 j0 j1 G3 J70; have HR5 := zz hR5; clear hR5 hF0 hF1 hF70; have G3 := zz G3.out.drew; have G6 := zz HK.out.g6.drew; have G7 := zz HK.out.g7.drew; have HV := zz HK.out.drew.hv; have HB := zz HK.out.hb.drew
     have HG7 := zz (show w.heap.size + 1 + 1 < w8.drew.heap.size from G7.out.lt)
     have HS := G3.out; clear HK; refine wp_region_noPanic ?_; refine Rg.beginR [0, 1, 3] (fun w' => Blk w' w.heap.size 45 R5) (by kernel_rfl) ?_
     generalize w8.drew = V0 at *
     refine Rg.ts 0 ⟨some 104, .load 45 (.tmp 2), _, _, _, none⟩ (v := .agg R5) rfl HS ?_ ?_
     · (intro w' hSw; exact exec_load_row 45 _ rfl _ rfl hSw Try.underlying45 rfl i5)
     (try simp only [Rg.lp]); refine Rg.ts 1 ⟨some 105, .load 45 (.tmp 2), _, _, _, none⟩ (v := .agg R5) rfl HS ?_ ?_
     · (intro w' hSw; exact exec_load_row 45 _ rfl _ rfl hSw Try.underlying45 rfl i5)
     (try simp only [Rg.lp]); refine Rg.tq 2 ⟨some 106, .fieldAddr 45 (.tmp 2) 9, _, _, _, none⟩ rfl ?_; (try simp only [Rg.lp]); refine Rg.ts 3 ⟨some 107, .load 3 (.tmp 106), _, _, _, none⟩ (v := .int .i64 dg) rfl HS ?_ ?_
     · (intro w' hSw; have y := (hSw.cell 70).trans J70.out; go_simp; (try with_reducible rfl))
     (try simp only [Rg.lp]); refine Rg.or1 4 ⟨some 108, .buildSlice 69 1 #[(0, .tmp 107)], _, _, _, none⟩ rfl ?_; refine Rg.stepS ?_; intro K hK; go_simp; have HP := zz (Blk.fresh V0 3 #[.int .i64 dg]); have G3 := zz (G3.out.alloc (.cells #[.int .i64 dg] 3)); have G6 := zz (G6.out.alloc (.cells #[.int .i64 dg] 3)); have G7 := zz (G7.out.alloc (.cells #[.int .i64 dg] 3)); have HV := zz (ownsRow_below HV.out ((Below.refl V0.heap.size V0).alloc (Nat.le_refl _) (.cells #[.int .i64 dg] 3)))
     have HGP := zz (show w.heap.size + 1 + 1 < V0.heap.size from HG7.out)
     have HB := zz (HB.out.alloc HB.out.size (.cells #[.int .i64 dg] 3)); clear HS
     generalize (V0.alloc (.cells #[.int .i64 dg] 3)) = V1 at *
     have HS := G3.out; obtain ⟨gp, hgp⟩ : ∃ g, V0.heap.size = g := ⟨_, rfl⟩; rw [hgp] at HP HGP ⊢; clear hgp; refine hK.out _ _ HS ?_; clear hK K; (try simp only [Rg.lp]); refine Rg.or1 5 ⟨some 109, .call { callee := .value (.func 38), args := #[.tmp 105, .const (.int .i64 3), .tmp 108], argTypes := _ }, _, _, _, none⟩ rfl ?_; refine Rg.stepS ?_; intro K hK; rw [if_pos (by rfl)]; go_simp
     go_at_call 38
     refine (say_any R5 (k : Int) fr 3 (some ⟨gp, 0, none⟩) 1 1 j0 j1 V1).mono ?_; rintro e V2 ⟨rfl, hb⟩; have G3 := zz (G3.out.below hb G3.out.lt); have G6 := zz (G6.out.below hb G6.out.lt); have G7 := zz (G7.out.below hb G7.out.lt); have HP := zz (HP.out.below hb HP.out.lt); have HV := zz (ownsRow_below HV.out hb); have HB := zz (onward HB.out (Nat.le_refl _) hb); clear hb HS; have HS := G3.out; go_wp2_with fail; refine hK.out _ _ HS ?_; clear hK K; (try simp only [Rg.lp]); refine Rg.or1 6 ⟨none, .store 45 (.tmp 4) (.tmp 104), _, _, _, none⟩ rfl ?_; refine Rg.stepF ?_ ?_
     · kernel_rfl
     intro K hK; rw [if_pos (by rfl)]; refine wp_store_row 45 _ _ rfl (w.heap.size + 1) R5 rfl rfl 45 _ G6.out i5 z5 o5 ?_; have G3 := zz (G3.out.setRow_other (g' := w.heap.size + 1) (by have := HGP.out; omega) R5); have G7 := zz (G7.out.setRow_other (g' := w.heap.size + 1) (by have := HGP.out; omega) R5); have HP := zz (HP.out.setRow_other (g' := w.heap.size + 1) (by have := HGP.out; omega) R5); have G6 := zz (G6.out.setRow R5)
     have HB := zz (below_setRow HB.out (show w.heap.size ≤ w.heap.size + 1 by omega) R5)
     have HV := zz (own_setRow HV.out (show w.heap.size + 1 < w.heap.size + 1 + 1 + 1 by omega) R5)
     generalize (V2.setRow (w.heap.size + 1) R5) = V3 at *
     refine hK.out _ _ ?_; clear hK K; (try simp only [Rg.lp]); refine Rg.or1 7 ⟨none, .store 71 (.tmp 5) (.tmp 109), _, _, _, none⟩ rfl ?_; refine Rg.stepF ?_ ?_
     · kernel_rfl
     intro K hK; rw [if_pos (by rfl)]; refine wp_store_row 71 _ _ rfl (w.heap.size + 1 + 1) (Ms.msgC 3 (k : Int) fr (some ⟨gp, 0, none⟩) 1 1) rfl rfl 71 _ G7.out (by kernel_rfl) rfl (by simp [Ms.msgC, Value.oneCell']) ?_; have G6 := zz (G6.out.setRow_other (g' := w.heap.size + 1 + 1) (by omega) (Ms.msgC 3 (k : Int) fr (some ⟨gp, 0, none⟩) 1 1)); have HP := zz (HP.out.setRow_other (g' := w.heap.size + 1 + 1) (by have := HGP.out; omega) (Ms.msgC 3 (k : Int) fr (some ⟨gp, 0, none⟩) 1 1)); have G7 := zz (G7.out.setRow (Ms.msgC 3 (k : Int) fr (some ⟨gp, 0, none⟩) 1 1))
     have HB := zz (below_setRow HB.out (show w.heap.size ≤ w.heap.size + 1 + 1 by omega) (Ms.msgC 3 (k : Int) fr (some ⟨gp, 0, none⟩) 1 1))
     have HV := zz (own_setRow HV.out (show w.heap.size + 1 + 1 < w.heap.size + 1 + 1 + 1 by omega) (Ms.msgC 3 (k : Int) fr (some ⟨gp, 0, none⟩) 1 1))
     generalize (V3.setRow (w.heap.size + 1 + 1) (Ms.msgC 3 (k : Int) fr (some ⟨gp, 0, none⟩) 1 1)) = V4 at *
     refine hK.out _ _ ?_; clear hK K; (try simp only [Rg.lp]); refine Rg.doneR (by kernel_rfl) ?_ _; refine NoPanic.normal ?_; clear HS; go_wp2_with fail
     have hi4 : (Try.prog.info? 71).map (·.size) = some (Ms.msgC 3 (k : Int) fr (some ⟨gp, 0, none⟩) 1 1).size := by kernel_rfl
     have HPR := zz ((Mj.rd_of_blk HP.out).more (show gp + 1 ≤ V4.heap.size from HP.out.lt))
     exact ret_rows2 rfl rfl rfl G6.out ⟨by rw [Try.underlying45], i5⟩ G7.out ⟨by rw [Try.underlying71], hi4⟩ rfl (by rw [HZZ.out, HFE.out, HDE.out]; exact ⟨A2, c2, some ⟨gp, 0, none⟩, 1, by rw [← HR5.out]; rfl, Rd.of_own HV.out, HPR.out, HB.out, fun a h => Nat.le_trans (by omega) (own_lo HV.out a h), fun a h => by cases h; show w.heap.size ≤ gp; have := HGP.out; omega, (own_cap HV.out).1, (own_cap HV.out).2⟩)
end Nd
end Go.Proofs.Ytobigbnmbnhikaa
