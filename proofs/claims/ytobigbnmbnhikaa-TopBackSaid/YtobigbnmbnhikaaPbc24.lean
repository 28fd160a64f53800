import Derived.Test.YtobigbnmbnhikaaPb0
import Derived.Test.YtobigbnmbnhikaaPbc16
import Derived.Test.YtobigbnmbnhikaaPb1
set_option linter.unusedVariables false
set_option linter.unusedSimpArgs false
namespace Go.Proofs.Ytobigbnmbnhikaa
namespace Nd
open Go.RowKit Mem Rws Flat
def UnpackAs (w w' : World) (gn : Nat) (zs : List Int) (f : Nat → Value) (S : Value) (e : Ending) : Prop :=
 e = .returned (.bool (unpackOk zs)) ∧ Blk w' gn 45 (row 74 (nodeW (if unpackOk zs = true then unpackF zs f else f) S)) ∧ w.grownBy w' (some gn)
set_option maxRecDepth 100000 in
set_option maxHeartbeats 2000000 in
theorem unpack_any (f : Nat → Value) (zs : List Int) (hl : zs.length = 24) (a : Option Addr) (c : Nat) (hc : 24 ≤ c) (S : Value) (gn : Nat) (w : World) (hf : ∀ i, i < 73 → okT (nodeT i) (f i)) (hn : Blk w gn 45 (row 74 (nodeW f S))) (hr : Rd w w.heap.size 1 a zs.length (Ms.intsV zs)) :
  Calls Try.prog 61 #[.pointer (some ⟨gn, 0, none⟩), .slice a 24 c] w fun e w' => UnpackAs w w' gn zs f S e := by
 obtain ⟨b, o, rfl, hb, hz⟩ := rd_zs hr hl; have HZ := zz hz; have HN := zz hn; have HF := zz hf; have hgn := hn.lt; clear hr hn hz hf
 go_enter Try.func61, Try.ntmps61
 go_upto_region 2 with fail
 have HR := zz (show Blk (w.alloc (.cells #[.bool false, .bool false, .bool false, .bool false, .int .i64 0, .int .i64 0, .int .i64 0, .int .i64 0, .int .i64 0, .int .i64 0, .int .i64 0, .int .i64 0] 38)) w.heap.size 38 (row 12 (rollF (uptoB (rollU zs).f 0) (uptoI (rollU zs).m 0) (uptoI (rollU zs).j 0))) from Blk.fresh _ _ _)
 have HG := zz (gr_alloc w (.cells #[.bool false, .bool false, .bool false, .bool false, .int .i64 0, .int .i64 0, .int .i64 0, .int .i64 0, .int .i64 0, .int .i64 0, .int .i64 0, .int .i64 0] 38) (some gn)); have HB := zz ((Below.refl w.heap.size w).alloc (Nat.le_refl _) (.cells #[.bool false, .bool false, .bool false, .bool false, .int .i64 0, .int .i64 0, .int .i64 0, .int .i64 0, .int .i64 0, .int .i64 0, .int .i64 0, .int .i64 0] 38))
 generalize (w.alloc (.cells #[.bool false, .bool false, .bool false, .bool false, .int .i64 0, .int .i64 0, .int .i64 0, .int .i64 0, .int .i64 0, .int .i64 0, .int .i64 0, .int .i64 0] 38)) = w1 at *
 have x21 := (HB.out.cell (p := ⟨b, o + 21, none⟩) hb).trans (HZ.out 21 (by omega)); have x22 := (HB.out.cell (p := ⟨b, o + 22, none⟩) hb).trans (HZ.out 22 (by omega)); have x23 := (HB.out.cell (p := ⟨b, o + 23, none⟩) hb).trans (HZ.out 23 (by omega)); obtain ⟨z1, hz1⟩ : ∃ z, zAt zs 21 = z := ⟨_, rfl⟩; obtain ⟨z2, hz2⟩ : ∃ z, zAt zs 22 = z := ⟨_, rfl⟩; obtain ⟨z3, hz3⟩ : ∃ z, zAt zs 23 = z := ⟨_, rfl⟩; rw [hz1] at x21; rw [hz2] at x22; rw [hz3] at x23; have HZ1 := zz hz1; have HZ2 := zz hz2; have HZ3 := zz hz3; clear hz1 hz2 hz3
 have HTO := zz (show tailOk zs = decide (0 ≤ z1 ∧ z1 < 16 ∧ 0 ≤ z2 ∧ z2 < 4096 ∧ 0 ≤ z3 ∧ z3 < 4096) by unfold tailOk; rw [HZ1.out, HZ2.out, HZ3.out])
 have HBAD := zz (fun (v : World) (h : unpackOk zs = false) (hb : Below w.heap.size w v) => show UnpackAs w v gn zs f S (.returned (.bool false)) from ⟨by rw [h], by rw [if_neg (by rw [h]; exact Bool.false_ne_true)]; exact HN.out.below hb hgn, gr_below hb⟩)
 by_cases h1 : 0 ≤ z1 ∧ z1 < 16
 ·
  by_cases h2 : 0 ≤ z2 ∧ z2 < 4096
  ·
   by_cases h3 : 0 ≤ z3 ∧ z3 < 4096
   ·
    have HTK := zz (show tailOk zs = true by rw [HTO.out]; exact decide_eq_true (by omega))
    have e1 : z1 / 16 = 0 := by omega
    have e2 : z2 / 4096 = 0 := by omega
    have e3 : z3 / 4096 = 0 := by omega
    go_wp2_with fail; obtain ⟨v1, rfl⟩ : ∃ v : Nat, z1 = (v : Int) := ⟨z1.toNat, by omega⟩; obtain ⟨v2, rfl⟩ : ∃ v : Nat, z2 = (v : Int) := ⟨z2.toNat, by omega⟩; obtain ⟨v3, rfl⟩ : ∃ v : Nat, z3 = (v : Int) := ⟨z3.toNat, by omega⟩; clear x21 x22 x23 e1 e2 e3 HTO HG
    go_loopw [38] (fun i wr => ∃ j : Nat, j ≤ 4 ∧ i = .int .i64 (j : Int) ∧ Blk wr w.heap.size 38 (row 12 (rollF (uptoB (rollU zs).f j) (uptoI (rollU zs).m j) (uptoI (rollU zs).j j))) ∧ Below w.heap.size w wr) (fun i _ => 4 - (intOf i).toNat)
    case atStart => exact ⟨0, by omega, rfl, HR.out, HB.out⟩
    case round =>
     clear HR HB; obtain ⟨j, hj, rfl, hrr, hbb⟩ := hrel; have HR := zz hrr; have HB := zz hbb; clear hrr hbb; have x21 := (HB.out.cell (p := ⟨b, o + 21, none⟩) hb).trans (HZ.out 21 (by omega)); have x22 := (HB.out.cell (p := ⟨b, o + 22, none⟩) hb).trans (HZ.out 22 (by omega)); have x23 := (HB.out.cell (p := ⟨b, o + 23, none⟩) hb).trans (HZ.out 23 (by omega)); rw [HZ1.out] at x21; rw [HZ2.out] at x22; rw [HZ3.out] at x23
     by_cases hlt : j < 4
     ·
      obtain rfl | rfl | rfl | rfl : j = 0 ∨ j = 1 ∨ j = 2 ∨ j = 3 := by omega
      ·
       have c0 := HR.out.cell 0; have t0 := HR.out.thaw 0; have c1 := HR.out.cell 4; have t1 := HR.out.thaw 4; have c2 := HR.out.cell 8; have t2 := HR.out.thaw 8; rw [row_at (by omega)] at c0 c1 c2; go_wp2_with fail
       exact ⟨⟨1, by omega, rfl, roll_put (rollU zs) 0 (by omega) HR.out (by show _ = bitZ (zAt zs 21) 0; rw [HZ1.out]; exact bit_law v1 0 (by omega)) (by show _ = octAt (zAt zs 22) 0; rw [HZ2.out]; exact oct_law v2 0 (by omega)) (by show _ = octAt (zAt zs 23) 0; rw [HZ3.out]; exact oct_law v3 0 (by omega)), ((HB.out.setCell (p := ⟨w.heap.size, 0, none⟩) (Nat.le_refl _) _).setCell (p := ⟨w.heap.size, 4, none⟩) (Nat.le_refl _) _).setCell (p := ⟨w.heap.size, 8, none⟩) (Nat.le_refl _) _⟩, by simp [intOf]⟩
      ·
       have c0 := HR.out.cell 1; have t0 := HR.out.thaw 1; have c1 := HR.out.cell 5; have t1 := HR.out.thaw 5; have c2 := HR.out.cell 9; have t2 := HR.out.thaw 9; rw [row_at (by omega)] at c0 c1 c2; go_wp2_with fail
       exact ⟨⟨2, by omega, rfl, roll_put (rollU zs) 1 (by omega) HR.out (by show _ = bitZ (zAt zs 21) 1; rw [HZ1.out]; exact bit_law v1 1 (by omega)) (by show _ = octAt (zAt zs 22) 1; rw [HZ2.out]; exact oct_law v2 1 (by omega)) (by show _ = octAt (zAt zs 23) 1; rw [HZ3.out]; exact oct_law v3 1 (by omega)), ((HB.out.setCell (p := ⟨w.heap.size, 1, none⟩) (Nat.le_refl _) _).setCell (p := ⟨w.heap.size, 5, none⟩) (Nat.le_refl _) _).setCell (p := ⟨w.heap.size, 9, none⟩) (Nat.le_refl _) _⟩, by simp [intOf]⟩
      ·
       have c0 := HR.out.cell 2; have t0 := HR.out.thaw 2; have c1 := HR.out.cell 6; have t1 := HR.out.thaw 6; have c2 := HR.out.cell 10; have t2 := HR.out.thaw 10; rw [row_at (by omega)] at c0 c1 c2; go_wp2_with fail
       exact ⟨⟨3, by omega, rfl, roll_put (rollU zs) 2 (by omega) HR.out (by show _ = bitZ (zAt zs 21) 2; rw [HZ1.out]; exact bit_law v1 2 (by omega)) (by show _ = octAt (zAt zs 22) 2; rw [HZ2.out]; exact oct_law v2 2 (by omega)) (by show _ = octAt (zAt zs 23) 2; rw [HZ3.out]; exact oct_law v3 2 (by omega)), ((HB.out.setCell (p := ⟨w.heap.size, 2, none⟩) (Nat.le_refl _) _).setCell (p := ⟨w.heap.size, 6, none⟩) (Nat.le_refl _) _).setCell (p := ⟨w.heap.size, 10, none⟩) (Nat.le_refl _) _⟩, by simp [intOf]⟩
      ·
       have c0 := HR.out.cell 3; have t0 := HR.out.thaw 3; have c1 := HR.out.cell 7; have t1 := HR.out.thaw 7; have c2 := HR.out.cell 11; have t2 := HR.out.thaw 11; rw [row_at (by omega)] at c0 c1 c2; go_wp2_with fail
       exact ⟨⟨4, by omega, rfl, roll_put (rollU zs) 3 (by omega) HR.out (by show _ = bitZ (zAt zs 21) 3; rw [HZ1.out]; exact bit_law v1 3 (by omega)) (by show _ = octAt (zAt zs 22) 3; rw [HZ2.out]; exact oct_law v2 3 (by omega)) (by show _ = octAt (zAt zs 23) 3; rw [HZ3.out]; exact oct_law v3 3 (by omega)), ((HB.out.setCell (p := ⟨w.heap.size, 3, none⟩) (Nat.le_refl _) _).setCell (p := ⟨w.heap.size, 7, none⟩) (Nat.le_refl _) _).setCell (p := ⟨w.heap.size, 11, none⟩) (Nat.le_refl _) _⟩, by simp [intOf]⟩
     ·
      obtain rfl : j = 4 := by omega
      clear hlt
      rw [show ((4 : Nat) : Int) = 4 from rfl]
      have HR := zz (show Blk wr w.heap.size 38 (rollU zs).row from by rw [← upto_all]; exact HR.out)
      have ir : (Try.prog.info? 38).map (·.size) = some (rollU zs).row.size := by unfold RS.row; rw [row_size]; kernel_rfl
      have cG := fun w => good_any (rollU zs).f (rollU zs).m (rollU zs).j w
      have CG := zz (fun w => show Calls Try.prog 57 #[.agg (rollU zs).row] w fun e w' => e = .returned (.bool (goodU zs)) ∧ Below w.heap.size w w' from cG w)
      clear cG x21 x22 x23; obtain ⟨RR, hRR⟩ : ∃ R, (rollU zs).row = R := ⟨_, rfl⟩; have HRR := zz hRR; rw [hRR] at HR ir CG; clear hRR
      go_wp2_with (refine wpList_whole rfl 38 _ rfl w.heap.size rfl HR.out _ Try.underlying38 rfl ir ?_)
      refine (CG.out _).mono ?_; rintro e wg ⟨rfl, hbg⟩; have HR0 := HR; have HX := zz (Nat.lt_of_lt_of_le HR0.out.lt hbg.size); have HR := zz (HR.out.below hbg HR.out.lt); have HB := zz (onward HB.out (Nat.le_refl _) hbg); clear hbg CG
      cases hgu : goodU zs with
      | false =>
       have HUF := zz (show unpackOk zs = false by unfold unpackOk; rw [hgu, Bool.and_false, Bool.false_and])
       clear hgu; go_wp2_with fail
       go_ret
       exact HBAD.out _ HUF.out HB.out
      | true =>
       have HGU := zz hgu; clear hgu; have HN2 := zz (HN.out.below HB.out hgn); have HA0 := zz (Blk.fresh wg 34 #[.int .i64 0, .int .i64 0, .int .i64 0, .int .i64 0, .int .i64 0, .bool false, .int .i64 0, .int .i64 0, .int .i64 0, .int .i64 0, .int .i64 0, .int .i64 0, .bool false, .int .i64 0, .int .i64 0, .int .i64 0, .int .i64 0, .int .i64 0, .int .i64 0, .bool false, .int .i64 0])
       have iA : ∀ F : Nat → Value, (Try.prog.info? 34).map (·.size) = some (row 21 F).size := fun F => by rw [row_size]; kernel_rfl
       have IA := zz iA; have iA1 := iA fun i => nodeW f S (6 + i)
       have zA1 : (#[.int .i64 0, .int .i64 0, .int .i64 0, .int .i64 0, .int .i64 0, .bool false, .int .i64 0, .int .i64 0, .int .i64 0, .int .i64 0, .int .i64 0, .int .i64 0, .bool false, .int .i64 0, .int .i64 0, .int .i64 0, .int .i64 0, .int .i64 0, .int .i64 0, .bool false, .int .i64 0] : Array Value).size = (row 21 fun i => nodeW f S (6 + i)).size := by rw [row_size]; rfl
       have oA1 : (row 21 fun i => nodeW f S (6 + i)).all (·.oneCell') = true := row_one fun i hi => by
        have h := one_of HF.out (A := none) (n := 0) (c := 0); rw [Array.all_eq_true_iff_forall_mem] at h; have h1 := h (nodeW f (.slice none 0 0) (6 + i)) (Array.mem_of_getElem? (i := 6 + i) (row_at (by omega)))
        unfold nodeW at h1 ⊢
        rw [if_neg (by omega)] at h1 ⊢; exact h1
       clear iA
       go_upto_region 15 with (first
        | (refine wpList_mid rfl 34 _ rfl gn 6 21 rfl HN2.out (by omega) _ Try.underlying34 rfl (by kernel_rfl) ?_)
        | (refine wpList_store_row rfl 34 _ _ rfl wg.heap.size (row 21 fun i => nodeW f S (6 + i)) rfl rfl 34 _ HA0.out iA1 zA1 oA1 ?_))
       have hb5 : Below wg.heap.size wg ((wg.alloc (.cells #[.int .i64 0, .int .i64 0, .int .i64 0, .int .i64 0, .int .i64 0, .bool false, .int .i64 0, .int .i64 0, .int .i64 0, .int .i64 0, .int .i64 0, .int .i64 0, .bool false, .int .i64 0, .int .i64 0, .int .i64 0, .int .i64 0, .int .i64 0, .int .i64 0, .bool false, .int .i64 0] 34)).setRow wg.heap.size (row 21 fun j => nodeW f S (6 + j))) := below_setRow ((Below.refl _ _).alloc (Nat.le_refl _) _) (Nat.le_refl _) _; have HA := zz (HA0.out.setRow (row 21 fun j => nodeW f S (6 + j))); have HR := zz (HR.out.below hb5 HR.out.lt); have HB := zz (onward HB.out (Nat.le_refl _) hb5); have hwg := HR.out.lt; have hwg2 := HB.out.size; have HWG : w.heap.size < wg.heap.size := HX.out; clear hb5 HA0 HN2 iA1 zA1 oA1
       generalize ((wg.alloc (.cells #[.int .i64 0, .int .i64 0, .int .i64 0, .int .i64 0, .int .i64 0, .bool false, .int .i64 0, .int .i64 0, .int .i64 0, .int .i64 0, .int .i64 0, .int .i64 0, .bool false, .int .i64 0, .int .i64 0, .int .i64 0, .int .i64 0, .int .i64 0, .int .i64 0, .bool false, .int .i64 0] 34)).setRow wg.heap.size (row 21 fun j => nodeW f S (6 + j))) = w5 at *
       obtain ⟨ga, hga⟩ : ∃ g, wg.heap.size = g := ⟨_, rfl⟩; rw [hga] at HA HWG ⊢; clear hga; have hal := HA.out.lt; go_wp2_with fail
       go_loopw [89] (fun i wr => ∃ k : Nat, k ≤ 3 ∧ i = .int .i64 (k : Int) ∧ bentTo zs k = true ∧ Blk wr ga 34 (row 21 fun i => if i < k * 7 then axV zs i else nodeW f S (6 + i)) ∧ Below ga w5 wr) (fun i _ => 3 - (intOf i).toNat)
       case atStart => exact ⟨0, by omega, rfl, rfl, by rw [row_congr (g := fun j => nodeW f S (6 + j)) (fun i hi => if_neg (by omega))]; exact HA.out, Below.refl _ _⟩
       case round =>
        clear HA; obtain ⟨k, hk, rfl, hbt, ha, hbg⟩ := hrel; have HA := zz ha; have HBG := zz hbg; have HBT := zz hbt; have HBW := zz (HB.out.trans (hbg.mono (by omega))); clear ha hbg hbt; have HC := zz (fun j hj => (HBW.out.cell (p := ⟨b, o + j, none⟩) hb).trans (HZ.out j hj))
        by_cases hlt : k < 3
        ·
         obtain rfl | rfl | rfl : k = 0 ∨ k = 1 ∨ k = 2 := by omega
         ·
          have hc7 : (row 7 fun j => axV zs (0 * 7 + j)) = #[.int .i64 (zAt zs 0), .int .i64 (zAt zs 1), .int .i64 (zAt zs 2), .int .i64 (zAt zs 3), .int .i64 (zAt zs 4), .bool (zAt zs 5 == 1), .int .i64 (zAt zs 6)] := rfl; have hbo : bentOk zs 0 = decide (zAt zs 5 = 0 ∨ zAt zs 5 = 1) := rfl; have x0 := HC.out 0 (by omega); have x1 := HC.out 1 (by omega); have x2 := HC.out 2 (by omega); have x3 := HC.out 3 (by omega); have x4 := HC.out 4 (by omega); have x5 := HC.out 5 (by omega); have x6 := HC.out 6 (by omega); rw [Nat.add_zero] at x0
          generalize zAt zs 0 = p0 at *
          generalize zAt zs 1 = p1 at *
          generalize zAt zs 2 = p2 at *
          generalize zAt zs 3 = p3 at *
          generalize zAt zs 4 = p4 at *
          generalize zAt zs 5 = p5 at *
          generalize zAt zs 6 = p6 at *
          by_cases hp : p5 = 0 ∨ p5 = 1
          ·
           have HBT1 := zz (show bentTo zs 1 = true by show (bentTo zs 0 && bentOk zs 0) = true; rw [HBT.out, hbo, decide_eq_true hp]; rfl)
           clear hbo
           by_cases hp0 : p5 = 0
           ·
            have q0 : (p5 != 0) = false := by simpa using hp0
            clear hp hp0
            go_upto_region 21 with fail
            clear q0; have HS := And.intro x0 (And.intro x1 (And.intro x2 (And.intro x3 (And.intro x4 (And.intro x5 x6))))); have HC7 := zz hc7; have HTH := zz (row_there HA.out 0 7 (by omega)); clear hc7 x0 x1 x2 x3 x4 x5 x6; refine wp_region_noPanic ?_; refine Rg.beginR [3, 6, 9, 12, 15, 18, 22] (fun w' => w'.cell? ⟨b, o, none⟩ = some (.int .i64 p0) ∧ w'.cell? ⟨b, o + 1, none⟩ = some (.int .i64 p1) ∧ w'.cell? ⟨b, o + 2, none⟩ = some (.int .i64 p2) ∧ w'.cell? ⟨b, o + 3, none⟩ = some (.int .i64 p3) ∧ w'.cell? ⟨b, o + 4, none⟩ = some (.int .i64 p4) ∧ w'.cell? ⟨b, o + 5, none⟩ = some (.int .i64 p5) ∧ w'.cell? ⟨b, o + 6, none⟩ = some (.int .i64 p6)) (by kernel_rfl) ?_; have HA := zz HA.out.drew; have HBG := zz HBG.out.drew
            have HTH := zz (show wr.drew.there ga 0 7 from HTH.out)
            have HS := (show wr.drew.cell? ⟨b, o, none⟩ = some (.int .i64 p0) ∧ wr.drew.cell? ⟨b, o + 1, none⟩ = some (.int .i64 p1) ∧ wr.drew.cell? ⟨b, o + 2, none⟩ = some (.int .i64 p2) ∧ wr.drew.cell? ⟨b, o + 3, none⟩ = some (.int .i64 p3) ∧ wr.drew.cell? ⟨b, o + 4, none⟩ = some (.int .i64 p4) ∧ wr.drew.cell? ⟨b, o + 5, none⟩ = some (.int .i64 p5) ∧ wr.drew.cell? ⟨b, o + 6, none⟩ = some (.int .i64 p6) from HS)
            generalize wr.drew = V0 at *
            refine Rg.tq 0 ⟨some 106, .move (.tmp 9), _, _, _, none⟩ rfl ?_; (try simp only [Rg.lp]); refine Rg.tq 1 ⟨some 107, .move (.tmp 10), _, _, _, none⟩ rfl ?_; (try simp only [Rg.lp]); refine Rg.tq 2 ⟨some 108, .indexAddr 69 (.tmp 107) (.const (.int .i64 0)), _, _, _, none⟩ rfl ?_; (try simp only [Rg.lp]); refine Rg.tr 3 ⟨some 109, .load 3 (.tmp 108), _, _, _, none⟩ rfl HS ?_; (try simp only [Rg.lp]); refine Rg.tq 4 ⟨some 110, .move (.tmp 10), _, _, _, none⟩ rfl ?_; (try simp only [Rg.lp]); refine Rg.tq 5 ⟨some 111, .indexAddr 69 (.tmp 110) (.const (.int .i64 1)), _, _, _, none⟩ rfl ?_; (try simp only [Rg.lp]); refine Rg.tr 6 ⟨some 112, .load 3 (.tmp 111), _, _, _, none⟩ rfl HS ?_; (try simp only [Rg.lp]); refine Rg.tq 7 ⟨some 113, .move (.tmp 10), _, _, _, none⟩ rfl ?_; (try simp only [Rg.lp]); refine Rg.tq 8 ⟨some 114, .indexAddr 69 (.tmp 113) (.const (.int .i64 2)), _, _, _, none⟩ rfl ?_; (try simp only [Rg.lp]); refine Rg.tr 9 ⟨some 115, .load 3 (.tmp 114), _, _, _, none⟩ rfl HS ?_; (try simp only [Rg.lp]); refine Rg.tq 10 ⟨some 116, .move (.tmp 10), _, _, _, none⟩ rfl ?_; (try simp only [Rg.lp]); refine Rg.tq 11 ⟨some 117, .indexAddr 69 (.tmp 116) (.const (.int .i64 3)), _, _, _, none⟩ rfl ?_; (try simp only [Rg.lp]); refine Rg.tr 12 ⟨some 118, .load 3 (.tmp 117), _, _, _, none⟩ rfl HS ?_; (try simp only [Rg.lp]); refine Rg.tq 13 ⟨some 119, .move (.tmp 10), _, _, _, none⟩ rfl ?_; (try simp only [Rg.lp]); refine Rg.tq 14 ⟨some 120, .indexAddr 69 (.tmp 119) (.const (.int .i64 4)), _, _, _, none⟩ rfl ?_
            (try simp only [Rg.lp]); refine Rg.tr 15 ⟨some 121, .load 3 (.tmp 120), _, _, _, none⟩ rfl HS ?_; (try simp only [Rg.lp]); refine Rg.tq 16 ⟨some 122, .move (.tmp 10), _, _, _, none⟩ rfl ?_; (try simp only [Rg.lp]); refine Rg.tq 17 ⟨some 123, .indexAddr 69 (.tmp 122) (.const (.int .i64 5)), _, _, _, none⟩ rfl ?_; (try simp only [Rg.lp]); refine Rg.tr 18 ⟨some 124, .load 3 (.tmp 123), _, _, _, none⟩ rfl HS ?_; (try simp only [Rg.lp]); refine Rg.tq 19 ⟨some 125, .binOp .eql 3 (.tmp 124) (.const (.int .i64 1)) 3, _, _, _, none⟩ rfl ?_; (try simp only [Rg.lp]); refine Rg.tq 20 ⟨some 126, .move (.tmp 10), _, _, _, none⟩ rfl ?_; (try simp only [Rg.lp]); refine Rg.tq 21 ⟨some 127, .indexAddr 69 (.tmp 126) (.const (.int .i64 6)), _, _, _, none⟩ rfl ?_; (try simp only [Rg.lp]); refine Rg.tr 22 ⟨some 128, .load 3 (.tmp 127), _, _, _, none⟩ rfl HS ?_; (try simp only [Rg.lp]); refine Rg.tq 23 ⟨some 129, .build 33 #[(0, .tmp 109), (1, .tmp 112), (2, .tmp 115), (3, .tmp 118), (4, .tmp 121), (5, .tmp 125), (6, .tmp 128)], _, _, _, none⟩ rfl ?_; (try simp only [Rg.lp]); refine Rg.tq 24 ⟨some 130, .indexAddr 34 (.tmp 8) (.tmp 106), _, _, _, none⟩ rfl ?_; (try simp only [Rg.lp]); refine Rg.or1 25 ⟨none, .store 33 (.tmp 130) (.tmp 129), _, _, _, none⟩ rfl ?_; refine Rg.stepF ?_ ?_
            · kernel_rfl
            intro K hK; rw [if_pos (by rfl)]; refine wp_store_mid 33 (.tmp 130) (.tmp 129) rfl ga 0 #[.int .i64 p0, .int .i64 p1, .int .i64 p2, .int .i64 p3, .int .i64 p4, .bool (p5 == 1), .int .i64 p6] rfl rfl HTH.out (by kernel_rfl) (by simp [Value.oneCell']) ?_; have HA := zz (blk_mid HA.out (0 * 7) 7 (fun j => axV zs (0 * 7 + j))); rw [ax_store zs 0 (by omega), HC7.out] at HA; have HBG := zz (below_setCells (Nat.le_refl ga) (#[.int .i64 p0, .int .i64 p1, .int .i64 p2, .int .i64 p3, .int .i64 p4, .bool (p5 == 1), .int .i64 p6] : Array Value).toList 0 HBG.out)
            have HA : Hid (Blk (V0.setCells ga 0 (#[.int .i64 p0, .int .i64 p1, .int .i64 p2, .int .i64 p3, .int .i64 p4, .bool (p5 == 1), .int .i64 p6] : Array Value).toList) ga 34 (row 21 fun i => if i < (0 + 1) * 7 then axV zs i else nodeW f S (6 + i))) := HA
            generalize (V0.setCells ga 0 (#[.int .i64 p0, .int .i64 p1, .int .i64 p2, .int .i64 p3, .int .i64 p4, .bool (p5 == 1), .int .i64 p6] : Array Value).toList) = V1 at *
            refine hK.out _ _ ?_; clear hK K; (try simp only [Rg.lp]); refine Rg.doneR (by kernel_rfl) ?_ _; refine NoPanic.normal ?_; clear HS; go_wp2_with fail; exact ⟨⟨1, by omega, rfl, HBT1.out, HA.out, HBG.out⟩, by simp [intOf]⟩
           ·
            have q0 : (p5 != 0) = true := by simpa using hp0
            have q1 : (p5 != 1) = false := bne_eq_false_iff_eq.2 (by omega); clear hp hp0
            go_upto_region 21 with fail
            clear q0 q1; have HS := And.intro x0 (And.intro x1 (And.intro x2 (And.intro x3 (And.intro x4 (And.intro x5 x6))))); have HC7 := zz hc7; have HTH := zz (row_there HA.out 0 7 (by omega)); clear hc7 x0 x1 x2 x3 x4 x5 x6; refine wp_region_noPanic ?_; refine Rg.beginR [3, 6, 9, 12, 15, 18, 22] (fun w' => w'.cell? ⟨b, o, none⟩ = some (.int .i64 p0) ∧ w'.cell? ⟨b, o + 1, none⟩ = some (.int .i64 p1) ∧ w'.cell? ⟨b, o + 2, none⟩ = some (.int .i64 p2) ∧ w'.cell? ⟨b, o + 3, none⟩ = some (.int .i64 p3) ∧ w'.cell? ⟨b, o + 4, none⟩ = some (.int .i64 p4) ∧ w'.cell? ⟨b, o + 5, none⟩ = some (.int .i64 p5) ∧ w'.cell? ⟨b, o + 6, none⟩ = some (.int .i64 p6)) (by kernel_rfl) ?_; have HA := zz HA.out.drew; have HBG := zz HBG.out.drew
            have HTH := zz (show wr.drew.there ga 0 7 from HTH.out)
            have HS := (show wr.drew.cell? ⟨b, o, none⟩ = some (.int .i64 p0) ∧ wr.drew.cell? ⟨b, o + 1, none⟩ = some (.int .i64 p1) ∧ wr.drew.cell? ⟨b, o + 2, none⟩ = some (.int .i64 p2) ∧ wr.drew.cell? ⟨b, o + 3, none⟩ = some (.int .i64 p3) ∧ wr.drew.cell? ⟨b, o + 4, none⟩ = some (.int .i64 p4) ∧ wr.drew.cell? ⟨b, o + 5, none⟩ = some (.int .i64 p5) ∧ wr.drew.cell? ⟨b, o + 6, none⟩ = some (.int .i64 p6) from HS)
            generalize wr.drew = V0 at *
            refine Rg.tq 0 ⟨some 106, .move (.tmp 9), _, _, _, none⟩ rfl ?_; (try simp only [Rg.lp]); refine Rg.tq 1 ⟨some 107, .move (.tmp 10), _, _, _, none⟩ rfl ?_; (try simp only [Rg.lp]); refine Rg.tq 2 ⟨some 108, .indexAddr 69 (.tmp 107) (.const (.int .i64 0)), _, _, _, none⟩ rfl ?_; (try simp only [Rg.lp]); refine Rg.tr 3 ⟨some 109, .load 3 (.tmp 108), _, _, _, none⟩ rfl HS ?_; (try simp only [Rg.lp]); refine Rg.tq 4 ⟨some 110, .move (.tmp 10), _, _, _, none⟩ rfl ?_; (try simp only [Rg.lp]); refine Rg.tq 5 ⟨some 111, .indexAddr 69 (.tmp 110) (.const (.int .i64 1)), _, _, _, none⟩ rfl ?_; (try simp only [Rg.lp]); refine Rg.tr 6 ⟨some 112, .load 3 (.tmp 111), _, _, _, none⟩ rfl HS ?_; (try simp only [Rg.lp]); refine Rg.tq 7 ⟨some 113, .move (.tmp 10), _, _, _, none⟩ rfl ?_; (try simp only [Rg.lp]); refine Rg.tq 8 ⟨some 114, .indexAddr 69 (.tmp 113) (.const (.int .i64 2)), _, _, _, none⟩ rfl ?_; (try simp only [Rg.lp]); refine Rg.tr 9 ⟨some 115, .load 3 (.tmp 114), _, _, _, none⟩ rfl HS ?_; (try simp only [Rg.lp]); refine Rg.tq 10 ⟨some 116, .move (.tmp 10), _, _, _, none⟩ rfl ?_; (try simp only [Rg.lp]); refine Rg.tq 11 ⟨some 117, .indexAddr 69 (.tmp 116) (.const (.int .i64 3)), _, _, _, none⟩ rfl ?_; (try simp only [Rg.lp]); refine Rg.tr 12 ⟨some 118, .load 3 (.tmp 117), _, _, _, none⟩ rfl HS ?_; (try simp only [Rg.lp]); refine Rg.tq 13 ⟨some 119, .move (.tmp 10), _, _, _, none⟩ rfl ?_; (try simp only [Rg.lp]); refine Rg.tq 14 ⟨some 120, .indexAddr 69 (.tmp 119) (.const (.int .i64 4)), _, _, _, none⟩ rfl ?_
            (try simp only [Rg.lp]); refine Rg.tr 15 ⟨some 121, .load 3 (.tmp 120), _, _, _, none⟩ rfl HS ?_; (try simp only [Rg.lp]); refine Rg.tq 16 ⟨some 122, .move (.tmp 10), _, _, _, none⟩ rfl ?_; (try simp only [Rg.lp]); refine Rg.tq 17 ⟨some 123, .indexAddr 69 (.tmp 122) (.const (.int .i64 5)), _, _, _, none⟩ rfl ?_; (try simp only [Rg.lp]); refine Rg.tr 18 ⟨some 124, .load 3 (.tmp 123), _, _, _, none⟩ rfl HS ?_; (try simp only [Rg.lp]); refine Rg.tq 19 ⟨some 125, .binOp .eql 3 (.tmp 124) (.const (.int .i64 1)) 3, _, _, _, none⟩ rfl ?_; (try simp only [Rg.lp]); refine Rg.tq 20 ⟨some 126, .move (.tmp 10), _, _, _, none⟩ rfl ?_; (try simp only [Rg.lp]); refine Rg.tq 21 ⟨some 127, .indexAddr 69 (.tmp 126) (.const (.int .i64 6)), _, _, _, none⟩ rfl ?_; (try simp only [Rg.lp]); refine Rg.tr 22 ⟨some 128, .load 3 (.tmp 127), _, _, _, none⟩ rfl HS ?_; (try simp only [Rg.lp]); refine Rg.tq 23 ⟨some 129, .build 33 #[(0, .tmp 109), (1, .tmp 112), (2, .tmp 115), (3, .tmp 118), (4, .tmp 121), (5, .tmp 125), (6, .tmp 128)], _, _, _, none⟩ rfl ?_; (try simp only [Rg.lp]); refine Rg.tq 24 ⟨some 130, .indexAddr 34 (.tmp 8) (.tmp 106), _, _, _, none⟩ rfl ?_; (try simp only [Rg.lp]); refine Rg.or1 25 ⟨none, .store 33 (.tmp 130) (.tmp 129), _, _, _, none⟩ rfl ?_; refine Rg.stepF ?_ ?_
            · kernel_rfl
            intro K hK; rw [if_pos (by rfl)]; refine wp_store_mid 33 (.tmp 130) (.tmp 129) rfl ga 0 #[.int .i64 p0, .int .i64 p1, .int .i64 p2, .int .i64 p3, .int .i64 p4, .bool (p5 == 1), .int .i64 p6] rfl rfl HTH.out (by kernel_rfl) (by simp [Value.oneCell']) ?_; have HA := zz (blk_mid HA.out (0 * 7) 7 (fun j => axV zs (0 * 7 + j))); rw [ax_store zs 0 (by omega), HC7.out] at HA; have HBG := zz (below_setCells (Nat.le_refl ga) (#[.int .i64 p0, .int .i64 p1, .int .i64 p2, .int .i64 p3, .int .i64 p4, .bool (p5 == 1), .int .i64 p6] : Array Value).toList 0 HBG.out)
            have HA : Hid (Blk (V0.setCells ga 0 (#[.int .i64 p0, .int .i64 p1, .int .i64 p2, .int .i64 p3, .int .i64 p4, .bool (p5 == 1), .int .i64 p6] : Array Value).toList) ga 34 (row 21 fun i => if i < (0 + 1) * 7 then axV zs i else nodeW f S (6 + i))) := HA
            generalize (V0.setCells ga 0 (#[.int .i64 p0, .int .i64 p1, .int .i64 p2, .int .i64 p3, .int .i64 p4, .bool (p5 == 1), .int .i64 p6] : Array Value).toList) = V1 at *
            refine hK.out _ _ ?_; clear hK K; (try simp only [Rg.lp]); refine Rg.doneR (by kernel_rfl) ?_ _; refine NoPanic.normal ?_; clear HS; go_wp2_with fail; exact ⟨⟨1, by omega, rfl, HBT1.out, HA.out, HBG.out⟩, by simp [intOf]⟩
          ·
           have q0 : (p5 != 0) = true := bne_iff_ne.2 (by omega); have q1 : (p5 != 1) = true := bne_iff_ne.2 (by omega)
           have HUF := zz (show unpackOk zs = false by unfold unpackOk; rw [bent_bad (k := 0) (by rw [hbo]; exact decide_eq_false hp) (by omega), Bool.and_false])
           clear hbo hp; go_wp2_with fail
           go_ret
           exact HBAD.out _ HUF.out HBW.out
         ·
          have hc7 : (row 7 fun j => axV zs (1 * 7 + j)) = #[.int .i64 (zAt zs 7), .int .i64 (zAt zs 8), .int .i64 (zAt zs 9), .int .i64 (zAt zs 10), .int .i64 (zAt zs 11), .bool (zAt zs 12 == 1), .int .i64 (zAt zs 13)] := rfl; have hbo : bentOk zs 1 = decide (zAt zs 12 = 0 ∨ zAt zs 12 = 1) := rfl; have x0 := HC.out 7 (by omega); have x1 := HC.out 8 (by omega); have x2 := HC.out 9 (by omega); have x3 := HC.out 10 (by omega); have x4 := HC.out 11 (by omega); have x5 := HC.out 12 (by omega); have x6 := HC.out 13 (by omega)
          generalize zAt zs 7 = p0 at *
          generalize zAt zs 8 = p1 at *
          generalize zAt zs 9 = p2 at *
          generalize zAt zs 10 = p3 at *
          generalize zAt zs 11 = p4 at *
          generalize zAt zs 12 = p5 at *
          generalize zAt zs 13 = p6 at *
          by_cases hp : p5 = 0 ∨ p5 = 1
          ·
           have HBT1 := zz (show bentTo zs 2 = true by show (bentTo zs 1 && bentOk zs 1) = true; rw [HBT.out, hbo, decide_eq_true hp]; rfl)
           clear hbo
           by_cases hp0 : p5 = 0
           ·
            have q0 : (p5 != 0) = false := by simpa using hp0
            clear hp hp0
            go_upto_region 21 with fail
            clear q0; have HS := And.intro x0 (And.intro x1 (And.intro x2 (And.intro x3 (And.intro x4 (And.intro x5 x6))))); have HC7 := zz hc7; have HTH := zz (row_there HA.out 7 7 (by omega)); clear hc7 x0 x1 x2 x3 x4 x5 x6; refine wp_region_noPanic ?_; refine Rg.beginR [3, 6, 9, 12, 15, 18, 22] (fun w' => w'.cell? ⟨b, o + 7, none⟩ = some (.int .i64 p0) ∧ w'.cell? ⟨b, o + 8, none⟩ = some (.int .i64 p1) ∧ w'.cell? ⟨b, o + 9, none⟩ = some (.int .i64 p2) ∧ w'.cell? ⟨b, o + 10, none⟩ = some (.int .i64 p3) ∧ w'.cell? ⟨b, o + 11, none⟩ = some (.int .i64 p4) ∧ w'.cell? ⟨b, o + 12, none⟩ = some (.int .i64 p5) ∧ w'.cell? ⟨b, o + 13, none⟩ = some (.int .i64 p6)) (by kernel_rfl) ?_; have HA := zz HA.out.drew; have HBG := zz HBG.out.drew
            have HTH := zz (show wr.drew.there ga 7 7 from HTH.out)
            have HS := (show wr.drew.cell? ⟨b, o + 7, none⟩ = some (.int .i64 p0) ∧ wr.drew.cell? ⟨b, o + 8, none⟩ = some (.int .i64 p1) ∧ wr.drew.cell? ⟨b, o + 9, none⟩ = some (.int .i64 p2) ∧ wr.drew.cell? ⟨b, o + 10, none⟩ = some (.int .i64 p3) ∧ wr.drew.cell? ⟨b, o + 11, none⟩ = some (.int .i64 p4) ∧ wr.drew.cell? ⟨b, o + 12, none⟩ = some (.int .i64 p5) ∧ wr.drew.cell? ⟨b, o + 13, none⟩ = some (.int .i64 p6) from HS)
            generalize wr.drew = V0 at *
            refine Rg.tq 0 ⟨some 106, .move (.tmp 9), _, _, _, none⟩ rfl ?_; (try simp only [Rg.lp]); refine Rg.tq 1 ⟨some 107, .move (.tmp 10), _, _, _, none⟩ rfl ?_; (try simp only [Rg.lp]); refine Rg.tq 2 ⟨some 108, .indexAddr 69 (.tmp 107) (.const (.int .i64 0)), _, _, _, none⟩ rfl ?_; (try simp only [Rg.lp]); refine Rg.tr 3 ⟨some 109, .load 3 (.tmp 108), _, _, _, none⟩ rfl HS ?_; (try simp only [Rg.lp]); refine Rg.tq 4 ⟨some 110, .move (.tmp 10), _, _, _, none⟩ rfl ?_; (try simp only [Rg.lp]); refine Rg.tq 5 ⟨some 111, .indexAddr 69 (.tmp 110) (.const (.int .i64 1)), _, _, _, none⟩ rfl ?_; (try simp only [Rg.lp]); refine Rg.tr 6 ⟨some 112, .load 3 (.tmp 111), _, _, _, none⟩ rfl HS ?_; (try simp only [Rg.lp]); refine Rg.tq 7 ⟨some 113, .move (.tmp 10), _, _, _, none⟩ rfl ?_; (try simp only [Rg.lp]); refine Rg.tq 8 ⟨some 114, .indexAddr 69 (.tmp 113) (.const (.int .i64 2)), _, _, _, none⟩ rfl ?_; (try simp only [Rg.lp]); refine Rg.tr 9 ⟨some 115, .load 3 (.tmp 114), _, _, _, none⟩ rfl HS ?_; (try simp only [Rg.lp]); refine Rg.tq 10 ⟨some 116, .move (.tmp 10), _, _, _, none⟩ rfl ?_; (try simp only [Rg.lp]); refine Rg.tq 11 ⟨some 117, .indexAddr 69 (.tmp 116) (.const (.int .i64 3)), _, _, _, none⟩ rfl ?_; (try simp only [Rg.lp]); refine Rg.tr 12 ⟨some 118, .load 3 (.tmp 117), _, _, _, none⟩ rfl HS ?_; (try simp only [Rg.lp]); refine Rg.tq 13 ⟨some 119, .move (.tmp 10), _, _, _, none⟩ rfl ?_; (try simp only [Rg.lp]); refine Rg.tq 14 ⟨some 120, .indexAddr 69 (.tmp 119) (.const (.int .i64 4)), _, _, _, none⟩ rfl ?_
            (try simp only [Rg.lp]); refine Rg.tr 15 ⟨some 121, .load 3 (.tmp 120), _, _, _, none⟩ rfl HS ?_; (try simp only [Rg.lp]); refine Rg.tq 16 ⟨some 122, .move (.tmp 10), _, _, _, none⟩ rfl ?_; (try simp only [Rg.lp]); refine Rg.tq 17 ⟨some 123, .indexAddr 69 (.tmp 122) (.const (.int .i64 5)), _, _, _, none⟩ rfl ?_; (try simp only [Rg.lp]); refine Rg.tr 18 ⟨some 124, .load 3 (.tmp 123), _, _, _, none⟩ rfl HS ?_; (try simp only [Rg.lp]); refine Rg.tq 19 ⟨some 125, .binOp .eql 3 (.tmp 124) (.const (.int .i64 1)) 3, _, _, _, none⟩ rfl ?_; (try simp only [Rg.lp]); refine Rg.tq 20 ⟨some 126, .move (.tmp 10), _, _, _, none⟩ rfl ?_; (try simp only [Rg.lp]); refine Rg.tq 21 ⟨some 127, .indexAddr 69 (.tmp 126) (.const (.int .i64 6)), _, _, _, none⟩ rfl ?_; (try simp only [Rg.lp]); refine Rg.tr 22 ⟨some 128, .load 3 (.tmp 127), _, _, _, none⟩ rfl HS ?_; (try simp only [Rg.lp]); refine Rg.tq 23 ⟨some 129, .build 33 #[(0, .tmp 109), (1, .tmp 112), (2, .tmp 115), (3, .tmp 118), (4, .tmp 121), (5, .tmp 125), (6, .tmp 128)], _, _, _, none⟩ rfl ?_; (try simp only [Rg.lp]); refine Rg.tq 24 ⟨some 130, .indexAddr 34 (.tmp 8) (.tmp 106), _, _, _, none⟩ rfl ?_; (try simp only [Rg.lp]); refine Rg.or1 25 ⟨none, .store 33 (.tmp 130) (.tmp 129), _, _, _, none⟩ rfl ?_; refine Rg.stepF ?_ ?_
            · kernel_rfl
            intro K hK; rw [if_pos (by rfl)]; refine wp_store_mid 33 (.tmp 130) (.tmp 129) rfl ga 7 #[.int .i64 p0, .int .i64 p1, .int .i64 p2, .int .i64 p3, .int .i64 p4, .bool (p5 == 1), .int .i64 p6] rfl rfl HTH.out (by kernel_rfl) (by simp [Value.oneCell']) ?_; have HA := zz (blk_mid HA.out (1 * 7) 7 (fun j => axV zs (1 * 7 + j))); rw [ax_store zs 1 (by omega), HC7.out] at HA; have HBG := zz (below_setCells (Nat.le_refl ga) (#[.int .i64 p0, .int .i64 p1, .int .i64 p2, .int .i64 p3, .int .i64 p4, .bool (p5 == 1), .int .i64 p6] : Array Value).toList 7 HBG.out)
            have HA : Hid (Blk (V0.setCells ga 7 (#[.int .i64 p0, .int .i64 p1, .int .i64 p2, .int .i64 p3, .int .i64 p4, .bool (p5 == 1), .int .i64 p6] : Array Value).toList) ga 34 (row 21 fun i => if i < (1 + 1) * 7 then axV zs i else nodeW f S (6 + i))) := HA
            generalize (V0.setCells ga 7 (#[.int .i64 p0, .int .i64 p1, .int .i64 p2, .int .i64 p3, .int .i64 p4, .bool (p5 == 1), .int .i64 p6] : Array Value).toList) = V1 at *
            refine hK.out _ _ ?_; clear hK K; (try simp only [Rg.lp]); refine Rg.doneR (by kernel_rfl) ?_ _; refine NoPanic.normal ?_; clear HS; go_wp2_with fail; exact ⟨⟨2, by omega, rfl, HBT1.out, HA.out, HBG.out⟩, by simp [intOf]⟩
           ·
            have q0 : (p5 != 0) = true := by simpa using hp0
            have q1 : (p5 != 1) = false := bne_eq_false_iff_eq.2 (by omega); clear hp hp0
            go_upto_region 21 with fail
            clear q0 q1; have HS := And.intro x0 (And.intro x1 (And.intro x2 (And.intro x3 (And.intro x4 (And.intro x5 x6))))); have HC7 := zz hc7; have HTH := zz (row_there HA.out 7 7 (by omega)); clear hc7 x0 x1 x2 x3 x4 x5 x6; refine wp_region_noPanic ?_; refine Rg.beginR [3, 6, 9, 12, 15, 18, 22] (fun w' => w'.cell? ⟨b, o + 7, none⟩ = some (.int .i64 p0) ∧ w'.cell? ⟨b, o + 8, none⟩ = some (.int .i64 p1) ∧ w'.cell? ⟨b, o + 9, none⟩ = some (.int .i64 p2) ∧ w'.cell? ⟨b, o + 10, none⟩ = some (.int .i64 p3) ∧ w'.cell? ⟨b, o + 11, none⟩ = some (.int .i64 p4) ∧ w'.cell? ⟨b, o + 12, none⟩ = some (.int .i64 p5) ∧ w'.cell? ⟨b, o + 13, none⟩ = some (.int .i64 p6)) (by kernel_rfl) ?_; have HA := zz HA.out.drew; have HBG := zz HBG.out.drew
            have HTH := zz (show wr.drew.there ga 7 7 from HTH.out)
            have HS := (show wr.drew.cell? ⟨b, o + 7, none⟩ = some (.int .i64 p0) ∧ wr.drew.cell? ⟨b, o + 8, none⟩ = some (.int .i64 p1) ∧ wr.drew.cell? ⟨b, o + 9, none⟩ = some (.int .i64 p2) ∧ wr.drew.cell? ⟨b, o + 10, none⟩ = some (.int .i64 p3) ∧ wr.drew.cell? ⟨b, o + 11, none⟩ = some (.int .i64 p4) ∧ wr.drew.cell? ⟨b, o + 12, none⟩ = some (.int .i64 p5) ∧ wr.drew.cell? ⟨b, o + 13, none⟩ = some (.int .i64 p6) from HS)
            generalize wr.drew = V0 at *
            refine Rg.tq 0 ⟨some 106, .move (.tmp 9), _, _, _, none⟩ rfl ?_; (try simp only [Rg.lp]); refine Rg.tq 1 ⟨some 107, .move (.tmp 10), _, _, _, none⟩ rfl ?_; (try simp only [Rg.lp]); refine Rg.tq 2 ⟨some 108, .indexAddr 69 (.tmp 107) (.const (.int .i64 0)), _, _, _, none⟩ rfl ?_; (try simp only [Rg.lp]); refine Rg.tr 3 ⟨some 109, .load 3 (.tmp 108), _, _, _, none⟩ rfl HS ?_; (try simp only [Rg.lp]); refine Rg.tq 4 ⟨some 110, .move (.tmp 10), _, _, _, none⟩ rfl ?_; (try simp only [Rg.lp]); refine Rg.tq 5 ⟨some 111, .indexAddr 69 (.tmp 110) (.const (.int .i64 1)), _, _, _, none⟩ rfl ?_; (try simp only [Rg.lp]); refine Rg.tr 6 ⟨some 112, .load 3 (.tmp 111), _, _, _, none⟩ rfl HS ?_; (try simp only [Rg.lp]); refine Rg.tq 7 ⟨some 113, .move (.tmp 10), _, _, _, none⟩ rfl ?_; (try simp only [Rg.lp]); refine Rg.tq 8 ⟨some 114, .indexAddr 69 (.tmp 113) (.const (.int .i64 2)), _, _, _, none⟩ rfl ?_; (try simp only [Rg.lp]); refine Rg.tr 9 ⟨some 115, .load 3 (.tmp 114), _, _, _, none⟩ rfl HS ?_; (try simp only [Rg.lp]); refine Rg.tq 10 ⟨some 116, .move (.tmp 10), _, _, _, none⟩ rfl ?_; (try simp only [Rg.lp]); refine Rg.tq 11 ⟨some 117, .indexAddr 69 (.tmp 116) (.const (.int .i64 3)), _, _, _, none⟩ rfl ?_; (try simp only [Rg.lp]); refine Rg.tr 12 ⟨some 118, .load 3 (.tmp 117), _, _, _, none⟩ rfl HS ?_; (try simp only [Rg.lp]); refine Rg.tq 13 ⟨some 119, .move (.tmp 10), _, _, _, none⟩ rfl ?_; (try simp only [Rg.lp]); refine Rg.tq 14 ⟨some 120, .indexAddr 69 (.tmp 119) (.const (.int .i64 4)), _, _, _, none⟩ rfl ?_
            (try simp only [Rg.lp]); refine Rg.tr 15 ⟨some 121, .load 3 (.tmp 120), _, _, _, none⟩ rfl HS ?_; (try simp only [Rg.lp]); refine Rg.tq 16 ⟨some 122, .move (.tmp 10), _, _, _, none⟩ rfl ?_; (try simp only [Rg.lp]); refine Rg.tq 17 ⟨some 123, .indexAddr 69 (.tmp 122) (.const (.int .i64 5)), _, _, _, none⟩ rfl ?_; (try simp only [Rg.lp]); refine Rg.tr 18 ⟨some 124, .load 3 (.tmp 123), _, _, _, none⟩ rfl HS ?_; (try simp only [Rg.lp]); refine Rg.tq 19 ⟨some 125, .binOp .eql 3 (.tmp 124) (.const (.int .i64 1)) 3, _, _, _, none⟩ rfl ?_; (try simp only [Rg.lp]); refine Rg.tq 20 ⟨some 126, .move (.tmp 10), _, _, _, none⟩ rfl ?_; (try simp only [Rg.lp]); refine Rg.tq 21 ⟨some 127, .indexAddr 69 (.tmp 126) (.const (.int .i64 6)), _, _, _, none⟩ rfl ?_; (try simp only [Rg.lp]); refine Rg.tr 22 ⟨some 128, .load 3 (.tmp 127), _, _, _, none⟩ rfl HS ?_; (try simp only [Rg.lp]); refine Rg.tq 23 ⟨some 129, .build 33 #[(0, .tmp 109), (1, .tmp 112), (2, .tmp 115), (3, .tmp 118), (4, .tmp 121), (5, .tmp 125), (6, .tmp 128)], _, _, _, none⟩ rfl ?_; (try simp only [Rg.lp]); refine Rg.tq 24 ⟨some 130, .indexAddr 34 (.tmp 8) (.tmp 106), _, _, _, none⟩ rfl ?_; (try simp only [Rg.lp]); refine Rg.or1 25 ⟨none, .store 33 (.tmp 130) (.tmp 129), _, _, _, none⟩ rfl ?_; refine Rg.stepF ?_ ?_
            · kernel_rfl
            intro K hK; rw [if_pos (by rfl)]; refine wp_store_mid 33 (.tmp 130) (.tmp 129) rfl ga 7 #[.int .i64 p0, .int .i64 p1, .int .i64 p2, .int .i64 p3, .int .i64 p4, .bool (p5 == 1), .int .i64 p6] rfl rfl HTH.out (by kernel_rfl) (by simp [Value.oneCell']) ?_; have HA := zz (blk_mid HA.out (1 * 7) 7 (fun j => axV zs (1 * 7 + j))); rw [ax_store zs 1 (by omega), HC7.out] at HA; have HBG := zz (below_setCells (Nat.le_refl ga) (#[.int .i64 p0, .int .i64 p1, .int .i64 p2, .int .i64 p3, .int .i64 p4, .bool (p5 == 1), .int .i64 p6] : Array Value).toList 7 HBG.out)
            have HA : Hid (Blk (V0.setCells ga 7 (#[.int .i64 p0, .int .i64 p1, .int .i64 p2, .int .i64 p3, .int .i64 p4, .bool (p5 == 1), .int .i64 p6] : Array Value).toList) ga 34 (row 21 fun i => if i < (1 + 1) * 7 then axV zs i else nodeW f S (6 + i))) := HA
            generalize (V0.setCells ga 7 (#[.int .i64 p0, .int .i64 p1, .int .i64 p2, .int .i64 p3, .int .i64 p4, .bool (p5 == 1), .int .i64 p6] : Array Value).toList) = V1 at *
            refine hK.out _ _ ?_; clear hK K; (try simp only [Rg.lp]); refine Rg.doneR (by kernel_rfl) ?_ _; refine NoPanic.normal ?_; clear HS; go_wp2_with fail; exact ⟨⟨2, by omega, rfl, HBT1.out, HA.out, HBG.out⟩, by simp [intOf]⟩
          ·
           have q0 : (p5 != 0) = true := bne_iff_ne.2 (by omega); have q1 : (p5 != 1) = true := bne_iff_ne.2 (by omega)
           have HUF := zz (show unpackOk zs = false by unfold unpackOk; rw [bent_bad (k := 1) (by rw [hbo]; exact decide_eq_false hp) (by omega), Bool.and_false])
           clear hbo hp; go_wp2_with fail
           go_ret
           exact HBAD.out _ HUF.out HBW.out
         ·
          have hc7 : (row 7 fun j => axV zs (2 * 7 + j)) = #[.int .i64 (zAt zs 14), .int .i64 (zAt zs 15), .int .i64 (zAt zs 16), .int .i64 (zAt zs 17), .int .i64 (zAt zs 18), .bool (zAt zs 19 == 1), .int .i64 (zAt zs 20)] := rfl; have hbo : bentOk zs 2 = decide (zAt zs 19 = 0 ∨ zAt zs 19 = 1) := rfl; have x0 := HC.out 14 (by omega); have x1 := HC.out 15 (by omega); have x2 := HC.out 16 (by omega); have x3 := HC.out 17 (by omega); have x4 := HC.out 18 (by omega); have x5 := HC.out 19 (by omega); have x6 := HC.out 20 (by omega)
          generalize zAt zs 14 = p0 at *
          generalize zAt zs 15 = p1 at *
          generalize zAt zs 16 = p2 at *
          generalize zAt zs 17 = p3 at *
          generalize zAt zs 18 = p4 at *
          generalize zAt zs 19 = p5 at *
          generalize zAt zs 20 = p6 at *
          by_cases hp : p5 = 0 ∨ p5 = 1
          ·
           have HBT1 := zz (show bentTo zs 3 = true by show (bentTo zs 2 && bentOk zs 2) = true; rw [HBT.out, hbo, decide_eq_true hp]; rfl)
           clear hbo
           by_cases hp0 : p5 = 0
           ·
            have q0 : (p5 != 0) = false := by simpa using hp0
            clear hp hp0
            go_upto_region 21 with fail
            clear q0; have HS := And.intro x0 (And.intro x1 (And.intro x2 (And.intro x3 (And.intro x4 (And.intro x5 x6))))); have HC7 := zz hc7; have HTH := zz (row_there HA.out 14 7 (by omega)); clear hc7 x0 x1 x2 x3 x4 x5 x6; refine wp_region_noPanic ?_; refine Rg.beginR [3, 6, 9, 12, 15, 18, 22] (fun w' => w'.cell? ⟨b, o + 14, none⟩ = some (.int .i64 p0) ∧ w'.cell? ⟨b, o + 15, none⟩ = some (.int .i64 p1) ∧ w'.cell? ⟨b, o + 16, none⟩ = some (.int .i64 p2) ∧ w'.cell? ⟨b, o + 17, none⟩ = some (.int .i64 p3) ∧ w'.cell? ⟨b, o + 18, none⟩ = some (.int .i64 p4) ∧ w'.cell? ⟨b, o + 19, none⟩ = some (.int .i64 p5) ∧ w'.cell? ⟨b, o + 20, none⟩ = some (.int .i64 p6)) (by kernel_rfl) ?_; have HA := zz HA.out.drew; have HBG := zz HBG.out.drew
            have HTH := zz (show wr.drew.there ga 14 7 from HTH.out)
            have HS := (show wr.drew.cell? ⟨b, o + 14, none⟩ = some (.int .i64 p0) ∧ wr.drew.cell? ⟨b, o + 15, none⟩ = some (.int .i64 p1) ∧ wr.drew.cell? ⟨b, o + 16, none⟩ = some (.int .i64 p2) ∧ wr.drew.cell? ⟨b, o + 17, none⟩ = some (.int .i64 p3) ∧ wr.drew.cell? ⟨b, o + 18, none⟩ = some (.int .i64 p4) ∧ wr.drew.cell? ⟨b, o + 19, none⟩ = some (.int .i64 p5) ∧ wr.drew.cell? ⟨b, o + 20, none⟩ = some (.int .i64 p6) from HS)
            generalize wr.drew = V0 at *
            refine Rg.tq 0 ⟨some 106, .move (.tmp 9), _, _, _, none⟩ rfl ?_; (try simp only [Rg.lp]); refine Rg.tq 1 ⟨some 107, .move (.tmp 10), _, _, _, none⟩ rfl ?_; (try simp only [Rg.lp]); refine Rg.tq 2 ⟨some 108, .indexAddr 69 (.tmp 107) (.const (.int .i64 0)), _, _, _, none⟩ rfl ?_; (try simp only [Rg.lp]); refine Rg.tr 3 ⟨some 109, .load 3 (.tmp 108), _, _, _, none⟩ rfl HS ?_; (try simp only [Rg.lp]); refine Rg.tq 4 ⟨some 110, .move (.tmp 10), _, _, _, none⟩ rfl ?_; (try simp only [Rg.lp]); refine Rg.tq 5 ⟨some 111, .indexAddr 69 (.tmp 110) (.const (.int .i64 1)), _, _, _, none⟩ rfl ?_; (try simp only [Rg.lp]); refine Rg.tr 6 ⟨some 112, .load 3 (.tmp 111), _, _, _, none⟩ rfl HS ?_; (try simp only [Rg.lp]); refine Rg.tq 7 ⟨some 113, .move (.tmp 10), _, _, _, none⟩ rfl ?_; (try simp only [Rg.lp]); refine Rg.tq 8 ⟨some 114, .indexAddr 69 (.tmp 113) (.const (.int .i64 2)), _, _, _, none⟩ rfl ?_; (try simp only [Rg.lp]); refine Rg.tr 9 ⟨some 115, .load 3 (.tmp 114), _, _, _, none⟩ rfl HS ?_; (try simp only [Rg.lp]); refine Rg.tq 10 ⟨some 116, .move (.tmp 10), _, _, _, none⟩ rfl ?_; (try simp only [Rg.lp]); refine Rg.tq 11 ⟨some 117, .indexAddr 69 (.tmp 116) (.const (.int .i64 3)), _, _, _, none⟩ rfl ?_; (try simp only [Rg.lp]); refine Rg.tr 12 ⟨some 118, .load 3 (.tmp 117), _, _, _, none⟩ rfl HS ?_; (try simp only [Rg.lp]); refine Rg.tq 13 ⟨some 119, .move (.tmp 10), _, _, _, none⟩ rfl ?_; (try simp only [Rg.lp]); refine Rg.tq 14 ⟨some 120, .indexAddr 69 (.tmp 119) (.const (.int .i64 4)), _, _, _, none⟩ rfl ?_
            (try simp only [Rg.lp]); refine Rg.tr 15 ⟨some 121, .load 3 (.tmp 120), _, _, _, none⟩ rfl HS ?_; (try simp only [Rg.lp]); refine Rg.tq 16 ⟨some 122, .move (.tmp 10), _, _, _, none⟩ rfl ?_; (try simp only [Rg.lp]); refine Rg.tq 17 ⟨some 123, .indexAddr 69 (.tmp 122) (.const (.int .i64 5)), _, _, _, none⟩ rfl ?_; (try simp only [Rg.lp]); refine Rg.tr 18 ⟨some 124, .load 3 (.tmp 123), _, _, _, none⟩ rfl HS ?_; (try simp only [Rg.lp]); refine Rg.tq 19 ⟨some 125, .binOp .eql 3 (.tmp 124) (.const (.int .i64 1)) 3, _, _, _, none⟩ rfl ?_; (try simp only [Rg.lp]); refine Rg.tq 20 ⟨some 126, .move (.tmp 10), _, _, _, none⟩ rfl ?_; (try simp only [Rg.lp]); refine Rg.tq 21 ⟨some 127, .indexAddr 69 (.tmp 126) (.const (.int .i64 6)), _, _, _, none⟩ rfl ?_; (try simp only [Rg.lp]); refine Rg.tr 22 ⟨some 128, .load 3 (.tmp 127), _, _, _, none⟩ rfl HS ?_; (try simp only [Rg.lp]); refine Rg.tq 23 ⟨some 129, .build 33 #[(0, .tmp 109), (1, .tmp 112), (2, .tmp 115), (3, .tmp 118), (4, .tmp 121), (5, .tmp 125), (6, .tmp 128)], _, _, _, none⟩ rfl ?_; (try simp only [Rg.lp]); refine Rg.tq 24 ⟨some 130, .indexAddr 34 (.tmp 8) (.tmp 106), _, _, _, none⟩ rfl ?_; (try simp only [Rg.lp]); refine Rg.or1 25 ⟨none, .store 33 (.tmp 130) (.tmp 129), _, _, _, none⟩ rfl ?_; refine Rg.stepF ?_ ?_
            · kernel_rfl
            intro K hK; rw [if_pos (by rfl)]; refine wp_store_mid 33 (.tmp 130) (.tmp 129) rfl ga 14 #[.int .i64 p0, .int .i64 p1, .int .i64 p2, .int .i64 p3, .int .i64 p4, .bool (p5 == 1), .int .i64 p6] rfl rfl HTH.out (by kernel_rfl) (by simp [Value.oneCell']) ?_; have HA := zz (blk_mid HA.out (2 * 7) 7 (fun j => axV zs (2 * 7 + j))); rw [ax_store zs 2 (by omega), HC7.out] at HA; have HBG := zz (below_setCells (Nat.le_refl ga) (#[.int .i64 p0, .int .i64 p1, .int .i64 p2, .int .i64 p3, .int .i64 p4, .bool (p5 == 1), .int .i64 p6] : Array Value).toList 14 HBG.out)
            have HA : Hid (Blk (V0.setCells ga 14 (#[.int .i64 p0, .int .i64 p1, .int .i64 p2, .int .i64 p3, .int .i64 p4, .bool (p5 == 1), .int .i64 p6] : Array Value).toList) ga 34 (row 21 fun i => if i < (2 + 1) * 7 then axV zs i else nodeW f S (6 + i))) := HA
            generalize (V0.setCells ga 14 (#[.int .i64 p0, .int .i64 p1, .int .i64 p2, .int .i64 p3, .int .i64 p4, .bool (p5 == 1), .int .i64 p6] : Array Value).toList) = V1 at *
            refine hK.out _ _ ?_; clear hK K; (try simp only [Rg.lp]); refine Rg.doneR (by kernel_rfl) ?_ _; refine NoPanic.normal ?_; clear HS; go_wp2_with fail; exact ⟨⟨3, by omega, rfl, HBT1.out, HA.out, HBG.out⟩, by simp [intOf]⟩
           ·
            have q0 : (p5 != 0) = true := by simpa using hp0
            have q1 : (p5 != 1) = false := bne_eq_false_iff_eq.2 (by omega); clear hp hp0
            go_upto_region 21 with fail
            clear q0 q1; have HS := And.intro x0 (And.intro x1 (And.intro x2 (And.intro x3 (And.intro x4 (And.intro x5 x6))))); have HC7 := zz hc7; have HTH := zz (row_there HA.out 14 7 (by omega)); clear hc7 x0 x1 x2 x3 x4 x5 x6; refine wp_region_noPanic ?_; refine Rg.beginR [3, 6, 9, 12, 15, 18, 22] (fun w' => w'.cell? ⟨b, o + 14, none⟩ = some (.int .i64 p0) ∧ w'.cell? ⟨b, o + 15, none⟩ = some (.int .i64 p1) ∧ w'.cell? ⟨b, o + 16, none⟩ = some (.int .i64 p2) ∧ w'.cell? ⟨b, o + 17, none⟩ = some (.int .i64 p3) ∧ w'.cell? ⟨b, o + 18, none⟩ = some (.int .i64 p4) ∧ w'.cell? ⟨b, o + 19, none⟩ = some (.int .i64 p5) ∧ w'.cell? ⟨b, o + 20, none⟩ = some (.int .i64 p6)) (by kernel_rfl) ?_; have HA := zz HA.out.drew; have HBG := zz HBG.out.drew
            have HTH := zz (show wr.drew.there ga 14 7 from HTH.out)
            have HS := (show wr.drew.cell? ⟨b, o + 14, none⟩ = some (.int .i64 p0) ∧ wr.drew.cell? ⟨b, o + 15, none⟩ = some (.int .i64 p1) ∧ wr.drew.cell? ⟨b, o + 16, none⟩ = some (.int .i64 p2) ∧ wr.drew.cell? ⟨b, o + 17, none⟩ = some (.int .i64 p3) ∧ wr.drew.cell? ⟨b, o + 18, none⟩ = some (.int .i64 p4) ∧ wr.drew.cell? ⟨b, o + 19, none⟩ = some (.int .i64 p5) ∧ wr.drew.cell? ⟨b, o + 20, none⟩ = some (.int .i64 p6) from HS)
            generalize wr.drew = V0 at *
            refine Rg.tq 0 ⟨some 106, .move (.tmp 9), _, _, _, none⟩ rfl ?_; (try simp only [Rg.lp]); refine Rg.tq 1 ⟨some 107, .move (.tmp 10), _, _, _, none⟩ rfl ?_; (try simp only [Rg.lp]); refine Rg.tq 2 ⟨some 108, .indexAddr 69 (.tmp 107) (.const (.int .i64 0)), _, _, _, none⟩ rfl ?_; (try simp only [Rg.lp]); refine Rg.tr 3 ⟨some 109, .load 3 (.tmp 108), _, _, _, none⟩ rfl HS ?_; (try simp only [Rg.lp]); refine Rg.tq 4 ⟨some 110, .move (.tmp 10), _, _, _, none⟩ rfl ?_; (try simp only [Rg.lp]); refine Rg.tq 5 ⟨some 111, .indexAddr 69 (.tmp 110) (.const (.int .i64 1)), _, _, _, none⟩ rfl ?_; (try simp only [Rg.lp]); refine Rg.tr 6 ⟨some 112, .load 3 (.tmp 111), _, _, _, none⟩ rfl HS ?_; (try simp only [Rg.lp]); refine Rg.tq 7 ⟨some 113, .move (.tmp 10), _, _, _, none⟩ rfl ?_; (try simp only [Rg.lp]); refine Rg.tq 8 ⟨some 114, .indexAddr 69 (.tmp 113) (.const (.int .i64 2)), _, _, _, none⟩ rfl ?_; (try simp only [Rg.lp]); refine Rg.tr 9 ⟨some 115, .load 3 (.tmp 114), _, _, _, none⟩ rfl HS ?_; (try simp only [Rg.lp]); refine Rg.tq 10 ⟨some 116, .move (.tmp 10), _, _, _, none⟩ rfl ?_; (try simp only [Rg.lp]); refine Rg.tq 11 ⟨some 117, .indexAddr 69 (.tmp 116) (.const (.int .i64 3)), _, _, _, none⟩ rfl ?_; (try simp only [Rg.lp]); refine Rg.tr 12 ⟨some 118, .load 3 (.tmp 117), _, _, _, none⟩ rfl HS ?_; (try simp only [Rg.lp]); refine Rg.tq 13 ⟨some 119, .move (.tmp 10), _, _, _, none⟩ rfl ?_; (try simp only [Rg.lp]); refine Rg.tq 14 ⟨some 120, .indexAddr 69 (.tmp 119) (.const (.int .i64 4)), _, _, _, none⟩ rfl ?_
            (try simp only [Rg.lp]); refine Rg.tr 15 ⟨some 121, .load 3 (.tmp 120), _, _, _, none⟩ rfl HS ?_; (try simp only [Rg.lp]); refine Rg.tq 16 ⟨some 122, .move (.tmp 10), _, _, _, none⟩ rfl ?_; (try simp only [Rg.lp]); refine Rg.tq 17 ⟨some 123, .indexAddr 69 (.tmp 122) (.const (.int .i64 5)), _, _, _, none⟩ rfl ?_; (try simp only [Rg.lp]); refine Rg.tr 18 ⟨some 124, .load 3 (.tmp 123), _, _, _, none⟩ rfl HS ?_; (try simp only [Rg.lp]); refine Rg.tq 19 ⟨some 125, .binOp .eql 3 (.tmp 124) (.const (.int .i64 1)) 3, _, _, _, none⟩ rfl ?_; (try simp only [Rg.lp]); refine Rg.tq 20 ⟨some 126, .move (.tmp 10), _, _, _, none⟩ rfl ?_; (try simp only [Rg.lp]); refine Rg.tq 21 ⟨some 127, .indexAddr 69 (.tmp 126) (.const (.int .i64 6)), _, _, _, none⟩ rfl ?_; (try simp only [Rg.lp]); refine Rg.tr 22 ⟨some 128, .load 3 (.tmp 127), _, _, _, none⟩ rfl HS ?_; (try simp only [Rg.lp]); refine Rg.tq 23 ⟨some 129, .build 33 #[(0, .tmp 109), (1, .tmp 112), (2, .tmp 115), (3, .tmp 118), (4, .tmp 121), (5, .tmp 125), (6, .tmp 128)], _, _, _, none⟩ rfl ?_; (try simp only [Rg.lp]); refine Rg.tq 24 ⟨some 130, .indexAddr 34 (.tmp 8) (.tmp 106), _, _, _, none⟩ rfl ?_; (try simp only [Rg.lp]); refine Rg.or1 25 ⟨none, .store 33 (.tmp 130) (.tmp 129), _, _, _, none⟩ rfl ?_; refine Rg.stepF ?_ ?_
            · kernel_rfl
            intro K hK; rw [if_pos (by rfl)]; refine wp_store_mid 33 (.tmp 130) (.tmp 129) rfl ga 14 #[.int .i64 p0, .int .i64 p1, .int .i64 p2, .int .i64 p3, .int .i64 p4, .bool (p5 == 1), .int .i64 p6] rfl rfl HTH.out (by kernel_rfl) (by simp [Value.oneCell']) ?_; have HA := zz (blk_mid HA.out (2 * 7) 7 (fun j => axV zs (2 * 7 + j))); rw [ax_store zs 2 (by omega), HC7.out] at HA; have HBG := zz (below_setCells (Nat.le_refl ga) (#[.int .i64 p0, .int .i64 p1, .int .i64 p2, .int .i64 p3, .int .i64 p4, .bool (p5 == 1), .int .i64 p6] : Array Value).toList 14 HBG.out)
            have HA : Hid (Blk (V0.setCells ga 14 (#[.int .i64 p0, .int .i64 p1, .int .i64 p2, .int .i64 p3, .int .i64 p4, .bool (p5 == 1), .int .i64 p6] : Array Value).toList) ga 34 (row 21 fun i => if i < (2 + 1) * 7 then axV zs i else nodeW f S (6 + i))) := HA
            generalize (V0.setCells ga 14 (#[.int .i64 p0, .int .i64 p1, .int .i64 p2, .int .i64 p3, .int .i64 p4, .bool (p5 == 1), .int .i64 p6] : Array Value).toList) = V1 at *
            refine hK.out _ _ ?_; clear hK K; (try simp only [Rg.lp]); refine Rg.doneR (by kernel_rfl) ?_ _; refine NoPanic.normal ?_; clear HS; go_wp2_with fail; exact ⟨⟨3, by omega, rfl, HBT1.out, HA.out, HBG.out⟩, by simp [intOf]⟩
          ·
           have q0 : (p5 != 0) = true := bne_iff_ne.2 (by omega); have q1 : (p5 != 1) = true := bne_iff_ne.2 (by omega)
           have HUF := zz (show unpackOk zs = false by unfold unpackOk; rw [bent_bad (k := 2) (by rw [hbo]; exact decide_eq_false hp) (by omega), Bool.and_false])
           clear hbo hp; go_wp2_with fail
           go_ret
           exact HBAD.out _ HUF.out HBW.out
        ·
         obtain rfl : k = 3 := by omega
         clear hlt
         rw [show ((3 : Nat) : Int) = 3 from rfl]
         have HUT := zz (show unpackOk zs = true by unfold unpackOk; rw [HTK.out, HGU.out, HBT.out]; rfl)
         have HA := zz (show Blk wr ga 34 (row 21 (axV zs)) from by rw [← row_congr (f := fun i => if i < 3 * 7 then axV zs i else nodeW f S (6 + i)) (fun i hi => if_pos (by omega))]; exact HA.out)
         have HNW := zz (HN.out.below HBW.out hgn); have HRW := zz (HR.out.below HBG.out (by omega)); have iA2 := IA.out (axV zs); have hgr := HRW.out.lt
         go_upto_region 23 with fail
         have HA := zz HA.out.drew; have HNW := zz HNW.out.drew; have HRW := zz HRW.out.drew; have HGW := zz (gr_below (row := some gn) HBW.out.drew); have HS := And.intro HA.out HRW.out; refine wp_region_noPanic ?_; refine Rg.beginR [2, 3] (fun w' => Blk w' ga 34 (row 21 (axV zs)) ∧ Blk w' w.heap.size 38 RR) (by kernel_rfl) ?_
         generalize wr.drew = V0 at *
         refine Rg.tq 0 ⟨some 132, .move (.tmp 0), _, _, _, none⟩ rfl ?_; (try simp only [Rg.lp]); refine Rg.tq 1 ⟨some 133, .move (.tmp 0), _, _, _, none⟩ rfl ?_; (try simp only [Rg.lp]); refine Rg.ts 2 ⟨some 134, .load 34 (.tmp 8), _, _, _, none⟩ (v := .agg (row 21 (axV zs))) rfl HS ?_ ?_
         · (intro w' hSw; exact exec_load_row 34 _ rfl _ rfl hSw.1 Try.underlying34 rfl iA2)
         (try simp only [Rg.lp]); refine Rg.ts 3 ⟨some 135, .load 38 (.tmp 5), _, _, _, none⟩ (v := .agg RR) rfl HS ?_ ?_
         · (intro w' hSw; exact exec_load_row 38 _ rfl _ rfl hSw.2 Try.underlying38 rfl ir)
         (try simp only [Rg.lp]); refine Rg.tq 4 ⟨some 136, .nilCheck (.tmp 132), _, _, _, none⟩ rfl ?_; (try simp only [Rg.lp]); refine Rg.tq 5 ⟨some 137, .fieldAddr 45 (.tmp 136) 3, _, _, _, none⟩ rfl ?_; (try simp only [Rg.lp]); refine Rg.or1 6 ⟨none, .store 34 (.tmp 137) (.tmp 134), _, _, _, none⟩ rfl ?_; refine Rg.stepS ?_; intro K hK; rw [if_pos (by rfl)]; refine wp_store_mid 34 (.tmp 137) (.tmp 134) rfl gn 6 (row 21 (axV zs)) rfl rfl (by rw [row_size]; exact row_there HNW.out 6 21 (by omega)) iA2 (row_one fun i hi => axV_one zs i) ?_; have HGW := zz (gr_trans HGW.out (gr_setCells V0 gn (row 21 (axV zs)).toList 6)); have HNW := zz (blk_mid HNW.out 6 21 (axV zs)); have HA := zz (blk_mid_other (w := V0) (b' := gn) (by omega) (row 21 (axV zs)).toList 6 _ HA.out); have HRW := zz (blk_mid_other (w := V0) (b' := gn) (by omega) (row 21 (axV zs)).toList 6 _ HRW.out); clear HS
         generalize (V0.setCells gn 6 (row 21 (axV zs)).toList) = V1 at *
         have HS := And.intro HA.out HRW.out; refine hK.out _ _ HS ?_; clear hK K; (try simp only [Rg.lp]); refine Rg.tq 7 ⟨some 138, .nilCheck (.tmp 133), _, _, _, none⟩ rfl ?_; (try simp only [Rg.lp]); refine Rg.tq 8 ⟨some 139, .fieldAddr 45 (.tmp 138) 4, _, _, _, none⟩ rfl ?_; (try simp only [Rg.lp]); refine Rg.or1 9 ⟨none, .store 38 (.tmp 139) (.tmp 135), _, _, _, none⟩ rfl ?_; refine Rg.stepF ?_ ?_
         · kernel_rfl
         intro K hK; rw [if_pos (by rfl)]; have hRR := HRR.out; refine wp_store_mid 38 (.tmp 139) (.tmp 135) rfl gn 27 RR rfl rfl (by rw [← hRR]; exact row_there HNW.out 27 12 (by omega)) ir (by rw [← hRR]; exact row_one fun i hi => rollF_one _ _ _ _) ?_; have HGW := zz (gr_trans HGW.out (gr_setCells V1 gn RR.toList 27)); have HNW := zz (blk_mid HNW.out 27 12 (rollF (rollU zs).f (rollU zs).m (rollU zs).j)); rw [unpack_row] at HNW
         have HNW : Hid (Blk (V1.setCells gn 27 RR.toList) gn 45 (row 74 (nodeW (unpackF zs f) S))) := by rw [← hRR]; exact HNW
         clear hRR
         generalize (V1.setCells gn 27 RR.toList) = V2 at *
         refine hK.out _ _ ?_; clear hK K; (try simp only [Rg.lp]); refine Rg.doneR (by kernel_rfl) ?_ _; refine NoPanic.normal ?_; go_wp2_with fail
         go_ret
         exact ⟨by rw [HUT.out]; rfl, by rw [if_pos HUT.out]; exact HNW.out, HGW.out⟩
   ·
    have HTO := zz (show tailOk zs = false by rw [HTO.out]; exact decide_eq_false (by omega))
    have HUF := zz (show unpackOk zs = false by unfold unpackOk; rw [HTO.out, Bool.false_and, Bool.false_and])
    have e1 : z1 / 16 = 0 := by omega
    have e2 : z2 / 4096 = 0 := by omega
    have e3 : (z3 / 4096 != 0) = true := bne_iff_ne.2 (by omega); clear HR HZ h3; go_wp2_with fail
    go_ret
    exact HBAD.out _ HUF.out HB.out
  ·
   have HTO := zz (show tailOk zs = false by rw [HTO.out]; exact decide_eq_false (by omega))
   have HUF := zz (show unpackOk zs = false by unfold unpackOk; rw [HTO.out, Bool.false_and, Bool.false_and])
   have e1 : z1 / 16 = 0 := by omega
   have e2 : (z2 / 4096 != 0) = true := bne_iff_ne.2 (by omega); clear HR HZ h2; go_wp2_with fail
   go_ret
   exact HBAD.out _ HUF.out HB.out
 ·
  have HTO := zz (show tailOk zs = false by rw [HTO.out]; exact decide_eq_false (by omega))
  have HUF := zz (show unpackOk zs = false by unfold unpackOk; rw [HTO.out, Bool.false_and, Bool.false_and])
  have e1 : (z1 / 16 != 0) = true := bne_iff_ne.2 (by omega); clear HR HZ h1; go_wp2_with fail
  go_ret
  exact HBAD.out _ HUF.out HB.out
end Nd
end Go.Proofs.Ytobigbnmbnhikaa
