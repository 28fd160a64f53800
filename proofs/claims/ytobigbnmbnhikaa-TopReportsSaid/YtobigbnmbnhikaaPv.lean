/- The law TopReports returns true: in every run with one and the same faulty computer all others put out the same report, and it is their state. Conditions: none. -/
import Derived.Test.YtobigbnmbnhikaaPk0
import Derived.Test.YtobigbnmbnhikaaPq
set_option linter.unusedVariables false
set_option linter.unusedSimpArgs false
namespace Go.Proofs.Ytobigbnmbnhikaa
namespace Cf
open Go.RowKit Mem Rws Nd Cl
def repZ : Array Value := #[.int .i64 0, .int .i64 0, .int .i64 0, .int .i64 0, .int .i64 0, .int .i64 0, .int .i64 0, .int .i64 0, .int .i64 0, .bool false, .bool false, .bool false, .bool false, .bool false]
theorem goods_len_le (bad : Int) : ∀ n, (goods bad n).length ≤ n
 | 0 => Nat.le_refl _
 | n + 1 => by
  have h := goods_len_le bad n
  unfold goods
  rw [List.length_append]
  split <;> simp <;> omega
theorem goods_get (bad : Int) : ∀ n k, k < (goods bad n).length → (goods bad n).getD k 0 < n ∧ (((goods bad n).getD k 0 : Nat) : Int) ≠ bad := fun n k hk => by
 have hm : (goods bad n).getD k 0 ∈ goods bad n := by rw [List.getD_eq_getElem?_getD, List.getElem?_eq_getElem hk]; exact List.getElem_mem hk
 generalize (goods bad n).getD k 0 = p at hm; clear hk
 induction n with
 | zero => exact absurd hm (by unfold goods; simp)
 | succ n ih =>
  unfold goods at hm
  rcases List.mem_append.1 hm with h | h
  · exact ⟨by have := (ih h).1; omega, (ih h).2⟩
  ·
   split at h
   · simp at h
   ·
    rename_i hb
    simp at h
    subst h; exact ⟨by omega, hb⟩
theorem repF_used (g : Nat → Value) {a : Nat} (ha : a < 3) : repF g (2 + a) = g (67 + a) := by
 unfold repF
 rw [if_neg (by omega), if_pos (by omega), show 65 + (2 + a) = 67 + a by omega]
def repB : List Bool := [true, true, true, true, true, true, true, true, true, false, false, false, false, false]
theorem rep_typed {f : Nat → Value} (h : ∀ i, i < 73 → okT (nodeT i) (f i)) : Flat.Typed repB ((List.range 14).map (repF f)) := by
 have hi : ∀ i, i < 73 → nodeT i = true → ∃ k n, f i = Value.int k n := fun i hi ht => by
  have h1 := h i hi; rw [ht] at h1; obtain ⟨n, e⟩ := h1; exact ⟨_, _, e⟩
 have hb : ∀ i, i < 73 → nodeT i = false → ∃ c, f i = Value.bool c := fun i hi ht => by
  have h1 := h i hi; rw [ht] at h1; exact h1
 exact ⟨hi 0 (by omega) rfl, hi 1 (by omega) rfl, hi 67 (by omega) rfl, hi 68 (by omega) rfl, hi 69 (by omega) rfl, hi 6 (by omega) rfl, hi 13 (by omega) rfl, hi 20 (by omega) rfl, hi 70 (by omega) rfl, hb 72 (by omega) rfl, hb 27 (by omega) rfl, hb 28 (by omega) rfl, hb 29 (by omega) rfl, hb 30 (by omega) rfl, trivial⟩
theorem repF_in (g : Nat → Value) {i : Nat} (hi : i < 4) : repF g (10 + i) = g (27 + i) := by
 unfold repF
 rw [if_neg (by omega), if_neg (by omega), if_neg (by omega), if_neg (by omega), if_neg (by omega), show 17 + (10 + i) = 27 + i by omega]
theorem clus_node {w : World} {b o : Nat} {c : CluS} {VA : Nat → Option Addr} {VC : Nat → Nat} (h : w.rangeAt b o ((List.range 297).map (cluCell c.fr c.F (verOf VA c.V VC)))) {k : Nat} (hk : k < 4) : w.rangeAt b (o + 1 + k * 74) ((List.range 74).map (nodeW (c.F k) (.slice (VA k) (c.V k).length (VC k)))) := fun i v hv => by
 have hi : i < 74 := by have := (List.getElem?_eq_some_iff.1 hv).1; simpa using this
 rw [List.getElem?_map, List.getElem?_range hi] at hv
 have h1 := h (1 + k * 74 + i) v (by
  rw [List.getElem?_map, List.getElem?_range (by omega)]; rw [← hv]
  show some (cluCell _ _ _ (1 + k * 74 + i)) = some (nodeW _ _ i)
  unfold cluCell
  rw [if_neg (by omega), show (1 + k * 74 + i - 1) / 74 = k by omega, show (1 + k * 74 + i - 1) % 74 = i by omega]
  rfl)
 rw [show o + 1 + k * 74 + i = o + (1 + k * 74 + i) by omega]
 exact h1
end Cf
namespace Cf
open Go.RowKit Mem Rws Nd Cl
theorem rep_full {t0 t1 t2 t3 bad : Int} {ys : List InS} (h : Wf t0 ∧ Wf t1 ∧ Wf t2 ∧ Wf t3) (hg : GoodIns ys) (hb : OneBad bad ys) {j : Nat} (hj : j < ys.length) {k : Nat} (hk : k < (repS t0 t1 t2 t3 ys j).2) :
  ∃ p : Nat, p < 4 ∧ (p : Int) ≠ bad ∧ (∀ i, i < 14 → (repS t0 t1 t2 t3 ys j).1[k * 14 + i]? = some (repF ((runS t0 t1 t2 t3 ys (j + 1)).F p) i)) ∧ (∀ i, i < 73 → okT (nodeT i) ((runS t0 t1 t2 t3 ys (j + 1)).F p i)) ∧ (runS t0 t1 t2 t3 ys (j + 1)).F p 0 = .int .i64 (p : Int) ∧ (runS t0 t1 t2 t3 ys (j + 1)).F p 1 = .int .i64 (j : Int) ∧ ∀ q : Nat, q < 4 → (q : Int) ≠ bad → ∀ i, 1 ≤ i → i < 14 → repF ((runS t0 t1 t2 t3 ys (j + 1)).F q) i = repF ((runS t0 t1 t2 t3 ys (j + 1)).F p) i := by
 unfold repS at hk ⊢
 obtain ⟨hp, hpb⟩ := goods_get _ _ _ hk; have hc := fun i hi => reps_get (G6 (runS t0 t1 t2 t3 ys j) (ys.getD j default)) (goods (ys.getD j default).bad 4) k i hk hi
 generalize (goods (ys.getD j default).bad 4).getD k 0 = p at *
 have hr := (hg.2 j hj).2.1; have hs := sane_run (ys := ys) h hg j (by omega); have hs1 := sane_run (ys := ys) h hg (j + 1) (by omega)
 have e : (runS t0 t1 t2 t3 ys (j + 1)).F p = G6 (runS t0 t1 t2 t3 ys j) (ys.getD j default) p := by
  rw [runS_succ]
  show F6 _ _ p = _
  unfold F6
  rw [newK_good hp hpb]
 have h1 := (F6_fr hs hr hp hpb).2; rw [runS_fr] at h1; have eb := hb j hj; rw [eb] at hpb; refine ⟨p, hp, hpb, fun i hi => ?_, hs1.ok p hp, hs1.id p hp, ?_, fun q hq hqb i hi1 hi2 => ?_⟩
 ·
  rw [e]; exact hc i hi
 ·
  rw [runS_succ]; exact h1
 ·
  have T := (twins_run h hg hb hj hq hp hqb hpb).1
  unfold repF
  by_cases c1 : i < 2
  · rw [if_pos c1, if_pos c1]; exact T _ (by omega)
  rw [if_neg c1, if_neg c1]
  by_cases c2 : i < 5
  · rw [if_pos c2, if_pos c2]; exact T _ (by omega)
  rw [if_neg c2, if_neg c2]
  by_cases c3 : i < 8
  · rw [if_pos c3, if_pos c3]; exact T _ (by omega)
  rw [if_neg c3, if_neg c3]
  by_cases c4 : i = 8
  · rw [if_pos c4, if_pos c4]; exact T _ (by omega)
  rw [if_neg c4, if_neg c4]
  by_cases c5 : i = 9
  · rw [if_pos c5, if_pos c5]; exact T _ (by omega)
  rw [if_neg c5, if_neg c5]; exact T _ (by omega)
end Cf
namespace lawTopReports
open Go.ChangeShapes Go.WideShapes Go.ChangeAt Go.RowKit Mem Rws Nd Cl Cf
set_option maxRecDepth 100000 in
set_option maxHeartbeats 4000000 in
theorem walk (t0 t1 t2 t3 : Int) (ht : Wf t0 ∧ Wf t1 ∧ Wf t2 ∧ Wf t3) (A : Option Addr) (c : Nat) (xs : List InS) (hxl : xs.length ≤ 1099511627776) (hxw : ∀ x ∈ xs, (∀ i, i < 12 → Wf (x.rd i)) ∧ Wf x.bad) (bad : Int) (hbad : -9223372036854775808 ≤ bad ∧ bad ≤ 9223372036854775807) (w : World) (h : InsAt w w.heap.size A xs) :
  Calls Try.prog 5 #[.agg #[.int .i64 t0, .int .i64 t1, .int .i64 t2, .int .i64 t3], .slice A xs.length c, .int .i64 bad] w fun e w' => e = .returned (.bool true) ∧ Below w.heap.size w w' := by
 have HIN := Lib.hid h
 have B3 := Lib.hid (show Blk (w.alloc (.cells #[.int .i64 t0, .int .i64 t1, .int .i64 t2, .int .i64 t3] 23)) w.heap.size 23 #[.int .i64 t0, .int .i64 t1, .int .i64 t2, .int .i64 t3] from Blk.fresh _ _ _)
 have hb : Below w.heap.size w (w.alloc (.cells #[.int .i64 t0, .int .i64 t1, .int .i64 t2, .int .i64 t3] 23)) := (Below.refl _ _).alloc (Nat.le_refl _) _; have HB := Lib.hid hb; have HIN := Lib.hid ((HIN.out.below hb).more hb.size); clear h hb
 go_enter Try.func5, Try.ntmps5
 go_wp2_with fail; refine (spot_any bad 5 hbad (.inr rfl) _).mono ?_; rintro e w1 ⟨r, hr0, hr5, rfl, rfl⟩; obtain ⟨bd, hbd⟩ : ∃ b, r - 1 = b := ⟨_, rfl⟩
 have hwr : IntKind.i64.wrap (r - 1) = bd := by rw [IntKind.wrap_i64]; omega
 have hol : (ones bd xs).length ≤ 200 := by rw [ones_len]; omega
 have HGI := Lib.hid (ones_good (bad := bd) (xs := xs) (by omega) hxw); clear hbd hr0 hr5 hbad hxw
 go_upto_region 2 with fail
 generalize (w.alloc (.cells #[.int .i64 t0, .int .i64 t1, .int .i64 t2, .int .i64 t3] 23)) = w1 at *
 obtain ⟨gt, hgt⟩ : ∃ g, w.heap.size = g := ⟨_, rfl⟩; have HGT := Lib.hid hgt; rw [hgt] at B3 HB ⊢; clear hgt; have hb : Below w1.heap.size w1 w1.drew := (Below.refl _ _).drew; have HB := Lib.hid (onward HB.out (Nat.le_of_eq HGT.out.symm) hb); have B3 := Lib.hid (B3.out.below hb B3.out.lt); have HIN := Lib.hid ((HIN.out.below hb).more hb.size); clear hb; refine wp_region_noPanic ?_; have HSS : Blk w1.drew gt 23 #[.int .i64 t0, .int .i64 t1, .int .i64 t2, .int .i64 t3] := B3.out; refine Rg.beginR [0] (fun w' => Blk w' gt 23 #[.int .i64 t0, .int .i64 t1, .int .i64 t2, .int .i64 t3]) (by kernel_rfl) ?_
 generalize w1.drew = wv at *
 refine Rg.ts 0 ⟨some 19, .load 23 (.tmp 3), _, _, _, none⟩ (v := .agg #[.int .i64 t0, .int .i64 t1, .int .i64 t2, .int .i64 t3]) rfl HSS ?_ ?_
 · (intro w' hSw; exact exec_load_row 23 _ rfl _ rfl hSw Try.underlying23 rfl (by kernel_rfl))
 try simp only [Rg.lp]
 refine Rg.tp 1 ⟨some 20, .move (.tmp 1), _, _, _, none⟩ (v := ?_) rfl ?_ ?_; rotate_left 1
 · (intro w; go_simp; (try with_reducible rfl))
 try simp only [Rg.lp]
 refine Rg.tp 2 ⟨some 21, .move (.tmp 2), _, _, _, none⟩ (v := ?_) rfl ?_ ?_; rotate_left 1
 · (intro w; go_simp; (try with_reducible rfl))
 try simp only [Rg.lp]
 refine Rg.or1 3 ⟨some 22, .call { callee := .value (.func 11), args := #[.tmp 20, .tmp 21], argTypes := _ }, _, _, _, none⟩ rfl ?_; refine Rg.stepS ?_; intro K hK; rw [if_pos (by rfl)]; go_simp; clear HSS; refine (one_any A c xs bd wv hxl HIN.out).mono ?_; rintro e w4 ⟨A4, c4, rfl, ha4, hc4, hin4, hb⟩; have HIN4 := Lib.hid hin4; have HB := Lib.hid (onward HB.out (Nat.le_of_eq HGT.out.symm) hb); have B3 := Lib.hid (B3.out.below hb B3.out.lt); clear hin4 hb
 generalize wv = wq at *
 generalize w4 = wv at *
 have HSS : Blk wv gt 23 #[.int .i64 t0, .int .i64 t1, .int .i64 t2, .int .i64 t3] := B3.out; refine hK.out _ _ HSS ?_; clear hK K; try simp only [Rg.lp]
 refine Rg.or1 4 ⟨some 23, .call { callee := .value (.func 10), args := #[.tmp 19, .tmp 22], argTypes := _ }, _, _, _, none⟩ rfl ?_; refine Rg.stepF ?_ ?_
 · kernel_rfl
 intro K hK; rw [if_pos (by rfl)]; go_simp; clear HSS; refine (behind_any t0 t1 t2 t3 ht A4 c4 (ones bd xs) HGI.out.1 wv HIN4.out).mono ?_; rintro e w4 ⟨CA, CC, OA, OC, cs, os, rfl, hoc, hci, hoo, hri, hb⟩; have HOC := Lib.hid hoc; have HCI := Lib.hid hci; have HOO := Lib.hid hoo; have HRI := Lib.hid hri; have HB := Lib.hid (onward HB.out (Nat.le_of_eq HGT.out.symm) hb); clear hoc hci hoo hri hb
 generalize wv = wq at *
 generalize w4 = wv at *
 refine hK.out _ _ ?_; clear hK K; try simp only [Rg.lp]
 refine Rg.tp 5 ⟨some 18, .move (.tmp 23), _, _, _, none⟩ (v := ?_) rfl ?_ ?_; rotate_left 1
 · (intro w; go_simp; (try with_reducible rfl))
 try simp only [Rg.lp]
 refine Rg.tp 6 ⟨some 24, .extract (.tmp 18) 0, _, _, _, none⟩ (v := ?_) rfl ?_ ?_; rotate_left 1
 · (intro w; go_simp; (try with_reducible rfl))
 try simp only [Rg.lp]
 refine Rg.tp 7 ⟨some 25, .extract (.tmp 18) 1, _, _, _, none⟩ (v := ?_) rfl ?_ ?_; rotate_left 1
 · (intro w; go_simp; (try with_reducible rfl))
 try simp only [Rg.lp]
 refine Rg.tp 8 ⟨some 26, .extract (.tmp 18) 2, _, _, _, none⟩ (v := ?_) rfl ?_ ?_; rotate_left 1
 · (intro w; go_simp; (try with_reducible rfl))
 try simp only [Rg.lp]
 refine Rg.tp 9 ⟨some 7, .assign (.tmp 24), _, _, _, none⟩ (v := ?_) rfl ?_ ?_; rotate_left 1
 · (intro w; go_simp; (try with_reducible rfl))
 try simp only [Rg.lp]
 refine Rg.tp 10 ⟨some 8, .assign (.tmp 25), _, _, _, none⟩ (v := ?_) rfl ?_ ?_; rotate_left 1
 · (intro w; go_simp; (try with_reducible rfl))
 try simp only [Rg.lp]
 refine Rg.tp 11 ⟨some 9, .assign (.tmp 26), _, _, _, none⟩ (v := ?_) rfl ?_ ?_; rotate_left 1
 · (intro w; go_simp; (try with_reducible rfl))
 try simp only [Rg.lp]
 refine Rg.doneR (by kernel_rfl) ?_ _; refine NoPanic.normal ?_; clear HIN HIN4 B3
 go_upto_region 3 with fail
 go_wp2_with fail; refine (alive_any _).mono ?_; rintro e w6 ⟨rfl, hb⟩; have HOC := Lib.hid (ownsRow_below HOC.out hb); have HCI := Lib.hid (HCI.out.below hb); have HOO := Lib.hid (ownsRow_below HOO.out hb); have HRI := Lib.hid (HRI.out.below hb); have HB := Lib.hid (onward HB.out (Nat.le_of_eq HGT.out.symm) hb); clear hb; go_wp2_with fail
 go_loopw [35] (fun v wr => ∃ j : Nat, j ≤ (ones bd xs).length ∧ v = .int .i64 (j : Int) ∧ Below w6.heap.size w6 wr) (fun v _ => (ones bd xs).length - (intOf v).toNat)
 case atStart => exact ⟨0, by omega, rfl, Below.refl _ _⟩
 case round =>
  obtain ⟨j, hj, rfl, hbr⟩ := hrel; have HBR := Lib.hid hbr; clear hbr
  by_cases hlj : j < (ones bd xs).length
  ·
   have hj0 : (0 : Int) ≤ (j : Int) := by omega
   have hj1 : (j : Int) < ((ones bd xs).length : Int) := by omega
   obtain ⟨RA, RC, hos, hra, hrc, hrd, _⟩ := HRI.out j hlj; obtain ⟨bo, oo, rfl, hbo, hoc⟩ := (Rd.of_own HOO.out).2 (by omega); have yo := (HBR.out.cell (p := ⟨bo, oo + j, none⟩) hbo).trans (hoc _ _ hos); have HBO := Lib.hid hbo; clear hos hbo hoc; have HRD := Lib.hid ((hrd.below HBR.out).more HBR.out.size); have HRC := Lib.hid hrc; clear hrd hrc; obtain ⟨bc, oc, VA, VC, rfl, hbl, hrg, _⟩ := clus_at HOC.out HCI.out hlj
   have HRG := Lib.hid (show wr.rangeAt bc (oc + j * 297) ((List.range 297).map (cluCell (runS t0 t1 t2 t3 (ones bd xs) (j + 1)).fr (runS t0 t1 t2 t3 (ones bd xs) (j + 1)).F (verOf VA (runS t0 t1 t2 t3 (ones bd xs) (j + 1)).V VC))) from fun k v hv => (HBR.out.cell (p := ⟨bc, oc + j * 297 + k, none⟩) hbl).trans (hrg k v hv))
   have HBL := Lib.hid hbl; clear hrg hbl; have HRU := Lib.hid (fun k hk => rep_full (k := k) ht HGI.out.1 HGI.out.2 hlj hk); have hrp : (repS t0 t1 t2 t3 (ones bd xs) j).2 ≤ 4 := goods_len_le _ 4
   generalize repS t0 t1 t2 t3 (ones bd xs) j = rp at *
   generalize (runS t0 t1 t2 t3 (ones bd xs) (j + 1)) = cl at *
   generalize wr = wr0 at *
   go_wp2_with fail
   go_loopw [43] (fun v wr => ∃ k : Nat, k ≤ rp.2 ∧ v = .int .i64 (k : Int) ∧ Below wr0.heap.size wr0 wr) (fun v _ => rp.2 - (intOf v).toNat)
   case atStart => exact ⟨0, by omega, rfl, Below.refl _ _⟩
   case round =>
    obtain ⟨k, hk, rfl, hbk⟩ := hrel; have HBK := Lib.hid hbk; clear hbk
    by_cases hlk : k < rp.2
    ·
     have hk0 : (0 : Int) ≤ (k : Int) := by omega
     have hk1 : (k : Int) < (rp.2 : Int) := by omega
     obtain ⟨p, hp4, hpb, hg1, hg2, hg3, hg4, hg5⟩ := HRU.out k hlk; obtain ⟨br, orr, rfl, hbr, hrr⟩ := HRD.out.2 (by omega); have HBB := Lib.hid hbr
     have HRR := Lib.hid (show wr.rangeAt br (orr + k * 14) ((List.range 14).map (repF (cl.F p))) from fun i v hv => by
      have hi : i < 14 := by have := (List.getElem?_eq_some_iff.1 hv).1; simpa using this
      rw [List.getElem?_map, List.getElem?_range hi] at hv; have h2 := hrr _ _ (hg1 i hi); rw [← Nat.add_assoc] at h2; rw [HBK.out.cell (p := ⟨br, orr + k * 14 + i, none⟩) hbr, h2]
      exact hv)
     have HG5 := Lib.hid hg5; have oN : (row 14 (repF (cl.F p))).all (·.oneCell') = true := rep_one hg2
     have iN : (Try.prog.info? 53).map (·.size) = some (row 14 (repF (cl.F p))).size := by rw [row_size]; kernel_rfl
     have zN : repZ.size = (row 14 (repF (cl.F p))).size := by rw [row_size]; kernel_rfl
     obtain ⟨RN, hRN⟩ : ∃ R, row 14 (repF (cl.F p)) = R := ⟨_, rfl⟩; rw [hRN] at iN zN oN; have HRN := Lib.hid hRN; clear hbr hrr hg1 hg5; have F1 : Hid (Blk (wr.alloc (.cells repZ 53)) wr.heap.size 53 repZ) := Lib.hid (Blk.fresh _ _ _)
     unfold repZ at F1 zN
     go_upto_region 11 with (first
      | (refine wpList_rng rfl 53 _ rfl br (orr + k * 14) 14 rfl (repF (cl.F p)) HRR.out _ Try.underlying53 rfl (by kernel_rfl) ?_; rw [hRN])
      | (refine wpList_store_row rfl 53 _ _ rfl wr.heap.size RN rfl rfl 53 _ F1.out iN zN oN ?_))
     have hbn := below_setRow ((Below.refl wr.heap.size wr).alloc (Nat.le_refl _) (.cells repZ 53)) (Nat.le_refl _) RN
     unfold repZ at hbn
     have HBS := Lib.hid (onward HBK.out (Nat.le_refl _) hbn); have B12 := Lib.hid (F1.out.setRow RN); clear hRN F1 hbn iN zN oN HBK
     generalize ((wr.alloc _).setRow wr.heap.size RN) = wp at *
     obtain ⟨g12, hg12⟩ : ∃ g, wr.heap.size = g := ⟨_, rfl⟩; rw [hg12] at B12 ⊢; clear hg12; rw [← HRN.out] at B12; clear HRN HRR
     generalize wr = wr1 at *
     have hp0 : (0 : Int) ≤ (p : Int) := by omega
     have hp1 : (p : Int) < 4 := by omega
     have HNR := Lib.hid (show wp.rangeAt bc (oc + j * 297 + 1 + p * 74) ((List.range 74).map (nodeW (cl.F p) (.slice (VA p) (cl.V p).length (VC p)))) from fun k v hv => (HBS.out.cell (p := ⟨bc, oc + j * 297 + 1 + p * 74 + k, none⟩) (Nat.lt_of_lt_of_le HBL.out HBR.out.size)).trans (clus_node HRG.out hp4 k v hv))
     have yp := B12.out.cell 0
     rw [row_at (by omega), show repF (cl.F p) 0 = cl.F p 0 from rfl, hg3] at yp
     have iN : (Try.prog.info? 45).map (·.size) = some (row 74 (nodeW (cl.F p) (.slice (VA p) (cl.V p).length (VC p)))).size := by rw [row_size]; kernel_rfl
     have zN : (Try.zeroCells45).size = (row 74 (nodeW (cl.F p) (.slice (VA p) (cl.V p).length (VC p)))).size := by rw [row_size]; kernel_rfl
     have oN := one_of hg2 (A := VA p) (n := (cl.V p).length) (c := VC p); obtain ⟨RN, hRN⟩ : ∃ R, row 74 (nodeW (cl.F p) (.slice (VA p) (cl.V p).length (VC p))) = R := ⟨_, rfl⟩; rw [hRN] at iN zN oN; have HRN := Lib.hid hRN; clear hRN; have hbd : Below wp.heap.size wp wp.drew := (Below.refl _ _).drew; have HBS := Lib.hid (onward HBS.out (Nat.le_refl _) hbd); have B12 := Lib.hid (B12.out.below hbd B12.out.lt)
     have HNR := Lib.hid (show wp.drew.rangeAt bc (oc + j * 297 + 1 + p * 74) _ from HNR.out)
     have yp : wp.drew.cell? ⟨g12, 0, none⟩ = some (.int .i64 (p : Int)) := yp
     have HLB := Lib.hid (show bc < wp.drew.heap.size from Nat.lt_of_lt_of_le (Nat.lt_of_lt_of_le HBL.out HBR.out.size) HBS.out.size)
     clear hbd; refine wp_region_noPanic ?_; have HSS : wp.drew.cell? ⟨g12, 0, none⟩ = some (.int .i64 (p : Int)) ∧ wp.drew.rangeAt bc (oc + j * 297 + 1 + p * 74) ((List.range 74).map (nodeW (cl.F p) (.slice (VA p) (cl.V p).length (VC p)))) := ⟨yp, HNR.out⟩; refine Rg.beginR [3, 7] (fun w' => w'.cell? ⟨g12, 0, none⟩ = some (.int .i64 (p : Int)) ∧ w'.rangeAt bc (oc + j * 297 + 1 + p * 74) ((List.range 74).map (nodeW (cl.F p) (.slice (VA p) (cl.V p).length (VC p))))) (by kernel_rfl) ?_; clear yp
     generalize wp.drew = wv at *
     refine Rg.tp 0 ⟨some 47, .move (.tmp 7), _, _, _, none⟩ (v := ?_) rfl ?_ ?_; rotate_left 1
     · (intro w; go_simp; (try with_reducible rfl))
     try simp only [Rg.lp]
     refine Rg.tp 1 ⟨some 48, .move (.tmp 10), _, _, _, none⟩ (v := ?_) rfl ?_ ?_; rotate_left 1
     · (intro w; go_simp; (try with_reducible rfl))
     try simp only [Rg.lp]
     refine Rg.tp 2 ⟨some 49, .fieldAddr 53 (.tmp 12) 0, _, _, _, none⟩ (v := ?_) rfl ?_ ?_; rotate_left 1
     · (intro w; go_simp; (try with_reducible rfl))
     try simp only [Rg.lp]
     refine Rg.ts 3 ⟨some 50, .load 3 (.tmp 49), _, _, _, none⟩ (v := ?_) rfl HSS ?_ ?_; rotate_left 1
     · (intro w hSw; (try dsimp only at hSw); (try go_split_ands); go_simp; (try with_reducible rfl))
     try simp only [Rg.lp]
     refine Rg.tp 4 ⟨some 51, .indexAddr 26 (.tmp 47) (.tmp 48), _, _, _, none⟩ (v := ?_) rfl ?_ ?_; rotate_left 1
     · (intro w; go_simp; (try with_reducible rfl))
     try simp only [Rg.lp]
     refine Rg.tp 5 ⟨some 52, .fieldAddr 48 (.tmp 51) 1, _, _, _, none⟩ (v := ?_) rfl ?_ ?_; rotate_left 1
     · (intro w; go_simp; (try with_reducible rfl))
     try simp only [Rg.lp]
     refine Rg.tp 6 ⟨some 53, .indexAddr 46 (.tmp 52) (.tmp 50), _, _, _, none⟩ (v := ?_) rfl ?_ ?_; rotate_left 1
     · (intro w; go_simp; (try with_reducible rfl))
     try simp only [Rg.lp]
     refine Rg.ts 7 ⟨some 54, .load 45 (.tmp 53), _, _, _, none⟩ (v := .agg RN) rfl HSS ?_ ?_
     · (intro w' hSw; rw [← HRN.out]; exact exec_load_mid 45 _ rfl bc (oc + j * 297 + 1 + p * 74) 74 rfl _ _ hSw.2 Try.underlying45 rfl (by kernel_rfl))
     try simp only [Rg.lp]
     refine Rg.or1 8 ⟨some 13, .alloc 45, _, _, _, none⟩ rfl ?_; refine Rg.stepS ?_; intro K hK; go_simp; clear HSS; have hb : Below wv.heap.size wv (wv.alloc (.cells Try.zeroCells45 45)) := (Below.refl _ _).alloc (Nat.le_refl _) _
     have B13 := Lib.hid (show Blk (wv.alloc (.cells Try.zeroCells45 45)) wv.heap.size 45 Try.zeroCells45 from Blk.fresh _ _ _)
     have HGV := Lib.hid (show wr0.heap.size ≤ wv.heap.size from HBS.out.size)
     have HBS := Lib.hid (onward HBS.out (Nat.le_refl _) hb)
     have HN3 := Lib.hid (show g12 ≠ wv.heap.size from Nat.ne_of_lt B12.out.lt)
     have B12 := Lib.hid (B12.out.below hb B12.out.lt)
     have HNR := Lib.hid (show (wv.alloc (.cells Try.zeroCells45 45)).rangeAt bc (oc + j * 297 + 1 + p * 74) _ from fun k v hv => (hb.cell (p := ⟨bc, oc + j * 297 + 1 + p * 74 + k, none⟩) HLB.out).trans (HNR.out k v hv))
     clear hb; obtain ⟨g13, hg13⟩ : ∃ g, wv.heap.size = g := ⟨_, rfl⟩; rw [hg13] at B13 HN3 HGV ⊢; clear hg13
     generalize (wv.alloc (.cells Try.zeroCells45 45)) = wv at *
     have yp := B12.out.cell 0
     rw [row_at (by omega), show repF (cl.F p) 0 = cl.F p 0 from rfl, hg3] at yp
     have HSS : wv.cell? ⟨g12, 0, none⟩ = some (.int .i64 (p : Int)) ∧ wv.rangeAt bc (oc + j * 297 + 1 + p * 74) ((List.range 74).map (nodeW (cl.F p) (.slice (VA p) (cl.V p).length (VC p)))) := ⟨yp, HNR.out⟩; clear yp; refine hK.out _ _ HSS ?_; clear hK K; try simp only [Rg.lp]
     refine Rg.or1 9 ⟨none, .store 45 (.tmp 13) (.tmp 54), _, _, _, none⟩ rfl ?_; refine Rg.stepF ?_ ?_
     · kernel_rfl
     intro K hK; rw [if_pos (by rfl)]; clear HSS; refine wp_store_row 45 _ _ rfl g13 RN rfl rfl 45 _ B13.out iN zN oN ?_; have B13 := Lib.hid (B13.out.setRow RN); have HBS := Lib.hid (below_setRow HBS.out HGV.out RN); have B12 := Lib.hid (B12.out.setRow_other HN3.out RN); clear HNR
     generalize (wv.setRow g13 RN) = wv at *
     refine hK.out _ _ ?_; clear hK K; try simp only [Rg.lp]
     refine Rg.doneR (by kernel_rfl) ?_ _; refine NoPanic.normal ?_; clear iN zN oN; have yo2 : wv.cell? ⟨bo, oo + j, none⟩ = _ := (HBS.out.cell (p := ⟨bo, oo + j, none⟩) (Nat.lt_of_lt_of_le HBO.out HBR.out.size)).trans yo; obtain ⟨p0, q4, qb, qg1, qg2, qg3, qg4, qg5⟩ := HRU.out 0 (by omega); obtain ⟨_, _, e0, hb0, hr0⟩ := HRD.out.2 (by omega)
     cases e0
     have HR0 := Lib.hid (show wv.rangeAt br orr ((List.range 14).map (repF (cl.F p0))) from fun i v hv => by
      have hi : i < 14 := by have := (List.getElem?_eq_some_iff.1 hv).1; simpa using this
      rw [List.getElem?_map, List.getElem?_range hi] at hv; have h2 := hr0 _ _ (qg1 i hi)
      rw [show orr + (0 * 14 + i) = orr + i by omega] at h2
      rw [HBS.out.cell (p := ⟨br, orr + i, none⟩) hb0, h2]
      exact hv)
     have HQ5 := Lib.hid (fun i h1 h2 => HG5.out p0 q4 qb i h1 h2); have oN : (row 14 (repF (cl.F p0))).all (·.oneCell') = true := rep_one qg2
     have iN : (Try.prog.info? 53).map (·.size) = some (row 14 (repF (cl.F p0))).size := by rw [row_size]; kernel_rfl
     have zN : repZ.size = (row 14 (repF (cl.F p0))).size := by rw [row_size]; kernel_rfl
     obtain ⟨R0, hR0⟩ : ∃ R, row 14 (repF (cl.F p0)) = R := ⟨_, rfl⟩; rw [hR0] at iN zN oN; have HRZ := Lib.hid hR0; clear hb0 hr0 qg1 qg5; have F1 : Hid (Blk (wv.alloc (.cells repZ 53)) wv.heap.size 53 repZ) := Lib.hid (Blk.fresh _ _ _)
     unfold repZ at F1 zN
     go_upto_region 13 with (first
      | (refine wpList_rng rfl 53 _ rfl br orr 14 rfl (repF (cl.F p0)) HR0.out _ Try.underlying53 rfl (by kernel_rfl) ?_; rw [hR0])
      | (refine wpList_store_row rfl 53 _ _ rfl wv.heap.size R0 rfl rfl 53 _ F1.out iN zN oN ?_))
     have hbn := below_setRow ((Below.refl wv.heap.size wv).alloc (Nat.le_refl _) (.cells repZ 53)) (Nat.le_refl _) R0
     unfold repZ at hbn
     have HGX := Lib.hid (show wr0.heap.size ≤ wv.heap.size from HBS.out.size)
     have HBS := Lib.hid (onward HBS.out (Nat.le_refl _) hbn)
     have HN4 := Lib.hid (show g12 ≠ wv.heap.size from Nat.ne_of_lt B12.out.lt)
     have HN5 := Lib.hid (show g13 ≠ wv.heap.size from Nat.ne_of_lt B13.out.lt)
     have B14 := Lib.hid (F1.out.setRow R0); have B12 := Lib.hid (B12.out.below hbn B12.out.lt); have B13 := Lib.hid (B13.out.below hbn B13.out.lt); clear hR0 F1 hbn iN zN oN
     generalize ((wv.alloc _).setRow wv.heap.size R0) = wp at *
     obtain ⟨g14, hg14⟩ : ∃ g, wv.heap.size = g := ⟨_, rfl⟩; rw [hg14] at B14 HN4 HN5 HGX ⊢; clear hg14; rw [← HRZ.out] at B14; clear HRZ; have y12 := B12.out.cell 0
     rw [row_at (by omega), show repF (cl.F p) 0 = cl.F p 0 from rfl, hg3] at y12
     have y14 := B14.out.cell 0
     rw [row_at (by omega), show repF (cl.F p0) 0 = cl.F p0 0 from rfl, qg3] at y14
     have f14 := B14.out.thaw 0
     have HGW := Lib.hid (show wr0.heap.size ≤ g14 from HGX.out)
     go_upto_region 14 with fail
     have hs := B14.out.set 0 (.int .i64 (p : Int))
     rw [show (row 14 (repF (cl.F p0))).setIfInBounds 0 (.int .i64 (p : Int)) = row 14 (repF (cl.F p)) from by
      rw [row_set]; refine row_congr fun i hi => ?_
      by_cases e : i = 0
      · rw [if_pos e, e, show repF (cl.F p) 0 = cl.F p 0 from rfl, hg3]
      · rw [if_neg e]; exact HQ5.out i (by omega) hi] at hs
     have B14 := Lib.hid hs; have HBS := Lib.hid (HBS.out.setCell (p := ⟨g14, 0, none⟩) HGW.out (.int .i64 (p : Int))); have B12 := Lib.hid (B12.out.other (p := ⟨g14, 0, none⟩) HN4.out (.int .i64 (p : Int))); have B13 := Lib.hid (B13.out.other (p := ⟨g14, 0, none⟩) HN5.out (.int .i64 (p : Int))); clear hs y12 y14 f14; rw [← HRN.out] at B13
     generalize (wp.setCell ⟨g14, 0, none⟩ (.int .i64 (p : Int))) = ws at *
     have HG2 := Lib.hid hg2; have HTR := Lib.hid (rep_typed hg2); obtain ⟨n70, h70⟩ := hg2 70 (by omega); have y0 := B12.out.cell 0
     rw [row_at (by omega), show repF (cl.F p) 0 = cl.F p 0 from rfl, hg3] at y0
     have y1 := B12.out.cell 1
     rw [row_at (by omega), show repF (cl.F p) 1 = cl.F p 1 from rfl, hg4] at y1
     have y8 := B12.out.cell 8
     rw [row_at (by omega), show repF (cl.F p) 8 = cl.F p 70 from rfl, h70] at y8
     have y70 := B13.out.cell 70
     rw [row_at (by omega), show nodeW (cl.F p) (.slice (VA p) (cl.V p).length (VC p)) 70 = cl.F p 70 from rfl, h70] at y70
     have e2 : (row 3 fun i => repF (cl.F p) (2 + i)) = row 3 fun i => cl.F p (67 + i) := row_congr fun i hi => repF_used _ hi; have e10 : (row 4 fun i => repF (cl.F p) (10 + i)) = row 4 fun i => cl.F p (27 + i) := row_congr fun i hi => repF_in _ hi
     have hpq : ((p : Int) == bd) = false := by simp [hpb]
     clear hg2 h70
     go_upto_region 14 with fail
     refine wp_region_list ?_; simp only [List.cons_append, List.nil_append, List.append_eq]; refine wpList_whole (by rfl) 53 _ rfl g12 rfl B12.out _ Try.underlying53 rfl (by rw [row_size]; kernel_rfl) ?_; try simp only [Rg.lp]
     refine wpList_whole (by rfl) 53 _ rfl g14 rfl B14.out _ Try.underlying53 rfl (by rw [row_size]; kernel_rfl) ?_; try simp only [Rg.lp]
     refine wpList_neq (by rfl) 53 _ _ _ rfl (d := 20) (ls := repB) (by kernel_rfl) (by omega) Try.underlying53 rfl (by kernel_rfl) (by kernel_rfl) (repF (cl.F p)) rfl rfl HTR.out ?_; try simp only [Rg.lp]
     iterate 15 (refine wpList_wanted (by rfl) (fun K hK => ?_); go_simp; refine hK _ _ ?_; clear hK K; try simp only [Rg.lp])
     refine wpList_mid (by rfl) 39 _ rfl g12 2 3 rfl B12.out (by omega) _ Try.underlying39 rfl (by kernel_rfl) ?_; rw [e2]; try simp only [Rg.lp]
     iterate 1 (refine wpList_wanted (by rfl) (fun K hK => ?_); go_simp; refine hK _ _ ?_; clear hK K; try simp only [Rg.lp])
     refine wpList_part (by rfl) 39 _ rfl g13 67 3 rfl B13.out (by omega) _ Try.underlying39 rfl (by kernel_rfl) ?_; try simp only [Rg.lp]
     refine wpList_neq (by rfl) 39 _ _ _ rfl (d := 20) (ls := [true, true, true]) (by kernel_rfl) (by omega) Try.underlying39 rfl (by kernel_rfl) (by kernel_rfl) (fun i => cl.F p (67 + i)) rfl rfl (typed_row [true, true, true] 67 (cl.F p) (typ_part HG2.out (by kernel_rfl))) ?_; try simp only [Rg.lp]
     iterate 3 (refine wpList_wanted (by rfl) (fun K hK => ?_); go_simp; refine hK _ _ ?_; clear hK K; try simp only [Rg.lp])
     refine wpList_mid (by rfl) 35 _ rfl g12 10 4 rfl B12.out (by omega) _ Try.underlying35 rfl (by kernel_rfl) ?_; rw [e10]; try simp only [Rg.lp]
     iterate 2 (refine wpList_wanted (by rfl) (fun K hK => ?_); go_simp; refine hK _ _ ?_; clear hK K; try simp only [Rg.lp])
     refine wpList_part (by rfl) 35 _ rfl g13 27 4 rfl B13.out (by omega) _ Try.underlying35 rfl (by kernel_rfl) ?_; try simp only [Rg.lp]
     refine wpList_neq (by rfl) 35 _ _ _ rfl (d := 20) (ls := [false, false, false, false]) (by kernel_rfl) (by omega) Try.underlying35 rfl (by kernel_rfl) (by kernel_rfl) (fun i => cl.F p (27 + i)) rfl rfl (typed_row [false, false, false, false] 27 (cl.F p) (typ_part HG2.out (by kernel_rfl))) ?_; try simp only [Rg.lp]
     iterate 7 (refine wpList_wanted (by rfl) (fun K hK => ?_); go_simp; refine hK _ _ ?_; clear hK K; try simp only [Rg.lp])
     go_wp2_with fail; exact ⟨⟨k + 1, by omega, by go_num, HBS.out⟩, by simp [intOf]; omega⟩
    ·
     obtain rfl : k = rp.2 := by omega
     clear hlk; go_wp2_with fail; exact ⟨⟨j + 1, by omega, by go_num, onward HBR.out (Nat.le_refl _) HBK.out⟩, by simp [intOf]; omega⟩
  ·
   obtain rfl : j = (ones bd xs).length := by omega
   clear hlj; go_wp2_with fail
   go_ret
   exact ⟨rfl, by rw [HGT.out]; exact onward HB.out (Nat.le_of_eq HGT.out.symm) HBR.out⟩
set_option maxRecDepth 100000 in
set_option maxHeartbeats 1000000 in
theorem lifted (os : Os) (started : os.Started) (H : Type) (enc : TypeId × Value → H) :
  ReturnsInHanded {} Try.checked os 5 .any (Rows.topReportsSpec.pre6 enc Try.prog Try.f5 Rows.topReportsRow.domain false) (Rows.topReportsSpec.post enc Try.prog Try.f5 false true false false) := by
 refine returnsInHanded_of_change_sized (C := Try.checked) Fr.own started (by kernel_rfl) Try.func5
  (ChangeSpec.witness6 (enc := enc) (C := Try.checked) false ⟨#[], #[.agg #[.int .i64 0, .int .i64 0, .int .i64 0, .int .i64 0], .slice none 0 0, .int .i64 0], []⟩ 8 (by kernel_rfl) (by kernel_rfl) (by kernel_rfl) (by kernel_rfl)) ?_
 intro W base args ds gs before hval0 hW _ hsz0 _; have hval : ∀ (j : Nat) t v, Try.f5.params[j]? = some t → args[j]? = some v → Value.okWide Try.prog W .any base t v := hval0; have hsz : (DataW.weightsEach Try.prog (Try.f5.params.toList ++ Rows.topReportsSpec.plain.varTypes Try.prog) (ds ++ gs)).all (· ≤ reachBytes) = true := hsz0; clear hval0 hsz0; obtain ⟨p, q, hA0, hV0, _⟩ := id hW; have hA : DataW.TrodAll enc Try.prog W 0 (fun _ => true) true Try.f5.params.toList args.toList ds p := hA0; rw [Try.params5] at hA hval hsz; obtain ⟨v0, vs0, d0, ds0, p0, q0, hargs, rfl, rfl, h0, r0⟩ := trodAll_cons hA; obtain ⟨v1, vs1, d1, ds1, p1, q1, rfl, rfl, rfl, h1, r1⟩ := trodAll_cons r0; obtain ⟨v2, vs2, d2, ds2, p2, q2, rfl, rfl, rfl, h2, r2⟩ := trodAll_cons r1; obtain ⟨rfl, rfl, rfl⟩ := trodAll_nil r2
 obtain rfl : args = #[v0, v1, v2] := by cases args; simp_all
 obtain ⟨rfl, rfl⟩ := trodVars_none hV0
 refine Fr.of_walk (f := Try.f5) Fr.laidOut (by rw [Try.params5]; intro t ht; simp at ht; (first | (rcases ht with rfl | rfl | rfl | rfl | rfl | rfl) | (rcases ht with rfl | rfl | rfl | rfl | rfl) | (rcases ht with rfl | rfl | rfl | rfl) | (rcases ht with rfl | rfl | rfl) | (rcases ht with rfl | rfl) | (subst ht)) <;> exact ⟨by kernel_rfl, of_decide_eq_true (by kernel_rfl)⟩) rfl rfl Try.underlying4 (fun _ => rfl) hW ?_
 clear hW hA hA0 hV0; obtain ⟨cs0, rfl⟩ := Op.okWide_agg (t := 23) (by kernel_rfl) (hval 0 23 v0 rfl rfl); have k0 := Op.flat_arg (ls := [3,3,3,3]) (by kernel_rfl) h0 (Op.light_of_each (j := 0) hsz rfl rfl); obtain ⟨y0_0, l0, e0, f0_0, k0⟩ := k0.cons; obtain ⟨y0_1, l0, rfl, f0_1, k0⟩ := k0.cons; obtain ⟨y0_2, l0, rfl, f0_2, k0⟩ := k0.cons; obtain ⟨y0_3, l0, rfl, f0_3, k0⟩ := k0.cons; obtain rfl := k0.nil_; obtain rfl := Op.arr_of e0; obtain ⟨t0, rfl, wf_t0⟩ := f0_0.int Try.underlying3; obtain ⟨t1, rfl, wf_t1⟩ := f0_1.int Try.underlying3; obtain ⟨t2, rfl, wf_t2⟩ := f0_2.int Try.underlying3; obtain ⟨t3, rfl, wf_t3⟩ := f0_3.int Try.underlying3; obtain ⟨AI, ci, xs, rfl, hxc, hxb, _, hxs, hxw⟩ := Cf.openInputs (hval 1 24 v1 rfl rfl) h1 (Op.light_of_each (j := 1) hsz rfl rfl); obtain ⟨bad, rfl, rfl, rfl, wf_bad⟩ := open_int Try.underlying3 (hval 2 3 v2 rfl rfl) h2; have bd_bad := Op.wf_i64 wf_bad; exact walk t0 t1 t2 t3 ⟨wf_t0, wf_t1, wf_t2, wf_t3⟩ AI ci xs (by omega) hxw bad bd_bad W hxs
set_option maxHeartbeats 2000000 in
theorem closedFacts : joinedFacts Try.prog 5 Try.f5 Rows.topReportsSpec Rows.topReportsRow = true := by
 unfold joinedFacts
 simp only [Bool.and_eq_true]; refine ⟨⟨⟨⟨⟨⟨⟨⟨⟨⟨⟨⟨⟨⟨⟨⟨⟨⟨⟨⟨⟨⟨⟨⟨⟨⟨⟨⟨⟨⟨⟨?_, ?_⟩, ?_⟩, ?_⟩, ?_⟩, ?_⟩, ?_⟩, ?_⟩, ?_⟩, ?_⟩, ?_⟩, ?_⟩, ?_⟩, ?_⟩, ?_⟩, ?_⟩, ?_⟩, ?_⟩, ?_⟩, ?_⟩, ?_⟩, ?_⟩, ?_⟩, ?_⟩, ?_⟩, ?_⟩, ?_⟩, ?_⟩, ?_⟩, ?_⟩, ?_⟩, ?_⟩
 · as_aux_lemma => kernel_rfl
 · exact Fr.laidOut
 · exact Facts.mapsRowed_
 · as_aux_lemma => kernel_rfl
 · as_aux_lemma => kernel_rfl
 · as_aux_lemma => kernel_rfl
 · exact Facts.stops_
 · as_aux_lemma => kernel_rfl
 · exact Facts.knobs_
 · as_aux_lemma => kernel_rfl
 · as_aux_lemma => kernel_rfl
 · as_aux_lemma => kernel_rfl
 · as_aux_lemma => kernel_rfl
 · as_aux_lemma => kernel_rfl
 · as_aux_lemma => kernel_rfl
 · as_aux_lemma => kernel_rfl
 · as_aux_lemma => kernel_rfl
 · as_aux_lemma => kernel_rfl
 · as_aux_lemma => kernel_rfl
 · as_aux_lemma => kernel_rfl
 · as_aux_lemma => kernel_rfl
 · as_aux_lemma => kernel_rfl
 · exact Facts.keys_
 · as_aux_lemma => kernel_rfl
 · exact Facts.heard_
 · exact Facts.enter_
 · exact Facts.lifts_
 · exact Facts.make_
 · as_aux_lemma => kernel_rfl
 · as_aux_lemma => kernel_rfl
 · as_aux_lemma => kernel_rfl
 · as_aux_lemma => kernel_rfl
theorem proved : Rows.TopReportsSaid :=
 OpenClaim.holds_of_wide 5 Try.f5 rfl rfl rfl rfl rfl rfl rfl ⟨rfl, rfl, rfl, rfl, rfl⟩ rfl rfl rfl rfl rfl (by kernel_rfl) Try.func5 closedFacts
  (of_decide_eq_true (by kernel_rfl)) (by unfold Func.isWrapper; first | (rw [if_pos (by decide +kernel)]; kernel_rfl) | (rw [if_neg (by decide +kernel)]; exact ⟨rfl, rfl⟩))
  (fun os started H enc _ => lifted os started H enc)
end lawTopReports
end Go.Proofs.Ytobigbnmbnhikaa
