/- The law TopWithin returns true: in every run with one and the same faulty computer what is used lies between the good readings. Conditions: none. -/
import Derived.Test.YtobigbnmbnhikaaPk0
import Derived.Test.YtobigbnmbnhikaaPk30
set_option linter.unusedVariables false
set_option linter.unusedSimpArgs false
namespace Go.Proofs.Ytobigbnmbnhikaa
namespace Cf
open Go.RowKit Mem Rws Nd Cl
def repZ : Array Value := #[.int .i64 0, .int .i64 0, .int .i64 0, .int .i64 0, .int .i64 0, .int .i64 0, .int .i64 0, .int .i64 0, .int .i64 0, .bool false, .bool false, .bool false, .bool false, .bool false]
theorem goods_len_le (bad : Int) : ∀ n, (goods bad n).length ≤ n
 | 0 => Nat.le_refl _
 | n + 1 => by
  have h := goods_len_le bad n
  unfold goods
  rw [List.length_append]
  split <;> simp <;> omega
theorem goods_get (bad : Int) : ∀ n k, k < (goods bad n).length → (goods bad n).getD k 0 < n ∧ (((goods bad n).getD k 0 : Nat) : Int) ≠ bad := fun n k hk => by
 have hm : (goods bad n).getD k 0 ∈ goods bad n := by rw [List.getD_eq_getElem?_getD, List.getElem?_eq_getElem hk]; exact List.getElem_mem hk
 generalize (goods bad n).getD k 0 = p at hm; clear hk
 induction n with
 | zero => exact absurd hm (by unfold goods; simp)
 | succ n ih =>
  unfold goods at hm
  rcases List.mem_append.1 hm with h | h
  · exact ⟨by have := (ih h).1; omega, (ih h).2⟩
  ·
   split at h
   · simp at h
   ·
    rename_i hb
    simp at h
    subst h; exact ⟨by omega, hb⟩
section
variable {c : CluS} {x : InS}
theorem used_cell (hs : Sane c) (hrd : ∀ i, i < 12 → Wf (x.rd i)) (ha : Alike c x.bad) {p : Nat} (hp : p < 4) (hpb : (p : Int) ≠ x.bad) {a : Nat} (ha3 : a < 3) :
  ∃ u : Int, G6 c x p (67 + a) = .int .i64 u ∧ ∀ lo hi : Int, (∀ s : Nat, s < 4 → (s : Int) ≠ x.bad → lo ≤ x.rd (s * 3 + a) ∧ x.rd (s * 3 + a) ≤ hi) → lo ≤ u ∧ u ≤ hi := by
 have hf := facts hs hrd ha hp hpb
 have e : G6 c x p = F6 c x p := by unfold F6; rw [newK_good hp hpb]
 refine ⟨usedZ (F2 c x p) (A3 c x p) a, ?_, fun lo hi h => used_within hs hrd ha hp hpb ha3 h⟩; rw [e, F6_low hp hpb hf (67 + a) (by omega), decG_us _ _ _ _ _ (by omega) a (by omega) (by omega)]
end
theorem rep_used {t0 t1 t2 t3 bad : Int} {ys : List InS} (h : Wf t0 ∧ Wf t1 ∧ Wf t2 ∧ Wf t3) (hg : GoodIns ys) (hb : OneBad bad ys) {j : Nat} (hj : j < ys.length) {k : Nat} (hk : k < (repS t0 t1 t2 t3 ys j).2) :
  ∃ g : Nat → Value, (∀ i, i < 14 → (repS t0 t1 t2 t3 ys j).1[k * 14 + i]? = some (repF g i)) ∧ (∀ i, i < 73 → okT (nodeT i) (g i)) ∧ ∀ a, a < 3 → ∃ u : Int, g (67 + a) = .int .i64 u ∧ ∀ lo hi : Int, (∀ s : Nat, s < 4 → (s : Int) ≠ bad → lo ≤ (ys.getD j default).rd (s * 3 + a) ∧ (ys.getD j default).rd (s * 3 + a) ≤ hi) → lo ≤ u ∧ u ≤ hi := by
 unfold repS at hk ⊢
 obtain ⟨hp, hpb⟩ := goods_get _ _ _ hk; refine ⟨G6 (runS t0 t1 t2 t3 ys j) (ys.getD j default) ((goods (ys.getD j default).bad 4).getD k 0), fun i hi => ?_, ?_, fun a ha => ?_⟩
 · exact reps_get _ _ k i hk hi
 ·
  generalize (goods (ys.getD j default).bad 4).getD k 0 = p at *
  have hr := (hg.2 j hj).2.1; have hs := sane_run (ys := ys) h hg j (by omega)
  have e : G6 (runS t0 t1 t2 t3 ys j) (ys.getD j default) p = F6 (runS t0 t1 t2 t3 ys j) (ys.getD j default) p := by unfold F6; rw [newK_good hp hpb]
  rw [e]; have h2 := (sane_run (ys := ys) h hg (j + 1) (by omega)).ok p hp; exact h2
 ·
  generalize (goods (ys.getD j default).bad 4).getD k 0 = p at *
  have hr := (hg.2 j hj).2.1; have hs := sane_run (ys := ys) h hg j (by omega); have ha2 := alike_run h hg hb j (by omega); have e := hb j hj; rw [e] at hpb; have := used_cell (x := ys.getD j default) hs hr (by rw [e]; exact ha2) hp (by rw [e]; exact hpb) ha; rw [e] at this; exact this
def ReadTo (x : InS) (a : Nat) (bad : Int) (s : Nat) (l h : Int) (f : Bool) : Prop := (f = true → ∀ i : Nat, i < s → (i : Int) = bad) ∧ (f = false → ∀ i : Nat, i < s → (i : Int) ≠ bad → l ≤ x.rd (i * 3 + a) ∧ x.rd (i * 3 + a) ≤ h)
theorem readTo_zero (x : InS) (a : Nat) (bad l h : Int) (f : Bool) : ReadTo x a bad 0 l h f := ⟨fun _ i hi => by omega, fun _ i hi => by omega⟩
theorem readTo_skip {x : InS} {a : Nat} {bad : Int} {s : Nat} {l h : Int} {f : Bool} (H : ReadTo x a bad s l h f) (hs : (s : Int) = bad) : ReadTo x a bad (s + 1) l h f :=
 ⟨fun e i hi => by
  by_cases e2 : i < s
  · exact H.1 e i e2
  ·
   obtain rfl : i = s := by omega
   exact hs, fun e i hi hb => by
  by_cases e2 : i < s
  · exact H.2 e i e2 hb
  ·
   obtain rfl : i = s := by omega
   exact absurd hs hb⟩
theorem readTo_first {x : InS} {a : Nat} {bad : Int} {s : Nat} {l h : Int} (H : ReadTo x a bad s l h true) {v l' h' : Int} (hv : x.rd (s * 3 + a) = v) (hl : l' ≤ v) (hh : v ≤ h') : ReadTo x a bad (s + 1) l' h' false :=
 ⟨fun e => by simp at e, fun e i hi hb => by
  by_cases e2 : i < s
  · exact absurd (H.1 rfl i e2) hb
  ·
   obtain rfl : i = s := by omega
   rw [hv]
   exact ⟨hl, hh⟩⟩
theorem readTo_more {x : InS} {a : Nat} {bad : Int} {s : Nat} {l h : Int} (H : ReadTo x a bad s l h false) {v l' h' : Int} (hv : x.rd (s * 3 + a) = v) (hl : l' ≤ v ∧ l' ≤ l) (hh : v ≤ h' ∧ h ≤ h') : ReadTo x a bad (s + 1) l' h' false :=
 ⟨fun e => by simp at e, fun e i hi hb => by
  by_cases e2 : i < s
  ·
   have := H.2 rfl i e2 hb; omega
  ·
   obtain rfl : i = s := by omega
   rw [hv]
   exact ⟨hl.1, hh.1⟩⟩
theorem repF_used (g : Nat → Value) {a : Nat} (ha : a < 3) : repF g (2 + a) = g (67 + a) := by
 unfold repF
 rw [if_neg (by omega), if_pos (by omega), show 65 + (2 + a) = 67 + a by omega]
end Cf
namespace lawTopWithin
open Go.ChangeShapes Go.WideShapes Go.ChangeAt Go.RowKit Mem Rws Nd Cl Cf
set_option maxRecDepth 100000 in
set_option maxHeartbeats 4000000 in
theorem walk (t0 t1 t2 t3 : Int) (ht : Wf t0 ∧ Wf t1 ∧ Wf t2 ∧ Wf t3) (A : Option Addr) (c : Nat) (xs : List InS) (hxl : xs.length ≤ 1099511627776) (hxw : ∀ x ∈ xs, (∀ i, i < 12 → Wf (x.rd i)) ∧ Wf x.bad) (bad : Int) (hbad : -9223372036854775808 ≤ bad ∧ bad ≤ 9223372036854775807) (w : World) (h : InsAt w w.heap.size A xs) :
  Calls Try.prog 4 #[.agg #[.int .i64 t0, .int .i64 t1, .int .i64 t2, .int .i64 t3], .slice A xs.length c, .int .i64 bad] w fun e w' => e = .returned (.bool true) ∧ Below w.heap.size w w' := by
 have HIN := Lib.hid h
 have B3 := Lib.hid (show Blk (w.alloc (.cells #[.int .i64 t0, .int .i64 t1, .int .i64 t2, .int .i64 t3] 23)) w.heap.size 23 #[.int .i64 t0, .int .i64 t1, .int .i64 t2, .int .i64 t3] from Blk.fresh _ _ _)
 have hb : Below w.heap.size w (w.alloc (.cells #[.int .i64 t0, .int .i64 t1, .int .i64 t2, .int .i64 t3] 23)) := (Below.refl _ _).alloc (Nat.le_refl _) _; have HB := Lib.hid hb; have HIN := Lib.hid ((HIN.out.below hb).more hb.size); clear h hb
 go_enter Try.func4, Try.ntmps4
 go_wp2_with fail; refine (spot_any bad 5 hbad (.inr rfl) _).mono ?_; rintro e w1 ⟨r, hr0, hr5, rfl, rfl⟩; obtain ⟨bd, hbd⟩ : ∃ b, r - 1 = b := ⟨_, rfl⟩
 have hwr : IntKind.i64.wrap (r - 1) = bd := by rw [IntKind.wrap_i64]; omega
 have hol : (ones bd xs).length ≤ 200 := by rw [ones_len]; omega
 have HGI := Lib.hid (ones_good (bad := bd) (xs := xs) (by omega) hxw); clear hbd hr0 hr5 hbad hxw
 go_upto_region 2 with fail
 generalize (w.alloc (.cells #[.int .i64 t0, .int .i64 t1, .int .i64 t2, .int .i64 t3] 23)) = w1 at *
 obtain ⟨gt, hgt⟩ : ∃ g, w.heap.size = g := ⟨_, rfl⟩; have HGT := Lib.hid hgt; rw [hgt] at B3 HB ⊢; clear hgt; go_wp2_with fail; refine (one_any A c xs bd w1 hxl HIN.out).mono ?_; rintro e w4 ⟨A4, c4, rfl, ha4, hc4, hin4, hb⟩; have HIN4 := Lib.hid hin4; have HB := Lib.hid (onward HB.out (Nat.le_of_eq HGT.out.symm) hb); have B3 := Lib.hid (B3.out.below hb B3.out.lt); clear hin4 hb
 go_wp2_with (refine wpList_whole rfl 23 _ rfl gt rfl B3.out _ Try.underlying23 rfl (by kernel_rfl) ?_)
 refine (behind_any t0 t1 t2 t3 ht A4 c4 (ones bd xs) HGI.out.1 w4 HIN4.out).mono ?_; rintro e w5 ⟨CA, CC, OA, OC, cs, os, rfl, hoc, hci, hoo, hri, hb⟩; have HOO := Lib.hid hoo; have HRI := Lib.hid hri; have HB := Lib.hid (onward HB.out (Nat.le_of_eq HGT.out.symm) hb); have HIN4 := Lib.hid ((HIN4.out.below hb).more hb.size); clear hoc hci hoo hri hb HIN B3
 go_upto_region 4 with fail
 go_wp2_with fail; refine (alive_any _).mono ?_; rintro e w6 ⟨rfl, hb⟩; have HOO := Lib.hid (ownsRow_below HOO.out hb); have HRI := Lib.hid (HRI.out.below hb); have HIN4 := Lib.hid ((HIN4.out.below hb).more hb.size); have HB := Lib.hid (onward HB.out (Nat.le_of_eq HGT.out.symm) hb); clear hb; go_wp2_with fail
 go_loopw [41] (fun v wr => ∃ j : Nat, j ≤ (ones bd xs).length ∧ v = .int .i64 (j : Int) ∧ Below w6.heap.size w6 wr) (fun v _ => (ones bd xs).length - (intOf v).toNat)
 case atStart => exact ⟨0, by omega, rfl, Below.refl _ _⟩
 case round =>
  obtain ⟨j, hj, rfl, hbr⟩ := hrel; have HBR := Lib.hid hbr; clear hbr
  by_cases hlj : j < (ones bd xs).length
  ·
   have hj0 : (0 : Int) ≤ (j : Int) := by omega
   have hj1 : (j : Int) < ((ones bd xs).length : Int) := by omega
   obtain ⟨RA, RC, hos, hra, hrc, hrd, _⟩ := HRI.out j hlj; obtain ⟨bo, oo, rfl, hbo, hoc⟩ := (Rd.of_own HOO.out).2 (by omega); have yo := (HBR.out.cell (p := ⟨bo, oo + j, none⟩) hbo).trans (hoc _ _ hos); clear hos hbo hoc; have HRD := Lib.hid ((hrd.below HBR.out).more HBR.out.size); have HRC := Lib.hid hrc; clear hrd hrc; obtain ⟨bi, oi, LA, LC, rfl, hbi, hri, _, _, _, _⟩ := HIN4.out.at (i := j) (x := (ones bd xs).getD j default) (by rw [List.getD_eq_getElem?_getD, List.getElem?_eq_getElem hlj]; rfl)
   have HRG := Lib.hid (show wr.rangeAt bi (oi + j * 14) _ from fun k v hv => (HBR.out.cell (p := ⟨bi, oi + j * 14 + k, none⟩) hbi).trans (hri k v hv))
   have HBI := Lib.hid hbi; clear hri hbi; have HRU := Lib.hid (fun k hk => rep_used (k := k) ht HGI.out.1 HGI.out.2 hlj hk); have hrp : (repS t0 t1 t2 t3 (ones bd xs) j).2 ≤ 4 := goods_len_le _ 4
   generalize repS t0 t1 t2 t3 (ones bd xs) j = rp at *
   generalize hx : (ones bd xs).getD j default = x at *
   have HX := Lib.hid hx; clear hx
   generalize wr = wr0 at *
   go_wp2_with fail
   go_loopw [48] (fun v wr => ∃ k : Nat, k ≤ rp.2 ∧ v = .int .i64 (k : Int) ∧ Below wr0.heap.size wr0 wr) (fun v _ => rp.2 - (intOf v).toNat)
   case atStart => exact ⟨0, by omega, rfl, Below.refl _ _⟩
   case round =>
    obtain ⟨k, hk, rfl, hbk⟩ := hrel; have HBK := Lib.hid hbk; clear hbk
    by_cases hlk : k < rp.2
    ·
     have hk0 : (0 : Int) ≤ (k : Int) := by omega
     have hk1 : (k : Int) < (rp.2 : Int) := by omega
     obtain ⟨g, hg1, hg2, hg3⟩ := HRU.out k hlk; obtain ⟨br, orr, rfl, hbr, hrr⟩ := HRD.out.2 (by omega)
     have HRR := Lib.hid (show wr.rangeAt br (orr + k * 14) ((List.range 14).map (repF g)) from fun i v hv => by
      have hi : i < 14 := by have := (List.getElem?_eq_some_iff.1 hv).1; simpa using this
      rw [List.getElem?_map, List.getElem?_range hi] at hv; have h2 := hrr _ _ (hg1 i hi); rw [← Nat.add_assoc] at h2; rw [HBK.out.cell (p := ⟨br, orr + k * 14 + i, none⟩) hbr, h2]
      exact hv)
     have HG3 := Lib.hid hg3; have oN : (row 14 (repF g)).all (·.oneCell') = true := rep_one hg2
     have iN : (Try.prog.info? 53).map (·.size) = some (row 14 (repF g)).size := by rw [row_size]; kernel_rfl
     have zN : repZ.size = (row 14 (repF g)).size := by rw [row_size]; kernel_rfl
     obtain ⟨RN, hRN⟩ : ∃ R, row 14 (repF g) = R := ⟨_, rfl⟩; rw [hRN] at iN zN oN; have HRN := Lib.hid hRN; clear hbr hrr hg1 hg2 hg3; have F1 : Hid (Blk (wr.alloc (.cells repZ 53)) wr.heap.size 53 repZ) := Lib.hid (Blk.fresh _ _ _)
     unfold repZ at F1 zN
     go_upto_region 12 with (first
      | (refine wpList_rng rfl 53 _ rfl br (orr + k * 14) 14 rfl (repF g) HRR.out _ Try.underlying53 rfl (by kernel_rfl) ?_; rw [hRN])
      | (refine wpList_store_row rfl 53 _ _ rfl wr.heap.size RN rfl rfl 53 _ F1.out iN zN oN ?_))
     have hbn := below_setRow ((Below.refl wr.heap.size wr).alloc (Nat.le_refl _) (.cells repZ 53)) (Nat.le_refl _) RN
     unfold repZ at hbn
     have HBS := Lib.hid (onward HBK.out (Nat.le_refl _) hbn); have B13 := Lib.hid (F1.out.setRow RN); clear hRN F1 hbn iN zN oN HBK
     generalize ((wr.alloc _).setRow wr.heap.size RN) = wp at *
     obtain ⟨g13, hg13⟩ : ∃ g, wr.heap.size = g := ⟨_, rfl⟩; rw [hg13] at B13 ⊢; clear hg13; rw [← HRN.out] at B13; clear HRN HRR
     generalize wr = wr1 at *
     go_wp2_with fail
     go_loopw [14] (fun v wr => ∃ a : Nat, a ≤ 3 ∧ v = .int .i64 (a : Int) ∧ Below wp.heap.size wp wr) (fun v _ => 3 - (intOf v).toNat)
     case atStart => exact ⟨0, by omega, rfl, Below.refl _ _⟩
     case round =>
      obtain ⟨a, ha, rfl, hba⟩ := hrel; have HBA := Lib.hid hba; clear hba
      by_cases hla : a < 3
      ·
       have ha0 : (0 : Int) ≤ (a : Int) := by omega
       have ha1 : (a : Int) < 3 := by omega
       obtain ⟨u, hu, huw⟩ := HG3.out a hla; have y13 := (HBA.out.cell (p := ⟨g13, 2 + a, none⟩) B13.out.lt).trans (B13.out.cell (2 + a)); rw [row_at (by omega), repF_used g hla, hu] at y13; have HUW := Lib.hid huw; have HBL := Lib.hid (onward HBS.out (Nat.le_refl _) HBA.out); clear hu huw
       generalize wr = wr2 at *
       go_wp2_with fail
       go_loopw [18, 15, 16, 17] (fun v lo hi fi wr => ∃ (s : Nat) (l h : Int) (f : Bool), s ≤ 4 ∧ v = .int .i64 (s : Int) ∧ lo = .int .i64 l ∧ hi = .int .i64 h ∧ fi = .bool f ∧ wr = wr2 ∧ ReadTo x a bd s l h f) (fun v _ _ _ _ => 4 - (intOf v).toNat)
       case atStart => exact ⟨0, 0, 0, true, by omega, rfl, rfl, rfl, rfl, rfl, readTo_zero _ _ _ _ _ _⟩
       case round =>
        obtain ⟨s, l, h, f, hs, rfl, rfl, rfl, rfl, rfl, hrt⟩ := hrel; have HRT := Lib.hid hrt; clear hrt
        by_cases hls : s < 4
        ·
         have hs0 : (0 : Int) ≤ (s : Int) := by omega
         have hs1 : (s : Int) < 4 := by omega
         obtain ⟨v, hv⟩ : ∃ v, x.rd (s * 3 + a) = v := ⟨_, rfl⟩
         have yr : wr.cell? ⟨bi, oi + j * 14 + s * 3 + a, none⟩ = some (.int .i64 v) := by
          rw [Nat.add_assoc (oi + j * 14), HBL.out.cell (p := ⟨bi, oi + j * 14 + (s * 3 + a), none⟩) (Nat.lt_of_lt_of_le HBI.out HBR.out.size)]; refine HRG.out _ _ ?_; rw [List.getElem?_map, List.getElem?_range (by omega)]
          show some (inCell x.rd x.bad _ (s * 3 + a)) = _
          unfold inCell
          rw [if_pos (by omega), hv]
         have HV := Lib.hid hv; clear hv
         by_cases hsb : (s : Int) = bd
         ·
          have hst : ((s : Int) == bd) = true := by simp [hsb]
          have HSB := Lib.hid hsb; clear hsb; go_wp2_with fail; exact ⟨⟨s + 1, _, _, _, by omega, by go_num, rfl, rfl, rfl, by trivial, readTo_skip HRT.out HSB.out⟩, by simp [intOf]; omega⟩
         ·
          have hst : ((s : Int) == bd) = false := by simp [hsb]
          clear hsb
          cases f
          ·
           go_wp2_with fail; exact ⟨⟨s + 1, _, _, _, by omega, by go_num, rfl, rfl, rfl, by trivial, readTo_more HRT.out HV.out (by omega) (by omega)⟩, by simp [intOf]; omega⟩
          ·
           go_wp2_with fail; exact ⟨⟨s + 1, _, _, _, by omega, by go_num, rfl, rfl, rfl, by trivial, readTo_first HRT.out HV.out (by omega) (by omega)⟩, by simp [intOf]; omega⟩
        ·
         obtain rfl : s = 4 := by omega
         clear hls
         cases f
         ·
          obtain ⟨d1, d2⟩ := HUW.out l h (HRT.out.2 rfl); have e1 : decide (u < l) = false := decide_eq_false (by omega); have e2 : decide (h < u) = false := decide_eq_false (by omega); clear d1 d2; go_wp2_with fail; exact ⟨⟨a + 1, by omega, by go_num, HBA.out⟩, by simp [intOf]; omega⟩
         ·
          have d1 := HRT.out.1 rfl 0 (by omega); have d2 := HRT.out.1 rfl 1 (by omega); omega
      ·
       obtain rfl : a = 3 := by omega
       clear hla; go_wp2_with fail; exact ⟨⟨k + 1, by omega, by go_num, onward HBS.out (Nat.le_refl _) HBA.out⟩, by simp [intOf]; omega⟩
    ·
     obtain rfl : k = rp.2 := by omega
     clear hlk; go_wp2_with fail; exact ⟨⟨j + 1, by omega, by go_num, onward HBR.out (Nat.le_refl _) HBK.out⟩, by simp [intOf]; omega⟩
  ·
   obtain rfl : j = (ones bd xs).length := by omega
   clear hlj; go_wp2_with fail
   go_ret
   exact ⟨rfl, by rw [HGT.out]; exact onward HB.out (Nat.le_of_eq HGT.out.symm) HBR.out⟩
set_option maxRecDepth 100000 in
set_option maxHeartbeats 1000000 in
theorem lifted (os : Os) (started : os.Started) (H : Type) (enc : TypeId × Value → H) :
  ReturnsInHanded {} Try.checked os 4 .any (Rows.topWithinSpec.pre6 enc Try.prog Try.f4 Rows.topWithinRow.domain false) (Rows.topWithinSpec.post enc Try.prog Try.f4 false true false false) := by
 refine returnsInHanded_of_change_sized (C := Try.checked) Fr.own started (by kernel_rfl) Try.func4
  (ChangeSpec.witness6 (enc := enc) (C := Try.checked) false ⟨#[], #[.agg #[.int .i64 0, .int .i64 0, .int .i64 0, .int .i64 0], .slice none 0 0, .int .i64 0], []⟩ 8 (by kernel_rfl) (by kernel_rfl) (by kernel_rfl) (by kernel_rfl)) ?_
 intro W base args ds gs before hval0 hW _ hsz0 _; have hval : ∀ (j : Nat) t v, Try.f4.params[j]? = some t → args[j]? = some v → Value.okWide Try.prog W .any base t v := hval0; have hsz : (DataW.weightsEach Try.prog (Try.f4.params.toList ++ Rows.topWithinSpec.plain.varTypes Try.prog) (ds ++ gs)).all (· ≤ reachBytes) = true := hsz0; clear hval0 hsz0; obtain ⟨p, q, hA0, hV0, _⟩ := id hW; have hA : DataW.TrodAll enc Try.prog W 0 (fun _ => true) true Try.f4.params.toList args.toList ds p := hA0; rw [Try.params4] at hA hval hsz; obtain ⟨v0, vs0, d0, ds0, p0, q0, hargs, rfl, rfl, h0, r0⟩ := trodAll_cons hA; obtain ⟨v1, vs1, d1, ds1, p1, q1, rfl, rfl, rfl, h1, r1⟩ := trodAll_cons r0; obtain ⟨v2, vs2, d2, ds2, p2, q2, rfl, rfl, rfl, h2, r2⟩ := trodAll_cons r1; obtain ⟨rfl, rfl, rfl⟩ := trodAll_nil r2
 obtain rfl : args = #[v0, v1, v2] := by cases args; simp_all
 obtain ⟨rfl, rfl⟩ := trodVars_none hV0
 refine Fr.of_walk (f := Try.f4) Fr.laidOut (by rw [Try.params4]; intro t ht; simp at ht; (first | (rcases ht with rfl | rfl | rfl | rfl | rfl | rfl) | (rcases ht with rfl | rfl | rfl | rfl | rfl) | (rcases ht with rfl | rfl | rfl | rfl) | (rcases ht with rfl | rfl | rfl) | (rcases ht with rfl | rfl) | (subst ht)) <;> exact ⟨by kernel_rfl, of_decide_eq_true (by kernel_rfl)⟩) rfl rfl Try.underlying4 (fun _ => rfl) hW ?_
 clear hW hA hA0 hV0; obtain ⟨cs0, rfl⟩ := Op.okWide_agg (t := 23) (by kernel_rfl) (hval 0 23 v0 rfl rfl); have k0 := Op.flat_arg (ls := [3,3,3,3]) (by kernel_rfl) h0 (Op.light_of_each (j := 0) hsz rfl rfl); obtain ⟨y0_0, l0, e0, f0_0, k0⟩ := k0.cons; obtain ⟨y0_1, l0, rfl, f0_1, k0⟩ := k0.cons; obtain ⟨y0_2, l0, rfl, f0_2, k0⟩ := k0.cons; obtain ⟨y0_3, l0, rfl, f0_3, k0⟩ := k0.cons; obtain rfl := k0.nil_; obtain rfl := Op.arr_of e0; obtain ⟨t0, rfl, wf_t0⟩ := f0_0.int Try.underlying3; obtain ⟨t1, rfl, wf_t1⟩ := f0_1.int Try.underlying3; obtain ⟨t2, rfl, wf_t2⟩ := f0_2.int Try.underlying3; obtain ⟨t3, rfl, wf_t3⟩ := f0_3.int Try.underlying3; obtain ⟨AI, ci, xs, rfl, hxc, hxb, _, hxs, hxw⟩ := Cf.openInputs (hval 1 24 v1 rfl rfl) h1 (Op.light_of_each (j := 1) hsz rfl rfl); obtain ⟨bad, rfl, rfl, rfl, wf_bad⟩ := open_int Try.underlying3 (hval 2 3 v2 rfl rfl) h2; have bd_bad := Op.wf_i64 wf_bad; exact walk t0 t1 t2 t3 ⟨wf_t0, wf_t1, wf_t2, wf_t3⟩ AI ci xs (by omega) hxw bad bd_bad W hxs
set_option maxHeartbeats 2000000 in
theorem closedFacts : joinedFacts Try.prog 4 Try.f4 Rows.topWithinSpec Rows.topWithinRow = true := by
 unfold joinedFacts
 simp only [Bool.and_eq_true]; refine ⟨⟨⟨⟨⟨⟨⟨⟨⟨⟨⟨⟨⟨⟨⟨⟨⟨⟨⟨⟨⟨⟨⟨⟨⟨⟨⟨⟨⟨⟨⟨?_, ?_⟩, ?_⟩, ?_⟩, ?_⟩, ?_⟩, ?_⟩, ?_⟩, ?_⟩, ?_⟩, ?_⟩, ?_⟩, ?_⟩, ?_⟩, ?_⟩, ?_⟩, ?_⟩, ?_⟩, ?_⟩, ?_⟩, ?_⟩, ?_⟩, ?_⟩, ?_⟩, ?_⟩, ?_⟩, ?_⟩, ?_⟩, ?_⟩, ?_⟩, ?_⟩, ?_⟩
 · as_aux_lemma => kernel_rfl
 · exact Fr.laidOut
 · exact Facts.mapsRowed_
 · as_aux_lemma => kernel_rfl
 · as_aux_lemma => kernel_rfl
 · as_aux_lemma => kernel_rfl
 · exact Facts.stops_
 · as_aux_lemma => kernel_rfl
 · exact Facts.knobs_
 · as_aux_lemma => kernel_rfl
 · as_aux_lemma => kernel_rfl
 · as_aux_lemma => kernel_rfl
 · as_aux_lemma => kernel_rfl
 · as_aux_lemma => kernel_rfl
 · as_aux_lemma => kernel_rfl
 · as_aux_lemma => kernel_rfl
 · as_aux_lemma => kernel_rfl
 · as_aux_lemma => kernel_rfl
 · as_aux_lemma => kernel_rfl
 · as_aux_lemma => kernel_rfl
 · as_aux_lemma => kernel_rfl
 · as_aux_lemma => kernel_rfl
 · exact Facts.keys_
 · as_aux_lemma => kernel_rfl
 · exact Facts.heard_
 · exact Facts.enter_
 · exact Facts.lifts_
 · exact Facts.make_
 · as_aux_lemma => kernel_rfl
 · as_aux_lemma => kernel_rfl
 · as_aux_lemma => kernel_rfl
 · as_aux_lemma => kernel_rfl
theorem proved : Rows.TopWithinSaid :=
 OpenClaim.holds_of_wide 4 Try.f4 rfl rfl rfl rfl rfl rfl rfl ⟨rfl, rfl, rfl, rfl, rfl⟩ rfl rfl rfl rfl rfl (by kernel_rfl) Try.func4 closedFacts
  (of_decide_eq_true (by kernel_rfl)) (by unfold Func.isWrapper; first | (rw [if_pos (by decide +kernel)]; kernel_rfl) | (rw [if_neg (by decide +kernel)]; exact ⟨rfl, rfl⟩))
  (fun os started H enc _ => lifted os started H enc)
end lawTopWithin
end Go.Proofs.Ytobigbnmbnhikaa
