/- Contracts: low, of, SetBit of numbers that aren't below 0. -/
import Derived.Test.YtajhkbdaoakogaaBitLaw
import Derived.Test.YtajhkbdaoakogaaBigK
namespace Go.Proofs.Ytajhkbdaoakogaa.BigW
open Go.RowKit Go.Proofs.Ytajhkbdaoakogaa.Mem Go.Proofs.Ytajhkbdaoakogaa.BigLaw
set_option linter.unusedVariables false
set_option linter.unusedSimpArgs false

set_option maxRecDepth 100000 in
set_option maxHeartbeats 1000000 in
theorem low_any (p : Nat) (A : Option Addr) (c : Nat) (l : List Nat) (n : Nat) (w : World) (x0 : w.cell? ⟨p, 0, none⟩ = some (.bool false)) (x1 : w.cell? ⟨p, 1, none⟩ = some (.slice A l.length c)) (xw : Wd w w.heap.size A c l) (hp : p < w.heap.size) (hln : l.length ≤ n) (hn1 : 1 ≤ n) (hn : n ≤ 1000) :
    Calls Try.prog 134 #[.pointer (some ⟨p, 0, none⟩), .int .i64 (n : Int)] w fun e w' => e = .returned (.slice (some ⟨w.heap.size, 0, none⟩) n n) ∧ Blk w' w.heap.size 130 (rowF .u32 n fun i => (l.getD i 0 : Int)) ∧ Below w.heap.size w w' := by
  have HW := Lib.hid xw
  clear xw
  go_enter Try.func134, Try.ntmps134
  go_upto_region 2 with (refine wpList_make_row rfl _ _ _ rfl elemU32 n rfl rfl (by go_num) (by go_num) (by omega) (by omega) ?_)
  have hbu : Below w.heap.size w (w.alloc (.cells (rowF .u32 n fun _ => 0) 130)) := (Below.refl _ _).alloc (Nat.le_refl _) _
  have bu3 : Blk (w.alloc (.cells (rowF .u32 n fun _ => 0) 130)) w.heap.size 130 (rowF .u32 n fun _ => 0) := Blk.new rfl
  rw [zerosL_row] at bu3
  have HBU := Lib.hid bu3
  have HB := Lib.hid hbu
  have HX0 := Lib.hid x0
  have x1 := (below_cell hbu p 1 hp).trans x1
  have HW := Lib.hid (HW.out.below hbu)
  clear bu3 hbu x0
  rw [zerosL_row] at HB x1 HW ⊢
  generalize w.alloc (.cells (zerosL n).toArray 130) = w3 at HBU HB x1 HW ⊢
  have HCP : Hid (0 < (wordsV l).length → ∃ ad, A = some ad ∧ ∀ j v, (wordsV l)[j]? = some v → w3.cell? (ad.add j) = some v) := Lib.hid fun hp => by
    rw [wordsV_length] at hp
    obtain ⟨b, o, e, _, hc⟩ := HW.out.rd.2 hp
    exact ⟨_, e, fun j u hu => by rw [show ((⟨b, o, none⟩ : Addr).add j) = ⟨b, o + j, none⟩ by unfold Addr.add; split <;> simp_all]; exact hc j u hu⟩
  have HCL := Lib.hid (show (wordsV l).length = Nat.min l.length n by rw [wordsV_length]; exact (Nat.min_eq_left (by omega)).symm)
  have HCF := Lib.hid (show 0 + (wordsV l).length ≤ (zerosL n).length by rw [zerosL_length, wordsV_length]; omega)
  have HSP := Lib.hid (splice_words l _ hln)
  go_upto_region 3 with (refine wpList_copy_splice (by rfl) (.tmp 10) (.tmp 14) 87 87 (by rfl) 130 Try.underlying87 (by kernel_rfl) (some ⟨w.heap.size, 0, none⟩) A n n l.length c (by rfl) (by rfl) w.heap.size 0 (zerosL n) 130 HBU.out (wordsV l) HCL.out (fun hp => ⟨rfl, HCP.out hp⟩) HCF.out (wordsV_one l) w.heap.size w HB.out (Nat.le_refl _) ?_; intro w4 hg4 hb4; rw [HSP.out] at hg4; have HU4 := Lib.hid (show Blk w4 w.heap.size 130 (rowF .u32 n fun i => (l.getD i 0 : Int)) from hg4.out); have HB4 := Lib.hid hb4; clear hg4 hb4)
  have x0 := (below_cell HB4.out p 0 hp).trans HX0.out
  clear x1
  go_wp2_with fail
  go_ret
  exact ⟨rfl, HU4.out, HB4.out⟩

set_option maxRecDepth 100000 in
set_option maxHeartbeats 1000000 in
theorem of_any (p : Nat) (A : Option Addr) (c : Nat) (l : List Nat) (w : World) (h : IsInt w p) (hw : Wd w w.heap.size A c l) (hl : 0 < l.length) (htop : l.getD (l.length - 1) 0 = 0) :
    Calls Try.prog 135 #[.pointer (some ⟨p, 0, none⟩), .slice A l.length c] w fun e w' => e = .returned (.pointer (some ⟨p, 0, none⟩)) ∧ BigAt w' p (val l : Int) ∧ w.grownBy w' (some p) := by
  obtain ⟨b, o, rfl, hbB, hcx⟩ := hw.at_ (show l.length - 1 < l.length by omega)
  rw [htop] at hcx
  have HW := Lib.hid hw
  have HI := Lib.hid h
  obtain ⟨m, hm⟩ : ∃ m, l.length = m + 1 := ⟨l.length - 1, by omega⟩
  have hm1 : (l.length : Int) - 1 = (m : Int) := by omega
  have hm2 : (m : Int) < (l.length : Int) := by omega
  have hm3 : (0 : Int) < (l.length : Int) := by omega
  have hcap := hw.cap
  have hlc := hw.len
  rw [show l.length - 1 = m by omega] at hcx
  have hcx : w.cell? ⟨b, o + m, none⟩ = some (.int .u32 0) := hcx
  clear hw h hl htop hm
  go_enter Try.func135, Try.ntmps135
  go_wp2_with fail
  refine (trim_any _ c l _ _ HW.out).mono ?_
  rintro e w1 ⟨⟨n, hn, rfl, ht, hv⟩, rfl⟩
  have HW1 := Lib.hid (HW.out.take hn)
  have hln : (l.take n).length = n := by simp; omega
  have HT := Lib.hid ht
  have HV := Lib.hid hv
  clear ht hv hcx
  go_wp2_with fail
  rw [← hln]
  refine (give_big p false _ (l.take n) c _ (val l : Int) HI.out HW1.out HT.out (by rw [HV.out]; rfl) (by rw [Bool.false_and, decide_eq_false (by omega)])).mono ?_
  rintro e w2 ⟨rfl, hb, hg⟩
  have HB := Lib.hid hb
  have HG := Lib.hid hg
  clear hb hg
  go_wp2_with fail
  go_ret
  exact ⟨rfl, HB.out, HG.out⟩

set_option maxRecDepth 100000 in
set_option maxHeartbeats 1000000 in
theorem setBit_any (p px i X : Nat) (w : World) (hp : IsInt w p) (hx : BigAt w px (X : Int)) (hm : X % 2 ^ (i + 1) = 0) (bx : X < pw 90) (hi : i ≤ 900) :
    Calls Try.prog 107 #[.pointer (some ⟨p, 0, none⟩), .pointer (some ⟨px, 0, none⟩), .int .i64 (i : Int), .int .u64 1] w fun e w' => e = .returned (.pointer (some ⟨p, 0, none⟩)) ∧ BigAt w' p ((X + 2 ^ i : Nat) : Int) ∧ w.grownBy w' (some p) := by
  obtain ⟨A, c, l, x0, x1, xw, xt, xv⟩ := hx.parts
  rw [decide_eq_false (by omega)] at x0
  rw [Int.natAbs_natCast] at xv
  have hlen : l.length ≤ 90 := length_le xt (by rw [xv]; exact bx)
  have HPX := Lib.hid hx.lt
  obtain ⟨k, r, hr, hkr⟩ : ∃ k r, r < 32 ∧ i = 32 * k + r := ⟨i / 32, i % 32, by omega, by omega⟩
  have hk : k ≤ 28 := by omega
  have HWM := Lib.hid (word_mod xw.small k r hr (by rw [xv, ← hkr]; exact hm))
  have HX0 := Lib.hid x0
  have HX1 := Lib.hid x1
  have HW := Lib.hid xw
  have HV := Lib.hid xv
  have HPI := Lib.hid (show 2 ^ i = 2 ^ r * pw k by rw [hkr, Nat.add_comm, Nat.pow_add, ← pw_two])
  have HI := Lib.hid hp
  have hq : (i : Int) / 32 = (k : Int) := by omega
  have hq2 : (i : Int) % 32 = (r : Int) := by omega
  have hi0 : ¬ (i : Int) < 0 := by omega
  have hi1 : (i : Int) ≤ 900 := by omega
  have hx32 := getD_lt xw.small k
  clear hx hp hm bx xw xv xt x0 hkr
  obtain ⟨T, hT⟩ : ∃ T, 2 ^ r = T := ⟨_, rfl⟩
  have hT32 : T < 4294967296 := by rw [← hT]; exact (Nat.pow_lt_pow_right (by omega) hr : 2 ^ r < 2 ^ 32)
  have hsh : (2 : Int) ^ r = (T : Int) := by rw [← hT]; push_cast; rfl
  obtain ⟨x, hxk⟩ : ∃ x, l.getD k 0 = x := ⟨_, rfl⟩
  rw [hxk] at hx32 HWM
  have hand : bits .andNot .u32 (x : Int) (T : Int) = (x : Int) := by rw [u32_andNot_nat x T hx32 hT32, ← hT, andNot_keep hx32 hr HWM.out]
  have hor : bits .or .u32 (x : Int) (T : Int) = (x : Int) + (T : Int) := by
    rw [u32_or_nat x T hx32 hT32, Nat.or_comm, ← hT, or_low (2 ^ r) x (r + 1) (Nat.pow_lt_pow_right (by omega) (by omega)) HWM.out]
    push_cast; rfl
  have hxT : x + T < 4294967296 := by
    rw [← hor_nat hx32 hT32 hT hr HWM.out]
    exact Nat.or_lt_two_pow (n := 32) hx32 hT32
  have HXK := Lib.hid hxk
  rw [hT] at HPI
  have h11 : bits .and .u64 (1 : Int) (1 : Int) = 1 := by kernel_rfl
  clear hT hxk HWM
  rcases Nat.lt_or_ge l.length (k + 1) with hc | hc
  · have hc1 : (l.length : Int) < (k : Int) + 1 := by omega
    go_enter Try.func107, Try.ntmps107
    go_wp2_with fail
    obtain ⟨n, hn⟩ : ∃ n : Nat, (k : Int) + 1 + 1 = (n : Int) := ⟨k + 2, by omega⟩
    rw [hn]
    have hn1 : l.length < n := by omega
    have hn2 : k + 1 < n := by omega
    have hn3 : n ≤ 93 := by omega
    clear hn hc hc1 x1
    refine (low_any px A c l n w HX0.out HX1.out HW.out HPX.out (by omega) (by omega) (by omega)).mono ?_
    rintro e w1 ⟨rfl, hblk, hb⟩
    have HBL := Lib.hid hblk
    have HB := Lib.hid hb
    have c1 := hblk.cell k
    rw [rowF_at _ _ _ _ (by omega), HXK.out] at c1
    have t1 := hblk.thaw k
    have hkn : (k : Int) < (n : Int) := by omega
    clear hblk hb
    obtain ⟨g, hg⟩ : ∃ g, w.heap.size = g := ⟨_, rfl⟩
    rw [hg] at HBL c1 t1 ⊢
    go_upto_region 6 with fail
    have HBL := Lib.hid (HBL.out.set k (.int .u32 (x : Int)))
    have HB := Lib.hid (HB.out.setCell (p := ⟨g, k, none⟩) (by show _ ≤ g; omega) (.int .u32 (x : Int)))
    generalize w1.setCell ⟨g, k, none⟩ (.int .u32 (x : Int)) = w2 at *
    have HBL := Lib.hid (show Blk w2 g 130 (rowF .u32 n fun i => (l.getD i 0 : Int)) from by
      have h := HBL.out
      rw [rowF_set (g := fun i => (l.getD i 0 : Int)) (fun i hi => by by_cases e : i = k; (subst e; rw [if_pos rfl, HXK.out]); rw [if_neg e])] at h
      exact h)
    have c1 := HBL.out.cell k
    rw [rowF_at _ _ _ _ (by omega), HXK.out] at c1
    have t1 := HBL.out.thaw k
    go_upto_region 7 with fail
    have HBL := Lib.hid (HBL.out.set k (.int .u32 ((x : Int) + (T : Int))))
    have HB := Lib.hid (HB.out.setCell (p := ⟨g, k, none⟩) (by show _ ≤ g; omega) (.int .u32 ((x : Int) + (T : Int))))
    clear c1 t1
    generalize w2.setCell ⟨g, k, none⟩ (.int .u32 ((x : Int) + (T : Int))) = w3 at *
    have HBL := Lib.hid (show Blk w3 g 130 (rowF .u32 n fun i => ((l.getD i 0 + if i = k then T else 0 : Nat) : Int)) from by
      have h := HBL.out
      rw [rowF_set (g := fun i => ((l.getD i 0 + if i = k then T else 0 : Nat) : Int)) (fun i hi => by by_cases e : i = k; (subst e; rw [if_pos rfl, if_pos rfl, HXK.out]; push_cast; rfl); rw [if_neg e, if_neg e, Nat.add_zero])] at h
      exact h)
    have HWD := Lib.hid (wd_of_blk HBL.out (by omega) (fun i hi => by
      by_cases e : i = k
      · subst e; rw [if_pos rfl, HXK.out]; exact hxT
      · rw [if_neg e, Nat.add_zero]; exact getD_lt HW.out.small i))
    have HVV := Lib.hid (show val ((List.range n).map fun i => l.getD i 0 + if i = k then T else 0) = X + 2 ^ i from by
      rw [val_map, valF_bump, if_pos (by omega), valF_val (by omega), HV.out, HPI.out])
    have HTOP := Lib.hid (show ((List.range n).map fun i => l.getD i 0 + if i = k then T else 0).getD (n - 1) 0 = 0 from by
      rw [List.getD_eq_getElem?_getD, List.getElem?_map, List.getElem?_range (by omega)]
      show l.getD (n - 1) 0 + (if n - 1 = k then T else 0) = 0
      rw [if_neg (by omega), getD_out (by omega)])
    have hlen2 : ((List.range n).map fun i => l.getD i 0 + if i = k then T else 0).length = n := by simp
    have hglt := HBL.out.lt
    generalize ((List.range n).map fun i => l.getD i 0 + if i = k then T else 0) = l2 at HWD HVV HTOP hlen2
    go_wp2_with fail
    rw [← hlen2]
    refine (of_any p (some ⟨g, 0, none⟩) l2.length l2 w3 (HI.out.below HB.out (by have := HI.out.lt; omega)) (by rw [hlen2]; exact HWD.out.more hglt) (by omega) (by rw [hlen2]; exact HTOP.out)).mono ?_
    rintro e w4 ⟨rfl, hb, hgr⟩
    rw [HVV.out] at hb
    have HBA := Lib.hid hb
    have HG := Lib.hid ((grown_of_below (HB.out.mono (by omega))).trans hgr)
    clear hb hgr
    go_wp2_with fail
    go_ret
    exact ⟨rfl, HBA.out, HG.out⟩
  · have hc1 : (k : Int) + 1 ≤ (l.length : Int) := by omega
    go_enter Try.func107, Try.ntmps107
    go_wp2_with fail
    obtain ⟨n, hn⟩ : ∃ n : Nat, (l.length : Int) + 1 = (n : Int) := ⟨l.length + 1, by omega⟩
    rw [hn]
    have hn1 : l.length < n := by omega
    have hn2 : k + 1 < n := by omega
    have hn3 : n ≤ 93 := by omega
    clear hn hc hc1 x1
    refine (low_any px A c l n w HX0.out HX1.out HW.out HPX.out (by omega) (by omega) (by omega)).mono ?_
    rintro e w1 ⟨rfl, hblk, hb⟩
    have HBL := Lib.hid hblk
    have HB := Lib.hid hb
    have c1 := hblk.cell k
    rw [rowF_at _ _ _ _ (by omega), HXK.out] at c1
    have t1 := hblk.thaw k
    have hkn : (k : Int) < (n : Int) := by omega
    clear hblk hb
    obtain ⟨g, hg⟩ : ∃ g, w.heap.size = g := ⟨_, rfl⟩
    rw [hg] at HBL c1 t1 ⊢
    go_upto_region 6 with fail
    have HBL := Lib.hid (HBL.out.set k (.int .u32 (x : Int)))
    have HB := Lib.hid (HB.out.setCell (p := ⟨g, k, none⟩) (by show _ ≤ g; omega) (.int .u32 (x : Int)))
    generalize w1.setCell ⟨g, k, none⟩ (.int .u32 (x : Int)) = w2 at *
    have HBL := Lib.hid (show Blk w2 g 130 (rowF .u32 n fun i => (l.getD i 0 : Int)) from by
      have h := HBL.out
      rw [rowF_set (g := fun i => (l.getD i 0 : Int)) (fun i hi => by by_cases e : i = k; (subst e; rw [if_pos rfl, HXK.out]); rw [if_neg e])] at h
      exact h)
    have c1 := HBL.out.cell k
    rw [rowF_at _ _ _ _ (by omega), HXK.out] at c1
    have t1 := HBL.out.thaw k
    go_upto_region 7 with fail
    have HBL := Lib.hid (HBL.out.set k (.int .u32 ((x : Int) + (T : Int))))
    have HB := Lib.hid (HB.out.setCell (p := ⟨g, k, none⟩) (by show _ ≤ g; omega) (.int .u32 ((x : Int) + (T : Int))))
    clear c1 t1
    generalize w2.setCell ⟨g, k, none⟩ (.int .u32 ((x : Int) + (T : Int))) = w3 at *
    have HBL := Lib.hid (show Blk w3 g 130 (rowF .u32 n fun i => ((l.getD i 0 + if i = k then T else 0 : Nat) : Int)) from by
      have h := HBL.out
      rw [rowF_set (g := fun i => ((l.getD i 0 + if i = k then T else 0 : Nat) : Int)) (fun i hi => by by_cases e : i = k; (subst e; rw [if_pos rfl, if_pos rfl, HXK.out]; push_cast; rfl); rw [if_neg e, if_neg e, Nat.add_zero])] at h
      exact h)
    have HWD := Lib.hid (wd_of_blk HBL.out (by omega) (fun i hi => by
      by_cases e : i = k
      · subst e; rw [if_pos rfl, HXK.out]; exact hxT
      · rw [if_neg e, Nat.add_zero]; exact getD_lt HW.out.small i))
    have HVV := Lib.hid (show val ((List.range n).map fun i => l.getD i 0 + if i = k then T else 0) = X + 2 ^ i from by
      rw [val_map, valF_bump, if_pos (by omega), valF_val (by omega), HV.out, HPI.out])
    have HTOP := Lib.hid (show ((List.range n).map fun i => l.getD i 0 + if i = k then T else 0).getD (n - 1) 0 = 0 from by
      rw [List.getD_eq_getElem?_getD, List.getElem?_map, List.getElem?_range (by omega)]
      show l.getD (n - 1) 0 + (if n - 1 = k then T else 0) = 0
      rw [if_neg (by omega), getD_out (by omega)])
    have hlen2 : ((List.range n).map fun i => l.getD i 0 + if i = k then T else 0).length = n := by simp
    have hglt := HBL.out.lt
    generalize ((List.range n).map fun i => l.getD i 0 + if i = k then T else 0) = l2 at HWD HVV HTOP hlen2
    go_wp2_with fail
    rw [← hlen2]
    refine (of_any p (some ⟨g, 0, none⟩) l2.length l2 w3 (HI.out.below HB.out (by have := HI.out.lt; omega)) (by rw [hlen2]; exact HWD.out.more hglt) (by omega) (by rw [hlen2]; exact HTOP.out)).mono ?_
    rintro e w4 ⟨rfl, hb, hgr⟩
    rw [HVV.out] at hb
    have HBA := Lib.hid hb
    have HG := Lib.hid ((grown_of_below (HB.out.mono (by omega))).trans hgr)
    clear hb hgr
    go_wp2_with fail
    go_ret
    exact ⟨rfl, HBA.out, HG.out⟩
end Go.Proofs.Ytajhkbdaoakogaa.BigW
