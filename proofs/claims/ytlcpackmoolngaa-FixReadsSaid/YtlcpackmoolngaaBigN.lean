/- fourwatchbig: div, for every dividend and every divisor above 0. -/
import Derived.Test.YtlcpackmoolngaaBigK
namespace Go.Proofs.Ytlcpackmoolngaa.BigW
open Go.RowKit Go.Proofs.Ytlcpackmoolngaa.Mem Go.Proofs.Ytlcpackmoolngaa.BigLaw
set_option linter.unusedVariables false

theorem val_one {l : List Nat} (h : l.length = 1) : val l = l.getD 0 0 := by
  rw [val_le2 (by omega), getD_out (l := l) (i := 1) (by omega)]; omega
theorem trim_one (r : Nat) (hr : r < 4294967296) (w : World) : val ((List.range 1).map fun _ => r) = r := by
  rw [val_map]; show 0 + r * pw 0 = r; rw [pw_zero]; omega

set_option maxRecDepth 100000 in
set_option maxHeartbeats 4000000 in
theorem divLess_any (A A' : Option Addr) (c c' : Nat) (l l' : List Nat) (w : World) (h : Wd w w.heap.size A c l) (h' : Wd w w.heap.size A' c' l') (t : trimd l) (t' : trimd l') (hle : val l < val l') (hsz : l.length ≤ 1000) :
    Calls Try.prog 90 #[.slice A l.length c, .slice A' l'.length c'] w fun e w' => GaveQR w w' (val l / val l') (val l % val l') e := by
  have H := Lib.hid h
  have H' := Lib.hid h'
  have T := Lib.hid t
  have T' := Lib.hid t'
  have hl0 : ((l'.length : Int) == 0) = false := by
    rw [beq_eq_false_iff_ne]
    intro e
    rw [List.eq_nil_of_length_eq_zero (show l'.length = 0 by omega), val_nil] at hle
    omega
  have hsg : sgn (val l) (val l') < 0 := by unfold sgn; rw [if_pos hle]; omega
  have HQ := Lib.hid (Nat.div_eq_of_lt hle)
  have HR := Lib.hid (Nat.mod_eq_of_lt hle)
  clear h h' t t' hle
  go_enter Try.func90, Try.ntmps90
  go_wp2_with fail
  refine (cmp_any A A' c c' l l' _ w (Nat.le_refl _) H.out H'.out T.out T'.out).mono ?_
  rintro e w0 ⟨rfl, hb0⟩
  have H0 := Lib.hid ((H.out.below hb0).more hb0.size)
  generalize sgn (val l) (val l') = sg at hsg
  go_wp2_with fail
  refine (twin_any A c l _ w0 (Nat.le_refl _) H0.out (by omega)).mono ?_
  rintro e w1 ⟨A1, c1, rfl, hw, hb⟩
  have HW := Lib.hid hw
  clear hw
  go_wp2_with fail
  go_ret2
  exact ⟨none, 0, [], A1, c1, l, rfl, Wd.nil _ _, fun h => by simp at h, by rw [HQ.out]; rfl, HW.out, T.out, HR.out.symm, onward hb0 (Nat.le_refl _) hb⟩

set_option maxRecDepth 100000 in
set_option maxHeartbeats 4000000 in
theorem divOne_any (A A' : Option Addr) (c c' : Nat) (l l' : List Nat) (w : World) (h : Wd w w.heap.size A c l) (h' : Wd w w.heap.size A' c' l') (t : trimd l) (t' : trimd l') (hle : val l' ≤ val l) (hl : 3 ≤ l.length) (hl' : l'.length = 1) (hsz : l.length ≤ 1000) :
    Calls Try.prog 90 #[.slice A l.length c, .slice A' l'.length c'] w fun e w' => GaveQR w w' (val l / val l') (val l % val l') e := by
  have H := Lib.hid h
  have H' := Lib.hid h'
  have T := Lib.hid t
  have T' := Lib.hid t'
  have HL1 := Lib.hid hl'
  have hsg : ¬ sgn (val l) (val l') < 0 := by unfold sgn; rw [if_neg (by omega)]; split <;> omega
  have hd := t' (by omega)
  rw [hl'] at hd
  have HV := Lib.hid (val_one hl')
  have hds := getD_lt h'.small 0
  have hl2 : ¬ (l.length : Int) ≤ 2 := by omega
  clear h h' t t' hle
  have hd1 : 0 < l'.getD 0 0 := Nat.pos_of_ne_zero hd
  rw [HV.out, hl']
  obtain ⟨d, hD⟩ : ∃ d, l'.getD 0 0 = d := ⟨_, rfl⟩
  rw [hD] at hds hd1 ⊢
  have HD := Lib.hid hD
  clear hl' hd hD
  go_enter Try.func90, Try.ntmps90
  go_wp2_with fail
  rw [← HL1.out]
  refine (cmp_any A A' c c' l l' _ w (Nat.le_refl _) H.out H'.out T.out T'.out).mono ?_
  rintro e w0 ⟨rfl, hb0⟩
  rw [HL1.out]
  have H0 := Lib.hid ((H.out.below hb0).more hb0.size)
  have H0' := Lib.hid ((H'.out.below hb0).more hb0.size)
  generalize sgn (val l) (val l') = sg at hsg
  obtain ⟨b, o, rfl, _, hc⟩ := H0'.out.at_ (show 0 < l'.length by have := HL1.out; omega)
  rw [Nat.add_zero, HD.out] at hc
  go_wp2_with fail
  refine (small_any A c l d _ w0 (Nat.le_refl _) H0.out (by omega) hd1 hds).mono ?_
  rintro e w1 ⟨A1, c1, l1, rfl, hw1, ht1, hv1, hb1⟩
  have HW1 := Lib.hid hw1
  have HT1 := Lib.hid ht1
  have HV1 := Lib.hid hv1
  have HB1 := Lib.hid (onward hb0 (Nat.le_refl _) hb1)
  have hrl : val l % d < 4294967296 := Nat.lt_trans (Nat.mod_lt _ hd1) hds
  generalize hR : val l % d = r at hrl ⊢
  have HR := Lib.hid hR
  clear hw1 ht1 hv1 hR
  go_wp2_with fail
  have hbk : Blk (w1.alloc (.cells #[.int .u32 (r : Int)] 90)) w1.heap.size 90 (rowF .u32 1 fun _ => (r : Int)) := Blk.new rfl
  have HWR := Lib.hid (wd_of_blk (f := fun _ => r) hbk (by omega) (fun _ _ => hrl))
  have hT := trim_any _ _ _ _ _ HWR.out
  rw [List.length_map, List.length_range] at hT
  refine hT.mono ?_
  rintro e w2 ⟨ht, rfl⟩
  have hba : Below w1.heap.size w1 (w1.alloc (.cells #[.int .u32 (r : Int)] 90)) := (Below.refl _ _).alloc (Nat.le_refl _) _
  obtain ⟨A2, c2, l2, rfl, hw2, ht2, hv2, hb2⟩ := gave_of_trim (n := r) HWR.out (by simp) hba (trim_one r hrl w) ht
  have HW2 := Lib.hid hw2
  have HT2 := Lib.hid ht2
  have HV2 := Lib.hid (hv2.trans HR.out.symm)
  have HW1' := Lib.hid ((HW1.out.below hba).more hba.size)
  have HB2 := Lib.hid (onward HB1.out (Nat.le_refl _) hba)
  clear ht hw2 ht2 hv2 hb2 hba hbk
  go_wp2_with fail
  go_ret2
  exact ⟨A1, c1, l1, A2, c2, l2, rfl, HW1'.out, HT1.out, HV1.out, HW2.out, HT2.out, HV2.out, HB2.out⟩

theorem div_any (A A' : Option Addr) (c c' : Nat) (l l' : List Nat) (w : World) (h : Wd w w.heap.size A c l) (h' : Wd w w.heap.size A' c' l') (t : trimd l) (t' : trimd l') (hp : 0 < val l') (hsz : l.length ≤ 1000) :
    Calls Try.prog 90 #[.slice A l.length c, .slice A' l'.length c'] w fun e w' => GaveQR w w' (val l / val l') (val l % val l') e := by
  by_cases h1 : val l < val l'
  · exact divLess_any A A' c c' l l' w h h' t t' h1 hsz
  · by_cases h2 : l.length ≤ 2
    · exact divSmall_any A A' c c' l l' w h h' t t' hp h2
    · have h3 : 0 < l'.length := by
        rcases Nat.eq_zero_or_pos l'.length with h0 | h0
        · rw [List.eq_nil_of_length_eq_zero h0, val_nil] at hp; omega
        · exact h0
      by_cases h4 : l'.length = 1
      · exact divOne_any A A' c c' l l' w h h' t t' (by omega) (by omega) h4 hsz
      · exact divK_any A A' c c' l l' w h h' t t' (by omega) (by omega) (by omega) hsz
end Go.Proofs.Ytlcpackmoolngaa.BigW
