import Derived.Test.YtjfllpmiajkenaaGreatPk13
import Derived.Test.YtjfllpmiajkenaaGreatPk11
import Derived.Deep.RegionLaw
import Derived.Test.YtjfllpmiajkenaaGreatPk9
import Derived.Test.YtjfllpmiajkenaaGreatPk3
namespace Go.Proofs.YtjfllpmiajkenaaGreat.BigW
open Go.RowKit Go.Proofs.YtjfllpmiajkenaaGreat.Mem Go.Proofs.YtjfllpmiajkenaaGreat.BigLaw
set_option linter.unusedVariables false
theorem val_one {l : List Nat} (h : l.length = 1) : val l = l.getD 0 0 := by
  rw [val_le2 (by omega), getD_out (l := l) (i := 1) (by omega)]; omega
theorem trim_one (r : Nat) (hr : r < 4294967296) (w : World) : val ((List.range 1).map fun _ => r) = r := by
  rw [val_map]; show 0 + r * pw 0 = r; rw [pw_zero]; omega
set_option maxRecDepth 100000 in
set_option maxHeartbeats 4000000 in
theorem divLess_any (A A' : Option Addr) (c c' : Nat) (l l' : List Nat) (w : World) (h : Wd w w.heap.size A c l) (h' : Wd w w.heap.size A' c' l') (t : trimd l) (t' : trimd l') (hle : val l < val l') (hsz : l.length ≤ 1000) :
    Calls Tryz.prog 177 #[.slice A l.length c, .slice A' l'.length c'] w fun e w' => GaveQR w w' (val l / val l') (val l % val l') e := by
  have H := Lib.hid h
  have H' := Lib.hid h'
  have T := Lib.hid t
  have T' := Lib.hid t'
  have hl0 : ((l'.length : Int) == 0) = false := by
    rw [beq_eq_false_iff_ne]
    intro e
    rw [List.eq_nil_of_length_eq_zero (show l'.length = 0 by omega), val_nil] at hle
    omega
  have hsg : sgn (val l) (val l') < 0 := by unfold sgn; rw [if_pos hle]; omega
  have HQ := Lib.hid (Nat.div_eq_of_lt hle)
  have HR := Lib.hid (Nat.mod_eq_of_lt hle)
  clear h h' t t' hle
  go_enter Tryz.func177, Tryz.ntmps177
  go_wp2_with fail
  refine (cmp_any A A' c c' l l' _ w (Nat.le_refl _) H.out H'.out T.out T'.out).mono ?_
  rintro e w0 ⟨rfl, hb0⟩
  have H0 := Lib.hid ((H.out.below hb0).more hb0.size)
  generalize sgn (val l) (val l') = sg at hsg
  go_wp2_with fail
  refine (twin_any A c l _ w0 (Nat.le_refl _) H0.out (by omega)).mono ?_
  rintro e w1 ⟨A1, c1, rfl, hw, hb⟩
  have HW := Lib.hid hw
  clear hw
  go_wp2_with fail
  go_ret2
  exact ⟨none, 0, [], A1, c1, l, rfl, Wd.nil _ _, fun h => by simp at h, by rw [HQ.out]; rfl, HW.out, T.out, HR.out.symm, onward hb0 (Nat.le_refl _) hb⟩
set_option maxRecDepth 100000 in
set_option maxHeartbeats 4000000 in
theorem divOne_any (A A' : Option Addr) (c c' : Nat) (l l' : List Nat) (w : World) (h : Wd w w.heap.size A c l) (h' : Wd w w.heap.size A' c' l') (t : trimd l) (t' : trimd l') (hle : val l' ≤ val l) (hl : 3 ≤ l.length) (hl' : l'.length = 1) (hsz : l.length ≤ 1000) :
    Calls Tryz.prog 177 #[.slice A l.length c, .slice A' l'.length c'] w fun e w' => GaveQR w w' (val l / val l') (val l % val l') e := by
  have H := Lib.hid h
  have H' := Lib.hid h'
  have T := Lib.hid t
  have T' := Lib.hid t'
  have HL1 := Lib.hid hl'
  have hsg : ¬ sgn (val l) (val l') < 0 := by unfold sgn; rw [if_neg (by omega)]; split <;> omega
  have hd := t' (by omega)
  rw [hl'] at hd
  have HV := Lib.hid (val_one hl')
  have hds := getD_lt h'.small 0
  have hl2 : ¬ (l.length : Int) ≤ 2 := by omega
  clear h h' t t' hle
  have hd1 : 0 < l'.getD 0 0 := Nat.pos_of_ne_zero hd
  rw [HV.out, hl']
  obtain ⟨d, hD⟩ : ∃ d, l'.getD 0 0 = d := ⟨_, rfl⟩
  rw [hD] at hds hd1 ⊢
  have HD := Lib.hid hD
  clear hl' hd hD
  go_enter Tryz.func177, Tryz.ntmps177
  go_wp2_with fail
  rw [← HL1.out]
  refine (cmp_any A A' c c' l l' _ w (Nat.le_refl _) H.out H'.out T.out T'.out).mono ?_
  rintro e w0 ⟨rfl, hb0⟩
  rw [HL1.out]
  have H0 := Lib.hid ((H.out.below hb0).more hb0.size)
  have H0' := Lib.hid ((H'.out.below hb0).more hb0.size)
  generalize sgn (val l) (val l') = sg at hsg
  obtain ⟨b, o, rfl, _, hc⟩ := H0'.out.at_ (show 0 < l'.length by have := HL1.out; omega)
  rw [Nat.add_zero, HD.out] at hc
  go_wp2_with fail
  refine (small_any A c l d _ w0 (Nat.le_refl _) H0.out (by omega) hd1 hds).mono ?_
  rintro e w1 ⟨A1, c1, l1, rfl, hw1, ht1, hv1, hb1⟩
  have HW1 := Lib.hid hw1
  have HT1 := Lib.hid ht1
  have HV1 := Lib.hid hv1
  have HB1 := Lib.hid (onward hb0 (Nat.le_refl _) hb1)
  have hrl : val l % d < 4294967296 := Nat.lt_trans (Nat.mod_lt _ hd1) hds
  generalize hR : val l % d = r at hrl ⊢
  have HR := Lib.hid hR
  clear hw1 ht1 hv1 hR
  go_wp2_with fail
  have hbk : Blk (w1.alloc (.cells #[.int .u32 (r : Int)] 173)) w1.heap.size 173 (rowF .u32 1 fun _ => (r : Int)) := Blk.new rfl
  have HWR := Lib.hid (wd_of_blk (f := fun _ => r) hbk (by omega) (fun _ _ => hrl))
  have hT := trim_any _ _ _ _ _ HWR.out
  rw [List.length_map, List.length_range] at hT
  refine hT.mono ?_
  rintro e w2 ⟨ht, rfl⟩
  have hba : Below w1.heap.size w1 (w1.alloc (.cells #[.int .u32 (r : Int)] 173)) := (Below.refl _ _).alloc (Nat.le_refl _) _
  obtain ⟨A2, c2, l2, rfl, hw2, ht2, hv2, hb2⟩ := gave_of_trim (n := r) HWR.out (by simp) hba (trim_one r hrl w) ht
  have HW2 := Lib.hid hw2
  have HT2 := Lib.hid ht2
  have HV2 := Lib.hid (hv2.trans HR.out.symm)
  have HW1' := Lib.hid ((HW1.out.below hba).more hba.size)
  have HB2 := Lib.hid (onward HB1.out (Nat.le_refl _) hba)
  clear ht hw2 ht2 hv2 hb2 hba hbk
  go_wp2_with fail
  go_ret2
  exact ⟨A1, c1, l1, A2, c2, l2, rfl, HW1'.out, HT1.out, HV1.out, HW2.out, HT2.out, HV2.out, HB2.out⟩
theorem div_any (A A' : Option Addr) (c c' : Nat) (l l' : List Nat) (w : World) (h : Wd w w.heap.size A c l) (h' : Wd w w.heap.size A' c' l') (t : trimd l) (t' : trimd l') (hp : 0 < val l') (hsz : l.length ≤ 1000) :
    Calls Tryz.prog 177 #[.slice A l.length c, .slice A' l'.length c'] w fun e w' => GaveQR w w' (val l / val l') (val l % val l') e := by
  by_cases h1 : val l < val l'
  · exact divLess_any A A' c c' l l' w h h' t t' h1 hsz
  · by_cases h2 : l.length ≤ 2
    · exact divSmall_any A A' c c' l l' w h h' t t' hp h2
    · have h3 : 0 < l'.length := by
        rcases Nat.eq_zero_or_pos l'.length with h0 | h0
        · rw [List.eq_nil_of_length_eq_zero h0, val_nil] at hp; omega
        · exact h0
      by_cases h4 : l'.length = 1
      · exact divOne_any A A' c c' l l' w h h' t t' (by omega) (by omega) h4 hsz
      · exact divK_any A A' c c' l l' w h h' t t' (by omega) (by omega) (by omega) hsz
end Go.Proofs.YtjfllpmiajkenaaGreat.BigW
namespace Go.Proofs.YtjfllpmiajkenaaGreat.BigW
open Go.RowKit Go.Proofs.YtjfllpmiajkenaaGreat.Mem Go.Proofs.YtjfllpmiajkenaaGreat.BigLaw
set_option linter.unusedVariables false
set_option maxRecDepth 100000 in
set_option maxHeartbeats 8000000 in
theorem bigAdd_any (p px py : Nat) (X Y : Int) (w : World) (hp : IsInt w p) (hx : BigAt w px X) (hy : BigAt w py Y) (bx : X.natAbs < pw 100) (bY : Y.natAbs < pw 100) :
    Calls Tryz.prog 65 #[.pointer (some ⟨p, 0, none⟩), .pointer (some ⟨px, 0, none⟩), .pointer (some ⟨py, 0, none⟩)] w fun e w' => e = .returned (.pointer (some ⟨p, 0, none⟩)) ∧ BigAt w' p (X + Y) ∧ w.grownBy w' (some p) := by
  obtain ⟨A, c, l, x0, x1, xw, xt, xv⟩ := hx.parts
  obtain ⟨A', c', l', y0, y1, yw, yt, yv⟩ := hy.parts
  have HL := Lib.hid (len_of xt xv bx)
  have HL' := Lib.hid (len_of yt yv bY)
  have HXW := Lib.hid xw
  have HXT := Lib.hid xt
  have HXV := Lib.hid xv
  have HYW := Lib.hid yw
  have HYT := Lib.hid yt
  have HYV := Lib.hid yv
  have HP := Lib.hid hp
  clear xw xt xv yw yt yv hp hx hy bx bY
  go_enter Tryz.func65, Tryz.ntmps65
  go_wp2_with fail
  go_region_law (first
    | (go_simp; go_at_call 96; refine (sum_any _ _ A A' c c' l l' X Y _ HXW.out.drew HYW.out.drew HXT.out HYT.out HXV.out HYV.out (sg_self X) (sg_self Y) HL.out HL'.out).mono ?_; rintro e w1 ⟨s1, A1, c1, l1, rfl, hw1, ht1, hv1, hs1, hb1⟩)
    | (go_simp; go_at_call 95; refine (give_big p _ A1 l1 c1 _ (X + Y) (HP.out.drew.below hb1 HP.out.lt) hw1 ht1 hv1 (sign_of ht1 hv1 _ hs1)).mono ?_; rintro e w2 ⟨rfl, hz2, hg2⟩))
  all_goals
    have HZ := Lib.hid hz2
    clear hz2
    go_wp2_with fail
    go_ret
    exact ⟨rfl, HZ.out, (show w.grownBy w1 (some p) from ⟨hb1.os, hb1.tape, hb1.output, hb1.size, fun g hg _ => hb1.block g hg⟩).trans hg2⟩
end Go.Proofs.YtjfllpmiajkenaaGreat.BigW
namespace Go.Proofs.YtjfllpmiajkenaaGreat.BigW
open Go.RowKit Go.Proofs.YtjfllpmiajkenaaGreat.Mem Go.Proofs.YtjfllpmiajkenaaGreat.BigLaw
set_option linter.unusedVariables false
set_option maxRecDepth 100000 in
set_option maxHeartbeats 8000000 in
theorem bigSub_any (p px py : Nat) (X Y : Int) (w : World) (hp : IsInt w p) (hx : BigAt w px X) (hy : BigAt w py Y) (bx : X.natAbs < pw 100) (bY : Y.natAbs < pw 100) :
    Calls Tryz.prog 155 #[.pointer (some ⟨p, 0, none⟩), .pointer (some ⟨px, 0, none⟩), .pointer (some ⟨py, 0, none⟩)] w fun e w' => e = .returned (.pointer (some ⟨p, 0, none⟩)) ∧ BigAt w' p (X + -Y) ∧ w.grownBy w' (some p) := by
  obtain ⟨A, c, l, x0, x1, xw, xt, xv⟩ := hx.parts
  obtain ⟨A', c', l', y0, y1, yw, yt, yv⟩ := hy.parts
  have HL := Lib.hid (len_of xt xv bx)
  have HL' := Lib.hid (len_of yt yv bY)
  have HXW := Lib.hid xw
  have HXT := Lib.hid xt
  have HXV := Lib.hid xv
  have HYW := Lib.hid yw
  have HYT := Lib.hid yt
  have HYV := Lib.hid yv
  have HP := Lib.hid hp
  clear xw xt xv yw yt yv hp hx hy bx bY
  go_enter Tryz.func155, Tryz.ntmps155
  go_wp2_with fail
  go_region_law (first
    | (go_simp; go_at_call 96; refine (sum_any _ _ A A' c c' l l' X (-Y) _ HXW.out.drew HYW.out.drew HXT.out HYT.out HXV.out (HYV.out.trans (Int.natAbs_neg Y).symm) (sg_self X) (sg_self Y).neg HL.out HL'.out).mono ?_; rintro e w1 ⟨s1, A1, c1, l1, rfl, hw1, ht1, hv1, hs1, hb1⟩)
    | (go_simp; go_at_call 95; refine (give_big p _ A1 l1 c1 _ (X + -Y) (HP.out.drew.below hb1 HP.out.lt) hw1 ht1 hv1 (sign_of ht1 hv1 _ hs1)).mono ?_; rintro e w2 ⟨rfl, hz2, hg2⟩))
  all_goals
    have HZ := Lib.hid hz2
    clear hz2
    go_wp2_with fail
    go_ret
    exact ⟨rfl, HZ.out, (show w.grownBy w1 (some p) from ⟨hb1.os, hb1.tape, hb1.output, hb1.size, fun g hg _ => hb1.block g hg⟩).trans hg2⟩
end Go.Proofs.YtjfllpmiajkenaaGreat.BigW
namespace Go.Proofs.YtjfllpmiajkenaaGreat.BigW
open Go.RowKit Go.Proofs.YtjfllpmiajkenaaGreat.Mem Go.Proofs.YtjfllpmiajkenaaGreat.BigLaw
set_option linter.unusedVariables false
structure Grown2 (w w' : World) (z m : Nat) : Prop where
  os : w'.os = w.os
  tape : w'.tape = w.tape
  output : w'.output = w.output
  size : w.heap.size ≤ w'.heap.size
  block : ∀ k, k < w.heap.size → k ≠ z → k ≠ m → w'.heap[k]? = w.heap[k]?
theorem Grown2.of_fst {w w' : World} {z m : Nat} (h : w.grownBy w' (some z)) : Grown2 w w' z m := ⟨h.os, h.tape, h.output, h.size, fun k hk h1 _ => h.block k hk (fun e => h1 (by injection e))⟩
theorem Grown2.of_snd {w w' : World} {z m : Nat} (h : w.grownBy w' (some m)) : Grown2 w w' z m := ⟨h.os, h.tape, h.output, h.size, fun k hk _ h1 => h.block k hk (fun e => h1 (by injection e))⟩
theorem Grown2.of_below {w w' : World} {z m : Nat} (h : Below w.heap.size w w') : Grown2 w w' z m := ⟨h.os, h.tape, h.output, h.size, fun k hk _ _ => h.block k hk⟩
theorem Grown2.trans {a b c : World} {z m : Nat} (h : Grown2 a b z m) (k : Grown2 b c z m) : Grown2 a c z m :=
  ⟨k.os.trans h.os, k.tape.trans h.tape, k.output.trans h.output, Nat.le_trans h.size k.size, fun i hi h1 h2 => (k.block i (by have := h.size; omega) h1 h2).trans (h.block i hi h1 h2)⟩
theorem Grown2.fst {w w' : World} {z m : Nat} (h : Grown2 w w' z m) (hm : w.heap.size ≤ m) : w.grownBy w' (some z) := ⟨h.os, h.tape, h.output, h.size, fun k hk h1 => h.block k hk (fun e => h1 (by rw [e])) (by omega)⟩
theorem BigAt.grown2 {w w' : World} {p z m : Nat} {X : Int} (h : BigAt w p X) (hz : IsInt w z) (hm : IsInt w m) (hg : Grown2 w w' z m) (h1 : p ≠ z) (h2 : p ≠ m) : BigAt w' p X := by
  obtain ⟨A, c, l, hb, hw, hr⟩ := h
  refine ⟨A, c, l, (hg.block p hb.lt h1 h2).trans hb, ⟨hw.len, hw.cap, hw.none_, ⟨hw.rd.1, fun hp => ?_⟩, hw.small⟩, hr⟩
  obtain ⟨b, o, e, hbb, hc⟩ := hw.rd.2 hp
  refine ⟨b, o, e, by have := hg.size; omega, fun j u hu => ?_⟩
  rw [← hc j u hu]
  have h0 := hc 0 _ (wordsV_at hp)
  refine World.cell?_of_block (hg.block b hbb ?_ ?_)
  · intro e2; subst e2; exact hz.cell _ _ h0
  · intro e2; subst e2; exact hm.cell _ _ h0
set_option maxRecDepth 100000 in
set_option maxHeartbeats 8000000 in
theorem bigSet_any (p px : Nat) (X : Int) (w : World) (hp : IsInt w p) (hx : BigAt w px X) (bx : X.natAbs < pw 100) :
    Calls Tryz.prog 153 #[.pointer (some ⟨p, 0, none⟩), .pointer (some ⟨px, 0, none⟩)] w fun e w' => e = .returned (.pointer (some ⟨p, 0, none⟩)) ∧ BigAt w' p X ∧ w.grownBy w' (some p) := by
  obtain ⟨A, c, l, x0, x1, xw, xt, xv⟩ := hx.parts
  have HL := Lib.hid (len_of xt xv bx)
  have HXW := Lib.hid xw
  have HXT := Lib.hid xt
  have HXV := Lib.hid xv
  have HP := Lib.hid hp
  have HPX := Lib.hid hx.lt
  clear xw xt xv hp hx bx
  go_enter Tryz.func153, Tryz.ntmps153
  go_wp2_with fail
  go_region_law (first
    | (go_simp; go_at_call 176; refine (twin_any A c l _ _ (Nat.le_refl _) HXW.out.drew HL.out).mono ?_; rintro e w1 ⟨A1, c1, rfl, hw1, hb1⟩; have x0' := (below_cell hb1 px 0 HPX.out).trans x0)
    | (go_simp; go_at_call 95; refine (give_big p _ A1 l c1 _ X (HP.out.drew.below hb1 HP.out.lt) hw1 HXT.out HXV.out (sign_of HXT.out HXV.out _ (sg_self X))).mono ?_; rintro e w2 ⟨rfl, hz2, hg2⟩))
  all_goals
    have HZ := Lib.hid hz2
    clear hz2
    go_wp2_with fail
    go_ret
    exact ⟨rfl, HZ.out, (show w.grownBy w1 (some p) from ⟨hb1.os, hb1.tape, hb1.output, hb1.size, fun g hg _ => hb1.block g hg⟩).trans hg2⟩
theorem quo_sg (X Y : Int) (hY : 0 < Y) : Sg (decide (X < 0) != decide (Y < 0)) (X.tdiv Y) := by
  have e : decide (Y < 0) = false := by simp; omega
  rw [e]
  refine sg_mk ?_
  rcases Int.lt_or_le X 0 with h | h
  · have h0 : (-X).tdiv Y = -(X.tdiv Y) := Int.neg_tdiv _ _
    have h1 : 0 ≤ (-X).tdiv Y := Int.tdiv_nonneg (by omega) (by omega)
    by_cases h2 : X.tdiv Y = 0
    · exact .inl h2
    · exact .inr (.inl ⟨by simp [h], by omega⟩)
  · have h1 : 0 ≤ X.tdiv Y := Int.tdiv_nonneg (by omega) (by omega)
    by_cases h2 : X.tdiv Y = 0
    · exact .inl h2
    · exact .inr (.inr ⟨by simp; omega, by omega⟩)
theorem rem_sg (X Y : Int) (hY : 0 < Y) : Sg (decide (X < 0)) (X.tmod Y) := by
  refine sg_mk ?_
  rcases Int.lt_or_le X 0 with h | h
  · have h1 : (-X).tmod Y = -(X.tmod Y) := Int.neg_tmod _ _
    have h2 : 0 ≤ (-X).tmod Y := Int.tmod_nonneg _ (by omega)
    by_cases h3 : X.tmod Y = 0
    · exact .inl h3
    · exact .inr (.inl ⟨by simp [h], by omega⟩)
  · have h1 : 0 ≤ X.tmod Y := Int.tmod_nonneg _ (by omega)
    by_cases h3 : X.tmod Y = 0
    · exact .inl h3
    · exact .inr (.inr ⟨by simp; omega, by omega⟩)
set_option maxRecDepth 100000 in
set_option maxHeartbeats 8000000 in
theorem bigQuoRem_any (z px py m : Nat) (X Y : Int) (w : World) (hz : IsInt w z) (hm : IsInt w m) (hzm : z ≠ m) (hx : BigAt w px X) (hy : BigAt w py Y) (bx : X.natAbs < pw 100) (by_ : 0 < Y) :
    Calls Tryz.prog 154 #[.pointer (some ⟨z, 0, none⟩), .pointer (some ⟨px, 0, none⟩), .pointer (some ⟨py, 0, none⟩), .pointer (some ⟨m, 0, none⟩)] w fun e w' => e = .returned (.tuple #[.pointer (some ⟨z, 0, none⟩), .pointer (some ⟨m, 0, none⟩)]) ∧ BigAt w' z (X.tdiv Y) ∧ BigAt w' m (X.tmod Y) ∧ Grown2 w w' z m := by
  obtain ⟨A, c, l, x0, x1, xw, xt, xv⟩ := hx.parts
  obtain ⟨A', c', l', y0, y1, yw, yt, yv⟩ := hy.parts
  have HL := Lib.hid (show l.length ≤ 1000 from Nat.le_trans (length_le xt (k := 100) (by rw [xv]; exact bx)) (by omega))
  have HXW := Lib.hid xw
  have HXT := Lib.hid xt
  have HYW := Lib.hid yw
  have HYT := Lib.hid yt
  have HYP := Lib.hid (show 0 < val l' by omega)
  have HZ := Lib.hid hz
  have HM := Lib.hid hm
  have hpx := hx.lt
  have hpy := hy.lt
  have HQ := Lib.hid (show val l / val l' = (X.tdiv Y).natAbs by rw [Int.natAbs_tdiv, xv, yv]; rfl)
  have HR := Lib.hid (show val l % val l' = (X.tmod Y).natAbs by rw [Int.natAbs_tmod, xv, yv])
  have HQS := Lib.hid (quo_sg X Y by_)
  have HRS := Lib.hid (rem_sg X Y by_)
  generalize X.tdiv Y = Q at HQ HQS ⊢
  generalize X.tmod Y = R at HR HRS ⊢
  generalize decide (X < 0) = xn at x0 HQS HRS
  generalize decide (Y < 0) = yn at y0 HQS
  clear xw xt xv yw yt yv hz hm hx hy bx by_
  go_enter Tryz.func154, Tryz.ntmps154
  go_wp2_with fail
  go_quiet (fail)
  go_wp2_with fail
  have hb0 : Below w.heap.size w (w.drewN nq).drew := (below_drewN (Below.refl _ _) nq).drew
  have hk0 := below_cell hb0
  go_region_held3 (fun w' => w'.cell? ⟨px, 1, none⟩ = some (.slice A l.length c) ∧ w'.cell? ⟨py, 1, none⟩ = some (.slice A' l'.length c')) (go_keep) (first
    | (go_at_call 177; refine (div_any A A' c c' l l' _ ((HXW.out.below hb0).more hb0.size) ((HYW.out.below hb0).more hb0.size) HXT.out HYT.out HYP.out HL.out).mono ?_; rintro e w1 ⟨A1, c1, l1, A2, c2, l2, rfl, hw1, ht1, hv1, hw2, ht2, hv2, hbn⟩; have hb0 := onward hb0 (Nat.le_refl _) hbn; have hk0 := below_cell hb0))
  have HW1 := Lib.hid hw1
  have HT1 := Lib.hid ht1
  have HV1 := Lib.hid (hv1.trans HQ.out)
  have HW2 := Lib.hid hw2
  have HT2 := Lib.hid ht2
  have HV2 := Lib.hid (hv2.trans HR.out)
  clear hw1 ht1 hv1 hw2 ht2 hv2
  go_wp2_with fail
  refine (give_big z _ A1 l1 c1 _ Q (HZ.out.below hb0 HZ.out.lt) HW1.out HT1.out HV1.out (sign_of HT1.out HV1.out _ HQS.out)).mono ?_
  rintro e w2 ⟨rfl, hz2, hg2⟩
  have HZ2 := Lib.hid hz2
  have HM2 := Lib.hid ((HM.out.below hb0 HM.out.lt).grown hg2 (fun e => hzm (by injection e with e; exact e.symm)))
  have HW2' := Lib.hid ((HW2.out.grown (Nat.le_refl _) (HZ.out.below hb0 HZ.out.lt) hg2).more hg2.size)
  clear hz2
  go_wp2_with fail
  refine (give_big m _ A2 l2 c2 _ R HM2.out HW2'.out HT2.out HV2.out (sign_of HT2.out HV2.out _ HRS.out)).mono ?_
  rintro e w3 ⟨rfl, hz3, hg3⟩
  have HM3 := Lib.hid hz3
  have HZ3 := Lib.hid (HZ2.out.grown HM2.out hg3 hzm)
  clear hz3
  go_wp2_with fail
  go_ret2
  exact ⟨rfl, HZ3.out, HM3.out, (Grown2.of_below hb0).trans ((Grown2.of_fst hg2).trans (Grown2.of_snd hg3))⟩
theorem euclid (X Y : Int) (hY : 0 < Y) : (X.tmod Y < 0 → X / Y = X.tdiv Y - 1 ∧ X % Y = X.tmod Y + Y) ∧ (¬ X.tmod Y < 0 → X / Y = X.tdiv Y ∧ X % Y = X.tmod Y) := by
  have h1 : Y * X.tdiv Y + X.tmod Y = X := Int.mul_tdiv_add_tmod X Y
  have h2 : Y * (X / Y) + X % Y = X := Int.mul_ediv_add_emod X Y
  have h3 := Int.emod_nonneg X (show Y ≠ 0 by omega)
  have h4 := Int.emod_lt_of_pos X hY
  have h5 : X.tmod Y < Y := Int.tmod_lt_of_pos X hY
  have h6 : -Y < X.tmod Y := by
    have h7 : (-X).tmod Y = -(X.tmod Y) := Int.neg_tmod _ _
    have h8 : (-X).tmod Y < Y := Int.tmod_lt_of_pos _ hY
    omega
  generalize X.tdiv Y = q at h1 ⊢
  generalize X.tmod Y = r at h1 h5 h6 ⊢
  generalize X / Y = q' at h2 ⊢
  generalize X % Y = r' at h2 h3 h4 ⊢
  have h9 : Y * (q - q') = r' - r := by rw [Int.mul_sub]; omega
  constructor
  · intro hr
    have e : q - q' = 1 := by
      rcases Int.lt_trichotomy (q - q') 1 with h | h | h
      · have : Y * (q - q') ≤ Y * 0 := Int.mul_le_mul_of_nonneg_left (by omega) (by omega)
        omega
      · exact h
      · have : Y * 2 ≤ Y * (q - q') := Int.mul_le_mul_of_nonneg_left (by omega) (by omega)
        omega
    rw [e] at h9
    omega
  · intro hr
    have e : q - q' = 0 := by
      rcases Int.lt_trichotomy (q - q') 0 with h | h | h
      · have : Y * (q - q') ≤ Y * (-1) := Int.mul_le_mul_of_nonneg_left (by omega) (by omega)
        omega
      · exact h
      · have : Y * 1 ≤ Y * (q - q') := Int.mul_le_mul_of_nonneg_left (by omega) (by omega)
        omega
    rw [e] at h9
    omega
end Go.Proofs.YtjfllpmiajkenaaGreat.BigW
namespace Go.Proofs.YtjfllpmiajkenaaGreat.BigW
open Go.RowKit Go.Proofs.YtjfllpmiajkenaaGreat.Mem Go.Proofs.YtjfllpmiajkenaaGreat.BigLaw
set_option linter.unusedVariables false
theorem pw_small {X : Int} (h : X.natAbs < 340282366920938463463374607431768211456) : X.natAbs < pw 100 := by
  have h1 : pw 4 ≤ pw 100 := pw_le (by omega)
  have h2 : pw 4 = 340282366920938463463374607431768211456 := rfl
  omega
theorem BigAt.neg0 {w : World} {p : Nat} {X : Int} (h : BigAt w p X) : w.cell? ⟨p, 0, none⟩ = some (.bool (decide (X < 0))) := by
  obtain ⟨A, c, l, x0, _⟩ := h.parts
  exact x0
theorem IsInt.grown2 {w w' : World} {p z m : Nat} (h : IsInt w p) (hg : Grown2 w w' z m) (h1 : p ≠ z) (h2 : p ≠ m) : IsInt w' p := by
  obtain ⟨s, A, n, c, hb⟩ := h
  exact ⟨s, A, n, c, (hg.block p hb.lt h1 h2).trans hb⟩
theorem bigDivMod_any (z px py m : Nat) (X Y : Int) (w : World) (hz : IsInt w z) (hm : IsInt w m) (hzm : z ≠ m) (hx : BigAt w px X) (hy : BigAt w py Y) (bx : X.natAbs < pw 100) (hY : 0 < Y) (bY : Y.natAbs < pw 100) :
    Calls Tryz.prog 132 #[.pointer (some ⟨z, 0, none⟩), .pointer (some ⟨px, 0, none⟩), .pointer (some ⟨py, 0, none⟩), .pointer (some ⟨m, 0, none⟩)] w fun e w' => e = .returned (.tuple #[.pointer (some ⟨z, 0, none⟩), .pointer (some ⟨m, 0, none⟩)]) ∧ BigAt w' z (X / Y) ∧ BigAt w' m (X % Y) ∧ Grown2 w w' z m := by
  have HZ := Lib.hid hz
  have HM := Lib.hid hm
  have HX := Lib.hid hx
  have HY := Lib.hid hy
  have BX := Lib.hid bx
  have BY := Lib.hid bY
  have HP := Lib.hid hY
  have hzl := hz.lt
  have hml := hm.lt
  have HI := Lib.hid (isInt_new w)
  have HE := Lib.hid (euclid X Y hY)
  clear hz hm hx hy bx bY hY
  go_enter Tryz.func132, Tryz.ntmps132
  go_wp2_with fail
  have hba : Below w.heap.size w (w.alloc (.cells #[.bool false, .slice none 0 0] 149)) := (Below.refl _ _).alloc (Nat.le_refl _) _
  refine (bigSet_any w.heap.size py Y _ HI.out (HY.out.below hba) BY.out).mono ?_
  rintro e w1 ⟨rfl, hd1, hg1⟩
  have HD1 := Lib.hid hd1
  have hb1 : Below w.heap.size w w1 := below_grown hba (Nat.le_refl _) hg1 (fun g e => by injection e with e; omega)
  have HB1 := Lib.hid hb1
  clear hd1 hg1 hba
  go_wp2_with fail
  refine (bigQuoRem_any z px py m X Y w1 (HZ.out.below HB1.out HZ.out.lt) (HM.out.below HB1.out HM.out.lt) hzm (HX.out.below HB1.out) (HY.out.below HB1.out) BX.out HP.out).mono ?_
  rintro e w2 ⟨rfl, hq2, hr2, hg2⟩
  have HG2 := Lib.hid ((Grown2.of_below (z := z) (m := m) HB1.out).trans hg2)
  have HD2 := Lib.hid (HD1.out.grown2 (HZ.out.below HB1.out HZ.out.lt) (HM.out.below HB1.out HM.out.lt) hg2 (by omega) (by omega))
  have HQ2 := Lib.hid hq2
  have HR2 := Lib.hid hr2
  have c1 := hr2.neg0
  have c2 := HD2.out.neg0
  rw [decide_eq_false (by have := HP.out; omega)] at c2
  clear hq2 hr2 hg2 hb1
  by_cases hn : X.tmod Y < 0
  · have HE1 := Lib.hid (HE.out.1 hn)
    have bq : (X.tdiv Y).natAbs < pw 100 := by
      rw [Int.natAbs_tdiv]
      exact Nat.lt_of_le_of_lt (Nat.div_le_self X.natAbs Y.natAbs) BX.out
    have br : (X.tmod Y).natAbs < pw 100 := by
      rw [Int.natAbs_tmod]
      exact Nat.lt_of_le_of_lt (Nat.mod_le X.natAbs Y.natAbs) BX.out
    have BQ := Lib.hid bq
    have BR := Lib.hid br
    rw [decide_eq_true hn] at c1
    clear hn bq br
    generalize X.tdiv Y = Q at HQ2 HE1 BQ
    generalize X.tmod Y = R at HR2 HE1 BR
    go_wp2_with fail
    refine (newInt_any 1 w2 (by omega)).mono ?_
    rintro e w3 ⟨p3, rfl, hp3, hz3, hb3⟩
    have hs2 := HG2.out.size
    have HQ3 := Lib.hid (HQ2.out.below hb3)
    have HR3 := Lib.hid (HR2.out.below hb3)
    have HD3 := Lib.hid (HD2.out.below hb3)
    have HO3 := Lib.hid hz3
    have HB3 := Lib.hid hb3
    clear hz3 c1 c2
    go_wp2_with fail
    refine (bigSub_any z z p3 Q 1 w3 HQ3.out.isInt HQ3.out HO3.out BQ.out (pw_small (by omega))).mono ?_
    rintro e w4 ⟨rfl, hz4, hg4⟩
    have HQ4 := Lib.hid hz4
    have HR4 := Lib.hid (HR3.out.grown HQ3.out.isInt hg4 (fun e => hzm e.symm))
    have HD4 := Lib.hid (HD3.out.grown HQ3.out.isInt hg4 (by omega))
    have HG4 := Lib.hid hg4
    clear hz4 hg4
    go_wp2_with fail
    refine (bigAdd_any m m w.heap.size R Y w4 HR4.out.isInt HR4.out HD4.out BR.out BY.out).mono ?_
    rintro e w5 ⟨rfl, hz5, hg5⟩
    have HR5 := Lib.hid hz5
    have HQ5 := Lib.hid (HQ4.out.grown HR4.out.isInt hg5 hzm)
    have HG5 := Lib.hid hg5
    clear hz5 hg5
    go_wp2_with fail
    go_ret2
    refine ⟨rfl, ?_, ?_, (HG2.out.trans (Grown2.of_below HB3.out)).trans ((Grown2.of_fst HG4.out).trans (Grown2.of_snd HG5.out))⟩
    · rw [HE1.out.1]; exact HQ5.out
    · rw [HE1.out.2]; exact HR5.out
  · have HE1 := Lib.hid (HE.out.2 (by omega))
    rw [decide_eq_false hn] at c1
    clear hn
    generalize X.tdiv Y = Q at HQ2 HE1
    generalize X.tmod Y = R at HR2 HE1
    go_wp2_with fail
    go_ret2
    refine ⟨rfl, ?_, ?_, HG2.out⟩
    · rw [HE1.out.1]; exact HQ2.out
    · rw [HE1.out.2]; exact HR2.out
theorem bigDiv_any (z px py : Nat) (X Y : Int) (w : World) (hz : IsInt w z) (hx : BigAt w px X) (hy : BigAt w py Y) (bx : X.natAbs < pw 100) (hY : 0 < Y) (bY : Y.natAbs < pw 100) :
    Calls Tryz.prog 97 #[.pointer (some ⟨z, 0, none⟩), .pointer (some ⟨px, 0, none⟩), .pointer (some ⟨py, 0, none⟩)] w fun e w' => e = .returned (.pointer (some ⟨z, 0, none⟩)) ∧ BigAt w' z (X / Y) ∧ w.grownBy w' (some z) := by
  have hzl := hz.lt
  have HZ := Lib.hid (hz.below ((Below.refl _ _).alloc (Nat.le_refl _) (.cells #[.bool false, .slice none 0 0] 149)) hz.lt)
  have HX := Lib.hid (hx.alloc (.cells #[.bool false, .slice none 0 0] 149))
  have HY := Lib.hid (hy.alloc (.cells #[.bool false, .slice none 0 0] 149))
  have BX := Lib.hid bx
  have BY := Lib.hid bY
  have HP := Lib.hid hY
  have HI := Lib.hid (isInt_new w)
  clear hz hx hy bx bY hY
  go_enter Tryz.func97, Tryz.ntmps97
  go_wp2_with fail
  refine (bigDivMod_any z px py w.heap.size X Y _ HZ.out HI.out (by omega) HX.out HY.out BX.out HP.out BY.out).mono ?_
  rintro e w1 ⟨rfl, hq, hr, hg⟩
  have HQ := Lib.hid hq
  have HG := Lib.hid hg
  clear hq hr hg
  go_wp2_with fail
  go_ret
  exact ⟨rfl, HQ.out, ((Grown2.of_below ((Below.refl _ _).alloc (Nat.le_refl _) _)).trans HG.out).fst (Nat.le_refl _)⟩
theorem down_any (px py : Nat) (X Y : Int) (w : World) (hx : BigAt w px X) (hy : BigAt w py Y) (bx : X.natAbs < pw 100) (hY : 0 < Y) (bY : Y.natAbs < pw 100) :
    Calls Tryz.prog 66 #[.pointer (some ⟨px, 0, none⟩), .pointer (some ⟨py, 0, none⟩)] w fun e w' => NewBig w w' (X / Y) e := by
  have HX := Lib.hid (hx.alloc (.cells #[.bool false, .slice none 0 0] 149))
  have HY := Lib.hid (hy.alloc (.cells #[.bool false, .slice none 0 0] 149))
  have BX := Lib.hid bx
  have BY := Lib.hid bY
  have HP := Lib.hid hY
  have HI := Lib.hid (isInt_new w)
  clear hx hy bx bY hY
  go_enter Tryz.func66, Tryz.ntmps66
  go_wp2_with fail
  refine (bigDiv_any w.heap.size px py X Y _ HI.out HX.out HY.out BX.out HP.out BY.out).mono ?_
  rintro e w1 ⟨rfl, hq, hg⟩
  have HQ := Lib.hid hq
  have HG := Lib.hid hg
  clear hq hg
  go_wp2_with fail
  go_ret
  exact ⟨w.heap.size, rfl, Nat.le_refl _, HQ.out, below_grown ((Below.refl _ _).alloc (Nat.le_refl _) _) (Nat.le_refl _) HG.out (fun g e => by injection e with e; omega)⟩
end Go.Proofs.YtjfllpmiajkenaaGreat.BigW
namespace Go.Proofs.YtjfllpmiajkenaaGreat.Md
open Go.RowKit Go.Proofs.YtjfllpmiajkenaaGreat.Mem Go.Proofs.YtjfllpmiajkenaaGreat.Ms Go.Proofs.YtjfllpmiajkenaaGreat.BigW Go.Proofs.YtjfllpmiajkenaaGreat.BigLaw
set_option linter.unusedVariables false
set_option maxHeartbeats 400000 in
theorem half_any (a b : Int) (w : World) (ha : -9223372036854775808 ≤ a ∧ a ≤ 9223372036854775807) (hb : -9223372036854775808 ≤ b ∧ b ≤ 9223372036854775807) :
    Calls Tryz.prog 88 #[.int .i64 a, .int .i64 b] w fun e w' => e = .returned (.int .i64 ((a + b) / 2)) ∧ w = w' := by
  have H := Lib.hid (half_eq a b ha hb)
  have h2 := (and_xor a b ha hb).1
  have h3 := (and_xor a b ha hb).2.1
  have h4 := (and_xor a b ha hb).2.2
  obtain ⟨p, hp⟩ : ∃ p, bits .and .i64 a b = p := ⟨_, rfl⟩
  obtain ⟨q, hq⟩ : ∃ q, bits .xor .i64 a b = q := ⟨_, rfl⟩
  rw [hp, hq] at H
  rw [hp, hq] at h2
  rw [hp] at h3
  rw [hq] at h4
  obtain ⟨s, hs⟩ : ∃ s, (a + b) / 2 = s := ⟨_, rfl⟩
  rw [hs] at H ⊢
  have hs1 : -9223372036854775808 ≤ s := by omega
  have hs2 : s ≤ 9223372036854775807 := by omega
  have hr1 : -9223372036854775808 ≤ p + q / 2 := by rw [H.out]; exact hs1
  have hr2 : p + q / 2 ≤ 9223372036854775807 := by rw [H.out]; exact hs2
  clear h2 hs ha hb
  go_enter Tryz.func88, Tryz.ntmps88
  go_wp2_with fail
  go_ret
  exact ⟨ret_int H.out, rfl⟩
theorem find_step {p : Int → Bool} {zs : List Int} {i : Nat} (h : i < zs.length) (h0 : (zs.take i).find? p = none) (hp : p zs[i] = false) : (zs.take (i + 1)).find? p = none := by
  rw [List.take_add_one, List.getElem?_eq_getElem h, List.find?_append, h0]
  simp [hp]
theorem find_hit {p : Int → Bool} {zs : List Int} {i : Nat} (h : i < zs.length) (h0 : (zs.take i).find? p = none) (hp : p zs[i] = true) : (zs.find? p).getD 0 = zs[i] := by
  have e : zs = zs.take i ++ zs.drop i := (List.take_append_drop i zs).symm
  have e2 : zs.find? p = ((zs.take i).find? p).or ((zs.drop i).find? p) := by
    conv => lhs; rw [e]
    exact List.find?_append
  rw [e2, h0, List.drop_eq_getElem_cons h, List.find?_cons, hp]
  rfl
theorem less_step {zs : List Int} {j : Nat} (h : j < zs.length) (v : Int) : lessN (zs.take (j + 1)) v = lessN (zs.take j) v + (if zs[j] < v then 1 else 0) := by
  unfold lessN
  rw [List.take_add_one, List.getElem?_eq_getElem h, List.countP_append]
  simp [List.countP_cons]
theorem same_step {zs : List Int} {j : Nat} (h : j < zs.length) (v : Int) : sameN (zs.take (j + 1)) v = sameN (zs.take j) v + (if zs[j] = v then 1 else 0) := by
  unfold sameN
  rw [List.take_add_one, List.getElem?_eq_getElem h, List.countP_append]
  simp [List.countP_cons]
theorem less_le (zs : List Int) (v : Int) : lessN zs v ≤ zs.length := List.countP_le_length
theorem same_le (zs : List Int) (v : Int) : sameN zs v ≤ zs.length := List.countP_le_length
set_option maxHeartbeats 2000000 in
theorem rank_any (A : Option Addr) (c : Nat) (zs : List Int) (k : Nat) (B : Nat) (w : World) (hl : zs.length ≤ 1000000) (hk : k ≤ 1000000) (hr : Rd w B 1 A zs.length (intsV zs)) :
    Calls Tryz.prog 64 #[.slice A zs.length c, .int .i64 (k : Nat)] w fun e w' => e = .returned (.int .i64 (rankOf zs k)) ∧ w = w' := by
  have HR := Lib.hid hr
  have hk0 : (0 : Int) ≤ (k : Int) := by omega
  have hk1 : (k : Int) ≤ 1000000 := by omega
  clear hr
  go_enter Tryz.func64, Tryz.ntmps64
  go_wp2_with fail
  go_loop [13] (fun iv => ∃ i : Nat, i ≤ zs.length ∧ iv = .int .i64 i ∧ (zs.take i).find? (isRank zs k) = none) (fun iv => zs.length - (intOf iv).toNat)
  case atStart => exact ⟨0, by omega, rfl, rfl⟩
  case round =>
    obtain ⟨i, hi, rfl, hnone⟩ := hrel
    have HN := Lib.hid hnone
    clear hnone
    by_cases hlt : i < zs.length
    · obtain ⟨b, o, u, rfl, hbB, hu, hcell⟩ := HR.out.at hlt
      rw [intsV_at zs i hlt] at hu
      obtain rfl := Option.some.inj hu
      have HH := Lib.hid (fun h => find_hit (p := isRank zs k) hlt HN.out h)
      have HM := Lib.hid (fun h => find_step (p := isRank zs k) hlt HN.out h)
      have HI := Lib.hid (show isRank zs k zs[i] = decide (lessN zs zs[i] ≤ k ∧ k < lessN zs zs[i] + sameN zs zs[i]) from rfl)
      clear hu
      generalize zs[i] = v at *
      have hl0 : (0 : Int) ≤ (i : Int) := by omega
      have hl1 : (i : Int) < (zs.length : Int) := by omega
      go_wp2_with fail
      go_loop [7, 8, 19] (fun lv sv jv => ∃ j : Nat, j ≤ zs.length ∧ jv = .int .i64 j ∧ lv = .int .i64 (lessN (zs.take j) v : Nat) ∧ sv = .int .i64 (sameN (zs.take j) v : Nat)) (fun _ _ jv => zs.length - (intOf jv).toNat)
      case atStart => exact ⟨0, by omega, rfl, rfl, rfl⟩
      case round =>
        obtain ⟨j, hj, rfl, rfl, rfl⟩ := hrel
        have B1 := less_le (zs.take j) v
        have B2 := same_le (zs.take j) v
        rw [List.length_take] at B1 B2
        by_cases hjl : j < zs.length
        · obtain ⟨b', o', u', e', hbB', hu', hcell'⟩ := HR.out.at hjl
          cases e'
          rw [intsV_at zs j hjl] at hu'
          obtain rfl := Option.some.inj hu'
          have HS1 := Lib.hid (less_step hjl v)
          have HS2 := Lib.hid (same_step hjl v)
          clear hu'
          generalize zs[j] = x at *
          generalize lessN (zs.take j) v = L at *
          generalize sameN (zs.take j) v = S at *
          have m0 : (0 : Int) ≤ (j : Int) := by omega
          have m1 : (j : Int) < (zs.length : Int) := by omega
          have m2 : (L : Int) ≤ 1000000 := by omega
          have m3 : (S : Int) ≤ 1000000 := by omega
          by_cases c1 : x < v
          · have c2 : (x == v) = false := beq_eq_false_iff_ne.2 (by omega)
            go_wp2_with fail
            exact ⟨⟨j + 1, by omega, by go_num, by rw [HS1.out, if_pos (by assumption)]; go_num, by rw [HS2.out, if_neg (by omega), Nat.add_zero]⟩, by simp [intOf]; omega⟩
          · by_cases c3 : x = v
            · have c2 : (x == v) = true := beq_iff_eq.2 c3
              have C3 := Lib.hid c3
              have c4 : v ≤ x := by omega
              clear c3 c1
              go_wp2_with fail
              exact ⟨⟨j + 1, by omega, by go_num, by rw [HS1.out, if_neg (by omega), Nat.add_zero], by rw [HS2.out, if_pos C3.out]; go_num⟩, by simp [intOf]; omega⟩
            · have c2 : (x == v) = false := beq_eq_false_iff_ne.2 c3
              have c4 : v ≤ x := by omega
              have C3 := Lib.hid c3
              clear c3 c1
              go_wp2_with fail
              exact ⟨⟨j + 1, by omega, by go_num, by rw [HS1.out, if_neg (by omega), Nat.add_zero], by rw [HS2.out, if_neg C3.out, Nat.add_zero]⟩, by simp [intOf]; omega⟩
        · obtain rfl : j = zs.length := by omega
          rw [List.take_length] at B1 B2 ⊢
          generalize lessN zs v = L at *
          generalize sameN zs v = S at *
          clear hjl
          have m2 : (L : Int) ≤ 1000000 := by omega
          have m3 : (S : Int) ≤ 1000000 := by omega
          have m4 : (0 : Int) ≤ (L : Int) := by omega
          have m5 : (0 : Int) ≤ (S : Int) := by omega
          by_cases c1 : (L : Int) ≤ (k : Int)
          · by_cases c2 : (k : Int) < (L : Int) + (S : Int)
            · have hv := HH.out (by rw [HI.out]; exact decide_eq_true ⟨by omega, by omega⟩)
              go_wp2_with fail
              go_ret
              exact ⟨ret_int hv.symm, rfl⟩
            · have hv := Lib.hid (HM.out (by rw [HI.out]; exact decide_eq_false (by omega)))
              have c3 : (L : Int) + (S : Int) ≤ (k : Int) := by omega
              clear c2
              go_wp2_with fail
              exact ⟨⟨i + 1, by omega, by go_num, hv.out⟩, by simp [intOf]; omega⟩
          · have hv := Lib.hid (HM.out (by rw [HI.out]; exact decide_eq_false (by omega)))
            have c3 : (k : Int) < (L : Int) := by omega
            clear c1
            go_wp2_with fail
            exact ⟨⟨i + 1, by omega, by go_num, hv.out⟩, by simp [intOf]; omega⟩
    · obtain rfl : i = zs.length := by omega
      clear hlt
      go_wp2_with fail
      go_ret
      refine ⟨ret_int ?_, rfl⟩
      have h := HN.out
      rw [List.take_length] at h
      unfold rankOf
      rw [h]
      rfl
theorem in_i64 {l : List Int} (ho : ∀ z ∈ l, -9223372036854775808 ≤ z ∧ z ≤ 9223372036854775807) {k : Nat} (hk : k < l.length) : -9223372036854775808 ≤ rankOf l k ∧ rankOf l k ≤ 9223372036854775807 := by
  rw [rankOf_eq l hk]; exact ho _ (srt_mem hk)
set_option maxHeartbeats 1000000 in
theorem refmid_any (A : Option Addr) (c : Nat) (zs : List Int) (B : Nat) (w : World) (hB : B ≤ w.heap.size) (hl : zs.length ≤ 140737488355328) (ho : ∀ z ∈ zs, -9223372036854775808 ≤ z ∧ z ≤ 9223372036854775807) (hr : Rd w B 1 A zs.length (intsV zs)) :
    Calls Tryz.prog 34 #[.slice A zs.length c] w fun e w' => e = .returned (.tuple #[.int .i64 (midZ zs).1, .int .i64 (midZ zs).2]) ∧ Below w.heap.size w w' := by
  have HR := Lib.hid hr
  have HO := Lib.hid ho
  have HZ := Lib.hid (show midZ zs = if zs.length = 0 ∨ 64 < zs.length then (0, 8) else (midOf zs, 0) from rfl)
  clear hr ho
  by_cases h0 : zs.length < 1
  · have hz := HZ.out.trans (if_pos (.inl (by omega)))
    have h0' : (zs.length : Int) < 1 := by omega
    have HZ2 := Lib.hid hz
    clear hz HZ h0
    go_enter Tryz.func34, Tryz.ntmps34
    go_wp2_with fail
    go_ret2
    exact ⟨by rw [HZ2.out]; rfl, Below.refl _ _⟩
  by_cases h1 : 64 < zs.length
  · have hz := HZ.out.trans (if_pos (.inr h1))
    have h0' : (1 : Int) ≤ (zs.length : Int) := by omega
    have h1' : (64 : Int) < (zs.length : Int) := by omega
    have HZ2 := Lib.hid hz
    clear hz HZ h0 h1
    go_enter Tryz.func34, Tryz.ntmps34
    go_wp2_with fail
    go_ret2
    exact ⟨by rw [HZ2.out]; rfl, Below.refl _ _⟩
  have HZ2 := Lib.hid (HZ.out.trans (if_neg (by omega)))
  have h0' : (1 : Int) ≤ (zs.length : Int) := by omega
  have h1' : (zs.length : Int) ≤ 64 := by omega
  obtain ⟨k, hk⟩ : ∃ k : Nat, (zs.length - 1) / 3 = k := ⟨_, rfl⟩
  obtain ⟨q, hq⟩ : ∃ q : Nat, zs.length - 1 - k = q := ⟨_, rfl⟩
  have e1 : ((zs.length : Int) - 1) / 3 = (k : Int) := by omega
  have e2 : (zs.length : Int) - 1 - (k : Int) = (q : Int) := by omega
  have hk1 : k < zs.length := by omega
  have hq1 : q < zs.length := by omega
  have HM := Lib.hid (show midOf zs = (rankOf zs k + rankOf zs q) / 2 by rw [rankOf_eq zs hk1, rankOf_eq zs hq1, ← hq, ← hk]; rfl)
  have C1 := Lib.hid (fun v => fun (hv : Below w.heap.size w v) => rank_any A c zs k B v (by omega) (by omega) (HR.out.below (hv.mono hB)))
  have C2 := Lib.hid (fun v => fun (hv : Below w.heap.size w v) => rank_any A c zs q B v (by omega) (by omega) (HR.out.below (hv.mono hB)))
  have X1 := Lib.hid (in_i64 HO.out hk1)
  have X2 := Lib.hid (in_i64 HO.out hq1)
  generalize rankOf zs k = x at *
  generalize rankOf zs q = y at *
  obtain ⟨m, hm⟩ : ∃ m, (x + y) / 2 = m := ⟨_, rfl⟩
  have X3 := Lib.hid (show -9223372036854775808 ≤ m ∧ m ≤ 9223372036854775807 by have := X1.out; have := X2.out; omega)
  have HMM := Lib.hid hm
  have XK := Lib.hid (show k < zs.length ∧ q < zs.length from ⟨hk1, hq1⟩)
  clear hk hq h0 h1 hm hk1 hq1 HZ
  go_enter Tryz.func34, Tryz.ntmps34
  go_wp2_with fail
  refine (C1.out _ (Below.refl _ _)).mono ?_
  rintro e w' ⟨rfl, rfl⟩
  go_wp2_with fail
  refine (whole_any x _ X1.out).mono ?_
  rintro e w1 ⟨p1, rfl, hp1, hz1, hb1⟩
  have HZ1 := Lib.hid hz1
  have HB := Lib.hid hb1
  clear hz1 hb1
  go_wp2_with fail
  refine (C2.out _ HB.out).mono ?_
  rintro e w' ⟨rfl, rfl⟩
  go_wp2_with fail
  refine (whole_any y _ X2.out).mono ?_
  rintro e w2 ⟨p2, rfl, hp2, hz2, hb2⟩
  have HZ2' := Lib.hid hz2
  have HZ1 := Lib.hid (HZ1.out.below hb2)
  have HB := Lib.hid (onward HB.out (Nat.le_refl _) hb2)
  clear hz2 hb2
  go_wp2_with fail
  refine (bigAdd_any p1 p1 p2 x y _ HZ1.out.isInt HZ1.out HZ2'.out (pw_small (by have := X1.out; omega)) (pw_small (by have := X2.out; omega))).mono ?_
  rintro e w3 ⟨rfl, hz3, hg3⟩
  have HZ3 := Lib.hid hz3
  have HB := Lib.hid (below_grown HB.out (Nat.le_refl _) hg3 (fun g e => by injection e with e; omega))
  clear hz3 hg3
  go_wp2_with fail
  refine (whole_any 2 _ (by omega)).mono ?_
  rintro e w4 ⟨p4, rfl, hp4, hz4, hb4⟩
  have HZ4 := Lib.hid hz4
  have HZ3 := Lib.hid (HZ3.out.below hb4)
  have HB := Lib.hid (onward HB.out (Nat.le_refl _) hb4)
  clear hz4 hb4
  go_wp2_with fail
  refine (down_any p1 p4 (x + y) 2 _ HZ3.out HZ4.out (pw_small (by have := X1.out; have := X2.out; omega)) (by omega) (pw_small (by omega))).mono ?_
  rintro e w5 ⟨p5, rfl, hp5, hz5, hb5⟩
  rw [HMM.out] at hz5
  have HZ5 := Lib.hid hz5
  have HB := Lib.hid (onward HB.out (Nat.le_refl _) hb5)
  clear hz5 hb5
  go_wp2_with fail
  refine (bigInt64_any p5 m _ HZ5.out X3.out).mono ?_
  rintro e w6 ⟨rfl, rfl⟩
  go_wp2_with fail
  go_ret2
  exact ⟨by rw [HZ2.out, HM.out, HMM.out]; rfl, HB.out⟩
end Go.Proofs.YtjfllpmiajkenaaGreat.Md
