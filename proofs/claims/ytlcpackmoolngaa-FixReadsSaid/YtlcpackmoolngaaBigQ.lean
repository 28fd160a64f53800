/- fourwatchbig.Int: Set, QuoRem, DivMod, Div; the reference's power and down. -/
import Derived.Test.YtlcpackmoolngaaBigN
import Derived.Test.YtlcpackmoolngaaBigAdd
import Derived.Test.YtlcpackmoolngaaBigSub
namespace Go.Proofs.Ytlcpackmoolngaa.BigW
open Go.RowKit Go.Proofs.Ytlcpackmoolngaa.Mem Go.Proofs.Ytlcpackmoolngaa.BigLaw
set_option linter.unusedVariables false

/-- only the blocks z and m may have changed -/
structure Grown2 (w w' : World) (z m : Nat) : Prop where
  os : w'.os = w.os
  tape : w'.tape = w.tape
  output : w'.output = w.output
  size : w.heap.size ≤ w'.heap.size
  block : ∀ k, k < w.heap.size → k ≠ z → k ≠ m → w'.heap[k]? = w.heap[k]?
theorem Grown2.of_fst {w w' : World} {z m : Nat} (h : w.grownBy w' (some z)) : Grown2 w w' z m := ⟨h.os, h.tape, h.output, h.size, fun k hk h1 _ => h.block k hk (fun e => h1 (by injection e))⟩
theorem Grown2.of_snd {w w' : World} {z m : Nat} (h : w.grownBy w' (some m)) : Grown2 w w' z m := ⟨h.os, h.tape, h.output, h.size, fun k hk _ h1 => h.block k hk (fun e => h1 (by injection e))⟩
theorem Grown2.of_below {w w' : World} {z m : Nat} (h : Below w.heap.size w w') : Grown2 w w' z m := ⟨h.os, h.tape, h.output, h.size, fun k hk _ _ => h.block k hk⟩
theorem Grown2.trans {a b c : World} {z m : Nat} (h : Grown2 a b z m) (k : Grown2 b c z m) : Grown2 a c z m :=
  ⟨k.os.trans h.os, k.tape.trans h.tape, k.output.trans h.output, Nat.le_trans h.size k.size, fun i hi h1 h2 => (k.block i (by have := h.size; omega) h1 h2).trans (h.block i hi h1 h2)⟩
theorem Grown2.fst {w w' : World} {z m : Nat} (h : Grown2 w w' z m) (hm : w.heap.size ≤ m) : w.grownBy w' (some z) := ⟨h.os, h.tape, h.output, h.size, fun k hk h1 => h.block k hk (fun e => h1 (by rw [e])) (by omega)⟩
theorem BigAt.grown2 {w w' : World} {p z m : Nat} {X : Int} (h : BigAt w p X) (hz : IsInt w z) (hm : IsInt w m) (hg : Grown2 w w' z m) (h1 : p ≠ z) (h2 : p ≠ m) : BigAt w' p X := by
  obtain ⟨A, c, l, hb, hw, hr⟩ := h
  refine ⟨A, c, l, (hg.block p hb.lt h1 h2).trans hb, ⟨hw.len, hw.cap, hw.none_, ⟨hw.rd.1, fun hp => ?_⟩, hw.small⟩, hr⟩
  obtain ⟨b, o, e, hbb, hc⟩ := hw.rd.2 hp
  refine ⟨b, o, e, by have := hg.size; omega, fun j u hu => ?_⟩
  rw [← hc j u hu]
  have h0 := hc 0 _ (wordsV_at hp)
  refine World.cell?_of_block (hg.block b hbb ?_ ?_)
  · intro e2; subst e2; exact hz.cell _ _ h0
  · intro e2; subst e2; exact hm.cell _ _ h0

set_option maxRecDepth 100000 in
set_option maxHeartbeats 8000000 in
theorem bigSet_any (p px : Nat) (X : Int) (w : World) (hp : IsInt w p) (hx : BigAt w px X) (bx : X.natAbs < pw 100) :
    Calls Try.prog 58 #[.pointer (some ⟨p, 0, none⟩), .pointer (some ⟨px, 0, none⟩)] w fun e w' => e = .returned (.pointer (some ⟨p, 0, none⟩)) ∧ BigAt w' p X ∧ w.grownBy w' (some p) := by
  obtain ⟨A, c, l, x0, x1, xw, xt, xv⟩ := hx.parts
  have HL := Lib.hid (len_of xt xv bx)
  have HXW := Lib.hid xw
  have HXT := Lib.hid xt
  have HXV := Lib.hid xv
  have HP := Lib.hid hp
  have HPX := Lib.hid hx.lt
  clear xw xt xv hp hx bx
  go_enter Try.func58, Try.ntmps58
  go_wp2_with fail
  go_region_law (first
    | (go_simp; go_at_call 57; refine (twin_any A c l _ _ (Nat.le_refl _) HXW.out.drew HL.out).mono ?_; rintro e w1 ⟨A1, c1, rfl, hw1, hb1⟩; have x0' := (below_cell hb1 px 0 HPX.out).trans x0)
    | (go_simp; go_at_call 56; refine (give_big p _ A1 l c1 _ X (HP.out.drew.below hb1 HP.out.lt) hw1 HXT.out HXV.out (sign_of HXT.out HXV.out _ (sg_self X))).mono ?_; rintro e w2 ⟨rfl, hz2, hg2⟩))
  all_goals
    have HZ := Lib.hid hz2
    clear hz2
    go_wp2_with fail
    go_ret
    exact ⟨rfl, HZ.out, (show w.grownBy w1 (some p) from ⟨hb1.os, hb1.tape, hb1.output, hb1.size, fun g hg _ => hb1.block g hg⟩).trans hg2⟩

theorem quo_sg (X Y : Int) (hY : 0 < Y) : Sg (decide (X < 0) != decide (Y < 0)) (X.tdiv Y) := by
  have e : decide (Y < 0) = false := by simp; omega
  rw [e]
  refine sg_mk ?_
  rcases Int.lt_or_le X 0 with h | h
  · have h0 : (-X).tdiv Y = -(X.tdiv Y) := Int.neg_tdiv _ _
    have h1 : 0 ≤ (-X).tdiv Y := Int.tdiv_nonneg (by omega) (by omega)
    by_cases h2 : X.tdiv Y = 0
    · exact .inl h2
    · exact .inr (.inl ⟨by simp [h], by omega⟩)
  · have h1 : 0 ≤ X.tdiv Y := Int.tdiv_nonneg (by omega) (by omega)
    by_cases h2 : X.tdiv Y = 0
    · exact .inl h2
    · exact .inr (.inr ⟨by simp; omega, by omega⟩)
theorem rem_sg (X Y : Int) (hY : 0 < Y) : Sg (decide (X < 0)) (X.tmod Y) := by
  refine sg_mk ?_
  rcases Int.lt_or_le X 0 with h | h
  · have h1 : (-X).tmod Y = -(X.tmod Y) := Int.neg_tmod _ _
    have h2 : 0 ≤ (-X).tmod Y := Int.tmod_nonneg _ (by omega)
    by_cases h3 : X.tmod Y = 0
    · exact .inl h3
    · exact .inr (.inl ⟨by simp [h], by omega⟩)
  · have h1 : 0 ≤ X.tmod Y := Int.tmod_nonneg _ (by omega)
    by_cases h3 : X.tmod Y = 0
    · exact .inl h3
    · exact .inr (.inr ⟨by simp; omega, by omega⟩)

set_option maxRecDepth 100000 in
set_option maxHeartbeats 8000000 in
theorem bigQuoRem_any (z px py m : Nat) (X Y : Int) (w : World) (hz : IsInt w z) (hm : IsInt w m) (hzm : z ≠ m) (hx : BigAt w px X) (hy : BigAt w py Y) (bx : X.natAbs < pw 100) (by_ : 0 < Y) :
    Calls Try.prog 86 #[.pointer (some ⟨z, 0, none⟩), .pointer (some ⟨px, 0, none⟩), .pointer (some ⟨py, 0, none⟩), .pointer (some ⟨m, 0, none⟩)] w fun e w' => e = .returned (.tuple #[.pointer (some ⟨z, 0, none⟩), .pointer (some ⟨m, 0, none⟩)]) ∧ BigAt w' z (X.tdiv Y) ∧ BigAt w' m (X.tmod Y) ∧ Grown2 w w' z m := by
  obtain ⟨A, c, l, x0, x1, xw, xt, xv⟩ := hx.parts
  obtain ⟨A', c', l', y0, y1, yw, yt, yv⟩ := hy.parts
  have HL := Lib.hid (show l.length ≤ 1000 from Nat.le_trans (length_le xt (k := 100) (by rw [xv]; exact bx)) (by omega))
  have HXW := Lib.hid xw
  have HXT := Lib.hid xt
  have HYW := Lib.hid yw
  have HYT := Lib.hid yt
  have HYP := Lib.hid (show 0 < val l' by omega)
  have HZ := Lib.hid hz
  have HM := Lib.hid hm
  have hpx := hx.lt
  have hpy := hy.lt
  have HQ := Lib.hid (show val l / val l' = (X.tdiv Y).natAbs by rw [Int.natAbs_tdiv, xv, yv]; rfl)
  have HR := Lib.hid (show val l % val l' = (X.tmod Y).natAbs by rw [Int.natAbs_tmod, xv, yv])
  have HQS := Lib.hid (quo_sg X Y by_)
  have HRS := Lib.hid (rem_sg X Y by_)
  generalize X.tdiv Y = Q at HQ HQS ⊢
  generalize X.tmod Y = R at HR HRS ⊢
  generalize decide (X < 0) = xn at x0 HQS HRS
  generalize decide (Y < 0) = yn at y0 HQS
  clear xw xt xv yw yt yv hz hm hx hy bx by_
  go_enter Try.func86, Try.ntmps86
  go_wp2_with fail
  go_quiet (fail)
  go_wp2_with fail
  have hb0 : Below w.heap.size w (w.drewN nq).drew := (below_drewN (Below.refl _ _) nq).drew
  have hk0 := below_cell hb0
  go_region_held3 (fun w' => w'.cell? ⟨px, 1, none⟩ = some (.slice A l.length c) ∧ w'.cell? ⟨py, 1, none⟩ = some (.slice A' l'.length c')) (go_keep) (first
    | (go_at_call 90; refine (div_any A A' c c' l l' _ ((HXW.out.below hb0).more hb0.size) ((HYW.out.below hb0).more hb0.size) HXT.out HYT.out HYP.out HL.out).mono ?_; rintro e w1 ⟨A1, c1, l1, A2, c2, l2, rfl, hw1, ht1, hv1, hw2, ht2, hv2, hbn⟩; have hb0 := onward hb0 (Nat.le_refl _) hbn; have hk0 := below_cell hb0))
  have HW1 := Lib.hid hw1
  have HT1 := Lib.hid ht1
  have HV1 := Lib.hid (hv1.trans HQ.out)
  have HW2 := Lib.hid hw2
  have HT2 := Lib.hid ht2
  have HV2 := Lib.hid (hv2.trans HR.out)
  clear hw1 ht1 hv1 hw2 ht2 hv2
  go_wp2_with fail
  refine (give_big z _ A1 l1 c1 _ Q (HZ.out.below hb0 HZ.out.lt) HW1.out HT1.out HV1.out (sign_of HT1.out HV1.out _ HQS.out)).mono ?_
  rintro e w2 ⟨rfl, hz2, hg2⟩
  have HZ2 := Lib.hid hz2
  have HM2 := Lib.hid ((HM.out.below hb0 HM.out.lt).grown hg2 (fun e => hzm (by injection e with e; exact e.symm)))
  have HW2' := Lib.hid ((HW2.out.grown (Nat.le_refl _) (HZ.out.below hb0 HZ.out.lt) hg2).more hg2.size)
  clear hz2
  go_wp2_with fail
  refine (give_big m _ A2 l2 c2 _ R HM2.out HW2'.out HT2.out HV2.out (sign_of HT2.out HV2.out _ HRS.out)).mono ?_
  rintro e w3 ⟨rfl, hz3, hg3⟩
  have HM3 := Lib.hid hz3
  have HZ3 := Lib.hid (HZ2.out.grown HM2.out hg3 hzm)
  clear hz3
  go_wp2_with fail
  go_ret2
  exact ⟨rfl, HZ3.out, HM3.out, (Grown2.of_below hb0).trans ((Grown2.of_fst hg2).trans (Grown2.of_snd hg3))⟩

theorem euclid (X Y : Int) (hY : 0 < Y) : (X.tmod Y < 0 → X / Y = X.tdiv Y - 1 ∧ X % Y = X.tmod Y + Y) ∧ (¬ X.tmod Y < 0 → X / Y = X.tdiv Y ∧ X % Y = X.tmod Y) := by
  have h1 : Y * X.tdiv Y + X.tmod Y = X := Int.mul_tdiv_add_tmod X Y
  have h2 : Y * (X / Y) + X % Y = X := Int.mul_ediv_add_emod X Y
  have h3 := Int.emod_nonneg X (show Y ≠ 0 by omega)
  have h4 := Int.emod_lt_of_pos X hY
  have h5 : X.tmod Y < Y := Int.tmod_lt_of_pos X hY
  have h6 : -Y < X.tmod Y := by
    have h7 : (-X).tmod Y = -(X.tmod Y) := Int.neg_tmod _ _
    have h8 : (-X).tmod Y < Y := Int.tmod_lt_of_pos _ hY
    omega
  generalize X.tdiv Y = q at h1 ⊢
  generalize X.tmod Y = r at h1 h5 h6 ⊢
  generalize X / Y = q' at h2 ⊢
  generalize X % Y = r' at h2 h3 h4 ⊢
  have h9 : Y * (q - q') = r' - r := by rw [Int.mul_sub]; omega
  constructor
  · intro hr
    have e : q - q' = 1 := by
      rcases Int.lt_trichotomy (q - q') 1 with h | h | h
      · have : Y * (q - q') ≤ Y * 0 := Int.mul_le_mul_of_nonneg_left (by omega) (by omega)
        omega
      · exact h
      · have : Y * 2 ≤ Y * (q - q') := Int.mul_le_mul_of_nonneg_left (by omega) (by omega)
        omega
    rw [e] at h9
    omega
  · intro hr
    have e : q - q' = 0 := by
      rcases Int.lt_trichotomy (q - q') 0 with h | h | h
      · have : Y * (q - q') ≤ Y * (-1) := Int.mul_le_mul_of_nonneg_left (by omega) (by omega)
        omega
      · exact h
      · have : Y * 1 ≤ Y * (q - q') := Int.mul_le_mul_of_nonneg_left (by omega) (by omega)
        omega
    rw [e] at h9
    omega
end Go.Proofs.Ytlcpackmoolngaa.BigW
