/- fourwatchbig.Int: DivMod, Div by a number above 0; the reference's power and down. -/
import Derived.Test.YtlcpackmoolngaaBigQ
namespace Go.Proofs.Ytlcpackmoolngaa.BigW
open Go.RowKit Go.Proofs.Ytlcpackmoolngaa.Mem Go.Proofs.Ytlcpackmoolngaa.BigLaw
set_option linter.unusedVariables false

theorem pw_small {X : Int} (h : X.natAbs < 340282366920938463463374607431768211456) : X.natAbs < pw 100 := by
  have h1 : pw 4 ≤ pw 100 := pw_le (by omega)
  have h2 : pw 4 = 340282366920938463463374607431768211456 := rfl
  omega
theorem BigAt.neg0 {w : World} {p : Nat} {X : Int} (h : BigAt w p X) : w.cell? ⟨p, 0, none⟩ = some (.bool (decide (X < 0))) := by
  obtain ⟨A, c, l, x0, _⟩ := h.parts
  exact x0
theorem IsInt.grown2 {w w' : World} {p z m : Nat} (h : IsInt w p) (hg : Grown2 w w' z m) (h1 : p ≠ z) (h2 : p ≠ m) : IsInt w' p := by
  obtain ⟨s, A, n, c, hb⟩ := h
  exact ⟨s, A, n, c, (hg.block p hb.lt h1 h2).trans hb⟩

theorem bigDivMod_any (z px py m : Nat) (X Y : Int) (w : World) (hz : IsInt w z) (hm : IsInt w m) (hzm : z ≠ m) (hx : BigAt w px X) (hy : BigAt w py Y) (bx : X.natAbs < pw 100) (hY : 0 < Y) (bY : Y.natAbs < pw 100) :
    Calls Try.prog 81 #[.pointer (some ⟨z, 0, none⟩), .pointer (some ⟨px, 0, none⟩), .pointer (some ⟨py, 0, none⟩), .pointer (some ⟨m, 0, none⟩)] w fun e w' => e = .returned (.tuple #[.pointer (some ⟨z, 0, none⟩), .pointer (some ⟨m, 0, none⟩)]) ∧ BigAt w' z (X / Y) ∧ BigAt w' m (X % Y) ∧ Grown2 w w' z m := by
  have HZ := Lib.hid hz
  have HM := Lib.hid hm
  have HX := Lib.hid hx
  have HY := Lib.hid hy
  have BX := Lib.hid bx
  have BY := Lib.hid bY
  have HP := Lib.hid hY
  have hzl := hz.lt
  have hml := hm.lt
  have HI := Lib.hid (isInt_new w)
  have HE := Lib.hid (euclid X Y hY)
  clear hz hm hx hy bx bY hY
  go_enter Try.func81, Try.ntmps81
  go_wp2_with fail
  have hba : Below w.heap.size w (w.alloc (.cells #[.bool false, .slice none 0 0] 63)) := (Below.refl _ _).alloc (Nat.le_refl _) _
  refine (bigSet_any w.heap.size py Y _ HI.out (HY.out.below hba) BY.out).mono ?_
  rintro e w1 ⟨rfl, hd1, hg1⟩
  have HD1 := Lib.hid hd1
  have hb1 : Below w.heap.size w w1 := below_grown hba (Nat.le_refl _) hg1 (fun g e => by injection e with e; omega)
  have HB1 := Lib.hid hb1
  clear hd1 hg1 hba
  go_wp2_with fail
  refine (bigQuoRem_any z px py m X Y w1 (HZ.out.below HB1.out HZ.out.lt) (HM.out.below HB1.out HM.out.lt) hzm (HX.out.below HB1.out) (HY.out.below HB1.out) BX.out HP.out).mono ?_
  rintro e w2 ⟨rfl, hq2, hr2, hg2⟩
  have HG2 := Lib.hid ((Grown2.of_below (z := z) (m := m) HB1.out).trans hg2)
  have HD2 := Lib.hid (HD1.out.grown2 (HZ.out.below HB1.out HZ.out.lt) (HM.out.below HB1.out HM.out.lt) hg2 (by omega) (by omega))
  have HQ2 := Lib.hid hq2
  have HR2 := Lib.hid hr2
  have c1 := hr2.neg0
  have c2 := HD2.out.neg0
  rw [decide_eq_false (by have := HP.out; omega)] at c2
  clear hq2 hr2 hg2 hb1
  by_cases hn : X.tmod Y < 0
  · have HE1 := Lib.hid (HE.out.1 hn)
    have bq : (X.tdiv Y).natAbs < pw 100 := by
      rw [Int.natAbs_tdiv]
      exact Nat.lt_of_le_of_lt (Nat.div_le_self X.natAbs Y.natAbs) BX.out
    have br : (X.tmod Y).natAbs < pw 100 := by
      rw [Int.natAbs_tmod]
      exact Nat.lt_of_le_of_lt (Nat.mod_le X.natAbs Y.natAbs) BX.out
    have BQ := Lib.hid bq
    have BR := Lib.hid br
    rw [decide_eq_true hn] at c1
    clear hn bq br
    generalize X.tdiv Y = Q at HQ2 HE1 BQ
    generalize X.tmod Y = R at HR2 HE1 BR
    go_wp2_with fail
    refine (newInt_any 1 w2 (by omega)).mono ?_
    rintro e w3 ⟨p3, rfl, hp3, hz3, hb3⟩
    have hs2 := HG2.out.size
    have HQ3 := Lib.hid (HQ2.out.below hb3)
    have HR3 := Lib.hid (HR2.out.below hb3)
    have HD3 := Lib.hid (HD2.out.below hb3)
    have HO3 := Lib.hid hz3
    have HB3 := Lib.hid hb3
    clear hz3 c1 c2
    go_wp2_with fail
    refine (bigSub_any z z p3 Q 1 w3 HQ3.out.isInt HQ3.out HO3.out BQ.out (pw_small (by omega))).mono ?_
    rintro e w4 ⟨rfl, hz4, hg4⟩
    have HQ4 := Lib.hid hz4
    have HR4 := Lib.hid (HR3.out.grown HQ3.out.isInt hg4 (fun e => hzm e.symm))
    have HD4 := Lib.hid (HD3.out.grown HQ3.out.isInt hg4 (by omega))
    have HG4 := Lib.hid hg4
    clear hz4 hg4
    go_wp2_with fail
    refine (bigAdd_any m m w.heap.size R Y w4 HR4.out.isInt HR4.out HD4.out BR.out BY.out).mono ?_
    rintro e w5 ⟨rfl, hz5, hg5⟩
    have HR5 := Lib.hid hz5
    have HQ5 := Lib.hid (HQ4.out.grown HR4.out.isInt hg5 hzm)
    have HG5 := Lib.hid hg5
    clear hz5 hg5
    go_wp2_with fail
    go_ret2
    refine ⟨rfl, ?_, ?_, (HG2.out.trans (Grown2.of_below HB3.out)).trans ((Grown2.of_fst HG4.out).trans (Grown2.of_snd HG5.out))⟩
    · rw [HE1.out.1]; exact HQ5.out
    · rw [HE1.out.2]; exact HR5.out
  · have HE1 := Lib.hid (HE.out.2 (by omega))
    rw [decide_eq_false hn] at c1
    clear hn
    generalize X.tdiv Y = Q at HQ2 HE1
    generalize X.tmod Y = R at HR2 HE1
    go_wp2_with fail
    go_ret2
    refine ⟨rfl, ?_, ?_, HG2.out⟩
    · rw [HE1.out.1]; exact HQ2.out
    · rw [HE1.out.2]; exact HR2.out

theorem bigDiv_any (z px py : Nat) (X Y : Int) (w : World) (hz : IsInt w z) (hx : BigAt w px X) (hy : BigAt w py Y) (bx : X.natAbs < pw 100) (hY : 0 < Y) (bY : Y.natAbs < pw 100) :
    Calls Try.prog 74 #[.pointer (some ⟨z, 0, none⟩), .pointer (some ⟨px, 0, none⟩), .pointer (some ⟨py, 0, none⟩)] w fun e w' => e = .returned (.pointer (some ⟨z, 0, none⟩)) ∧ BigAt w' z (X / Y) ∧ w.grownBy w' (some z) := by
  have hzl := hz.lt
  have HZ := Lib.hid (hz.below ((Below.refl _ _).alloc (Nat.le_refl _) (.cells #[.bool false, .slice none 0 0] 63)) hz.lt)
  have HX := Lib.hid (hx.alloc (.cells #[.bool false, .slice none 0 0] 63))
  have HY := Lib.hid (hy.alloc (.cells #[.bool false, .slice none 0 0] 63))
  have BX := Lib.hid bx
  have BY := Lib.hid bY
  have HP := Lib.hid hY
  have HI := Lib.hid (isInt_new w)
  clear hz hx hy bx bY hY
  go_enter Try.func74, Try.ntmps74
  go_wp2_with fail
  refine (bigDivMod_any z px py w.heap.size X Y _ HZ.out HI.out (by omega) HX.out HY.out BX.out HP.out BY.out).mono ?_
  rintro e w1 ⟨rfl, hq, hr, hg⟩
  have HQ := Lib.hid hq
  have HG := Lib.hid hg
  clear hq hr hg
  go_wp2_with fail
  go_ret
  exact ⟨rfl, HQ.out, ((Grown2.of_below ((Below.refl _ _).alloc (Nat.le_refl _) _)).trans HG.out).fst (Nat.le_refl _)⟩

theorem down_any (px py : Nat) (X Y : Int) (w : World) (hx : BigAt w px X) (hy : BigAt w py Y) (bx : X.natAbs < pw 100) (hY : 0 < Y) (bY : Y.natAbs < pw 100) :
    Calls Try.prog 49 #[.pointer (some ⟨px, 0, none⟩), .pointer (some ⟨py, 0, none⟩)] w fun e w' => NewBig w w' (X / Y) e := by
  have HX := Lib.hid (hx.alloc (.cells #[.bool false, .slice none 0 0] 63))
  have HY := Lib.hid (hy.alloc (.cells #[.bool false, .slice none 0 0] 63))
  have BX := Lib.hid bx
  have BY := Lib.hid bY
  have HP := Lib.hid hY
  have HI := Lib.hid (isInt_new w)
  clear hx hy bx bY hY
  go_enter Try.func49, Try.ntmps49
  go_wp2_with fail
  refine (bigDiv_any w.heap.size px py X Y _ HI.out HX.out HY.out BX.out HP.out BY.out).mono ?_
  rintro e w1 ⟨rfl, hq, hg⟩
  have HQ := Lib.hid hq
  have HG := Lib.hid hg
  clear hq hg
  go_wp2_with fail
  go_ret
  exact ⟨w.heap.size, rfl, Nat.le_refl _, HQ.out, below_grown ((Below.refl _ _).alloc (Nat.le_refl _) _) (Nat.le_refl _) HG.out (fun g e => by injection e with e; omega)⟩
end Go.Proofs.Ytlcpackmoolngaa.BigW
