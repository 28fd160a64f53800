/- Contract: bus.Turn. -/
import Derived.Test.YtlcpackmoolngaaByte
import Derived.Test.YtlcpackmoolngaaCopyB
import Derived.Test.YtlcpackmoolngaaRes
namespace Go.Proofs.Ytlcpackmoolngaa.Bu
open Go.ChangeShapes Go.WideShapes Go.ChangeAt Go.RowKit Go.Proofs.Ytlcpackmoolngaa.Mem Go.Proofs.Ytlcpackmoolngaa.Op Go.Proofs.Ytlcpackmoolngaa.Sm Go.Proofs.Ytlcpackmoolngaa.Nd Go.Proofs.Ytlcpackmoolngaa.Rws
set_option linter.unusedVariables false
set_option linter.unusedSimpArgs false

set_option maxRecDepth 100000 in
set_option maxHeartbeats 4000000 in
theorem busturn_any (now ser0 : Int) (A : Option Addr) (c : Nat) (qs : List Parc) (s at_ m : Int) (B : Nat) (w : World) (hB : B ≤ w.heap.size) (hql : qs.length * 56 ≤ 140737488351232) (hq : ParcsAt w B A qs) :
    Calls Try.prog 12 #[.agg #[.int .i64 now, .int .i64 ser0, .slice A qs.length c], .int .i64 s, .int .i64 at_, .int .i64 m] w fun e w' => SendAs w w' (turnR now ser0 qs s at_ m) e := by
  have D1 := Lib.hid (show Blk ((w.alloc (.cells #[.int .i64 now, .int .i64 ser0, .slice A qs.length c] 24)).alloc (.cells #[.int .i64 0, .int .i64 0, .slice none 0 0] 24)) w.heap.size 24 #[.int .i64 now, .int .i64 ser0, .slice A qs.length c] from (Blk.new rfl).alloc _)
  have D2 := Lib.hid (show Blk ((w.alloc (.cells #[.int .i64 now, .int .i64 ser0, .slice A qs.length c] 24)).alloc (.cells #[.int .i64 0, .int .i64 0, .slice none 0 0] 24)) (w.heap.size + 1) 24 #[.int .i64 0, .int .i64 0, .slice none 0 0] from Blk.new (by simp))
  have HB := Lib.hid (((Below.refl w.heap.size w).alloc (Nat.le_refl _) (.cells #[.int .i64 now, .int .i64 ser0, .slice A qs.length c] 24)).alloc (by simp) (.cells #[.int .i64 0, .int .i64 0, .slice none 0 0] 24))
  have HQ := Lib.hid (hq.below (HB.out.mono hB))
  clear hq
  go_enter Try.func12, Try.ntmps12
  go_upto_region 1 with fail
  generalize ((w.alloc (.cells #[.int .i64 now, .int .i64 ser0, .slice A qs.length c] 24)).alloc (.cells #[.int .i64 0, .int .i64 0, .slice none 0 0] 24)) = W at *
  go_wp2_with (refine wpList_whole rfl 24 _ rfl w.heap.size rfl D1.out _ Try.underlying24 rfl (by kernel_rfl) ?_)
  refine (find_any now ser0 s A c qs B W (Nat.le_trans hB HB.out.size) (by omega) HQ.out).mono ?_
  rintro e w1 ⟨rfl, hb⟩
  have HQ := Lib.hid (HQ.out.below (hb.mono (Nat.le_trans hB HB.out.size)))
  have D1 := Lib.hid (D1.out.below hb D1.out.lt)
  have D2 := Lib.hid (D2.out.below hb D2.out.lt)
  have HB := Lib.hid (onward HB.out (Nat.le_refl _) hb)
  clear hb
  cases hf : fnd s qs with
  | none =>
    have hz : fndZ s qs = -1 := by unfold fndZ; rw [hf]
    rw [hz]
    have HF := Lib.hid hf
    clear hf hz
    have HLR := Lib.hid (turnR_none (now := now) (ser0 := ser0) (at_ := at_) (m := m) HF.out)
    go_wp2_with (refine wpList_store_row rfl 24 _ _ rfl (w.heap.size + 1) #[.int .i64 0, .int .i64 0, .slice none 0 0] rfl rfl 24 _ D2.out (by kernel_rfl) rfl (by simp [Value.oneCell']) ?_)
    refine ret_row2 (x := .int .i64 7) rfl rfl rfl (D2.out.setRow #[.int .i64 0, .int .i64 0, .slice none 0 0]) ⟨by rw [Try.underlying24], by kernel_rfl⟩ rfl ?_
    rw [HLR.out]
    exact ⟨none, 0, rfl, ParcsAt.nil _ _ _, below_setRow HB.out (by omega) _⟩
  | some k =>
    have hz : fndZ s qs = (k : Int) := by unfold fndZ; rw [hf]
    rw [hz]
    have hw1 : w.heap.size + 1 < w1.heap.size := D2.out.lt
    obtain ⟨p, hp, _⟩ := fnd_at hf
    have hkn : k < qs.length := (List.getElem?_eq_some_iff.1 hp).1
    have HM := Lib.hid hp
    have HF := Lib.hid hf
    have hnn : ¬ ((k : Int) < 0) := by omega
    have hk0 : (0 : Int) ≤ (k : Int) := by omega
    have hk1 : (k : Int) < (qs.length : Int) := by omega
    obtain ⟨b, o, a, ca, e, hbB, _, _, _, _, x4, h2, h3, h4, _⟩ := HQ.out.at hp
    subst e
    have y2 := D1.out.cell 2
    simp only [List.getElem?_toArray, List.getElem?_cons_zero, List.getElem?_cons_succ] at y2
    clear hf hz hp
    go_upto_region 4 with fail
    by_cases c1 : at_ < 0
    · skip
      have HLR := Lib.hid (turnR_bad (now := now) (ser0 := ser0) (m := m) HF.out HM.out (.inl c1))
      go_wp2_with (refine wpList_store_row rfl 24 _ _ rfl (w.heap.size + 1) #[.int .i64 0, .int .i64 0, .slice none 0 0] rfl rfl 24 _ D2.out (by kernel_rfl) rfl (by simp [Value.oneCell']) ?_)
      refine ret_row2 (x := .int .i64 3) rfl rfl rfl (D2.out.setRow #[.int .i64 0, .int .i64 0, .slice none 0 0]) ⟨by rw [Try.underlying24], by kernel_rfl⟩ rfl ?_
      rw [HLR.out]
      exact ⟨none, 0, rfl, ParcsAt.nil _ _ _, below_setRow HB.out (by omega) _⟩
    · obtain ⟨t, rfl⟩ := Int.eq_ofNat_of_zero_le (show 0 ≤ at_ by omega)
      by_cases c2 : (p.bs.length : Int) ≤ (t : Int)
      · skip
        have HLR := Lib.hid (turnR_bad (now := now) (ser0 := ser0) (m := m) HF.out HM.out (.inr (.inl c2)))
        go_wp2_with (refine wpList_store_row rfl 24 _ _ rfl (w.heap.size + 1) #[.int .i64 0, .int .i64 0, .slice none 0 0] rfl rfl 24 _ D2.out (by kernel_rfl) rfl (by simp [Value.oneCell']) ?_)
        refine ret_row2 (x := .int .i64 3) rfl rfl rfl (D2.out.setRow #[.int .i64 0, .int .i64 0, .slice none 0 0]) ⟨by rw [Try.underlying24], by kernel_rfl⟩ rfl ?_
        rw [HLR.out]
        exact ⟨none, 0, rfl, ParcsAt.nil _ _ _, below_setRow HB.out (by omega) _⟩
      · skip
        by_cases c3 : m < 0
        · skip
          have HLR := Lib.hid (turnR_bad (now := now) (ser0 := ser0) (at_ := (t : Int)) HF.out HM.out (.inr (.inr (.inl c3))))
          go_wp2_with (refine wpList_store_row rfl 24 _ _ rfl (w.heap.size + 1) #[.int .i64 0, .int .i64 0, .slice none 0 0] rfl rfl 24 _ D2.out (by kernel_rfl) rfl (by simp [Value.oneCell']) ?_)
          refine ret_row2 (x := .int .i64 3) rfl rfl rfl (D2.out.setRow #[.int .i64 0, .int .i64 0, .slice none 0 0]) ⟨by rw [Try.underlying24], by kernel_rfl⟩ rfl ?_
          rw [HLR.out]
          exact ⟨none, 0, rfl, ParcsAt.nil _ _ _, below_setRow HB.out (by omega) _⟩
        · obtain ⟨mm, rfl⟩ := Int.eq_ofNat_of_zero_le (show 0 ≤ m by omega)
          by_cases c4 : 255 < (mm : Int)
          · skip
            have HLR := Lib.hid (turnR_bad (now := now) (ser0 := ser0) (at_ := (t : Int)) HF.out HM.out (.inr (.inr (.inr c4))))
            go_wp2_with (refine wpList_store_row rfl 24 _ _ rfl (w.heap.size + 1) #[.int .i64 0, .int .i64 0, .slice none 0 0] rfl rfl 24 _ D2.out (by kernel_rfl) rfl (by simp [Value.oneCell']) ?_)
            refine ret_row2 (x := .int .i64 3) rfl rfl rfl (D2.out.setRow #[.int .i64 0, .int .i64 0, .slice none 0 0]) ⟨by rw [Try.underlying24], by kernel_rfl⟩ rfl ?_
            rw [HLR.out]
            exact ⟨none, 0, rfl, ParcsAt.nil _ _ _, below_setRow HB.out (by omega) _⟩
          · skip
            have HLR := Lib.hid (turnR_good (now := now) (ser0 := ser0) HF.out HM.out (show t < p.bs.length by omega) (show mm ≤ 255 by omega))
            go_wp2_with (refine wpList_whole rfl 24 _ rfl w.heap.size rfl D1.out _ Try.underlying24 rfl (by kernel_rfl) ?_)
            refine (copiedD_any now ser0 (some ⟨b, o, none⟩) c qs B w1 (Nat.le_trans hB HB.out.size) hql HQ.out).mono ?_
            rintro e w2 ⟨A2, c2, rfl, hod, hb⟩
            have D1 := Lib.hid (D1.out.below hb D1.out.lt)
            have D2 := Lib.hid (D2.out.below hb D2.out.lt)
            have HB := Lib.hid (onward HB.out (Nat.le_refl _) hb)
            have hlt1 := D2.out.lt
            obtain ⟨g, rfl, hg1, hg2, hnc, hcm⟩ := hod.addr (by omega)
            have HOD := Lib.hid hod
            clear hb hod HQ x4
            go_upto_region 7 with (refine wpList_store_row rfl 24 _ _ rfl w.heap.size #[.int .i64 now, .int .i64 ser0, .slice (some ⟨g, 0, none⟩) qs.length c2] rfl rfl 24 _ D1.out (by kernel_rfl) rfl (by simp [Value.oneCell']) ?_)
            have D2 := Lib.hid (D2.out.setRow_other (g' := w.heap.size) (by omega) #[.int .i64 now, .int .i64 ser0, .slice (some ⟨g, 0, none⟩) qs.length c2])
            have HOD := Lib.hid (HOD.out.keep (w' := w2.setRow w.heap.size #[.int .i64 now, .int .i64 ser0, .slice (some ⟨g, 0, none⟩) qs.length c2]) (Nat.le_refl _) (below_setRow (Below.refl 0 w2) (Nat.zero_le _) _).size fun _ _ _ _ _ _ hle h => own_setRow h (by omega) _)
            have D1 := Lib.hid (D1.out.setRow #[.int .i64 now, .int .i64 ser0, .slice (some ⟨g, 0, none⟩) qs.length c2])
            have HB := Lib.hid (below_setRow HB.out (Nat.le_refl _) #[.int .i64 now, .int .i64 ser0, .slice (some ⟨g, 0, none⟩) qs.length c2])
            generalize (w2.setRow w.heap.size #[.int .i64 now, .int .i64 ser0, .slice (some ⟨g, 0, none⟩) qs.length c2]) = w3 at *
            obtain ⟨gb, cb, z4, hgb1, hgb2, zb, fb, _, hod⟩ := HOD.out.turn HM.out (show t < p.bs.length by omega)
            have HOD := Lib.hid (hod mm)
            have hxo := xorB_int (p.bs.getD t 0) mm
            have hwm : IntKind.u8.wrap (mm : Int) = (mm : Int) := wraps_u8 _ (by omega) (by omega)
            have y2 := D1.out.cell 2
            simp only [List.getElem?_toArray, List.getElem?_cons_zero, List.getElem?_cons_succ] at y2
            have ht0 : (0 : Int) ≤ (t : Int) := by omega
            have ht1 : (t : Int) < (p.bs.length : Int) := by omega
            clear hod
            generalize p.bs.getD t 0 = x at *
            go_upto_region 8 with fail
            have D1 := Lib.hid (D1.out.other (p := ⟨gb, t, none⟩) (by show w.heap.size ≠ gb; omega) (.int .u8 (xorB x mm : Int)))
            have D2 := Lib.hid (D2.out.other (p := ⟨gb, t, none⟩) (by show w.heap.size + 1 ≠ gb; omega) (.int .u8 (xorB x mm : Int)))
            have HB := Lib.hid (HB.out.setCell (p := ⟨gb, t, none⟩) (by show w.heap.size ≤ gb; omega) (.int .u8 (xorB x mm : Int)))
            clear z4 zb fb y2 hgb2
            generalize (w3.setCell ⟨gb, t, none⟩ (.int .u8 (xorB x mm : Int))) = w5 at *
            go_wp2_with (first
              | (refine wpList_whole rfl 24 _ rfl w.heap.size rfl D1.out _ Try.underlying24 rfl (by kernel_rfl) ?_)
              | (refine wpList_store_row rfl 24 _ _ rfl (w.heap.size + 1) #[.int .i64 now, .int .i64 ser0, .slice (some ⟨g, 0, none⟩) qs.length c2] rfl rfl 24 _ D2.out (by kernel_rfl) rfl (by simp [Value.oneCell']) ?_))
            refine ret_row2 (x := .int .i64 0) rfl rfl rfl (D2.out.setRow #[.int .i64 now, .int .i64 ser0, .slice (some ⟨g, 0, none⟩) qs.length c2]) ⟨by rw [Try.underlying24], by kernel_rfl⟩ rfl ?_
            rw [HLR.out]
            exact ⟨some ⟨g, 0, none⟩, c2, by rw [List.length_set], (HOD.out.own.keep fun _ _ _ _ _ h => own_setRow h (by omega) _).at.1, below_setRow HB.out (by omega) _⟩
end Go.Proofs.Ytlcpackmoolngaa.Bu
