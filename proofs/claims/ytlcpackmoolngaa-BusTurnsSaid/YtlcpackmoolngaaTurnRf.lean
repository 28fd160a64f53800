/- Contract: the reference's TurnByte. -/
import Derived.Test.YtlcpackmoolngaaByte
import Derived.Test.YtlcpackmoolngaaCopyB
import Derived.Test.YtlcpackmoolngaaRes
namespace Go.Proofs.Ytlcpackmoolngaa.Bu
open Go.ChangeShapes Go.WideShapes Go.ChangeAt Go.RowKit Go.Proofs.Ytlcpackmoolngaa.Mem Go.Proofs.Ytlcpackmoolngaa.Op Go.Proofs.Ytlcpackmoolngaa.Sm Go.Proofs.Ytlcpackmoolngaa.Nd Go.Proofs.Ytlcpackmoolngaa.Rws
set_option linter.unusedVariables false
set_option linter.unusedSimpArgs false

set_option maxRecDepth 100000 in
set_option maxHeartbeats 4000000 in
theorem refturn_any (now ser0 : Int) (A : Option Addr) (c : Nat) (qs : List Parc) (s at_ m : Int) (B : Nat) (w : World) (hB : B ≤ w.heap.size) (hql : qs.length * 56 ≤ 140737488351232) (hq : ParcsAt w B A qs) :
    Calls Try.prog 13 #[.agg #[.int .i64 now, .int .i64 ser0, .slice A qs.length c], .int .i64 s, .int .i64 at_, .int .i64 m] w fun e w' => SendAs w w' (turnR now ser0 qs s at_ m) e := by
  have D1 := Lib.hid (show Blk ((w.alloc (.cells #[.int .i64 now, .int .i64 ser0, .slice A qs.length c] 24)).alloc (.cells #[.int .i64 0, .int .i64 0, .slice none 0 0] 24)) w.heap.size 24 #[.int .i64 now, .int .i64 ser0, .slice A qs.length c] from (Blk.new rfl).alloc _)
  have D2 := Lib.hid (show Blk ((w.alloc (.cells #[.int .i64 now, .int .i64 ser0, .slice A qs.length c] 24)).alloc (.cells #[.int .i64 0, .int .i64 0, .slice none 0 0] 24)) (w.heap.size + 1) 24 #[.int .i64 0, .int .i64 0, .slice none 0 0] from Blk.new (by simp))
  have HB := Lib.hid (((Below.refl w.heap.size w).alloc (Nat.le_refl _) (.cells #[.int .i64 now, .int .i64 ser0, .slice A qs.length c] 24)).alloc (by simp) (.cells #[.int .i64 0, .int .i64 0, .slice none 0 0] 24))
  have HQ := Lib.hid (hq.below (HB.out.mono hB))
  clear hq
  go_enter Try.func13, Try.ntmps13
  go_upto_region 1 with fail
  generalize ((w.alloc (.cells #[.int .i64 now, .int .i64 ser0, .slice A qs.length c] 24)).alloc (.cells #[.int .i64 0, .int .i64 0, .slice none 0 0] 24)) = W at *
  go_wp2_with (refine wpList_whole rfl 24 _ rfl w.heap.size rfl D1.out _ Try.underlying24 rfl (by kernel_rfl) ?_)
  refine (copybusD_any now ser0 A c qs B W (Nat.le_trans hB HB.out.size) hql HQ.out).mono ?_
  rintro e w1 ⟨A2, c2, rfl, hod, hb⟩
  have hW : w.heap.size + 1 < W.heap.size := D2.out.lt
  have HOD := Lib.hid hod
  have D2 := Lib.hid (D2.out.below hb D2.out.lt)
  have HB := Lib.hid (onward HB.out (Nat.le_refl _) hb)
  have hw1 := D2.out.lt
  have hW1 := hb.size
  clear hb hod HQ D1
  have hb : Below w1.heap.size w1 (w1.alloc (.cells #[.int .i64 0, .int .i64 0, .slice none 0 0] 24)) := (Below.refl _ _).alloc (Nat.le_refl _) _
  have D6 := Lib.hid (show Blk (w1.alloc (.cells #[.int .i64 0, .int .i64 0, .slice none 0 0] 24)) w1.heap.size 24 #[.int .i64 0, .int .i64 0, .slice none 0 0] from Blk.fresh _ _ _)
  have D2 := Lib.hid (D2.out.below hb D2.out.lt)
  have HOD := Lib.hid (HOD.out.below hb)
  have HB := Lib.hid (onward HB.out (Nat.le_refl _) hb)
  clear hb
  go_upto_region 2 with (refine wpList_store_row rfl 24 _ _ rfl w1.heap.size #[.int .i64 now, .int .i64 ser0, .slice A2 qs.length c2] rfl rfl 24 _ D6.out (by kernel_rfl) rfl (by simp [Value.oneCell']) ?_)
  have HOD := Lib.hid (HOD.out.grown (gr_setRow5 _ w1.heap.size #[.int .i64 now, .int .i64 ser0, .slice A2 qs.length c2]) (fun x e => by injection e with e; subst e; exact ⟨_, _, D6.out, by decide, by decide⟩))
  have D2 := Lib.hid (D2.out.setRow_other (g' := w1.heap.size) (by omega) #[.int .i64 now, .int .i64 ser0, .slice A2 qs.length c2])
  have D6 := Lib.hid (D6.out.setRow #[.int .i64 now, .int .i64 ser0, .slice A2 qs.length c2])
  have HB := Lib.hid (below_setRow HB.out (show w.heap.size ≤ w1.heap.size by omega) #[.int .i64 now, .int .i64 ser0, .slice A2 qs.length c2])
  generalize ((w1.alloc (.cells #[.int .i64 0, .int .i64 0, .slice none 0 0] 24)).setRow w1.heap.size #[.int .i64 now, .int .i64 ser0, .slice A2 qs.length c2]) = w2 at *
  obtain ⟨g6, hg6⟩ : ∃ g, w1.heap.size = g := ⟨_, rfl⟩
  rw [hg6] at D6 hw1 hW1 ⊢
  clear hg6
  have y2 := D6.out.cell 2
  simp only [List.getElem?_toArray, List.getElem?_cons_zero, List.getElem?_cons_succ] at y2
  go_wp2_with fail
  clear y2
  go_loopw [18] (fun i wr => ∃ k : Nat, k ≤ qs.length ∧ i = .int .i64 k ∧ NoneTo s qs k ∧ Blk wr g6 24 #[.int .i64 now, .int .i64 ser0, .slice A2 qs.length c2] ∧ Blk wr (w.heap.size + 1) 24 #[.int .i64 0, .int .i64 0, .slice none 0 0] ∧ OwnD wr W.heap.size A2 c2 qs ∧ Below w.heap.size w wr) (fun i _ => qs.length - (intOf i).toNat)
  case atStart => exact ⟨0, by omega, rfl, NoneTo.zero _ _, D6.out, D2.out, HOD.out, HB.out⟩
  case round =>
    clear D6 D2 HOD HB
    obtain ⟨k, hk, rfl, hn, b6, b2, ho, hb⟩ := hrel
    have HN := Lib.hid hn
    have D6 := Lib.hid b6
    have D2 := Lib.hid b2
    have HOD := Lib.hid ho
    have HB := Lib.hid hb
    clear hn b6 b2 ho hb
    by_cases hlt : k < qs.length
    · have hm : qs[k]? = some qs[k] := List.getElem?_eq_getElem hlt
      generalize qs[k] = p at hm
      have HM := Lib.hid hm
      obtain ⟨b, o, a, ca, e, hbB, x0, x1, x2, x3, x4, h2, h3, h4, h5⟩ := HOD.out.own.at.1.at hm
      obtain ⟨gq, e2, hq1, hq2, hnc, hcm⟩ := HOD.out.addr (by omega)
      subst e2
      obtain ⟨rfl, rfl⟩ : gq = b ∧ 0 = o := by injection e with e; injection e with e1 e2; exact ⟨e1, e2⟩
      simp only [Nat.zero_add] at x0 x1 x2 x3 x4
      have hk0 : (0 : Int) ≤ (k : Int) := by omega
      have hk1 : (k : Int) < (qs.length : Int) := by omega
      clear e h5 hm
      go_upto_region 5 with fail
      have hb3 : Below wr.heap.size wr (wr.alloc (.cells #[.int .i64 p.f, .int .i64 p.t, .int .i64 p.d, .int .i64 p.s, .slice a p.bs.length ca] 52)) := (Below.refl _ _).alloc (Nat.le_refl _) _
      have PB := Lib.hid (show Blk (wr.alloc (.cells #[.int .i64 p.f, .int .i64 p.t, .int .i64 p.d, .int .i64 p.s, .slice a p.bs.length ca] 52)) wr.heap.size 52 #[.int .i64 p.f, .int .i64 p.t, .int .i64 p.d, .int .i64 p.s, .slice a p.bs.length ca] from Blk.fresh _ _ _)
      have D6 := Lib.hid (D6.out.below hb3 D6.out.lt)
      have D2 := Lib.hid (D2.out.below hb3 D2.out.lt)
      have HOD := Lib.hid (HOD.out.below hb3)
      have HB := Lib.hid (onward HB.out (Nat.le_refl _) hb3)
      clear hb3 x0 x1 x2 x3 x4 hbB hq2
      generalize (wr.alloc (.cells #[.int .i64 p.f, .int .i64 p.t, .int .i64 p.d, .int .i64 p.s, .slice a p.bs.length ca] 52)) = w3 at *
      obtain ⟨gp, hgp⟩ : ∃ g, wr.heap.size = g := ⟨_, rfl⟩
      rw [hgp] at PB ⊢
      clear hgp
      have y3 := PB.out.cell 3
      have y4 := PB.out.cell 4
      simp only [List.getElem?_toArray, List.getElem?_cons_zero, List.getElem?_cons_succ] at y3 y4
      by_cases hs : p.s = s
      · have HF := Lib.hid (fnd_some HN.out HM.out hs)
        have hde : (p.s != s) = false := by simp [hs]
        go_upto_region 6 with fail
        clear y3 hs hde
        by_cases e1 : at_ < 0
        · skip
          have HLR := Lib.hid (turnR_bad (now := now) (ser0 := ser0) (m := m) HF.out HM.out (.inl e1))
          go_wp2_with (refine wpList_store_row rfl 24 _ _ rfl (w.heap.size + 1) #[.int .i64 0, .int .i64 0, .slice none 0 0] rfl rfl 24 _ D2.out (by kernel_rfl) rfl (by simp [Value.oneCell']) ?_)
          refine ret_row2 (x := .int .i64 3) rfl rfl rfl (D2.out.setRow #[.int .i64 0, .int .i64 0, .slice none 0 0]) ⟨by rw [Try.underlying24], by kernel_rfl⟩ rfl ?_
          rw [HLR.out]
          exact ⟨none, 0, rfl, ParcsAt.nil _ _ _, below_setRow HB.out (by omega) _⟩
        · obtain ⟨t, rfl⟩ := Int.eq_ofNat_of_zero_le (show 0 ≤ at_ by omega)
          by_cases e2 : (p.bs.length : Int) ≤ (t : Int)
          · skip
            have HLR := Lib.hid (turnR_bad (now := now) (ser0 := ser0) (m := m) HF.out HM.out (.inr (.inl e2)))
            go_wp2_with (refine wpList_store_row rfl 24 _ _ rfl (w.heap.size + 1) #[.int .i64 0, .int .i64 0, .slice none 0 0] rfl rfl 24 _ D2.out (by kernel_rfl) rfl (by simp [Value.oneCell']) ?_)
            refine ret_row2 (x := .int .i64 3) rfl rfl rfl (D2.out.setRow #[.int .i64 0, .int .i64 0, .slice none 0 0]) ⟨by rw [Try.underlying24], by kernel_rfl⟩ rfl ?_
            rw [HLR.out]
            exact ⟨none, 0, rfl, ParcsAt.nil _ _ _, below_setRow HB.out (by omega) _⟩
          · skip
            by_cases e3 : m < 0
            · skip
              have HLR := Lib.hid (turnR_bad (now := now) (ser0 := ser0) (at_ := (t : Int)) HF.out HM.out (.inr (.inr (.inl e3))))
              go_wp2_with (refine wpList_store_row rfl 24 _ _ rfl (w.heap.size + 1) #[.int .i64 0, .int .i64 0, .slice none 0 0] rfl rfl 24 _ D2.out (by kernel_rfl) rfl (by simp [Value.oneCell']) ?_)
              refine ret_row2 (x := .int .i64 3) rfl rfl rfl (D2.out.setRow #[.int .i64 0, .int .i64 0, .slice none 0 0]) ⟨by rw [Try.underlying24], by kernel_rfl⟩ rfl ?_
              rw [HLR.out]
              exact ⟨none, 0, rfl, ParcsAt.nil _ _ _, below_setRow HB.out (by omega) _⟩
            · obtain ⟨mm, rfl⟩ := Int.eq_ofNat_of_zero_le (show 0 ≤ m by omega)
              by_cases e4 : 255 < (mm : Int)
              · skip
                have HLR := Lib.hid (turnR_bad (now := now) (ser0 := ser0) (at_ := (t : Int)) HF.out HM.out (.inr (.inr (.inr e4))))
                go_wp2_with (refine wpList_store_row rfl 24 _ _ rfl (w.heap.size + 1) #[.int .i64 0, .int .i64 0, .slice none 0 0] rfl rfl 24 _ D2.out (by kernel_rfl) rfl (by simp [Value.oneCell']) ?_)
                refine ret_row2 (x := .int .i64 3) rfl rfl rfl (D2.out.setRow #[.int .i64 0, .int .i64 0, .slice none 0 0]) ⟨by rw [Try.underlying24], by kernel_rfl⟩ rfl ?_
                rw [HLR.out]
                exact ⟨none, 0, rfl, ParcsAt.nil _ _ _, below_setRow HB.out (by omega) _⟩
              · skip
                have HLR := Lib.hid (turnR_good (now := now) (ser0 := ser0) HF.out HM.out (show t < p.bs.length by omega) (show mm ≤ 255 by omega))
                have y2 := D6.out.cell 2
                simp only [List.getElem?_toArray, List.getElem?_cons_zero, List.getElem?_cons_succ] at y2
                go_upto_region 8 with fail
                obtain ⟨gb, cb, z4, hgb1, hgb2, zb, fb, hcu, hod⟩ := HOD.out.turn HM.out (show t < p.bs.length by omega)
                have HOD := Lib.hid (hod mm)
                have hne6 : g6 ≠ gb := by
                  intro e
                  subst e
                  obtain ⟨cur, g1⟩ := hcu
                  have := D6.out
                  unfold Blk at this
                  rw [this] at g1
                  injection g1 with g1
                  injection g1 with _ g1 _
                  exact absurd g1 (by decide)
                have hxo := xorB_int (p.bs.getD t 0) mm
                have hwm : IntKind.u8.wrap (mm : Int) = (mm : Int) := wraps_u8 _ (by omega) (by omega)
                have ht0 : (0 : Int) ≤ (t : Int) := by omega
                have ht1 : (t : Int) < (p.bs.length : Int) := by omega
                clear hod e4 hcu y4
                generalize p.bs.getD t 0 = x at *
                go_upto_region 9 with fail
                have D6 := Lib.hid (D6.out.other (p := ⟨gb, t, none⟩) hne6 (.int .u8 (xorB x mm : Int)))
                have D2 := Lib.hid (D2.out.other (p := ⟨gb, t, none⟩) (by show w.heap.size + 1 ≠ gb; omega) (.int .u8 (xorB x mm : Int)))
                have HB := Lib.hid (HB.out.setCell (p := ⟨gb, t, none⟩) (by show w.heap.size ≤ gb; omega) (.int .u8 (xorB x mm : Int)))
                clear z4 zb fb y2 hgb2
                generalize (w3.setCell ⟨gb, t, none⟩ (.int .u8 (xorB x mm : Int))) = w5 at *
                go_wp2_with (first
                  | (refine wpList_whole rfl 24 _ rfl g6 rfl D6.out _ Try.underlying24 rfl (by kernel_rfl) ?_)
                  | (refine wpList_store_row rfl 24 _ _ rfl (w.heap.size + 1) #[.int .i64 now, .int .i64 ser0, .slice (some ⟨gq, 0, none⟩) qs.length c2] rfl rfl 24 _ D2.out (by kernel_rfl) rfl (by simp [Value.oneCell']) ?_))
                refine ret_row2 (x := .int .i64 0) rfl rfl rfl (D2.out.setRow #[.int .i64 now, .int .i64 ser0, .slice (some ⟨gq, 0, none⟩) qs.length c2]) ⟨by rw [Try.underlying24], by kernel_rfl⟩ rfl ?_
                rw [HLR.out]
                exact ⟨some ⟨gq, 0, none⟩, c2, by rw [List.length_set], (HOD.out.own.keep fun _ _ _ _ _ h => own_setRow h (by omega) _).at.1, below_setRow HB.out (by omega) _⟩
      · have HN := Lib.hid (HN.out.succ HM.out hs)
        have hde : (p.s != s) = true := by simp [hs]
        clear hs
        go_wp2_with fail
        exact ⟨⟨k + 1, by omega, by go_num, HN.out, D6.out, D2.out, HOD.out, HB.out⟩, by simp [intOf]; omega⟩
    · obtain rfl : k = qs.length := by omega
      clear hlt
      have HF := Lib.hid (fnd_none HN.out)
      have HLR := Lib.hid (turnR_none (now := now) (ser0 := ser0) (at_ := at_) (m := m) HF.out)
      go_wp2_with (refine wpList_store_row rfl 24 _ _ rfl (w.heap.size + 1) #[.int .i64 0, .int .i64 0, .slice none 0 0] rfl rfl 24 _ D2.out (by kernel_rfl) rfl (by simp [Value.oneCell']) ?_)
      refine ret_row2 (x := .int .i64 7) rfl rfl rfl (D2.out.setRow #[.int .i64 0, .int .i64 0, .slice none 0 0]) ⟨by rw [Try.underlying24], by kernel_rfl⟩ rfl ?_
      rw [HLR.out]
      exact ⟨none, 0, rfl, ParcsAt.nil _ _ _, below_setRow HB.out (by omega) _⟩
end Go.Proofs.Ytlcpackmoolngaa.Bu
