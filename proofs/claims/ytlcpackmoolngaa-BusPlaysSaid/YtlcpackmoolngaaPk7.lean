import Derived.Test.YtlcpackmoolngaaPk6
import Derived.Test.YtlcpackmoolngaaPk2
import Derived.Test.YtlcpackmoolngaaPk4
import Derived.Shelf.SlSortCmp.KitK
import Derived.Test.YtlcpackmoolngaaProg
import Derived.Sort.LotA
namespace Go.Proofs.Ytlcpackmoolngaa.Bu
open Go.ChangeShapes Go.WideShapes Go.ChangeAt Go.RowKit Go.Proofs.Ytlcpackmoolngaa.Mem Go.Proofs.Ytlcpackmoolngaa.Op Go.Proofs.Ytlcpackmoolngaa.Sm Go.Proofs.Ytlcpackmoolngaa.Nd Go.Proofs.Ytlcpackmoolngaa.Rws
set_option linter.unusedVariables false
set_option linter.unusedSimpArgs false
set_option maxRecDepth 100000 in
set_option maxHeartbeats 4000000 in
theorem refturn_any (now ser0 : Int) (A : Option Addr) (c : Nat) (qs : List Parc) (s at_ m : Int) (B : Nat) (w : World) (hB : B ≤ w.heap.size) (hql : qs.length * 56 ≤ 140737488351232) (hq : ParcsAt w B A qs) :
    Calls Try.prog 13 #[.agg #[.int .i64 now, .int .i64 ser0, .slice A qs.length c], .int .i64 s, .int .i64 at_, .int .i64 m] w fun e w' => SendAs w w' (turnR now ser0 qs s at_ m) e := by
  have D1 := Lib.hid (show Blk ((w.alloc (.cells #[.int .i64 now, .int .i64 ser0, .slice A qs.length c] 24)).alloc (.cells #[.int .i64 0, .int .i64 0, .slice none 0 0] 24)) w.heap.size 24 #[.int .i64 now, .int .i64 ser0, .slice A qs.length c] from (Blk.new rfl).alloc _)
  have D2 := Lib.hid (show Blk ((w.alloc (.cells #[.int .i64 now, .int .i64 ser0, .slice A qs.length c] 24)).alloc (.cells #[.int .i64 0, .int .i64 0, .slice none 0 0] 24)) (w.heap.size + 1) 24 #[.int .i64 0, .int .i64 0, .slice none 0 0] from Blk.new (by simp))
  have HB := Lib.hid (((Below.refl w.heap.size w).alloc (Nat.le_refl _) (.cells #[.int .i64 now, .int .i64 ser0, .slice A qs.length c] 24)).alloc (by simp) (.cells #[.int .i64 0, .int .i64 0, .slice none 0 0] 24))
  have HQ := Lib.hid (hq.below (HB.out.mono hB))
  clear hq
  go_enter Try.func13, Try.ntmps13
  go_upto_region 1 with fail
  generalize ((w.alloc (.cells #[.int .i64 now, .int .i64 ser0, .slice A qs.length c] 24)).alloc (.cells #[.int .i64 0, .int .i64 0, .slice none 0 0] 24)) = W at *
  go_wp2_with (refine wpList_whole rfl 24 _ rfl w.heap.size rfl D1.out _ Try.underlying24 rfl (by kernel_rfl) ?_)
  refine (copybusD_any now ser0 A c qs B W (Nat.le_trans hB HB.out.size) hql HQ.out).mono ?_
  rintro e w1 ⟨A2, c2, rfl, hod, hb⟩
  have hW : w.heap.size + 1 < W.heap.size := D2.out.lt
  have HOD := Lib.hid hod
  have D2 := Lib.hid (D2.out.below hb D2.out.lt)
  have HB := Lib.hid (onward HB.out (Nat.le_refl _) hb)
  have hw1 := D2.out.lt
  have hW1 := hb.size
  clear hb hod HQ D1
  have hb : Below w1.heap.size w1 (w1.alloc (.cells #[.int .i64 0, .int .i64 0, .slice none 0 0] 24)) := (Below.refl _ _).alloc (Nat.le_refl _) _
  have D6 := Lib.hid (show Blk (w1.alloc (.cells #[.int .i64 0, .int .i64 0, .slice none 0 0] 24)) w1.heap.size 24 #[.int .i64 0, .int .i64 0, .slice none 0 0] from Blk.fresh _ _ _)
  have D2 := Lib.hid (D2.out.below hb D2.out.lt)
  have HOD := Lib.hid (HOD.out.below hb)
  have HB := Lib.hid (onward HB.out (Nat.le_refl _) hb)
  clear hb
  go_upto_region 2 with (refine wpList_store_row rfl 24 _ _ rfl w1.heap.size #[.int .i64 now, .int .i64 ser0, .slice A2 qs.length c2] rfl rfl 24 _ D6.out (by kernel_rfl) rfl (by simp [Value.oneCell']) ?_)
  have HOD := Lib.hid (HOD.out.grown (gr_setRow5 _ w1.heap.size #[.int .i64 now, .int .i64 ser0, .slice A2 qs.length c2]) (fun x e => by injection e with e; subst e; exact ⟨_, _, D6.out, by decide, by decide⟩))
  have D2 := Lib.hid (D2.out.setRow_other (g' := w1.heap.size) (by omega) #[.int .i64 now, .int .i64 ser0, .slice A2 qs.length c2])
  have D6 := Lib.hid (D6.out.setRow #[.int .i64 now, .int .i64 ser0, .slice A2 qs.length c2])
  have HB := Lib.hid (below_setRow HB.out (show w.heap.size ≤ w1.heap.size by omega) #[.int .i64 now, .int .i64 ser0, .slice A2 qs.length c2])
  generalize ((w1.alloc (.cells #[.int .i64 0, .int .i64 0, .slice none 0 0] 24)).setRow w1.heap.size #[.int .i64 now, .int .i64 ser0, .slice A2 qs.length c2]) = w2 at *
  obtain ⟨g6, hg6⟩ : ∃ g, w1.heap.size = g := ⟨_, rfl⟩
  rw [hg6] at D6 hw1 hW1 ⊢
  clear hg6
  have y2 := D6.out.cell 2
  simp only [List.getElem?_toArray, List.getElem?_cons_zero, List.getElem?_cons_succ] at y2
  go_wp2_with fail
  clear y2
  go_loopw [18] (fun i wr => ∃ k : Nat, k ≤ qs.length ∧ i = .int .i64 k ∧ NoneTo s qs k ∧ Blk wr g6 24 #[.int .i64 now, .int .i64 ser0, .slice A2 qs.length c2] ∧ Blk wr (w.heap.size + 1) 24 #[.int .i64 0, .int .i64 0, .slice none 0 0] ∧ OwnD wr W.heap.size A2 c2 qs ∧ Below w.heap.size w wr) (fun i _ => qs.length - (intOf i).toNat)
  case atStart => exact ⟨0, by omega, rfl, NoneTo.zero _ _, D6.out, D2.out, HOD.out, HB.out⟩
  case round =>
    clear D6 D2 HOD HB
    obtain ⟨k, hk, rfl, hn, b6, b2, ho, hb⟩ := hrel
    have HN := Lib.hid hn
    have D6 := Lib.hid b6
    have D2 := Lib.hid b2
    have HOD := Lib.hid ho
    have HB := Lib.hid hb
    clear hn b6 b2 ho hb
    by_cases hlt : k < qs.length
    · have hm : qs[k]? = some qs[k] := List.getElem?_eq_getElem hlt
      generalize qs[k] = p at hm
      have HM := Lib.hid hm
      obtain ⟨b, o, a, ca, e, hbB, x0, x1, x2, x3, x4, h2, h3, h4, h5⟩ := HOD.out.own.at.1.at hm
      obtain ⟨gq, e2, hq1, hq2, hnc, hcm⟩ := HOD.out.addr (by omega)
      subst e2
      obtain ⟨rfl, rfl⟩ : gq = b ∧ 0 = o := by injection e with e; injection e with e1 e2; exact ⟨e1, e2⟩
      simp only [Nat.zero_add] at x0 x1 x2 x3 x4
      have hk0 : (0 : Int) ≤ (k : Int) := by omega
      have hk1 : (k : Int) < (qs.length : Int) := by omega
      clear e h5 hm
      go_upto_region 5 with fail
      have hb3 : Below wr.heap.size wr (wr.alloc (.cells #[.int .i64 p.f, .int .i64 p.t, .int .i64 p.d, .int .i64 p.s, .slice a p.bs.length ca] 52)) := (Below.refl _ _).alloc (Nat.le_refl _) _
      have PB := Lib.hid (show Blk (wr.alloc (.cells #[.int .i64 p.f, .int .i64 p.t, .int .i64 p.d, .int .i64 p.s, .slice a p.bs.length ca] 52)) wr.heap.size 52 #[.int .i64 p.f, .int .i64 p.t, .int .i64 p.d, .int .i64 p.s, .slice a p.bs.length ca] from Blk.fresh _ _ _)
      have D6 := Lib.hid (D6.out.below hb3 D6.out.lt)
      have D2 := Lib.hid (D2.out.below hb3 D2.out.lt)
      have HOD := Lib.hid (HOD.out.below hb3)
      have HB := Lib.hid (onward HB.out (Nat.le_refl _) hb3)
      clear hb3 x0 x1 x2 x3 x4 hbB hq2
      generalize (wr.alloc (.cells #[.int .i64 p.f, .int .i64 p.t, .int .i64 p.d, .int .i64 p.s, .slice a p.bs.length ca] 52)) = w3 at *
      obtain ⟨gp, hgp⟩ : ∃ g, wr.heap.size = g := ⟨_, rfl⟩
      rw [hgp] at PB ⊢
      clear hgp
      have y3 := PB.out.cell 3
      have y4 := PB.out.cell 4
      simp only [List.getElem?_toArray, List.getElem?_cons_zero, List.getElem?_cons_succ] at y3 y4
      by_cases hs : p.s = s
      · have HF := Lib.hid (fnd_some HN.out HM.out hs)
        have hde : (p.s != s) = false := by simp [hs]
        go_upto_region 6 with fail
        clear y3 hs hde
        by_cases e1 : at_ < 0
        · skip
          have HLR := Lib.hid (turnR_bad (now := now) (ser0 := ser0) (m := m) HF.out HM.out (.inl e1))
          go_wp2_with (refine wpList_store_row rfl 24 _ _ rfl (w.heap.size + 1) #[.int .i64 0, .int .i64 0, .slice none 0 0] rfl rfl 24 _ D2.out (by kernel_rfl) rfl (by simp [Value.oneCell']) ?_)
          refine ret_row2 (x := .int .i64 3) rfl rfl rfl (D2.out.setRow #[.int .i64 0, .int .i64 0, .slice none 0 0]) ⟨by rw [Try.underlying24], by kernel_rfl⟩ rfl ?_
          rw [HLR.out]
          exact ⟨none, 0, rfl, ParcsAt.nil _ _ _, below_setRow HB.out (by omega) _⟩
        · obtain ⟨t, rfl⟩ := Int.eq_ofNat_of_zero_le (show 0 ≤ at_ by omega)
          by_cases e2 : (p.bs.length : Int) ≤ (t : Int)
          · skip
            have HLR := Lib.hid (turnR_bad (now := now) (ser0 := ser0) (m := m) HF.out HM.out (.inr (.inl e2)))
            go_wp2_with (refine wpList_store_row rfl 24 _ _ rfl (w.heap.size + 1) #[.int .i64 0, .int .i64 0, .slice none 0 0] rfl rfl 24 _ D2.out (by kernel_rfl) rfl (by simp [Value.oneCell']) ?_)
            refine ret_row2 (x := .int .i64 3) rfl rfl rfl (D2.out.setRow #[.int .i64 0, .int .i64 0, .slice none 0 0]) ⟨by rw [Try.underlying24], by kernel_rfl⟩ rfl ?_
            rw [HLR.out]
            exact ⟨none, 0, rfl, ParcsAt.nil _ _ _, below_setRow HB.out (by omega) _⟩
          · skip
            by_cases e3 : m < 0
            · skip
              have HLR := Lib.hid (turnR_bad (now := now) (ser0 := ser0) (at_ := (t : Int)) HF.out HM.out (.inr (.inr (.inl e3))))
              go_wp2_with (refine wpList_store_row rfl 24 _ _ rfl (w.heap.size + 1) #[.int .i64 0, .int .i64 0, .slice none 0 0] rfl rfl 24 _ D2.out (by kernel_rfl) rfl (by simp [Value.oneCell']) ?_)
              refine ret_row2 (x := .int .i64 3) rfl rfl rfl (D2.out.setRow #[.int .i64 0, .int .i64 0, .slice none 0 0]) ⟨by rw [Try.underlying24], by kernel_rfl⟩ rfl ?_
              rw [HLR.out]
              exact ⟨none, 0, rfl, ParcsAt.nil _ _ _, below_setRow HB.out (by omega) _⟩
            · obtain ⟨mm, rfl⟩ := Int.eq_ofNat_of_zero_le (show 0 ≤ m by omega)
              by_cases e4 : 255 < (mm : Int)
              · skip
                have HLR := Lib.hid (turnR_bad (now := now) (ser0 := ser0) (at_ := (t : Int)) HF.out HM.out (.inr (.inr (.inr e4))))
                go_wp2_with (refine wpList_store_row rfl 24 _ _ rfl (w.heap.size + 1) #[.int .i64 0, .int .i64 0, .slice none 0 0] rfl rfl 24 _ D2.out (by kernel_rfl) rfl (by simp [Value.oneCell']) ?_)
                refine ret_row2 (x := .int .i64 3) rfl rfl rfl (D2.out.setRow #[.int .i64 0, .int .i64 0, .slice none 0 0]) ⟨by rw [Try.underlying24], by kernel_rfl⟩ rfl ?_
                rw [HLR.out]
                exact ⟨none, 0, rfl, ParcsAt.nil _ _ _, below_setRow HB.out (by omega) _⟩
              · skip
                have HLR := Lib.hid (turnR_good (now := now) (ser0 := ser0) HF.out HM.out (show t < p.bs.length by omega) (show mm ≤ 255 by omega))
                have y2 := D6.out.cell 2
                simp only [List.getElem?_toArray, List.getElem?_cons_zero, List.getElem?_cons_succ] at y2
                go_upto_region 8 with fail
                obtain ⟨gb, cb, z4, hgb1, hgb2, zb, fb, hcu, hod⟩ := HOD.out.turn HM.out (show t < p.bs.length by omega)
                have HOD := Lib.hid (hod mm)
                have hne6 : g6 ≠ gb := by
                  intro e
                  subst e
                  obtain ⟨cur, g1⟩ := hcu
                  have := D6.out
                  unfold Blk at this
                  rw [this] at g1
                  injection g1 with g1
                  injection g1 with _ g1 _
                  exact absurd g1 (by decide)
                have hxo := xorB_int (p.bs.getD t 0) mm
                have hwm : IntKind.u8.wrap (mm : Int) = (mm : Int) := wraps_u8 _ (by omega) (by omega)
                have ht0 : (0 : Int) ≤ (t : Int) := by omega
                have ht1 : (t : Int) < (p.bs.length : Int) := by omega
                clear hod e4 hcu y4
                generalize p.bs.getD t 0 = x at *
                go_upto_region 9 with fail
                have D6 := Lib.hid (D6.out.other (p := ⟨gb, t, none⟩) hne6 (.int .u8 (xorB x mm : Int)))
                have D2 := Lib.hid (D2.out.other (p := ⟨gb, t, none⟩) (by show w.heap.size + 1 ≠ gb; omega) (.int .u8 (xorB x mm : Int)))
                have HB := Lib.hid (HB.out.setCell (p := ⟨gb, t, none⟩) (by show w.heap.size ≤ gb; omega) (.int .u8 (xorB x mm : Int)))
                clear z4 zb fb y2 hgb2
                generalize (w3.setCell ⟨gb, t, none⟩ (.int .u8 (xorB x mm : Int))) = w5 at *
                go_wp2_with (first
                  | (refine wpList_whole rfl 24 _ rfl g6 rfl D6.out _ Try.underlying24 rfl (by kernel_rfl) ?_)
                  | (refine wpList_store_row rfl 24 _ _ rfl (w.heap.size + 1) #[.int .i64 now, .int .i64 ser0, .slice (some ⟨gq, 0, none⟩) qs.length c2] rfl rfl 24 _ D2.out (by kernel_rfl) rfl (by simp [Value.oneCell']) ?_))
                refine ret_row2 (x := .int .i64 0) rfl rfl rfl (D2.out.setRow #[.int .i64 now, .int .i64 ser0, .slice (some ⟨gq, 0, none⟩) qs.length c2]) ⟨by rw [Try.underlying24], by kernel_rfl⟩ rfl ?_
                rw [HLR.out]
                exact ⟨some ⟨gq, 0, none⟩, c2, by rw [List.length_set], (HOD.out.own.keep fun _ _ _ _ _ h => own_setRow h (by omega) _).at.1, below_setRow HB.out (by omega) _⟩
      · have HN := Lib.hid (HN.out.succ HM.out hs)
        have hde : (p.s != s) = true := by simp [hs]
        clear hs
        go_wp2_with fail
        exact ⟨⟨k + 1, by omega, by go_num, HN.out, D6.out, D2.out, HOD.out, HB.out⟩, by simp [intOf]; omega⟩
    · obtain rfl : k = qs.length := by omega
      clear hlt
      have HF := Lib.hid (fnd_none HN.out)
      have HLR := Lib.hid (turnR_none (now := now) (ser0 := ser0) (at_ := at_) (m := m) HF.out)
      go_wp2_with (refine wpList_store_row rfl 24 _ _ rfl (w.heap.size + 1) #[.int .i64 0, .int .i64 0, .slice none 0 0] rfl rfl 24 _ D2.out (by kernel_rfl) rfl (by simp [Value.oneCell']) ?_)
      refine ret_row2 (x := .int .i64 7) rfl rfl rfl (D2.out.setRow #[.int .i64 0, .int .i64 0, .slice none 0 0]) ⟨by rw [Try.underlying24], by kernel_rfl⟩ rfl ?_
      rw [HLR.out]
      exact ⟨none, 0, rfl, ParcsAt.nil _ _ _, below_setRow HB.out (by omega) _⟩
end Go.Proofs.Ytlcpackmoolngaa.Bu
namespace Go.Proofs.Ytlcpackmoolngaa.Bu
open Go.ChangeShapes Go.WideShapes Go.ChangeAt Go.RowKit Go.Proofs.Ytlcpackmoolngaa.Mem Go.Proofs.Ytlcpackmoolngaa.Op Go.Proofs.Ytlcpackmoolngaa.Sm Go.Proofs.Ytlcpackmoolngaa.Nd Go.Proofs.Ytlcpackmoolngaa.Rws
set_option linter.unusedVariables false
set_option linter.unusedSimpArgs false
set_option maxRecDepth 100000 in
set_option maxHeartbeats 4000000 in
theorem lose_any (now ser0 : Int) (A : Option Addr) (c : Nat) (qs : List Parc) (s : Int) (B : Nat) (w : World) (hB : B ≤ w.heap.size) (hql : qs.length * 56 ≤ 140737488351232) (hq : ParcsAt w B A qs) :
    Calls Try.prog 9 #[.agg #[.int .i64 now, .int .i64 ser0, .slice A qs.length c], .int .i64 s] w fun e w' => SendAs w w' (loseR now ser0 qs s) e := by
  have D1 := Lib.hid (show Blk ((w.alloc (.cells #[.int .i64 now, .int .i64 ser0, .slice A qs.length c] 24)).alloc (.cells #[.int .i64 0, .int .i64 0, .slice none 0 0] 24)) w.heap.size 24 #[.int .i64 now, .int .i64 ser0, .slice A qs.length c] from (Blk.new rfl).alloc _)
  have D2 := Lib.hid (show Blk ((w.alloc (.cells #[.int .i64 now, .int .i64 ser0, .slice A qs.length c] 24)).alloc (.cells #[.int .i64 0, .int .i64 0, .slice none 0 0] 24)) (w.heap.size + 1) 24 #[.int .i64 0, .int .i64 0, .slice none 0 0] from Blk.new (by simp))
  have HB := Lib.hid (((Below.refl w.heap.size w).alloc (Nat.le_refl _) (.cells #[.int .i64 now, .int .i64 ser0, .slice A qs.length c] 24)).alloc (by simp) (.cells #[.int .i64 0, .int .i64 0, .slice none 0 0] 24))
  have HQ := Lib.hid (hq.below (HB.out.mono hB))
  clear hq
  go_enter Try.func9, Try.ntmps9
  go_upto_region 1 with fail
  generalize ((w.alloc (.cells #[.int .i64 now, .int .i64 ser0, .slice A qs.length c] 24)).alloc (.cells #[.int .i64 0, .int .i64 0, .slice none 0 0] 24)) = W at *
  go_wp2_with (refine wpList_whole rfl 24 _ rfl w.heap.size rfl D1.out _ Try.underlying24 rfl (by kernel_rfl) ?_)
  refine (find_any now ser0 s A c qs B W (Nat.le_trans hB HB.out.size) (by omega) HQ.out).mono ?_
  rintro e w1 ⟨rfl, hb⟩
  have HQ := Lib.hid (HQ.out.below (hb.mono (Nat.le_trans hB HB.out.size)))
  have D1 := Lib.hid (D1.out.below hb D1.out.lt)
  have D2 := Lib.hid (D2.out.below hb D2.out.lt)
  have HB := Lib.hid (onward HB.out (Nat.le_refl _) hb)
  clear hb
  cases hf : fnd s qs with
  | none =>
    have HLR := Lib.hid (show loseR now ser0 qs s = (0, 0, [], 7) from by unfold loseR; rw [hf])
    have hz : fndZ s qs = -1 := by unfold fndZ; rw [hf]
    rw [hz]
    clear hf hz
    go_wp2_with (refine wpList_store_row rfl 24 _ _ rfl (w.heap.size + 1) #[.int .i64 0, .int .i64 0, .slice none 0 0] rfl rfl 24 _ D2.out (by kernel_rfl) rfl (by simp [Value.oneCell']) ?_)
    refine ret_row2 (x := .int .i64 7) rfl rfl rfl (D2.out.setRow #[.int .i64 0, .int .i64 0, .slice none 0 0]) ⟨by rw [Try.underlying24], by kernel_rfl⟩ rfl ?_
    rw [HLR.out]
    exact ⟨none, 0, rfl, ParcsAt.nil _ _ _, below_setRow HB.out (by omega) _⟩
  | some k =>
    have HLR := Lib.hid (show loseR now ser0 qs s = (now, ser0, qs.eraseIdx k, 0) from by unfold loseR; rw [hf])
    have hz : fndZ s qs = (k : Int) := by unfold fndZ; rw [hf]
    rw [hz]
    have hw1 : w.heap.size + 1 < w1.heap.size := D2.out.lt
    obtain ⟨p, hp, _⟩ := fnd_at hf
    have hkn : k < qs.length := (List.getElem?_eq_some_iff.1 hp).1
    obtain ⟨j, hj⟩ : ∃ j, j = k + 1 := ⟨_, rfl⟩
    have ew : IntKind.i64.wrap ((k : Int) + 1) = (j : Int) := by rw [IntWalk.i64_in _ (by omega), hj]; rfl
    have HJ := Lib.hid hj
    have hnn : ¬ ((k : Int) < 0) := by omega
    clear hf hz hp hj
    go_wp2_with (refine wpList_whole rfl 24 _ rfl w.heap.size rfl D1.out _ Try.underlying24 rfl (by kernel_rfl) ?_)
    refine (copiedD_any now ser0 A c qs B w1 (Nat.le_trans hB HB.out.size) hql HQ.out).mono ?_
    rintro e w2 ⟨A2, c2, rfl, hod, hb⟩
    have D1 := Lib.hid (D1.out.below hb D1.out.lt)
    have D2 := Lib.hid (D2.out.below hb D2.out.lt)
    have hlt1 := D2.out.lt
    have HB := Lib.hid (onward HB.out (Nat.le_refl _) hb)
    obtain ⟨g, rfl, hg1, hg2, hnc, hcm⟩ := hod.addr (by omega)
    have hcm : c2 ≤ 9223372036854775807 := by unfold maxLen at hcm; omega
    have HOD := Lib.hid hod
    clear hb hod HQ
    go_upto_region 5 with (refine wpList_store_row rfl 24 _ _ rfl w.heap.size #[.int .i64 now, .int .i64 ser0, .slice (some ⟨g, 0, none⟩) qs.length c2] rfl rfl 24 _ D1.out (by kernel_rfl) rfl (by simp [Value.oneCell']) ?_)
    have D2 := Lib.hid (D2.out.setRow_other (g' := w.heap.size) (by omega) #[.int .i64 now, .int .i64 ser0, .slice (some ⟨g, 0, none⟩) qs.length c2])
    have HOD := Lib.hid (HOD.out.keep (w' := w2.setRow w.heap.size #[.int .i64 now, .int .i64 ser0, .slice (some ⟨g, 0, none⟩) qs.length c2]) (Nat.le_refl _) (below_setRow (Below.refl 0 w2) (Nat.zero_le _) _).size fun _ _ _ _ _ _ hle h => own_setRow h (by omega) _)
    have D1 := Lib.hid (D1.out.setRow #[.int .i64 now, .int .i64 ser0, .slice (some ⟨g, 0, none⟩) qs.length c2])
    have HB := Lib.hid (below_setRow HB.out (Nat.le_refl _) #[.int .i64 now, .int .i64 ser0, .slice (some ⟨g, 0, none⟩) qs.length c2])
    generalize (w2.setRow w.heap.size #[.int .i64 now, .int .i64 ser0, .slice (some ⟨g, 0, none⟩) qs.length c2]) = w3 at *
    obtain ⟨xs, hro, hro1, hdel⟩ := deleted_parcs HOD.out hkn
    have CD := Lib.hid (delete_any g c2 qs.length k j HJ xs w1.heap.size w3 hro hkn hnc hcm hro1)
    have HDEL := Lib.hid hdel
    have y2 := D1.out.cell 2
    simp only [List.getElem?_toArray, List.getElem?_cons_zero, List.getElem?_cons_succ] at y2
    clear hro hro1 hdel hcm hnc
    go_wp2_with fail
    refine CD.out.mono ?_
    rintro e w4 ⟨rfl, hd⟩
    obtain ⟨hpa, hbd, _⟩ := HDEL.out w4 hd
    have HP := Lib.hid hpa
    have HB := Lib.hid (hbd _ _ (by omega) HB.out)
    have D1 := Lib.hid (show Blk w4 w.heap.size 24 _ from (hd.2.1.block w.heap.size D1.out.lt (by intro e; have e : some w.heap.size = some g := e; injection e with e; omega)).trans D1.out)
    have D2 := Lib.hid (show Blk w4 (w.heap.size + 1) 24 _ from (hd.2.1.block (w.heap.size + 1) D2.out.lt (by intro e; have e : some (w.heap.size + 1) = some g := e; injection e with e; omega)).trans D2.out)
    have y2 := D1.out.cell 2
    have f2 := D1.out.thaw 2
    simp only [List.getElem?_toArray, List.getElem?_cons_zero, List.getElem?_cons_succ] at y2
    clear hd hpa hbd CD HDEL
    go_upto_region 6 with fail
    have D2 := Lib.hid (D2.out.other (p := ⟨w.heap.size, 2, none⟩) (by show w.heap.size + 1 ≠ w.heap.size; omega) (.slice (some ⟨g, 0, none⟩) (qs.length - 1) c2))
    have HP : Hid (ParcsLo (w4.setCell ⟨w.heap.size, 2, none⟩ (.slice (some ⟨g, 0, none⟩) (qs.length - 1) c2)) w1.heap.size (w4.setCell ⟨w.heap.size, 2, none⟩ (.slice (some ⟨g, 0, none⟩) (qs.length - 1) c2)).heap.size (some ⟨g, 0, none⟩) (qs.eraseIdx k)) := Lib.hid ((HP.out.setCell (by omega) 2 _).keep (by simp) fun _ _ _ _ => rfl)
    have D1 := Lib.hid (show Blk (w4.setCell ⟨w.heap.size, 2, none⟩ (.slice (some ⟨g, 0, none⟩) (qs.length - 1) c2)) w.heap.size 24 #[.int .i64 now, .int .i64 ser0, .slice (some ⟨g, 0, none⟩) (qs.length - 1) c2] from D1.out.set 2 _)
    have HB := Lib.hid (HB.out.setCell (p := ⟨w.heap.size, 2, none⟩) (Nat.le_refl _) (.slice (some ⟨g, 0, none⟩) (qs.length - 1) c2))
    generalize (w4.setCell ⟨w.heap.size, 2, none⟩ (.slice (some ⟨g, 0, none⟩) (qs.length - 1) c2)) = w5 at *
    go_wp2_with (first
      | (refine wpList_whole rfl 24 _ rfl w.heap.size rfl D1.out _ Try.underlying24 rfl (by kernel_rfl) ?_)
      | (refine wpList_store_row rfl 24 _ _ rfl (w.heap.size + 1) #[.int .i64 now, .int .i64 ser0, .slice (some ⟨g, 0, none⟩) (qs.length - 1) c2] rfl rfl 24 _ D2.out (by kernel_rfl) rfl (by simp [Value.oneCell']) ?_))
    refine ret_row2 (x := .int .i64 0) rfl rfl rfl (D2.out.setRow #[.int .i64 now, .int .i64 ser0, .slice (some ⟨g, 0, none⟩) (qs.length - 1) c2]) ⟨by rw [Try.underlying24], by kernel_rfl⟩ rfl ?_
    rw [HLR.out]
    have hlen : (qs.eraseIdx k).length = qs.length - 1 := by rw [List.length_eraseIdx]; simp [hkn]
    exact ⟨some ⟨g, 0, none⟩, c2, by rw [hlen], ((HP.out.setRow (by omega) _).keep (below_setRow (Below.refl 0 w5) (Nat.zero_le _) _).size fun _ _ _ _ => rfl).at, below_setRow HB.out (by omega) _⟩
end Go.Proofs.Ytlcpackmoolngaa.Bu
namespace Go.Proofs.Ytlcpackmoolngaa.Bu
open Go.ChangeShapes Go.WideShapes Go.ChangeAt Go.RowKit Go.Proofs.Ytlcpackmoolngaa.Mem Go.Proofs.Ytlcpackmoolngaa.Op Go.Proofs.Ytlcpackmoolngaa.Sm Go.Proofs.Ytlcpackmoolngaa.Nd Go.Proofs.Ytlcpackmoolngaa.Rws
set_option linter.unusedVariables false
set_option linter.unusedSimpArgs false
set_option maxRecDepth 100000 in
set_option maxHeartbeats 4000000 in
theorem reflose_any (now ser0 : Int) (A : Option Addr) (c : Nat) (qs : List Parc) (s : Int) (B : Nat) (w : World) (hB : B ≤ w.heap.size) (hql : qs.length * 56 ≤ 140737488351232) (hq : ParcsAt w B A qs) :
    Calls Try.prog 11 #[.agg #[.int .i64 now, .int .i64 ser0, .slice A qs.length c], .int .i64 s] w fun e w' => SendAs w w' (loseR now ser0 qs s) e := by
  have D1 := Lib.hid (show Blk ((w.alloc (.cells #[.int .i64 now, .int .i64 ser0, .slice A qs.length c] 24)).alloc (.cells #[.int .i64 0, .int .i64 0, .slice none 0 0] 24)) w.heap.size 24 #[.int .i64 now, .int .i64 ser0, .slice A qs.length c] from (Blk.new rfl).alloc _)
  have D2 := Lib.hid (show Blk ((w.alloc (.cells #[.int .i64 now, .int .i64 ser0, .slice A qs.length c] 24)).alloc (.cells #[.int .i64 0, .int .i64 0, .slice none 0 0] 24)) (w.heap.size + 1) 24 #[.int .i64 0, .int .i64 0, .slice none 0 0] from Blk.new (by simp))
  have HB := Lib.hid (((Below.refl w.heap.size w).alloc (Nat.le_refl _) (.cells #[.int .i64 now, .int .i64 ser0, .slice A qs.length c] 24)).alloc (by simp) (.cells #[.int .i64 0, .int .i64 0, .slice none 0 0] 24))
  have HQ := Lib.hid (hq.below (HB.out.mono hB))
  clear hq
  go_enter Try.func11, Try.ntmps11
  go_upto_region 1 with fail
  generalize ((w.alloc (.cells #[.int .i64 now, .int .i64 ser0, .slice A qs.length c] 24)).alloc (.cells #[.int .i64 0, .int .i64 0, .slice none 0 0] 24)) = W at *
  go_wp2_with (refine wpList_whole rfl 24 _ rfl w.heap.size rfl D1.out _ Try.underlying24 rfl (by kernel_rfl) ?_)
  refine (copybusD_any now ser0 A c qs B W (Nat.le_trans hB HB.out.size) hql HQ.out).mono ?_
  rintro e w1 ⟨A2, c2, rfl, hod, hb⟩
  have hW : w.heap.size + 1 < W.heap.size := D2.out.lt
  have HOD := Lib.hid hod
  have D2 := Lib.hid (D2.out.below hb D2.out.lt)
  have HB := Lib.hid (onward HB.out (Nat.le_refl _) hb)
  have hw1 := D2.out.lt
  have hW1 := hb.size
  clear hb hod HQ D1
  have hb : Below w1.heap.size w1 (w1.alloc (.cells #[.int .i64 0, .int .i64 0, .slice none 0 0] 24)) := (Below.refl _ _).alloc (Nat.le_refl _) _
  have D6 := Lib.hid (show Blk (w1.alloc (.cells #[.int .i64 0, .int .i64 0, .slice none 0 0] 24)) w1.heap.size 24 #[.int .i64 0, .int .i64 0, .slice none 0 0] from Blk.fresh _ _ _)
  have D2 := Lib.hid (D2.out.below hb D2.out.lt)
  have HOD := Lib.hid (HOD.out.below hb)
  have HB := Lib.hid (onward HB.out (Nat.le_refl _) hb)
  clear hb
  go_upto_region 2 with (refine wpList_store_row rfl 24 _ _ rfl w1.heap.size #[.int .i64 now, .int .i64 ser0, .slice A2 qs.length c2] rfl rfl 24 _ D6.out (by kernel_rfl) rfl (by simp [Value.oneCell']) ?_)
  have HOD := Lib.hid (HOD.out.grown (gr_setRow5 _ w1.heap.size #[.int .i64 now, .int .i64 ser0, .slice A2 qs.length c2]) (fun x e => by injection e with e; subst e; exact ⟨_, _, D6.out, by decide, by decide⟩))
  have D2 := Lib.hid (D2.out.setRow_other (g' := w1.heap.size) (by omega) #[.int .i64 now, .int .i64 ser0, .slice A2 qs.length c2])
  have D6 := Lib.hid (D6.out.setRow #[.int .i64 now, .int .i64 ser0, .slice A2 qs.length c2])
  have HB := Lib.hid (below_setRow HB.out (show w.heap.size ≤ w1.heap.size by omega) #[.int .i64 now, .int .i64 ser0, .slice A2 qs.length c2])
  generalize ((w1.alloc (.cells #[.int .i64 0, .int .i64 0, .slice none 0 0] 24)).setRow w1.heap.size #[.int .i64 now, .int .i64 ser0, .slice A2 qs.length c2]) = w2 at *
  obtain ⟨g6, hg6⟩ : ∃ g, w1.heap.size = g := ⟨_, rfl⟩
  rw [hg6] at D6 hw1 hW1 ⊢
  clear hg6
  have y2 := D6.out.cell 2
  simp only [List.getElem?_toArray, List.getElem?_cons_zero, List.getElem?_cons_succ] at y2
  go_wp2_with fail
  clear y2
  go_loopw [14] (fun i wr => ∃ k : Nat, k ≤ qs.length ∧ i = .int .i64 k ∧ NoneTo s qs k ∧ Blk wr g6 24 #[.int .i64 now, .int .i64 ser0, .slice A2 qs.length c2] ∧ Blk wr (w.heap.size + 1) 24 #[.int .i64 0, .int .i64 0, .slice none 0 0] ∧ OwnD wr W.heap.size A2 c2 qs ∧ Below w.heap.size w wr) (fun i _ => qs.length - (intOf i).toNat)
  case atStart => exact ⟨0, by omega, rfl, NoneTo.zero _ _, D6.out, D2.out, HOD.out, HB.out⟩
  case round =>
    clear D6 D2 HOD HB
    obtain ⟨k, hk, rfl, hn, b6, b2, ho, hb⟩ := hrel
    have HN := Lib.hid hn
    have D6 := Lib.hid b6
    have D2 := Lib.hid b2
    have HOD := Lib.hid ho
    have HB := Lib.hid hb
    clear hn b6 b2 ho hb
    by_cases hlt : k < qs.length
    · have hm : qs[k]? = some qs[k] := List.getElem?_eq_getElem hlt
      generalize qs[k] = p at hm
      have HM := Lib.hid hm
      obtain ⟨b, o, a, ca, e, hbB, x0, x1, x2, x3, x4, h2, h3, h4, h5⟩ := HOD.out.own.at.1.at hm
      obtain ⟨gq, e2, hq1, hq2, hnc, hcm⟩ := HOD.out.addr (by omega)
      subst e2
      obtain ⟨rfl, rfl⟩ : gq = b ∧ 0 = o := by injection e with e; injection e with e1 e2; exact ⟨e1, e2⟩
      simp only [Nat.zero_add] at x0 x1 x2 x3 x4
      have hk0 : (0 : Int) ≤ (k : Int) := by omega
      have hk1 : (k : Int) < (qs.length : Int) := by omega
      clear e h5 hm
      go_upto_region 5 with fail
      have hb3 : Below wr.heap.size wr (wr.alloc (.cells #[.int .i64 p.f, .int .i64 p.t, .int .i64 p.d, .int .i64 p.s, .slice a p.bs.length ca] 52)) := (Below.refl _ _).alloc (Nat.le_refl _) _
      have PB := Lib.hid (show Blk (wr.alloc (.cells #[.int .i64 p.f, .int .i64 p.t, .int .i64 p.d, .int .i64 p.s, .slice a p.bs.length ca] 52)) wr.heap.size 52 #[.int .i64 p.f, .int .i64 p.t, .int .i64 p.d, .int .i64 p.s, .slice a p.bs.length ca] from Blk.fresh _ _ _)
      have D6 := Lib.hid (D6.out.below hb3 D6.out.lt)
      have D2 := Lib.hid (D2.out.below hb3 D2.out.lt)
      have HOD := Lib.hid (HOD.out.below hb3)
      have HB := Lib.hid (onward HB.out (Nat.le_refl _) hb3)
      clear hb3 x0 x1 x2 x3 x4 hbB hq2
      generalize (wr.alloc (.cells #[.int .i64 p.f, .int .i64 p.t, .int .i64 p.d, .int .i64 p.s, .slice a p.bs.length ca] 52)) = w3 at *
      obtain ⟨gp, hgp⟩ : ∃ g, wr.heap.size = g := ⟨_, rfl⟩
      rw [hgp] at PB ⊢
      clear hgp
      have y3 := PB.out.cell 3
      simp only [List.getElem?_toArray, List.getElem?_cons_zero, List.getElem?_cons_succ] at y3
      by_cases hs : p.s = s
      · have HF := Lib.hid (fnd_some HN.out HM.out hs)
        have HLR := Lib.hid (show loseR now ser0 qs s = (now, ser0, qs.eraseIdx k, 0) from by unfold loseR; rw [HF.out])
        obtain ⟨j, hj⟩ : ∃ j, j = k + 1 := ⟨_, rfl⟩
        have ew : IntKind.i64.wrap ((k : Int) + 1) = (j : Int) := by rw [IntWalk.i64_in _ (by omega), hj]; rfl
        have HJ := Lib.hid hj
        clear hj
        have hde : decide (p.s = s) = true := by simp [hs]
        go_upto_region 6 with fail
        clear y3 hs hde
        obtain ⟨xs, hro, hro1, hdel⟩ := deleted_parcs HOD.out hlt
        obtain ⟨AS, news, HNW, hAS, HNL, HSRC, HN1, HSP, hkj, hkc, hjc, hjn, hkr⟩ := move_facts hro hlt hnc hro1 HJ
        obtain ⟨i0, hi0, hz0, hz1, hz2⟩ := info_parts elemParcs.info
        obtain ⟨W1, hW1⟩ : ∃ W1, W1 = w3.drew.setCells gq (0 + k * 5) news := ⟨_, rfl⟩
        have HW := Lib.hid hW1
        have hmv : Deleted w3 W1 gq k qs.length xs := by
          rw [hW1, ← HNW.out, Nat.zero_add]; exact moved_of hro.1 hlt (fun j hj => hro.cellAt j hj) 1
        obtain ⟨_, hbd, hop⟩ := hdel W1 hmv
        have HOP := Lib.hid hop
        have HB2 := Lib.hid (hbd w.heap.size w (by omega) HB.out)
        have hne6 : g6 ≠ gq := by
          intro e
          subst e
          obtain ⟨cur, t, g1, g2⟩ := Ms.own_is hro (show 52 ≠ 24 by decide) g6 rfl
          have := D6.out
          unfold Blk at this
          rw [this] at g1
          injection g1 with g1
          injection g1 with _ g1 _
          exact g2 g1.symm
        have E6 := Lib.hid (show Blk W1 g6 24 _ from (hmv.2.1.block g6 D6.out.lt (by intro e; injection e with e; omega)).trans D6.out)
        have E2 := Lib.hid (show Blk W1 (w.heap.size + 1) 24 _ from (hmv.2.1.block (w.heap.size + 1) D2.out.lt (by intro e; injection e with e; omega)).trans D2.out)
        have y2 := D6.out.cell 2
        have z2 := E6.out.cell 2
        have f2 := E6.out.thaw 2
        simp only [List.getElem?_toArray, List.getElem?_cons_zero, List.getElem?_cons_succ] at y2 z2
        clear hro hro1 hdel hmv hbd hop hW1
        have hlen : (qs.eraseIdx k).length = k + (qs.length - j) := by rw [List.length_eraseIdx, if_pos hlt]; have := HJ.out; omega
        have HLE := Lib.hid hlen
        clear hlen
        go_region_law (refine step_append_room rfl (.tmp 26) (.tmp 31) 22 rfl 52 i0 5 Try.underlying22 hi0 hz1 gq 0 k c2 (by simp [Act.eval, Act.put]) AS (qs.length - j) (c2 - j) news (by simp [Act.eval, Act.put]) HNL.out (HSRC.out _) HN1.out hkr (HSP.out 1) ?_; rw [← HW.out])
        all_goals
          have HOP := Lib.hid (own_parcs_set HOP.out E6.out 2 (.slice (some ⟨gq, 0, none⟩) (k + (qs.length - j)) c2))
          have E2 := Lib.hid (E2.out.other (p := ⟨g6, 2, none⟩) (by show w.heap.size + 1 ≠ g6; omega) (.slice (some ⟨gq, 0, none⟩) (k + (qs.length - j)) c2))
          have E6 : Hid (Blk (W1.setCell ⟨g6, 2, none⟩ (.slice (some ⟨gq, 0, none⟩) (k + (qs.length - j)) c2)) g6 24 #[.int .i64 now, .int .i64 ser0, .slice (some ⟨gq, 0, none⟩) (k + (qs.length - j)) c2]) := Lib.hid (E6.out.set 2 _)
          have HB2 := Lib.hid (HB2.out.setCell (p := ⟨g6, 2, none⟩) (by show w.heap.size ≤ g6; omega) (.slice (some ⟨gq, 0, none⟩) (k + (qs.length - j)) c2))
          clear y2 z2 f2
          generalize (W1.setCell ⟨g6, 2, none⟩ (.slice (some ⟨gq, 0, none⟩) (k + (qs.length - j)) c2)) = W5 at *
          go_wp2_with (first
            | (refine wpList_whole rfl 24 _ rfl g6 rfl E6.out _ Try.underlying24 rfl (by kernel_rfl) ?_)
            | (refine wpList_store_row rfl 24 _ _ rfl (w.heap.size + 1) #[.int .i64 now, .int .i64 ser0, .slice (some ⟨gq, 0, none⟩) (k + (qs.length - j)) c2] rfl rfl 24 _ E2.out (by kernel_rfl) rfl (by simp [Value.oneCell']) ?_))
          refine ret_row2 (x := .int .i64 0) rfl rfl rfl (E2.out.setRow #[.int .i64 now, .int .i64 ser0, .slice (some ⟨gq, 0, none⟩) (k + (qs.length - j)) c2]) ⟨by rw [Try.underlying24], by kernel_rfl⟩ rfl ?_
          rw [HLR.out]
          exact ⟨some ⟨gq, 0, none⟩, c2, by rw [HLE.out], (HOP.out.keep fun _ _ _ _ _ h => own_setRow h (by omega) _).at.1, below_setRow HB2.out (by omega) _⟩
      · have HN := Lib.hid (HN.out.succ HM.out hs)
        have hde : (p.s == s) = false := by simp [hs]
        clear hs
        go_wp2_with fail
        exact ⟨⟨k + 1, by omega, by go_num, HN.out, D6.out, D2.out, HOD.out, HB.out⟩, by simp [intOf]; omega⟩
    · obtain rfl : k = qs.length := by omega
      clear hlt
      have HF := Lib.hid (fnd_none HN.out)
      have HLR := Lib.hid (show loseR now ser0 qs s = (0, 0, [], 7) from by unfold loseR; rw [HF.out])
      go_wp2_with (refine wpList_store_row rfl 24 _ _ rfl (w.heap.size + 1) #[.int .i64 0, .int .i64 0, .slice none 0 0] rfl rfl 24 _ D2.out (by kernel_rfl) rfl (by simp [Value.oneCell']) ?_)
      refine ret_row2 (x := .int .i64 7) rfl rfl rfl (D2.out.setRow #[.int .i64 0, .int .i64 0, .slice none 0 0]) ⟨by rw [Try.underlying24], by kernel_rfl⟩ rfl ?_
      rw [HLR.out]
      exact ⟨none, 0, rfl, ParcsAt.nil _ _ _, below_setRow HB.out (by omega) _⟩
end Go.Proofs.Ytlcpackmoolngaa.Bu
namespace Go.Proofs.Ytlcpackmoolngaa.Ss
open Go.Shelf Go.RowKit Go.Lib Go.Sort
def ins_ren : Go.Shelf.Ren := ⟨fun | 20 => 77 | n => n, fun | 24 => 52 | 22 => 22 | 25 => 56 | 3 => 3 | 4 => 4 | 0 => 0 | n => n, fun | n => n⟩
theorem ins_lay : Go.Proofs.SlLaysF0.n20 Try.prog ins_ren := {
  mixed := by kernel_rfl
  f20 := ⟨Try.f77.name, by decide, Try.func77.trans (congrArg some (by kernel_rfl))⟩
  t0 := Try.underlying0
  a0 := Try.isAgg0
  z0 := Try.sizeOf0
  v0 := Try.zeroValue0
  t3 := Try.underlying3
  a3 := Try.isAgg3
  z3 := Try.sizeOf3
  v3 := Try.zeroValue3
  t4 := Try.underlying4
  a4 := Try.isAgg4
  z4 := Try.sizeOf4
  v4 := Try.zeroValue4
  t22 := Try.underlying22
  a22 := Try.isAgg22
  z22 := Try.sizeOf22
  v22 := Try.zeroValue22
  t25 := Try.underlying56
  a25 := Try.isAgg56
  z25 := Try.sizeOf56
  v25 := Try.zeroValue56 }
end Go.Proofs.Ytlcpackmoolngaa.Ss
namespace Go.Proofs.Ytlcpackmoolngaa.Stb
open Go.Sort
set_option linter.unusedVariables false
set_option linter.unusedSimpArgs false
section
variable {α : Type} [Inhabited α] {lt : α → α → Bool}
theorem insInner_perm (l : α → α → Bool) (a b : Nat) : ∀ (j : Nat) (d : Array α), j < b → b ≤ d.size → PermIn a b d (insInner l a j d)
  | 0, d, _, _ => by
    unfold insInner
    exact permIn_refl _ _ _
  | j + 1, d, hj, hb => by
    unfold insInner
    split
    · rename_i hc
      simp only [Bool.and_eq_true, decide_eq_true_eq] at hc
      exact permIn_trans _ _ _ _ _ (swp_permIn d a b (j + 1) j (by omega) hj (by omega) (by omega) hb) (insInner_perm l a b j _ (by omega) (by rw [size_swp]; exact hb))
    · exact permIn_refl _ _ _
theorem insInner_eq (l1 l2 : α → α → Bool) (a : Nat) : ∀ (j : Nat) (d : Array α), j < d.size → (∀ k, a ≤ k → k < j → l1 d[j]! d[k]! = l2 d[j]! d[k]!) → insInner l1 a j d = insInner l2 a j d
  | 0, d, _, _ => by
    unfold insInner
    rfl
  | j + 1, d, hj, h => by
    unfold insInner
    by_cases haj : j + 1 > a
    · rw [h j (by omega) (by omega)]
      split
      · refine insInner_eq l1 l2 a j _ (by rw [size_swp]; omega) fun k h1 h2 => ?_
        rw [swp_right d (j + 1) j (by omega), swp_other d (j + 1) j k (by omega) (by omega)]
        exact h k h1 (by omega)
      · rfl
    · simp [haj]
theorem insOuter_eq (l1 l2 : α → α → Bool) (τ : α → Nat) (hx : ∀ x y, τ x < τ y → l1 y x = l2 y x) (a b : Nat) : ∀ (n i : Nat) (d : Array α), b - i = n → a ≤ i → i ≤ b → b ≤ d.size →
    (∀ k j, a ≤ k → k < j → i ≤ j → j < b → τ d[k]! < τ d[j]!) → insOuter l1 a b i d = insOuter l2 a b i d
  | 0, i, d, hn, hai, hib, hb, h => by
    have e : ∀ l : α → α → Bool, insOuter l a b i d = d := fun l => by
      rw [insOuter]
      exact if_neg (by omega)
    rw [e, e]
  | n + 1, i, d, hn, hai, hib, hb, h => by
    have e : ∀ l : α → α → Bool, insOuter l a b i d = insOuter l a b (i + 1) (insInner l a i d) := fun l => by
      conv => lhs; rw [insOuter]
      exact if_pos (by omega)
    rw [e l1, e l2, insInner_eq l1 l2 a i d (by omega) (fun k h1 h2 => hx _ _ (h k i h1 h2 (Nat.le_refl _) (by omega)))]
    have hp := insInner_perm l2 a (i + 1) i d (by omega) (by omega)
    refine insOuter_eq l1 l2 τ hx a b n (i + 1) _ (by omega) (by omega) (by omega) (by rw [hp.1]; exact hb) fun k j h1 h2 h3 h4 => ?_
    rw [hp.2.1 j (.inr h3)]
    by_cases hk : k < i + 1
    · exact permIn_all d _ a (i + 1) (fun x => τ x < τ d[j]!) (by omega) hp (fun q h5 h6 => h q j h5 (by omega) (by omega) h4) k h1 hk
    · rw [hp.2.1 k (.inr (by omega))]
      exact h k j h1 h2 (by omega) h4
theorem insertion_eq (l1 l2 : α → α → Bool) (τ : α → Nat) (hx : ∀ x y, τ x < τ y → l1 y x = l2 y x) (d : Array α) (a b : Nat) (hb : b ≤ d.size) (h : ∀ k j, a ≤ k → k < j → j < b → τ d[k]! < τ d[j]!) : insertionSort l1 d a b = insertionSort l2 d a b := by
  unfold insertionSort
  by_cases hab : a < b
  · exact insOuter_eq l1 l2 τ hx a b _ (a + 1) d rfl (by omega) hab hb (fun k j h1 h2 _ h4 => h k j h1 h2 h4)
  · have e : ∀ l : α → α → Bool, insOuter l a b (a + 1) d = d := fun l => by
      rw [insOuter]
      exact if_neg (by omega)
    rw [e, e]
def Sw (a b n : Nat) (f g : Array α) : Prop := PermIn a (b + n) f g ∧ (∀ k, k < n → g[a + k]! = f[b + k]! ∧ g[b + k]! = f[a + k]!) ∧ ∀ i, a + n ≤ i → i < b → g[i]! = f[i]!
theorem Sw.zero (a b : Nat) (f : Array α) : Sw a b 0 f f := ⟨permIn_refl _ _ _, fun k h => absurd h (Nat.not_lt_zero _), fun _ _ _ => rfl⟩
theorem Sw.step {a b n : Nat} {f g : Array α} (h : Sw a b n f g) (hab : a + n < b) (hb : b + n < f.size) : Sw a b (n + 1) f (swp g (a + n) (b + n)) := by
  obtain ⟨h1, h2, h3⟩ := h
  have hs := h1.1
  refine ⟨permIn_trans _ _ _ _ _ (permIn_mono _ _ a (b + n) a (b + (n + 1)) (Nat.le_refl _) (by omega) (by omega) h1) (swp_permIn g a (b + (n + 1)) (a + n) (b + n) (by omega) (by omega) (by omega) (by omega) (by omega)), fun k hk => ?_, fun i h4 h5 => ?_⟩
  · by_cases e : k = n
    · subst e
      rw [swp_left g _ _ (by omega) (by omega), swp_right g _ _ (by omega)]
      exact ⟨h1.2.1 _ (.inr (Nat.le_refl _)), h3 _ (Nat.le_refl _) hab⟩
    · rw [swp_other g _ _ _ (by omega) (by omega), swp_other g _ _ _ (by omega) (by omega)]
      exact h2 k (by omega)
  · rw [swp_other g _ _ _ (by omega) (by omega)]
    exact h3 i (by omega) h5
def Rot (s m e : Nat) (f g : Array α) : Prop := PermIn s e f g ∧ (∀ k, k < e - m → g[s + k]! = f[m + k]!) ∧ ∀ k, k < m - s → g[s + (e - m) + k]! = f[s + k]!
theorem rot_big {m i j : Nat} {f f' g : Array α} (hi : i ≤ m) (hij : j < i) (hb : m + j ≤ f.size) (h1 : Sw (m - i) m j f f') (h2 : Rot (m - (i - j)) m (m + j) f' g) : Rot (m - i) m (m + j) f g := by
  obtain ⟨p1, s1, u1⟩ := h1
  obtain ⟨p2, a2, b2⟩ := h2
  refine ⟨permIn_trans _ _ _ _ _ p1 (permIn_mono _ _ _ _ _ _ (by omega) (Nat.le_refl _) (by rw [p1.1]; exact hb) p2), fun k hk => ?_, fun k hk => ?_⟩
  · rw [p2.2.1 (m - i + k) (.inl (by omega))]
    exact (s1 k (by omega)).1
  · by_cases hkj : k < j
    · rw [show m - i + (m + j - m) + k = m - (i - j) + k by omega, a2 k (by omega)]
      exact (s1 k hkj).2
    · rw [show m - i + (m + j - m) + k = m - (i - j) + (m + j - m) + (k - j) by omega, b2 (k - j) (by omega), u1 _ (by omega) (by omega), show m - (i - j) + (k - j) = m - i + k by omega]
theorem rot_small {m i j : Nat} {f f' g : Array α} (hi : i ≤ m) (hij : i < j) (hb : m + j ≤ f.size) (h1 : Sw (m - i) (m + j - i) i f f') (h2 : Rot (m - i) m (m + (j - i)) f' g) : Rot (m - i) m (m + j) f g := by
  obtain ⟨p1, s1, u1⟩ := h1
  obtain ⟨p2, a2, b2⟩ := h2
  rw [show m + j - i + i = m + j by omega] at p1
  refine ⟨permIn_trans _ _ _ _ _ p1 (permIn_mono _ _ _ _ _ _ (Nat.le_refl _) (by omega) (by rw [p1.1]; exact hb) p2), fun k hk => ?_, fun k hk => ?_⟩
  · by_cases hkj : k < j - i
    · rw [a2 k (by omega)]
      exact u1 _ (by omega) (by omega)
    · rw [show m - i + k = m - i + (m + (j - i) - m) + (k - (j - i)) by omega, b2 _ (by omega), (s1 (k - (j - i)) (by omega)).1, show m + j - i + (k - (j - i)) = m + k by omega]
  · rw [p2.2.1 _ (.inr (by omega)), show m - i + (m + j - m) + k = m + j - i + k by omega]
    exact (s1 k (by omega)).2
theorem rot_same {m i : Nat} {f g : Array α} (hi : i ≤ m) (h : Sw (m - i) m i f g) : Rot (m - i) m (m + i) f g :=
  ⟨h.1, fun k hk => (h.2.1 k (by omega)).1, fun k hk => by
    rw [show m - i + (m + i - m) + k = m + k by omega]
    exact (h.2.1 k (by omega)).2⟩
theorem rot_right0 (a : Nat) (f : Array α) : Rot a (a + 1) (a + 1) f f := ⟨permIn_refl _ _ _, fun k hk => absurd hk (by omega), fun k hk => by rw [show a + (a + 1 - (a + 1)) + k = a + k by omega]⟩
theorem rot_right1 {a k : Nat} {f g : Array α} (h : Rot a (a + 1) (k + 1) f g) (hak : a ≤ k) (hb : k + 1 < f.size) : Rot a (a + 1) (k + 2) f (swp g k (k + 1)) := by
  obtain ⟨h1, h2, h3⟩ := h
  have hs := h1.1
  refine ⟨permIn_trans _ _ _ _ _ (permIn_mono _ _ _ _ _ _ (Nat.le_refl _) (by omega) (by omega) h1) (swp_permIn g a (k + 2) k (k + 1) (by omega) (by omega) (by omega) (by omega) (by omega)), fun q hq => ?_, fun q hq => ?_⟩
  · by_cases e : a + q = k
    · rw [e, swp_left g _ _ (by omega) (by omega), h1.2.1 _ (.inr (Nat.le_refl _)), show a + 1 + q = k + 1 by omega]
    · rw [swp_other g _ _ _ (by omega) (by omega)]
      exact h2 q (by omega)
  · have e := h3 0 (by omega)
    rw [show a + (k + 1 - (a + 1)) + 0 = k by omega] at e
    rw [show a + (k + 2 - (a + 1)) + q = k + 1 by omega, swp_right g _ _ (by omega), e, show a + 0 = a + q by omega]
theorem rot_left0 (m : Nat) (f : Array α) : Rot m m (m + 1) f f := ⟨permIn_refl _ _ _, fun k hk => rfl, fun k hk => absurd hk (by omega)⟩
theorem rot_left1 {m k : Nat} {f g : Array α} (h : Rot k m (m + 1) f g) (hk : 0 < k) (hkm : k ≤ m) (hb : m + 1 ≤ f.size) : Rot (k - 1) m (m + 1) f (swp g k (k - 1)) := by
  obtain ⟨h1, h2, h3⟩ := h
  have hs := h1.1
  refine ⟨permIn_trans _ _ _ _ _ (permIn_mono _ _ _ _ _ _ (by omega) (Nat.le_refl _) hb h1) (swp_permIn g (k - 1) (m + 1) k (k - 1) (by omega) (by omega) (by omega) (by omega) (by omega)), fun q hq => ?_, fun q hq => ?_⟩
  · have e := h2 0 (by omega)
    rw [Nat.add_zero] at e
    rw [show k - 1 + q = k - 1 by omega, swp_right g _ _ (by omega), e, show m + 0 = m + q by omega]
  · by_cases e : q = 0
    · subst e
      rw [show k - 1 + (m + 1 - m) + 0 = k by omega, swp_left g _ _ (by omega) (by omega), h1.2.1 _ (.inl (by omega)), Nat.add_zero]
    · have e2 := h3 (q - 1) (by omega)
      rw [show k + (m + 1 - m) + (q - 1) = k - 1 + (m + 1 - m) + q by omega] at e2
      rw [swp_other g _ _ _ (by omega) (by omega), e2, show k + (q - 1) = k - 1 + q by omega]
end
end Go.Proofs.Ytlcpackmoolngaa.Stb
