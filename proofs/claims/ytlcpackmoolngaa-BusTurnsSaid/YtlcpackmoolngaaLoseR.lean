/- Contract: the reference's Lose. -/
import Derived.Test.YtlcpackmoolngaaLose
namespace Go.Proofs.Ytlcpackmoolngaa.Bu
open Go.ChangeShapes Go.WideShapes Go.ChangeAt Go.RowKit Go.Proofs.Ytlcpackmoolngaa.Mem Go.Proofs.Ytlcpackmoolngaa.Op Go.Proofs.Ytlcpackmoolngaa.Sm Go.Proofs.Ytlcpackmoolngaa.Nd Go.Proofs.Ytlcpackmoolngaa.Rws
set_option linter.unusedVariables false
set_option linter.unusedSimpArgs false

set_option maxRecDepth 100000 in
set_option maxHeartbeats 4000000 in
theorem reflose_any (now ser0 : Int) (A : Option Addr) (c : Nat) (qs : List Parc) (s : Int) (B : Nat) (w : World) (hB : B ≤ w.heap.size) (hql : qs.length * 56 ≤ 140737488351232) (hq : ParcsAt w B A qs) :
    Calls Try.prog 11 #[.agg #[.int .i64 now, .int .i64 ser0, .slice A qs.length c], .int .i64 s] w fun e w' => SendAs w w' (loseR now ser0 qs s) e := by
  have D1 := Lib.hid (show Blk ((w.alloc (.cells #[.int .i64 now, .int .i64 ser0, .slice A qs.length c] 24)).alloc (.cells #[.int .i64 0, .int .i64 0, .slice none 0 0] 24)) w.heap.size 24 #[.int .i64 now, .int .i64 ser0, .slice A qs.length c] from (Blk.new rfl).alloc _)
  have D2 := Lib.hid (show Blk ((w.alloc (.cells #[.int .i64 now, .int .i64 ser0, .slice A qs.length c] 24)).alloc (.cells #[.int .i64 0, .int .i64 0, .slice none 0 0] 24)) (w.heap.size + 1) 24 #[.int .i64 0, .int .i64 0, .slice none 0 0] from Blk.new (by simp))
  have HB := Lib.hid (((Below.refl w.heap.size w).alloc (Nat.le_refl _) (.cells #[.int .i64 now, .int .i64 ser0, .slice A qs.length c] 24)).alloc (by simp) (.cells #[.int .i64 0, .int .i64 0, .slice none 0 0] 24))
  have HQ := Lib.hid (hq.below (HB.out.mono hB))
  clear hq
  go_enter Try.func11, Try.ntmps11
  go_upto_region 1 with fail
  generalize ((w.alloc (.cells #[.int .i64 now, .int .i64 ser0, .slice A qs.length c] 24)).alloc (.cells #[.int .i64 0, .int .i64 0, .slice none 0 0] 24)) = W at *
  go_wp2_with (refine wpList_whole rfl 24 _ rfl w.heap.size rfl D1.out _ Try.underlying24 rfl (by kernel_rfl) ?_)
  refine (copybusD_any now ser0 A c qs B W (Nat.le_trans hB HB.out.size) hql HQ.out).mono ?_
  rintro e w1 ⟨A2, c2, rfl, hod, hb⟩
  have hW : w.heap.size + 1 < W.heap.size := D2.out.lt
  have HOD := Lib.hid hod
  have D2 := Lib.hid (D2.out.below hb D2.out.lt)
  have HB := Lib.hid (onward HB.out (Nat.le_refl _) hb)
  have hw1 := D2.out.lt
  have hW1 := hb.size
  clear hb hod HQ D1
  have hb : Below w1.heap.size w1 (w1.alloc (.cells #[.int .i64 0, .int .i64 0, .slice none 0 0] 24)) := (Below.refl _ _).alloc (Nat.le_refl _) _
  have D6 := Lib.hid (show Blk (w1.alloc (.cells #[.int .i64 0, .int .i64 0, .slice none 0 0] 24)) w1.heap.size 24 #[.int .i64 0, .int .i64 0, .slice none 0 0] from Blk.fresh _ _ _)
  have D2 := Lib.hid (D2.out.below hb D2.out.lt)
  have HOD := Lib.hid (HOD.out.below hb)
  have HB := Lib.hid (onward HB.out (Nat.le_refl _) hb)
  clear hb
  go_upto_region 2 with (refine wpList_store_row rfl 24 _ _ rfl w1.heap.size #[.int .i64 now, .int .i64 ser0, .slice A2 qs.length c2] rfl rfl 24 _ D6.out (by kernel_rfl) rfl (by simp [Value.oneCell']) ?_)
  have HOD := Lib.hid (HOD.out.grown (gr_setRow5 _ w1.heap.size #[.int .i64 now, .int .i64 ser0, .slice A2 qs.length c2]) (fun x e => by injection e with e; subst e; exact ⟨_, _, D6.out, by decide, by decide⟩))
  have D2 := Lib.hid (D2.out.setRow_other (g' := w1.heap.size) (by omega) #[.int .i64 now, .int .i64 ser0, .slice A2 qs.length c2])
  have D6 := Lib.hid (D6.out.setRow #[.int .i64 now, .int .i64 ser0, .slice A2 qs.length c2])
  have HB := Lib.hid (below_setRow HB.out (show w.heap.size ≤ w1.heap.size by omega) #[.int .i64 now, .int .i64 ser0, .slice A2 qs.length c2])
  generalize ((w1.alloc (.cells #[.int .i64 0, .int .i64 0, .slice none 0 0] 24)).setRow w1.heap.size #[.int .i64 now, .int .i64 ser0, .slice A2 qs.length c2]) = w2 at *
  obtain ⟨g6, hg6⟩ : ∃ g, w1.heap.size = g := ⟨_, rfl⟩
  rw [hg6] at D6 hw1 hW1 ⊢
  clear hg6
  have y2 := D6.out.cell 2
  simp only [List.getElem?_toArray, List.getElem?_cons_zero, List.getElem?_cons_succ] at y2
  go_wp2_with fail
  clear y2
  go_loopw [14] (fun i wr => ∃ k : Nat, k ≤ qs.length ∧ i = .int .i64 k ∧ NoneTo s qs k ∧ Blk wr g6 24 #[.int .i64 now, .int .i64 ser0, .slice A2 qs.length c2] ∧ Blk wr (w.heap.size + 1) 24 #[.int .i64 0, .int .i64 0, .slice none 0 0] ∧ OwnD wr W.heap.size A2 c2 qs ∧ Below w.heap.size w wr) (fun i _ => qs.length - (intOf i).toNat)
  case atStart => exact ⟨0, by omega, rfl, NoneTo.zero _ _, D6.out, D2.out, HOD.out, HB.out⟩
  case round =>
    clear D6 D2 HOD HB
    obtain ⟨k, hk, rfl, hn, b6, b2, ho, hb⟩ := hrel
    have HN := Lib.hid hn
    have D6 := Lib.hid b6
    have D2 := Lib.hid b2
    have HOD := Lib.hid ho
    have HB := Lib.hid hb
    clear hn b6 b2 ho hb
    by_cases hlt : k < qs.length
    · have hm : qs[k]? = some qs[k] := List.getElem?_eq_getElem hlt
      generalize qs[k] = p at hm
      have HM := Lib.hid hm
      obtain ⟨b, o, a, ca, e, hbB, x0, x1, x2, x3, x4, h2, h3, h4, h5⟩ := HOD.out.own.at.1.at hm
      obtain ⟨gq, e2, hq1, hq2, hnc, hcm⟩ := HOD.out.addr (by omega)
      subst e2
      obtain ⟨rfl, rfl⟩ : gq = b ∧ 0 = o := by injection e with e; injection e with e1 e2; exact ⟨e1, e2⟩
      simp only [Nat.zero_add] at x0 x1 x2 x3 x4
      have hk0 : (0 : Int) ≤ (k : Int) := by omega
      have hk1 : (k : Int) < (qs.length : Int) := by omega
      clear e h5 hm
      go_upto_region 5 with fail
      have hb3 : Below wr.heap.size wr (wr.alloc (.cells #[.int .i64 p.f, .int .i64 p.t, .int .i64 p.d, .int .i64 p.s, .slice a p.bs.length ca] 52)) := (Below.refl _ _).alloc (Nat.le_refl _) _
      have PB := Lib.hid (show Blk (wr.alloc (.cells #[.int .i64 p.f, .int .i64 p.t, .int .i64 p.d, .int .i64 p.s, .slice a p.bs.length ca] 52)) wr.heap.size 52 #[.int .i64 p.f, .int .i64 p.t, .int .i64 p.d, .int .i64 p.s, .slice a p.bs.length ca] from Blk.fresh _ _ _)
      have D6 := Lib.hid (D6.out.below hb3 D6.out.lt)
      have D2 := Lib.hid (D2.out.below hb3 D2.out.lt)
      have HOD := Lib.hid (HOD.out.below hb3)
      have HB := Lib.hid (onward HB.out (Nat.le_refl _) hb3)
      clear hb3 x0 x1 x2 x3 x4 hbB hq2
      generalize (wr.alloc (.cells #[.int .i64 p.f, .int .i64 p.t, .int .i64 p.d, .int .i64 p.s, .slice a p.bs.length ca] 52)) = w3 at *
      obtain ⟨gp, hgp⟩ : ∃ g, wr.heap.size = g := ⟨_, rfl⟩
      rw [hgp] at PB ⊢
      clear hgp
      have y3 := PB.out.cell 3
      simp only [List.getElem?_toArray, List.getElem?_cons_zero, List.getElem?_cons_succ] at y3
      by_cases hs : p.s = s
      · have HF := Lib.hid (fnd_some HN.out HM.out hs)
        have HLR := Lib.hid (show loseR now ser0 qs s = (now, ser0, qs.eraseIdx k, 0) from by unfold loseR; rw [HF.out])
        obtain ⟨j, hj⟩ : ∃ j, j = k + 1 := ⟨_, rfl⟩
        have ew : IntKind.i64.wrap ((k : Int) + 1) = (j : Int) := by rw [IntWalk.i64_in _ (by omega), hj]; rfl
        have HJ := Lib.hid hj
        clear hj
        have hde : decide (p.s = s) = true := by simp [hs]
        go_upto_region 6 with fail
        clear y3 hs hde
        obtain ⟨xs, hro, hro1, hdel⟩ := deleted_parcs HOD.out hlt
        obtain ⟨AS, news, HNW, hAS, HNL, HSRC, HN1, HSP, hkj, hkc, hjc, hjn, hkr⟩ := move_facts hro hlt hnc hro1 HJ
        obtain ⟨i0, hi0, hz0, hz1, hz2⟩ := info_parts elemParcs.info
        obtain ⟨W1, hW1⟩ : ∃ W1, W1 = w3.drew.setCells gq (0 + k * 5) news := ⟨_, rfl⟩
        have HW := Lib.hid hW1
        have hmv : Deleted w3 W1 gq k qs.length xs := by
          rw [hW1, ← HNW.out, Nat.zero_add]; exact moved_of hro.1 hlt (fun j hj => hro.cellAt j hj) 1
        obtain ⟨_, hbd, hop⟩ := hdel W1 hmv
        have HOP := Lib.hid hop
        have HB2 := Lib.hid (hbd w.heap.size w (by omega) HB.out)
        have hne6 : g6 ≠ gq := by
          intro e
          subst e
          obtain ⟨cur, t, g1, g2⟩ := Ms.own_is hro (show 52 ≠ 24 by decide) g6 rfl
          have := D6.out
          unfold Blk at this
          rw [this] at g1
          injection g1 with g1
          injection g1 with _ g1 _
          exact g2 g1.symm
        have E6 := Lib.hid (show Blk W1 g6 24 _ from (hmv.2.1.block g6 D6.out.lt (by intro e; injection e with e; omega)).trans D6.out)
        have E2 := Lib.hid (show Blk W1 (w.heap.size + 1) 24 _ from (hmv.2.1.block (w.heap.size + 1) D2.out.lt (by intro e; injection e with e; omega)).trans D2.out)
        have y2 := D6.out.cell 2
        have z2 := E6.out.cell 2
        have f2 := E6.out.thaw 2
        simp only [List.getElem?_toArray, List.getElem?_cons_zero, List.getElem?_cons_succ] at y2 z2
        clear hro hro1 hdel hmv hbd hop hW1
        have hlen : (qs.eraseIdx k).length = k + (qs.length - j) := by rw [List.length_eraseIdx, if_pos hlt]; have := HJ.out; omega
        have HLE := Lib.hid hlen
        clear hlen
        go_region_law (refine step_append_room rfl (.tmp 26) (.tmp 31) 22 rfl 52 i0 5 Try.underlying22 hi0 hz1 gq 0 k c2 (by simp [Act.eval, Act.put]) AS (qs.length - j) (c2 - j) news (by simp [Act.eval, Act.put]) HNL.out (HSRC.out _) HN1.out hkr (HSP.out 1) ?_; rw [← HW.out])
        all_goals
          have HOP := Lib.hid (own_parcs_set HOP.out E6.out 2 (.slice (some ⟨gq, 0, none⟩) (k + (qs.length - j)) c2))
          have E2 := Lib.hid (E2.out.other (p := ⟨g6, 2, none⟩) (by show w.heap.size + 1 ≠ g6; omega) (.slice (some ⟨gq, 0, none⟩) (k + (qs.length - j)) c2))
          have E6 : Hid (Blk (W1.setCell ⟨g6, 2, none⟩ (.slice (some ⟨gq, 0, none⟩) (k + (qs.length - j)) c2)) g6 24 #[.int .i64 now, .int .i64 ser0, .slice (some ⟨gq, 0, none⟩) (k + (qs.length - j)) c2]) := Lib.hid (E6.out.set 2 _)
          have HB2 := Lib.hid (HB2.out.setCell (p := ⟨g6, 2, none⟩) (by show w.heap.size ≤ g6; omega) (.slice (some ⟨gq, 0, none⟩) (k + (qs.length - j)) c2))
          clear y2 z2 f2
          generalize (W1.setCell ⟨g6, 2, none⟩ (.slice (some ⟨gq, 0, none⟩) (k + (qs.length - j)) c2)) = W5 at *
          go_wp2_with (first
            | (refine wpList_whole rfl 24 _ rfl g6 rfl E6.out _ Try.underlying24 rfl (by kernel_rfl) ?_)
            | (refine wpList_store_row rfl 24 _ _ rfl (w.heap.size + 1) #[.int .i64 now, .int .i64 ser0, .slice (some ⟨gq, 0, none⟩) (k + (qs.length - j)) c2] rfl rfl 24 _ E2.out (by kernel_rfl) rfl (by simp [Value.oneCell']) ?_))
          refine ret_row2 (x := .int .i64 0) rfl rfl rfl (E2.out.setRow #[.int .i64 now, .int .i64 ser0, .slice (some ⟨gq, 0, none⟩) (k + (qs.length - j)) c2]) ⟨by rw [Try.underlying24], by kernel_rfl⟩ rfl ?_
          rw [HLR.out]
          exact ⟨some ⟨gq, 0, none⟩, c2, by rw [HLE.out], (HOP.out.keep fun _ _ _ _ _ h => own_setRow h (by omega) _).at.1, below_setRow HB2.out (by omega) _⟩
      · have HN := Lib.hid (HN.out.succ HM.out hs)
        have hde : (p.s == s) = false := by simp [hs]
        clear hs
        go_wp2_with fail
        exact ⟨⟨k + 1, by omega, by go_num, HN.out, D6.out, D2.out, HOD.out, HB.out⟩, by simp [intOf]; omega⟩
    · obtain rfl : k = qs.length := by omega
      clear hlt
      have HF := Lib.hid (fnd_none HN.out)
      have HLR := Lib.hid (show loseR now ser0 qs s = (0, 0, [], 7) from by unfold loseR; rw [HF.out])
      go_wp2_with (refine wpList_store_row rfl 24 _ _ rfl (w.heap.size + 1) #[.int .i64 0, .int .i64 0, .slice none 0 0] rfl rfl 24 _ D2.out (by kernel_rfl) rfl (by simp [Value.oneCell']) ?_)
      refine ret_row2 (x := .int .i64 7) rfl rfl rfl (D2.out.setRow #[.int .i64 0, .int .i64 0, .slice none 0 0]) ⟨by rw [Try.underlying24], by kernel_rfl⟩ rfl ?_
      rw [HLR.out]
      exact ⟨none, 0, rfl, ParcsAt.nil _ _ _, below_setRow HB.out (by omega) _⟩
end Go.Proofs.Ytlcpackmoolngaa.Bu
