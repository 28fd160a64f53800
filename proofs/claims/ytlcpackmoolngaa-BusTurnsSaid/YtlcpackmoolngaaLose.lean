/- Contract: bus.Lose. -/
import Derived.Test.YtlcpackmoolngaaErase
import Derived.Test.YtlcpackmoolngaaCopyB
import Derived.Test.YtlcpackmoolngaaRes
namespace Go.Proofs.Ytlcpackmoolngaa.Bu
open Go.ChangeShapes Go.WideShapes Go.ChangeAt Go.RowKit Go.Proofs.Ytlcpackmoolngaa.Mem Go.Proofs.Ytlcpackmoolngaa.Op Go.Proofs.Ytlcpackmoolngaa.Sm Go.Proofs.Ytlcpackmoolngaa.Nd Go.Proofs.Ytlcpackmoolngaa.Rws
set_option linter.unusedVariables false
set_option linter.unusedSimpArgs false

set_option maxRecDepth 100000 in
set_option maxHeartbeats 4000000 in
theorem lose_any (now ser0 : Int) (A : Option Addr) (c : Nat) (qs : List Parc) (s : Int) (B : Nat) (w : World) (hB : B ≤ w.heap.size) (hql : qs.length * 56 ≤ 140737488351232) (hq : ParcsAt w B A qs) :
    Calls Try.prog 9 #[.agg #[.int .i64 now, .int .i64 ser0, .slice A qs.length c], .int .i64 s] w fun e w' => SendAs w w' (loseR now ser0 qs s) e := by
  have D1 := Lib.hid (show Blk ((w.alloc (.cells #[.int .i64 now, .int .i64 ser0, .slice A qs.length c] 24)).alloc (.cells #[.int .i64 0, .int .i64 0, .slice none 0 0] 24)) w.heap.size 24 #[.int .i64 now, .int .i64 ser0, .slice A qs.length c] from (Blk.new rfl).alloc _)
  have D2 := Lib.hid (show Blk ((w.alloc (.cells #[.int .i64 now, .int .i64 ser0, .slice A qs.length c] 24)).alloc (.cells #[.int .i64 0, .int .i64 0, .slice none 0 0] 24)) (w.heap.size + 1) 24 #[.int .i64 0, .int .i64 0, .slice none 0 0] from Blk.new (by simp))
  have HB := Lib.hid (((Below.refl w.heap.size w).alloc (Nat.le_refl _) (.cells #[.int .i64 now, .int .i64 ser0, .slice A qs.length c] 24)).alloc (by simp) (.cells #[.int .i64 0, .int .i64 0, .slice none 0 0] 24))
  have HQ := Lib.hid (hq.below (HB.out.mono hB))
  clear hq
  go_enter Try.func9, Try.ntmps9
  go_upto_region 1 with fail
  generalize ((w.alloc (.cells #[.int .i64 now, .int .i64 ser0, .slice A qs.length c] 24)).alloc (.cells #[.int .i64 0, .int .i64 0, .slice none 0 0] 24)) = W at *
  go_wp2_with (refine wpList_whole rfl 24 _ rfl w.heap.size rfl D1.out _ Try.underlying24 rfl (by kernel_rfl) ?_)
  refine (find_any now ser0 s A c qs B W (Nat.le_trans hB HB.out.size) (by omega) HQ.out).mono ?_
  rintro e w1 ⟨rfl, hb⟩
  have HQ := Lib.hid (HQ.out.below (hb.mono (Nat.le_trans hB HB.out.size)))
  have D1 := Lib.hid (D1.out.below hb D1.out.lt)
  have D2 := Lib.hid (D2.out.below hb D2.out.lt)
  have HB := Lib.hid (onward HB.out (Nat.le_refl _) hb)
  clear hb
  cases hf : fnd s qs with
  | none =>
    have HLR := Lib.hid (show loseR now ser0 qs s = (0, 0, [], 7) from by unfold loseR; rw [hf])
    have hz : fndZ s qs = -1 := by unfold fndZ; rw [hf]
    rw [hz]
    clear hf hz
    go_wp2_with (refine wpList_store_row rfl 24 _ _ rfl (w.heap.size + 1) #[.int .i64 0, .int .i64 0, .slice none 0 0] rfl rfl 24 _ D2.out (by kernel_rfl) rfl (by simp [Value.oneCell']) ?_)
    refine ret_row2 (x := .int .i64 7) rfl rfl rfl (D2.out.setRow #[.int .i64 0, .int .i64 0, .slice none 0 0]) ⟨by rw [Try.underlying24], by kernel_rfl⟩ rfl ?_
    rw [HLR.out]
    exact ⟨none, 0, rfl, ParcsAt.nil _ _ _, below_setRow HB.out (by omega) _⟩
  | some k =>
    have HLR := Lib.hid (show loseR now ser0 qs s = (now, ser0, qs.eraseIdx k, 0) from by unfold loseR; rw [hf])
    have hz : fndZ s qs = (k : Int) := by unfold fndZ; rw [hf]
    rw [hz]
    have hw1 : w.heap.size + 1 < w1.heap.size := D2.out.lt
    obtain ⟨p, hp, _⟩ := fnd_at hf
    have hkn : k < qs.length := (List.getElem?_eq_some_iff.1 hp).1
    obtain ⟨j, hj⟩ : ∃ j, j = k + 1 := ⟨_, rfl⟩
    have ew : IntKind.i64.wrap ((k : Int) + 1) = (j : Int) := by rw [IntWalk.i64_in _ (by omega), hj]; rfl
    have HJ := Lib.hid hj
    have hnn : ¬ ((k : Int) < 0) := by omega
    clear hf hz hp hj
    go_wp2_with (refine wpList_whole rfl 24 _ rfl w.heap.size rfl D1.out _ Try.underlying24 rfl (by kernel_rfl) ?_)
    refine (copiedD_any now ser0 A c qs B w1 (Nat.le_trans hB HB.out.size) hql HQ.out).mono ?_
    rintro e w2 ⟨A2, c2, rfl, hod, hb⟩
    have D1 := Lib.hid (D1.out.below hb D1.out.lt)
    have D2 := Lib.hid (D2.out.below hb D2.out.lt)
    have hlt1 := D2.out.lt
    have HB := Lib.hid (onward HB.out (Nat.le_refl _) hb)
    obtain ⟨g, rfl, hg1, hg2, hnc, hcm⟩ := hod.addr (by omega)
    have hcm : c2 ≤ 9223372036854775807 := by unfold maxLen at hcm; omega
    have HOD := Lib.hid hod
    clear hb hod HQ
    go_upto_region 5 with (refine wpList_store_row rfl 24 _ _ rfl w.heap.size #[.int .i64 now, .int .i64 ser0, .slice (some ⟨g, 0, none⟩) qs.length c2] rfl rfl 24 _ D1.out (by kernel_rfl) rfl (by simp [Value.oneCell']) ?_)
    have D2 := Lib.hid (D2.out.setRow_other (g' := w.heap.size) (by omega) #[.int .i64 now, .int .i64 ser0, .slice (some ⟨g, 0, none⟩) qs.length c2])
    have HOD := Lib.hid (HOD.out.keep (w' := w2.setRow w.heap.size #[.int .i64 now, .int .i64 ser0, .slice (some ⟨g, 0, none⟩) qs.length c2]) (Nat.le_refl _) (below_setRow (Below.refl 0 w2) (Nat.zero_le _) _).size fun _ _ _ _ _ _ hle h => own_setRow h (by omega) _)
    have D1 := Lib.hid (D1.out.setRow #[.int .i64 now, .int .i64 ser0, .slice (some ⟨g, 0, none⟩) qs.length c2])
    have HB := Lib.hid (below_setRow HB.out (Nat.le_refl _) #[.int .i64 now, .int .i64 ser0, .slice (some ⟨g, 0, none⟩) qs.length c2])
    generalize (w2.setRow w.heap.size #[.int .i64 now, .int .i64 ser0, .slice (some ⟨g, 0, none⟩) qs.length c2]) = w3 at *
    obtain ⟨xs, hro, hro1, hdel⟩ := deleted_parcs HOD.out hkn
    have CD := Lib.hid (delete_any g c2 qs.length k j HJ xs w1.heap.size w3 hro hkn hnc hcm hro1)
    have HDEL := Lib.hid hdel
    have y2 := D1.out.cell 2
    simp only [List.getElem?_toArray, List.getElem?_cons_zero, List.getElem?_cons_succ] at y2
    clear hro hro1 hdel hcm hnc
    go_wp2_with fail
    refine CD.out.mono ?_
    rintro e w4 ⟨rfl, hd⟩
    obtain ⟨hpa, hbd, _⟩ := HDEL.out w4 hd
    have HP := Lib.hid hpa
    have HB := Lib.hid (hbd _ _ (by omega) HB.out)
    have D1 := Lib.hid (show Blk w4 w.heap.size 24 _ from (hd.2.1.block w.heap.size D1.out.lt (by intro e; have e : some w.heap.size = some g := e; injection e with e; omega)).trans D1.out)
    have D2 := Lib.hid (show Blk w4 (w.heap.size + 1) 24 _ from (hd.2.1.block (w.heap.size + 1) D2.out.lt (by intro e; have e : some (w.heap.size + 1) = some g := e; injection e with e; omega)).trans D2.out)
    have y2 := D1.out.cell 2
    have f2 := D1.out.thaw 2
    simp only [List.getElem?_toArray, List.getElem?_cons_zero, List.getElem?_cons_succ] at y2
    clear hd hpa hbd CD HDEL
    go_upto_region 6 with fail
    have D2 := Lib.hid (D2.out.other (p := ⟨w.heap.size, 2, none⟩) (by show w.heap.size + 1 ≠ w.heap.size; omega) (.slice (some ⟨g, 0, none⟩) (qs.length - 1) c2))
    have HP : Hid (ParcsLo (w4.setCell ⟨w.heap.size, 2, none⟩ (.slice (some ⟨g, 0, none⟩) (qs.length - 1) c2)) w1.heap.size (w4.setCell ⟨w.heap.size, 2, none⟩ (.slice (some ⟨g, 0, none⟩) (qs.length - 1) c2)).heap.size (some ⟨g, 0, none⟩) (qs.eraseIdx k)) := Lib.hid ((HP.out.setCell (by omega) 2 _).keep (by simp) fun _ _ _ _ => rfl)
    have D1 := Lib.hid (show Blk (w4.setCell ⟨w.heap.size, 2, none⟩ (.slice (some ⟨g, 0, none⟩) (qs.length - 1) c2)) w.heap.size 24 #[.int .i64 now, .int .i64 ser0, .slice (some ⟨g, 0, none⟩) (qs.length - 1) c2] from D1.out.set 2 _)
    have HB := Lib.hid (HB.out.setCell (p := ⟨w.heap.size, 2, none⟩) (Nat.le_refl _) (.slice (some ⟨g, 0, none⟩) (qs.length - 1) c2))
    generalize (w4.setCell ⟨w.heap.size, 2, none⟩ (.slice (some ⟨g, 0, none⟩) (qs.length - 1) c2)) = w5 at *
    go_wp2_with (first
      | (refine wpList_whole rfl 24 _ rfl w.heap.size rfl D1.out _ Try.underlying24 rfl (by kernel_rfl) ?_)
      | (refine wpList_store_row rfl 24 _ _ rfl (w.heap.size + 1) #[.int .i64 now, .int .i64 ser0, .slice (some ⟨g, 0, none⟩) (qs.length - 1) c2] rfl rfl 24 _ D2.out (by kernel_rfl) rfl (by simp [Value.oneCell']) ?_))
    refine ret_row2 (x := .int .i64 0) rfl rfl rfl (D2.out.setRow #[.int .i64 now, .int .i64 ser0, .slice (some ⟨g, 0, none⟩) (qs.length - 1) c2]) ⟨by rw [Try.underlying24], by kernel_rfl⟩ rfl ?_
    rw [HLR.out]
    have hlen : (qs.eraseIdx k).length = qs.length - 1 := by rw [List.length_eraseIdx]; simp [hkn]
    exact ⟨some ⟨g, 0, none⟩, c2, by rw [hlen], ((HP.out.setRow (by omega) _).keep (below_setRow (Below.refl 0 w5) (Nat.zero_le _) _).size fun _ _ _ _ => rfl).at, below_setRow HB.out (by omega) _⟩
end Go.Proofs.Ytlcpackmoolngaa.Bu
