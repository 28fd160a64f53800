/- Contracts: cluster.Begin, the reference's BeginCluster; SameCluster. -/
import Derived.Test.YtfaielkkecphbaaNodeB
import Derived.Test.YtfaielkkecphbaaSameN
namespace Go.Proofs.Ytfaielkkecphbaa.Nd
open Go.RowKit Go.Proofs.Ytfaielkkecphbaa.Mem Go.Proofs.Ytfaielkkecphbaa.Rws Go.Proofs.Ytfaielkkecphbaa.Flat
set_option linter.unusedVariables false
set_option linter.unusedSimpArgs false

/-- a cluster's cells at first, k computers laid -/
def cluK (t0 t1 t2 t3 : Int) (k i : Nat) : Value := if i = 0 then .int .i64 0 else if (i - 1) / 74 < k then nodeK ((i - 1) / 74 : Nat) t0 t1 t2 t3 3 ((i - 1) % 74) else node0 ((i - 1) % 74)
theorem cluK_succ (t0 t1 t2 t3 : Int) (k : Nat) (i : Nat) : over (1 + k * 74) 74 (nodeK (k : Int) t0 t1 t2 t3 3) (cluK t0 t1 t2 t3 k) i = cluK t0 t1 t2 t3 (k + 1) i := by
  by_cases h : 1 + k * 74 ≤ i ∧ i < 1 + k * 74 + 74
  · rw [over_in h.1 h.2]
    have e1 : (i - 1) / 74 = k := by omega
    have e2 : (i - 1) % 74 = i - (1 + k * 74) := by omega
    unfold cluK
    rw [if_neg (by omega), e1, e2, if_pos (by omega)]
  · rw [over_out (by omega)]
    unfold cluK
    by_cases h0 : i = 0
    · rw [if_pos h0, if_pos h0]
    · rw [if_neg h0, if_neg h0]
      by_cases h1 : (i - 1) / 74 < k
      · rw [if_pos h1, if_pos (by omega)]
      · rw [if_neg h1, if_neg (show ¬ (i - 1) / 74 < k + 1 by omega)]
theorem node0_one (i : Nat) : (node0 i).oneCell' = true := by unfold node0; (repeat' split) <;> rfl
theorem cluK_one (t0 t1 t2 t3 : Int) (k i : Nat) : (cluK t0 t1 t2 t3 k i).oneCell' = true := by
  unfold cluK
  split
  · rfl
  · split
    · exact nodeK_one _ _ _ _ _ _ _
    · exact node0_one _
set_option maxRecDepth 100000 in
theorem zero_cluster (t0 t1 t2 t3 : Int) : Try.zeroCells89 = row 297 (cluK t0 t1 t2 t3 0) := by
  have h : Try.zeroCells89 = row 297 fun i => if i = 0 then .int .i64 0 else node0 ((i - 1) % 74) := by kernel_rfl
  rw [h]
  refine row_congr fun i _ => ?_
  unfold cluK
  by_cases h0 : i = 0
  · rw [if_pos h0, if_pos h0]
  · rw [if_neg h0, if_neg h0, if_neg (by omega)]

/- the walks -/

set_option maxRecDepth 100000 in
set_option maxHeartbeats 1000000 in
theorem cluster_any (t0 t1 t2 t3 : Int) (w : World) :
    Calls Try.prog 59 #[.agg #[.int .i64 t0, .int .i64 t1, .int .i64 t2, .int .i64 t3]] w fun e w' => e = .returned (.agg (row 297 (cluK t0 t1 t2 t3 4))) ∧ Below w.heap.size w w' := by
  go_enter Try.func59, Try.ntmps59
  go_wp2_with fail
  have D1 : Hid (Blk (((w.alloc (.cells #[.int .i64 t0, .int .i64 t1, .int .i64 t2, .int .i64 t3] 78)).alloc (.cells Try.zeroCells89 89)).alloc (.cells Try.zeroCells89 89)) w.heap.size 78 #[.int .i64 t0, .int .i64 t1, .int .i64 t2, .int .i64 t3]) := Lib.hid (((Blk.new rfl).alloc _).alloc _)
  have D2 : Hid (Blk (((w.alloc (.cells #[.int .i64 t0, .int .i64 t1, .int .i64 t2, .int .i64 t3] 78)).alloc (.cells Try.zeroCells89 89)).alloc (.cells Try.zeroCells89 89)) (w.heap.size + 1) 89 (row 297 (cluK t0 t1 t2 t3 0))) := Lib.hid (by rw [zero_cluster t0 t1 t2 t3]; exact (Blk.new (by simp)).alloc _)
  have D3 : Hid (Blk (((w.alloc (.cells #[.int .i64 t0, .int .i64 t1, .int .i64 t2, .int .i64 t3] 78)).alloc (.cells Try.zeroCells89 89)).alloc (.cells Try.zeroCells89 89)) (w.heap.size + 1 + 1) 89 (row 297 (cluK t0 t1 t2 t3 0))) := Lib.hid (by rw [zero_cluster t0 t1 t2 t3]; exact Blk.new (by simp))
  have HB := Lib.hid (((((Below.refl w.heap.size w).alloc (Nat.le_refl _) (.cells #[.int .i64 t0, .int .i64 t1, .int .i64 t2, .int .i64 t3] 78)).alloc (by simp) (.cells Try.zeroCells89 89)).alloc (by simp; omega) (.cells Try.zeroCells89 89)))
  generalize (((w.alloc (.cells #[.int .i64 t0, .int .i64 t1, .int .i64 t2, .int .i64 t3] 78)).alloc (.cells Try.zeroCells89 89)).alloc (.cells Try.zeroCells89 89)) = W at *
  go_loopw [5] (fun i wr => ∃ k : Nat, k ≤ 4 ∧ i = .int .i64 k ∧ Blk wr w.heap.size 78 #[.int .i64 t0, .int .i64 t1, .int .i64 t2, .int .i64 t3] ∧ Blk wr (w.heap.size + 1) 89 (row 297 (cluK t0 t1 t2 t3 0)) ∧ Blk wr (w.heap.size + 1 + 1) 89 (row 297 (cluK t0 t1 t2 t3 k)) ∧ Below w.heap.size w wr) (fun i _ => 4 - (intOf i).toNat)
  case atStart => exact ⟨0, by omega, rfl, D1.out, D2.out, D3.out, HB.out⟩
  case round =>
    clear D1 D2 D3 HB
    obtain ⟨k, hk, rfl, d1, d2, d3, hb⟩ := hrel
    have D1 := Lib.hid d1
    have D2 := Lib.hid d2
    have D3 := Lib.hid d3
    have HB := Lib.hid hb
    have x0 := d1.cell 0
    have x1 := d1.cell 1
    have x2 := d1.cell 2
    have x3 := d1.cell 3
    simp only [List.getElem?_toArray, List.getElem?_cons_zero, List.getElem?_cons_succ] at x0 x1 x2 x3
    clear d1 d2 d3 hb
    by_cases hlt : k < 4
    · go_wp2_with fail
      refine (nodeBegin_yes (k : Int) t0 t1 t2 t3 _ (by omega) (by omega)).mono ?_
      rintro e w1 ⟨rfl, hb1⟩
      have E1 := Lib.hid (D1.out.below hb1 D1.out.lt)
      have E2 := Lib.hid (D2.out.below hb1 D2.out.lt)
      have E3 := Lib.hid (D3.out.below hb1 D3.out.lt)
      have HB1 := Lib.hid (onward HB.out (Nat.le_refl _) hb1)
      have hi74 : (Try.prog.info? 86).map (·.size) = some (row 74 (nodeK (k : Int) t0 t1 t2 t3 3)).size := by rw [row_size]; kernel_rfl
      have hth : w1.there (w.heap.size + 1 + 1) (1 + k * 74) (row 74 (nodeK (k : Int) t0 t1 t2 t3 3)).size := by rw [row_size]; exact row_there E3.out (1 + k * 74) 74 (by omega)
      have h174 : (row 74 (nodeK (k : Int) t0 t1 t2 t3 3)).all (·.oneCell') = true := row_one fun i _ => nodeK_one _ _ _ _ _ _ i
      obtain ⟨R, hRR⟩ : ∃ R, row 74 (nodeK (k : Int) t0 t1 t2 t3 3) = R := ⟨_, rfl⟩
      have HRR := Lib.hid hRR
      rw [hRR] at hi74 hth h174 ⊢
      clear hRR hb1 x0 x1 x2 x3
      go_wp2_with (refine wpList_wanted rfl (fun K hK => ?_); refine wp_store_mid 86 _ _ rfl (w.heap.size + 1 + 1) (1 + k * 74) R rfl rfl hth hi74 h174 (hK _ _ ?_))
      rw [← HRR.out]
      refine ⟨⟨k + 1, by omega, by go_num, blk_mid_other (w := w1) (by omega) _ _ _ E1.out, blk_mid_other (w := w1) (by omega) _ _ _ E2.out, ?_, below_setCells (by omega) _ _ HB1.out⟩, by simp [intOf]; omega⟩
      have := blk_mid E3.out (1 + k * 74) 74 (nodeK (k : Int) t0 t1 t2 t3 3)
      rw [row_congr (fun i _ => cluK_succ t0 t1 t2 t3 k i)] at this
      exact this
    · obtain rfl : k = 4 := by omega
      clear hlt x0 x1 x2 x3
      have hi : (Try.prog.info? 89).map (·.size) = some (row 297 (cluK t0 t1 t2 t3 4)).size := by rw [row_size]; kernel_rfl
      have h1 : (row 297 (cluK t0 t1 t2 t3 4)).all (·.oneCell') = true := row_one fun i _ => cluK_one _ _ _ _ _ i
      have hs : (row 297 (cluK t0 t1 t2 t3 0)).size = (row 297 (cluK t0 t1 t2 t3 4)).size := by rw [row_size, row_size]
      obtain ⟨R, hRR⟩ : ∃ R, row 297 (cluK t0 t1 t2 t3 4) = R := ⟨_, rfl⟩
      have HRR := Lib.hid hRR
      rw [hRR] at D3 hi h1 hs
      clear hRR
      go_wp2_with (first
        | (refine wpList_whole rfl 89 _ rfl (w.heap.size + 1 + 1) rfl D3.out _ Try.underlying89 rfl hi ?_)
        | (refine wpList_store_row rfl 89 _ _ rfl (w.heap.size + 1) R rfl rfl 89 _ D2.out hi hs h1 ?_))
      exact ret_row rfl rfl (D2.out.setRow R) Try.underlying89 rfl hi rfl ⟨by rw [HRR.out], below_setRow HB.out (by omega) _⟩

set_option maxRecDepth 100000 in
set_option maxHeartbeats 1000000 in
theorem refcluster_any (t0 t1 t2 t3 : Int) (w : World) :
    Calls Try.prog 60 #[.agg #[.int .i64 t0, .int .i64 t1, .int .i64 t2, .int .i64 t3]] w fun e w' => e = .returned (.agg (row 297 (cluK t0 t1 t2 t3 4))) ∧ Below w.heap.size w w' := by
  go_enter Try.func60, Try.ntmps60
  go_wp2_with fail
  have D1 : Hid (Blk (((w.alloc (.cells #[.int .i64 t0, .int .i64 t1, .int .i64 t2, .int .i64 t3] 78)).alloc (.cells Try.zeroCells89 89)).alloc (.cells Try.zeroCells89 89)) w.heap.size 78 #[.int .i64 t0, .int .i64 t1, .int .i64 t2, .int .i64 t3]) := Lib.hid (((Blk.new rfl).alloc _).alloc _)
  have D2 : Hid (Blk (((w.alloc (.cells #[.int .i64 t0, .int .i64 t1, .int .i64 t2, .int .i64 t3] 78)).alloc (.cells Try.zeroCells89 89)).alloc (.cells Try.zeroCells89 89)) (w.heap.size + 1) 89 (row 297 (cluK t0 t1 t2 t3 0))) := Lib.hid (by rw [zero_cluster t0 t1 t2 t3]; exact (Blk.new (by simp)).alloc _)
  have D3 : Hid (Blk (((w.alloc (.cells #[.int .i64 t0, .int .i64 t1, .int .i64 t2, .int .i64 t3] 78)).alloc (.cells Try.zeroCells89 89)).alloc (.cells Try.zeroCells89 89)) (w.heap.size + 1 + 1) 89 (row 297 (cluK t0 t1 t2 t3 0))) := Lib.hid (by rw [zero_cluster t0 t1 t2 t3]; exact Blk.new (by simp))
  have HB := Lib.hid (((((Below.refl w.heap.size w).alloc (Nat.le_refl _) (.cells #[.int .i64 t0, .int .i64 t1, .int .i64 t2, .int .i64 t3] 78)).alloc (by simp) (.cells Try.zeroCells89 89)).alloc (by simp; omega) (.cells Try.zeroCells89 89)))
  generalize (((w.alloc (.cells #[.int .i64 t0, .int .i64 t1, .int .i64 t2, .int .i64 t3] 78)).alloc (.cells Try.zeroCells89 89)).alloc (.cells Try.zeroCells89 89)) = W at *
  go_loopw [5] (fun i wr => ∃ k : Nat, k ≤ 4 ∧ i = .int .i64 k ∧ Blk wr w.heap.size 78 #[.int .i64 t0, .int .i64 t1, .int .i64 t2, .int .i64 t3] ∧ Blk wr (w.heap.size + 1) 89 (row 297 (cluK t0 t1 t2 t3 0)) ∧ Blk wr (w.heap.size + 1 + 1) 89 (row 297 (cluK t0 t1 t2 t3 k)) ∧ Below w.heap.size w wr) (fun i _ => 4 - (intOf i).toNat)
  case atStart => exact ⟨0, by omega, rfl, D1.out, D2.out, D3.out, HB.out⟩
  case round =>
    clear D1 D2 D3 HB
    obtain ⟨k, hk, rfl, d1, d2, d3, hb⟩ := hrel
    have D1 := Lib.hid d1
    have D2 := Lib.hid d2
    have D3 := Lib.hid d3
    have HB := Lib.hid hb
    have x0 := d1.cell 0
    have x1 := d1.cell 1
    have x2 := d1.cell 2
    have x3 := d1.cell 3
    simp only [List.getElem?_toArray, List.getElem?_cons_zero, List.getElem?_cons_succ] at x0 x1 x2 x3
    clear d1 d2 d3 hb
    by_cases hlt : k < 4
    · go_wp2_with fail
      refine (refBegin_yes (k : Int) t0 t1 t2 t3 _ (by omega) (by omega)).mono ?_
      rintro e w1 ⟨rfl, hb1⟩
      have E1 := Lib.hid (D1.out.below hb1 D1.out.lt)
      have E2 := Lib.hid (D2.out.below hb1 D2.out.lt)
      have E3 := Lib.hid (D3.out.below hb1 D3.out.lt)
      have HB1 := Lib.hid (onward HB.out (Nat.le_refl _) hb1)
      have hi74 : (Try.prog.info? 86).map (·.size) = some (row 74 (nodeK (k : Int) t0 t1 t2 t3 3)).size := by rw [row_size]; kernel_rfl
      have hth : w1.there (w.heap.size + 1 + 1) (1 + k * 74) (row 74 (nodeK (k : Int) t0 t1 t2 t3 3)).size := by rw [row_size]; exact row_there E3.out (1 + k * 74) 74 (by omega)
      have h174 : (row 74 (nodeK (k : Int) t0 t1 t2 t3 3)).all (·.oneCell') = true := row_one fun i _ => nodeK_one _ _ _ _ _ _ i
      obtain ⟨R, hRR⟩ : ∃ R, row 74 (nodeK (k : Int) t0 t1 t2 t3 3) = R := ⟨_, rfl⟩
      have HRR := Lib.hid hRR
      rw [hRR] at hi74 hth h174 ⊢
      clear hRR hb1 x0 x1 x2 x3
      go_wp2_with (refine wpList_wanted rfl (fun K hK => ?_); refine wp_store_mid 86 _ _ rfl (w.heap.size + 1 + 1) (1 + k * 74) R rfl rfl hth hi74 h174 (hK _ _ ?_))
      rw [← HRR.out]
      refine ⟨⟨k + 1, by omega, by go_num, blk_mid_other (w := w1) (by omega) _ _ _ E1.out, blk_mid_other (w := w1) (by omega) _ _ _ E2.out, ?_, below_setCells (by omega) _ _ HB1.out⟩, by simp [intOf]; omega⟩
      have := blk_mid E3.out (1 + k * 74) 74 (nodeK (k : Int) t0 t1 t2 t3 3)
      rw [row_congr (fun i _ => cluK_succ t0 t1 t2 t3 k i)] at this
      exact this
    · obtain rfl : k = 4 := by omega
      clear hlt x0 x1 x2 x3
      have hi : (Try.prog.info? 89).map (·.size) = some (row 297 (cluK t0 t1 t2 t3 4)).size := by rw [row_size]; kernel_rfl
      have h1 : (row 297 (cluK t0 t1 t2 t3 4)).all (·.oneCell') = true := row_one fun i _ => cluK_one _ _ _ _ _ i
      have hs : (row 297 (cluK t0 t1 t2 t3 0)).size = (row 297 (cluK t0 t1 t2 t3 4)).size := by rw [row_size, row_size]
      obtain ⟨R, hRR⟩ : ∃ R, row 297 (cluK t0 t1 t2 t3 4) = R := ⟨_, rfl⟩
      have HRR := Lib.hid hRR
      rw [hRR] at D3 hi h1 hs
      clear hRR
      go_wp2_with (first
        | (refine wpList_whole rfl 89 _ rfl (w.heap.size + 1 + 1) rfl D3.out _ Try.underlying89 rfl hi ?_)
        | (refine wpList_store_row rfl 89 _ _ rfl (w.heap.size + 1) R rfl rfl 89 _ D2.out hi hs h1 ?_))
      exact ret_row rfl rfl (D2.out.setRow R) Try.underlying89 rfl hi rfl ⟨by rw [HRR.out], below_setRow HB.out (by omega) _⟩
end Go.Proofs.Ytfaielkkecphbaa.Nd
