/- Contract: the reference's RollStep. -/
import Derived.Test.YtjfllpmiajkenaaStepM
namespace Go.Proofs.Ytjfllpmiajkenaa.Nd
open Go.RowKit Go.Proofs.Ytjfllpmiajkenaa.Mem Go.Proofs.Ytjfllpmiajkenaa.Rws
set_option linter.unusedVariables false
set_option linter.unusedSimpArgs false

set_option maxRecDepth 100000 in
set_option maxHeartbeats 4000000 in
theorem refstep_any (s : RS) (v : Int) (st : Bool) (A : Option Addr) (c : Nat) (bs : List Bool) (B : Nat) (w : World) (hB : B ≤ w.heap.size) (hl : bs.length ≤ 140737488351232) (hr : Rd w B 1 A bs.length (boolsV bs)) :
    Calls Try.prog 53 #[.agg s.row, .agg (verC v st A bs.length c)] w fun e w' => StepAs w w' (stepR s st bs) e := by
  have HR := Lib.hid hr
  have is : ∀ s : RS, (Try.prog.info? 30).map (·.size) = some s.row.size := fun s => by unfold RS.row; rw [row_size]; kernel_rfl
  have zs : ∀ s : RS, (#[.bool false, .bool false, .bool false, .bool false, .int .i64 0, .int .i64 0, .int .i64 0, .int .i64 0, .int .i64 0, .int .i64 0, .int .i64 0, .int .i64 0] : Array Value).size = s.row.size := fun s => by unfold RS.row; rw [row_size]; rfl
  have IS := Lib.hid is
  have ZS := Lib.hid zs
  clear hr is zs
  have hok : ∀ w, Calls Try.prog 85 #[.agg s.row] w fun e w' => e = .returned (.bool (okTo s.f s.m s.j 4)) ∧ Below w.heap.size w w' := fun w => refgood_any s.f s.m s.j w
  have HGD := Lib.hid hok
  clear hok
  obtain ⟨Ro, hRo⟩ : ∃ Ro, s.row = Ro := ⟨_, rfl⟩
  have HRo := Lib.hid hRo
  rw [hRo] at HGD ⊢
  have iR : (Try.prog.info? 30).map (·.size) = some Ro.size := by rw [← hRo]; exact IS.out s
  have zR : (#[.bool false, .bool false, .bool false, .bool false, .int .i64 0, .int .i64 0, .int .i64 0, .int .i64 0, .int .i64 0, .int .i64 0, .int .i64 0, .int .i64 0] : Array Value).size = Ro.size := by rw [← hRo]; exact ZS.out s
  have oR : Ro.all (·.oneCell') = true := by rw [← hRo]; exact row_roll_one s
  have iZ : (Try.prog.info? 30).map (·.size) = some (#[.bool false, .bool false, .bool false, .bool false, .int .i64 0, .int .i64 0, .int .i64 0, .int .i64 0, .int .i64 0, .int .i64 0, .int .i64 0, .int .i64 0] : Array Value).size := by kernel_rfl
  have oZ : (#[.bool false, .bool false, .bool false, .bool false, .int .i64 0, .int .i64 0, .int .i64 0, .int .i64 0, .int .i64 0, .int .i64 0, .int .i64 0, .int .i64 0] : Array Value).all (·.oneCell') = true := by simp [Value.oneCell']
  clear hRo
  have HZo := Lib.hid zero_roll
  have W1 := Lib.hid (show Blk (((w.alloc (.cells Ro 30)).alloc (.cells (verC v st A bs.length c) 35)).alloc (.cells #[.bool false, .bool false, .bool false, .bool false, .int .i64 0, .int .i64 0, .int .i64 0, .int .i64 0, .int .i64 0, .int .i64 0, .int .i64 0, .int .i64 0] 30)) w.heap.size 30 Ro from ((Blk.new rfl).alloc _).alloc _)
  have W2 := Lib.hid (show Blk (((w.alloc (.cells Ro 30)).alloc (.cells (verC v st A bs.length c) 35)).alloc (.cells #[.bool false, .bool false, .bool false, .bool false, .int .i64 0, .int .i64 0, .int .i64 0, .int .i64 0, .int .i64 0, .int .i64 0, .int .i64 0, .int .i64 0] 30)) (w.heap.size + 1) 35 (verC v st A bs.length c) from (Blk.new (by simp)).alloc _)
  have W3 : Hid (Blk (((w.alloc (.cells Ro 30)).alloc (.cells (verC v st A bs.length c) 35)).alloc (.cells #[.bool false, .bool false, .bool false, .bool false, .int .i64 0, .int .i64 0, .int .i64 0, .int .i64 0, .int .i64 0, .int .i64 0, .int .i64 0, .int .i64 0] 30)) (w.heap.size + 1 + 1) 30 #[.bool false, .bool false, .bool false, .bool false, .int .i64 0, .int .i64 0, .int .i64 0, .int .i64 0, .int .i64 0, .int .i64 0, .int .i64 0, .int .i64 0]) := Lib.hid (Blk.new (by simp))
  have WB := Lib.hid ((((Below.refl w.heap.size w).alloc (Nat.le_refl _) (.cells Ro 30)).alloc (by simp) (.cells (verC v st A bs.length c) 35)).alloc (by simp; omega) (.cells #[.bool false, .bool false, .bool false, .bool false, .int .i64 0, .int .i64 0, .int .i64 0, .int .i64 0, .int .i64 0, .int .i64 0, .int .i64 0, .int .i64 0] 30))
  unfold verC at *
  go_enter Try.func53, Try.ntmps53
  go_upto_region 1 with fail
  generalize (((w.alloc (.cells Ro 30)).alloc (.cells #[.int .i64 v, .bool st, .slice A bs.length c] 35)).alloc (.cells #[.bool false, .bool false, .bool false, .bool false, .int .i64 0, .int .i64 0, .int .i64 0, .int .i64 0, .int .i64 0, .int .i64 0, .int .i64 0, .int .i64 0] 30)) = W at *
  have y1 := W2.out.cell 1
  have y2 := W2.out.cell 2
  simp only [List.getElem?_toArray, List.getElem?_cons_zero, List.getElem?_cons_succ] at y1 y2
  by_cases h4 : bs.length = 4
  · have e4 : ((bs.length : Int) != 4) = false := by rw [h4]; rfl
    have H4 := Lib.hid h4
    cases hok : okTo s.f s.m s.j 4 with
    | false =>
      rw [hok] at HGD
      have HSR := Lib.hid (show stepR s st bs = (zeroRS, [], 3) by unfold stepR; rw [if_neg (by omega), if_pos hok])
      clear hok h4
      go_wp2_with (refine wpList_whole rfl 30 _ rfl w.heap.size rfl W1.out _ Try.underlying30 rfl iR ?_)
      refine (HGD.out _).mono ?_
      rintro e w2 ⟨rfl, hb⟩
      have X3 := Lib.hid (W3.out.below hb W3.out.lt)
      have XB := Lib.hid (onward WB.out (Nat.le_refl _) hb)
      clear hb
      go_wp2_with (refine wpList_store_row rfl 30 _ _ rfl (w.heap.size + 1 + 1) #[.bool false, .bool false, .bool false, .bool false, .int .i64 0, .int .i64 0, .int .i64 0, .int .i64 0, .int .i64 0, .int .i64 0, .int .i64 0, .int .i64 0] rfl rfl 30 _ X3.out iZ rfl oZ ?_)
      refine ret_row3 (x := .slice none 0 0) (y := .int .i64 3) rfl rfl rfl rfl (X3.out.setRow #[.bool false, .bool false, .bool false, .bool false, .int .i64 0, .int .i64 0, .int .i64 0, .int .i64 0, .int .i64 0, .int .i64 0, .int .i64 0, .int .i64 0]) ⟨by rw [Try.underlying30], iZ⟩ rfl ?_
      rw [HSR.out]
      exact ⟨none, 0, by rw [HZo.out]; rfl, Rd.nil _ _ _ _, below_setRow XB.out (by omega) _, fun _ => rfl⟩
    | true =>
      rw [hok] at HGD
      have HOK := Lib.hid (fun i hi => show GoodAt s i from okTo_at hok i hi)
      have hnok : ¬ (okTo s.f s.m s.j 4 = false) := by rw [hok]; decide
      cases st with
      | false =>
        have HSR := Lib.hid (show stepR s false bs = (s, [], 0) by unfold stepR; rw [if_neg (by omega), if_neg hnok, if_pos rfl])
        clear hok h4 hnok
        go_wp2_with (refine wpList_whole rfl 30 _ rfl w.heap.size rfl W1.out _ Try.underlying30 rfl iR ?_)
        refine (HGD.out _).mono ?_
        rintro e w2 ⟨rfl, hb⟩
        have X1 := Lib.hid (W1.out.below hb W1.out.lt)
        have X2 := Lib.hid (W2.out.below hb W2.out.lt)
        have X3 := Lib.hid (W3.out.below hb W3.out.lt)
        have XB := Lib.hid (onward WB.out (Nat.le_refl _) hb)
        have y1 := X2.out.cell 1
        simp only [List.getElem?_toArray, List.getElem?_cons_zero, List.getElem?_cons_succ] at y1
        have zR2 : (#[.bool false, .bool false, .bool false, .bool false, .int .i64 0, .int .i64 0, .int .i64 0, .int .i64 0, .int .i64 0, .int .i64 0, .int .i64 0, .int .i64 0] : Array Value).size = Ro.size := zR
        clear hb
        go_wp2_with fail
        refine wp_loop_rounds 1 ?_
        rw [rounds_succ]
        go_wp2_with (first
          | (refine wpList_whole rfl 30 _ rfl w.heap.size rfl X1.out _ Try.underlying30 rfl iR ?_)
          | (refine wpList_store_row rfl 30 _ _ rfl (w.heap.size + 1 + 1) Ro rfl rfl 30 _ X3.out iR zR2 oR ?_))
        refine ret_row3 (x := .slice none 0 0) (y := .int .i64 0) rfl rfl rfl rfl (X3.out.setRow Ro) ⟨by rw [Try.underlying30], iR⟩ rfl ?_
        rw [HSR.out]
        exact ⟨none, 0, by rw [HRo.out]; rfl, Rd.nil _ _ _ _, below_setRow XB.out (by omega) _, fun _ => rfl⟩
      | true =>
        have HSR := Lib.hid (show stepR s true bs = ((many s (fun i => bs.getD i false) 4).1, (many s (fun i => bs.getD i false) 4).2, 0) by unfold stepR; rw [if_neg (by omega), if_neg hnok, if_neg (by decide)])
        clear hok h4 hnok
        go_wp2_with (refine wpList_whole rfl 30 _ rfl w.heap.size rfl W1.out _ Try.underlying30 rfl iR ?_)
        refine (HGD.out _).mono ?_
        rintro e w2 ⟨rfl, hb⟩
        have X1 := Lib.hid (W1.out.below hb W1.out.lt)
        have X2 := Lib.hid (W2.out.below hb W2.out.lt)
        have X3 := Lib.hid (W3.out.below hb W3.out.lt)
        have XB := Lib.hid (onward WB.out (Nat.le_refl _) hb)
        have y1 := X2.out.cell 1
        have y2 := X2.out.cell 2
        simp only [List.getElem?_toArray, List.getElem?_cons_zero, List.getElem?_cons_succ] at y1 y2
        have zR2 : (#[.bool false, .bool false, .bool false, .bool false, .int .i64 0, .int .i64 0, .int .i64 0, .int .i64 0, .int .i64 0, .int .i64 0, .int .i64 0, .int .i64 0] : Array Value).size = Ro.size := zR
        clear hb W1 W2 W3 WB HGD
        rw [← HRo.out] at X1
        obtain ⟨ag, hag⟩ : ∃ ag : Nat → Bool, (fun i => bs.getD i false) = ag := ⟨_, rfl⟩
        have HAGG := Lib.hid hag
        clear hag
        have h4 := H4.out
        go_wp2_with fail
        go_loopw [7, 8] (fun l i wr => ∃ (k n : Nat) (A' : Option Addr) (c' : Nat), k ≤ 4 ∧ i = .int .i64 k ∧ l = .slice A' n c' ∧ n = (many s ag k).2.length ∧ Blk wr w.heap.size 30 (many s ag k).1.row ∧ Blk wr (w.heap.size + 1) 35 #[.int .i64 v, .bool true, .slice A bs.length c] ∧ Blk wr (w.heap.size + 1 + 1) 30 #[.bool false, .bool false, .bool false, .bool false, .int .i64 0, .int .i64 0, .int .i64 0, .int .i64 0, .int .i64 0, .int .i64 0, .int .i64 0, .int .i64 0] ∧ wr.ownsRow (w.heap.size + 1 + 1 + 1) 125 2 (.slice A' n c') n (changesV (many s ag k).2) ∧ Below w.heap.size w wr) (fun _ i _ => 4 - (intOf i).toNat)
        case atStart => exact ⟨0, 0, none, 0, by omega, rfl, rfl, rfl, X1.out, X2.out, X3.out, World.ownsRow_nil _ _ _ _, XB.out⟩
        case round =>
          clear X1 X2 X3 XB
          obtain ⟨k, n, A', c', hk, rfl, rfl, hn, r1, r2, r3, hlist, rb⟩ := hrel
          have hnl := many_len s ag k
          rw [← hn] at hnl
          have HN2 := Lib.hid hn.symm
          have z1 := r2.cell 1
          simp only [List.getElem?_toArray, List.getElem?_cons_zero, List.getElem?_cons_succ] at z1
          have R1 := Lib.hid r1
          have R2 := Lib.hid r2
          have R3 := Lib.hid r3
          have HL := Lib.hid hlist
          have RB := Lib.hid rb
          clear r1 r2 r3 hlist rb hn
          by_cases hlt : k < 4
          · obtain ⟨b0, o, u, rfl, hbB, hu, hcell⟩ := (HR.out.below (RB.out.mono hB)).at (show k < bs.length by omega)
            rw [boolsV_at bs k (by omega)] at hu
            have hu := (Option.some.inj hu).symm
            subst hu
            have hagk : ag k = bs[k]'(by omega) := by rw [← HAGG.out]; simp [List.getD, show k < bs.length by omega]
            generalize bs[k]'_ = b at *
            have hk0 : (0 : Int) ≤ (k : Int) := by omega
            have hk1 : (k : Int) < (bs.length : Int) := by omega
            have hk4 : (k : Int) < 4 := by omega
            have hgd := many_good s ag k k (Nat.le_refl _) (HOK.out k hlt)
            obtain ⟨S, hS⟩ : ∃ S, (many s ag k).1 = S := ⟨_, rfl⟩
            rw [hS] at hgd
            obtain ⟨f, m, j⟩ := S
            have HS := Lib.hid hS
            have R1 : Hid (Blk wr w.heap.size 30 (row 12 (rollF f m j))) := Lib.hid (by have h := R1.out; rw [hS] at h; exact h)
            have hgd : GoodAt ⟨f, m, j⟩ k := hgd
            clear hS
            obtain ⟨q, hq⟩ : ∃ q, m k = q := ⟨_, rfl⟩
            obtain ⟨p, hp⟩ : ∃ p, j k = p := ⟨_, rfl⟩
            have x1 : wr.cell? ⟨w.heap.size, 4 + k, none⟩ = some (.int .i64 q) := by rw [R1.out.cell, row_at (by omega), rollF_miss hlt, hq]
            have x2 : wr.cell? ⟨w.heap.size, 8 + k, none⟩ = some (.int .i64 p) := by rw [R1.out.cell, row_at (by omega), rollF_join hlt, hp]
            have hqp : 0 ≤ q ∧ q ≤ 2 ∧ 0 ≤ p ∧ p < 3 := by
              cases hf : f k with
              | true => have h := good_in hgd hf; dsimp only at h; omega
              | false => have h := good_out hgd hf; dsimp only at h; omega
            obtain ⟨hq0, hq2, hp0, hp3⟩ := hqp
            have HGK := Lib.hid hgd
            have HQ0 := Lib.hid hq
            have HP0 := Lib.hid hp
            have HAGK := Lib.hid hagk
            clear hgd hq hp hagk
            have z2 := R2.out.cell 2
            simp only [List.getElem?_toArray, List.getElem?_cons_zero, List.getElem?_cons_succ] at z2
            rw [h4] at z2
            go_wp2_with fail
            go_region
            have hcell : wr.drew.cell? ⟨b0, o + k, none⟩ = some (.bool b) := hcell
            have z2 : wr.drew.cell? ⟨w.heap.size + 1, 2, none⟩ = some (.slice (some ⟨b0, o, none⟩) 4 c) := z2
            have R1 := Lib.hid R1.out.drew
            have R2 := Lib.hid R2.out.drew
            have R3 := Lib.hid R3.out.drew
            have HL := Lib.hid (ownsRow_below HL.out ((Below.refl wr.heap.size wr).drew))
            have RB := Lib.hid RB.out.drew
            clear x1 x2 z1
            generalize wr.drew = w3 at *
            have x1 : w3.cell? ⟨w.heap.size, 4 + k, none⟩ = some (.int .i64 q) := by rw [R1.out.cell, row_at (by omega), rollF_miss hlt, HQ0.out]
            have x2 : w3.cell? ⟨w.heap.size, 8 + k, none⟩ = some (.int .i64 p) := by rw [R1.out.cell, row_at (by omega), rollF_join hlt, HP0.out]
            have xi : w3.cell? ⟨w.heap.size, k, none⟩ = some (.bool (f k)) := by rw [R1.out.cell, row_at (by omega), rollF_in hlt]
            have fi := R1.out.thaw k
            have fm := R1.out.thaw (4 + k)
            have fj := R1.out.thaw (8 + k)
            have ewq : IntKind.i64.wrap (q + 1) = q + 1 := IntWalk.i64_in _ (by omega)
            have ewp : IntKind.i64.wrap (p + 1) = p + 1 := IntWalk.i64_in _ (by omega)
            have i3 : (Try.prog.info? 30).map (·.size) = some (row 12 (rollF f m j)).size := by rw [row_size]; kernel_rfl
            cases hf : f k with
            | true =>
              rw [hf] at xi
              have HF := Lib.hid hf
              clear hf
              cases b with
              | true =>
                have HONE := Lib.hid (show one ⟨f, m, j⟩ k true = (⟨f, upd m k 0, j⟩, []) by unfold one; rw [if_pos HF.out, if_pos rfl])
                go_wp2_with fail
                refine ⟨⟨k + 1, n, A', c', by omega, by go_num, rfl, ?_, ?_, R2.out.other (p := ⟨w.heap.size, 4 + k, none⟩) (by show w.heap.size + 1 ≠ w.heap.size; omega) _, R3.out.other (p := ⟨w.heap.size, 4 + k, none⟩) (by show w.heap.size + 1 + 1 ≠ w.heap.size; omega) _, ?_, RB.out.setCell (p := ⟨w.heap.size, 4 + k, none⟩) (Nat.le_refl _) _⟩, by simp [intOf]; omega⟩
                · rw [many_succ, HS.out, HAGK.out, HONE.out, List.append_nil, HN2.out]
                · rw [show (many s ag (k + 1)).1 = (one (many s ag k).1 k (ag k)).1 from rfl, HS.out, HAGK.out, HONE.out]
                  have h := R1.out.set (4 + k) (.int .i64 0)
                  rw [roll_miss _ _ _ k hlt] at h
                  exact h
                · rw [many_succ, HS.out, HAGK.out, HONE.out, List.append_nil]; exact Vt.own_setCell HL.out (by omega) _
              | false =>
                by_cases hq1 : q + 1 < 2
                · have hd : decide (2 ≤ q + 1) = false := decide_eq_false (by omega)
                  have HONE := Lib.hid (show one ⟨f, m, j⟩ k false = (⟨f, upd m k (q + 1), j⟩, []) by unfold one; dsimp only; rw [if_pos HF.out, if_neg (by decide), if_neg (by rw [HQ0.out]; omega), HQ0.out, show min (q + 1) 2 = q + 1 by omega])
                  go_wp2_with fail
                  refine ⟨⟨k + 1, n, A', c', by omega, by go_num, rfl, ?_, ?_, R2.out.other (p := ⟨w.heap.size, 4 + k, none⟩) (by show w.heap.size + 1 ≠ w.heap.size; omega) _, R3.out.other (p := ⟨w.heap.size, 4 + k, none⟩) (by show w.heap.size + 1 + 1 ≠ w.heap.size; omega) _, ?_, RB.out.setCell (p := ⟨w.heap.size, 4 + k, none⟩) (Nat.le_refl _) _⟩, by simp [intOf]; omega⟩
                  · rw [many_succ, HS.out, HAGK.out, HONE.out, List.append_nil, HN2.out]
                  · rw [show (many s ag (k + 1)).1 = (one (many s ag k).1 k (ag k)).1 from rfl, HS.out, HAGK.out, HONE.out]
                    have h := R1.out.set (4 + k) (.int .i64 (q + 1))
                    rw [roll_miss _ _ _ k hlt] at h
                    exact h
                  · rw [many_succ, HS.out, HAGK.out, HONE.out, List.append_nil]; exact Vt.own_setCell HL.out (by omega) _
                · have hd : decide (2 ≤ q + 1) = true := decide_eq_true (by omega)
                  have hq1 : 2 ≤ q + 1 := by omega
                  go_upto_region 13 with fail
                  refine wp_region_list ?_
                  iterate 10
                    refine wpList_wanted (by rfl) (fun K hK => ?_)
                    go_simp
                    try simp only [hd]
                    refine hK _ _ ?_
                    clear hK K
                    try simp only [Act.put, List.setIfInBounds_toArray, List.set_cons_zero, List.set_cons_succ]
                  refine wpList_whole (by rfl) 30 _ rfl w.heap.size rfl R1.out _ Try.underlying30 rfl i3 ?_
                  try simp only [Act.put, List.setIfInBounds_toArray, List.set_cons_zero, List.set_cons_succ]
                  refine wpList_wanted (by rfl) (fun K hK => ?_)
                  go_simp
                  go_at_call 86
                  refine (refcount_any f m j _).mono ?_
                  rintro e w4 ⟨rfl, hb⟩
                  have hc4 := cntTo_le f 4
                  obtain ⟨C, hC⟩ : ∃ C : Int, (cntTo f 4 : Int) = C := ⟨_, rfl⟩
                  rw [hC]
                  have R1 := Lib.hid (R1.out.below hb R1.out.lt)
                  have R2 := Lib.hid (R2.out.below hb R2.out.lt)
                  have R3 := Lib.hid (R3.out.below hb R3.out.lt)
                  have HL := Lib.hid (ownsRow_below HL.out hb)
                  have RB := Lib.hid (onward RB.out (Nat.le_refl _) hb)
                  have x1 : w4.cell? ⟨w.heap.size, 4 + k, none⟩ = some (.int .i64 q) := by rw [R1.out.cell, row_at (by omega), rollF_miss hlt, HQ0.out]
                  have xi : w4.cell? ⟨w.heap.size, k, none⟩ = some (.bool true) := by rw [R1.out.cell, row_at (by omega), rollF_in hlt, HF.out]
                  have fi := R1.out.thaw k
                  have fm := R1.out.thaw (4 + k)
                  clear hb hcell z2 x2 fj
                  by_cases hc : C ≤ 2
                  · have hcd : decide (2 < C) = false := decide_eq_false (by omega)
                    have HONE := Lib.hid (show one ⟨f, m, j⟩ k false = (⟨f, upd m k 2, j⟩, []) by unfold one; dsimp only; rw [if_pos HF.out, if_neg (by decide), if_neg (by rw [HQ0.out]; omega), HQ0.out, show min (q + 1) 2 = 2 by omega])
                    go_wp2_with fail
                    all_goals
                      refine ⟨⟨k + 1, n, A', c', by omega, by go_num, rfl, ?_, ?_, R2.out.other (p := ⟨w.heap.size, 4 + k, none⟩) (by show w.heap.size + 1 ≠ w.heap.size; omega) _, R3.out.other (p := ⟨w.heap.size, 4 + k, none⟩) (by show w.heap.size + 1 + 1 ≠ w.heap.size; omega) _, ?_, RB.out.setCell (p := ⟨w.heap.size, 4 + k, none⟩) (Nat.le_refl _) _⟩, by simp [intOf]; omega⟩
                      · rw [many_succ, HS.out, HAGK.out, HONE.out, List.append_nil, HN2.out]
                      · rw [show (many s ag (k + 1)).1 = (one (many s ag k).1 k (ag k)).1 from rfl, HS.out, HAGK.out, HONE.out]
                        have h := R1.out.set (4 + k) (.int .i64 2)
                        rw [roll_miss _ _ _ k hlt] at h
                        first | exact h | (rw [show (if 2 < q + 1 then (2 : Int) else q + 1) = 2 by split <;> omega]; exact h)
                      · rw [many_succ, HS.out, HAGK.out, HONE.out, List.append_nil]; exact Vt.own_setCell HL.out (by omega) _
                  · have hcd : decide (2 < C) = true := decide_eq_true (by omega)
                    have HONE := Lib.hid (show one ⟨f, m, j⟩ k false = (⟨upd f k false, upd m k 0, j⟩, [(1, (k : Int))]) by unfold one; dsimp only; rw [if_pos HF.out, if_neg (by decide), if_pos (by rw [HQ0.out]; omega)])
                    go_upto_region 15 with fail
                    have R1 : Hid (Blk ((w4.setCell ⟨w.heap.size, k, none⟩ (.bool false)).setCell ⟨w.heap.size, 4 + k, none⟩ (.int .i64 0)) w.heap.size 30 (RS.row ⟨upd f k false, upd m k 0, j⟩)) := Lib.hid (by
                      have h := (R1.out.set (k) (.bool false)).set (4 + k) (.int .i64 0)
                      rw [roll_in _ _ _ k hlt, roll_miss _ _ _ k hlt] at h
                      exact h)
                    have R2 := Lib.hid ((R2.out.other (p := ⟨w.heap.size, k, none⟩) (by show w.heap.size + 1 ≠ w.heap.size; omega) (.bool false)).other (p := ⟨w.heap.size, 4 + k, none⟩) (by show w.heap.size + 1 ≠ w.heap.size; omega) (.int .i64 0))
                    have R3 := Lib.hid ((R3.out.other (p := ⟨w.heap.size, k, none⟩) (by show w.heap.size + 1 + 1 ≠ w.heap.size; omega) (.bool false)).other (p := ⟨w.heap.size, 4 + k, none⟩) (by show w.heap.size + 1 + 1 ≠ w.heap.size; omega) (.int .i64 0))
                    have HL := Lib.hid (Vt.own_setCell (g := w.heap.size) (i := 4 + k) (Vt.own_setCell (g := w.heap.size) (i := k) HL.out (by omega) (.bool false)) (by omega) (.int .i64 0))
                    have RB := Lib.hid ((RB.out.setCell (p := ⟨w.heap.size, k, none⟩) (Nat.le_refl _) (.bool false)).setCell (p := ⟨w.heap.size, 4 + k, none⟩) (Nat.le_refl _) (.int .i64 0))
                    generalize ((w4.setCell ⟨w.heap.size, k, none⟩ (.bool false)).setCell ⟨w.heap.size, 4 + k, none⟩ (.int .i64 0)) = w5 at *
                    have HN : Hid (Rd (w5.alloc (.cells #[.int .i64 1, .int .i64 (k : Int)] 125)) (w5.heap.size + 1) 2 (some ⟨w5.heap.size, 0, none⟩) 1 [.int .i64 1, .int .i64 (k : Int)]) := Lib.hid (rd_two _ _ _ _)
                    have hb3 : Below w5.heap.size w5 (w5.alloc (.cells #[.int .i64 1, .int .i64 (k : Int)] 125)) := (Below.refl _ _).alloc (Nat.le_refl _) _
                    have HQ := Lib.hid (ownsRow_below HL.out hb3)
                    have Q1 := Lib.hid (R1.out.below hb3 R1.out.lt)
                    have Q2 := Lib.hid (R2.out.below hb3 R2.out.lt)
                    have Q3 := Lib.hid (R3.out.below hb3 R3.out.lt)
                    have QB := Lib.hid (onward RB.out (Nat.le_refl _) hb3)
                    have HBS := Lib.hid (show w.heap.size + 1 + 1 + 1 ≤ (w5.alloc (.cells #[.int .i64 1, .int .i64 (k : Int)] 125)).heap.size from Q3.out.lt)
                    clear hb3
                    go_wp2_with (at_builtin; refine wpList_append_rd _ rfl (.tmp 77) (.tmp 80) 84 rfl (base := w.heap.size + 1 + 1 + 1) elemCh rfl HQ.out rfl (fun h => by cases h) HN.out (by simp [Value.oneCell']) (by unfold maxLen; omega) (by omega) HBS.out ?_; intro A4 c4 w4 hA4 hown hgr; have HO4 := Lib.hid hown; have HG4 := Lib.hid hgr; clear hown hgr hA4)
                    have hnb : ∀ g, g < w.heap.size + 1 + 1 + 1 → some g ≠ (Value.slice A' n c').ownBlock := fun g hg e => by have := (HQ.out.lt g e.symm).1; omega
                    refine ⟨⟨k + 1, n + 1, A4, c4, by omega, by go_num, rfl, ?_, ?_, Q2.out.grown HG4.out (hnb _ (by omega)), Q3.out.grown HG4.out (hnb _ (by omega)), ?_, QB.out.grown HG4.out QB.out.size (fun g e => by have := (HQ.out.lt g e).1; omega)⟩, by simp [intOf]; omega⟩
                    · rw [many_succ, HS.out, HAGK.out, HONE.out, List.length_append, HN2.out]; rfl
                    · rw [show (many s ag (k + 1)).1 = (one (many s ag k).1 k (ag k)).1 from rfl, HS.out, HAGK.out, HONE.out]; exact Q1.out.grown HG4.out (hnb _ (by omega))
                    · rw [many_succ, HS.out, HAGK.out, HONE.out, changesV_snoc]; exact HO4.out
            | false =>
              rw [hf] at xi
              have HF := Lib.hid hf
              have HNE := Lib.hid (show ¬ (f k = true) by rw [hf]; decide)
              clear hf
              cases b with
              | false =>
                have HONE := Lib.hid (show one ⟨f, m, j⟩ k false = (⟨f, m, upd j k 0⟩, []) by unfold one; rw [if_neg HNE.out, if_pos rfl])
                go_wp2_with fail
                refine ⟨⟨k + 1, n, A', c', by omega, by go_num, rfl, ?_, ?_, R2.out.other (p := ⟨w.heap.size, 8 + k, none⟩) (by show w.heap.size + 1 ≠ w.heap.size; omega) _, R3.out.other (p := ⟨w.heap.size, 8 + k, none⟩) (by show w.heap.size + 1 + 1 ≠ w.heap.size; omega) _, ?_, RB.out.setCell (p := ⟨w.heap.size, 8 + k, none⟩) (Nat.le_refl _) _⟩, by simp [intOf]; omega⟩
                · rw [many_succ, HS.out, HAGK.out, HONE.out, List.append_nil, HN2.out]
                · rw [show (many s ag (k + 1)).1 = (one (many s ag k).1 k (ag k)).1 from rfl, HS.out, HAGK.out, HONE.out]
                  have h := R1.out.set (8 + k) (.int .i64 0)
                  rw [roll_join _ _ _ k hlt] at h
                  exact h
                · rw [many_succ, HS.out, HAGK.out, HONE.out, List.append_nil]; exact Vt.own_setCell HL.out (by omega) _
              | true =>
                by_cases hp1 : p + 1 < 3
                · have hd : decide (3 ≤ p + 1) = false := decide_eq_false (by omega)
                  have HONE := Lib.hid (show one ⟨f, m, j⟩ k true = (⟨f, m, upd j k (p + 1)⟩, []) by unfold one; dsimp only; rw [if_neg HNE.out, if_neg (by decide), if_neg (by rw [HP0.out]; omega), HP0.out])
                  go_wp2_with fail
                  refine ⟨⟨k + 1, n, A', c', by omega, by go_num, rfl, ?_, ?_, R2.out.other (p := ⟨w.heap.size, 8 + k, none⟩) (by show w.heap.size + 1 ≠ w.heap.size; omega) _, R3.out.other (p := ⟨w.heap.size, 8 + k, none⟩) (by show w.heap.size + 1 + 1 ≠ w.heap.size; omega) _, ?_, RB.out.setCell (p := ⟨w.heap.size, 8 + k, none⟩) (Nat.le_refl _) _⟩, by simp [intOf]; omega⟩
                  · rw [many_succ, HS.out, HAGK.out, HONE.out, List.append_nil, HN2.out]
                  · rw [show (many s ag (k + 1)).1 = (one (many s ag k).1 k (ag k)).1 from rfl, HS.out, HAGK.out, HONE.out]
                    have h := R1.out.set (8 + k) (.int .i64 (p + 1))
                    rw [roll_join _ _ _ k hlt] at h
                    exact h
                  · rw [many_succ, HS.out, HAGK.out, HONE.out, List.append_nil]; exact Vt.own_setCell HL.out (by omega) _
                · have hd : decide (3 ≤ p + 1) = true := decide_eq_true (by omega)
                  have hp1 : 3 ≤ p + 1 := by omega
                  have HONE := Lib.hid (show one ⟨f, m, j⟩ k true = (⟨upd f k true, m, upd j k 0⟩, [(2, (k : Int))]) by unfold one; dsimp only; rw [if_neg HNE.out, if_neg (by decide), if_pos (by rw [HP0.out]; omega)])
                  go_upto_region 22 with fail
                  have R1 : Hid (Blk ((w3.setCell ⟨w.heap.size, k, none⟩ (.bool true)).setCell ⟨w.heap.size, 8 + k, none⟩ (.int .i64 0)) w.heap.size 30 (RS.row ⟨upd f k true, m, upd j k 0⟩)) := Lib.hid (by
                    have h := (R1.out.set (k) (.bool true)).set (8 + k) (.int .i64 0)
                    rw [roll_in _ _ _ k hlt, roll_join _ _ _ k hlt] at h
                    exact h)
                  have R2 := Lib.hid ((R2.out.other (p := ⟨w.heap.size, k, none⟩) (by show w.heap.size + 1 ≠ w.heap.size; omega) (.bool true)).other (p := ⟨w.heap.size, 8 + k, none⟩) (by show w.heap.size + 1 ≠ w.heap.size; omega) (.int .i64 0))
                  have R3 := Lib.hid ((R3.out.other (p := ⟨w.heap.size, k, none⟩) (by show w.heap.size + 1 + 1 ≠ w.heap.size; omega) (.bool true)).other (p := ⟨w.heap.size, 8 + k, none⟩) (by show w.heap.size + 1 + 1 ≠ w.heap.size; omega) (.int .i64 0))
                  have HL := Lib.hid (Vt.own_setCell (g := w.heap.size) (i := 8 + k) (Vt.own_setCell (g := w.heap.size) (i := k) HL.out (by omega) (.bool true)) (by omega) (.int .i64 0))
                  have RB := Lib.hid ((RB.out.setCell (p := ⟨w.heap.size, k, none⟩) (Nat.le_refl _) (.bool true)).setCell (p := ⟨w.heap.size, 8 + k, none⟩) (Nat.le_refl _) (.int .i64 0))
                  generalize ((w3.setCell ⟨w.heap.size, k, none⟩ (.bool true)).setCell ⟨w.heap.size, 8 + k, none⟩ (.int .i64 0)) = w5 at *
                  have HN : Hid (Rd (w5.alloc (.cells #[.int .i64 2, .int .i64 (k : Int)] 125)) (w5.heap.size + 1) 2 (some ⟨w5.heap.size, 0, none⟩) 1 [.int .i64 2, .int .i64 (k : Int)]) := Lib.hid (rd_two _ _ _ _)
                  have hb3 : Below w5.heap.size w5 (w5.alloc (.cells #[.int .i64 2, .int .i64 (k : Int)] 125)) := (Below.refl _ _).alloc (Nat.le_refl _) _
                  have HQ := Lib.hid (ownsRow_below HL.out hb3)
                  have Q1 := Lib.hid (R1.out.below hb3 R1.out.lt)
                  have Q2 := Lib.hid (R2.out.below hb3 R2.out.lt)
                  have Q3 := Lib.hid (R3.out.below hb3 R3.out.lt)
                  have QB := Lib.hid (onward RB.out (Nat.le_refl _) hb3)
                  have HBS := Lib.hid (show w.heap.size + 1 + 1 + 1 ≤ (w5.alloc (.cells #[.int .i64 2, .int .i64 (k : Int)] 125)).heap.size from Q3.out.lt)
                  clear hb3
                  go_wp2_with (at_builtin; refine wpList_append_rd _ rfl (.tmp 113) (.tmp 116) 84 rfl (base := w.heap.size + 1 + 1 + 1) elemCh rfl HQ.out rfl (fun h => by cases h) HN.out (by simp [Value.oneCell']) (by unfold maxLen; omega) (by omega) HBS.out ?_; intro A4 c4 w4 hA4 hown hgr; have HO4 := Lib.hid hown; have HG4 := Lib.hid hgr; clear hown hgr hA4)
                  have hnb : ∀ g, g < w.heap.size + 1 + 1 + 1 → some g ≠ (Value.slice A' n c').ownBlock := fun g hg e => by have := (HQ.out.lt g e.symm).1; omega
                  refine ⟨⟨k + 1, n + 1, A4, c4, by omega, by go_num, rfl, ?_, ?_, Q2.out.grown HG4.out (hnb _ (by omega)), Q3.out.grown HG4.out (hnb _ (by omega)), ?_, QB.out.grown HG4.out QB.out.size (fun g e => by have := (HQ.out.lt g e).1; omega)⟩, by simp [intOf]; omega⟩
                  · rw [many_succ, HS.out, HAGK.out, HONE.out, List.length_append, HN2.out]; rfl
                  · rw [show (many s ag (k + 1)).1 = (one (many s ag k).1 k (ag k)).1 from rfl, HS.out, HAGK.out, HONE.out]; exact Q1.out.grown HG4.out (hnb _ (by omega))
                  · rw [many_succ, HS.out, HAGK.out, HONE.out, changesV_snoc]; exact HO4.out
          · obtain rfl : k = 4 := by omega
            clear hlt
            obtain ⟨R4, hR4⟩ : ∃ R4, (many s ag 4).1.row = R4 := ⟨_, rfl⟩
            have i4 : (Try.prog.info? 30).map (·.size) = some R4.size := by rw [← hR4]; exact IS.out _
            have z4 : (#[.bool false, .bool false, .bool false, .bool false, .int .i64 0, .int .i64 0, .int .i64 0, .int .i64 0, .int .i64 0, .int .i64 0, .int .i64 0, .int .i64 0] : Array Value).size = R4.size := by rw [← hR4]; exact ZS.out _
            have o4 : R4.all (·.oneCell') = true := by rw [← hR4]; exact row_roll_one _
            rw [hR4] at R1
            have HR4 := Lib.hid hR4
            clear hR4
            go_wp2_with (first
              | (refine wpList_whole rfl 30 _ rfl w.heap.size rfl R1.out _ Try.underlying30 rfl i4 ?_)
              | (refine wpList_store_row rfl 30 _ _ rfl (w.heap.size + 1 + 1) R4 rfl rfl 30 _ R3.out i4 z4 o4 ?_))
            refine ret_row3 (x := .slice A' n c') (y := .int .i64 0) rfl rfl rfl rfl (R3.out.setRow R4) ⟨by rw [Try.underlying30], i4⟩ rfl ?_
            rw [HSR.out, HAGG.out]
            have hfin := own_setRow HL.out (show w.heap.size + 1 + 1 < w.heap.size + 1 + 1 + 1 by omega) R4
            refine ⟨A', c', ?_, ?_, below_setRow RB.out (by omega) _, (own_cap hfin).1⟩
            · dsimp only; rw [HR4.out, HN2.out]
            · dsimp only; rw [HN2.out]; exact Rd.of_own hfin
  · have e4 : ((bs.length : Int) != 4) = true := by simp [bne]; omega
    have HSR := Lib.hid (show stepR s st bs = (zeroRS, [], 8) by unfold stepR; rw [if_pos h4])
    clear h4
    go_wp2_with (refine wpList_store_row rfl 30 _ _ rfl (w.heap.size + 1 + 1) #[.bool false, .bool false, .bool false, .bool false, .int .i64 0, .int .i64 0, .int .i64 0, .int .i64 0, .int .i64 0, .int .i64 0, .int .i64 0, .int .i64 0] rfl rfl 30 _ W3.out iZ rfl oZ ?_)
    refine ret_row3 (x := .slice none 0 0) (y := .int .i64 8) rfl rfl rfl rfl (W3.out.setRow #[.bool false, .bool false, .bool false, .bool false, .int .i64 0, .int .i64 0, .int .i64 0, .int .i64 0, .int .i64 0, .int .i64 0, .int .i64 0, .int .i64 0]) ⟨by rw [Try.underlying30], iZ⟩ rfl ?_
    rw [HSR.out]
    exact ⟨none, 0, by rw [HZo.out]; rfl, Rd.nil _ _ _ _, below_setRow WB.out (by omega) _, fun _ => rfl⟩
end Go.Proofs.Ytjfllpmiajkenaa.Nd
