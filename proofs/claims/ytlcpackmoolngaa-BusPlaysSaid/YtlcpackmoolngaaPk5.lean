import Derived.Test.YtlcpackmoolngaaPk4
import Derived.Test.YtlcpackmoolngaaPk1
import Derived.Deep.CutBlock
import Derived.Deep.DeepCutAuto
namespace Go.Proofs.Ytlcpackmoolngaa.Bu
open Go.ChangeShapes Go.WideShapes Go.ChangeAt Go.RowKit Go.Proofs.Ytlcpackmoolngaa.Mem Go.Proofs.Ytlcpackmoolngaa.Op Go.Proofs.Ytlcpackmoolngaa.Sm Go.Proofs.Ytlcpackmoolngaa.Nd Go.Proofs.Ytlcpackmoolngaa.Rws
set_option linter.unusedVariables false
set_option linter.unusedSimpArgs false
set_option maxRecDepth 100000 in
set_option maxHeartbeats 4000000 in
theorem refsend_any (now ser : Int) (A : Option Addr) (c : Nat) (qs : List Parc) (fm ot dl : Int) (AD : Option Addr) (cd : Nat) (bs : List Nat) (B : Nat) (w : World) (hB : B ≤ w.heap.size) (hql : qs.length * 56 ≤ 140737488351232) (hq : ParcsAt w B A qs) (hA : AD = none → cd = 0) (hnc : bs.length ≤ cd) (hbl : bs.length ≤ 140737488351232) (hd : Rd w B 1 AD bs.length (bytesV bs)) :
    Calls Try.prog 20 #[.agg #[.int .i64 now, .int .i64 ser, .slice A qs.length c], .int .i64 fm, .int .i64 ot, .slice AD bs.length cd, .int .i64 dl] w fun e w' => SendAs w w' (sendR now ser qs fm ot dl bs) e := by
  have HQ := Lib.hid hq
  have HD0 := Lib.hid hd
  have D1 := Lib.hid (show Blk ((w.alloc (.cells #[.int .i64 now, .int .i64 ser, .slice A qs.length c] 24)).alloc (.cells #[.int .i64 0, .int .i64 0, .slice none 0 0] 24)) w.heap.size 24 #[.int .i64 now, .int .i64 ser, .slice A qs.length c] from (Blk.new rfl).alloc _)
  have D2 := Lib.hid (show Blk ((w.alloc (.cells #[.int .i64 now, .int .i64 ser, .slice A qs.length c] 24)).alloc (.cells #[.int .i64 0, .int .i64 0, .slice none 0 0] 24)) (w.heap.size + 1) 24 #[.int .i64 0, .int .i64 0, .slice none 0 0] from Blk.new (by simp))
  have HB := Lib.hid (((Below.refl w.heap.size w).alloc (Nat.le_refl _) (.cells #[.int .i64 now, .int .i64 ser, .slice A qs.length c] 24)).alloc (by simp) (.cells #[.int .i64 0, .int .i64 0, .slice none 0 0] 24))
  clear hq hd
  go_enter Try.func20, Try.ntmps20
  go_upto_region 1 with fail
  generalize ((w.alloc (.cells #[.int .i64 now, .int .i64 ser, .slice A qs.length c] 24)).alloc (.cells #[.int .i64 0, .int .i64 0, .slice none 0 0] 24)) = W at *
  have HD := Lib.hid (HD0.out.below (HB.out.mono hB))
  have y0 := D1.out.cell 0
  have y2 := D1.out.cell 2
  simp only [List.getElem?_toArray, List.getElem?_cons_zero, List.getElem?_cons_succ] at y0 y2
  have hW2 : w.heap.size + 1 < W.heap.size := D2.out.lt
  clear HD0
  by_cases a1 : 0 ≤ fm
  rotate_left 1
  · have HSR := Lib.hid (show sendR now ser qs fm ot dl bs = (0, 0, [], 3) from if_pos (fun h => a1 h.1.1))
    have a1' : fm < 0 := by omega
    clear a1
    go_wp2_with (refine wpList_store_row rfl 24 _ _ rfl (w.heap.size + 1) #[.int .i64 0, .int .i64 0, .slice none 0 0] rfl rfl 24 _ D2.out (by kernel_rfl) rfl (by simp [Value.oneCell']) ?_)
    refine ret_row2 (x := .int .i64 3) rfl rfl rfl (D2.out.setRow #[.int .i64 0, .int .i64 0, .slice none 0 0]) ⟨by rw [Try.underlying24], by kernel_rfl⟩ rfl ?_
    rw [HSR.out]
    exact ⟨none, 0, rfl, ParcsAt.nil _ _ _, below_setRow HB.out (by omega) _⟩
  ·
    by_cases a2 : fm ≤ 3
    rotate_left 1
    · have HSR := Lib.hid (show sendR now ser qs fm ot dl bs = (0, 0, [], 3) from if_pos (fun h => a2 (show fm ≤ 3 by have := h.1.2; omega)))
      have a2' : 3 < fm := by omega
      clear a2
      go_wp2_with (refine wpList_store_row rfl 24 _ _ rfl (w.heap.size + 1) #[.int .i64 0, .int .i64 0, .slice none 0 0] rfl rfl 24 _ D2.out (by kernel_rfl) rfl (by simp [Value.oneCell']) ?_)
      refine ret_row2 (x := .int .i64 3) rfl rfl rfl (D2.out.setRow #[.int .i64 0, .int .i64 0, .slice none 0 0]) ⟨by rw [Try.underlying24], by kernel_rfl⟩ rfl ?_
      rw [HSR.out]
      exact ⟨none, 0, rfl, ParcsAt.nil _ _ _, below_setRow HB.out (by omega) _⟩
    ·
      by_cases b1 : 0 ≤ ot
      rotate_left 1
      · have HSR := Lib.hid (show sendR now ser qs fm ot dl bs = (0, 0, [], 3) from if_pos (fun h => b1 h.2.1.1))
        have b1' : ot < 0 := by omega
        clear b1
        go_wp2_with (refine wpList_store_row rfl 24 _ _ rfl (w.heap.size + 1) #[.int .i64 0, .int .i64 0, .slice none 0 0] rfl rfl 24 _ D2.out (by kernel_rfl) rfl (by simp [Value.oneCell']) ?_)
        refine ret_row2 (x := .int .i64 3) rfl rfl rfl (D2.out.setRow #[.int .i64 0, .int .i64 0, .slice none 0 0]) ⟨by rw [Try.underlying24], by kernel_rfl⟩ rfl ?_
        rw [HSR.out]
        exact ⟨none, 0, rfl, ParcsAt.nil _ _ _, below_setRow HB.out (by omega) _⟩
      ·
        by_cases b2 : ot ≤ 3
        rotate_left 1
        · have HSR := Lib.hid (show sendR now ser qs fm ot dl bs = (0, 0, [], 3) from if_pos (fun h => b2 (show ot ≤ 3 by have := h.2.1.2; omega)))
          have b2' : 3 < ot := by omega
          clear b2
          go_wp2_with (refine wpList_store_row rfl 24 _ _ rfl (w.heap.size + 1) #[.int .i64 0, .int .i64 0, .slice none 0 0] rfl rfl 24 _ D2.out (by kernel_rfl) rfl (by simp [Value.oneCell']) ?_)
          refine ret_row2 (x := .int .i64 3) rfl rfl rfl (D2.out.setRow #[.int .i64 0, .int .i64 0, .slice none 0 0]) ⟨by rw [Try.underlying24], by kernel_rfl⟩ rfl ?_
          rw [HSR.out]
          exact ⟨none, 0, rfl, ParcsAt.nil _ _ _, below_setRow HB.out (by omega) _⟩
        ·
          by_cases e : fm ≠ ot
          rotate_left 1
          · have HSR := Lib.hid (show sendR now ser qs fm ot dl bs = (0, 0, [], 3) from if_pos (fun h => e h.2.2.1))
            have e' : (fm == ot) = true := by simpa using e
            clear e
            go_wp2_with (refine wpList_store_row rfl 24 _ _ rfl (w.heap.size + 1) #[.int .i64 0, .int .i64 0, .slice none 0 0] rfl rfl 24 _ D2.out (by kernel_rfl) rfl (by simp [Value.oneCell']) ?_)
            refine ret_row2 (x := .int .i64 3) rfl rfl rfl (D2.out.setRow #[.int .i64 0, .int .i64 0, .slice none 0 0]) ⟨by rw [Try.underlying24], by kernel_rfl⟩ rfl ?_
            rw [HSR.out]
            exact ⟨none, 0, rfl, ParcsAt.nil _ _ _, below_setRow HB.out (by omega) _⟩
          ·
            have e' : (fm == ot) = false := by simpa using e
            have HE := Lib.hid e
            clear e
            by_cases d1 : 0 ≤ dl
            rotate_left 1
            · have HSR := Lib.hid (show sendR now ser qs fm ot dl bs = (0, 0, [], 3) from if_pos (fun h => d1 h.2.2.2.1))
              have d1' : dl < 0 := by omega
              clear d1
              go_wp2_with (refine wpList_store_row rfl 24 _ _ rfl (w.heap.size + 1) #[.int .i64 0, .int .i64 0, .slice none 0 0] rfl rfl 24 _ D2.out (by kernel_rfl) rfl (by simp [Value.oneCell']) ?_)
              refine ret_row2 (x := .int .i64 3) rfl rfl rfl (D2.out.setRow #[.int .i64 0, .int .i64 0, .slice none 0 0]) ⟨by rw [Try.underlying24], by kernel_rfl⟩ rfl ?_
              rw [HSR.out]
              exact ⟨none, 0, rfl, ParcsAt.nil _ _ _, below_setRow HB.out (by omega) _⟩
            ·
              by_cases d2 : dl ≤ 1000
              rotate_left 1
              · have HSR := Lib.hid (show sendR now ser qs fm ot dl bs = (0, 0, [], 3) from if_pos (fun h => d2 h.2.2.2.2.1))
                have d2' : 1000 < dl := by omega
                clear d2
                go_wp2_with (refine wpList_store_row rfl 24 _ _ rfl (w.heap.size + 1) #[.int .i64 0, .int .i64 0, .slice none 0 0] rfl rfl 24 _ D2.out (by kernel_rfl) rfl (by simp [Value.oneCell']) ?_)
                refine ret_row2 (x := .int .i64 3) rfl rfl rfl (D2.out.setRow #[.int .i64 0, .int .i64 0, .slice none 0 0]) ⟨by rw [Try.underlying24], by kernel_rfl⟩ rfl ?_
                rw [HSR.out]
                exact ⟨none, 0, rfl, ParcsAt.nil _ _ _, below_setRow HB.out (by omega) _⟩
              ·
                by_cases n1 : 0 ≤ now
                rotate_left 1
                · have HSR := Lib.hid (show sendR now ser qs fm ot dl bs = (0, 0, [], 3) from if_pos (fun h => n1 h.2.2.2.2.2.1))
                  have n1' : now < 0 := by omega
                  clear n1
                  go_wp2_with (refine wpList_store_row rfl 24 _ _ rfl (w.heap.size + 1) #[.int .i64 0, .int .i64 0, .slice none 0 0] rfl rfl 24 _ D2.out (by kernel_rfl) rfl (by simp [Value.oneCell']) ?_)
                  refine ret_row2 (x := .int .i64 3) rfl rfl rfl (D2.out.setRow #[.int .i64 0, .int .i64 0, .slice none 0 0]) ⟨by rw [Try.underlying24], by kernel_rfl⟩ rfl ?_
                  rw [HSR.out]
                  exact ⟨none, 0, rfl, ParcsAt.nil _ _ _, below_setRow HB.out (by omega) _⟩
                ·
                  by_cases n2 : now ≤ 1099511627776
                  rotate_left 1
                  · have HSR := Lib.hid (show sendR now ser qs fm ot dl bs = (0, 0, [], 3) from if_pos (fun h => n2 h.2.2.2.2.2.2))
                    have n2' : 1099511627776 < now := by omega
                    clear n2
                    go_wp2_with (refine wpList_store_row rfl 24 _ _ rfl (w.heap.size + 1) #[.int .i64 0, .int .i64 0, .slice none 0 0] rfl rfl 24 _ D2.out (by kernel_rfl) rfl (by simp [Value.oneCell']) ?_)
                    refine ret_row2 (x := .int .i64 3) rfl rfl rfl (D2.out.setRow #[.int .i64 0, .int .i64 0, .slice none 0 0]) ⟨by rw [Try.underlying24], by kernel_rfl⟩ rfl ?_
                    rw [HSR.out]
                    exact ⟨none, 0, rfl, ParcsAt.nil _ _ _, below_setRow HB.out (by omega) _⟩
                  ·
                    have HF := Lib.hid (show fitsB now fm ot dl from ⟨⟨a1, by omega⟩, ⟨b1, by omega⟩, HE.out, d1, d2, n1, n2⟩)
                    have ew : IntKind.i64.wrap (now + dl) = now + dl := IntWalk.i64_in _ (by omega)
                    obtain ⟨s1, hs1⟩ : ∃ s1, IntKind.i64.wrap (ser + 1) = s1 := ⟨_, rfl⟩
                    have HS1 := Lib.hid hs1
                    by_cases g1 : 220 < bs.length
                    · have HSR := Lib.hid (show sendR now ser qs fm ot dl bs = (0, 0, [], 1) from (if_neg (fun h => h HF.out)).trans (if_pos g1))
                      go_wp2_with (refine wpList_store_row rfl 24 _ _ rfl (w.heap.size + 1) #[.int .i64 0, .int .i64 0, .slice none 0 0] rfl rfl 24 _ D2.out (by kernel_rfl) rfl (by simp [Value.oneCell']) ?_)
                      refine ret_row2 (x := .int .i64 1) rfl rfl rfl (D2.out.setRow #[.int .i64 0, .int .i64 0, .slice none 0 0]) ⟨by rw [Try.underlying24], by kernel_rfl⟩ rfl ?_
                      rw [HSR.out]
                      exact ⟨none, 0, rfl, ParcsAt.nil _ _ _, below_setRow HB.out (by omega) _⟩
                    · by_cases g2 : 400 ≤ qs.length
                      · have HSR := Lib.hid (show sendR now ser qs fm ot dl bs = (0, 0, [], 6) from (if_neg (fun h => h HF.out)).trans ((if_neg g1).trans (if_pos g2)))
                        go_wp2_with (refine wpList_store_row rfl 24 _ _ rfl (w.heap.size + 1) #[.int .i64 0, .int .i64 0, .slice none 0 0] rfl rfl 24 _ D2.out (by kernel_rfl) rfl (by simp [Value.oneCell']) ?_)
                        refine ret_row2 (x := .int .i64 6) rfl rfl rfl (D2.out.setRow #[.int .i64 0, .int .i64 0, .slice none 0 0]) ⟨by rw [Try.underlying24], by kernel_rfl⟩ rfl ?_
                        rw [HSR.out]
                        exact ⟨none, 0, rfl, ParcsAt.nil _ _ _, below_setRow HB.out (by omega) _⟩
                      · have HSR := Lib.hid (show sendR now ser qs fm ot dl bs = (now, IntKind.i64.wrap (ser + 1), qs ++ [⟨fm, ot, now + dl, ser, bs⟩], 0) from (if_neg (fun h => h HF.out)).trans ((if_neg g1).trans (if_neg g2)))
                        go_wp2_with (refine wpList_whole rfl 24 _ rfl w.heap.size rfl D1.out _ Try.underlying24 rfl (by kernel_rfl) ?_)
                        refine (copybus_any now ser A c qs B W (Nat.le_trans hB HB.out.size) (by omega) (HQ.out.below (HB.out.mono hB))).mono ?_
                        rintro e w1 ⟨A1, c1, rfl, hop, hb⟩
                        have HOP := Lib.hid hop
                        have HD := Lib.hid (HD.out.below (hb.mono (Nat.le_trans hB HB.out.size)))
                        have D1 := Lib.hid (D1.out.below hb D1.out.lt)
                        have RZ := Lib.hid (D2.out.below hb D2.out.lt)
                        have HB1 := Lib.hid (onward HB.out (Nat.le_refl _) hb)
                        have hW1 := hb.size
                        clear hop hb
                        go_upto_region 8 with fail
                        have hbl : Below w1.heap.size w1 ((w1.alloc (.cells #[.int .i64 now, .int .i64 ser, .slice A1 qs.length c1] 24))) := (Below.refl _ _).alloc (Nat.le_refl _) _
                        have GB := Lib.hid (show Blk ((w1.alloc (.cells #[.int .i64 now, .int .i64 ser, .slice A1 qs.length c1] 24))) w1.heap.size 24 #[.int .i64 now, .int .i64 ser, .slice A1 qs.length c1] from Blk.fresh _ _ _)
                        have T5 := Lib.hid (D1.out.below hbl D1.out.lt)
                        have RZ := Lib.hid (RZ.out.below hbl RZ.out.lt)
                        have hg12 : W.heap.size ≤ w1.heap.size := hW1
                        have HB1 := Lib.hid (onward HB1.out (Nat.le_refl _) hbl)
                        have HOP := Lib.hid (HOP.out.below hbl)
                        have HD := Lib.hid (HD.out.below (hbl.mono (Nat.le_trans (Nat.le_trans hB HB.out.size) hW1)))
                        have hW1 := Nat.le_trans hW1 hbl.size
                        clear D1 hbl
                        generalize ((w1.alloc (.cells #[.int .i64 now, .int .i64 ser, .slice A1 qs.length c1] 24))) = w2 at *
                        obtain ⟨g12, hg⟩ : ∃ g, w1.heap.size = g := ⟨_, rfl⟩
                        rw [hg] at GB hg12 ⊢
                        clear hg
                        have HB2 := Lib.hid HB1.out.drew
                        have GB := Lib.hid GB.out.drew
                        have RZ := Lib.hid RZ.out.drew
                        have T5 := Lib.hid T5.out.drew
                        have HOP := Lib.hid (HOP.out.below ((Below.refl w2.heap.size w2).drew))
                        have HD : Hid (Rd w2.drew B 1 AD bs.length (bytesV bs)) := Lib.hid HD.out.drew
                        have hW1 : W.heap.size ≤ w2.drew.heap.size := hW1
                        have HS := And.intro GB.out T5.out
                        refine wp_region_noPanic ?_
                        refine Rg.beginR [1, 5, 9] (fun w' => Blk w' g12 24 #[.int .i64 now, .int .i64 ser, .slice A1 qs.length c1] ∧ Blk w' w.heap.size 24 #[.int .i64 now, .int .i64 ser, .slice A qs.length c]) (by kernel_rfl) ?_
                        generalize w2.drew = V0 at *
                        refine Rg.takeP (i := 0) (oi := { dst := some 62, op := Op.fieldAddr 24 (Operand.tmp 12) 2, type := 0, pos := "links.go:425", after := #[], guard := none }) (v := ?_) rfl (by kernel_rfl) (fun _ _ _ h => h) (by rfl) ?_ ?_
                        rotate_left 1
                        · (intro w; go_simp; (try with_reducible rfl))
                        try simp only [Act.put, List.setIfInBounds_toArray, List.set_cons_zero, List.set_cons_succ]
                        refine Rg.takeS (i := 1) (oi := { dst := some 63, op := Op.load 22 (Operand.tmp 62), type := 22, pos := "links.go:425", after := #[{ on := 0, ground := Ground.data }], guard := none }) (v := ?_) rfl (by kernel_rfl) (fun _ _ _ h => h) (by rfl) HS ?_ ?_
                        rotate_left 1
                        · (intro w' hSw; have y := hSw.1.cell 2; simp only [List.getElem?_toArray, List.getElem?_cons_zero, List.getElem?_cons_succ] at y; go_simp; (try with_reducible rfl))
                        try simp only [Act.put, List.setIfInBounds_toArray, List.set_cons_zero, List.set_cons_succ]
                        refine Rg.takeP (i := 2) (oi := { dst := some 64, op := Op.move (Operand.tmp 1), type := 3, pos := "links.go:425", after := #[], guard := none }) (v := ?_) rfl (by kernel_rfl) (fun _ _ _ h => h) (by rfl) ?_ ?_
                        rotate_left 1
                        · (intro w; go_simp; (try with_reducible rfl))
                        try simp only [Act.put, List.setIfInBounds_toArray, List.set_cons_zero, List.set_cons_succ]
                        refine Rg.takeP (i := 3) (oi := { dst := some 65, op := Op.move (Operand.tmp 2), type := 3, pos := "links.go:425", after := #[], guard := none }) (v := ?_) rfl (by kernel_rfl) (fun _ _ _ h => h) (by rfl) ?_ ?_
                        rotate_left 1
                        · (intro w; go_simp; (try with_reducible rfl))
                        try simp only [Act.put, List.setIfInBounds_toArray, List.set_cons_zero, List.set_cons_succ]
                        refine Rg.takeP (i := 4) (oi := { dst := some 66, op := Op.fieldAddr 24 (Operand.tmp 5) 0, type := 0, pos := "links.go:425", after := #[], guard := none }) (v := ?_) rfl (by kernel_rfl) (fun _ _ _ h => h) (by rfl) ?_ ?_
                        rotate_left 1
                        · (intro w; go_simp; (try with_reducible rfl))
                        try simp only [Act.put, List.setIfInBounds_toArray, List.set_cons_zero, List.set_cons_succ]
                        refine Rg.takeS (i := 5) (oi := { dst := some 67, op := Op.load 3 (Operand.tmp 66), type := 3, pos := "links.go:425", after := #[{ on := 4, ground := Ground.data }], guard := none }) (v := ?_) rfl (by kernel_rfl) (fun _ _ _ h => h) (by rfl) HS ?_ ?_
                        rotate_left 1
                        · (intro w' hSw; have y := hSw.2.cell 0; simp only [List.getElem?_toArray, List.getElem?_cons_zero, List.getElem?_cons_succ] at y; go_simp; (try with_reducible rfl))
                        try simp only [Act.put, List.setIfInBounds_toArray, List.set_cons_zero, List.set_cons_succ]
                        refine Rg.takeP (i := 6) (oi := { dst := some 68, op := Op.move (Operand.tmp 4), type := 3, pos := "links.go:425", after := #[], guard := none }) (v := ?_) rfl (by kernel_rfl) (fun _ _ _ h => h) (by rfl) ?_ ?_
                        rotate_left 1
                        · (intro w; go_simp; (try with_reducible rfl))
                        try simp only [Act.put, List.setIfInBounds_toArray, List.set_cons_zero, List.set_cons_succ]
                        refine Rg.takeP (i := 7) (oi := { dst := some 69, op := Op.binOp BinOp.add 3 (Operand.tmp 67) (Operand.tmp 68) 3, type := 3, pos := "links.go:425", after := #[{ on := 5, ground := Ground.data }, { on := 6, ground := Ground.data }], guard := none }) (v := ?_) rfl (by kernel_rfl) (fun _ _ _ h => h) (by rfl) ?_ ?_
                        rotate_left 1
                        · (intro w; go_simp; (try with_reducible rfl))
                        try simp only [Act.put, List.setIfInBounds_toArray, List.set_cons_zero, List.set_cons_succ]
                        refine Rg.takeP (i := 8) (oi := { dst := some 70, op := Op.fieldAddr 24 (Operand.tmp 5) 1, type := 0, pos := "links.go:425", after := #[], guard := none }) (v := ?_) rfl (by kernel_rfl) (fun _ _ _ h => h) (by rfl) ?_ ?_
                        rotate_left 1
                        · (intro w; go_simp; (try with_reducible rfl))
                        try simp only [Act.put, List.setIfInBounds_toArray, List.set_cons_zero, List.set_cons_succ]
                        refine Rg.takeS (i := 9) (oi := { dst := some 71, op := Op.load 3 (Operand.tmp 70), type := 3, pos := "links.go:425", after := #[{ on := 8, ground := Ground.data }], guard := none }) (v := ?_) rfl (by kernel_rfl) (fun _ _ _ h => h) (by rfl) HS ?_ ?_
                        rotate_left 1
                        · (intro w' hSw; have y := hSw.2.cell 1; simp only [List.getElem?_toArray, List.getElem?_cons_zero, List.getElem?_cons_succ] at y; go_simp; (try with_reducible rfl))
                        try simp only [Act.put, List.setIfInBounds_toArray, List.set_cons_zero, List.set_cons_succ]
                        refine Rg.takeP (i := 10) (oi := { dst := some 72, op := Op.move (Operand.tmp 3), type := 38, pos := "links.go:425", after := #[], guard := none }) (v := ?_) rfl (by kernel_rfl) (fun _ _ _ h => h) (by rfl) ?_ ?_
                        rotate_left 1
                        · (intro w; go_simp; (try with_reducible rfl))
                        try simp only [Act.put, List.setIfInBounds_toArray, List.set_cons_zero, List.set_cons_succ]
                        refine Rg.oneR (i := 11) (oi := { dst := some 73, op := Op.call { callee := Callee.builtin Builtin.append, args := #[Operand.const (Value.slice none 0 0), Operand.tmp 72], argTypes := #[38, 38] }, type := 38, pos := "links.go:425", after := #[{ on := 10, ground := Ground.data }], guard := none }) rfl (by kernel_rfl) ?_
                        refine Rg.stepS ?_
                        intro K hK
                        rw [if_pos (by rfl)]
                        refine wp_append_rd _ (.const (.slice none 0 0)) (.tmp 72) 38 rfl (base := W.heap.size) elemBytes rfl (World.ownsRow_nil _ _ _ _) rfl (fun h => ⟨by have := hA h; omega, hA h⟩) HD.out (bytesV_one bs) (by unfold maxLen; omega) (by omega) hW1 ?_
                        intro A2 c2 V1 hA2 hown hgr
                        (try simp only [List.nil_append, Nat.zero_add] at hown)
                        have hb : Below V0.heap.size V0 V1 := (Below.refl _ _).grown hgr (Nat.le_refl _) (fun g e => by cases e)
                        have HI := Lib.hid hown
                        (try simp only [Nat.zero_add])
                        have GB := Lib.hid (GB.out.below hb GB.out.lt)
                        have RZ := Lib.hid (RZ.out.below hb RZ.out.lt)
                        have T5 := Lib.hid (T5.out.below hb T5.out.lt)
                        have HB2 := Lib.hid (onward HB2.out (Nat.le_refl _) hb)
                        have HOP := Lib.hid (HOP.out.below hb)
                        replace hW1 := Nat.le_trans hW1 hb.size
                        clear hb hown hgr hA2 HS HD
                        have HS := And.intro GB.out T5.out
                        refine hK.out _ _ HS ?_
                        clear hK K
                        try simp only [Act.put, List.setIfInBounds_toArray, List.set_cons_zero, List.set_cons_succ]
                        refine Rg.takeP (i := 12) (oi := { dst := some 74, op := Op.build 52 #[(0, Operand.tmp 64), (1, Operand.tmp 65), (2, Operand.tmp 69), (3, Operand.tmp 71), (4, Operand.tmp 73)], type := 52, pos := "links.go:425", after := #[{ on := 2, ground := Ground.data }, { on := 3, ground := Ground.data }, { on := 7, ground := Ground.data }, { on := 9, ground := Ground.data }, { on := 11, ground := Ground.data }], guard := none }) (v := ?_) rfl (by kernel_rfl) (fun _ _ _ h => h) (by rfl) ?_ ?_
                        rotate_left 1
                        · (intro w; go_simp; (try with_reducible rfl))
                        try simp only [Act.put, List.setIfInBounds_toArray, List.set_cons_zero, List.set_cons_succ]
                        refine Rg.oneR (i := 13) (oi := { dst := some 75, op := Op.buildSlice 22 1 #[(0, Operand.tmp 74)], type := 22, pos := "links.go:425", after := #[{ on := 12, ground := Ground.data }], guard := none }) rfl (by kernel_rfl) ?_
                        refine Rg.stepS ?_
                        intro K hK
                        go_simp
                        have hb : Below V1.heap.size V1 (V1.alloc (.cells #[.int .i64 fm, .int .i64 ot, .int .i64 (now + dl), .int .i64 ser, .slice A2 bs.length c2] 52)) := (Below.refl _ _).alloc (Nat.le_refl _) _
                        have HN : Hid (Rd (V1.alloc (.cells #[.int .i64 fm, .int .i64 ot, .int .i64 (now + dl), .int .i64 ser, .slice A2 bs.length c2] 52)) (V1.heap.size + 1) 5 (some ⟨V1.heap.size, 0, none⟩) 1 (parcL ⟨fm, ot, now + dl, ser, bs⟩ A2 c2)) := Lib.hid (rd_five V1 (parcL ⟨fm, ot, now + dl, ser, bs⟩ A2 c2) rfl _)
                        have HI := Lib.hid (Nd.ownsRow_below HI.out hb)
                        have GB := Lib.hid (GB.out.below hb GB.out.lt)
                        have RZ := Lib.hid (RZ.out.below hb RZ.out.lt)
                        have T5 := Lib.hid (T5.out.below hb T5.out.lt)
                        have HB2 := Lib.hid (onward HB2.out (Nat.le_refl _) hb)
                        have HOP := Lib.hid (HOP.out.below hb)
                        replace hW1 := Nat.le_trans hW1 hb.size
                        clear hb HS
                        have HS := And.intro GB.out T5.out
                        generalize (V1.alloc (.cells #[.int .i64 fm, .int .i64 ot, .int .i64 (now + dl), .int .i64 ser, .slice A2 bs.length c2] 52)) = V2 at *
                        generalize V1.heap.size = nb at *
                        refine hK.out _ _ HS ?_
                        clear hK K
                        try simp only [Act.put, List.setIfInBounds_toArray, List.set_cons_zero, List.set_cons_succ]
                        refine Rg.oneR (i := 14) (oi := { dst := some 76, op := Op.call { callee := Callee.builtin Builtin.append, args := #[Operand.tmp 63, Operand.tmp 75], argTypes := #[22, 22] }, type := 22, pos := "links.go:425", after := #[{ on := 1, ground := Ground.data }, { on := 13, ground := Ground.data }, { on := 11, ground := Ground.chain }], guard := none }) rfl (by kernel_rfl) ?_
                        refine Rg.stepF ?_ ?_
                        · kernel_rfl
                        intro K hK
                        rw [if_pos (by rfl)]
                        obtain ⟨xs, hrow, hxs⟩ := HOP.out
                        refine wp_append_rd _ (.tmp 63) (.tmp 75) 22 rfl (base := W.heap.size) elemParcs rfl hrow rfl (fun h => by cases h) HN.out (by simp [parcL, Value.oneCell']) (by unfold maxLen; omega) (by omega) hW1 ?_
                        intro A4 c4 V3 hA4 hown hgr
                        have HOP := Lib.hid (OwnParcs.snoc (p := ⟨fm, ot, now + dl, ser, bs⟩) hxs hrow HI.out (show bs.length ≤ 140737488351232 by omega) hown hgr)
                        have RZ := Lib.hid (RZ.out.grown hgr (own_ge hrow (by omega)))
                        have T5 := Lib.hid (T5.out.grown hgr (own_ge hrow (by omega)))
                        have GB := Lib.hid (GB.out.grown hgr (fun e => by obtain ⟨cur, t, q1, q2⟩ := Ms.own_is hrow (t' := 24) (by decide) _ e.symm; rw [GB.out] at q1; injection q1 with q1; injection q1 with _ q4 _; exact q2 q4.symm))
                        have HB2 := Lib.hid (HB2.out.grown hgr HB2.out.size (fun g e => by have := (hrow.lt g e).1; omega))
                        clear hown hgr hA4 hrow hxs HS
                        have HS := And.intro GB.out T5.out
                        have y2 := GB.out.cell 2
                        have f2 := GB.out.thaw 2
                        refine hK.out _ _ ?_
                        clear hK K
                        try simp only [Act.put, List.setIfInBounds_toArray, List.set_cons_zero, List.set_cons_succ]
                        refine Rg.takeP (i := 15) (oi := { dst := some 77, op := Op.fieldAddr 24 (Operand.tmp 12) 2, type := 0, pos := "links.go:425", after := #[{ on := 0, ground := Ground.phase }, { on := 1, ground := Ground.phase }, { on := 2, ground := Ground.phase }, { on := 3, ground := Ground.phase }, { on := 4, ground := Ground.phase }, { on := 5, ground := Ground.phase }, { on := 6, ground := Ground.phase }, { on := 7, ground := Ground.phase }, { on := 8, ground := Ground.phase }, { on := 9, ground := Ground.phase }, { on := 10, ground := Ground.phase }, { on := 11, ground := Ground.phase }, { on := 12, ground := Ground.phase }, { on := 13, ground := Ground.phase }, { on := 14, ground := Ground.phase }], guard := none }) (v := ?_) rfl (by kernel_rfl) (fun _ _ _ h => h) (by rfl) ?_ ?_
                        rotate_left 1
                        · (intro w; go_simp; (try with_reducible rfl))
                        try simp only [Act.put, List.setIfInBounds_toArray, List.set_cons_zero, List.set_cons_succ]
                        refine Rg.oneR (i := 16) (oi := { dst := none, op := Op.store 22 (Operand.tmp 77) (Operand.tmp 76), type := 0, pos := "links.go:425", after := #[{ on := 15, ground := Ground.data }, { on := 14, ground := Ground.data }, { on := 14, ground := Ground.chain }, { on := 0, ground := Ground.phase }, { on := 1, ground := Ground.phase }, { on := 2, ground := Ground.phase }, { on := 3, ground := Ground.phase }, { on := 4, ground := Ground.phase }, { on := 5, ground := Ground.phase }, { on := 6, ground := Ground.phase }, { on := 7, ground := Ground.phase }, { on := 8, ground := Ground.phase }, { on := 9, ground := Ground.phase }, { on := 10, ground := Ground.phase }, { on := 11, ground := Ground.phase }, { on := 12, ground := Ground.phase }, { on := 13, ground := Ground.phase }, { on := 14, ground := Ground.phase }], guard := none }) rfl (by kernel_rfl) ?_
                        refine Rg.stepF ?_ ?_
                        · kernel_rfl
                        intro K hK
                        go_simp
                        refine hK.out _ _ ?_
                        clear hK K
                        try simp only [Act.put, List.setIfInBounds_toArray, List.set_cons_zero, List.set_cons_succ]
                        refine Rg.doneR (by kernel_rfl) ?_ _
                        refine NoPanic.normal ?_
                        clear HS
                        have GBP := GB
                        have GB : Hid (Blk (V3.setCell ⟨g12, 2, none⟩ (.slice A4 (qs.length + 1) c4)) g12 24 #[.int .i64 now, .int .i64 ser, .slice A4 (qs.length + 1) c4]) := Lib.hid (GB.out.set 2 _)
                        have RZ := Lib.hid (RZ.out.other (p := ⟨g12, 2, none⟩) (by show w.heap.size + 1 ≠ g12; omega) (.slice A4 (qs.length + 1) c4))
                        have HB2 := Lib.hid (HB2.out.setCell (p := ⟨g12, 2, none⟩) (by show w.heap.size ≤ g12; omega) (.slice A4 (qs.length + 1) c4))
                        have HOP := Lib.hid (own_parcs_set HOP.out GBP.out 2 (.slice A4 (qs.length + 1) c4))
                        generalize (V3.setCell ⟨g12, 2, none⟩ (.slice A4 (qs.length + 1) c4)) = w5 at *
                        have y1 := GB.out.cell 1
                        have f1 := GB.out.thaw 1
                        simp only [List.getElem?_toArray, List.getElem?_cons_zero, List.getElem?_cons_succ] at y1
                        clear y2 f2 GBP
                        go_upto_region 10 with fail
                        have GBP := GB
                        have GB : Hid (Blk (w5.setCell ⟨g12, 1, none⟩ (.int .i64 s1)) g12 24 #[.int .i64 now, .int .i64 s1, .slice A4 (qs.length + 1) c4]) := Lib.hid (GB.out.set 1 _)
                        have RZ := Lib.hid (RZ.out.other (p := ⟨g12, 1, none⟩) (by show w.heap.size + 1 ≠ g12; omega) (.int .i64 s1))
                        have HB2 := Lib.hid (HB2.out.setCell (p := ⟨g12, 1, none⟩) (by show w.heap.size ≤ g12; omega) (.int .i64 s1))
                        have HOP := Lib.hid (own_parcs_set HOP.out GBP.out 1 (.int .i64 s1))
                        generalize (w5.setCell ⟨g12, 1, none⟩ (.int .i64 s1)) = w6 at *
                        go_wp2_with (first | (refine wpList_whole rfl 24 _ rfl g12 rfl GB.out _ Try.underlying24 rfl (by kernel_rfl) ?_) | (refine wpList_store_row rfl 24 _ _ rfl (w.heap.size + 1) #[.int .i64 now, .int .i64 s1, .slice A4 (qs.length + 1) c4] rfl rfl 24 _ RZ.out (by kernel_rfl) rfl (by simp [Value.oneCell']) ?_))
                        refine ret_row2 (x := .int .i64 0) rfl rfl rfl (RZ.out.setRow #[.int .i64 now, .int .i64 s1, .slice A4 (qs.length + 1) c4]) ⟨by rw [Try.underlying24], by kernel_rfl⟩ rfl ?_
                        rw [HSR.out, HS1.out]
                        have hfin := (HOP.out.keep (base' := W.heap.size) fun _ _ _ _ _ h => own_setRow h (show w.heap.size + 1 < W.heap.size by omega) #[.int .i64 now, .int .i64 s1, .slice A4 (qs.length + 1) c4]).at
                        exact ⟨A4, c4, by simp, hfin.1, below_setRow HB2.out (by omega) _⟩
end Go.Proofs.Ytlcpackmoolngaa.Bu
namespace Go.Proofs.Ytlcpackmoolngaa.Bu
open Go.ChangeShapes Go.WideShapes Go.ChangeAt Go.RowKit Go.Proofs.Ytlcpackmoolngaa.Mem Go.Proofs.Ytlcpackmoolngaa.Op Go.Proofs.Ytlcpackmoolngaa.Sm Go.Proofs.Ytlcpackmoolngaa.Nd Go.Proofs.Ytlcpackmoolngaa.Rws
set_option linter.unusedVariables false
set_option linter.unusedSimpArgs false
def fnd (s : Int) (qs : List Parc) : Option Nat := qs.findIdx? (fun p => p.s == s)
def fndZ (s : Int) (qs : List Parc) : Int := match fnd s qs with | some k => (k : Int) | none => -1
def NoneTo (s : Int) (qs : List Parc) (k : Nat) : Prop := ∀ j q, j < k → qs[j]? = some q → ¬ q.s = s
theorem NoneTo.zero (s : Int) (qs : List Parc) : NoneTo s qs 0 := fun j q h => absurd h (by omega)
theorem NoneTo.succ {s : Int} {qs : List Parc} {k : Nat} {p : Parc} (h : NoneTo s qs k) (hp : qs[k]? = some p) (hn : ¬ p.s = s) : NoneTo s qs (k + 1) := fun j q hj hq => by
  by_cases e : j = k
  · subst e; rw [hp] at hq; injection hq with hq; subst hq; exact hn
  · exact h j q (by omega) hq
theorem fnd_some {s : Int} {qs : List Parc} {k : Nat} {p : Parc} (h : NoneTo s qs k) (hp : qs[k]? = some p) (hs : p.s = s) : fnd s qs = some k := by
  unfold fnd
  rw [List.findIdx?_eq_some_iff_getElem]
  obtain ⟨hk, e⟩ := List.getElem?_eq_some_iff.1 hp
  refine ⟨hk, by rw [e]; simp [hs], fun j hj => ?_⟩
  have := h j qs[j] hj (List.getElem?_eq_getElem (by omega))
  simpa using this
theorem fnd_none {s : Int} {qs : List Parc} (h : NoneTo s qs qs.length) : fnd s qs = none := by
  unfold fnd
  rw [List.findIdx?_eq_none_iff]
  intro q hq
  obtain ⟨j, hj, e⟩ := List.getElem_of_mem hq
  have := h j q hj (by rw [← e]; exact List.getElem?_eq_getElem hj)
  simpa using this
theorem fnd_at {s : Int} {qs : List Parc} {k : Nat} (h : fnd s qs = some k) : ∃ p, qs[k]? = some p ∧ p.s = s ∧ NoneTo s qs k := by
  unfold fnd at h
  rw [List.findIdx?_eq_some_iff_getElem] at h
  obtain ⟨hk, e, hj⟩ := h
  refine ⟨qs[k], List.getElem?_eq_getElem hk, by simpa using e, fun j q hjk hq => ?_⟩
  have := hj j hjk
  have e2 : qs[j] = q := by rw [List.getElem?_eq_getElem (by omega)] at hq; injection hq
  rw [e2] at this
  simpa using this
theorem pred_any (p : Parc) (a : Option Addr) (c : Nat) (ser : Int) (g : Nat) (w : World) (hg : g < w.heap.size) (hc : w.cell? ⟨g, 0, none⟩ = some (.int .i64 ser)) :
    Calls Try.prog 53 #[.agg #[.int .i64 p.f, .int .i64 p.t, .int .i64 p.d, .int .i64 p.s, .slice a p.bs.length c], .pointer (some ⟨g, 0, none⟩)] w fun e w' => e = .returned (.bool (decide (p.s = ser))) ∧ Below w.heap.size w w' := by
  have hne : g ≠ w.heap.size := by omega
  have HB := Lib.hid ((Below.refl w.heap.size w).alloc (Nat.le_refl _) (.cells #[.int .i64 p.f, .int .i64 p.t, .int .i64 p.d, .int .i64 p.s, .slice a p.bs.length c] 52))
  have P1 := Lib.hid (show Blk (w.alloc (.cells #[.int .i64 p.f, .int .i64 p.t, .int .i64 p.d, .int .i64 p.s, .slice a p.bs.length c] 52)) w.heap.size 52 #[.int .i64 p.f, .int .i64 p.t, .int .i64 p.d, .int .i64 p.s, .slice a p.bs.length c] from Blk.fresh _ _ _)
  have h1 := HB.out.cell (p := ⟨g, 0, none⟩) hg
  rw [hc] at h1
  go_enter Try.func53, Try.ntmps53
  go_upto_region 1 with fail
  generalize (w.alloc (.cells #[.int .i64 p.f, .int .i64 p.t, .int .i64 p.d, .int .i64 p.s, .slice a p.bs.length c] 52)) = w1 at *
  have y3 := P1.out.cell 3
  simp only [List.getElem?_toArray, List.getElem?_cons_zero, List.getElem?_cons_succ] at y3
  by_cases hs : p.s = ser
  · go_wp2_with fail
    go_ret
    exact ⟨by simp [hs], HB.out⟩
  · go_wp2_with fail
    go_ret
    exact ⟨by simp [hs], HB.out⟩
set_option maxRecDepth 100000 in
set_option maxHeartbeats 2000000 in
theorem indexFunc_any (ser : Int) (A : Option Addr) (c : Nat) (qs : List Parc) (g B : Nat) (w : World) (hB : B ≤ w.heap.size) (hl : qs.length ≤ 140737488351232) (hr : ParcsAt w B A qs) (hg : g < w.heap.size) (hc : w.cell? ⟨g, 0, none⟩ = some (.int .i64 ser)) :
    Calls Try.prog 52 #[.slice A qs.length c, .func (.func 53) #[] #[.pointer (some ⟨g, 0, none⟩)]] w fun e w' => e = .returned (.int .i64 (fndZ ser qs)) ∧ Below w.heap.size w w' := by
  have HR := Lib.hid hr
  have HC := Lib.hid hc
  clear hr hc
  go_enter Try.func52, Try.ntmps52
  go_wp2_with fail
  go_loopw [5, 8] (fun s5 i wr => ∃ k : Nat, k ≤ qs.length ∧ i = .int .i64 k ∧ NoneTo ser qs k ∧ Below w.heap.size w wr) (fun _ i _ => qs.length - (intOf i).toNat)
  case atStart => exact ⟨0, by omega, rfl, NoneTo.zero _ _, Below.refl _ _⟩
  case round =>
    obtain ⟨k, hk, rfl, hn, hb⟩ := hrel
    have HN := Lib.hid hn
    have HB := Lib.hid hb
    by_cases hlt : k < qs.length
    · have hm : qs[k]? = some qs[k] := List.getElem?_eq_getElem hlt
      generalize qs[k] = p at hm
      have HM := Lib.hid hm
      obtain ⟨b, o, a, ca, rfl, hbB, x0, x1, x2, x3, x4, h2, h3, h4, h5⟩ := (HR.out.below (hb.mono hB)).at hm
      have hk0 : (0 : Int) ≤ (k : Int) := by omega
      have hk1 : (k : Int) < (qs.length : Int) := by omega
      have hgw : g < wr.heap.size := Nat.lt_of_lt_of_le hg hb.size
      have CP := Lib.hid (pred_any p a ca ser g wr hgw ((hb.cell (p := ⟨g, 0, none⟩) hg).trans HC.out))
      clear h5 hm hn hb h2 h3
      by_cases hs : p.s = ser
      · have hd : decide (p.s = ser) = true := by simp [hs]
        rw [hd] at CP
        have HF := Lib.hid (fnd_some HN.out HM.out hs)
        clear hd hs
        go_wp2_with (go_at_call 53; refine CP.out.mono ?_; rintro e w2 ⟨rfl, hb2⟩; have HB2 := Lib.hid (onward HB.out (Nat.le_refl _) hb2); clear hb2)
        go_ret
        exact ⟨by unfold fndZ; rw [HF.out]; rfl, HB2.out⟩
      · have hd : decide (p.s = ser) = false := by simp [hs]
        rw [hd] at CP
        have HN2 := Lib.hid (HN.out.succ HM.out hs)
        clear hd hs
        go_wp2_with (go_at_call 53; refine CP.out.mono ?_; rintro e w2 ⟨rfl, hb2⟩; have HB2 := Lib.hid (onward HB.out (Nat.le_refl _) hb2); clear hb2)
        exact ⟨⟨k + 1, by omega, by go_num, HN2.out, HB2.out⟩, by simp [intOf]; omega⟩
    · obtain rfl : k = qs.length := by omega
      clear hlt hn hb
      have HF := Lib.hid (fnd_none HN.out)
      go_wp2_with fail
      go_ret
      exact ⟨by unfold fndZ; rw [HF.out]; rfl, HB.out⟩
set_option maxRecDepth 100000 in
theorem find_any (now ser0 ser : Int) (A : Option Addr) (c : Nat) (qs : List Parc) (B : Nat) (w : World) (hB : B ≤ w.heap.size) (hl : qs.length ≤ 140737488351232) (hr : ParcsAt w B A qs) :
    Calls Try.prog 25 #[.agg #[.int .i64 now, .int .i64 ser0, .slice A qs.length c], .int .i64 ser] w fun e w' => e = .returned (.int .i64 (fndZ ser qs)) ∧ Below w.heap.size w w' := by
  have HB := Lib.hid (((Below.refl w.heap.size w).alloc (Nat.le_refl _) (.cells #[.int .i64 now, .int .i64 ser0, .slice A qs.length c] 24)).alloc (by simp) (.cells #[.int .i64 ser] 3))
  have P1 := Lib.hid (show Blk ((w.alloc (.cells #[.int .i64 now, .int .i64 ser0, .slice A qs.length c] 24)).alloc (.cells #[.int .i64 ser] 3)) w.heap.size 24 #[.int .i64 now, .int .i64 ser0, .slice A qs.length c] from (Blk.new rfl).alloc _)
  have P2 := Lib.hid (show Blk ((w.alloc (.cells #[.int .i64 now, .int .i64 ser0, .slice A qs.length c] 24)).alloc (.cells #[.int .i64 ser] 3)) (w.heap.size + 1) 3 #[.int .i64 ser] from Blk.new (by simp))
  have HR := Lib.hid (hr.below (HB.out.mono hB))
  clear hr
  go_enter Try.func25, Try.ntmps25
  go_upto_region 1 with fail
  generalize ((w.alloc (.cells #[.int .i64 now, .int .i64 ser0, .slice A qs.length c] 24)).alloc (.cells #[.int .i64 ser] 3)) = W at *
  have CI := Lib.hid (indexFunc_any ser A c qs (w.heap.size + 1) B W (Nat.le_trans hB HB.out.size) hl HR.out P2.out.lt (P2.out.cell 0))
  have y2 := P1.out.cell 2
  simp only [List.getElem?_toArray, List.getElem?_cons_zero, List.getElem?_cons_succ] at y2
  go_wp2_with (go_at_call 52; refine CI.out.mono ?_; rintro e w2 ⟨rfl, hb2⟩; have HB2 := Lib.hid (onward HB.out (Nat.le_refl _) hb2); clear hb2)
  go_ret
  exact ⟨rfl, HB2.out⟩
end Go.Proofs.Ytlcpackmoolngaa.Bu
