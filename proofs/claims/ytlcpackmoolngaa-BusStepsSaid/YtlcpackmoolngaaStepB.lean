/- bus.Step: the walk behind the refusal. -/
import Derived.Test.YtlcpackmoolngaaStabOver
import Derived.Test.YtlcpackmoolngaaCopyB
import Derived.Test.YtlcpackmoolngaaStepA
import Derived.Test.YtlcpackmoolngaaAppAt
namespace Go.Proofs.Ytlcpackmoolngaa.Ss
open Go.ChangeShapes Go.WideShapes Go.ChangeAt Go.Shelf Go.RowKit Go.Lib Go.Sort Go.Proofs.Ytlcpackmoolngaa.Stb Go.Proofs.Ytlcpackmoolngaa.Bu Go.Proofs.Ytlcpackmoolngaa.Mem Go.Proofs.Ytlcpackmoolngaa.Op Go.Proofs.Ytlcpackmoolngaa.Sm Go.Proofs.Ytlcpackmoolngaa.Nd Go.Proofs.Ytlcpackmoolngaa.Rws
set_option linter.unusedVariables false
set_option linter.unusedSimpArgs false
set_option maxRecDepth 100000 in
set_option maxHeartbeats 4000000 in
theorem stepB_any (now ser t : Int) (A : Option Addr) (c : Nat) (qs : List Parc) (B : Nat) (w : World) (hB : B ≤ w.heap.size) (hl : qs.length * 56 ≤ 140737488351232) (hq : ParcsAt w B A qs) (ht : now ≤ t) (ht2 : t ≤ 1099511627776) :
    Calls Try.prog 15 #[.agg #[.int .i64 now, .int .i64 ser, .slice A qs.length c], .int .i64 t] w fun e w' => ∃ A1 c1 A2 c2 rs, e = .returned (.tuple #[.agg #[.int .i64 t, .int .i64 ser, .slice A1 (qs.filter fun p => !decide (p.d ≤ t)).length c1], .slice A2 rs.length c2, .int .i64 0]) ∧ SortedOf (qs.filter fun p => decide (p.d ≤ t)) rs ∧ ParcsAt w' w'.heap.size A2 rs ∧ ParcsAt w' w'.heap.size A1 (qs.filter fun p => !decide (p.d ≤ t)) ∧ Below w.heap.size w w' := by
  have D1 := Lib.hid (show Blk ((w.alloc (.cells #[.int .i64 now, .int .i64 ser, .slice A qs.length c] 24)).alloc (.cells #[.int .i64 0, .int .i64 0, .slice none 0 0] 24)) w.heap.size 24 #[.int .i64 now, .int .i64 ser, .slice A qs.length c] from (show Blk (w.alloc (.cells #[.int .i64 now, .int .i64 ser, .slice A qs.length c] 24)) w.heap.size 24 #[.int .i64 now, .int .i64 ser, .slice A qs.length c] from Blk.fresh _ _ _).alloc (.cells #[.int .i64 0, .int .i64 0, .slice none 0 0] 24))
  have D2 := Lib.hid (show Blk ((w.alloc (.cells #[.int .i64 now, .int .i64 ser, .slice A qs.length c] 24)).alloc (.cells #[.int .i64 0, .int .i64 0, .slice none 0 0] 24)) (w.heap.size + 1) 24 #[.int .i64 0, .int .i64 0, .slice none 0 0] from fresh2 _ _ _ _)
  have HB := Lib.hid (((Below.refl w.heap.size w).alloc (Nat.le_refl _) (.cells #[.int .i64 now, .int .i64 ser, .slice A qs.length c] 24)).alloc (by simp) (.cells #[.int .i64 0, .int .i64 0, .slice none 0 0] 24))
  go_enter Try.func15, Try.ntmps15
  go_upto_region 1 with fail
  generalize ((w.alloc (.cells #[.int .i64 now, .int .i64 ser, .slice A qs.length c] 24)).alloc (.cells #[.int .i64 0, .int .i64 0, .slice none 0 0] 24)) = W at *
  have y0 := D1.out.cell 0
  simp only [List.getElem?_toArray, List.getElem?_cons_zero, List.getElem?_cons_succ] at y0
  have HQ := Lib.hid (hq.below (HB.out.mono hB))
  have h1 : ¬ t < now := by omega
  have h2 : ¬ (1099511627776 : Int) < t := by omega
  clear hq
  go_wp2_with (refine wpList_whole rfl 24 _ rfl w.heap.size rfl D1.out _ Try.underlying24 rfl (by kernel_rfl) ?_)
  refine (copiedD_any now ser A c qs B W (Nat.le_trans hB HB.out.size) hl HQ.out).mono ?_
  rintro e w1 ⟨A', c', rfl, hown, hb⟩
  have hfl : ∀ w, (Instr.field 24 (.agg #[.int .i64 now, .int .i64 ser, .slice A' qs.length c']) 2).run Try.prog w = .ok (.slice A' qs.length c') w := fun _ => by kernel_rfl
  go_wp2_with fail
  go_loopw [8, 9, 26] (fun v u i wr => ∃ (k : Nat) (A1 : Option Addr) (c1 : Nat) (A2 : Option Addr) (c2 : Nat), k ≤ qs.length ∧ i = .int .i64 k ∧
    v = .slice A1 ((qs.take k).filter fun p => decide (p.d ≤ t)).length c1 ∧ u = .slice A2 ((qs.take k).filter fun p => !decide (p.d ≤ t)).length c2 ∧
    OverParcs wr w1.heap.size W.heap.size w1.heap.size A1 c1 ((qs.take k).filter fun p => decide (p.d ≤ t)) ∧ OverParcs wr w1.heap.size W.heap.size w1.heap.size A2 c2 ((qs.take k).filter fun p => !decide (p.d ≤ t)) ∧
    (v.ownBlock = none ∨ v.ownBlock ≠ u.ownBlock) ∧ Below w1.heap.size w1 wr) (fun _ _ i _ => qs.length - (intOf i).toNat)
  case atStart => exact ⟨0, none, 0, none, 0, by omega, rfl, rfl, rfl, OverParcs.nil _ _ _ _, OverParcs.nil _ _ _ _, .inl rfl, Below.refl _ _⟩
  case round =>
    obtain ⟨k, A1, c1, A2, c2, hk, rfl, rfl, rfl, ho1, ho2, hne, hb2⟩ := hrel
    obtain ⟨ps1, hp1⟩ : ∃ l, (qs.take k).filter (fun p => decide (p.d ≤ t)) = l := ⟨_, rfl⟩
    obtain ⟨ps2, hp2⟩ : ∃ l, (qs.take k).filter (fun p => !decide (p.d ≤ t)) = l := ⟨_, rfl⟩
    rw [hp1] at ho1 hne ⊢
    rw [hp2] at ho2 hne ⊢
    have HP1 := Lib.hid hp1
    have HP2 := Lib.hid hp2
    have HL1 := Lib.hid (show ps1.length ≤ k from by rw [← hp1]; exact Nat.le_trans (List.length_filter_le _ _) (by rw [List.length_take]; omega))
    have HL2 := Lib.hid (show ps2.length ≤ k from by rw [← hp2]; exact Nat.le_trans (List.length_filter_le _ _) (by rw [List.length_take]; omega))
    have HO1 := Lib.hid ho1
    have HO2 := Lib.hid ho2
    have HB2 := Lib.hid hb2
    have HNE := Lib.hid hne
    clear ho1 ho2 hne hp1 hp2
    by_cases hlt : k < qs.length
    · have hm : qs[k]? = some qs[k] := List.getElem?_eq_getElem hlt
      have HTK := Lib.hid (show qs.take (k + 1) = qs.take k ++ [qs[k]] from by rw [List.take_add_one, hm]; rfl)
      generalize qs[k] = p at *
      obtain ⟨b, o, a, ca, rfl, hbB, x0, x1, x2, x3, x4, hlo, h2, h3, h4, h5⟩ := ParcsLo.one (hown.lo.keep (Nat.le_refl _) fun b o _ hb => hb2.cell (p := ⟨b, o, none⟩) hb) hm
      have HPA := Lib.hid (And.intro hlo (And.intro h2 (And.intro h3 (And.intro h4 h5))))
      have hk0 : (0 : Int) ≤ (k : Int) := by omega
      have hk1 : (k : Int) < (qs.length : Int) := by omega
      clear hlo h2 h3 h4 h5 hm hb2
      go_upto_region 8 with fail
      have PB := Lib.hid (show Blk (wr.alloc (.cells #[.int .i64 p.f, .int .i64 p.t, .int .i64 p.d, .int .i64 p.s, .slice a p.bs.length ca] 52)) wr.heap.size 52 #[.int .i64 p.f, .int .i64 p.t, .int .i64 p.d, .int .i64 p.s, .slice a p.bs.length ca] from Blk.fresh _ _ _)
      have hbl : Below wr.heap.size wr (wr.alloc (.cells #[.int .i64 p.f, .int .i64 p.t, .int .i64 p.d, .int .i64 p.s, .slice a p.bs.length ca] 52)) := (Below.refl _ _).alloc (Nat.le_refl _) _
      have HBL := Lib.hid hbl
      clear x0 x1 x2 x3 x4 hbl
      generalize (wr.alloc (.cells #[.int .i64 p.f, .int .i64 p.t, .int .i64 p.d, .int .i64 p.s, .slice a p.bs.length ca] 52)) = w2 at *
      obtain ⟨g, hg⟩ : ∃ g, wr.heap.size = g := ⟨_, rfl⟩
      rw [hg] at PB ⊢
      have HGG := Lib.hid hg
      clear hg
      have yy0 := PB.out.cell 0
      have yy1 := PB.out.cell 1
      have yy2 := PB.out.cell 2
      have yy3 := PB.out.cell 3
      have yy4 := PB.out.cell 4
      simp only [List.getElem?_toArray, List.getElem?_cons_zero, List.getElem?_cons_succ] at yy0 yy1 yy2 yy3 yy4
      have HN : Hid (Rd (w2.alloc (.cells #[.int .i64 p.f, .int .i64 p.t, .int .i64 p.d, .int .i64 p.s, .slice a p.bs.length ca] 52)) (w2.heap.size + 1) 5 (some ⟨w2.heap.size, 0, none⟩) 1 (parcL p a ca)) := Lib.hid (rd_five w2 (parcL p a ca) rfl _)
      have hb3 : Below w2.heap.size w2 (w2.alloc (.cells #[.int .i64 p.f, .int .i64 p.t, .int .i64 p.d, .int .i64 p.s, .slice a p.bs.length ca] 52)) := (Below.refl _ _).alloc (Nat.le_refl _) _
      have HBS : Hid (w1.heap.size ≤ (w2.alloc (.cells #[.int .i64 p.f, .int .i64 p.t, .int .i64 p.d, .int .i64 p.s, .slice a p.bs.length ca] 52)).heap.size) := Lib.hid (Nat.le_trans HB2.out.size (Nat.le_trans HBL.out.size hb3.size))
      by_cases hd : p.d ≤ t
      · have E1 := Lib.hid (show (qs.take (k + 1)).filter (fun p => decide (p.d ≤ t)) = ps1 ++ [p] from by rw [HTK.out, List.filter_append, HP1.out]; simp [hd])
        have E2 := Lib.hid (show (qs.take (k + 1)).filter (fun p => !decide (p.d ≤ t)) = ps2 from by rw [HTK.out, List.filter_append, HP2.out]; simp [hd])
        obtain ⟨xs, hrow, hxs⟩ := HO1.out
        have HX := Lib.hid hxs
        have HW := Lib.hid (Nd.ownsRow_below (Nd.ownsRow_below hrow HBL.out) hb3)
        have HXL := Lib.hid (show xs.length = ps1.length * 5 from hrow.1)
        clear hrow hxs
        go_wp2_with (at_builtin; refine Tx.wpList_append_at _ rfl (.tmp 34) (.tmp 36) 22 rfl (base := w1.heap.size) elemParcs rfl HW.out rfl HN.out (by omega) (by simp [parcL, Value.oneCell']) (by have := HL1.out; unfold maxLen; omega) (by have := HL1.out; omega) HBS.out ?_; intro v4 w5 hown4 hg4 hat4; obtain ⟨A4, c4, rfl, _⟩ := own_form hown4; have HO4 := Lib.hid hown4; have HG4 := Lib.hid hg4; have HT4 := Lib.hid hat4; clear hown4 hg4 hat4)
        have hkw : ∀ b o, b < w1.heap.size → w5.cell? ⟨b, o, none⟩ = wr.cell? ⟨b, o, none⟩ := fun b o hb => by
          have h1 : wr.heap.size ≤ w2.heap.size := HBL.out.size
          have h2 : w2.heap.size ≤ (w2.alloc (.cells #[.int .i64 p.f, .int .i64 p.t, .int .i64 p.d, .int .i64 p.s, .slice a p.bs.length ca] 52)).heap.size := hb3.size
          have h3 : w1.heap.size ≤ wr.heap.size := HB2.out.size
          exact (grown_cells HG4.out o (by omega) (own_ge HW.out hb)).trans ((hb3.cell (p := ⟨b, o, none⟩) (by show b < _; omega)).trans (HBL.out.cell (p := ⟨b, o, none⟩) (by show b < _; omega)))
        have g1 := OverParcs.snoc (A := none) (c := 0) HXL.out HX.out HPA.out hkw HO4.out
        have hbw : Below wr.heap.size wr (w2.alloc (.cells #[.int .i64 p.f, .int .i64 p.t, .int .i64 p.d, .int .i64 p.s, .slice a p.bs.length ca] 52)) := HBL.out.trans (hb3.mono HBL.out.size)
        have hn2 : (Value.slice A2 ps2.length c2).ownBlock = none ∨ (Value.slice A2 ps2.length c2).ownBlock ≠ (Value.slice A1 ps1.length c1).ownBlock := apart_symm HNE.out
        have g2 : OverParcs w5 w1.heap.size W.heap.size w1.heap.size A2 c2 ps2 :=
          (OverParcs.kept HO2.out (below_grows hbw) (by cases (Value.slice A2 ps2.length c2).ownBlock <;> simp) (fun b o hb => hbw.cell (p := ⟨b, o, none⟩) (by have h3 : w1.heap.size ≤ wr.heap.size := HB2.out.size; show b < _; omega))).kept HG4.out hn2 (fun b o hb => grown_cells HG4.out o (by have h1 : wr.heap.size ≤ w2.heap.size := HBL.out.size; have h2 : w2.heap.size ≤ (w2.alloc (.cells #[.int .i64 p.f, .int .i64 p.t, .int .i64 p.d, .int .i64 p.s, .slice a p.bs.length ca] 52)).heap.size := hb3.size; have h3 : w1.heap.size ≤ wr.heap.size := HB2.out.size; omega) (own_ge HW.out hb))
        obtain ⟨ys, hys, _⟩ := HO2.out
        have hap := Tx.own_after (Nd.ownsRow_below (Nd.ownsRow_below hys HBL.out) hb3) hn2 HT4.out
        have hbf : Below w1.heap.size w1 w5 := (onward HB2.out (Nat.le_refl _) hbw).grown HG4.out (Nat.le_trans HB2.out.size hbw.size) (fun g e => (HW.out.lt g e).1)
        exact ⟨⟨k + 1, A4, c4, A2, c2, by omega, by go_num, by rw [E1.out]; simp, by rw [E2.out], by rw [E1.out]; exact g1, by rw [E2.out]; exact g2, apart_symm hap, hbf⟩, by simp [intOf]; omega⟩
      · have E1 := Lib.hid (show (qs.take (k + 1)).filter (fun p => decide (p.d ≤ t)) = ps1 from by rw [HTK.out, List.filter_append, HP1.out]; simp [hd])
        have E2 := Lib.hid (show (qs.take (k + 1)).filter (fun p => !decide (p.d ≤ t)) = ps2 ++ [p] from by rw [HTK.out, List.filter_append, HP2.out]; simp [hd])
        obtain ⟨xs, hrow, hxs⟩ := HO2.out
        have HX := Lib.hid hxs
        have HW := Lib.hid (Nd.ownsRow_below (Nd.ownsRow_below hrow HBL.out) hb3)
        have HXL := Lib.hid (show xs.length = ps2.length * 5 from hrow.1)
        clear hrow hxs
        go_wp2_with (at_builtin; refine Tx.wpList_append_at _ rfl (.tmp 38) (.tmp 40) 22 rfl (base := w1.heap.size) elemParcs rfl HW.out rfl HN.out (by omega) (by simp [parcL, Value.oneCell']) (by have := HL2.out; unfold maxLen; omega) (by have := HL2.out; omega) HBS.out ?_; intro v4 w5 hown4 hg4 hat4; obtain ⟨A4, c4, rfl, _⟩ := own_form hown4; have HO4 := Lib.hid hown4; have HG4 := Lib.hid hg4; have HT4 := Lib.hid hat4; clear hown4 hg4 hat4)
        have hkw : ∀ b o, b < w1.heap.size → w5.cell? ⟨b, o, none⟩ = wr.cell? ⟨b, o, none⟩ := fun b o hb => by
          have h1 : wr.heap.size ≤ w2.heap.size := HBL.out.size
          have h2 : w2.heap.size ≤ (w2.alloc (.cells #[.int .i64 p.f, .int .i64 p.t, .int .i64 p.d, .int .i64 p.s, .slice a p.bs.length ca] 52)).heap.size := hb3.size
          have h3 : w1.heap.size ≤ wr.heap.size := HB2.out.size
          exact (grown_cells HG4.out o (by omega) (own_ge HW.out hb)).trans ((hb3.cell (p := ⟨b, o, none⟩) (by show b < _; omega)).trans (HBL.out.cell (p := ⟨b, o, none⟩) (by show b < _; omega)))
        have g2 := OverParcs.snoc (A := none) (c := 0) HXL.out HX.out HPA.out hkw HO4.out
        have hbw : Below wr.heap.size wr (w2.alloc (.cells #[.int .i64 p.f, .int .i64 p.t, .int .i64 p.d, .int .i64 p.s, .slice a p.bs.length ca] 52)) := HBL.out.trans (hb3.mono HBL.out.size)
        have hn1 : (Value.slice A1 ps1.length c1).ownBlock = none ∨ (Value.slice A1 ps1.length c1).ownBlock ≠ (Value.slice A2 ps2.length c2).ownBlock := HNE.out
        have g1 : OverParcs w5 w1.heap.size W.heap.size w1.heap.size A1 c1 ps1 :=
          (OverParcs.kept HO1.out (below_grows hbw) (by cases (Value.slice A1 ps1.length c1).ownBlock <;> simp) (fun b o hb => hbw.cell (p := ⟨b, o, none⟩) (by have h3 : w1.heap.size ≤ wr.heap.size := HB2.out.size; show b < _; omega))).kept HG4.out hn1 (fun b o hb => grown_cells HG4.out o (by have h1 : wr.heap.size ≤ w2.heap.size := HBL.out.size; have h2 : w2.heap.size ≤ (w2.alloc (.cells #[.int .i64 p.f, .int .i64 p.t, .int .i64 p.d, .int .i64 p.s, .slice a p.bs.length ca] 52)).heap.size := hb3.size; have h3 : w1.heap.size ≤ wr.heap.size := HB2.out.size; omega) (own_ge HW.out hb))
        obtain ⟨ys, hys, _⟩ := HO1.out
        have hap := Tx.own_after (Nd.ownsRow_below (Nd.ownsRow_below hys HBL.out) hb3) hn1 HT4.out
        have hbf : Below w1.heap.size w1 w5 := (onward HB2.out (Nat.le_refl _) hbw).grown HG4.out (Nat.le_trans HB2.out.size hbw.size) (fun g e => (HW.out.lt g e).1)
        exact ⟨⟨k + 1, A1, c1, A4, c4, by omega, by go_num, by rw [E1.out], by rw [E2.out]; simp, by rw [E1.out]; exact g1, by rw [E2.out]; exact g2, hap, hbf⟩, by simp [intOf]; omega⟩
    · obtain rfl : k = qs.length := by omega
      rw [List.take_length] at HP1 HP2
      have HB1 := Lib.hid hb
      clear hlt hb2
      go_wp2_with fail
      refine (sortQ_any HO1.out (Nat.le_refl _) HB1.out.size (by have := HL1.out; omega)).mono ?_
      rintro e w6 ⟨rfl, rs, hrl, hso, hpr, hg6⟩
      have hne1 : ∀ b, b < w1.heap.size → some b ≠ (Value.slice A1 ps1.length c1).ownBlock := fun b hb => by
        obtain ⟨xs, ho, _⟩ := HO1.out
        exact own_ge ho hb
      have hlw : w.heap.size + 1 < W.heap.size := D2.out.lt
      have D1 := Lib.hid ((D1.out.below HB1.out D1.out.lt).below HB2.out (Nat.lt_of_lt_of_le D1.out.lt HB1.out.size))
      have D2 := Lib.hid ((D2.out.below HB1.out D2.out.lt).below HB2.out (Nat.lt_of_lt_of_le D2.out.lt HB1.out.size))
      have D1 := Lib.hid (D1.out.grown hg6 (hne1 _ (by have := HB1.out.size; omega)))
      have D2 := Lib.hid (D2.out.grown hg6 (hne1 _ (by have := HB1.out.size; omega)))
      have HPQ := HP2
      have HP2 := Lib.hid (show (Value.slice A2 ps2.length c2).ownBlock = none ∨ (Value.slice A2 ps2.length c2).ownBlock ≠ (Value.slice A1 ps1.length c1).ownBlock from apart_symm HNE.out)
      have HR2 := Lib.hid ((HO2.out.kept hg6 HP2.out (fun b o hb => grown_cells hg6 o (Nat.lt_of_lt_of_le hb HB2.out.size) (hne1 b hb))).lo HB1.out.size (Nat.le_trans HB2.out.size hg6.size))
      have HR1 := Lib.hid hpr
      have HSO := Lib.hid hso
      have HRL := Lib.hid hrl
      have HY := Lib.hid ((onward (onward HB.out (Nat.le_refl _) HB1.out) (Nat.le_refl _) HB2.out).grown hg6 (Nat.le_trans HB.out.size (Nat.le_trans HB1.out.size HB2.out.size)) (fun g e => by
        obtain ⟨xs, ho, _⟩ := HO1.out
        have := (ho.lt g e).1
        have := HB1.out.size
        omega))
      have y1 := D1.out.cell 1
      simp only [List.getElem?_toArray, List.getElem?_cons_zero, List.getElem?_cons_succ] at y1
      clear hrl hso hpr hg6 hne1
      go_wp2_with (refine wpList_store_row rfl 24 _ _ rfl (w.heap.size + 1) #[.int .i64 t, .int .i64 ser, .slice A2 ps2.length c2] rfl rfl 24 _ D2.out (by kernel_rfl) rfl (by simp [Value.oneCell']) ?_)
      refine ret_row3 (x := .slice A1 ps1.length c1) (y := .int .i64 0) rfl rfl rfl rfl (D2.out.setRow #[.int .i64 t, .int .i64 ser, .slice A2 ps2.length c2]) ⟨by rw [Try.underlying24], by kernel_rfl⟩ rfl ?_
      rw [HP1.out]
      refine ⟨A2, c2, A1, c1, rs, by rw [HRL.out, HPQ.out], HSO.out, ?_, ?_, below_setRow HY.out (by omega) _⟩
      · exact ((HR1.out.setRow (by omega) _).keep (below_setRow (Below.refl 0 w6) (Nat.zero_le _) _).size fun _ _ _ _ => rfl).at
      · rw [HPQ.out]
        exact ((HR2.out.setRow (by omega) _).keep (below_setRow (Below.refl 0 w6) (Nat.zero_le _) _).size fun _ _ _ _ => rfl).at
end Go.Proofs.Ytlcpackmoolngaa.Ss
