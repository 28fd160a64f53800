/- fix.Text: P1.6, as the program tells it. -/
import Derived.Test.YtlcpackmoolngaaFixSize
import Derived.Test.YtlcpackmoolngaaTextLaw
import Derived.Test.YtlcpackmoolngaaTextRev
import Derived.Test.YtlcpackmoolngaaAppAt
import Derived.Deep.CutBlock
import Derived.Deep.DeepCutAuto
namespace Go.Proofs.Ytlcpackmoolngaa.Tx
open Go.RowKit Go.Proofs.Ytlcpackmoolngaa.Mem Go.Proofs.Ytlcpackmoolngaa.Sm Go.Proofs.Ytlcpackmoolngaa.TextLaw Go.Proofs.Ytlcpackmoolngaa.BigW
set_option linter.unusedVariables false

set_option maxHeartbeats 1000000 in
theorem fixText_any (a : Int) (w : World) (ha : -9223372036854775808 ≤ a ∧ a ≤ 9223372036854775807) :
    Calls Try.prog 21 #[.int .i64 a] w fun e w' => e = .returned (.string (strB (textOf a))) ∧ Below w.heap.size w w' := by
  have HA := Lib.hid ha
  go_enter Try.func21, Try.ntmps21
  go_wp2_with fail
  refine (size_any a w HA.out).mono ?_
  rintro e w' ⟨rfl, rfl⟩
  obtain ⟨u, hu⟩ : ∃ u : Nat, u = a.natAbs := ⟨_, rfl⟩
  rw [← hu]
  have hul : u < 18446744073709551616 := by have := HA.out; omega
  have HU := Lib.hid hu
  clear hu ha
  obtain ⟨bL, hbL⟩ : ∃ bL, bL = (if a < 0 then [45] else [] : List Nat) := ⟨_, rfl⟩
  have HBL := Lib.hid hbL
  have hbl : bL.length ≤ 1 := by rw [hbL]; split <;> simp
  obtain ⟨W, hW⟩ : ∃ W, W = u / 4294967296 := ⟨_, rfl⟩
  have hdiv : (u : Int) / 4294967296 = (W : Int) := by omega
  have hWl : W < 4294967296 := by omega
  have HW := Lib.hid hW
  clear hW
  by_cases hneg : a < 0
  · go_upto_region 5 with (at_builtin; refine wpList_append_rd _ rfl (.tmp 13) (.tmp 14) 38 rfl elemBytes rfl (World.ownsRow_nil _ w.heap.size _ _) rfl (by simp) (rd_one _ _ _) (by simp [Value.oneCell']) (by unfold maxLen; omega) (by omega) (by simp) ?_; intro A1 c1 w1 hA1 hown1 hg1)
    rw [if_pos hneg] at hbL
    have hob : OwnB w.heap.size w1 (.slice A1 (0 + 1) c1) bL := ⟨A1, c1, by rw [hbL]; rfl, by rw [hbL]; exact hown1⟩
    have HOB := Lib.hid hob
    have HB1 := Lib.hid (Below.grown ((Below.refl w.heap.size w).alloc (Nat.le_refl _) (.cells #[.int .u8 45] 5)) hg1 (by simp) (fun g e => by cases e))
    generalize (Value.slice A1 (0 + 1) c1) = vb at *
    clear hown1 hg1 hA1 hob hbL hneg
    go_upto_region 7 with fail
    go_loopw [5, 6] (fun wh d wr => ∃ (q : Nat) (ds : List Nat), wh = .int .u64 (q : Int) ∧ OwnB w1.heap.size wr d (ch ds) ∧ (q = W ∧ ds = [] ∨ ds ≠ [] ∧ top q ++ ds.reverse = dec W) ∧ ds.length + q ≤ W + 1 ∧ Below w1.heap.size w1 wr) (fun wh d _ => 2 * (intOf wh).toNat + (match d with | .slice _ n _ => if n = 0 then 1 else 0 | _ => 0))
    case atStart => exact ⟨W, [], rfl, ⟨none, 0, rfl, World.ownsRow_nil _ _ _ _⟩, .inl ⟨rfl, rfl⟩, by simp, Below.refl _ _⟩
    case round =>
      obtain ⟨q, ds, rfl, ⟨A2, c2, rfl, hown⟩, hcase, hlen, hb2⟩ := hrel
      have hsz2 := hb2.size
      have HC := Lib.hid hcase
      rw [ch_length] at hown ⊢
      have HO := Lib.hid hown
      by_cases hgo : 0 < q ∨ ds.length = 0
      · have e1 : (q : Int) % 10 = ((q % 10 : Nat) : Int) := by omega
        have e2 : (q : Int) / 10 = ((q / 10 : Nat) : Int) := by omega
        have hd9 : q % 10 < 10 := Nat.mod_lt _ (by omega)
        have hq10 : q / 10 ≤ q := Nat.div_le_self _ _
        have HL := Lib.hid (show (ds ++ [q % 10]).length + q / 10 ≤ W + 1 ∧ (0 < q → q / 10 < q) ∧ (q = 0 → q / 10 = 0) by rw [List.length_append, List.length_singleton]; omega)
        have HN := Lib.hid (show ds ++ [q % 10] ≠ [] ∧ top (q / 10) ++ (ds ++ [q % 10]).reverse = dec W by
          refine ⟨by simp, ?_⟩
          rw [List.reverse_append, List.reverse_singleton, ← List.append_assoc]
          rcases HC.out with ⟨h1, h2⟩ | ⟨h1, h2⟩
          · rw [dec_top, h1, h2, List.reverse_nil, List.append_nil]
          · rcases hgo with h3 | h3
            · rw [top_step h3, h2]
            · exact absurd (List.eq_nil_of_length_eq_zero h3) h1)
        generalize hx : q % 10 = x at e1 hd9 HL HN
        have HX := Lib.hid hx
        clear hx hcase hown
        generalize hy : q / 10 = y at e2 hq10 HL HN
        have HY := Lib.hid hy
        clear hy
        have hwy : IntKind.u64.wrap (y : Int) = (y : Int) := by rw [u64wrap]; omega
        have hlw : ds.length ≤ 4294967296 := by omega
        have HLN := Lib.hid hlen
        clear hlen
        have HCH := Lib.hid (show ch (ds ++ [x]) = ch ds ++ [x + 48] from ch_append _ _)
        have hgo2 : (0 : Int) < (q : Int) ∨ (¬ (0 : Int) < (q : Int) ∧ ((ds.length : Int) == 0) = true) := by
          rcases hgo with h | h
          · left; omega
          · by_cases h0 : (0 : Int) < (q : Int)
            · exact .inl h0
            · exact .inr ⟨h0, by rw [beq_iff_eq]; omega⟩
        have HGO := Lib.hid hgo2
        clear hgo
        rcases hgo2 with hq | ⟨hq, hds⟩
        · skip
          go_wp2_with (at_builtin; refine wpList_append_rd _ rfl (.tmp 25) (.tmp 30) 38 rfl elemBytes rfl (HO.out.alloc _) rfl (by simp) (rd_one _ _ _) (by simp [Value.oneCell']) (by unfold maxLen; omega) (by omega) (by simp; omega) ?_; intro A3 c3 w3 hA3 hown3 hg3; have HO3 := Lib.hid hown3; have HB3 := Lib.hid (Below.grown (hb2.alloc (by omega) (.cells #[.int .u8 (48 + (x : Int))] 5)) hg3 (by simp; omega) (fun g e => (HO.out.lt g e).1)); clear hown3 hg3 hA3)
          refine ⟨⟨y, ds ++ [x], rfl, ⟨A3, c3, by rw [ch_length, List.length_append]; rfl, ?_⟩, .inr HN.out, HL.out.1, HB3.out⟩, ?_⟩
          · rw [HCH.out, bytesV_append, List.length_append, ch_length]
            simpa [bytesV, Int.add_comm] using HO3.out
          · have h1 := HL.out
            have h2 := HGO.out
            rw [beq_iff_eq] at h2
            simp only [intOf, Int.toNat_natCast]
            rw [if_neg (show ¬ ds.length + 1 = 0 by omega)]
            split <;> omega
        · obtain rfl : q = 0 := by omega
          obtain rfl : x = 0 := HX.out.symm
          obtain rfl : y = 0 := HY.out.symm
          clear e1 e2 hwy hq
          go_wp2_with (at_builtin; refine wpList_append_rd _ rfl (.tmp 25) (.tmp 30) 38 rfl elemBytes rfl (HO.out.alloc _) rfl (by simp) (rd_one _ _ _) (by simp [Value.oneCell']) (by unfold maxLen; omega) (by omega) (by simp; omega) ?_; intro A3 c3 w3 hA3 hown3 hg3; have HO3 := Lib.hid hown3; have HB3 := Lib.hid (Below.grown (hb2.alloc (by omega) (.cells #[.int .u8 (48)] 5)) hg3 (by simp; omega) (fun g e => (HO.out.lt g e).1)); clear hown3 hg3 hA3)
          refine ⟨⟨0, ds ++ [0], rfl, ⟨A3, c3, by rw [ch_length, List.length_append]; rfl, ?_⟩, .inr HN.out, HL.out.1, HB3.out⟩, ?_⟩
          · rw [HCH.out, bytesV_append, List.length_append, ch_length]
            simpa [bytesV, Int.add_comm] using HO3.out
          · have h1 := HL.out
            have h2 : ds.length = 0 := by have := hds; rw [beq_iff_eq] at this; omega
            simp only [intOf, Int.toNat_natCast]
            rw [if_pos h2, if_neg (by omega)]; omega
      · have hq0 : q = 0 := by omega
        have hq : ¬ (0 : Int) < (q : Int) := by omega
        have hds : ((ds.length : Int) == 0) = false := by rw [beq_eq_false_iff_ne]; omega
        have hpos : 0 < ds.length := by omega
        have HD := Lib.hid (show ds.reverse = dec W by
          rcases hcase with ⟨h1, h2⟩ | ⟨h1, h2⟩
          · rw [h2] at hpos; simp at hpos
          · rw [← h2, hq0]; rfl)
        have HSM := Lib.hid (show ∀ x ∈ ds, x < 10 from fun x hx => dec_small W x (by rw [← HD.out]; exact List.mem_reverse.2 hx))
        have hlw : ds.length ≤ 4294967296 := by omega
        clear hcase hgo hlen hown hq0
        go_upto_region 11 with fail
        have HO1 := Lib.hid (show OwnB w1.heap.size wr (.slice A2 ds.length c2) (ch ds) from ⟨A2, c2, by rw [ch_length], by rw [ch_length]; exact HO.out⟩)
        have HBW := Lib.hid (onward HB1.out (Nat.le_refl _) hb2)
        have HOV := Lib.hid (ownB_below HOB.out hb2)
        have HNE := Lib.hid (show (Value.slice A2 ds.length c2).ownBlock = none ∨ (Value.slice A2 ds.length c2).ownBlock ≠ vb.ownBlock by
          rcases hv : (Value.slice A2 ds.length c2).ownBlock with _ | g
          · exact .inl rfl
          · right
            intro e
            obtain ⟨A9, c9, e9, h9⟩ := HOB.out
            have h1 := (HO.out.lt g hv).1
            rw [e9] at e
            have h2 := (h9.lt g e.symm).2
            omega)
        clear hq
        generalize wr = w2 at *
        go_loopw [3, 7] (fun v i wr => ∃ k : Nat, k ≤ ds.length ∧ i = .int .i64 ((k : Int) - 1) ∧ OwnB w.heap.size wr v (bL ++ ch (ds.drop k).reverse) ∧ wr.ownsRow w1.heap.size 5 1 (.slice A2 ds.length c2) ds.length (bytesV (ch ds)) ∧ ((Value.slice A2 ds.length c2).ownBlock = none ∨ (Value.slice A2 ds.length c2).ownBlock ≠ v.ownBlock) ∧ Below w.heap.size w wr) (fun _ i _ => (intOf i + 1).toNat)
        case atStart => exact ⟨ds.length, Nat.le_refl _, rfl, by rw [List.drop_length, List.reverse_nil]; simpa [ch] using HOV.out, HO.out, HNE.out, HBW.out⟩
        case round =>
          obtain ⟨k, hk, rfl, ⟨A4, c4, rfl, hov⟩, hod, hne, hbw⟩ := hrel
          have hszw := hbw.size
          have HOV := Lib.hid hov
          have HOD := Lib.hid hod
          have HNE := Lib.hid hne
          by_cases hpos : 0 < k
          · obtain ⟨j, rfl⟩ : ∃ j, k = j + 1 := ⟨k - 1, by omega⟩
            have e3 : ((j + 1 : Nat) : Int) - 1 = (j : Int) := by omega
            rw [e3]
            have hj : j < ds.length := by omega
            obtain ⟨b, o, u1, rfl, hb1, hu1, hcell⟩ := (Rd.of_own HOD.out).at hj
            rw [bytesV_at _ _ (by rw [ch_length]; exact hj)] at hu1
            obtain rfl : (Value.int .u8 (((ch ds)[j]'(by rw [ch_length]; exact hj) : Nat) : Int)) = u1 := by injection hu1
            obtain ⟨y, hy⟩ : ∃ y, y = ds[j] + 48 := ⟨_, rfl⟩
            have hy2 : (ch ds)[j]'(by rw [ch_length]; exact hj) = y := by rw [hy]; simp [ch]
            rw [hy2] at hcell
            have HY := Lib.hid (show (ds.drop j).reverse = (ds.drop (j + 1)).reverse ++ [ds[j]] by rw [List.drop_eq_getElem_cons hj, List.reverse_cons])
            have HY2 := Lib.hid (show ch (ds.drop j).reverse = ch (ds.drop (j + 1)).reverse ++ [y] by rw [HY.out, ch_append, hy]; rfl)
            have hyl : y < 256 := by have := HSM.out ds[j] (List.getElem_mem hj); omega
            have HLL := Lib.hid (show (bL ++ ch (ds.drop (j + 1)).reverse).length ≤ 4294967299 by simp [ch]; omega)
            clear hy hy2 hu1 hov hod hne hpos e3
            have hjn : (j : Int) < (ds.length : Int) := by omega
            have hj0 : (0 : Int) ≤ (j : Int) := by omega
            go_wp2_with (at_builtin; refine wpList_append_at _ rfl (.tmp 41) (.tmp 46) 38 rfl w.heap.size elemBytes rfl (HOV.out.alloc _) rfl (rd_single _ _ _) (by omega) (by simp [Value.oneCell']) (by have := HLL.out; unfold maxLen; omega) (by have := HLL.out; omega) (by simp; omega) ?_; intro v5 w5 hown5 hg5 ho5; have HO5 := Lib.hid hown5; have HG5 := Lib.hid hg5; have HV5 := Lib.hid ho5; clear hown5 hg5 ho5)
            obtain ⟨A6, c6, e6, _⟩ := own_form HO5.out
            have hd6 : ((Value.slice (some ⟨b, o, none⟩) ds.length c2).ownBlock = none ∨ (Value.slice (some ⟨b, o, none⟩) ds.length c2).ownBlock ≠ v5.ownBlock) := own_after (HOD.out.alloc _) HNE.out HV5.out
            have hw6 : w5.ownsRow w1.heap.size 5 1 (.slice (some ⟨b, o, none⟩) ds.length c2) ds.length (bytesV (ch ds)) := (HOD.out.alloc _).kept HG5.out HNE.out
            have hb6 : Below w.heap.size w w5 := Below.grown (hbw.alloc hszw (.cells #[.int .u8 (y : Int)] 5)) HG5.out (by simp; omega) (fun g e => (HOV.out.lt g e).1)
            have hn6 : (bL ++ ch (ds.drop j).reverse).length = (bL ++ ch (ds.drop (j + 1)).reverse).length + 1 := by rw [HY2.out, ← List.append_assoc, List.length_append]; rfl
            subst e6
            refine ⟨⟨j, by omega, rfl, ⟨A6, c6, by rw [hn6], ?_⟩, hw6, hd6, hb6⟩, by simp [intOf]⟩
            rw [hn6, HY2.out, ← List.append_assoc, bytesV_append]
            exact HO5.out
          · obtain rfl : k = 0 := by omega
            rw [List.drop_zero, HD.out] at hov HOV ⊢
            rw [show ((0 : Nat) : Int) - 1 = -1 from rfl]
            have HBW2 := Lib.hid hbw
            clear hov hod hne hpos HOD HNE
            generalize wr = w3 at *
            obtain ⟨cs, hcs⟩ : ∃ cs, cs = bL ++ ch (dec W) := ⟨_, rfl⟩
            rw [← hcs] at HOV ⊢
            have hcl : cs.length ≤ 4294967298 := by have := dec_length_le W; rw [hcs]; simp [ch]; omega
            obtain ⟨p, hp⟩ : ∃ p, p = u % 4294967296 := ⟨_, rfl⟩
            have hmask : bits .and .u64 (u : Int) 4294967295 = (p : Int) := by rw [hp]; exact maskN u hul
            have hpl : p < 4294967296 := by omega
            have HT := Lib.hid (show textOf a = cs ++ (if p = 0 then [] else 46 :: ch (frT 32 p)) by
              unfold textOf
              rw [← HU.out, hcs, hp, HBL.out, HW.out, List.append_assoc]; rfl)
            have HP := Lib.hid hp
            clear hcs hp
            by_cases hp0 : 0 < p
            · have hne0 : ¬ p = 0 := by omega
              have HT2 := Lib.hid (show (cs ++ [46]) ++ ch (frT 32 p) = textOf a by rw [HT.out, if_neg hne0, List.append_assoc]; rfl)
              go_upto_region 17 with (at_builtin; refine wpList_append_rd _ rfl (.tmp 52) (.tmp 53) 38 rfl elemBytes rfl (HOV.out.alloc _) rfl (by simp) (rd_one _ _ _) (by simp [Value.oneCell']) (by unfold maxLen; omega) (by omega) (by simp; omega) ?_; intro A7 c7 w4 hA7 hown7 hg7; have HO7 := Lib.hid (show OwnB w.heap.size w4 (.slice A7 (cs.length + 1) c7) (cs ++ [46]) from ⟨A7, c7, by rw [List.length_append]; rfl, by rw [bytesV_append, List.length_append]; exact hown7⟩); have HB7 := Lib.hid (Below.grown (hbw.alloc hszw (.cells #[.int .u8 46] 5)) hg7 (by simp; omega) (fun g e => (HOV.out.lt g e).1)); clear hown7 hg7 hA7)
              go_loopw [3, 8] (fun v pv wr => ∃ (k r : Nat) (xs : List Nat), k ≤ 32 ∧ TextLaw.Ends k r ∧ pv = .int .u64 (r : Int) ∧ OwnB w.heap.size wr v xs ∧ xs ++ ch (frT k r) = textOf a ∧ xs.length + k ≤ 5000000000 ∧ Below w.heap.size w wr ∧ (0 < r → 0 < k)) (fun v _ _ => 5000000001 - (match v with | .slice _ n _ => n | _ => 0))
              case atStart => exact ⟨32, p, cs ++ [46], Nat.le_refl _, ends_all hpl, rfl, HO7.out, HT2.out, by rw [List.length_append, List.length_singleton]; omega, HB7.out, fun _ => by omega⟩
              case round =>
                obtain ⟨k, r, xs, hk, he, rfl, ⟨A5, c5, rfl, hov⟩, hT, hxl, hb5, hkr⟩ := hrel
                have hsz5 := hb5.size
                have HOV5 := Lib.hid hov
                have HT5 := Lib.hid hT
                have HE := Lib.hid he
                clear hov hT
                by_cases hr : 0 < r
                · obtain ⟨j, rfl⟩ : ∃ j, k = j + 1 := ⟨k - 1, by have := hkr hr; omega⟩
                  have hrl := he.1
                  obtain ⟨m, hm⟩ : ∃ m, m = 10 * r := ⟨_, rfl⟩
                  have e1 : (r : Int) * 10 = (m : Int) := by omega
                  have hml : m < 42949672960 := by omega
                  have e2 : (m : Int) / 4294967296 = ((m / 4294967296 : Nat) : Int) := by omega
                  have hd9 : m / 4294967296 < 10 := by omega
                  have hmask2 := maskN m (by omega)
                  have HS := Lib.hid (he.step (by omega))
                  have HF := Lib.hid (show ch (frT (j + 1) r) = [m / 4294967296 + 48] ++ ch (frT j (m % 4294967296)) by rw [frT_step hr, hm]; rfl)
                  rw [← hm] at HS
                  have HJ := Lib.hid (show 0 < m % 4294967296 → 0 < j from fun h => by
                    rcases Nat.eq_zero_or_pos j with h0 | h0
                    · have h2 := HS.out
                      rw [h0] at h2
                      have := h2.zero
                      omega
                    · exact h0)
                  generalize m / 4294967296 = x at e2 hd9 HF
                  generalize m % 4294967296 = y at hmask2 HS HF HJ
                  clear hm he hkr
                  go_wp2_with (at_builtin; refine wpList_append_rd _ rfl (.tmp 59) (.tmp 64) 38 rfl elemBytes rfl (HOV5.out.alloc _) rfl (by simp) (rd_one _ _ _) (by simp [Value.oneCell']) (by unfold maxLen; omega) (by omega) (by simp; omega) ?_; intro A3 c3 w3 hA3 hown3 hg3; have HO3 := Lib.hid hown3; have HB3 := Lib.hid (Below.grown (hb5.alloc (by omega) (.cells #[.int .u8 (48 + (x : Int))] 5)) hg3 (by simp; omega) (fun g e => (HOV5.out.lt g e).1)); clear hown3 hg3 hA3)
                  refine ⟨⟨j, y, xs ++ [x + 48], by omega, HS.out, rfl, ⟨A3, c3, by rw [List.length_append]; rfl, ?_⟩, by rw [List.append_assoc, ← HF.out]; exact HT5.out, by rw [List.length_append, List.length_singleton]; omega, HB3.out, HJ.out⟩, ?_⟩
                  · rw [bytesV_append, List.length_append]
                    simpa [bytesV, Int.add_comm] using HO3.out
                  · show _ - (xs.length + 1) < _ - xs.length
                    omega
                · have hr0 : r = 0 := by omega
                  have HT6 := Lib.hid (show xs = textOf a by have h := HT5.out; rw [hr0, frT_zero] at h; simpa [ch] using h)
                  have hcv := conv_own rfl HOV5.out
                  clear hr hkr he
                  go_wp2_with fail
                  go_ret
                  exact ⟨by rw [HT6.out]; rfl, hb5⟩
            · have hp1 : p = 0 := by omega
              have HT2 := Lib.hid (show cs ++ ch (frT 32 p) = textOf a by rw [HT.out, if_pos hp1, hp1, frT_zero]; rfl)
              clear hp1
              go_upto_region 17 with fail
              go_loopw [3, 8] (fun v pv wr => ∃ (k r : Nat) (xs : List Nat), k ≤ 32 ∧ TextLaw.Ends k r ∧ pv = .int .u64 (r : Int) ∧ OwnB w.heap.size wr v xs ∧ xs ++ ch (frT k r) = textOf a ∧ xs.length + k ≤ 5000000000 ∧ Below w.heap.size w wr ∧ (0 < r → 0 < k)) (fun v _ _ => 5000000001 - (match v with | .slice _ n _ => n | _ => 0))
              case atStart => exact ⟨32, p, cs, Nat.le_refl _, ends_all hpl, rfl, ⟨A4, c4, rfl, HOV.out⟩, HT2.out, by omega, HBW2.out, fun _ => by omega⟩
              case round =>
                obtain ⟨k, r, xs, hk, he, rfl, ⟨A5, c5, rfl, hov⟩, hT, hxl, hb5, hkr⟩ := hrel
                have hsz5 := hb5.size
                have HOV5 := Lib.hid hov
                have HT5 := Lib.hid hT
                have HE := Lib.hid he
                clear hov hT
                by_cases hr : 0 < r
                · obtain ⟨j, rfl⟩ : ∃ j, k = j + 1 := ⟨k - 1, by have := hkr hr; omega⟩
                  have hrl := he.1
                  obtain ⟨m, hm⟩ : ∃ m, m = 10 * r := ⟨_, rfl⟩
                  have e1 : (r : Int) * 10 = (m : Int) := by omega
                  have hml : m < 42949672960 := by omega
                  have e2 : (m : Int) / 4294967296 = ((m / 4294967296 : Nat) : Int) := by omega
                  have hd9 : m / 4294967296 < 10 := by omega
                  have hmask2 := maskN m (by omega)
                  have HS := Lib.hid (he.step (by omega))
                  have HF := Lib.hid (show ch (frT (j + 1) r) = [m / 4294967296 + 48] ++ ch (frT j (m % 4294967296)) by rw [frT_step hr, hm]; rfl)
                  rw [← hm] at HS
                  have HJ := Lib.hid (show 0 < m % 4294967296 → 0 < j from fun h => by
                    rcases Nat.eq_zero_or_pos j with h0 | h0
                    · have h2 := HS.out
                      rw [h0] at h2
                      have := h2.zero
                      omega
                    · exact h0)
                  generalize m / 4294967296 = x at e2 hd9 HF
                  generalize m % 4294967296 = y at hmask2 HS HF HJ
                  clear hm he hkr
                  go_wp2_with (at_builtin; refine wpList_append_rd _ rfl (.tmp 59) (.tmp 64) 38 rfl elemBytes rfl (HOV5.out.alloc _) rfl (by simp) (rd_one _ _ _) (by simp [Value.oneCell']) (by unfold maxLen; omega) (by omega) (by simp; omega) ?_; intro A3 c3 w3 hA3 hown3 hg3; have HO3 := Lib.hid hown3; have HB3 := Lib.hid (Below.grown (hb5.alloc (by omega) (.cells #[.int .u8 (48 + (x : Int))] 5)) hg3 (by simp; omega) (fun g e => (HOV5.out.lt g e).1)); clear hown3 hg3 hA3)
                  refine ⟨⟨j, y, xs ++ [x + 48], by omega, HS.out, rfl, ⟨A3, c3, by rw [List.length_append]; rfl, ?_⟩, by rw [List.append_assoc, ← HF.out]; exact HT5.out, by rw [List.length_append, List.length_singleton]; omega, HB3.out, HJ.out⟩, ?_⟩
                  · rw [bytesV_append, List.length_append]
                    simpa [bytesV, Int.add_comm] using HO3.out
                  · show _ - (xs.length + 1) < _ - xs.length
                    omega
                · have hr0 : r = 0 := by omega
                  have HT6 := Lib.hid (show xs = textOf a by have h := HT5.out; rw [hr0, frT_zero] at h; simpa [ch] using h)
                  have hcv := conv_own rfl HOV5.out
                  clear hr hkr he
                  go_wp2_with fail
                  go_ret
                  exact ⟨by rw [HT6.out]; rfl, hb5⟩
  · go_upto_region 5 with fail
    rw [if_neg (by omega)] at hbL
    have HOB := Lib.hid (show OwnB w.heap.size w (.slice none 0 0) bL from ⟨none, 0, by rw [hbL]; rfl, by rw [hbL]; exact World.ownsRow_nil _ _ _ _⟩)
    have HB1 := Lib.hid (Below.refl w.heap.size w)
    clear hbL hneg
    go_upto_region 7 with fail
    go_loopw [5, 6] (fun wh d wr => ∃ (q : Nat) (ds : List Nat), wh = .int .u64 (q : Int) ∧ OwnB w.heap.size wr d (ch ds) ∧ (q = W ∧ ds = [] ∨ ds ≠ [] ∧ top q ++ ds.reverse = dec W) ∧ ds.length + q ≤ W + 1 ∧ Below w.heap.size w wr) (fun wh d _ => 2 * (intOf wh).toNat + (match d with | .slice _ n _ => if n = 0 then 1 else 0 | _ => 0))
    case atStart => exact ⟨W, [], rfl, ⟨none, 0, rfl, World.ownsRow_nil _ _ _ _⟩, .inl ⟨rfl, rfl⟩, by simp, Below.refl _ _⟩
    case round =>
      obtain ⟨q, ds, rfl, ⟨A2, c2, rfl, hown⟩, hcase, hlen, hb2⟩ := hrel
      have hsz2 := hb2.size
      have HC := Lib.hid hcase
      rw [ch_length] at hown ⊢
      have HO := Lib.hid hown
      by_cases hgo : 0 < q ∨ ds.length = 0
      · have e1 : (q : Int) % 10 = ((q % 10 : Nat) : Int) := by omega
        have e2 : (q : Int) / 10 = ((q / 10 : Nat) : Int) := by omega
        have hd9 : q % 10 < 10 := Nat.mod_lt _ (by omega)
        have hq10 : q / 10 ≤ q := Nat.div_le_self _ _
        have HL := Lib.hid (show (ds ++ [q % 10]).length + q / 10 ≤ W + 1 ∧ (0 < q → q / 10 < q) ∧ (q = 0 → q / 10 = 0) by rw [List.length_append, List.length_singleton]; omega)
        have HN := Lib.hid (show ds ++ [q % 10] ≠ [] ∧ top (q / 10) ++ (ds ++ [q % 10]).reverse = dec W by
          refine ⟨by simp, ?_⟩
          rw [List.reverse_append, List.reverse_singleton, ← List.append_assoc]
          rcases HC.out with ⟨h1, h2⟩ | ⟨h1, h2⟩
          · rw [dec_top, h1, h2, List.reverse_nil, List.append_nil]
          · rcases hgo with h3 | h3
            · rw [top_step h3, h2]
            · exact absurd (List.eq_nil_of_length_eq_zero h3) h1)
        generalize hx : q % 10 = x at e1 hd9 HL HN
        have HX := Lib.hid hx
        clear hx hcase hown
        generalize hy : q / 10 = y at e2 hq10 HL HN
        have HY := Lib.hid hy
        clear hy
        have hwy : IntKind.u64.wrap (y : Int) = (y : Int) := by rw [u64wrap]; omega
        have hlw : ds.length ≤ 4294967296 := by omega
        have HLN := Lib.hid hlen
        clear hlen
        have HCH := Lib.hid (show ch (ds ++ [x]) = ch ds ++ [x + 48] from ch_append _ _)
        have hgo2 : (0 : Int) < (q : Int) ∨ (¬ (0 : Int) < (q : Int) ∧ ((ds.length : Int) == 0) = true) := by
          rcases hgo with h | h
          · left; omega
          · by_cases h0 : (0 : Int) < (q : Int)
            · exact .inl h0
            · exact .inr ⟨h0, by rw [beq_iff_eq]; omega⟩
        have HGO := Lib.hid hgo2
        clear hgo
        rcases hgo2 with hq | ⟨hq, hds⟩
        · skip
          go_wp2_with (at_builtin; refine wpList_append_rd _ rfl (.tmp 25) (.tmp 30) 38 rfl elemBytes rfl (HO.out.alloc _) rfl (by simp) (rd_one _ _ _) (by simp [Value.oneCell']) (by unfold maxLen; omega) (by omega) (by simp; omega) ?_; intro A3 c3 w3 hA3 hown3 hg3; have HO3 := Lib.hid hown3; have HB3 := Lib.hid (Below.grown (hb2.alloc (by omega) (.cells #[.int .u8 (48 + (x : Int))] 5)) hg3 (by simp; omega) (fun g e => (HO.out.lt g e).1)); clear hown3 hg3 hA3)
          refine ⟨⟨y, ds ++ [x], rfl, ⟨A3, c3, by rw [ch_length, List.length_append]; rfl, ?_⟩, .inr HN.out, HL.out.1, HB3.out⟩, ?_⟩
          · rw [HCH.out, bytesV_append, List.length_append, ch_length]
            simpa [bytesV, Int.add_comm] using HO3.out
          · have h1 := HL.out
            have h2 := HGO.out
            rw [beq_iff_eq] at h2
            simp only [intOf, Int.toNat_natCast]
            rw [if_neg (show ¬ ds.length + 1 = 0 by omega)]
            split <;> omega
        · obtain rfl : q = 0 := by omega
          obtain rfl : x = 0 := HX.out.symm
          obtain rfl : y = 0 := HY.out.symm
          clear e1 e2 hwy hq
          go_wp2_with (at_builtin; refine wpList_append_rd _ rfl (.tmp 25) (.tmp 30) 38 rfl elemBytes rfl (HO.out.alloc _) rfl (by simp) (rd_one _ _ _) (by simp [Value.oneCell']) (by unfold maxLen; omega) (by omega) (by simp; omega) ?_; intro A3 c3 w3 hA3 hown3 hg3; have HO3 := Lib.hid hown3; have HB3 := Lib.hid (Below.grown (hb2.alloc (by omega) (.cells #[.int .u8 (48)] 5)) hg3 (by simp; omega) (fun g e => (HO.out.lt g e).1)); clear hown3 hg3 hA3)
          refine ⟨⟨0, ds ++ [0], rfl, ⟨A3, c3, by rw [ch_length, List.length_append]; rfl, ?_⟩, .inr HN.out, HL.out.1, HB3.out⟩, ?_⟩
          · rw [HCH.out, bytesV_append, List.length_append, ch_length]
            simpa [bytesV, Int.add_comm] using HO3.out
          · have h1 := HL.out
            have h2 : ds.length = 0 := by have := hds; rw [beq_iff_eq] at this; omega
            simp only [intOf, Int.toNat_natCast]
            rw [if_pos h2, if_neg (by omega)]; omega
      · have hq0 : q = 0 := by omega
        have hq : ¬ (0 : Int) < (q : Int) := by omega
        have hds : ((ds.length : Int) == 0) = false := by rw [beq_eq_false_iff_ne]; omega
        have hpos : 0 < ds.length := by omega
        have HD := Lib.hid (show ds.reverse = dec W by
          rcases hcase with ⟨h1, h2⟩ | ⟨h1, h2⟩
          · rw [h2] at hpos; simp at hpos
          · rw [← h2, hq0]; rfl)
        have HSM := Lib.hid (show ∀ x ∈ ds, x < 10 from fun x hx => dec_small W x (by rw [← HD.out]; exact List.mem_reverse.2 hx))
        have hlw : ds.length ≤ 4294967296 := by omega
        clear hcase hgo hlen hown hq0
        go_upto_region 11 with fail
        have HO1 := Lib.hid (show OwnB w.heap.size wr (.slice A2 ds.length c2) (ch ds) from ⟨A2, c2, by rw [ch_length], by rw [ch_length]; exact HO.out⟩)
        have HBW := Lib.hid (onward HB1.out (Nat.le_refl _) hb2)
        have HOV := Lib.hid (ownB_below HOB.out hb2)
        have HNE := Lib.hid (show (Value.slice A2 ds.length c2).ownBlock = none ∨ (Value.slice A2 ds.length c2).ownBlock ≠ (Value.slice none 0 0).ownBlock by
          rcases hv : (Value.slice A2 ds.length c2).ownBlock with _ | g
          · exact .inl rfl
          · right
            intro e
            obtain ⟨A9, c9, e9, h9⟩ := HOB.out
            have h1 := (HO.out.lt g hv).1
            rw [e9] at e
            have h2 := (h9.lt g e.symm).2
            omega)
        clear hq
        generalize wr = w2 at *
        go_loopw [3, 7] (fun v i wr => ∃ k : Nat, k ≤ ds.length ∧ i = .int .i64 ((k : Int) - 1) ∧ OwnB w.heap.size wr v (bL ++ ch (ds.drop k).reverse) ∧ wr.ownsRow w.heap.size 5 1 (.slice A2 ds.length c2) ds.length (bytesV (ch ds)) ∧ ((Value.slice A2 ds.length c2).ownBlock = none ∨ (Value.slice A2 ds.length c2).ownBlock ≠ v.ownBlock) ∧ Below w.heap.size w wr) (fun _ i _ => (intOf i + 1).toNat)
        case atStart => exact ⟨ds.length, Nat.le_refl _, rfl, by rw [List.drop_length, List.reverse_nil]; simpa [ch] using HOV.out, HO.out, HNE.out, HBW.out⟩
        case round =>
          obtain ⟨k, hk, rfl, ⟨A4, c4, rfl, hov⟩, hod, hne, hbw⟩ := hrel
          have hszw := hbw.size
          have HOV := Lib.hid hov
          have HOD := Lib.hid hod
          have HNE := Lib.hid hne
          by_cases hpos : 0 < k
          · obtain ⟨j, rfl⟩ : ∃ j, k = j + 1 := ⟨k - 1, by omega⟩
            have e3 : ((j + 1 : Nat) : Int) - 1 = (j : Int) := by omega
            rw [e3]
            have hj : j < ds.length := by omega
            obtain ⟨b, o, u1, rfl, hb1, hu1, hcell⟩ := (Rd.of_own HOD.out).at hj
            rw [bytesV_at _ _ (by rw [ch_length]; exact hj)] at hu1
            obtain rfl : (Value.int .u8 (((ch ds)[j]'(by rw [ch_length]; exact hj) : Nat) : Int)) = u1 := by injection hu1
            obtain ⟨y, hy⟩ : ∃ y, y = ds[j] + 48 := ⟨_, rfl⟩
            have hy2 : (ch ds)[j]'(by rw [ch_length]; exact hj) = y := by rw [hy]; simp [ch]
            rw [hy2] at hcell
            have HY := Lib.hid (show (ds.drop j).reverse = (ds.drop (j + 1)).reverse ++ [ds[j]] by rw [List.drop_eq_getElem_cons hj, List.reverse_cons])
            have HY2 := Lib.hid (show ch (ds.drop j).reverse = ch (ds.drop (j + 1)).reverse ++ [y] by rw [HY.out, ch_append, hy]; rfl)
            have hyl : y < 256 := by have := HSM.out ds[j] (List.getElem_mem hj); omega
            have HLL := Lib.hid (show (bL ++ ch (ds.drop (j + 1)).reverse).length ≤ 4294967299 by simp [ch]; omega)
            clear hy hy2 hu1 hov hod hne hpos e3
            have hjn : (j : Int) < (ds.length : Int) := by omega
            have hj0 : (0 : Int) ≤ (j : Int) := by omega
            go_wp2_with (at_builtin; refine wpList_append_at _ rfl (.tmp 41) (.tmp 46) 38 rfl w.heap.size elemBytes rfl (HOV.out.alloc _) rfl (rd_single _ _ _) (by omega) (by simp [Value.oneCell']) (by have := HLL.out; unfold maxLen; omega) (by have := HLL.out; omega) (by simp; omega) ?_; intro v5 w5 hown5 hg5 ho5; have HO5 := Lib.hid hown5; have HG5 := Lib.hid hg5; have HV5 := Lib.hid ho5; clear hown5 hg5 ho5)
            obtain ⟨A6, c6, e6, _⟩ := own_form HO5.out
            have hd6 : ((Value.slice (some ⟨b, o, none⟩) ds.length c2).ownBlock = none ∨ (Value.slice (some ⟨b, o, none⟩) ds.length c2).ownBlock ≠ v5.ownBlock) := own_after (HOD.out.alloc _) HNE.out HV5.out
            have hw6 : w5.ownsRow w.heap.size 5 1 (.slice (some ⟨b, o, none⟩) ds.length c2) ds.length (bytesV (ch ds)) := (HOD.out.alloc _).kept HG5.out HNE.out
            have hb6 : Below w.heap.size w w5 := Below.grown (hbw.alloc hszw (.cells #[.int .u8 (y : Int)] 5)) HG5.out (by simp; omega) (fun g e => (HOV.out.lt g e).1)
            have hn6 : (bL ++ ch (ds.drop j).reverse).length = (bL ++ ch (ds.drop (j + 1)).reverse).length + 1 := by rw [HY2.out, ← List.append_assoc, List.length_append]; rfl
            subst e6
            refine ⟨⟨j, by omega, rfl, ⟨A6, c6, by rw [hn6], ?_⟩, hw6, hd6, hb6⟩, by simp [intOf]⟩
            rw [hn6, HY2.out, ← List.append_assoc, bytesV_append]
            exact HO5.out
          · obtain rfl : k = 0 := by omega
            rw [List.drop_zero, HD.out] at hov HOV ⊢
            rw [show ((0 : Nat) : Int) - 1 = -1 from rfl]
            have HBW2 := Lib.hid hbw
            clear hov hod hne hpos HOD HNE
            generalize wr = w3 at *
            obtain ⟨cs, hcs⟩ : ∃ cs, cs = bL ++ ch (dec W) := ⟨_, rfl⟩
            rw [← hcs] at HOV ⊢
            have hcl : cs.length ≤ 4294967298 := by have := dec_length_le W; rw [hcs]; simp [ch]; omega
            obtain ⟨p, hp⟩ : ∃ p, p = u % 4294967296 := ⟨_, rfl⟩
            have hmask : bits .and .u64 (u : Int) 4294967295 = (p : Int) := by rw [hp]; exact maskN u hul
            have hpl : p < 4294967296 := by omega
            have HT := Lib.hid (show textOf a = cs ++ (if p = 0 then [] else 46 :: ch (frT 32 p)) by
              unfold textOf
              rw [← HU.out, hcs, hp, HBL.out, HW.out, List.append_assoc]; rfl)
            have HP := Lib.hid hp
            clear hcs hp
            by_cases hp0 : 0 < p
            · have hne0 : ¬ p = 0 := by omega
              have HT2 := Lib.hid (show (cs ++ [46]) ++ ch (frT 32 p) = textOf a by rw [HT.out, if_neg hne0, List.append_assoc]; rfl)
              go_upto_region 17 with (at_builtin; refine wpList_append_rd _ rfl (.tmp 52) (.tmp 53) 38 rfl elemBytes rfl (HOV.out.alloc _) rfl (by simp) (rd_one _ _ _) (by simp [Value.oneCell']) (by unfold maxLen; omega) (by omega) (by simp; omega) ?_; intro A7 c7 w4 hA7 hown7 hg7; have HO7 := Lib.hid (show OwnB w.heap.size w4 (.slice A7 (cs.length + 1) c7) (cs ++ [46]) from ⟨A7, c7, by rw [List.length_append]; rfl, by rw [bytesV_append, List.length_append]; exact hown7⟩); have HB7 := Lib.hid (Below.grown (hbw.alloc hszw (.cells #[.int .u8 46] 5)) hg7 (by simp; omega) (fun g e => (HOV.out.lt g e).1)); clear hown7 hg7 hA7)
              go_loopw [3, 8] (fun v pv wr => ∃ (k r : Nat) (xs : List Nat), k ≤ 32 ∧ TextLaw.Ends k r ∧ pv = .int .u64 (r : Int) ∧ OwnB w.heap.size wr v xs ∧ xs ++ ch (frT k r) = textOf a ∧ xs.length + k ≤ 5000000000 ∧ Below w.heap.size w wr ∧ (0 < r → 0 < k)) (fun v _ _ => 5000000001 - (match v with | .slice _ n _ => n | _ => 0))
              case atStart => exact ⟨32, p, cs ++ [46], Nat.le_refl _, ends_all hpl, rfl, HO7.out, HT2.out, by rw [List.length_append, List.length_singleton]; omega, HB7.out, fun _ => by omega⟩
              case round =>
                obtain ⟨k, r, xs, hk, he, rfl, ⟨A5, c5, rfl, hov⟩, hT, hxl, hb5, hkr⟩ := hrel
                have hsz5 := hb5.size
                have HOV5 := Lib.hid hov
                have HT5 := Lib.hid hT
                have HE := Lib.hid he
                clear hov hT
                by_cases hr : 0 < r
                · obtain ⟨j, rfl⟩ : ∃ j, k = j + 1 := ⟨k - 1, by have := hkr hr; omega⟩
                  have hrl := he.1
                  obtain ⟨m, hm⟩ : ∃ m, m = 10 * r := ⟨_, rfl⟩
                  have e1 : (r : Int) * 10 = (m : Int) := by omega
                  have hml : m < 42949672960 := by omega
                  have e2 : (m : Int) / 4294967296 = ((m / 4294967296 : Nat) : Int) := by omega
                  have hd9 : m / 4294967296 < 10 := by omega
                  have hmask2 := maskN m (by omega)
                  have HS := Lib.hid (he.step (by omega))
                  have HF := Lib.hid (show ch (frT (j + 1) r) = [m / 4294967296 + 48] ++ ch (frT j (m % 4294967296)) by rw [frT_step hr, hm]; rfl)
                  rw [← hm] at HS
                  have HJ := Lib.hid (show 0 < m % 4294967296 → 0 < j from fun h => by
                    rcases Nat.eq_zero_or_pos j with h0 | h0
                    · have h2 := HS.out
                      rw [h0] at h2
                      have := h2.zero
                      omega
                    · exact h0)
                  generalize m / 4294967296 = x at e2 hd9 HF
                  generalize m % 4294967296 = y at hmask2 HS HF HJ
                  clear hm he hkr
                  go_wp2_with (at_builtin; refine wpList_append_rd _ rfl (.tmp 59) (.tmp 64) 38 rfl elemBytes rfl (HOV5.out.alloc _) rfl (by simp) (rd_one _ _ _) (by simp [Value.oneCell']) (by unfold maxLen; omega) (by omega) (by simp; omega) ?_; intro A3 c3 w3 hA3 hown3 hg3; have HO3 := Lib.hid hown3; have HB3 := Lib.hid (Below.grown (hb5.alloc (by omega) (.cells #[.int .u8 (48 + (x : Int))] 5)) hg3 (by simp; omega) (fun g e => (HOV5.out.lt g e).1)); clear hown3 hg3 hA3)
                  refine ⟨⟨j, y, xs ++ [x + 48], by omega, HS.out, rfl, ⟨A3, c3, by rw [List.length_append]; rfl, ?_⟩, by rw [List.append_assoc, ← HF.out]; exact HT5.out, by rw [List.length_append, List.length_singleton]; omega, HB3.out, HJ.out⟩, ?_⟩
                  · rw [bytesV_append, List.length_append]
                    simpa [bytesV, Int.add_comm] using HO3.out
                  · show _ - (xs.length + 1) < _ - xs.length
                    omega
                · have hr0 : r = 0 := by omega
                  have HT6 := Lib.hid (show xs = textOf a by have h := HT5.out; rw [hr0, frT_zero] at h; simpa [ch] using h)
                  have hcv := conv_own rfl HOV5.out
                  clear hr hkr he
                  go_wp2_with fail
                  go_ret
                  exact ⟨by rw [HT6.out]; rfl, hb5⟩
            · have hp1 : p = 0 := by omega
              have HT2 := Lib.hid (show cs ++ ch (frT 32 p) = textOf a by rw [HT.out, if_pos hp1, hp1, frT_zero]; rfl)
              clear hp1
              go_upto_region 17 with fail
              go_loopw [3, 8] (fun v pv wr => ∃ (k r : Nat) (xs : List Nat), k ≤ 32 ∧ TextLaw.Ends k r ∧ pv = .int .u64 (r : Int) ∧ OwnB w.heap.size wr v xs ∧ xs ++ ch (frT k r) = textOf a ∧ xs.length + k ≤ 5000000000 ∧ Below w.heap.size w wr ∧ (0 < r → 0 < k)) (fun v _ _ => 5000000001 - (match v with | .slice _ n _ => n | _ => 0))
              case atStart => exact ⟨32, p, cs, Nat.le_refl _, ends_all hpl, rfl, ⟨A4, c4, rfl, HOV.out⟩, HT2.out, by omega, HBW2.out, fun _ => by omega⟩
              case round =>
                obtain ⟨k, r, xs, hk, he, rfl, ⟨A5, c5, rfl, hov⟩, hT, hxl, hb5, hkr⟩ := hrel
                have hsz5 := hb5.size
                have HOV5 := Lib.hid hov
                have HT5 := Lib.hid hT
                have HE := Lib.hid he
                clear hov hT
                by_cases hr : 0 < r
                · obtain ⟨j, rfl⟩ : ∃ j, k = j + 1 := ⟨k - 1, by have := hkr hr; omega⟩
                  have hrl := he.1
                  obtain ⟨m, hm⟩ : ∃ m, m = 10 * r := ⟨_, rfl⟩
                  have e1 : (r : Int) * 10 = (m : Int) := by omega
                  have hml : m < 42949672960 := by omega
                  have e2 : (m : Int) / 4294967296 = ((m / 4294967296 : Nat) : Int) := by omega
                  have hd9 : m / 4294967296 < 10 := by omega
                  have hmask2 := maskN m (by omega)
                  have HS := Lib.hid (he.step (by omega))
                  have HF := Lib.hid (show ch (frT (j + 1) r) = [m / 4294967296 + 48] ++ ch (frT j (m % 4294967296)) by rw [frT_step hr, hm]; rfl)
                  rw [← hm] at HS
                  have HJ := Lib.hid (show 0 < m % 4294967296 → 0 < j from fun h => by
                    rcases Nat.eq_zero_or_pos j with h0 | h0
                    · have h2 := HS.out
                      rw [h0] at h2
                      have := h2.zero
                      omega
                    · exact h0)
                  generalize m / 4294967296 = x at e2 hd9 HF
                  generalize m % 4294967296 = y at hmask2 HS HF HJ
                  clear hm he hkr
                  go_wp2_with (at_builtin; refine wpList_append_rd _ rfl (.tmp 59) (.tmp 64) 38 rfl elemBytes rfl (HOV5.out.alloc _) rfl (by simp) (rd_one _ _ _) (by simp [Value.oneCell']) (by unfold maxLen; omega) (by omega) (by simp; omega) ?_; intro A3 c3 w3 hA3 hown3 hg3; have HO3 := Lib.hid hown3; have HB3 := Lib.hid (Below.grown (hb5.alloc (by omega) (.cells #[.int .u8 (48 + (x : Int))] 5)) hg3 (by simp; omega) (fun g e => (HOV5.out.lt g e).1)); clear hown3 hg3 hA3)
                  refine ⟨⟨j, y, xs ++ [x + 48], by omega, HS.out, rfl, ⟨A3, c3, by rw [List.length_append]; rfl, ?_⟩, by rw [List.append_assoc, ← HF.out]; exact HT5.out, by rw [List.length_append, List.length_singleton]; omega, HB3.out, HJ.out⟩, ?_⟩
                  · rw [bytesV_append, List.length_append]
                    simpa [bytesV, Int.add_comm] using HO3.out
                  · show _ - (xs.length + 1) < _ - xs.length
                    omega
                · have hr0 : r = 0 := by omega
                  have HT6 := Lib.hid (show xs = textOf a by have h := HT5.out; rw [hr0, frT_zero] at h; simpa [ch] using h)
                  have hcv := conv_own rfl HOV5.out
                  clear hr hkr he
                  go_wp2_with fail
                  go_ret
                  exact ⟨by rw [HT6.out]; rfl, hb5⟩
end Go.Proofs.Ytlcpackmoolngaa.Tx
