/- The reference's Text: P1.6. -/
import Derived.Test.YtlcpackmoolngaaBigText
import Derived.Test.YtlcpackmoolngaaBigExp
import Derived.Test.YtlcpackmoolngaaStrs
import Derived.Test.YtlcpackmoolngaaRws
namespace Go.Proofs.Ytlcpackmoolngaa.Tx
open Go.RowKit Go.Proofs.Ytlcpackmoolngaa.Mem Go.Proofs.Ytlcpackmoolngaa.Rws Go.Proofs.Ytlcpackmoolngaa.Sm Go.Proofs.Ytlcpackmoolngaa.TextLaw Go.Proofs.Ytlcpackmoolngaa.BigW Go.Proofs.Ytlcpackmoolngaa.BigLaw
set_option linter.unusedVariables false

theorem bigString_any (p X : Nat) (w : World) (hx : BigAt w p (X : Int)) (bx : X < pw 100) :
    Calls Try.prog 41 #[.pointer (some ⟨p, 0, none⟩)] w fun e w' => e = .returned (.string (strB (ch (dec X)))) ∧ Below w.heap.size w w' := by
  have HX := Lib.hid hx
  have HB := Lib.hid bx
  clear hx bx
  go_enter Try.func41, Try.ntmps41
  go_wp2_with fail
  refine (bigText_any p X w HX.out HB.out).mono ?_
  rintro e w1 ⟨rfl, hb1⟩
  obtain ⟨S, hS⟩ : ∃ S, S = strB (ch (dec X)) := ⟨_, rfl⟩
  rw [← hS]
  have HS := Lib.hid hS
  clear hS
  go_wp2_with fail
  go_ret
  exact ⟨by rw [← HS.out]; rfl, hb1⟩

theorem ten_pw : (10 : Nat) ^ 32 < pw 4 := by
  unfold pw
  have h1 : (10 : Nat) ^ 32 ≤ 16 ^ 32 := Nat.pow_le_pow_left (by omega) _
  have h2 : (16 : Nat) ^ 32 = 4294967296 ^ 4 := by decide +kernel
  have h3 : (10 : Nat) ^ 32 ≠ 16 ^ 32 := by decide +kernel
  omega

theorem index_strB {s : ByteArray} {l : List Nat} {m x : Nat} {z : Int} (hs : s = strB l) (hl : ∀ y ∈ l, y < 256) (hm : m < l.length) (hx : l.getD m 0 = x) (hz : z = (x : Int)) (w : World) : (Instr.index 9 (.string s) (.int .i64 (m : Int))).run Try.prog w = .ok (.int .u8 z) w := by
  subst hs
  subst hz
  have hsz := strB_size l
  have hk : 0 ≤ (m : Int) ∧ (m : Int) < ((strB l).size : Int) := by omega
  rw [run_index_string w 9 (strB l) .i64 (m : Int) Try.underlying9, dif_pos hk]
  have h2 := strB_get l m (by omega) hl
  rw [hx] at h2
  simp only [Int.toNat_natCast]
  rw [h2]

theorem last_get {L : List Nat} (h : L ≠ []) {m : Nat} (hm : m + 1 = L.length) : (ch L).getD m 0 = L.getLast h + 48 := by
  rw [List.getLast_eq_getElem, List.getD_eq_getElem?_getD, List.getElem?_eq_getElem (by rw [ch_length]; omega)]
  simp only [ch, List.getElem_map, Option.getD_some]
  congr 2
  omega

set_option maxHeartbeats 400000 in
theorem refText_any (a : Int) (w : World) (ha : -9223372036854775808 ≤ a ∧ a ≤ 9223372036854775807) :
    Calls Try.prog 22 #[.int .i64 a] w fun e w' => e = .returned (.string (strB (textOf a))) ∧ Below w.heap.size w w' := by
  have HA := Lib.hid ha
  have HI := Lib.hid (isInt_new w)
  have HB0 := Lib.hid ((Below.refl w.heap.size w).alloc (Nat.le_refl _) (.cells #[.bool false, .slice none 0 0] 63))
  obtain ⟨T, hT⟩ : ∃ T, T = 10 ^ 32 := ⟨_, rfl⟩
  have HT := Lib.hid hT
  obtain ⟨u, hu⟩ : ∃ u : Nat, u = a.natAbs := ⟨_, rfl⟩
  have HU := Lib.hid hu
  have HUL := Lib.hid (show u < 18446744073709551616 by omega)
  have HTL := Lib.hid (show T < pw 4 by rw [hT]; exact ten_pw)
  clear ha hT hu
  go_enter Try.func22, Try.ntmps22
  go_wp2_with fail
  refine (whole_any a _ HA.out).mono ?_
  rintro e w1 ⟨p1, rfl, hp1, hz1, hb1⟩
  have HZ1 := Lib.hid hz1
  have HB1 := Lib.hid (onward HB0.out (Nat.le_refl _) hb1)
  clear hz1
  go_wp2_with fail
  refine (bigAbs_any w.heap.size p1 a _ (HI.out.below hb1 HI.out.lt) HZ1.out (Nat.lt_trans (show a.natAbs < pw 2 by have := HA.out; unfold pw; omega) (by unfold pw; decide +kernel))).mono ?_
  rintro e w2 ⟨rfl, hz2, hg2⟩
  rw [← HU.out] at hz2
  have HX2 := Lib.hid hz2
  have HB2 := Lib.hid (below_grown HB1.out (Nat.le_refl _) hg2 (fun g e => by injection e with e; omega))
  have HI2 := Lib.hid (isInt_new w2)
  have hb2a : Below w2.heap.size w2 (w2.alloc (.cells #[.bool false, .slice none 0 0] 63)) := (Below.refl _ _).alloc (Nat.le_refl _) _
  have hs2 := HX2.out.lt
  clear hz2 hg2 hb1
  go_wp2_with fail
  refine (newInt_any 10 _ (by omega)).mono ?_
  rintro e w3 ⟨p3, rfl, hp3, hz3, hb3⟩
  have HZ3 := Lib.hid hz3
  clear hz3
  go_wp2_with fail
  refine (newInt_any 32 _ (by omega)).mono ?_
  rintro e w4 ⟨p4, rfl, hp4, hz4, hb4⟩
  have HZ4 := Lib.hid hz4
  have HZ34 := Lib.hid (HZ3.out.below hb4)
  have hb24 : Below w2.heap.size w2 w4 := onward (onward hb2a (Nat.le_refl _) hb3) (Nat.le_refl _) hb4
  have HI4 := Lib.hid ((HI2.out.below hb3 HI2.out.lt).below hb4 (by have := hb3.size; have := HI2.out.lt; omega))
  have HX4 := Lib.hid (HX2.out.below hb24)
  have HB4 := Lib.hid (onward HB2.out (Nat.le_refl _) hb24)
  clear hz4
  go_wp2_with fail
  refine (bigExp_any w2.heap.size p3 p4 10 32 _ HI4.out HZ34.out HZ4.out (Nat.lt_of_lt_of_le (show 10 < pw 1 by unfold pw; omega) (pw_le (by omega))) (by omega) (by rw [← HT.out]; exact Nat.lt_of_lt_of_le HTL.out (pw_le (by omega))) (by omega)).mono ?_
  rintro e w5 ⟨rfl, hz5, hg5⟩
  rw [← HT.out] at hz5
  have HT5 := Lib.hid hz5
  have HX5 := Lib.hid (HX4.out.grown HI4.out hg5 (by omega))
  have HB5 := Lib.hid (below_grown HB4.out (Nat.le_refl _) hg5 (fun g e => by injection e with e; omega))
  clear hz5 hg5 hb24 hb2a hb3 hb4
  go_wp2_with fail
  refine (bigMul_any w.heap.size w.heap.size w2.heap.size (u : Int) (T : Int) _ HX5.out.isInt HX5.out HT5.out (Nat.lt_trans (show u < pw 2 by have := HUL.out; unfold pw; omega) (by unfold pw; decide +kernel)) (Nat.lt_of_lt_of_le HTL.out (pw_le (by omega)))).mono ?_
  rintro e w6 ⟨rfl, hz6, hg6⟩
  have HX6 := Lib.hid (show BigAt w6 w.heap.size ((u * T : Nat) : Int) from hz6)
  have HB6 := Lib.hid (below_grown HB5.out (Nat.le_refl _) hg6 (fun g e => by injection e with e; omega))
  have HM := Lib.hid (show u * T < pw 100 by
    refine Nat.lt_of_lt_of_le ?_ (pw_le (show 2 + 4 ≤ 100 by omega))
    rw [pw_add]
    have hu2 : u < pw 2 := by have := HUL.out; unfold pw; omega
    exact Nat.mul_lt_mul_of_lt_of_lt hu2 HTL.out)
  clear hz6 hg6
  go_wp2_with fail
  refine (bigRsh_any w.heap.size w.heap.size (u * T) 32 1 0 _ HX6.out.isInt HX6.out HM.out rfl (by omega) (by omega)).mono ?_
  rintro e w7 ⟨rfl, hz7, hg7⟩
  obtain ⟨Y, hY⟩ : ∃ Y, Y = u * T / 2 ^ 32 := ⟨_, rfl⟩
  rw [← hY] at hz7
  have HX7 := Lib.hid hz7
  have HB7 := Lib.hid (below_grown HB6.out (Nat.le_refl _) hg7 (fun g e => by injection e with e; omega))
  have HYL := Lib.hid (show Y < pw 100 by rw [hY]; exact Nat.lt_of_le_of_lt (Nat.div_le_self _ _) HM.out)
  have HPAD := Lib.hid (show List.replicate (33 - (dec Y).length) 0 ++ dec Y = dec (u / 4294967296) ++ fr 32 (u % 4294967296) by rw [hY, HT.out]; exact text_pad u)
  clear hz7 hg7 hY
  go_wp2_with fail
  refine (bigString_any w.heap.size Y _ HX7.out HYL.out).mono ?_
  rintro e w8 ⟨rfl, hb8⟩
  have HB8 := Lib.hid (onward HB7.out (Nat.le_refl _) hb8)
  have hdl := dec_len_pw HYL.out
  obtain ⟨S, hS⟩ : ∃ S, S = strB (ch (dec Y)) := ⟨_, rfl⟩
  rw [← hS]
  have HS := Lib.hid hS
  clear hS
  go_upto_region 6 with fail
  go_loopw [5] (fun s wr => ∃ (j : Nat), s = .string (strB (ch (List.replicate j 0 ++ dec Y))) ∧ j ≤ 33 - (dec Y).length ∧ wr = w8) (fun s _ => 40 - (match s with | .string b => b.size | _ => 0))
  case atStart => exact ⟨0, by rw [HS.out]; rfl, by omega, rfl⟩
  case round =>
    obtain ⟨j, rfl, hj, rfl⟩ := hrel
    obtain ⟨S, hS⟩ : ∃ S, S = strB (ch (List.replicate j 0 ++ dec Y)) := ⟨_, rfl⟩
    have hsz : S.size = j + (dec Y).length := by rw [hS, strB_size, ch_length, List.length_append, List.length_replicate]
    rw [← hS]
    have HS := Lib.hid hS
    clear hS
    by_cases hlt : j + (dec Y).length < 33
    · have hlt' : (S.size : Int) < 33 := by omega
      have hs1 : ¬ S.size > 1000 := by omega
      go_wp2_with fail
      refine ⟨⟨j + 1, ?_, by omega, trivial⟩, ?_⟩
      · congr 1
        rw [HS.out, show (⟨#[48]⟩ : ByteArray) = strB [48] from rfl, strB_append, List.replicate_succ]
        rfl
      · show 40 - ((⟨#[48]⟩ : ByteArray) ++ S).size < 40 - S.size
        rw [ByteArray.size_append]
        show 40 - (1 + S.size) < _
        omega
    · obtain ⟨DW, hDW⟩ : ∃ DW, DW = dec (u / 4294967296) := ⟨_, rfl⟩
      have hdw1 := dec_length_le (u / 4294967296)
      rw [← hDW] at hdw1
      have HUL1 := HUL.out
      have HSS := Lib.hid (show S = strB (ch DW ++ ch (fr 32 (u % 4294967296))) by
        have e : j = 33 - (dec Y).length := by omega
        rw [HS.out, e, HPAD.out, ch_append, hDW])
      have HDW := Lib.hid hDW
      obtain ⟨n, hn⟩ : ∃ n, n = DW.length := ⟨_, rfl⟩
      have HN := Lib.hid hn
      have hfl : ∀ k p, (fr k p).length = k := fun k => by
        induction k with
        | zero => intro p; rfl
        | succ k ih => intro p; show (fr k _).length + 1 = _; rw [ih]
      have hs2 : S.size = n + 32 := by rw [HSS.out, strB_size, List.length_append, ch_length, ch_length, hfl, hn]
      have hge : ¬ (S.size : Int) < 33 := by omega
      have HE1 := Lib.hid (show S.extract 0 n = strB (ch DW) by
        rw [HSS.out, strB_extract, List.drop_zero, Nat.sub_zero, hn, ← ch_length DW, List.take_left])
      have HE2 := Lib.hid (show S.extract n S.size = strB (ch (fr 32 (u % 4294967296))) by
        rw [HSS.out, strB_extract, hn, strB_size, ← ch_length DW, List.drop_left, List.length_append, Nat.add_sub_cancel_left, List.take_length])
      have hsn : (S.size : Int) - 32 = (n : Int) := by omega
      have hn1 : (n : Int) ≤ (S.size : Int) := by omega
      have hnw : wrap64 (n : Int) = (n : Int) := by unfold wrap64; omega
      have HS2 := Lib.hid hs2
      clear hsz hlt hs2 hfl hDW hn hdw1
      go_upto_region 9 with fail
      go_region
      rw [HE1.out, HE2.out]
      have HB9 := Lib.hid (show Below w.heap.size w wr.drew from ⟨HB8.out.os, HB8.out.tape, HB8.out.output, HB8.out.size, HB8.out.block⟩)
      generalize wr.drew = w9 at *
      obtain ⟨q, hq⟩ : ∃ q, q = u % 4294967296 := ⟨_, rfl⟩
      have hql : q < 4294967296 := by omega
      have hends := ends_all hql
      have HQ := Lib.hid hq
      have HEN := Lib.hid hends
      have HL0 := Lib.hid (show ch (fr 32 (u % 4294967296)) = ch (frT 32 q ++ List.replicate (32 - (frT 32 q).length) 0) by rw [← hq, fr_trim])
      have hT0 := frT_length 32 q
      rw [HL0.out]
      have HTX := Lib.hid (show textOf a = (if a < 0 then [45] else []) ++ (ch DW ++ (if q = 0 then [] else 46 :: ch (frT 32 q))) by
        unfold textOf
        rw [← HU.out, ← hq, HDW.out]; rfl)
      have HQ0 := Lib.hid (show q = 0 → frT 32 q = [] from fun h => by rw [h, frT_zero])
      have HQ1 := Lib.hid (show ¬ q = 0 → 0 < (frT 32 q).length from fun h => frT_pos (by omega) hends (by omega))
      have HQL := Lib.hid (fun h => frT_last 32 q (Nat.le_refl _) hends h)
      have HQS := Lib.hid (frT_small 32 q hql)
      have hdwl : DW.length < 4294967300 := by have h := dec_length_le (u / 4294967296); rw [← HDW.out] at h; have := HUL.out; omega
      clear hq hql hends HL0 HE1 HE2
      generalize frT 32 q = L at *
      obtain ⟨SW, hSW⟩ : ∃ SW, SW = strB (ch DW) := ⟨_, rfl⟩
      rw [← hSW]
      have hsw : SW.size ≤ 4294967300 := by rw [hSW, strB_size, ch_length]; omega
      have HSW := Lib.hid hSW
      clear hsn hn1 hge hnw hdl hdwl HUL1
      have HR0 : Hid (∃ j, j ≤ 32 ∧ strB (ch (L ++ List.replicate (32 - L.length) 0)) = strB (ch (L ++ List.replicate j 0))) := Lib.hid ⟨32 - L.length, by omega, rfl⟩
      generalize strB (ch (L ++ List.replicate (32 - L.length) 0)) = SP at HR0 ⊢
      clear hSW
      go_upto_region 10 with fail
      go_loopw [8] (fun s wr => (∃ j, j ≤ 32 ∧ s = .string (strB (ch (L ++ List.replicate j 0)))) ∧ wr = w9) (fun s _ => (match s with | .string b => b.size | _ => 0))
      case atStart =>
        obtain ⟨j, hj, e⟩ := HR0.out
        exact ⟨⟨j, hj, by rw [e]⟩, rfl⟩
      case round =>
        obtain ⟨⟨j, hj, rfl⟩, rfl⟩ := hrel
        obtain ⟨S1, hS1⟩ : ∃ S1, S1 = strB (ch (L ++ List.replicate j 0)) := ⟨_, rfl⟩
        rw [← hS1]
        have hsz1 : S1.size = L.length + j := by rw [hS1, strB_size, ch_length, List.length_append, List.length_replicate]
        have HS1 := Lib.hid hS1
        clear hS1
        by_cases hj0 : 0 < j
        · obtain ⟨i, rfl⟩ : ∃ i, j = i + 1 := ⟨j - 1, by omega⟩
          have hR : L ++ List.replicate (i + 1) 0 = (L ++ List.replicate i 0) ++ [0] := by rw [List.replicate_succ', List.append_assoc]
          obtain ⟨m, hm⟩ : ∃ m, m = L.length + i := ⟨_, rfl⟩
          have hml : (L ++ List.replicate i 0).length = m := by rw [List.length_append, List.length_replicate, hm]
          have e1 : (S1.size : Int) - 1 = (m : Int) := by omega
          have e2 : 0 < S1.size := by omega
          have e3 : (m : Int) ≤ (S1.size : Int) := by omega
          have hmw : wrap64 (m : Int) = (m : Int) := by unfold wrap64; omega
          have hix : ∀ w, (Instr.index 9 (.string S1) (.int .i64 (m : Int))).run Try.prog w = .ok (.int .u8 48) w := index_strB (x := 48) HS1.out (ch_small (fun x hx => by
            rcases List.mem_append.1 hx with h | h
            · exact HQS.out x h
            · have := List.eq_of_mem_replicate h; omega)) (by rw [hR, ch_length, List.length_append, hml]; simp) (by
            rw [hR, ch_append, List.getD_eq_getElem?_getD, List.getElem?_append_right (by rw [ch_length, hml]; omega), ch_length, hml, Nat.sub_self]; rfl) rfl
          have HNX := Lib.hid (show S1.extract 0 m = strB (ch (L ++ List.replicate i 0)) by
            rw [HS1.out, hR, strB_extract, List.drop_zero, Nat.sub_zero, ch_append, ← hml, ← ch_length, List.take_left])
          have HSZ := Lib.hid hsz1
          clear hsz1 hR hm hml hj0
          go_wp2_with fail
          refine ⟨⟨⟨i, by omega, by rw [HNX.out]⟩, trivial⟩, ?_⟩
          show (S1.extract 0 m).size < S1.size
          rw [HNX.out, strB_size, ch_length, List.length_append, List.length_replicate]
          exact Nat.lt_of_lt_of_eq (Nat.lt_succ_self (L.length + i)) HSZ.out.symm
        · obtain rfl : j = 0 := by omega
          rw [List.replicate_zero, List.append_nil] at HS1
          have HSZ := Lib.hid hsz1
          by_cases hL : L.length = 0
          · have hL0 : L = [] := List.eq_nil_of_length_eq_zero hL
            have e2 : ¬ 0 < S1.size := by omega
            have hq0 : q = 0 := by
              rcases Nat.eq_zero_or_pos q with h | h
              · exact h
              · have := HQ1.out (by omega); omega
            have HTX2 := Lib.hid (show textOf a = (if a < 0 then [45] else []) ++ ch DW by rw [HTX.out, if_pos hq0, List.append_nil])
            clear hL hL0 hq0 hj0 hsz1 hj
            by_cases hneg : a < 0
            · have HF := Lib.hid (show (⟨#[45]⟩ : ByteArray) ++ SW = strB (textOf a) by
                rw [HTX2.out, if_pos hneg, HSW.out, ← strB_append]; rfl)
              go_wp2_with fail
              go_ret
              exact ⟨by rw [HF.out]; rfl, HB9.out⟩
            · have HF := Lib.hid (show SW = strB (textOf a) by
                rw [HTX2.out, if_neg hneg, HSW.out]; rfl)
              go_wp2_with fail
              go_ret
              exact ⟨by rw [← HF.out]; rfl, HB9.out⟩
          · have hL0 : L ≠ [] := fun h => hL (by rw [h]; rfl)
            have e2 : 0 < S1.size := by omega
            obtain ⟨m, hm⟩ : ∃ m, m + 1 = L.length := ⟨L.length - 1, by omega⟩
            have e1 : (S1.size : Int) - 1 = (m : Int) := by omega
            have e3 : (m : Int) ≤ (S1.size : Int) := by omega
            have HS40 := Lib.hid (show S1.size ≤ 100 by omega)
            obtain ⟨x, hx⟩ : ∃ x, x = L.getLast hL0 := ⟨_, rfl⟩
            have hx0 : x ≠ 0 := by rw [hx]; exact HQL.out hL0
            have hx9 : x < 10 := HQS.out x (by rw [hx]; exact List.getLast_mem hL0)
            have hxg : (ch L).getD m 0 = x + 48 := by rw [hx]; exact last_get hL0 hm
            obtain ⟨z, hz⟩ : ∃ z : Int, z = ((x + 48 : Nat) : Int) := ⟨_, rfl⟩
            have hz48 : (z == 48) = false := by rw [beq_eq_false_iff_ne]; omega
            have hmw : wrap64 (m : Int) = (m : Int) := by unfold wrap64; omega
            have hix : ∀ w, (Instr.index 9 (.string S1) (.int .i64 (m : Int))).run Try.prog w = .ok (.int .u8 z) w := index_strB HS1.out (ch_small HQS.out) (by rw [ch_length]; omega) hxg hz
            have hq0 : ¬ q = 0 := fun h => hL0 (HQ0.out h)
            have HTX2 := Lib.hid (show textOf a = (if a < 0 then [45] else []) ++ (ch DW ++ (46 :: ch L)) by rw [HTX.out, if_neg hq0])
            clear hL hL0 hq0 hj0 hsz1 hj hx hx0 hx9 hxg hz hm
            have HM := Lib.hid (show SW ++ ((⟨#[46]⟩ : ByteArray) ++ S1) = strB (ch DW ++ (46 :: ch L)) by
                rw [HSW.out, HS1.out, show (⟨#[46]⟩ : ByteArray) = strB [46] from rfl, strB_append, strB_append]; rfl)
            go_upto_region 12 with fail
            have hs40 := HS40.out
            clear e1 e3 hix hmw hz48
            by_cases hneg : a < 0
            · have HF := Lib.hid (show (⟨#[45]⟩ : ByteArray) ++ (SW ++ ((⟨#[46]⟩ : ByteArray) ++ S1)) = strB (textOf a) by
                rw [HTX2.out, if_pos hneg, HM.out]; exact strB_append [45] _)
              go_wp2_with fail
              go_ret
              exact ⟨by rw [← HF.out]; rfl, HB9.out⟩
            · have HF := Lib.hid (show SW ++ ((⟨#[46]⟩ : ByteArray) ++ S1) = strB (textOf a) by
                rw [HTX2.out, if_neg hneg, HM.out]; rfl)
              go_wp2_with fail
              go_ret
              exact ⟨by rw [← HF.out]; rfl, HB9.out⟩
end Go.Proofs.Ytlcpackmoolngaa.Tx
