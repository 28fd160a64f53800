/- The reference's Read: P1.7. -/
import Derived.Test.YtlcpackmoolngaaBigStr
import Derived.Test.YtlcpackmoolngaaRdLaw
import Derived.Test.YtlcpackmoolngaaBigExp
import Derived.Test.YtlcpackmoolngaaBigNeg
import Derived.Test.YtlcpackmoolngaaBigAdd
import Derived.Test.YtlcpackmoolngaaBigDiv
namespace Go.Proofs.Ytlcpackmoolngaa.Tx
open Go.RowKit Go.Proofs.Ytlcpackmoolngaa.Mem Go.Proofs.Ytlcpackmoolngaa.Rws Go.Proofs.Ytlcpackmoolngaa.Sm Go.Proofs.Ytlcpackmoolngaa.ReadLaw Go.Proofs.Ytlcpackmoolngaa.BigW Go.Proofs.Ytlcpackmoolngaa.BigLaw
set_option linter.unusedVariables false
set_option linter.unusedSimpArgs false

theorem digit_any (x : Nat) (w : World) (hx : x < 256) :
    Calls Try.prog 44 #[.int .u8 (x : Int)] w fun e w' => e = .returned (.bool (dg x)) ∧ w' = w := by
  by_cases h1 : 48 ≤ x
  · have a1 : (48 : Int) ≤ (x : Int) := by omega
    by_cases h2 : x ≤ 57
    · have a2 : (x : Int) ≤ 57 := by omega
      have HD := Lib.hid (show dg x = true from decide_eq_true ⟨h1, h2⟩)
      go_enter Try.func44, Try.ntmps44
      go_wp2_with fail
      go_ret
      exact ⟨by rw [HD.out]; rfl, rfl⟩
    · have a2 : ¬ (x : Int) ≤ 57 := by omega
      have HD := Lib.hid (show dg x = false from decide_eq_false (fun h => h2 h.2))
      go_enter Try.func44, Try.ntmps44
      go_wp2_with fail
      go_ret
      exact ⟨by rw [HD.out]; rfl, rfl⟩
  · have a1 : ¬ (48 : Int) ≤ (x : Int) := by omega
    have HD := Lib.hid (show dg x = false from decide_eq_false (fun h => h1 h.1))
    go_enter Try.func44, Try.ntmps44
    go_wp2_with fail
    go_ret
    exact ⟨by rw [HD.out]; rfl, rfl⟩

theorem val_bound {X : Int} {P : Nat} (hX : X.natAbs < pw 50) (hP : P < pw 50) : (X * 8589934592).natAbs < pw 100 ∧ (X * 8589934592 + (P : Int)).natAbs < pw 100 ∧ ((P * 2 : Nat) : Int).natAbs < pw 100 := by
  have h1 : pw 52 ≤ pw 100 := pw_le (by omega)
  have h2 : pw 52 = pw 50 * 18446744073709551616 := by rw [show 52 = 50 + 2 from rfl, pw_add]; rfl
  rw [h2] at h1
  generalize pw 50 = a at *
  generalize pw 100 = b at *
  omega
theorem natAbs_div (X : Int) {Y : Int} (hY : 0 < Y) : (X / Y).natAbs ≤ X.natAbs := by
  rcases Int.lt_or_le X 0 with h | h
  · have h1 : X ≤ X / Y := by
      rw [Int.le_ediv_iff_mul_le hY]
      have := Int.mul_le_mul_of_nonpos_left (a := X) (b := Y) (c := 1) (by omega) (by omega)
      omega
    have h2 : X / Y < 0 := Int.ediv_neg_of_neg_of_pos h hY
    omega
  · have h1 := Int.ediv_le_self Y h
    have h2 := Int.ediv_nonneg h (Int.le_of_lt hY)
    omega

set_option maxRecDepth 100000 in
set_option maxHeartbeats 4000000 in
theorem refRead_any (l : List Nat) (w : World) (hl : ∀ y ∈ l, y < 256) (hm : l.length ≤ 9223372036854775807) :
    Calls Try.prog 24 #[.string (strB l)] w fun e w' => e = .returned (.tuple #[.int .i64 (readOf l).1, .int .i64 (readOf l).2]) ∧ Below w.heap.size w w' := by
  obtain ⟨S, hS⟩ : ∃ S, S = strB l := ⟨_, rfl⟩
  have hsz : S.size = l.length := by rw [hS, strB_size]
  rw [← hS]
  have HS := Lib.hid hS
  have HL := Lib.hid hl
  have HZ := Lib.hid hsz
  by_cases hlong : 60 < l.length
  · have HR := Lib.hid (show readOf l = (0, 1) by unfold readOf; rw [if_pos hlong])
    have h60 : 60 < S.size := by omega
    clear hS hl hsz hlong hm
    go_enter Try.func24, Try.ntmps24
    go_wp2_with fail
    go_ret2
    exact ⟨by rw [HR.out]; rfl, Below.refl _ _⟩
  · have h60 : ¬ 60 < S.size := by omega
    have HN := Lib.hid (show l.length ≤ 60 by omega)
    have HR := Lib.hid (show readOf l = bodyOf (negOf l) (if negOf l then l.drop 1 else l) by unfold readOf; rw [if_neg hlong])
    clear hS hl hsz hlong hm
    by_cases hneg : negOf l = true
    · have hlp : 0 < l.length := by
        rcases Nat.eq_zero_or_pos l.length with h | h
        · have h2 : l = [] := List.eq_nil_of_length_eq_zero h
          rw [h2] at hneg; simp [negOf] at hneg
        · exact h
      have hx45 : l.getD 0 0 = 45 := of_decide_eq_true hneg
      have hix : ∀ w, (Instr.index 9 (.string S) (.int .i64 0)).run Try.prog w = .ok (.int .u8 45) w := index00_strB HS.out HL.out hlp hx45
      have HIX := Lib.hid hix
      have HT := Lib.hid (show S.extract 1 S.size = strB (l.drop 1) by rw [HZ.out, HS.out, strB_extract, List.take_of_length_le (by simp)])
      have hs0 : 0 < S.size := by rw [HZ.out]; exact hlp
      have hs1 : 1 ≤ S.size := by rw [HZ.out]; exact hlp
      have HRB := Lib.hid (show readOf l = bodyOf true (l.drop 1) by rw [HR.out, hneg]; rfl)
      have HTL := Lib.hid (show ∀ y ∈ l.drop 1, y < 256 from fun y hy => HL.out y (List.mem_of_mem_drop hy))
      have HTN := Lib.hid (show (l.drop 1).length ≤ 60 by have := HN.out; simp; omega)
      have HS0 := Lib.hid hs0
      clear hneg hx45 hlp
      go_enter Try.func24, Try.ntmps24
      go_upto_region 6 with fail
      rw [HT.out]
      clear hix hs1 hs0
      generalize l.drop 1 = t at *
      obtain ⟨T, hT⟩ : ∃ T, T = strB t := ⟨_, rfl⟩
      have hTz : T.size = t.length := by rw [hT, strB_size]
      rw [← hT]
      have HTS := Lib.hid hT
      have HTZ := Lib.hid hTz
      obtain ⟨n, hn⟩ : ∃ n, n = t.length := ⟨_, rfl⟩
      have HNT := Lib.hid hn
      have hn60 : n ≤ 60 := by have := HTN.out; omega
      clear hT hn hTz
      go_upto_region 8 with fail
      go_loopw [5, 6, 7] (fun al pt i wr => ∃ (k : Nat) (ds : List Nat) (p : Int), k ≤ n ∧ i = .int .i64 (k : Int) ∧ al = .string (strB ds) ∧ pt = .int .i64 p ∧ RdAt t k ds p ∧ ds.length ≤ k ∧ wr = w) (fun _ _ i _ => n - (intOf i).toNat)
      case atStart => exact ⟨0, [], -1, by omega, rfl, rfl, rfl, RdAt.zero t, Nat.le_refl _, rfl⟩
      case round =>
        obtain ⟨k, ds, p, hk, rfl, rfl, rfl, hrd, hal, rfl⟩ := hrel
        have HRD := Lib.hid hrd
        clear hrd
        obtain ⟨SA, hSA⟩ : ∃ SA, SA = strB ds := ⟨_, rfl⟩
        have hza : SA.size = ds.length := by rw [hSA, strB_size]
        rw [← hSA]
        have HSA := Lib.hid hSA
        have HZA := Lib.hid hza
        clear hSA
        by_cases hlt : k < n
        · have hkl : k < t.length := by rw [← HNT.out]; exact hlt
          have hks : k < T.size := by rw [HTZ.out]; exact hkl
          obtain ⟨x, hx⟩ : ∃ x, t.getD k 0 = x := ⟨_, rfl⟩
          have hxm : x ∈ t := by rw [← hx, List.getD_eq_getElem?_getD, List.getElem?_eq_getElem hkl]; exact List.getElem_mem hkl
          have hx256 := HTL.out x hxm
          have hixk : ∀ w, (Instr.index 9 (.string T) (.int .i64 (k : Int))).run Try.prog w = .ok (.int .u8 (x : Int)) w := index_strB HTS.out HTL.out hkl hx rfl
          have HX := Lib.hid hx
          have HXM := Lib.hid hxm
          have HKL := Lib.hid hkl
          clear hx hxm hkl hza
          go_wp2_with fail
          refine (digit_any x wr hx256).mono ?_
          rintro e w' ⟨rfl, rfl⟩
          by_cases hd : dg x = true
          · have HNX := Lib.hid (HRD.out.digit HKL.out HX.out hd)
            have HEX := Lib.hid (show SA ++ T.extract k (k + 1) = strB (ds ++ [x]) by
              rw [HSA.out, HTS.out, strB_extract, ← strB_append]
              congr 2
              have h := HX.out
              have h2 := HKL.out
              rw [List.getD_eq_getElem?_getD, List.getElem?_eq_getElem h2] at h
              rw [List.drop_eq_getElem_cons h2, show k + 1 - k = 1 by omega]
              exact congrArg (fun y => [y]) h)
            have hsz1 : (T.extract k (k + 1)).size ≤ 1 := by rw [ByteArray.size_extract]; omega
            have hza2 : SA.size ≤ 60 := by rw [HZA.out]; omega
            have hk2 : k + 1 ≤ T.size := by have := HTZ.out; have := HNT.out; omega
            rw [hd]
            clear hd hixk
            go_wp2_with fail
            exact ⟨⟨k + 1, ds ++ [x], p, by omega, by go_num, by rw [HEX.out], rfl, HNX.out, by simp; omega, trivial⟩, by simp [intOf]; omega⟩
          · rw [Bool.not_eq_true] at hd
            have HD := Lib.hid hd
            rw [hd]
            by_cases h46 : x = 46
            · have hx46 : ((x : Int) == 46) = true := by rw [beq_iff_eq]; omega
              have HX46 := Lib.hid (HX.out.trans h46)
              by_cases hp : p < 0
              · by_cases hk0 : 0 < k
                · by_cases hk1 : k + 1 < n
                  · have HNX := Lib.hid (HRD.out.point (by rw [← HNT.out]; exact hk1) HX46.out hp hk0)
                    have hk2' : (k : Int) + 1 < (T.size : Int) := by have := HTZ.out; have := HNT.out; omega
                    have hk0' : (0 : Int) < (k : Int) := by omega
                    have hk2 : k + 1 < T.size := by have := HTZ.out; have := HNT.out; omega
                    clear hd h46
                    go_wp2_with fail
                    exact ⟨⟨k + 1, ds, (k : Int), by omega, by go_num, by rw [HSA.out], rfl, HNX.out, by omega, trivial⟩, by simp [intOf]; omega⟩
                  · have HF := Lib.hid (HRD.out.edge (neg := true) HKL.out HX46.out hp (.inr (by rw [← HNT.out]; omega)))
                    have hk0' : (0 : Int) < (k : Int) := by omega
                    have hk2 : ¬ k + 1 < T.size := by have := HTZ.out; have := HNT.out; omega
                    have hk2' : ¬ (k : Int) + 1 < (T.size : Int) := by have := HTZ.out; have := HNT.out; omega
                    clear hd h46
                    go_wp2_with fail
                    all_goals
                      go_ret2
                      exact ⟨by rw [HRB.out, HF.out]; rfl, Below.refl _ _⟩
                · have HF := Lib.hid (HRD.out.edge (neg := true) HKL.out HX46.out hp (.inl (by omega)))
                  have hk0' : ¬ (0 : Int) < (k : Int) := by omega
                  clear hd h46
                  go_wp2_with fail
                  all_goals
                    go_ret2
                    exact ⟨by rw [HRB.out, HF.out]; rfl, Below.refl _ _⟩
              · have HF := Lib.hid (HRD.out.again (neg := true) HKL.out HX46.out (by omega))
                clear hd h46
                go_wp2_with fail
                all_goals
                  go_ret2
                  exact ⟨by rw [HRB.out, HF.out]; rfl, Below.refl _ _⟩
            · have hx46 : ((x : Int) == 46) = false := by rw [beq_eq_false_iff_ne]; omega
              have HF := Lib.hid (body_bad (neg := true) HXM.out (by rw [HD.out]; decide) h46)
              clear hd h46
              go_wp2_with fail
              all_goals
                go_ret2
                exact ⟨by rw [HRB.out, HF.out]; rfl, Below.refl _ _⟩
        · have e : k = n := by omega
          have hge : ¬ k < T.size := by have := HTZ.out; have := HNT.out; omega
          have HEND := Lib.hid (show (t = [] ∧ ds = []) ∨ _ from RdAt.end_ (by have h := HRD.out; rwa [e, HNT.out] at h))
          have hpt := HRD.out.cases_pt
          clear hlt e
          have HSE := Lib.hid (show SA.toList.isEmpty = decide (ds = []) by rw [HSA.out, strB_empty])
          rcases HEND.out with ⟨ht0, hd0⟩ | ⟨a, b, hcut, hds, ha, hall, hdl, hah⟩
          · have he : SA.toList.isEmpty = true := by rw [HSE.out, decide_eq_true hd0]
            have HF := Lib.hid (show readOf l = (0, 2) by rw [HRB.out, ht0]; exact body_form (a := []) (b := []) (ok := false) rfl (.inl rfl))
            clear ht0 hd0 hza
            go_wp2_with fail
            go_ret2
            exact ⟨by rw [HF.out]; rfl, Below.refl _ _⟩
          · have he : SA.toList.isEmpty = false := by rw [HSE.out, decide_eq_false (fun h => by rw [h] at hds; exact ha (List.append_eq_nil_iff.1 hds.symm).1)]
            obtain ⟨m, hm⟩ : ∃ m, m = a.length := ⟨_, rfl⟩
            rw [← hm] at hah
            have HCUT := Lib.hid hcut
            have HDS := Lib.hid hds
            have HALL := Lib.hid hall
            have HDL := Lib.hid (show ds.length ≤ 60 by have := HTN.out; omega)
            have HM := Lib.hid hm
            have hml : m ≤ 60 := by
              have h1 := congrArg List.length hds
              rw [List.length_append] at h1
              have := HDL.out
              omega
            have hapos : 0 < a.length := List.length_pos_iff.2 ha
            have hdpos : 0 < ds.length := by rw [hds, List.length_append]; omega
            obtain ⟨y, hy⟩ : ∃ y, ds.getD 0 0 = y := ⟨_, rfl⟩
            have hy2 : a.getD 0 0 = y := by
              rw [← hy, hds, List.getD_eq_getElem?_getD, List.getD_eq_getElem?_getD, List.getElem?_append_left hapos]
            have HY := Lib.hid hy2
            have hixa : ∀ w, (Instr.index 9 (.string SA) (.int .i64 0)).run Try.prog w = .ok (.int .u8 (y : Int)) w := index00_strB HSA.out (dg_256 hall) hdpos hy
            have HIXA := Lib.hid hixa
            clear hcut hds hall hm ha hapos hdpos hy hy2 hixa hdl hza
            rcases hpt with hp1 | hp1
            · have hp0 : ¬ (0 : Int) ≤ p := by omega
              have hah2 : (SA.size : Int) = (m : Int) := by have h := hah; rw [if_neg hp0] at h; have := HZA.out; omega
              have HAH := Lib.hid hah2
              clear hah hah2 hp1
              go_upto_region 20 with fail
              rw [HAH.out]
              have HNL0 := Lib.hid (show ∀ neg, 1 < m ∧ y = 48 → bodyOf neg t = (0, 2) from fun neg h => body_form HCUT.out (.inr ⟨by rw [← HM.out]; exact h.1, by rw [HY.out]; exact h.2⟩))
              by_cases hlead : 1 < m ∧ y = 48
              · have hm1 : 1 < m := hlead.1
                have hm1' : (1 : Int) < (m : Int) := by omega
                have hy48 : ((y : Int) == 48) = true := by rw [beq_iff_eq]; omega
                have hixa := HIXA.out
                have HF := Lib.hid (HNL0.out true hlead)
                clear hlead
                go_wp2_with fail
                go_ret2
                exact ⟨by rw [HRB.out, HF.out]; rfl, Below.refl _ _⟩
              · have HNL := Lib.hid (show ¬ (1 < a.length ∧ a.getD 0 0 = 48) by rw [← HM.out, HY.out]; exact hlead)
                have HVAL := Lib.hid (show readOf l = ReadLaw.valOf true (num ds) b.length by rw [HRB.out, body_val HCUT.out HNL.out, HDS.out, num_append])
                have HK := Lib.hid (show (ds.length : Int) - (m : Int) = (b.length : Int) by rw [HDS.out, List.length_append, HM.out]; omega)
                have HKL := Lib.hid (show b.length ≤ 60 by have h1 := congrArg List.length HDS.out; rw [List.length_append] at h1; have := HDL.out; omega)
                have HNE := Lib.hid (show ds ≠ [] from fun h => by have := HDS.out; rw [h] at this; have h2 := (List.append_eq_nil_iff.1 this.symm).1; have := (cut_ok HCUT.out).1; exact this h2)
                have HNB := Lib.hid (show num ds < pw 50 from Nat.lt_of_lt_of_le (num_lt HALL.out) (Nat.le_of_lt (ten_pow_pw (by have := HDL.out; omega))))
                have hgo : (¬ 1 < m) ∨ (1 < m ∧ ((y : Int) == 48) = false) := by
                  by_cases h1 : 1 < m
                  · right; exact ⟨h1, by rw [beq_eq_false_iff_ne]; intro e; exact hlead ⟨h1, by omega⟩⟩
                  · left; exact h1
                clear hlead
                rcases hgo with hs1 | ⟨hs1, hy48⟩
                · have hs1' : ¬ (1 : Int) < (m : Int) := by omega
                  go_upto_region 22 with fail
                  clear hs1 hs1'
                  generalize b.length = K at HVAL HK HKL
                  have HI0 := Lib.hid (isInt_new wr)
                  have HB0 := Lib.hid ((Below.refl wr.heap.size wr).alloc (Nat.le_refl _) (.cells #[.bool false, .slice none 0 0] 63))
                  have hss := setString_any wr.heap.size ds (wr.alloc (.cells #[.bool false, .slice none 0 0] 63)) HI0.out HALL.out HNE.out (by have := HDL.out; omega)
                  rw [← HSA.out] at hss
                  have HSS := Lib.hid hss
                  clear hss
                  go_wp2_with fail
                  refine HSS.out.mono ?_
                  rintro e w1 ⟨rfl, hz1, hg1⟩
                  have HX1 := Lib.hid hz1
                  have HB1 := Lib.hid (below_grown HB0.out (Nat.le_refl _) hg1 (fun g e => by injection e with e; omega))
                  clear hz1 hg1 HSS
                  have hix := HIX.out
                  go_upto_region 25 with (refine (bigNeg_any wr.heap.size wr.heap.size (num ds : Int) _ HX1.out.isInt HX1.out (Nat.lt_of_lt_of_le HNB.out (pw_le (by omega)))).mono ?_; rintro e w2 ⟨rfl, hz2, hg2⟩)
                  have HX2 := Lib.hid hz2
                  have HB2 := Lib.hid (below_grown HB1.out (Nat.le_refl _) hg2 (fun g e => by injection e with e; omega))
                  clear hz2 hg2 hix
                  obtain ⟨X, hX⟩ : ∃ X : Int, X = (if true then -(num ds : Int) else (num ds : Int)) := ⟨_, rfl⟩
                  have HXE := Lib.hid (show BigAt w2 wr.heap.size X by rw [hX]; exact HX2.out)
                  have HXN := Lib.hid (show X.natAbs < pw 50 by rw [hX]; have h := HNB.out; simp only [Bool.false_eq_true, if_false, if_true]; omega)
                  have HR2 := Lib.hid (show readOf l = (let r := (X * 8589934592 + ((10 ^ K : Nat) : Int)) / ((10 ^ K * 2 : Nat) : Int); if ReadLaw.in64 r then (r, 0) else (0, 3)) by rw [HVAL.out, hX]; rfl)
                  clear hX HX2
                  have HI2 := Lib.hid (isInt_new w2)
                  have hb2a : Below w2.heap.size w2 (w2.alloc (.cells #[.bool false, .slice none 0 0] 63)) := (Below.refl _ _).alloc (Nat.le_refl _) _
                  have hs2 := HXE.out.lt
                  have hkl := HKL.out
                  have hzk : (SA.size : Int) - (m : Int) = (K : Int) := by have h1 := HK.out; have h2 := HZA.out; omega
                  go_wp2_with fail
                  refine (newInt_any 10 _ (by omega)).mono ?_
                  rintro e w3 ⟨p3, rfl, hp3, hz3, hb3⟩
                  have HZ3 := Lib.hid hz3
                  clear hz3
                  go_wp2_with fail
                  refine (newInt_any (K : Int) _ (by omega)).mono ?_
                  rintro e w4 ⟨p4, rfl, hp4, hz4, hb4⟩
                  have HZ4 := Lib.hid hz4
                  have HZ34 := Lib.hid (HZ3.out.below hb4)
                  have hb24 : Below w2.heap.size w2 w4 := onward (onward hb2a (Nat.le_refl _) hb3) (Nat.le_refl _) hb4
                  have HI4 := Lib.hid ((HI2.out.below hb3 HI2.out.lt).below hb4 (by have := hb3.size; have := HI2.out.lt; omega))
                  have HX4 := Lib.hid (HXE.out.below hb24)
                  have HB4 := Lib.hid (onward HB2.out (Nat.le_refl _) hb24)
                  have HTP := Lib.hid (ten_pow_pw (k := K) (by omega))
                  clear hz4 hzk
                  go_wp2_with fail
                  refine (bigExp_any w2.heap.size p3 p4 10 K _ HI4.out HZ34.out HZ4.out (Nat.lt_of_lt_of_le (show 10 < pw 1 by unfold pw; omega) (pw_le (by omega))) (by omega) (Nat.lt_of_lt_of_le HTP.out (pw_le (by omega))) (by omega)).mono ?_
                  rintro e w5 ⟨rfl, hz5, hg5⟩
                  have HTQ := Lib.hid (Nat.pow_pos (n := K) (show 0 < 10 by omega))
                  generalize 10 ^ K = P at HTP HTQ HR2 hz5
                  have HT5 := Lib.hid hz5
                  have HX5 := Lib.hid (HX4.out.grown HI4.out hg5 (by omega))
                  have HB5 := Lib.hid (below_grown HB4.out (Nat.le_refl _) hg5 (fun g e => by injection e with e; omega))
                  have hne : wr.heap.size ≠ w2.heap.size := by omega
                  clear hz5 hg5 hb24 hb2a hb3 hb4
                  go_wp2_with fail
                  refine (bigLsh_any wr.heap.size wr.heap.size X 33 1 1 _ HX5.out.isInt HX5.out (Nat.lt_of_lt_of_le HXN.out (pw_le (by omega))) rfl (by omega) (by omega)).mono ?_
                  rintro e w6 ⟨rfl, hz6, hg6⟩
                  have HX6 := Lib.hid (show BigAt w6 wr.heap.size (X * 8589934592) from hz6)
                  have HT6 := Lib.hid (HT5.out.grown HX5.out.isInt hg6 (fun e => hne e.symm))
                  have HB6 := Lib.hid (below_grown HB5.out (Nat.le_refl _) hg6 (fun g e => by injection e with e; omega))
                  have HN6 := Lib.hid (val_bound HXN.out HTP.out)
                  clear hz6 hg6
                  go_wp2_with fail
                  refine (bigAdd_any wr.heap.size wr.heap.size w2.heap.size (X * 8589934592) (P : Int) _ HX6.out.isInt HX6.out HT6.out HN6.out.1 (Nat.lt_of_lt_of_le HTP.out (pw_le (by omega)))).mono ?_
                  rintro e w7 ⟨rfl, hz7, hg7⟩
                  have HX7 := Lib.hid hz7
                  have HT7 := Lib.hid (HT6.out.grown HX6.out.isInt hg7 (fun e => hne e.symm))
                  have HB7 := Lib.hid (below_grown HB6.out (Nat.le_refl _) hg7 (fun g e => by injection e with e; omega))
                  have HI7 := Lib.hid (isInt_new w7)
                  have HX8 := Lib.hid (HX7.out.alloc (.cells #[.bool false, .slice none 0 0] 63))
                  have HT8 := Lib.hid (HT7.out.alloc (.cells #[.bool false, .slice none 0 0] 63))
                  have hs7 := HX7.out.lt
                  have HB8 := Lib.hid (HB7.out.alloc (by have := HB7.out.size; omega) (.cells #[.bool false, .slice none 0 0] 63))
                  clear hz7 hg7
                  go_wp2_with fail
                  refine (bigLsh_any w7.heap.size w2.heap.size (P : Int) 1 0 1 _ HI7.out HT8.out (Nat.lt_of_lt_of_le HTP.out (pw_le (by omega))) rfl (by omega) (by omega)).mono ?_
                  rintro e w9 ⟨rfl, hz9, hg9⟩
                  have HD9 := Lib.hid (show BigAt w9 w7.heap.size (((P * 2 : Nat)) : Int) from hz9)
                  have HX9 := Lib.hid (HX8.out.grown HI7.out hg9 (by omega))
                  have HB9 := Lib.hid (below_grown HB8.out (Nat.le_refl _) hg9 (fun g e => by injection e with e; omega))
                  clear hz9 hg9
                  go_wp2_with fail
                  refine (down_any wr.heap.size w7.heap.size (X * 8589934592 + (P : Int)) ((P * 2 : Nat) : Int) _ HX9.out HD9.out HN6.out.2.1 (by have := HTQ.out; omega) HN6.out.2.2).mono ?_
                  rintro e w10 ⟨p10, rfl, hp10, hz10, hb10⟩
                  obtain ⟨r, hr⟩ : ∃ r, r = (X * 8589934592 + (P : Int)) / ((P * 2 : Nat) : Int) := ⟨_, rfl⟩
                  rw [← hr] at hz10
                  have HR3 := Lib.hid (show readOf l = (if ReadLaw.in64 r then (r, 0) else (0, 3)) by rw [HR2.out, hr])
                  have HRB3 := Lib.hid (show r.natAbs < pw 100 by rw [hr]; exact Nat.lt_of_le_of_lt (natAbs_div _ (by have := HTQ.out; omega)) HN6.out.2.1)
                  have HZ10 := Lib.hid hz10
                  have HB10 := Lib.hid (onward HB9.out (Nat.le_refl _) hb10)
                  clear hz10 hb10 hr
                  go_wp2_with fail
                  refine (isInt64_any p10 r _ HZ10.out HRB3.out).mono ?_
                  rintro e w11 ⟨rfl, rfl⟩
                  cases hin : BigW.in64 r with
                  | false =>
                    have HF := Lib.hid (show readOf l = (0, 3) by rw [HR3.out, show ReadLaw.in64 r = false from hin]; rfl)
                    go_wp2_with fail
                    go_ret2
                    exact ⟨by rw [HF.out]; rfl, HB10.out⟩
                  | true =>
                    have HF := Lib.hid (show readOf l = (r, 0) by rw [HR3.out, show ReadLaw.in64 r = true from hin]; rfl)
                    have HIN := Lib.hid (show -9223372036854775808 ≤ r ∧ r ≤ 9223372036854775807 from of_decide_eq_true hin)
                    go_wp2_with fail
                    refine (bigInt64_any p10 r _ HZ10.out HIN.out).mono ?_
                    rintro e w12 ⟨rfl, rfl⟩
                    go_wp2_with fail
                    go_ret2
                    exact ⟨by rw [HF.out]; rfl, HB10.out⟩
                · have hs1' : (1 : Int) < (m : Int) := by omega
                  have hixa := HIXA.out
                  go_upto_region 22 with fail
                  clear hs1 hs1' hixa hy48
                  generalize b.length = K at HVAL HK HKL
                  have HI0 := Lib.hid (isInt_new wr)
                  have HB0 := Lib.hid ((Below.refl wr.heap.size wr).alloc (Nat.le_refl _) (.cells #[.bool false, .slice none 0 0] 63))
                  have hss := setString_any wr.heap.size ds (wr.alloc (.cells #[.bool false, .slice none 0 0] 63)) HI0.out HALL.out HNE.out (by have := HDL.out; omega)
                  rw [← HSA.out] at hss
                  have HSS := Lib.hid hss
                  clear hss
                  go_wp2_with fail
                  refine HSS.out.mono ?_
                  rintro e w1 ⟨rfl, hz1, hg1⟩
                  have HX1 := Lib.hid hz1
                  have HB1 := Lib.hid (below_grown HB0.out (Nat.le_refl _) hg1 (fun g e => by injection e with e; omega))
                  clear hz1 hg1 HSS
                  have hix := HIX.out
                  go_upto_region 25 with (refine (bigNeg_any wr.heap.size wr.heap.size (num ds : Int) _ HX1.out.isInt HX1.out (Nat.lt_of_lt_of_le HNB.out (pw_le (by omega)))).mono ?_; rintro e w2 ⟨rfl, hz2, hg2⟩)
                  have HX2 := Lib.hid hz2
                  have HB2 := Lib.hid (below_grown HB1.out (Nat.le_refl _) hg2 (fun g e => by injection e with e; omega))
                  clear hz2 hg2 hix
                  obtain ⟨X, hX⟩ : ∃ X : Int, X = (if true then -(num ds : Int) else (num ds : Int)) := ⟨_, rfl⟩
                  have HXE := Lib.hid (show BigAt w2 wr.heap.size X by rw [hX]; exact HX2.out)
                  have HXN := Lib.hid (show X.natAbs < pw 50 by rw [hX]; have h := HNB.out; simp only [Bool.false_eq_true, if_false, if_true]; omega)
                  have HR2 := Lib.hid (show readOf l = (let r := (X * 8589934592 + ((10 ^ K : Nat) : Int)) / ((10 ^ K * 2 : Nat) : Int); if ReadLaw.in64 r then (r, 0) else (0, 3)) by rw [HVAL.out, hX]; rfl)
                  clear hX HX2
                  have HI2 := Lib.hid (isInt_new w2)
                  have hb2a : Below w2.heap.size w2 (w2.alloc (.cells #[.bool false, .slice none 0 0] 63)) := (Below.refl _ _).alloc (Nat.le_refl _) _
                  have hs2 := HXE.out.lt
                  have hkl := HKL.out
                  have hzk : (SA.size : Int) - (m : Int) = (K : Int) := by have h1 := HK.out; have h2 := HZA.out; omega
                  go_wp2_with fail
                  refine (newInt_any 10 _ (by omega)).mono ?_
                  rintro e w3 ⟨p3, rfl, hp3, hz3, hb3⟩
                  have HZ3 := Lib.hid hz3
                  clear hz3
                  go_wp2_with fail
                  refine (newInt_any (K : Int) _ (by omega)).mono ?_
                  rintro e w4 ⟨p4, rfl, hp4, hz4, hb4⟩
                  have HZ4 := Lib.hid hz4
                  have HZ34 := Lib.hid (HZ3.out.below hb4)
                  have hb24 : Below w2.heap.size w2 w4 := onward (onward hb2a (Nat.le_refl _) hb3) (Nat.le_refl _) hb4
                  have HI4 := Lib.hid ((HI2.out.below hb3 HI2.out.lt).below hb4 (by have := hb3.size; have := HI2.out.lt; omega))
                  have HX4 := Lib.hid (HXE.out.below hb24)
                  have HB4 := Lib.hid (onward HB2.out (Nat.le_refl _) hb24)
                  have HTP := Lib.hid (ten_pow_pw (k := K) (by omega))
                  clear hz4 hzk
                  go_wp2_with fail
                  refine (bigExp_any w2.heap.size p3 p4 10 K _ HI4.out HZ34.out HZ4.out (Nat.lt_of_lt_of_le (show 10 < pw 1 by unfold pw; omega) (pw_le (by omega))) (by omega) (Nat.lt_of_lt_of_le HTP.out (pw_le (by omega))) (by omega)).mono ?_
                  rintro e w5 ⟨rfl, hz5, hg5⟩
                  have HTQ := Lib.hid (Nat.pow_pos (n := K) (show 0 < 10 by omega))
                  generalize 10 ^ K = P at HTP HTQ HR2 hz5
                  have HT5 := Lib.hid hz5
                  have HX5 := Lib.hid (HX4.out.grown HI4.out hg5 (by omega))
                  have HB5 := Lib.hid (below_grown HB4.out (Nat.le_refl _) hg5 (fun g e => by injection e with e; omega))
                  have hne : wr.heap.size ≠ w2.heap.size := by omega
                  clear hz5 hg5 hb24 hb2a hb3 hb4
                  go_wp2_with fail
                  refine (bigLsh_any wr.heap.size wr.heap.size X 33 1 1 _ HX5.out.isInt HX5.out (Nat.lt_of_lt_of_le HXN.out (pw_le (by omega))) rfl (by omega) (by omega)).mono ?_
                  rintro e w6 ⟨rfl, hz6, hg6⟩
                  have HX6 := Lib.hid (show BigAt w6 wr.heap.size (X * 8589934592) from hz6)
                  have HT6 := Lib.hid (HT5.out.grown HX5.out.isInt hg6 (fun e => hne e.symm))
                  have HB6 := Lib.hid (below_grown HB5.out (Nat.le_refl _) hg6 (fun g e => by injection e with e; omega))
                  have HN6 := Lib.hid (val_bound HXN.out HTP.out)
                  clear hz6 hg6
                  go_wp2_with fail
                  refine (bigAdd_any wr.heap.size wr.heap.size w2.heap.size (X * 8589934592) (P : Int) _ HX6.out.isInt HX6.out HT6.out HN6.out.1 (Nat.lt_of_lt_of_le HTP.out (pw_le (by omega)))).mono ?_
                  rintro e w7 ⟨rfl, hz7, hg7⟩
                  have HX7 := Lib.hid hz7
                  have HT7 := Lib.hid (HT6.out.grown HX6.out.isInt hg7 (fun e => hne e.symm))
                  have HB7 := Lib.hid (below_grown HB6.out (Nat.le_refl _) hg7 (fun g e => by injection e with e; omega))
                  have HI7 := Lib.hid (isInt_new w7)
                  have HX8 := Lib.hid (HX7.out.alloc (.cells #[.bool false, .slice none 0 0] 63))
                  have HT8 := Lib.hid (HT7.out.alloc (.cells #[.bool false, .slice none 0 0] 63))
                  have hs7 := HX7.out.lt
                  have HB8 := Lib.hid (HB7.out.alloc (by have := HB7.out.size; omega) (.cells #[.bool false, .slice none 0 0] 63))
                  clear hz7 hg7
                  go_wp2_with fail
                  refine (bigLsh_any w7.heap.size w2.heap.size (P : Int) 1 0 1 _ HI7.out HT8.out (Nat.lt_of_lt_of_le HTP.out (pw_le (by omega))) rfl (by omega) (by omega)).mono ?_
                  rintro e w9 ⟨rfl, hz9, hg9⟩
                  have HD9 := Lib.hid (show BigAt w9 w7.heap.size (((P * 2 : Nat)) : Int) from hz9)
                  have HX9 := Lib.hid (HX8.out.grown HI7.out hg9 (by omega))
                  have HB9 := Lib.hid (below_grown HB8.out (Nat.le_refl _) hg9 (fun g e => by injection e with e; omega))
                  clear hz9 hg9
                  go_wp2_with fail
                  refine (down_any wr.heap.size w7.heap.size (X * 8589934592 + (P : Int)) ((P * 2 : Nat) : Int) _ HX9.out HD9.out HN6.out.2.1 (by have := HTQ.out; omega) HN6.out.2.2).mono ?_
                  rintro e w10 ⟨p10, rfl, hp10, hz10, hb10⟩
                  obtain ⟨r, hr⟩ : ∃ r, r = (X * 8589934592 + (P : Int)) / ((P * 2 : Nat) : Int) := ⟨_, rfl⟩
                  rw [← hr] at hz10
                  have HR3 := Lib.hid (show readOf l = (if ReadLaw.in64 r then (r, 0) else (0, 3)) by rw [HR2.out, hr])
                  have HRB3 := Lib.hid (show r.natAbs < pw 100 by rw [hr]; exact Nat.lt_of_le_of_lt (natAbs_div _ (by have := HTQ.out; omega)) HN6.out.2.1)
                  have HZ10 := Lib.hid hz10
                  have HB10 := Lib.hid (onward HB9.out (Nat.le_refl _) hb10)
                  clear hz10 hb10 hr
                  go_wp2_with fail
                  refine (isInt64_any p10 r _ HZ10.out HRB3.out).mono ?_
                  rintro e w11 ⟨rfl, rfl⟩
                  cases hin : BigW.in64 r with
                  | false =>
                    have HF := Lib.hid (show readOf l = (0, 3) by rw [HR3.out, show ReadLaw.in64 r = false from hin]; rfl)
                    go_wp2_with fail
                    go_ret2
                    exact ⟨by rw [HF.out]; rfl, HB10.out⟩
                  | true =>
                    have HF := Lib.hid (show readOf l = (r, 0) by rw [HR3.out, show ReadLaw.in64 r = true from hin]; rfl)
                    have HIN := Lib.hid (show -9223372036854775808 ≤ r ∧ r ≤ 9223372036854775807 from of_decide_eq_true hin)
                    go_wp2_with fail
                    refine (bigInt64_any p10 r _ HZ10.out HIN.out).mono ?_
                    rintro e w12 ⟨rfl, rfl⟩
                    go_wp2_with fail
                    go_ret2
                    exact ⟨by rw [HF.out]; rfl, HB10.out⟩
            · have hah2 : p = (m : Int) := by have h := hah; rw [if_pos hp1] at h; exact h
              have HAH := Lib.hid hah2
              clear hah hah2
              go_upto_region 20 with fail
              rw [HAH.out]
              have HNL0 := Lib.hid (show ∀ neg, 1 < m ∧ y = 48 → bodyOf neg t = (0, 2) from fun neg h => body_form HCUT.out (.inr ⟨by rw [← HM.out]; exact h.1, by rw [HY.out]; exact h.2⟩))
              by_cases hlead : 1 < m ∧ y = 48
              · have hm1 : 1 < m := hlead.1
                have hm1' : (1 : Int) < (m : Int) := by omega
                have hy48 : ((y : Int) == 48) = true := by rw [beq_iff_eq]; omega
                have hixa := HIXA.out
                have HF := Lib.hid (HNL0.out true hlead)
                clear hlead
                go_wp2_with fail
                go_ret2
                exact ⟨by rw [HRB.out, HF.out]; rfl, Below.refl _ _⟩
              · have HNL := Lib.hid (show ¬ (1 < a.length ∧ a.getD 0 0 = 48) by rw [← HM.out, HY.out]; exact hlead)
                have HVAL := Lib.hid (show readOf l = ReadLaw.valOf true (num ds) b.length by rw [HRB.out, body_val HCUT.out HNL.out, HDS.out, num_append])
                have HK := Lib.hid (show (ds.length : Int) - (m : Int) = (b.length : Int) by rw [HDS.out, List.length_append, HM.out]; omega)
                have HKL := Lib.hid (show b.length ≤ 60 by have h1 := congrArg List.length HDS.out; rw [List.length_append] at h1; have := HDL.out; omega)
                have HNE := Lib.hid (show ds ≠ [] from fun h => by have := HDS.out; rw [h] at this; have h2 := (List.append_eq_nil_iff.1 this.symm).1; have := (cut_ok HCUT.out).1; exact this h2)
                have HNB := Lib.hid (show num ds < pw 50 from Nat.lt_of_lt_of_le (num_lt HALL.out) (Nat.le_of_lt (ten_pow_pw (by have := HDL.out; omega))))
                have hgo : (¬ 1 < m) ∨ (1 < m ∧ ((y : Int) == 48) = false) := by
                  by_cases h1 : 1 < m
                  · right; exact ⟨h1, by rw [beq_eq_false_iff_ne]; intro e; exact hlead ⟨h1, by omega⟩⟩
                  · left; exact h1
                clear hlead
                rcases hgo with hs1 | ⟨hs1, hy48⟩
                · have hs1' : ¬ (1 : Int) < (m : Int) := by omega
                  go_upto_region 22 with fail
                  clear hs1 hs1'
                  generalize b.length = K at HVAL HK HKL
                  have HI0 := Lib.hid (isInt_new wr)
                  have HB0 := Lib.hid ((Below.refl wr.heap.size wr).alloc (Nat.le_refl _) (.cells #[.bool false, .slice none 0 0] 63))
                  have hss := setString_any wr.heap.size ds (wr.alloc (.cells #[.bool false, .slice none 0 0] 63)) HI0.out HALL.out HNE.out (by have := HDL.out; omega)
                  rw [← HSA.out] at hss
                  have HSS := Lib.hid hss
                  clear hss
                  go_wp2_with fail
                  refine HSS.out.mono ?_
                  rintro e w1 ⟨rfl, hz1, hg1⟩
                  have HX1 := Lib.hid hz1
                  have HB1 := Lib.hid (below_grown HB0.out (Nat.le_refl _) hg1 (fun g e => by injection e with e; omega))
                  clear hz1 hg1 HSS
                  have hix := HIX.out
                  go_upto_region 25 with (refine (bigNeg_any wr.heap.size wr.heap.size (num ds : Int) _ HX1.out.isInt HX1.out (Nat.lt_of_lt_of_le HNB.out (pw_le (by omega)))).mono ?_; rintro e w2 ⟨rfl, hz2, hg2⟩)
                  have HX2 := Lib.hid hz2
                  have HB2 := Lib.hid (below_grown HB1.out (Nat.le_refl _) hg2 (fun g e => by injection e with e; omega))
                  clear hz2 hg2 hix
                  obtain ⟨X, hX⟩ : ∃ X : Int, X = (if true then -(num ds : Int) else (num ds : Int)) := ⟨_, rfl⟩
                  have HXE := Lib.hid (show BigAt w2 wr.heap.size X by rw [hX]; exact HX2.out)
                  have HXN := Lib.hid (show X.natAbs < pw 50 by rw [hX]; have h := HNB.out; simp only [Bool.false_eq_true, if_false, if_true]; omega)
                  have HR2 := Lib.hid (show readOf l = (let r := (X * 8589934592 + ((10 ^ K : Nat) : Int)) / ((10 ^ K * 2 : Nat) : Int); if ReadLaw.in64 r then (r, 0) else (0, 3)) by rw [HVAL.out, hX]; rfl)
                  clear hX HX2
                  have HI2 := Lib.hid (isInt_new w2)
                  have hb2a : Below w2.heap.size w2 (w2.alloc (.cells #[.bool false, .slice none 0 0] 63)) := (Below.refl _ _).alloc (Nat.le_refl _) _
                  have hs2 := HXE.out.lt
                  have hkl := HKL.out
                  have hzk : (SA.size : Int) - (m : Int) = (K : Int) := by have h1 := HK.out; have h2 := HZA.out; omega
                  go_wp2_with fail
                  refine (newInt_any 10 _ (by omega)).mono ?_
                  rintro e w3 ⟨p3, rfl, hp3, hz3, hb3⟩
                  have HZ3 := Lib.hid hz3
                  clear hz3
                  go_wp2_with fail
                  refine (newInt_any (K : Int) _ (by omega)).mono ?_
                  rintro e w4 ⟨p4, rfl, hp4, hz4, hb4⟩
                  have HZ4 := Lib.hid hz4
                  have HZ34 := Lib.hid (HZ3.out.below hb4)
                  have hb24 : Below w2.heap.size w2 w4 := onward (onward hb2a (Nat.le_refl _) hb3) (Nat.le_refl _) hb4
                  have HI4 := Lib.hid ((HI2.out.below hb3 HI2.out.lt).below hb4 (by have := hb3.size; have := HI2.out.lt; omega))
                  have HX4 := Lib.hid (HXE.out.below hb24)
                  have HB4 := Lib.hid (onward HB2.out (Nat.le_refl _) hb24)
                  have HTP := Lib.hid (ten_pow_pw (k := K) (by omega))
                  clear hz4 hzk
                  go_wp2_with fail
                  refine (bigExp_any w2.heap.size p3 p4 10 K _ HI4.out HZ34.out HZ4.out (Nat.lt_of_lt_of_le (show 10 < pw 1 by unfold pw; omega) (pw_le (by omega))) (by omega) (Nat.lt_of_lt_of_le HTP.out (pw_le (by omega))) (by omega)).mono ?_
                  rintro e w5 ⟨rfl, hz5, hg5⟩
                  have HTQ := Lib.hid (Nat.pow_pos (n := K) (show 0 < 10 by omega))
                  generalize 10 ^ K = P at HTP HTQ HR2 hz5
                  have HT5 := Lib.hid hz5
                  have HX5 := Lib.hid (HX4.out.grown HI4.out hg5 (by omega))
                  have HB5 := Lib.hid (below_grown HB4.out (Nat.le_refl _) hg5 (fun g e => by injection e with e; omega))
                  have hne : wr.heap.size ≠ w2.heap.size := by omega
                  clear hz5 hg5 hb24 hb2a hb3 hb4
                  go_wp2_with fail
                  refine (bigLsh_any wr.heap.size wr.heap.size X 33 1 1 _ HX5.out.isInt HX5.out (Nat.lt_of_lt_of_le HXN.out (pw_le (by omega))) rfl (by omega) (by omega)).mono ?_
                  rintro e w6 ⟨rfl, hz6, hg6⟩
                  have HX6 := Lib.hid (show BigAt w6 wr.heap.size (X * 8589934592) from hz6)
                  have HT6 := Lib.hid (HT5.out.grown HX5.out.isInt hg6 (fun e => hne e.symm))
                  have HB6 := Lib.hid (below_grown HB5.out (Nat.le_refl _) hg6 (fun g e => by injection e with e; omega))
                  have HN6 := Lib.hid (val_bound HXN.out HTP.out)
                  clear hz6 hg6
                  go_wp2_with fail
                  refine (bigAdd_any wr.heap.size wr.heap.size w2.heap.size (X * 8589934592) (P : Int) _ HX6.out.isInt HX6.out HT6.out HN6.out.1 (Nat.lt_of_lt_of_le HTP.out (pw_le (by omega)))).mono ?_
                  rintro e w7 ⟨rfl, hz7, hg7⟩
                  have HX7 := Lib.hid hz7
                  have HT7 := Lib.hid (HT6.out.grown HX6.out.isInt hg7 (fun e => hne e.symm))
                  have HB7 := Lib.hid (below_grown HB6.out (Nat.le_refl _) hg7 (fun g e => by injection e with e; omega))
                  have HI7 := Lib.hid (isInt_new w7)
                  have HX8 := Lib.hid (HX7.out.alloc (.cells #[.bool false, .slice none 0 0] 63))
                  have HT8 := Lib.hid (HT7.out.alloc (.cells #[.bool false, .slice none 0 0] 63))
                  have hs7 := HX7.out.lt
                  have HB8 := Lib.hid (HB7.out.alloc (by have := HB7.out.size; omega) (.cells #[.bool false, .slice none 0 0] 63))
                  clear hz7 hg7
                  go_wp2_with fail
                  refine (bigLsh_any w7.heap.size w2.heap.size (P : Int) 1 0 1 _ HI7.out HT8.out (Nat.lt_of_lt_of_le HTP.out (pw_le (by omega))) rfl (by omega) (by omega)).mono ?_
                  rintro e w9 ⟨rfl, hz9, hg9⟩
                  have HD9 := Lib.hid (show BigAt w9 w7.heap.size (((P * 2 : Nat)) : Int) from hz9)
                  have HX9 := Lib.hid (HX8.out.grown HI7.out hg9 (by omega))
                  have HB9 := Lib.hid (below_grown HB8.out (Nat.le_refl _) hg9 (fun g e => by injection e with e; omega))
                  clear hz9 hg9
                  go_wp2_with fail
                  refine (down_any wr.heap.size w7.heap.size (X * 8589934592 + (P : Int)) ((P * 2 : Nat) : Int) _ HX9.out HD9.out HN6.out.2.1 (by have := HTQ.out; omega) HN6.out.2.2).mono ?_
                  rintro e w10 ⟨p10, rfl, hp10, hz10, hb10⟩
                  obtain ⟨r, hr⟩ : ∃ r, r = (X * 8589934592 + (P : Int)) / ((P * 2 : Nat) : Int) := ⟨_, rfl⟩
                  rw [← hr] at hz10
                  have HR3 := Lib.hid (show readOf l = (if ReadLaw.in64 r then (r, 0) else (0, 3)) by rw [HR2.out, hr])
                  have HRB3 := Lib.hid (show r.natAbs < pw 100 by rw [hr]; exact Nat.lt_of_le_of_lt (natAbs_div _ (by have := HTQ.out; omega)) HN6.out.2.1)
                  have HZ10 := Lib.hid hz10
                  have HB10 := Lib.hid (onward HB9.out (Nat.le_refl _) hb10)
                  clear hz10 hb10 hr
                  go_wp2_with fail
                  refine (isInt64_any p10 r _ HZ10.out HRB3.out).mono ?_
                  rintro e w11 ⟨rfl, rfl⟩
                  cases hin : BigW.in64 r with
                  | false =>
                    have HF := Lib.hid (show readOf l = (0, 3) by rw [HR3.out, show ReadLaw.in64 r = false from hin]; rfl)
                    go_wp2_with fail
                    go_ret2
                    exact ⟨by rw [HF.out]; rfl, HB10.out⟩
                  | true =>
                    have HF := Lib.hid (show readOf l = (r, 0) by rw [HR3.out, show ReadLaw.in64 r = true from hin]; rfl)
                    have HIN := Lib.hid (show -9223372036854775808 ≤ r ∧ r ≤ 9223372036854775807 from of_decide_eq_true hin)
                    go_wp2_with fail
                    refine (bigInt64_any p10 r _ HZ10.out HIN.out).mono ?_
                    rintro e w12 ⟨rfl, rfl⟩
                    go_wp2_with fail
                    go_ret2
                    exact ⟨by rw [HF.out]; rfl, HB10.out⟩
                · have hs1' : (1 : Int) < (m : Int) := by omega
                  have hixa := HIXA.out
                  go_upto_region 22 with fail
                  clear hs1 hs1' hixa hy48
                  generalize b.length = K at HVAL HK HKL
                  have HI0 := Lib.hid (isInt_new wr)
                  have HB0 := Lib.hid ((Below.refl wr.heap.size wr).alloc (Nat.le_refl _) (.cells #[.bool false, .slice none 0 0] 63))
                  have hss := setString_any wr.heap.size ds (wr.alloc (.cells #[.bool false, .slice none 0 0] 63)) HI0.out HALL.out HNE.out (by have := HDL.out; omega)
                  rw [← HSA.out] at hss
                  have HSS := Lib.hid hss
                  clear hss
                  go_wp2_with fail
                  refine HSS.out.mono ?_
                  rintro e w1 ⟨rfl, hz1, hg1⟩
                  have HX1 := Lib.hid hz1
                  have HB1 := Lib.hid (below_grown HB0.out (Nat.le_refl _) hg1 (fun g e => by injection e with e; omega))
                  clear hz1 hg1 HSS
                  have hix := HIX.out
                  go_upto_region 25 with (refine (bigNeg_any wr.heap.size wr.heap.size (num ds : Int) _ HX1.out.isInt HX1.out (Nat.lt_of_lt_of_le HNB.out (pw_le (by omega)))).mono ?_; rintro e w2 ⟨rfl, hz2, hg2⟩)
                  have HX2 := Lib.hid hz2
                  have HB2 := Lib.hid (below_grown HB1.out (Nat.le_refl _) hg2 (fun g e => by injection e with e; omega))
                  clear hz2 hg2 hix
                  obtain ⟨X, hX⟩ : ∃ X : Int, X = (if true then -(num ds : Int) else (num ds : Int)) := ⟨_, rfl⟩
                  have HXE := Lib.hid (show BigAt w2 wr.heap.size X by rw [hX]; exact HX2.out)
                  have HXN := Lib.hid (show X.natAbs < pw 50 by rw [hX]; have h := HNB.out; simp only [Bool.false_eq_true, if_false, if_true]; omega)
                  have HR2 := Lib.hid (show readOf l = (let r := (X * 8589934592 + ((10 ^ K : Nat) : Int)) / ((10 ^ K * 2 : Nat) : Int); if ReadLaw.in64 r then (r, 0) else (0, 3)) by rw [HVAL.out, hX]; rfl)
                  clear hX HX2
                  have HI2 := Lib.hid (isInt_new w2)
                  have hb2a : Below w2.heap.size w2 (w2.alloc (.cells #[.bool false, .slice none 0 0] 63)) := (Below.refl _ _).alloc (Nat.le_refl _) _
                  have hs2 := HXE.out.lt
                  have hkl := HKL.out
                  have hzk : (SA.size : Int) - (m : Int) = (K : Int) := by have h1 := HK.out; have h2 := HZA.out; omega
                  go_wp2_with fail
                  refine (newInt_any 10 _ (by omega)).mono ?_
                  rintro e w3 ⟨p3, rfl, hp3, hz3, hb3⟩
                  have HZ3 := Lib.hid hz3
                  clear hz3
                  go_wp2_with fail
                  refine (newInt_any (K : Int) _ (by omega)).mono ?_
                  rintro e w4 ⟨p4, rfl, hp4, hz4, hb4⟩
                  have HZ4 := Lib.hid hz4
                  have HZ34 := Lib.hid (HZ3.out.below hb4)
                  have hb24 : Below w2.heap.size w2 w4 := onward (onward hb2a (Nat.le_refl _) hb3) (Nat.le_refl _) hb4
                  have HI4 := Lib.hid ((HI2.out.below hb3 HI2.out.lt).below hb4 (by have := hb3.size; have := HI2.out.lt; omega))
                  have HX4 := Lib.hid (HXE.out.below hb24)
                  have HB4 := Lib.hid (onward HB2.out (Nat.le_refl _) hb24)
                  have HTP := Lib.hid (ten_pow_pw (k := K) (by omega))
                  clear hz4 hzk
                  go_wp2_with fail
                  refine (bigExp_any w2.heap.size p3 p4 10 K _ HI4.out HZ34.out HZ4.out (Nat.lt_of_lt_of_le (show 10 < pw 1 by unfold pw; omega) (pw_le (by omega))) (by omega) (Nat.lt_of_lt_of_le HTP.out (pw_le (by omega))) (by omega)).mono ?_
                  rintro e w5 ⟨rfl, hz5, hg5⟩
                  have HTQ := Lib.hid (Nat.pow_pos (n := K) (show 0 < 10 by omega))
                  generalize 10 ^ K = P at HTP HTQ HR2 hz5
                  have HT5 := Lib.hid hz5
                  have HX5 := Lib.hid (HX4.out.grown HI4.out hg5 (by omega))
                  have HB5 := Lib.hid (below_grown HB4.out (Nat.le_refl _) hg5 (fun g e => by injection e with e; omega))
                  have hne : wr.heap.size ≠ w2.heap.size := by omega
                  clear hz5 hg5 hb24 hb2a hb3 hb4
                  go_wp2_with fail
                  refine (bigLsh_any wr.heap.size wr.heap.size X 33 1 1 _ HX5.out.isInt HX5.out (Nat.lt_of_lt_of_le HXN.out (pw_le (by omega))) rfl (by omega) (by omega)).mono ?_
                  rintro e w6 ⟨rfl, hz6, hg6⟩
                  have HX6 := Lib.hid (show BigAt w6 wr.heap.size (X * 8589934592) from hz6)
                  have HT6 := Lib.hid (HT5.out.grown HX5.out.isInt hg6 (fun e => hne e.symm))
                  have HB6 := Lib.hid (below_grown HB5.out (Nat.le_refl _) hg6 (fun g e => by injection e with e; omega))
                  have HN6 := Lib.hid (val_bound HXN.out HTP.out)
                  clear hz6 hg6
                  go_wp2_with fail
                  refine (bigAdd_any wr.heap.size wr.heap.size w2.heap.size (X * 8589934592) (P : Int) _ HX6.out.isInt HX6.out HT6.out HN6.out.1 (Nat.lt_of_lt_of_le HTP.out (pw_le (by omega)))).mono ?_
                  rintro e w7 ⟨rfl, hz7, hg7⟩
                  have HX7 := Lib.hid hz7
                  have HT7 := Lib.hid (HT6.out.grown HX6.out.isInt hg7 (fun e => hne e.symm))
                  have HB7 := Lib.hid (below_grown HB6.out (Nat.le_refl _) hg7 (fun g e => by injection e with e; omega))
                  have HI7 := Lib.hid (isInt_new w7)
                  have HX8 := Lib.hid (HX7.out.alloc (.cells #[.bool false, .slice none 0 0] 63))
                  have HT8 := Lib.hid (HT7.out.alloc (.cells #[.bool false, .slice none 0 0] 63))
                  have hs7 := HX7.out.lt
                  have HB8 := Lib.hid (HB7.out.alloc (by have := HB7.out.size; omega) (.cells #[.bool false, .slice none 0 0] 63))
                  clear hz7 hg7
                  go_wp2_with fail
                  refine (bigLsh_any w7.heap.size w2.heap.size (P : Int) 1 0 1 _ HI7.out HT8.out (Nat.lt_of_lt_of_le HTP.out (pw_le (by omega))) rfl (by omega) (by omega)).mono ?_
                  rintro e w9 ⟨rfl, hz9, hg9⟩
                  have HD9 := Lib.hid (show BigAt w9 w7.heap.size (((P * 2 : Nat)) : Int) from hz9)
                  have HX9 := Lib.hid (HX8.out.grown HI7.out hg9 (by omega))
                  have HB9 := Lib.hid (below_grown HB8.out (Nat.le_refl _) hg9 (fun g e => by injection e with e; omega))
                  clear hz9 hg9
                  go_wp2_with fail
                  refine (down_any wr.heap.size w7.heap.size (X * 8589934592 + (P : Int)) ((P * 2 : Nat) : Int) _ HX9.out HD9.out HN6.out.2.1 (by have := HTQ.out; omega) HN6.out.2.2).mono ?_
                  rintro e w10 ⟨p10, rfl, hp10, hz10, hb10⟩
                  obtain ⟨r, hr⟩ : ∃ r, r = (X * 8589934592 + (P : Int)) / ((P * 2 : Nat) : Int) := ⟨_, rfl⟩
                  rw [← hr] at hz10
                  have HR3 := Lib.hid (show readOf l = (if ReadLaw.in64 r then (r, 0) else (0, 3)) by rw [HR2.out, hr])
                  have HRB3 := Lib.hid (show r.natAbs < pw 100 by rw [hr]; exact Nat.lt_of_le_of_lt (natAbs_div _ (by have := HTQ.out; omega)) HN6.out.2.1)
                  have HZ10 := Lib.hid hz10
                  have HB10 := Lib.hid (onward HB9.out (Nat.le_refl _) hb10)
                  clear hz10 hb10 hr
                  go_wp2_with fail
                  refine (isInt64_any p10 r _ HZ10.out HRB3.out).mono ?_
                  rintro e w11 ⟨rfl, rfl⟩
                  cases hin : BigW.in64 r with
                  | false =>
                    have HF := Lib.hid (show readOf l = (0, 3) by rw [HR3.out, show ReadLaw.in64 r = false from hin]; rfl)
                    go_wp2_with fail
                    go_ret2
                    exact ⟨by rw [HF.out]; rfl, HB10.out⟩
                  | true =>
                    have HF := Lib.hid (show readOf l = (r, 0) by rw [HR3.out, show ReadLaw.in64 r = true from hin]; rfl)
                    have HIN := Lib.hid (show -9223372036854775808 ≤ r ∧ r ≤ 9223372036854775807 from of_decide_eq_true hin)
                    go_wp2_with fail
                    refine (bigInt64_any p10 r _ HZ10.out HIN.out).mono ?_
                    rintro e w12 ⟨rfl, rfl⟩
                    go_wp2_with fail
                    go_ret2
                    exact ⟨by rw [HF.out]; rfl, HB10.out⟩
    · have HRB := Lib.hid (show readOf l = bodyOf false l by rw [HR.out, if_neg hneg]; simp only [Bool.not_eq_true] at hneg; rw [hneg])
      have HTL := HL
      have HTN := HN
      obtain ⟨x0, hx⟩ : ∃ x0, l.getD 0 0 = x0 := ⟨_, rfl⟩
      have hx45 : ¬ x0 = 45 := fun e => hneg (by unfold negOf; rw [hx, e]; rfl)
      have hx45' : ((x0 : Int) == 45) = false := by rw [beq_eq_false_iff_ne]; omega
      have HX45 := Lib.hid hx45'
      by_cases hlp : 0 < l.length
      · have hix : ∀ w, (Instr.index 9 (.string S) (.int .i64 0)).run Try.prog w = .ok (.int .u8 (x0 : Int)) w := index00_strB HS.out HL.out hlp hx
        have HIX := Lib.hid hix
        have hs0 : 0 < S.size := by rw [HZ.out]; exact hlp
        have HS0 := Lib.hid hs0
        clear hneg hx45 hlp hx
        go_enter Try.func24, Try.ntmps24
        go_upto_region 6 with fail
        clear hix hx45' hs0
        have HT := HS
        obtain ⟨T, hT⟩ : ∃ T, T = strB l := ⟨_, rfl⟩
        have hTz : T.size = l.length := by rw [hT, strB_size]
        rw [show S = T from HS.out.trans hT.symm]
        have HTS := Lib.hid hT
        have HTZ := Lib.hid hTz
        obtain ⟨n, hn⟩ : ∃ n, n = l.length := ⟨_, rfl⟩
        have HNT := Lib.hid hn
        have hn60 : n ≤ 60 := by have := HTN.out; omega
        clear hT hn hTz
        go_upto_region 8 with fail
        go_loopw [5, 6, 7] (fun al pt i wr => ∃ (k : Nat) (ds : List Nat) (p : Int), k ≤ n ∧ i = .int .i64 (k : Int) ∧ al = .string (strB ds) ∧ pt = .int .i64 p ∧ RdAt l k ds p ∧ ds.length ≤ k ∧ wr = w) (fun _ _ i _ => n - (intOf i).toNat)
        case atStart => exact ⟨0, [], -1, by omega, rfl, rfl, rfl, RdAt.zero l, Nat.le_refl _, rfl⟩
        case round =>
          obtain ⟨k, ds, p, hk, rfl, rfl, rfl, hrd, hal, rfl⟩ := hrel
          have HRD := Lib.hid hrd
          clear hrd
          obtain ⟨SA, hSA⟩ : ∃ SA, SA = strB ds := ⟨_, rfl⟩
          have hza : SA.size = ds.length := by rw [hSA, strB_size]
          rw [← hSA]
          have HSA := Lib.hid hSA
          have HZA := Lib.hid hza
          clear hSA
          by_cases hlt : k < n
          · have hkl : k < l.length := by rw [← HNT.out]; exact hlt
            have hks : k < T.size := by rw [HTZ.out]; exact hkl
            obtain ⟨x, hx⟩ : ∃ x, l.getD k 0 = x := ⟨_, rfl⟩
            have hxm : x ∈ l := by rw [← hx, List.getD_eq_getElem?_getD, List.getElem?_eq_getElem hkl]; exact List.getElem_mem hkl
            have hx256 := HTL.out x hxm
            have hixk : ∀ w, (Instr.index 9 (.string T) (.int .i64 (k : Int))).run Try.prog w = .ok (.int .u8 (x : Int)) w := index_strB HTS.out HTL.out hkl hx rfl
            have HX := Lib.hid hx
            have HXM := Lib.hid hxm
            have HKL := Lib.hid hkl
            clear hx hxm hkl hza
            go_wp2_with fail
            refine (digit_any x wr hx256).mono ?_
            rintro e w' ⟨rfl, rfl⟩
            by_cases hd : dg x = true
            · have HNX := Lib.hid (HRD.out.digit HKL.out HX.out hd)
              have HEX := Lib.hid (show SA ++ T.extract k (k + 1) = strB (ds ++ [x]) by
                rw [HSA.out, HTS.out, strB_extract, ← strB_append]
                congr 2
                have h := HX.out
                have h2 := HKL.out
                rw [List.getD_eq_getElem?_getD, List.getElem?_eq_getElem h2] at h
                rw [List.drop_eq_getElem_cons h2, show k + 1 - k = 1 by omega]
                exact congrArg (fun y => [y]) h)
              have hsz1 : (T.extract k (k + 1)).size ≤ 1 := by rw [ByteArray.size_extract]; omega
              have hza2 : SA.size ≤ 60 := by rw [HZA.out]; omega
              have hk2 : k + 1 ≤ T.size := by have := HTZ.out; have := HNT.out; omega
              rw [hd]
              clear hd hixk
              go_wp2_with fail
              exact ⟨⟨k + 1, ds ++ [x], p, by omega, by go_num, by rw [HEX.out], rfl, HNX.out, by simp; omega, trivial⟩, by simp [intOf]; omega⟩
            · rw [Bool.not_eq_true] at hd
              have HD := Lib.hid hd
              rw [hd]
              by_cases h46 : x = 46
              · have hx46 : ((x : Int) == 46) = true := by rw [beq_iff_eq]; omega
                have HX46 := Lib.hid (HX.out.trans h46)
                by_cases hp : p < 0
                · by_cases hk0 : 0 < k
                  · by_cases hk1 : k + 1 < n
                    · have HNX := Lib.hid (HRD.out.point (by rw [← HNT.out]; exact hk1) HX46.out hp hk0)
                      have hk2' : (k : Int) + 1 < (T.size : Int) := by have := HTZ.out; have := HNT.out; omega
                      have hk0' : (0 : Int) < (k : Int) := by omega
                      have hk2 : k + 1 < T.size := by have := HTZ.out; have := HNT.out; omega
                      clear hd h46
                      go_wp2_with fail
                      exact ⟨⟨k + 1, ds, (k : Int), by omega, by go_num, by rw [HSA.out], rfl, HNX.out, by omega, trivial⟩, by simp [intOf]; omega⟩
                    · have HF := Lib.hid (HRD.out.edge (neg := false) HKL.out HX46.out hp (.inr (by rw [← HNT.out]; omega)))
                      have hk0' : (0 : Int) < (k : Int) := by omega
                      have hk2 : ¬ k + 1 < T.size := by have := HTZ.out; have := HNT.out; omega
                      have hk2' : ¬ (k : Int) + 1 < (T.size : Int) := by have := HTZ.out; have := HNT.out; omega
                      clear hd h46
                      go_wp2_with fail
                      all_goals
                        go_ret2
                        exact ⟨by rw [HRB.out, HF.out]; rfl, Below.refl _ _⟩
                  · have HF := Lib.hid (HRD.out.edge (neg := false) HKL.out HX46.out hp (.inl (by omega)))
                    have hk0' : ¬ (0 : Int) < (k : Int) := by omega
                    clear hd h46
                    go_wp2_with fail
                    all_goals
                      go_ret2
                      exact ⟨by rw [HRB.out, HF.out]; rfl, Below.refl _ _⟩
                · have HF := Lib.hid (HRD.out.again (neg := false) HKL.out HX46.out (by omega))
                  clear hd h46
                  go_wp2_with fail
                  all_goals
                    go_ret2
                    exact ⟨by rw [HRB.out, HF.out]; rfl, Below.refl _ _⟩
              · have hx46 : ((x : Int) == 46) = false := by rw [beq_eq_false_iff_ne]; omega
                have HF := Lib.hid (body_bad (neg := false) HXM.out (by rw [HD.out]; decide) h46)
                clear hd h46
                go_wp2_with fail
                all_goals
                  go_ret2
                  exact ⟨by rw [HRB.out, HF.out]; rfl, Below.refl _ _⟩
          · have e : k = n := by omega
            have hge : ¬ k < T.size := by have := HTZ.out; have := HNT.out; omega
            have HEND := Lib.hid (show (l = [] ∧ ds = []) ∨ _ from RdAt.end_ (by have h := HRD.out; rwa [e, HNT.out] at h))
            have hpt := HRD.out.cases_pt
            clear hlt e
            have HSE := Lib.hid (show SA.toList.isEmpty = decide (ds = []) by rw [HSA.out, strB_empty])
            rcases HEND.out with ⟨ht0, hd0⟩ | ⟨a, b, hcut, hds, ha, hall, hdl, hah⟩
            · have he : SA.toList.isEmpty = true := by rw [HSE.out, decide_eq_true hd0]
              have HF := Lib.hid (show readOf l = (0, 2) by rw [HRB.out, ht0]; exact body_form (a := []) (b := []) (ok := false) rfl (.inl rfl))
              clear ht0 hd0 hza
              go_wp2_with fail
              go_ret2
              exact ⟨by rw [HF.out]; rfl, Below.refl _ _⟩
            · have he : SA.toList.isEmpty = false := by rw [HSE.out, decide_eq_false (fun h => by rw [h] at hds; exact ha (List.append_eq_nil_iff.1 hds.symm).1)]
              obtain ⟨m, hm⟩ : ∃ m, m = a.length := ⟨_, rfl⟩
              rw [← hm] at hah
              have HCUT := Lib.hid hcut
              have HDS := Lib.hid hds
              have HALL := Lib.hid hall
              have HDL := Lib.hid (show ds.length ≤ 60 by have := HTN.out; omega)
              have HM := Lib.hid hm
              have hml : m ≤ 60 := by
                have h1 := congrArg List.length hds
                rw [List.length_append] at h1
                have := HDL.out
                omega
              have hapos : 0 < a.length := List.length_pos_iff.2 ha
              have hdpos : 0 < ds.length := by rw [hds, List.length_append]; omega
              obtain ⟨y, hy⟩ : ∃ y, ds.getD 0 0 = y := ⟨_, rfl⟩
              have hy2 : a.getD 0 0 = y := by
                rw [← hy, hds, List.getD_eq_getElem?_getD, List.getD_eq_getElem?_getD, List.getElem?_append_left hapos]
              have HY := Lib.hid hy2
              have hixa : ∀ w, (Instr.index 9 (.string SA) (.int .i64 0)).run Try.prog w = .ok (.int .u8 (y : Int)) w := index00_strB HSA.out (dg_256 hall) hdpos hy
              have HIXA := Lib.hid hixa
              clear hcut hds hall hm ha hapos hdpos hy hy2 hixa hdl hza
              rcases hpt with hp1 | hp1
              · have hp0 : ¬ (0 : Int) ≤ p := by omega
                have hah2 : (SA.size : Int) = (m : Int) := by have h := hah; rw [if_neg hp0] at h; have := HZA.out; omega
                have HAH := Lib.hid hah2
                clear hah hah2 hp1
                go_upto_region 20 with fail
                rw [HAH.out]
                have HNL0 := Lib.hid (show ∀ neg, 1 < m ∧ y = 48 → bodyOf neg l = (0, 2) from fun neg h => body_form HCUT.out (.inr ⟨by rw [← HM.out]; exact h.1, by rw [HY.out]; exact h.2⟩))
                by_cases hlead : 1 < m ∧ y = 48
                · have hm1 : 1 < m := hlead.1
                  have hm1' : (1 : Int) < (m : Int) := by omega
                  have hy48 : ((y : Int) == 48) = true := by rw [beq_iff_eq]; omega
                  have hixa := HIXA.out
                  have HF := Lib.hid (HNL0.out false hlead)
                  clear hlead
                  go_wp2_with fail
                  go_ret2
                  exact ⟨by rw [HRB.out, HF.out]; rfl, Below.refl _ _⟩
                · have HNL := Lib.hid (show ¬ (1 < a.length ∧ a.getD 0 0 = 48) by rw [← HM.out, HY.out]; exact hlead)
                  have HVAL := Lib.hid (show readOf l = ReadLaw.valOf false (num ds) b.length by rw [HRB.out, body_val HCUT.out HNL.out, HDS.out, num_append])
                  have HK := Lib.hid (show (ds.length : Int) - (m : Int) = (b.length : Int) by rw [HDS.out, List.length_append, HM.out]; omega)
                  have HKL := Lib.hid (show b.length ≤ 60 by have h1 := congrArg List.length HDS.out; rw [List.length_append] at h1; have := HDL.out; omega)
                  have HNE := Lib.hid (show ds ≠ [] from fun h => by have := HDS.out; rw [h] at this; have h2 := (List.append_eq_nil_iff.1 this.symm).1; have := (cut_ok HCUT.out).1; exact this h2)
                  have HNB := Lib.hid (show num ds < pw 50 from Nat.lt_of_lt_of_le (num_lt HALL.out) (Nat.le_of_lt (ten_pow_pw (by have := HDL.out; omega))))
                  have hgo : (¬ 1 < m) ∨ (1 < m ∧ ((y : Int) == 48) = false) := by
                    by_cases h1 : 1 < m
                    · right; exact ⟨h1, by rw [beq_eq_false_iff_ne]; intro e; exact hlead ⟨h1, by omega⟩⟩
                    · left; exact h1
                  clear hlead
                  rcases hgo with hs1 | ⟨hs1, hy48⟩
                  · have hs1' : ¬ (1 : Int) < (m : Int) := by omega
                    go_upto_region 22 with fail
                    clear hs1 hs1'
                    generalize b.length = K at HVAL HK HKL
                    have HI0 := Lib.hid (isInt_new wr)
                    have HB0 := Lib.hid ((Below.refl wr.heap.size wr).alloc (Nat.le_refl _) (.cells #[.bool false, .slice none 0 0] 63))
                    have hss := setString_any wr.heap.size ds (wr.alloc (.cells #[.bool false, .slice none 0 0] 63)) HI0.out HALL.out HNE.out (by have := HDL.out; omega)
                    rw [← HSA.out] at hss
                    have HSS := Lib.hid hss
                    clear hss
                    go_wp2_with fail
                    refine HSS.out.mono ?_
                    rintro e w1 ⟨rfl, hz1, hg1⟩
                    have HX1 := Lib.hid hz1
                    have HB1 := Lib.hid (below_grown HB0.out (Nat.le_refl _) hg1 (fun g e => by injection e with e; omega))
                    clear hz1 hg1 HSS
                    have hix := HIX.out
                    rw [show S = T from HS.out.trans HTS.out.symm] at hix
                    have hx45 := HX45.out
                    have hs0 : 0 < T.size := by have h := HS0.out; rwa [show S = T from HS.out.trans HTS.out.symm] at h
                    go_upto_region 25 with fail
                    have HX2 := HX1
                    have HB2 := HB1
                    clear hix hx45 hs0
                    generalize w1 = w2 at *
                    obtain ⟨X, hX⟩ : ∃ X : Int, X = (if false then -(num ds : Int) else (num ds : Int)) := ⟨_, rfl⟩
                    have HXE := Lib.hid (show BigAt w2 wr.heap.size X by rw [hX]; exact HX2.out)
                    have HXN := Lib.hid (show X.natAbs < pw 50 by rw [hX]; have h := HNB.out; simp only [Bool.false_eq_true, if_false, if_true]; omega)
                    have HR2 := Lib.hid (show readOf l = (let r := (X * 8589934592 + ((10 ^ K : Nat) : Int)) / ((10 ^ K * 2 : Nat) : Int); if ReadLaw.in64 r then (r, 0) else (0, 3)) by rw [HVAL.out, hX]; rfl)
                    clear hX HX2
                    have HI2 := Lib.hid (isInt_new w2)
                    have hb2a : Below w2.heap.size w2 (w2.alloc (.cells #[.bool false, .slice none 0 0] 63)) := (Below.refl _ _).alloc (Nat.le_refl _) _
                    have hs2 := HXE.out.lt
                    have hkl := HKL.out
                    have hzk : (SA.size : Int) - (m : Int) = (K : Int) := by have h1 := HK.out; have h2 := HZA.out; omega
                    go_wp2_with fail
                    refine (newInt_any 10 _ (by omega)).mono ?_
                    rintro e w3 ⟨p3, rfl, hp3, hz3, hb3⟩
                    have HZ3 := Lib.hid hz3
                    clear hz3
                    go_wp2_with fail
                    refine (newInt_any (K : Int) _ (by omega)).mono ?_
                    rintro e w4 ⟨p4, rfl, hp4, hz4, hb4⟩
                    have HZ4 := Lib.hid hz4
                    have HZ34 := Lib.hid (HZ3.out.below hb4)
                    have hb24 : Below w2.heap.size w2 w4 := onward (onward hb2a (Nat.le_refl _) hb3) (Nat.le_refl _) hb4
                    have HI4 := Lib.hid ((HI2.out.below hb3 HI2.out.lt).below hb4 (by have := hb3.size; have := HI2.out.lt; omega))
                    have HX4 := Lib.hid (HXE.out.below hb24)
                    have HB4 := Lib.hid (onward HB2.out (Nat.le_refl _) hb24)
                    have HTP := Lib.hid (ten_pow_pw (k := K) (by omega))
                    clear hz4 hzk
                    go_wp2_with fail
                    refine (bigExp_any w2.heap.size p3 p4 10 K _ HI4.out HZ34.out HZ4.out (Nat.lt_of_lt_of_le (show 10 < pw 1 by unfold pw; omega) (pw_le (by omega))) (by omega) (Nat.lt_of_lt_of_le HTP.out (pw_le (by omega))) (by omega)).mono ?_
                    rintro e w5 ⟨rfl, hz5, hg5⟩
                    have HTQ := Lib.hid (Nat.pow_pos (n := K) (show 0 < 10 by omega))
                    generalize 10 ^ K = P at HTP HTQ HR2 hz5
                    have HT5 := Lib.hid hz5
                    have HX5 := Lib.hid (HX4.out.grown HI4.out hg5 (by omega))
                    have HB5 := Lib.hid (below_grown HB4.out (Nat.le_refl _) hg5 (fun g e => by injection e with e; omega))
                    have hne : wr.heap.size ≠ w2.heap.size := by omega
                    clear hz5 hg5 hb24 hb2a hb3 hb4
                    go_wp2_with fail
                    refine (bigLsh_any wr.heap.size wr.heap.size X 33 1 1 _ HX5.out.isInt HX5.out (Nat.lt_of_lt_of_le HXN.out (pw_le (by omega))) rfl (by omega) (by omega)).mono ?_
                    rintro e w6 ⟨rfl, hz6, hg6⟩
                    have HX6 := Lib.hid (show BigAt w6 wr.heap.size (X * 8589934592) from hz6)
                    have HT6 := Lib.hid (HT5.out.grown HX5.out.isInt hg6 (fun e => hne e.symm))
                    have HB6 := Lib.hid (below_grown HB5.out (Nat.le_refl _) hg6 (fun g e => by injection e with e; omega))
                    have HN6 := Lib.hid (val_bound HXN.out HTP.out)
                    clear hz6 hg6
                    go_wp2_with fail
                    refine (bigAdd_any wr.heap.size wr.heap.size w2.heap.size (X * 8589934592) (P : Int) _ HX6.out.isInt HX6.out HT6.out HN6.out.1 (Nat.lt_of_lt_of_le HTP.out (pw_le (by omega)))).mono ?_
                    rintro e w7 ⟨rfl, hz7, hg7⟩
                    have HX7 := Lib.hid hz7
                    have HT7 := Lib.hid (HT6.out.grown HX6.out.isInt hg7 (fun e => hne e.symm))
                    have HB7 := Lib.hid (below_grown HB6.out (Nat.le_refl _) hg7 (fun g e => by injection e with e; omega))
                    have HI7 := Lib.hid (isInt_new w7)
                    have HX8 := Lib.hid (HX7.out.alloc (.cells #[.bool false, .slice none 0 0] 63))
                    have HT8 := Lib.hid (HT7.out.alloc (.cells #[.bool false, .slice none 0 0] 63))
                    have hs7 := HX7.out.lt
                    have HB8 := Lib.hid (HB7.out.alloc (by have := HB7.out.size; omega) (.cells #[.bool false, .slice none 0 0] 63))
                    clear hz7 hg7
                    go_wp2_with fail
                    refine (bigLsh_any w7.heap.size w2.heap.size (P : Int) 1 0 1 _ HI7.out HT8.out (Nat.lt_of_lt_of_le HTP.out (pw_le (by omega))) rfl (by omega) (by omega)).mono ?_
                    rintro e w9 ⟨rfl, hz9, hg9⟩
                    have HD9 := Lib.hid (show BigAt w9 w7.heap.size (((P * 2 : Nat)) : Int) from hz9)
                    have HX9 := Lib.hid (HX8.out.grown HI7.out hg9 (by omega))
                    have HB9 := Lib.hid (below_grown HB8.out (Nat.le_refl _) hg9 (fun g e => by injection e with e; omega))
                    clear hz9 hg9
                    go_wp2_with fail
                    refine (down_any wr.heap.size w7.heap.size (X * 8589934592 + (P : Int)) ((P * 2 : Nat) : Int) _ HX9.out HD9.out HN6.out.2.1 (by have := HTQ.out; omega) HN6.out.2.2).mono ?_
                    rintro e w10 ⟨p10, rfl, hp10, hz10, hb10⟩
                    obtain ⟨r, hr⟩ : ∃ r, r = (X * 8589934592 + (P : Int)) / ((P * 2 : Nat) : Int) := ⟨_, rfl⟩
                    rw [← hr] at hz10
                    have HR3 := Lib.hid (show readOf l = (if ReadLaw.in64 r then (r, 0) else (0, 3)) by rw [HR2.out, hr])
                    have HRB3 := Lib.hid (show r.natAbs < pw 100 by rw [hr]; exact Nat.lt_of_le_of_lt (natAbs_div _ (by have := HTQ.out; omega)) HN6.out.2.1)
                    have HZ10 := Lib.hid hz10
                    have HB10 := Lib.hid (onward HB9.out (Nat.le_refl _) hb10)
                    clear hz10 hb10 hr
                    go_wp2_with fail
                    refine (isInt64_any p10 r _ HZ10.out HRB3.out).mono ?_
                    rintro e w11 ⟨rfl, rfl⟩
                    cases hin : BigW.in64 r with
                    | false =>
                      have HF := Lib.hid (show readOf l = (0, 3) by rw [HR3.out, show ReadLaw.in64 r = false from hin]; rfl)
                      go_wp2_with fail
                      go_ret2
                      exact ⟨by rw [HF.out]; rfl, HB10.out⟩
                    | true =>
                      have HF := Lib.hid (show readOf l = (r, 0) by rw [HR3.out, show ReadLaw.in64 r = true from hin]; rfl)
                      have HIN := Lib.hid (show -9223372036854775808 ≤ r ∧ r ≤ 9223372036854775807 from of_decide_eq_true hin)
                      go_wp2_with fail
                      refine (bigInt64_any p10 r _ HZ10.out HIN.out).mono ?_
                      rintro e w12 ⟨rfl, rfl⟩
                      go_wp2_with fail
                      go_ret2
                      exact ⟨by rw [HF.out]; rfl, HB10.out⟩
                  · have hs1' : (1 : Int) < (m : Int) := by omega
                    have hixa := HIXA.out
                    go_upto_region 22 with fail
                    clear hs1 hs1' hixa hy48
                    generalize b.length = K at HVAL HK HKL
                    have HI0 := Lib.hid (isInt_new wr)
                    have HB0 := Lib.hid ((Below.refl wr.heap.size wr).alloc (Nat.le_refl _) (.cells #[.bool false, .slice none 0 0] 63))
                    have hss := setString_any wr.heap.size ds (wr.alloc (.cells #[.bool false, .slice none 0 0] 63)) HI0.out HALL.out HNE.out (by have := HDL.out; omega)
                    rw [← HSA.out] at hss
                    have HSS := Lib.hid hss
                    clear hss
                    go_wp2_with fail
                    refine HSS.out.mono ?_
                    rintro e w1 ⟨rfl, hz1, hg1⟩
                    have HX1 := Lib.hid hz1
                    have HB1 := Lib.hid (below_grown HB0.out (Nat.le_refl _) hg1 (fun g e => by injection e with e; omega))
                    clear hz1 hg1 HSS
                    have hix := HIX.out
                    rw [show S = T from HS.out.trans HTS.out.symm] at hix
                    have hx45 := HX45.out
                    have hs0 : 0 < T.size := by have h := HS0.out; rwa [show S = T from HS.out.trans HTS.out.symm] at h
                    go_upto_region 25 with fail
                    have HX2 := HX1
                    have HB2 := HB1
                    clear hix hx45 hs0
                    generalize w1 = w2 at *
                    obtain ⟨X, hX⟩ : ∃ X : Int, X = (if false then -(num ds : Int) else (num ds : Int)) := ⟨_, rfl⟩
                    have HXE := Lib.hid (show BigAt w2 wr.heap.size X by rw [hX]; exact HX2.out)
                    have HXN := Lib.hid (show X.natAbs < pw 50 by rw [hX]; have h := HNB.out; simp only [Bool.false_eq_true, if_false, if_true]; omega)
                    have HR2 := Lib.hid (show readOf l = (let r := (X * 8589934592 + ((10 ^ K : Nat) : Int)) / ((10 ^ K * 2 : Nat) : Int); if ReadLaw.in64 r then (r, 0) else (0, 3)) by rw [HVAL.out, hX]; rfl)
                    clear hX HX2
                    have HI2 := Lib.hid (isInt_new w2)
                    have hb2a : Below w2.heap.size w2 (w2.alloc (.cells #[.bool false, .slice none 0 0] 63)) := (Below.refl _ _).alloc (Nat.le_refl _) _
                    have hs2 := HXE.out.lt
                    have hkl := HKL.out
                    have hzk : (SA.size : Int) - (m : Int) = (K : Int) := by have h1 := HK.out; have h2 := HZA.out; omega
                    go_wp2_with fail
                    refine (newInt_any 10 _ (by omega)).mono ?_
                    rintro e w3 ⟨p3, rfl, hp3, hz3, hb3⟩
                    have HZ3 := Lib.hid hz3
                    clear hz3
                    go_wp2_with fail
                    refine (newInt_any (K : Int) _ (by omega)).mono ?_
                    rintro e w4 ⟨p4, rfl, hp4, hz4, hb4⟩
                    have HZ4 := Lib.hid hz4
                    have HZ34 := Lib.hid (HZ3.out.below hb4)
                    have hb24 : Below w2.heap.size w2 w4 := onward (onward hb2a (Nat.le_refl _) hb3) (Nat.le_refl _) hb4
                    have HI4 := Lib.hid ((HI2.out.below hb3 HI2.out.lt).below hb4 (by have := hb3.size; have := HI2.out.lt; omega))
                    have HX4 := Lib.hid (HXE.out.below hb24)
                    have HB4 := Lib.hid (onward HB2.out (Nat.le_refl _) hb24)
                    have HTP := Lib.hid (ten_pow_pw (k := K) (by omega))
                    clear hz4 hzk
                    go_wp2_with fail
                    refine (bigExp_any w2.heap.size p3 p4 10 K _ HI4.out HZ34.out HZ4.out (Nat.lt_of_lt_of_le (show 10 < pw 1 by unfold pw; omega) (pw_le (by omega))) (by omega) (Nat.lt_of_lt_of_le HTP.out (pw_le (by omega))) (by omega)).mono ?_
                    rintro e w5 ⟨rfl, hz5, hg5⟩
                    have HTQ := Lib.hid (Nat.pow_pos (n := K) (show 0 < 10 by omega))
                    generalize 10 ^ K = P at HTP HTQ HR2 hz5
                    have HT5 := Lib.hid hz5
                    have HX5 := Lib.hid (HX4.out.grown HI4.out hg5 (by omega))
                    have HB5 := Lib.hid (below_grown HB4.out (Nat.le_refl _) hg5 (fun g e => by injection e with e; omega))
                    have hne : wr.heap.size ≠ w2.heap.size := by omega
                    clear hz5 hg5 hb24 hb2a hb3 hb4
                    go_wp2_with fail
                    refine (bigLsh_any wr.heap.size wr.heap.size X 33 1 1 _ HX5.out.isInt HX5.out (Nat.lt_of_lt_of_le HXN.out (pw_le (by omega))) rfl (by omega) (by omega)).mono ?_
                    rintro e w6 ⟨rfl, hz6, hg6⟩
                    have HX6 := Lib.hid (show BigAt w6 wr.heap.size (X * 8589934592) from hz6)
                    have HT6 := Lib.hid (HT5.out.grown HX5.out.isInt hg6 (fun e => hne e.symm))
                    have HB6 := Lib.hid (below_grown HB5.out (Nat.le_refl _) hg6 (fun g e => by injection e with e; omega))
                    have HN6 := Lib.hid (val_bound HXN.out HTP.out)
                    clear hz6 hg6
                    go_wp2_with fail
                    refine (bigAdd_any wr.heap.size wr.heap.size w2.heap.size (X * 8589934592) (P : Int) _ HX6.out.isInt HX6.out HT6.out HN6.out.1 (Nat.lt_of_lt_of_le HTP.out (pw_le (by omega)))).mono ?_
                    rintro e w7 ⟨rfl, hz7, hg7⟩
                    have HX7 := Lib.hid hz7
                    have HT7 := Lib.hid (HT6.out.grown HX6.out.isInt hg7 (fun e => hne e.symm))
                    have HB7 := Lib.hid (below_grown HB6.out (Nat.le_refl _) hg7 (fun g e => by injection e with e; omega))
                    have HI7 := Lib.hid (isInt_new w7)
                    have HX8 := Lib.hid (HX7.out.alloc (.cells #[.bool false, .slice none 0 0] 63))
                    have HT8 := Lib.hid (HT7.out.alloc (.cells #[.bool false, .slice none 0 0] 63))
                    have hs7 := HX7.out.lt
                    have HB8 := Lib.hid (HB7.out.alloc (by have := HB7.out.size; omega) (.cells #[.bool false, .slice none 0 0] 63))
                    clear hz7 hg7
                    go_wp2_with fail
                    refine (bigLsh_any w7.heap.size w2.heap.size (P : Int) 1 0 1 _ HI7.out HT8.out (Nat.lt_of_lt_of_le HTP.out (pw_le (by omega))) rfl (by omega) (by omega)).mono ?_
                    rintro e w9 ⟨rfl, hz9, hg9⟩
                    have HD9 := Lib.hid (show BigAt w9 w7.heap.size (((P * 2 : Nat)) : Int) from hz9)
                    have HX9 := Lib.hid (HX8.out.grown HI7.out hg9 (by omega))
                    have HB9 := Lib.hid (below_grown HB8.out (Nat.le_refl _) hg9 (fun g e => by injection e with e; omega))
                    clear hz9 hg9
                    go_wp2_with fail
                    refine (down_any wr.heap.size w7.heap.size (X * 8589934592 + (P : Int)) ((P * 2 : Nat) : Int) _ HX9.out HD9.out HN6.out.2.1 (by have := HTQ.out; omega) HN6.out.2.2).mono ?_
                    rintro e w10 ⟨p10, rfl, hp10, hz10, hb10⟩
                    obtain ⟨r, hr⟩ : ∃ r, r = (X * 8589934592 + (P : Int)) / ((P * 2 : Nat) : Int) := ⟨_, rfl⟩
                    rw [← hr] at hz10
                    have HR3 := Lib.hid (show readOf l = (if ReadLaw.in64 r then (r, 0) else (0, 3)) by rw [HR2.out, hr])
                    have HRB3 := Lib.hid (show r.natAbs < pw 100 by rw [hr]; exact Nat.lt_of_le_of_lt (natAbs_div _ (by have := HTQ.out; omega)) HN6.out.2.1)
                    have HZ10 := Lib.hid hz10
                    have HB10 := Lib.hid (onward HB9.out (Nat.le_refl _) hb10)
                    clear hz10 hb10 hr
                    go_wp2_with fail
                    refine (isInt64_any p10 r _ HZ10.out HRB3.out).mono ?_
                    rintro e w11 ⟨rfl, rfl⟩
                    cases hin : BigW.in64 r with
                    | false =>
                      have HF := Lib.hid (show readOf l = (0, 3) by rw [HR3.out, show ReadLaw.in64 r = false from hin]; rfl)
                      go_wp2_with fail
                      go_ret2
                      exact ⟨by rw [HF.out]; rfl, HB10.out⟩
                    | true =>
                      have HF := Lib.hid (show readOf l = (r, 0) by rw [HR3.out, show ReadLaw.in64 r = true from hin]; rfl)
                      have HIN := Lib.hid (show -9223372036854775808 ≤ r ∧ r ≤ 9223372036854775807 from of_decide_eq_true hin)
                      go_wp2_with fail
                      refine (bigInt64_any p10 r _ HZ10.out HIN.out).mono ?_
                      rintro e w12 ⟨rfl, rfl⟩
                      go_wp2_with fail
                      go_ret2
                      exact ⟨by rw [HF.out]; rfl, HB10.out⟩
              · have hah2 : p = (m : Int) := by have h := hah; rw [if_pos hp1] at h; exact h
                have HAH := Lib.hid hah2
                clear hah hah2
                go_upto_region 20 with fail
                rw [HAH.out]
                have HNL0 := Lib.hid (show ∀ neg, 1 < m ∧ y = 48 → bodyOf neg l = (0, 2) from fun neg h => body_form HCUT.out (.inr ⟨by rw [← HM.out]; exact h.1, by rw [HY.out]; exact h.2⟩))
                by_cases hlead : 1 < m ∧ y = 48
                · have hm1 : 1 < m := hlead.1
                  have hm1' : (1 : Int) < (m : Int) := by omega
                  have hy48 : ((y : Int) == 48) = true := by rw [beq_iff_eq]; omega
                  have hixa := HIXA.out
                  have HF := Lib.hid (HNL0.out false hlead)
                  clear hlead
                  go_wp2_with fail
                  go_ret2
                  exact ⟨by rw [HRB.out, HF.out]; rfl, Below.refl _ _⟩
                · have HNL := Lib.hid (show ¬ (1 < a.length ∧ a.getD 0 0 = 48) by rw [← HM.out, HY.out]; exact hlead)
                  have HVAL := Lib.hid (show readOf l = ReadLaw.valOf false (num ds) b.length by rw [HRB.out, body_val HCUT.out HNL.out, HDS.out, num_append])
                  have HK := Lib.hid (show (ds.length : Int) - (m : Int) = (b.length : Int) by rw [HDS.out, List.length_append, HM.out]; omega)
                  have HKL := Lib.hid (show b.length ≤ 60 by have h1 := congrArg List.length HDS.out; rw [List.length_append] at h1; have := HDL.out; omega)
                  have HNE := Lib.hid (show ds ≠ [] from fun h => by have := HDS.out; rw [h] at this; have h2 := (List.append_eq_nil_iff.1 this.symm).1; have := (cut_ok HCUT.out).1; exact this h2)
                  have HNB := Lib.hid (show num ds < pw 50 from Nat.lt_of_lt_of_le (num_lt HALL.out) (Nat.le_of_lt (ten_pow_pw (by have := HDL.out; omega))))
                  have hgo : (¬ 1 < m) ∨ (1 < m ∧ ((y : Int) == 48) = false) := by
                    by_cases h1 : 1 < m
                    · right; exact ⟨h1, by rw [beq_eq_false_iff_ne]; intro e; exact hlead ⟨h1, by omega⟩⟩
                    · left; exact h1
                  clear hlead
                  rcases hgo with hs1 | ⟨hs1, hy48⟩
                  · have hs1' : ¬ (1 : Int) < (m : Int) := by omega
                    go_upto_region 22 with fail
                    clear hs1 hs1'
                    generalize b.length = K at HVAL HK HKL
                    have HI0 := Lib.hid (isInt_new wr)
                    have HB0 := Lib.hid ((Below.refl wr.heap.size wr).alloc (Nat.le_refl _) (.cells #[.bool false, .slice none 0 0] 63))
                    have hss := setString_any wr.heap.size ds (wr.alloc (.cells #[.bool false, .slice none 0 0] 63)) HI0.out HALL.out HNE.out (by have := HDL.out; omega)
                    rw [← HSA.out] at hss
                    have HSS := Lib.hid hss
                    clear hss
                    go_wp2_with fail
                    refine HSS.out.mono ?_
                    rintro e w1 ⟨rfl, hz1, hg1⟩
                    have HX1 := Lib.hid hz1
                    have HB1 := Lib.hid (below_grown HB0.out (Nat.le_refl _) hg1 (fun g e => by injection e with e; omega))
                    clear hz1 hg1 HSS
                    have hix := HIX.out
                    rw [show S = T from HS.out.trans HTS.out.symm] at hix
                    have hx45 := HX45.out
                    have hs0 : 0 < T.size := by have h := HS0.out; rwa [show S = T from HS.out.trans HTS.out.symm] at h
                    go_upto_region 25 with fail
                    have HX2 := HX1
                    have HB2 := HB1
                    clear hix hx45 hs0
                    generalize w1 = w2 at *
                    obtain ⟨X, hX⟩ : ∃ X : Int, X = (if false then -(num ds : Int) else (num ds : Int)) := ⟨_, rfl⟩
                    have HXE := Lib.hid (show BigAt w2 wr.heap.size X by rw [hX]; exact HX2.out)
                    have HXN := Lib.hid (show X.natAbs < pw 50 by rw [hX]; have h := HNB.out; simp only [Bool.false_eq_true, if_false, if_true]; omega)
                    have HR2 := Lib.hid (show readOf l = (let r := (X * 8589934592 + ((10 ^ K : Nat) : Int)) / ((10 ^ K * 2 : Nat) : Int); if ReadLaw.in64 r then (r, 0) else (0, 3)) by rw [HVAL.out, hX]; rfl)
                    clear hX HX2
                    have HI2 := Lib.hid (isInt_new w2)
                    have hb2a : Below w2.heap.size w2 (w2.alloc (.cells #[.bool false, .slice none 0 0] 63)) := (Below.refl _ _).alloc (Nat.le_refl _) _
                    have hs2 := HXE.out.lt
                    have hkl := HKL.out
                    have hzk : (SA.size : Int) - (m : Int) = (K : Int) := by have h1 := HK.out; have h2 := HZA.out; omega
                    go_wp2_with fail
                    refine (newInt_any 10 _ (by omega)).mono ?_
                    rintro e w3 ⟨p3, rfl, hp3, hz3, hb3⟩
                    have HZ3 := Lib.hid hz3
                    clear hz3
                    go_wp2_with fail
                    refine (newInt_any (K : Int) _ (by omega)).mono ?_
                    rintro e w4 ⟨p4, rfl, hp4, hz4, hb4⟩
                    have HZ4 := Lib.hid hz4
                    have HZ34 := Lib.hid (HZ3.out.below hb4)
                    have hb24 : Below w2.heap.size w2 w4 := onward (onward hb2a (Nat.le_refl _) hb3) (Nat.le_refl _) hb4
                    have HI4 := Lib.hid ((HI2.out.below hb3 HI2.out.lt).below hb4 (by have := hb3.size; have := HI2.out.lt; omega))
                    have HX4 := Lib.hid (HXE.out.below hb24)
                    have HB4 := Lib.hid (onward HB2.out (Nat.le_refl _) hb24)
                    have HTP := Lib.hid (ten_pow_pw (k := K) (by omega))
                    clear hz4 hzk
                    go_wp2_with fail
                    refine (bigExp_any w2.heap.size p3 p4 10 K _ HI4.out HZ34.out HZ4.out (Nat.lt_of_lt_of_le (show 10 < pw 1 by unfold pw; omega) (pw_le (by omega))) (by omega) (Nat.lt_of_lt_of_le HTP.out (pw_le (by omega))) (by omega)).mono ?_
                    rintro e w5 ⟨rfl, hz5, hg5⟩
                    have HTQ := Lib.hid (Nat.pow_pos (n := K) (show 0 < 10 by omega))
                    generalize 10 ^ K = P at HTP HTQ HR2 hz5
                    have HT5 := Lib.hid hz5
                    have HX5 := Lib.hid (HX4.out.grown HI4.out hg5 (by omega))
                    have HB5 := Lib.hid (below_grown HB4.out (Nat.le_refl _) hg5 (fun g e => by injection e with e; omega))
                    have hne : wr.heap.size ≠ w2.heap.size := by omega
                    clear hz5 hg5 hb24 hb2a hb3 hb4
                    go_wp2_with fail
                    refine (bigLsh_any wr.heap.size wr.heap.size X 33 1 1 _ HX5.out.isInt HX5.out (Nat.lt_of_lt_of_le HXN.out (pw_le (by omega))) rfl (by omega) (by omega)).mono ?_
                    rintro e w6 ⟨rfl, hz6, hg6⟩
                    have HX6 := Lib.hid (show BigAt w6 wr.heap.size (X * 8589934592) from hz6)
                    have HT6 := Lib.hid (HT5.out.grown HX5.out.isInt hg6 (fun e => hne e.symm))
                    have HB6 := Lib.hid (below_grown HB5.out (Nat.le_refl _) hg6 (fun g e => by injection e with e; omega))
                    have HN6 := Lib.hid (val_bound HXN.out HTP.out)
                    clear hz6 hg6
                    go_wp2_with fail
                    refine (bigAdd_any wr.heap.size wr.heap.size w2.heap.size (X * 8589934592) (P : Int) _ HX6.out.isInt HX6.out HT6.out HN6.out.1 (Nat.lt_of_lt_of_le HTP.out (pw_le (by omega)))).mono ?_
                    rintro e w7 ⟨rfl, hz7, hg7⟩
                    have HX7 := Lib.hid hz7
                    have HT7 := Lib.hid (HT6.out.grown HX6.out.isInt hg7 (fun e => hne e.symm))
                    have HB7 := Lib.hid (below_grown HB6.out (Nat.le_refl _) hg7 (fun g e => by injection e with e; omega))
                    have HI7 := Lib.hid (isInt_new w7)
                    have HX8 := Lib.hid (HX7.out.alloc (.cells #[.bool false, .slice none 0 0] 63))
                    have HT8 := Lib.hid (HT7.out.alloc (.cells #[.bool false, .slice none 0 0] 63))
                    have hs7 := HX7.out.lt
                    have HB8 := Lib.hid (HB7.out.alloc (by have := HB7.out.size; omega) (.cells #[.bool false, .slice none 0 0] 63))
                    clear hz7 hg7
                    go_wp2_with fail
                    refine (bigLsh_any w7.heap.size w2.heap.size (P : Int) 1 0 1 _ HI7.out HT8.out (Nat.lt_of_lt_of_le HTP.out (pw_le (by omega))) rfl (by omega) (by omega)).mono ?_
                    rintro e w9 ⟨rfl, hz9, hg9⟩
                    have HD9 := Lib.hid (show BigAt w9 w7.heap.size (((P * 2 : Nat)) : Int) from hz9)
                    have HX9 := Lib.hid (HX8.out.grown HI7.out hg9 (by omega))
                    have HB9 := Lib.hid (below_grown HB8.out (Nat.le_refl _) hg9 (fun g e => by injection e with e; omega))
                    clear hz9 hg9
                    go_wp2_with fail
                    refine (down_any wr.heap.size w7.heap.size (X * 8589934592 + (P : Int)) ((P * 2 : Nat) : Int) _ HX9.out HD9.out HN6.out.2.1 (by have := HTQ.out; omega) HN6.out.2.2).mono ?_
                    rintro e w10 ⟨p10, rfl, hp10, hz10, hb10⟩
                    obtain ⟨r, hr⟩ : ∃ r, r = (X * 8589934592 + (P : Int)) / ((P * 2 : Nat) : Int) := ⟨_, rfl⟩
                    rw [← hr] at hz10
                    have HR3 := Lib.hid (show readOf l = (if ReadLaw.in64 r then (r, 0) else (0, 3)) by rw [HR2.out, hr])
                    have HRB3 := Lib.hid (show r.natAbs < pw 100 by rw [hr]; exact Nat.lt_of_le_of_lt (natAbs_div _ (by have := HTQ.out; omega)) HN6.out.2.1)
                    have HZ10 := Lib.hid hz10
                    have HB10 := Lib.hid (onward HB9.out (Nat.le_refl _) hb10)
                    clear hz10 hb10 hr
                    go_wp2_with fail
                    refine (isInt64_any p10 r _ HZ10.out HRB3.out).mono ?_
                    rintro e w11 ⟨rfl, rfl⟩
                    cases hin : BigW.in64 r with
                    | false =>
                      have HF := Lib.hid (show readOf l = (0, 3) by rw [HR3.out, show ReadLaw.in64 r = false from hin]; rfl)
                      go_wp2_with fail
                      go_ret2
                      exact ⟨by rw [HF.out]; rfl, HB10.out⟩
                    | true =>
                      have HF := Lib.hid (show readOf l = (r, 0) by rw [HR3.out, show ReadLaw.in64 r = true from hin]; rfl)
                      have HIN := Lib.hid (show -9223372036854775808 ≤ r ∧ r ≤ 9223372036854775807 from of_decide_eq_true hin)
                      go_wp2_with fail
                      refine (bigInt64_any p10 r _ HZ10.out HIN.out).mono ?_
                      rintro e w12 ⟨rfl, rfl⟩
                      go_wp2_with fail
                      go_ret2
                      exact ⟨by rw [HF.out]; rfl, HB10.out⟩
                  · have hs1' : (1 : Int) < (m : Int) := by omega
                    have hixa := HIXA.out
                    go_upto_region 22 with fail
                    clear hs1 hs1' hixa hy48
                    generalize b.length = K at HVAL HK HKL
                    have HI0 := Lib.hid (isInt_new wr)
                    have HB0 := Lib.hid ((Below.refl wr.heap.size wr).alloc (Nat.le_refl _) (.cells #[.bool false, .slice none 0 0] 63))
                    have hss := setString_any wr.heap.size ds (wr.alloc (.cells #[.bool false, .slice none 0 0] 63)) HI0.out HALL.out HNE.out (by have := HDL.out; omega)
                    rw [← HSA.out] at hss
                    have HSS := Lib.hid hss
                    clear hss
                    go_wp2_with fail
                    refine HSS.out.mono ?_
                    rintro e w1 ⟨rfl, hz1, hg1⟩
                    have HX1 := Lib.hid hz1
                    have HB1 := Lib.hid (below_grown HB0.out (Nat.le_refl _) hg1 (fun g e => by injection e with e; omega))
                    clear hz1 hg1 HSS
                    have hix := HIX.out
                    rw [show S = T from HS.out.trans HTS.out.symm] at hix
                    have hx45 := HX45.out
                    have hs0 : 0 < T.size := by have h := HS0.out; rwa [show S = T from HS.out.trans HTS.out.symm] at h
                    go_upto_region 25 with fail
                    have HX2 := HX1
                    have HB2 := HB1
                    clear hix hx45 hs0
                    generalize w1 = w2 at *
                    obtain ⟨X, hX⟩ : ∃ X : Int, X = (if false then -(num ds : Int) else (num ds : Int)) := ⟨_, rfl⟩
                    have HXE := Lib.hid (show BigAt w2 wr.heap.size X by rw [hX]; exact HX2.out)
                    have HXN := Lib.hid (show X.natAbs < pw 50 by rw [hX]; have h := HNB.out; simp only [Bool.false_eq_true, if_false, if_true]; omega)
                    have HR2 := Lib.hid (show readOf l = (let r := (X * 8589934592 + ((10 ^ K : Nat) : Int)) / ((10 ^ K * 2 : Nat) : Int); if ReadLaw.in64 r then (r, 0) else (0, 3)) by rw [HVAL.out, hX]; rfl)
                    clear hX HX2
                    have HI2 := Lib.hid (isInt_new w2)
                    have hb2a : Below w2.heap.size w2 (w2.alloc (.cells #[.bool false, .slice none 0 0] 63)) := (Below.refl _ _).alloc (Nat.le_refl _) _
                    have hs2 := HXE.out.lt
                    have hkl := HKL.out
                    have hzk : (SA.size : Int) - (m : Int) = (K : Int) := by have h1 := HK.out; have h2 := HZA.out; omega
                    go_wp2_with fail
                    refine (newInt_any 10 _ (by omega)).mono ?_
                    rintro e w3 ⟨p3, rfl, hp3, hz3, hb3⟩
                    have HZ3 := Lib.hid hz3
                    clear hz3
                    go_wp2_with fail
                    refine (newInt_any (K : Int) _ (by omega)).mono ?_
                    rintro e w4 ⟨p4, rfl, hp4, hz4, hb4⟩
                    have HZ4 := Lib.hid hz4
                    have HZ34 := Lib.hid (HZ3.out.below hb4)
                    have hb24 : Below w2.heap.size w2 w4 := onward (onward hb2a (Nat.le_refl _) hb3) (Nat.le_refl _) hb4
                    have HI4 := Lib.hid ((HI2.out.below hb3 HI2.out.lt).below hb4 (by have := hb3.size; have := HI2.out.lt; omega))
                    have HX4 := Lib.hid (HXE.out.below hb24)
                    have HB4 := Lib.hid (onward HB2.out (Nat.le_refl _) hb24)
                    have HTP := Lib.hid (ten_pow_pw (k := K) (by omega))
                    clear hz4 hzk
                    go_wp2_with fail
                    refine (bigExp_any w2.heap.size p3 p4 10 K _ HI4.out HZ34.out HZ4.out (Nat.lt_of_lt_of_le (show 10 < pw 1 by unfold pw; omega) (pw_le (by omega))) (by omega) (Nat.lt_of_lt_of_le HTP.out (pw_le (by omega))) (by omega)).mono ?_
                    rintro e w5 ⟨rfl, hz5, hg5⟩
                    have HTQ := Lib.hid (Nat.pow_pos (n := K) (show 0 < 10 by omega))
                    generalize 10 ^ K = P at HTP HTQ HR2 hz5
                    have HT5 := Lib.hid hz5
                    have HX5 := Lib.hid (HX4.out.grown HI4.out hg5 (by omega))
                    have HB5 := Lib.hid (below_grown HB4.out (Nat.le_refl _) hg5 (fun g e => by injection e with e; omega))
                    have hne : wr.heap.size ≠ w2.heap.size := by omega
                    clear hz5 hg5 hb24 hb2a hb3 hb4
                    go_wp2_with fail
                    refine (bigLsh_any wr.heap.size wr.heap.size X 33 1 1 _ HX5.out.isInt HX5.out (Nat.lt_of_lt_of_le HXN.out (pw_le (by omega))) rfl (by omega) (by omega)).mono ?_
                    rintro e w6 ⟨rfl, hz6, hg6⟩
                    have HX6 := Lib.hid (show BigAt w6 wr.heap.size (X * 8589934592) from hz6)
                    have HT6 := Lib.hid (HT5.out.grown HX5.out.isInt hg6 (fun e => hne e.symm))
                    have HB6 := Lib.hid (below_grown HB5.out (Nat.le_refl _) hg6 (fun g e => by injection e with e; omega))
                    have HN6 := Lib.hid (val_bound HXN.out HTP.out)
                    clear hz6 hg6
                    go_wp2_with fail
                    refine (bigAdd_any wr.heap.size wr.heap.size w2.heap.size (X * 8589934592) (P : Int) _ HX6.out.isInt HX6.out HT6.out HN6.out.1 (Nat.lt_of_lt_of_le HTP.out (pw_le (by omega)))).mono ?_
                    rintro e w7 ⟨rfl, hz7, hg7⟩
                    have HX7 := Lib.hid hz7
                    have HT7 := Lib.hid (HT6.out.grown HX6.out.isInt hg7 (fun e => hne e.symm))
                    have HB7 := Lib.hid (below_grown HB6.out (Nat.le_refl _) hg7 (fun g e => by injection e with e; omega))
                    have HI7 := Lib.hid (isInt_new w7)
                    have HX8 := Lib.hid (HX7.out.alloc (.cells #[.bool false, .slice none 0 0] 63))
                    have HT8 := Lib.hid (HT7.out.alloc (.cells #[.bool false, .slice none 0 0] 63))
                    have hs7 := HX7.out.lt
                    have HB8 := Lib.hid (HB7.out.alloc (by have := HB7.out.size; omega) (.cells #[.bool false, .slice none 0 0] 63))
                    clear hz7 hg7
                    go_wp2_with fail
                    refine (bigLsh_any w7.heap.size w2.heap.size (P : Int) 1 0 1 _ HI7.out HT8.out (Nat.lt_of_lt_of_le HTP.out (pw_le (by omega))) rfl (by omega) (by omega)).mono ?_
                    rintro e w9 ⟨rfl, hz9, hg9⟩
                    have HD9 := Lib.hid (show BigAt w9 w7.heap.size (((P * 2 : Nat)) : Int) from hz9)
                    have HX9 := Lib.hid (HX8.out.grown HI7.out hg9 (by omega))
                    have HB9 := Lib.hid (below_grown HB8.out (Nat.le_refl _) hg9 (fun g e => by injection e with e; omega))
                    clear hz9 hg9
                    go_wp2_with fail
                    refine (down_any wr.heap.size w7.heap.size (X * 8589934592 + (P : Int)) ((P * 2 : Nat) : Int) _ HX9.out HD9.out HN6.out.2.1 (by have := HTQ.out; omega) HN6.out.2.2).mono ?_
                    rintro e w10 ⟨p10, rfl, hp10, hz10, hb10⟩
                    obtain ⟨r, hr⟩ : ∃ r, r = (X * 8589934592 + (P : Int)) / ((P * 2 : Nat) : Int) := ⟨_, rfl⟩
                    rw [← hr] at hz10
                    have HR3 := Lib.hid (show readOf l = (if ReadLaw.in64 r then (r, 0) else (0, 3)) by rw [HR2.out, hr])
                    have HRB3 := Lib.hid (show r.natAbs < pw 100 by rw [hr]; exact Nat.lt_of_le_of_lt (natAbs_div _ (by have := HTQ.out; omega)) HN6.out.2.1)
                    have HZ10 := Lib.hid hz10
                    have HB10 := Lib.hid (onward HB9.out (Nat.le_refl _) hb10)
                    clear hz10 hb10 hr
                    go_wp2_with fail
                    refine (isInt64_any p10 r _ HZ10.out HRB3.out).mono ?_
                    rintro e w11 ⟨rfl, rfl⟩
                    cases hin : BigW.in64 r with
                    | false =>
                      have HF := Lib.hid (show readOf l = (0, 3) by rw [HR3.out, show ReadLaw.in64 r = false from hin]; rfl)
                      go_wp2_with fail
                      go_ret2
                      exact ⟨by rw [HF.out]; rfl, HB10.out⟩
                    | true =>
                      have HF := Lib.hid (show readOf l = (r, 0) by rw [HR3.out, show ReadLaw.in64 r = true from hin]; rfl)
                      have HIN := Lib.hid (show -9223372036854775808 ≤ r ∧ r ≤ 9223372036854775807 from of_decide_eq_true hin)
                      go_wp2_with fail
                      refine (bigInt64_any p10 r _ HZ10.out HIN.out).mono ?_
                      rintro e w12 ⟨rfl, rfl⟩
                      go_wp2_with fail
                      go_ret2
                      exact ⟨by rw [HF.out]; rfl, HB10.out⟩
      · have hl0 : l = [] := List.eq_nil_of_length_eq_zero (by omega)
        have hs0 : ¬ 0 < S.size := by rw [HZ.out]; exact hlp
        have HF := Lib.hid (show readOf l = (0, 2) by rw [HRB.out, hl0]; exact body_form (a := []) (b := []) (ok := false) rfl (.inl rfl))
        clear hneg hx45 hlp hx hl0 hx45'
        go_enter Try.func24, Try.ntmps24
        go_upto_region 8 with fail
        go_loopw [5, 6, 7] (fun al pt i wr => al = .string ⟨#[]⟩ ∧ pt = .int .i64 (-1) ∧ i = .int .i64 0 ∧ wr = w) (fun _ _ _ _ => 0)
        case atStart => exact ⟨rfl, rfl, rfl, rfl⟩
        case round =>
          obtain ⟨rfl, rfl, rfl, rfl⟩ := hrel
          go_wp2_with fail
          go_ret2
          exact ⟨by rw [HF.out]; rfl, Below.refl _ _⟩
end Go.Proofs.Ytlcpackmoolngaa.Tx
