/- Contract: mat.Solve. -/
import Derived.Test.YtejefecglioifaaFacM
import Derived.Test.YtejefecglioifaaSolveLaw
import Derived.Test.YtejefecglioifaaTimesM
namespace Go.Proofs.Ytejefecglioifaa.BigW
open Go.RowKit Go.Proofs.Ytejefecglioifaa.Mem Go.Proofs.Ytejefecglioifaa.BigLaw Go.Proofs.Ytejefecglioifaa.Rws Go.Proofs.Ytejefecglioifaa.Ints Go.Proofs.Ytejefecglioifaa.Mats
set_option linter.unusedVariables false
set_option linter.unusedSimpArgs false

set_option maxRecDepth 100000 in
theorem cloneI_any (n c : Nat) (A : Option Addr) (vs : List Int) (w : World) (hn : vs.length = n) (h0 : 1 ≤ n) (h6 : n ≤ 6) (hr : Rd w w.heap.size 1 A n (intsV vs)) :
    Calls Try.prog 33 #[.slice A n c] w fun e w' => ∃ g c', e = .returned (.slice (some ⟨g, 0, none⟩) n c') ∧ w.heap.size ≤ g ∧ n ≤ c' ∧ ArrAt w' g n (fun k => vs.getD k 0) ∧ Below w.heap.size w w' := by
  obtain ⟨ba, oa, rfl, hba, _⟩ := hr.2 (by omega)
  have HR := Lib.hid (hr.alloc (Nat.le_refl _) (.cells #[] 3))
  have HZ : Hid ((w.alloc (.cells #[] 3)).ownsRow w.heap.size 3 1 (.slice (some ⟨w.heap.size, 0, none⟩) 0 0) 0 []) := Lib.hid ⟨rfl, .inr ⟨w.heap.size, 0, #[], rfl, Nat.le_refl _, Blk.fresh _ _ _, Nat.le_refl _, by unfold maxLen; omega, rfl, rfl⟩⟩
  have HB := Lib.hid ((Below.refl w.heap.size w).alloc (Nat.le_refl _) (.cells #[] 3))
  have HN := Lib.hid hn
  clear hr hn
  have hq : ∀ w, (binOp .eql 22 (.slice (some ⟨ba, oa, none⟩) n c) (.slice none 0 0)).run Try.prog w = .ok (.bool false) w := fun w => Lib.run_eql_slice_nil w 22 3 (some ⟨ba, oa, none⟩) n c 0 0 Try.underlying22
  go_enter Try.func33, Try.ntmps33
  go_wp2_with (at_builtin; refine wpList_append_rd _ rfl (.tmp 5) (.tmp 6) 22 rfl (base := w.heap.size) Go.Proofs.Ytejefecglioifaa.Ints.elemInts rfl HZ.out rfl (fun h => by cases h) HR.out (intsV_one vs) (by unfold maxLen; omega) (by omega) HB.out.size ?_; intro A' c' w1 hA' hown hg; (try simp only [List.nil_append, Nat.zero_add] at hown); (try simp only [Nat.zero_add]); have HO := Lib.hid hown; have HG := Lib.hid hg; clear hown hg)
  go_ret
  obtain ⟨g, rfl, hg, hc, harr⟩ := ArrAt.of_own HO.out HN.out (by omega)
  exact ⟨g, c', rfl, hg, hc, harr, HB.out.grown HG.out HB.out.size (fun g e => by have e : some w.heap.size = some g := e; injection e with e; omega)⟩

set_option maxRecDepth 100000 in
theorem clipI_any (n c g : Nat) (w : World) (h6 : n ≤ 6) (h0 : 1 ≤ n) (hc : n ≤ c) :
    Calls Try.prog 37 #[.slice (some ⟨g, 0, none⟩) n c] w fun e w' => e = .returned (.slice (some ⟨g, 0, none⟩) n n) ∧ w' = w := by
  have hc1 : (n : Int) ≤ (c : Int) := by omega
  have hn6 : (n : Int) ≤ 6 := by omega
  have hc2 : ¬ (c : Int) < (n : Int) := by omega
  go_enter Try.func37, Try.ntmps37
  go_wp2_with fail
  go_ret
  exact ⟨rfl, rfl⟩
/-- mat.Solve's blocks -/
structure SAt (w3 wr : World) (WM : Array Value) (gk gt gx N : Nat) (f : Nat → Int) (b : Bool) : Prop where
  bent : Bn wr gk b
  work : Blk wr gt 47 WM
  arr : ArrAt wr gx N f
  bel : Below w3.heap.size w3 wr

set_option maxRecDepth 100000 in
set_option maxHeartbeats 4000000 in
theorem solve_yes (N : Nat) (A A' : Option Addr) (c c' : Nat) (zs vs : List Int) (w : World) (hN : 1 ≤ N) (h6 : N ≤ 6) (hl : zs.length = N * N) (hv : vs.length = N) (hr : Rd w w.heap.size 1 A zs.length (intsV zs)) (hr' : Rd w w.heap.size 1 A' vs.length (intsV vs)) (hz : ∀ k, In64 (zs.getD k 0)) (hzv : ∀ k, In64 (vs.getD k 0)) :
    Calls Try.prog 14 #[matV (N : Int) A zs.length c, .slice A' vs.length c'] w fun e w' => GaveInts w w' (solA N zs vs).1.1 (solA N zs vs).1.2 (solA N zs vs).2 e := by
  rw [hv]
  rw [hv] at hr'
  have HR := Lib.hid hr
  have HR' := Lib.hid hr'
  have HZ := Lib.hid hz
  have HZV := Lib.hid hzv
  have HN := Lib.hid hN
  have HL := Lib.hid hl
  have HVL := Lib.hid hv
  have HGD := Lib.hid (show good (N : Int) zs.length = true from by
    unfold good
    rw [decide_eq_true (show (1 : Int) ≤ N by omega), decide_eq_true (show (N : Int) ≤ 6 by omega), decide_eq_true (by rw [hl]; push_cast; rfl)]
    rfl)
  have h36 := sq_36 h6
  clear hr hr' hz hzv hl hv
  unfold matV
  have HM := Lib.hid (show Blk (w.alloc (.cells #[.int .i64 (N : Int), .slice A zs.length c] 24)) w.heap.size 24 #[.int .i64 (N : Int), .slice A zs.length c] from Blk.new rfl)
  have HB := Lib.hid (show Below w.heap.size w (w.alloc (.cells #[.int .i64 (N : Int), .slice A zs.length c] 24)) from (Below.refl _ _).alloc (Nat.le_refl _) _)
  go_enter Try.func14, Try.ntmps14
  go_upto_region 1 with fail
  generalize (w.alloc (.cells #[.int .i64 (N : Int), .slice A zs.length c] 24)) = w1 at *
  go_wp2_with (refine wpList_whole rfl 24 _ rfl w.heap.size rfl HM.out _ Try.underlying24 rfl (by kernel_rfl) ?_)
  refine (good_any (N : Int) A zs.length c w1).mono ?_
  rintro e w2 ⟨rfl, hb⟩
  rw [HGD.out]
  have HM := Lib.hid (HM.out.below hb HM.out.lt)
  have HB := Lib.hid (onward HB.out (Nat.le_refl _) hb)
  have k0 : w2.cell? ⟨w.heap.size, 0, none⟩ = some (.int .i64 (N : Int)) := (HM.out.cell 0).trans rfl
  clear hb
  go_upto_region 3 with fail
  clear k0
  go_wp2_with (refine wpList_whole rfl 24 _ rfl w.heap.size rfl HM.out _ Try.underlying24 rfl (by kernel_rfl) ?_)
  refine (factor_yes N A c zs w2 HN.out h6 HL.out ((HR.out.below HB.out).more HB.out.size) HZ.out).mono ?_
  cases hf : facF N zs N with
  | none =>
    have HSA := Lib.hid (show solA N zs vs = (([], false), 9) from by unfold solA; rw [hf])
    rw [show facA N zs = ((0, []), ([], false), 9) from by unfold facA; rw [hf]]
    rintro e w3 ⟨A3, c3, A4, c4, rfl, _, _, _, hb⟩
    have HB := Lib.hid (onward HB.out (Nat.le_refl _) hb)
    clear hb hf
    dsimp only
    go_upto_region 4 with fail
    have HB := Lib.hid (show Below w.heap.size w ((w3.alloc (.cells #[.int .i64 0, .slice A3 0 c3] 24)).alloc (.cells #[.bool false] 4)) from (HB.out.alloc HB.out.size _).alloc (by have := HB.out.size; simp; omega) _)
    generalize ((w3.alloc (.cells #[.int .i64 0, .slice A3 0 c3] 24)).alloc (.cells #[.bool false] 4)) = w4 at *
    go_wp2_with fail
    go_ret3
    rw [HSA.out]
    exact ⟨none, 0, rfl, Rd.nil _ _ _ _, HB.out⟩
  | some r =>
    obtain ⟨L, D, b⟩ := r
    have HSA := Lib.hid (show solA N zs vs = (((List.range N).map (bakF N L (divF (fwdF L (fun k => vs.getD k 0) N).1 (fun k => D.getD k 0) N).1 N).1, b || (fwdF L (fun k => vs.getD k 0) N).2 || (divF (fwdF L (fun k => vs.getD k 0) N).1 (fun k => D.getD k 0) N).2 || (bakF N L (divF (fwdF L (fun k => vs.getD k 0) N).1 (fun k => D.getD k 0) N).1 N).2), 0) from by unfold solA; rw [hf])
    rw [show facA N zs = (((N : Int), flatL N (N * N) L), (D, b), 0) from by unfold facA; rw [hf]]
    obtain ⟨hDl, hLR, hDR⟩ := facF_ok HZ.out hf
    have HDL := Lib.hid hDl
    have HLR := Lib.hid hLR
    have HDR := Lib.hid hDR
    have HLL := Lib.hid (show (flatL N (N * N) L).length ≤ 36 from by rw [flatL_length]; exact h36)
    have HLI := Lib.hid (show ∀ i k, i < N → k < N → i * N + k < (flatL N (N * N) L).length from fun i k hi hk => by rw [flatL_length]; exact sq_idx hi hk)
    have HLA := Lib.hid (show ∀ i k, i < N → k < N → (flatL N (N * N) L).getD (i * N + k) 0 = L i k from fun i k hi hk => flatL_at L hk (sq_idx hi hk))
    obtain ⟨l, hl⟩ : ∃ l, flatL N (N * N) L = l := ⟨_, rfl⟩
    rw [hl] at HLL HLI HLA ⊢
    obtain ⟨vf, hvf⟩ : ∃ f : Nat → Int, (fun k => vs.getD k 0) = f := ⟨_, rfl⟩
    have HVR := Lib.hid (show ∀ k, In64 (vf k) from by rw [← hvf]; exact HZV.out)
    have HVF := Lib.hid hvf
    rw [hvf] at HSA
    obtain ⟨df, hdf⟩ : ∃ f : Nat → Int, (fun k => D.getD k 0) = f := ⟨_, rfl⟩
    have HDF := Lib.hid hdf
    rw [hdf] at HSA
    clear hDl hLR hDR hl hf hvf hdf
    rintro e w3 ⟨A3, c3, A4, c4, rfl, hr3, hd3, _, hb⟩
    have H3 := Lib.hid hr3
    have H4 := Lib.hid hd3
    have HM := Lib.hid (HM.out.below hb HM.out.lt)
    have HB := Lib.hid (onward HB.out (Nat.le_refl _) hb)
    clear hb hr3 hd3
    dsimp only
    go_upto_region 6 with fail
    have HMM := Lib.hid (show Blk ((w3.alloc (.cells #[.int .i64 (N : Int), .slice A3 l.length c3] 24)).alloc (.cells #[.bool b] 4)) w3.heap.size 24 #[.int .i64 (N : Int), .slice A3 l.length c3] from (Blk.fresh w3 _ _).alloc _)
    have HK := Lib.hid (show Bn ((w3.alloc (.cells #[.int .i64 (N : Int), .slice A3 l.length c3] 24)).alloc (.cells #[.bool b] 4)) (w3.heap.size + 1) b from Blk.new (by simp))
    have HB3 := Lib.hid (show Below w3.heap.size w3 ((w3.alloc (.cells #[.int .i64 (N : Int), .slice A3 l.length c3] 24)).alloc (.cells #[.bool b] 4)) from ((Below.refl _ _).alloc (Nat.le_refl _) _).alloc (by simp) _)
    have hsz : ((w3.alloc (.cells #[.int .i64 (N : Int), .slice A3 l.length c3] 24)).alloc (.cells #[.bool b] 4)).heap.size = w3.heap.size + 1 + 1 := by simp
    generalize ((w3.alloc (.cells #[.int .i64 (N : Int), .slice A3 l.length c3] 24)).alloc (.cells #[.bool b] 4)) = w4 at *
    obtain ⟨gk, hgk⟩ : ∃ g, w3.heap.size + 1 = g := ⟨_, rfl⟩
    rw [hgk] at HK hsz ⊢
    have hk3 : w3.heap.size < gk := by omega
    go_upto_region 7 with (refine wpList_whole rfl 24 _ rfl w3.heap.size rfl HMM.out _ Try.underlying24 rfl (by kernel_rfl) ?_)
    have HWK := Lib.hid (show Blk (w4.alloc (.cells #[.int .i64 (N : Int), .slice A3 l.length c3, .pointer (some ⟨gk, 0, none⟩)] 47)) w4.heap.size 47 #[.int .i64 (N : Int), .slice A3 l.length c3, .pointer (some ⟨gk, 0, none⟩)] from Blk.fresh _ _ _)
    have HK := Lib.hid (show Bn (w4.alloc (.cells #[.int .i64 (N : Int), .slice A3 l.length c3, .pointer (some ⟨gk, 0, none⟩)] 47)) gk b from Blk.alloc HK.out _)
    have HB3 := Lib.hid (show Below w3.heap.size w3 (w4.alloc (.cells #[.int .i64 (N : Int), .slice A3 l.length c3, .pointer (some ⟨gk, 0, none⟩)] 47)) from HB3.out.alloc HB3.out.size _)
    generalize (w4.alloc (.cells #[.int .i64 (N : Int), .slice A3 l.length c3, .pointer (some ⟨gk, 0, none⟩)] 47)) = w5 at *
    obtain ⟨gt, hgt⟩ : ∃ g, gk + 1 = g := ⟨_, rfl⟩
    rw [hsz, hgt] at HWK
    rw [hgt] at ⊢
    have htk : gk < gt := by omega
    clear HMM hsz hgk hgt
    go_wp2_with fail
    refine (cloneI_any N c' A' vs w5 HVL.out HN.out h6 (((HR'.out.below HB.out).more HB.out.size |>.below HB3.out).more HB3.out.size)).mono ?_
    rintro e w6 ⟨gx, cx, rfl, hgx, hcx, harr, hb⟩
    have hltx := HWK.out.lt
    have hxt : gt < gx := by omega
    rw [HVF.out] at harr
    have HARR := Lib.hid harr
    have HWK := Lib.hid (HWK.out.below hb HWK.out.lt)
    have HK := Lib.hid (Blk.below HK.out hb (Blk.lt HK.out))
    have HB3 := Lib.hid (onward HB3.out (Nat.le_refl _) hb)
    clear hgx hltx harr hb
    have HCX := Lib.hid hcx
    clear hcx
    have kN : w6.cell? ⟨w.heap.size, 0, none⟩ = some (.int .i64 (N : Int)) := ((HM.out.below HB3.out HM.out.lt).cell 0).trans rfl
    go_wp2_with fail
    clear kN
    have hN1 : (N : Int) ≤ 6 := by omega
    go_loopw [44] (fun iv wr => ∃ I : Nat, I ≤ N ∧ iv = .int .i64 I ∧ SAt w3 wr #[.int .i64 (N : Int), .slice A3 l.length c3, .pointer (some ⟨gk, 0, none⟩)] gk gt gx N (mixU I (fwdF L vf I).1 vf) (b || (fwdF L vf I).2)) (fun iv _ => N - (intOf iv).toNat)
    case atStart => exact ⟨0, by omega, rfl, ⟨by simp only [fwdF, Bool.or_false]; exact HK.out, HWK.out, HARR.out.congr fun k _ => (mixU_zero _ _ k).symm, HB3.out⟩⟩
    case round =>
      clear HK HWK HARR HB3
      obtain ⟨I, hI, rfl, hat⟩ := hrel
      have HK := Lib.hid hat.bent
      have HWK := Lib.hid hat.work
      have HARR := Lib.hid hat.arr
      have HB3 := Lib.hid hat.bel
      clear hat
      have kN : wr.cell? ⟨w.heap.size, 0, none⟩ = some (.int .i64 (N : Int)) := ((HM.out.below HB3.out HM.out.lt).cell 0).trans rfl
      by_cases hlt : I < N
      · have HFS := Lib.hid (show fwdF L vf (I + 1) = (put1 (fwdF L vf I).1 I (lessW (L I) (fwdF L vf I).1 (vf I) I).1, (fwdF L vf I).2 || (lessW (L I) (fwdF L vf I).1 (vf I) I).2) from rfl)
        have HFR := Lib.hid (fwdF_range L HVR.out I)
        generalize fwdF L vf I = ff at *
        obtain ⟨f, fb⟩ := ff
        simp only at HFS HFR HK HARR
        have hlt1 : (I : Int) < (N : Int) := by omega
        go_wp2_with fail
        go_loopw [48] (fun kv wr => ∃ k : Nat, k ≤ I ∧ kv = .int .i64 k ∧ SAt w3 wr #[.int .i64 (N : Int), .slice A3 l.length c3, .pointer (some ⟨gk, 0, none⟩)] gk gt gx N (put1 (mixU I f vf) I (lessW (L I) f (vf I) k).1) (b || fb || (lessW (L I) f (vf I) k).2)) (fun kv _ => I - (intOf kv).toNat)
        case atStart => exact ⟨0, by omega, rfl, ⟨by simp only [lessW, Bool.or_false]; exact HK.out, HWK.out, HARR.out.congr fun k _ => by (simp only [lessW]; rw [← mixU_at I f vf]; exact (put1_self _ _ _).symm), HB3.out⟩⟩
        case round =>
          clear HK HWK HARR HB3
          obtain ⟨k, hk, rfl, hat⟩ := hrel
          have HK := Lib.hid hat.bent
          have HWK := Lib.hid hat.work
          have HARR := Lib.hid hat.arr
          have HB3 := Lib.hid hat.bel
          clear hat
          have kN : wr.cell? ⟨w.heap.size, 0, none⟩ = some (.int .i64 (N : Int)) := ((HM.out.below HB3.out HM.out.lt).cell 0).trans rfl
          by_cases hkI : k < I
          · have HCH := Lib.hid (show lessW (L I) f (vf I) (k + 1) = ((fsub (lessW (L I) f (vf I) k).1 (fmul (L I k) (f k)).1).1, (lessW (L I) f (vf I) k).2 || (fmul (L I k) (f k)).2 || (fsub (lessW (L I) f (vf I) k).1 (fmul (L I k) (f k)).1).2) from rfl)
            have r_s := Lib.hid (lessW_range (L I) f (HVR.out I) k)
            have hx2 := HARR.out.cell (show k < N by omega)
            rw [put1_other _ _ (by omega), mixU_lt _ _ hkI] at hx2
            generalize lessW (L I) f (vf I) k = ch at *
            obtain ⟨s, sb⟩ := ch
            simp only at HCH r_s HK HARR
            have hx1 := HARR.out.cell hlt
            rw [put1_same] at hx1
            have r_x := Lib.hid (HFR.out k)
            have r_a := Lib.hid (HLR.out I k)
            have HAE := Lib.hid (HLA.out I k hlt (by omega))
            obtain ⟨a, ha⟩ : ∃ a, L I k = a := ⟨_, rfl⟩
            rw [ha] at HCH r_a HAE
            obtain ⟨x, hx⟩ : ∃ x, f k = x := ⟨_, rfl⟩
            rw [hx] at HCH r_x hx2
            clear ha hx
            obtain ⟨⟨p, pb⟩, hp⟩ : ∃ r, fmul a x = r := ⟨_, rfl⟩
            have r_p := Lib.hid (show In64 p from by have h := fmul_range a x; rw [hp] at h; exact h)
            have P_ := Lib.hid hp
            rw [hp] at HCH
            (try simp only at HCH)
            clear hp
            obtain ⟨⟨t, tb⟩, ht⟩ : ∃ r, fsub s p = r := ⟨_, rfl⟩
            have r_t := Lib.hid (show In64 t from by have h := fsub_range s p; rw [ht] at h; exact h)
            have T_ := Lib.hid ht
            rw [ht] at HCH
            (try simp only at HCH)
            clear ht
            have hk1 : (k : Int) < (I : Int) := by omega
            have hkN1 : (k : Int) < (N : Int) := by omega
            have HX := Lib.hid (And.intro hx1 hx2)
            clear hx1 hx2 kN
            go_upto_region 14 with fail
            have HK := Lib.hid (Blk.drew HK.out)
            have HWK := Lib.hid HWK.out.drew
            have HARR := Lib.hid HARR.out.drew
            have HX : Hid (wr.drew.cell? ⟨gx, I, none⟩ = some (.int .i64 s) ∧ wr.drew.cell? ⟨gx, k, none⟩ = some (.int .i64 x)) := Lib.hid HX.out
            have HB3 := Lib.hid HB3.out.drew
            have HS := And.intro HWK.out HX.out
            refine wp_region_noPanic ?_
            refine Rg.beginR [2, 6, 7, 8, 15] (fun w' => Blk w' gt 47 #[.int .i64 (N : Int), .slice A3 l.length c3, .pointer (some ⟨gk, 0, none⟩)] ∧ w'.cell? ⟨gx, I, none⟩ = some (.int .i64 s) ∧ w'.cell? ⟨gx, k, none⟩ = some (.int .i64 x)) (by kernel_rfl) ?_
            generalize wr.drew = w1' at *
            refine Rg.takeP (i := 0) (oi := { dst := some 51, op := Op.move (Operand.tmp 12), type := 22, pos := "mat.go:127", after := #[], guard := none }) (v := ?_) rfl (by kernel_rfl) (fun _ _ _ h => h) (by rfl) ?_ ?_
            rotate_left 1
            · (intro w; go_simp; (try with_reducible rfl))
            try simp only [Act.put, List.setIfInBounds_toArray, List.set_cons_zero, List.set_cons_succ]
            refine Rg.takeP (i := 1) (oi := { dst := some 52, op := Op.move (Operand.tmp 13), type := 3, pos := "mat.go:127", after := #[], guard := none }) (v := ?_) rfl (by kernel_rfl) (fun _ _ _ h => h) (by rfl) ?_ ?_
            rotate_left 1
            · (intro w; go_simp; (try with_reducible rfl))
            try simp only [Act.put, List.setIfInBounds_toArray, List.set_cons_zero, List.set_cons_succ]
            refine Rg.takeS (i := 2) (oi := { dst := some 53, op := Op.load 47 (Operand.tmp 11), type := 47, pos := "mat.go:127", after := #[], guard := none }) (v := .agg #[.int .i64 (N : Int), .slice A3 l.length c3, .pointer (some ⟨gk, 0, none⟩)]) rfl (by kernel_rfl) (fun _ _ _ h => h) (by rfl) HS ?_ ?_
            · (intro w' hSw; exact exec_load_st 47 (.tmp 11) rfl gt rfl hSw.1 Try.underlying47 rfl (by kernel_rfl))
            try simp only [Act.put, List.setIfInBounds_toArray, List.set_cons_zero, List.set_cons_succ]
            refine Rg.takeP (i := 3) (oi := { dst := some 54, op := Op.move (Operand.tmp 12), type := 22, pos := "mat.go:127", after := #[], guard := none }) (v := ?_) rfl (by kernel_rfl) (fun _ _ _ h => h) (by rfl) ?_ ?_
            rotate_left 1
            · (intro w; go_simp; (try with_reducible rfl))
            try simp only [Act.put, List.setIfInBounds_toArray, List.set_cons_zero, List.set_cons_succ]
            refine Rg.takeP (i := 4) (oi := { dst := some 55, op := Op.move (Operand.tmp 13), type := 3, pos := "mat.go:127", after := #[], guard := none }) (v := ?_) rfl (by kernel_rfl) (fun _ _ _ h => h) (by rfl) ?_ ?_
            rotate_left 1
            · (intro w; go_simp; (try with_reducible rfl))
            try simp only [Act.put, List.setIfInBounds_toArray, List.set_cons_zero, List.set_cons_succ]
            refine Rg.takeP (i := 5) (oi := { dst := some 56, op := Op.indexAddr 22 (Operand.tmp 54) (Operand.tmp 55), type := 0, pos := "mat.go:127", after := #[{ on := 3, ground := Ground.data }, { on := 4, ground := Ground.data }], guard := none }) (v := ?_) rfl (by kernel_rfl) (fun _ _ _ h => h) (by rfl) ?_ ?_
            rotate_left 1
            · (intro w; go_simp; (try with_reducible rfl))
            try simp only [Act.put, List.setIfInBounds_toArray, List.set_cons_zero, List.set_cons_succ]
            refine Rg.takeS (i := 6) (oi := { dst := some 57, op := Op.load 3 (Operand.tmp 56), type := 3, pos := "mat.go:127", after := #[{ on := 5, ground := Ground.data }], guard := none }) (v := ?_) rfl (by kernel_rfl) (fun _ _ _ h => h) (by rfl) HS ?_ ?_
            rotate_left 1
            · (intro w hSw; (try dsimp only at hSw); (try go_split_ands); go_simp; (try with_reducible rfl))
            try simp only [Act.put, List.setIfInBounds_toArray, List.set_cons_zero, List.set_cons_succ]
            refine Rg.takeS (i := 7) (oi := { dst := some 58, op := Op.load 47 (Operand.tmp 11), type := 47, pos := "mat.go:127", after := #[], guard := none }) (v := .agg #[.int .i64 (N : Int), .slice A3 l.length c3, .pointer (some ⟨gk, 0, none⟩)]) rfl (by kernel_rfl) (fun _ _ _ h => h) (by rfl) HS ?_ ?_
            · (intro w' hSw; exact exec_load_st 47 (.tmp 11) rfl gt rfl hSw.1 Try.underlying47 rfl (by kernel_rfl))
            try simp only [Act.put, List.setIfInBounds_toArray, List.set_cons_zero, List.set_cons_succ]
            refine Rg.takeS (i := 8) (oi := { dst := some 59, op := Op.load 47 (Operand.tmp 11), type := 47, pos := "mat.go:127", after := #[], guard := none }) (v := .agg #[.int .i64 (N : Int), .slice A3 l.length c3, .pointer (some ⟨gk, 0, none⟩)]) rfl (by kernel_rfl) (fun _ _ _ h => h) (by rfl) HS ?_ ?_
            · (intro w' hSw; exact exec_load_st 47 (.tmp 11) rfl gt rfl hSw.1 Try.underlying47 rfl (by kernel_rfl))
            try simp only [Act.put, List.setIfInBounds_toArray, List.set_cons_zero, List.set_cons_succ]
            refine Rg.takeP (i := 9) (oi := { dst := some 60, op := Op.move (Operand.tmp 13), type := 3, pos := "mat.go:127", after := #[], guard := none }) (v := ?_) rfl (by kernel_rfl) (fun _ _ _ h => h) (by rfl) ?_ ?_
            rotate_left 1
            · (intro w; go_simp; (try with_reducible rfl))
            try simp only [Act.put, List.setIfInBounds_toArray, List.set_cons_zero, List.set_cons_succ]
            refine Rg.takeP (i := 10) (oi := { dst := some 61, op := Op.move (Operand.tmp 14), type := 3, pos := "mat.go:127", after := #[], guard := none }) (v := ?_) rfl (by kernel_rfl) (fun _ _ _ h => h) (by rfl) ?_ ?_
            rotate_left 1
            · (intro w; go_simp; (try with_reducible rfl))
            try simp only [Act.put, List.setIfInBounds_toArray, List.set_cons_zero, List.set_cons_succ]
            refine Rg.takeP (i := 12) (oi := { dst := some 63, op := Op.move (Operand.tmp 12), type := 22, pos := "mat.go:127", after := #[], guard := none }) (v := ?_) rfl (by kernel_rfl) (fun _ _ _ h => h) (by rfl) ?_ ?_
            rotate_left 1
            · (intro w; go_simp; (try with_reducible rfl))
            try simp only [Act.put, List.setIfInBounds_toArray, List.set_cons_zero, List.set_cons_succ]
            refine Rg.takeP (i := 13) (oi := { dst := some 64, op := Op.move (Operand.tmp 14), type := 3, pos := "mat.go:127", after := #[], guard := none }) (v := ?_) rfl (by kernel_rfl) (fun _ _ _ h => h) (by rfl) ?_ ?_
            rotate_left 1
            · (intro w; go_simp; (try with_reducible rfl))
            try simp only [Act.put, List.setIfInBounds_toArray, List.set_cons_zero, List.set_cons_succ]
            refine Rg.takeP (i := 14) (oi := { dst := some 65, op := Op.indexAddr 22 (Operand.tmp 63) (Operand.tmp 64), type := 0, pos := "mat.go:127", after := #[{ on := 12, ground := Ground.data }, { on := 13, ground := Ground.data }], guard := none }) (v := ?_) rfl (by kernel_rfl) (fun _ _ _ h => h) (by rfl) ?_ ?_
            rotate_left 1
            · (intro w; go_simp; (try with_reducible rfl))
            try simp only [Act.put, List.setIfInBounds_toArray, List.set_cons_zero, List.set_cons_succ]
            refine Rg.takeS (i := 15) (oi := { dst := some 66, op := Op.load 3 (Operand.tmp 65), type := 3, pos := "mat.go:127", after := #[{ on := 14, ground := Ground.data }], guard := none }) (v := ?_) rfl (by kernel_rfl) (fun _ _ _ h => h) (by rfl) HS ?_ ?_
            rotate_left 1
            · (intro w hSw; (try dsimp only at hSw); (try go_split_ands); go_simp; (try with_reducible rfl))
            try simp only [Act.put, List.setIfInBounds_toArray, List.set_cons_zero, List.set_cons_succ]
            refine Rg.oneR (i := 11) (oi := { dst := some 62, op := Op.call { callee := Callee.value (Operand.func 36), args := #[Operand.tmp 59, Operand.tmp 60, Operand.tmp 61], argTypes := #[47, 3, 3] }, type := 3, pos := "mat.go:127", after := #[{ on := 8, ground := Ground.data }, { on := 9, ground := Ground.data }, { on := 10, ground := Ground.data }], guard := none }) rfl (by kernel_rfl) ?_
            refine Rg.stepS ?_
            intro K hK
            rw [if_pos (by rfl)]
            go_simp
            go_at_call 36
            refine (at_any N I k A3 c3 l gk _ ((H3.out.below HB3.out).more HB3.out.size) (HLI.out _ _ hlt (by omega)) HLL.out).mono ?_
            rintro e w1' ⟨rfl, hb⟩
            rw [HAE.out]
            have HK := Lib.hid (Blk.below HK.out hb (Blk.lt HK.out))
            have HWK := Lib.hid (HWK.out.below hb HWK.out.lt)
            have HX := Lib.hid (And.intro ((below_cell hb _ _ HARR.out.lt).trans HX.out.1) ((below_cell hb _ _ HARR.out.lt).trans HX.out.2))
            have HARR := Lib.hid (HARR.out.below hb HARR.out.lt)
            have HB3 := Lib.hid (onward HB3.out (Nat.le_refl _) hb)
            clear hb
            (try clear HS)
            have HS := And.intro HWK.out HX.out
            go_wp2_with fail
            refine hK.out _ _ HS ?_
            clear hK K
            try simp only [Act.put, List.setIfInBounds_toArray, List.set_cons_zero, List.set_cons_succ]
            refine Rg.oneR (i := 16) (oi := { dst := some 67, op := Op.call { callee := Callee.value (Operand.func 35), args := #[Operand.tmp 62, Operand.tmp 66], argTypes := #[3, 3] }, type := 42, pos := "mat.go:127", after := #[{ on := 11, ground := Ground.data }, { on := 15, ground := Ground.data }, { on := 11, ground := Ground.chain }], guard := none }) rfl (by kernel_rfl) ?_
            refine Rg.stepS ?_
            intro K hK
            rw [if_pos (by rfl)]
            go_simp
            go_at_call 35
            refine (fixMul_any a x _ r_a.out r_x.out).mono ?_
            rintro e w1' ⟨rfl, hb⟩
            rw [P_.out]
            have HK := Lib.hid (Blk.below HK.out hb (Blk.lt HK.out))
            have HWK := Lib.hid (HWK.out.below hb HWK.out.lt)
            have HX := Lib.hid (And.intro ((below_cell hb _ _ HARR.out.lt).trans HX.out.1) ((below_cell hb _ _ HARR.out.lt).trans HX.out.2))
            have HARR := Lib.hid (HARR.out.below hb HARR.out.lt)
            have HB3 := Lib.hid (onward HB3.out (Nat.le_refl _) hb)
            clear hb
            (try clear HS)
            have HS := And.intro HWK.out HX.out
            go_wp2_with fail
            refine hK.out _ _ HS ?_
            clear hK K
            try simp only [Act.put, List.setIfInBounds_toArray, List.set_cons_zero, List.set_cons_succ]
            refine Rg.takeP (i := 17) (oi := { dst := some 68, op := Op.extract (Operand.tmp 67) 0, type := 3, pos := "mat.go:127", after := #[{ on := 16, ground := Ground.data }], guard := none }) (v := ?_) rfl (by kernel_rfl) (fun _ _ _ h => h) (by rfl) ?_ ?_
            rotate_left 1
            · (intro w; go_simp; (try with_reducible rfl))
            try simp only [Act.put, List.setIfInBounds_toArray, List.set_cons_zero, List.set_cons_succ]
            refine Rg.takeP (i := 18) (oi := { dst := some 69, op := Op.extract (Operand.tmp 67) 1, type := 4, pos := "mat.go:127", after := #[{ on := 16, ground := Ground.data }], guard := none }) (v := ?_) rfl (by kernel_rfl) (fun _ _ _ h => h) (by rfl) ?_ ?_
            rotate_left 1
            · (intro w; go_simp; (try with_reducible rfl))
            try simp only [Act.put, List.setIfInBounds_toArray, List.set_cons_zero, List.set_cons_succ]
            refine Rg.oneR (i := 19) (oi := { dst := some 70, op := Op.call { callee := Callee.value (Operand.func 26), args := #[Operand.tmp 58, Operand.tmp 68, Operand.tmp 69], argTypes := #[47, 3, 4] }, type := 3, pos := "mat.go:127", after := #[{ on := 7, ground := Ground.data }, { on := 17, ground := Ground.data }, { on := 18, ground := Ground.data }, { on := 16, ground := Ground.chain }], guard := none }) rfl (by kernel_rfl) ?_
            refine Rg.stepS ?_
            intro K hK
            rw [if_pos (by rfl)]
            go_simp
            go_at_call 26
            refine (see_any (N : Int) A3 l.length c3 gk _ p pb _ HK.out).mono ?_
            rintro e w1' ⟨rfl, hst, hg⟩
            have HK := Lib.hid hst
            have HWK := Lib.hid (HWK.out.grown hg (neq_of (by omega)))
            have HX := Lib.hid (And.intro ((grown_at hg HARR.out.lt (by omega) _).trans HX.out.1) ((grown_at hg HARR.out.lt (by omega) _).trans HX.out.2))
            have HARR := Lib.hid (HARR.out.grown hg (neq_of (by omega)))
            have HB3 := Lib.hid (below_grown HB3.out (Nat.le_refl _) hg (fun g e => by injection e with e; omega))
            clear hst hg
            (try clear HS)
            have HS := And.intro HWK.out HX.out
            go_wp2_with fail
            refine hK.out _ _ HS ?_
            clear hK K
            try simp only [Act.put, List.setIfInBounds_toArray, List.set_cons_zero, List.set_cons_succ]
            refine Rg.oneR (i := 20) (oi := { dst := some 71, op := Op.call { callee := Callee.value (Operand.func 34), args := #[Operand.tmp 57, Operand.tmp 70], argTypes := #[3, 3] }, type := 42, pos := "mat.go:127", after := #[{ on := 6, ground := Ground.data }, { on := 19, ground := Ground.data }, { on := 19, ground := Ground.chain }], guard := none }) rfl (by kernel_rfl) ?_
            refine Rg.stepS ?_
            intro K hK
            rw [if_pos (by rfl)]
            go_simp
            go_at_call 34
            refine (fixSub_any s p _ r_s.out r_p.out).mono ?_
            rintro e w1' ⟨rfl, rfl⟩
            rw [show stop (s - p) = fsub s p from rfl, T_.out]
            go_wp2_with fail
            refine hK.out _ _ HS ?_
            clear hK K
            try simp only [Act.put, List.setIfInBounds_toArray, List.set_cons_zero, List.set_cons_succ]
            refine Rg.takeP (i := 21) (oi := { dst := some 72, op := Op.extract (Operand.tmp 71) 0, type := 3, pos := "mat.go:127", after := #[{ on := 20, ground := Ground.data }], guard := none }) (v := ?_) rfl (by kernel_rfl) (fun _ _ _ h => h) (by rfl) ?_ ?_
            rotate_left 1
            · (intro w; go_simp; (try with_reducible rfl))
            try simp only [Act.put, List.setIfInBounds_toArray, List.set_cons_zero, List.set_cons_succ]
            refine Rg.takeP (i := 22) (oi := { dst := some 73, op := Op.extract (Operand.tmp 71) 1, type := 4, pos := "mat.go:127", after := #[{ on := 20, ground := Ground.data }], guard := none }) (v := ?_) rfl (by kernel_rfl) (fun _ _ _ h => h) (by rfl) ?_ ?_
            rotate_left 1
            · (intro w; go_simp; (try with_reducible rfl))
            try simp only [Act.put, List.setIfInBounds_toArray, List.set_cons_zero, List.set_cons_succ]
            refine Rg.oneR (i := 23) (oi := { dst := some 74, op := Op.call { callee := Callee.value (Operand.func 26), args := #[Operand.tmp 53, Operand.tmp 72, Operand.tmp 73], argTypes := #[47, 3, 4] }, type := 3, pos := "mat.go:127", after := #[{ on := 2, ground := Ground.data }, { on := 21, ground := Ground.data }, { on := 22, ground := Ground.data }, { on := 20, ground := Ground.chain }], guard := none }) rfl (by kernel_rfl) ?_
            refine Rg.stepF ?_ ?_
            · kernel_rfl
            intro K hK
            rw [if_pos (by rfl)]
            go_simp
            go_at_call 26
            refine (see_any (N : Int) A3 l.length c3 gk _ t tb _ HK.out).mono ?_
            rintro e w1' ⟨rfl, hst, hg⟩
            have HK := Lib.hid hst
            have HWK := Lib.hid (HWK.out.grown hg (neq_of (by omega)))
            have HX := Lib.hid (And.intro ((grown_at hg HARR.out.lt (by omega) _).trans HX.out.1) ((grown_at hg HARR.out.lt (by omega) _).trans HX.out.2))
            have HARR := Lib.hid (HARR.out.grown hg (neq_of (by omega)))
            have HB3 := Lib.hid (below_grown HB3.out (Nat.le_refl _) hg (fun g e => by injection e with e; omega))
            clear hst hg
            (try clear HS)
            have HS := And.intro HWK.out HX.out
            go_wp2_with fail
            have hc := HARR.out.cell hlt
            have hf := HARR.out.thaw I
            refine hK.out _ _ ?_
            clear hK K
            try simp only [Act.put, List.setIfInBounds_toArray, List.set_cons_zero, List.set_cons_succ]
            refine Rg.takeP (i := 24) (oi := { dst := some 75, op := Op.indexAddr 22 (Operand.tmp 51) (Operand.tmp 52), type := 0, pos := "mat.go:127", after := #[{ on := 0, ground := Ground.data }, { on := 1, ground := Ground.data }, { on := 0, ground := Ground.phase }, { on := 1, ground := Ground.phase }, { on := 2, ground := Ground.phase }, { on := 3, ground := Ground.phase }, { on := 4, ground := Ground.phase }, { on := 5, ground := Ground.phase }, { on := 6, ground := Ground.phase }, { on := 7, ground := Ground.phase }, { on := 8, ground := Ground.phase }, { on := 9, ground := Ground.phase }, { on := 10, ground := Ground.phase }, { on := 11, ground := Ground.phase }, { on := 12, ground := Ground.phase }, { on := 13, ground := Ground.phase }, { on := 14, ground := Ground.phase }, { on := 15, ground := Ground.phase }, { on := 16, ground := Ground.phase }, { on := 17, ground := Ground.phase }, { on := 18, ground := Ground.phase }, { on := 19, ground := Ground.phase }, { on := 20, ground := Ground.phase }, { on := 21, ground := Ground.phase }, { on := 22, ground := Ground.phase }, { on := 23, ground := Ground.phase }], guard := none }) (v := ?_) rfl (by kernel_rfl) (fun _ _ _ h => h) (by rfl) ?_ ?_
            rotate_left 1
            · (intro w; go_simp; (try with_reducible rfl))
            try simp only [Act.put, List.setIfInBounds_toArray, List.set_cons_zero, List.set_cons_succ]
            refine Rg.oneR (i := 25) (oi := { dst := none, op := Op.store 3 (Operand.tmp 75) (Operand.tmp 74), type := 0, pos := "mat.go:127", after := #[{ on := 24, ground := Ground.data }, { on := 23, ground := Ground.data }, { on := 23, ground := Ground.chain }, { on := 0, ground := Ground.phase }, { on := 1, ground := Ground.phase }, { on := 2, ground := Ground.phase }, { on := 3, ground := Ground.phase }, { on := 4, ground := Ground.phase }, { on := 5, ground := Ground.phase }, { on := 6, ground := Ground.phase }, { on := 7, ground := Ground.phase }, { on := 8, ground := Ground.phase }, { on := 9, ground := Ground.phase }, { on := 10, ground := Ground.phase }, { on := 11, ground := Ground.phase }, { on := 12, ground := Ground.phase }, { on := 13, ground := Ground.phase }, { on := 14, ground := Ground.phase }, { on := 15, ground := Ground.phase }, { on := 16, ground := Ground.phase }, { on := 17, ground := Ground.phase }, { on := 18, ground := Ground.phase }, { on := 19, ground := Ground.phase }, { on := 20, ground := Ground.phase }, { on := 21, ground := Ground.phase }, { on := 22, ground := Ground.phase }, { on := 23, ground := Ground.phase }], guard := none }) rfl (by kernel_rfl) ?_
            refine Rg.stepF ?_ ?_
            · kernel_rfl
            intro K hK
            go_simp
            refine hK.out _ _ ?_
            clear hK K
            try simp only [Act.put, List.setIfInBounds_toArray, List.set_cons_zero, List.set_cons_succ]
            refine Rg.doneR (by kernel_rfl) ?_ _
            refine NoPanic.normal ?_
            (try clear HS)
            clear hc hf HX
            have HARR := Lib.hid ((HARR.out.set hlt t).congr fun q _ => put1_put1 _ _ _ _ q)
            have HK := Lib.hid (Blk.other HK.out (p := ⟨gx, I, none⟩) (by show _ ≠ gx; omega) (.int .i64 t))
            have HWK := Lib.hid (HWK.out.other (p := ⟨gx, I, none⟩) (by show _ ≠ gx; omega) (.int .i64 t))
            have HB3 := Lib.hid (HB3.out.setCell (p := ⟨gx, I, none⟩) (by show _ ≤ gx; omega) (.int .i64 t))
            generalize (w1'.setCell ⟨gx, I, none⟩ (.int .i64 t)) = w2' at *
            go_wp2_with fail
            refine ⟨⟨k + 1, by omega, by go_num, ⟨?_, HWK.out, ?_, HB3.out⟩⟩, by simp [intOf]; omega⟩
            · rw [HCH.out]
              have h := HK.out
              simp only [Bool.or_assoc] at h ⊢
              exact h
            · rw [HCH.out]
              exact HARR.out
          · obtain rfl : I = k := by omega
            clear hkI
            obtain ⟨⟨s, sb⟩, hs⟩ : ∃ r, lessW (L I) f (vf I) I = r := ⟨_, rfl⟩
            rw [hs] at HFS HK HARR
            clear hs
            simp only at HFS HK HARR
            go_wp2_with fail
            refine ⟨⟨I + 1, by omega, by go_num, ⟨?_, HWK.out, ?_, HB3.out⟩⟩, by simp [intOf]; omega⟩
            · rw [HFS.out]
              have h := HK.out
              simp only [Bool.or_assoc] at h ⊢
              exact h
            · rw [HFS.out]
              exact HARR.out.congr fun q _ => mixU_succ I f vf s q
      · obtain rfl : N = I := by omega
        clear hlt
        obtain ⟨⟨f, fb⟩, hf⟩ : ∃ r, fwdF L vf N = r := ⟨_, rfl⟩
        have HFR := Lib.hid (show ∀ k, In64 (f k) from by have h := fwdF_range L HVR.out N; rw [hf] at h; exact h)
        rw [hf] at HK HARR HSA
        clear hf
        simp only at HK HARR HSA
        have HARR := Lib.hid (HARR.out.congr (f' := f) fun k hk => mixU_lt _ _ hk)
        go_wp2_with fail
        clear kN
        generalize wr = wq1 at *
        go_loopw [80] (fun iv wr => ∃ I : Nat, I ≤ N ∧ iv = .int .i64 I ∧ SAt w3 wr #[.int .i64 (N : Int), .slice A3 l.length c3, .pointer (some ⟨gk, 0, none⟩)] gk gt gx N (mixU I (divF f df I).1 f) (b || fb || (divF f df I).2)) (fun iv _ => N - (intOf iv).toNat)
        case atStart => exact ⟨0, by omega, rfl, ⟨by simp only [divF, Bool.or_false]; exact HK.out, HWK.out, HARR.out.congr fun k _ => (mixU_zero _ _ k).symm, HB3.out⟩⟩
        case round =>
          clear HK HWK HARR HB3
          obtain ⟨I, hI, rfl, hat⟩ := hrel
          have HK := Lib.hid hat.bent
          have HWK := Lib.hid hat.work
          have HARR := Lib.hid hat.arr
          have HB3 := Lib.hid hat.bel
          clear hat
          have kN : wr.cell? ⟨w.heap.size, 0, none⟩ = some (.int .i64 (N : Int)) := ((HM.out.below HB3.out HM.out.lt).cell 0).trans rfl
          by_cases hlt : I < N
          · have HFS := Lib.hid (show divF f df (I + 1) = (put1 (divF f df I).1 I (fdiv (f I) (df I)).1, (divF f df I).2 || (fdiv (f I) (df I)).2) from rfl)
            generalize divF f df I = ff at *
            obtain ⟨z, zb⟩ := ff
            simp only at HFS HK HARR
            have hx1 := HARR.out.cell hlt
            rw [mixU_at] at hx1
            have hID : I < D.length := by have := HDL.out; omega
            obtain ⟨bd, od, u, rfl, hbD, hu, hcd⟩ := H4.out.at hID
            rw [intsV_at D _ hID] at hu
            injection hu with hu
            subst hu
            have hdI : D[I] = df I := by rw [← HDF.out]; simp [List.getD_eq_getElem?_getD, hID]
            rw [hdI] at hcd
            clear hdI
            have r_a := Lib.hid (HFR.out I)
            have r_d := Lib.hid (show In64 (df I) from by rw [← HDF.out]; exact HDR.out I)
            obtain ⟨a, ha⟩ : ∃ a, f I = a := ⟨_, rfl⟩
            rw [ha] at HFS r_a hx1
            obtain ⟨d, hd⟩ : ∃ a, df I = a := ⟨_, rfl⟩
            rw [hd] at HFS r_d hcd
            clear ha hd
            obtain ⟨⟨v, vb⟩, hv⟩ : ∃ r, fdiv a d = r := ⟨_, rfl⟩
            have V_ := Lib.hid hv
            rw [hv] at HFS
            simp only at HFS
            clear hv
            have HCD := Lib.hid (show ∀ w', Below w3.heap.size w3 w' → w'.cell? ⟨bd, od + I, none⟩ = some (.int .i64 d) from fun w' h => (below_cell h _ _ hbD).trans hcd)
            have hlt1 : (I : Int) < (N : Int) := by omega
            have hID1 : (I : Int) < (D.length : Int) := by omega
            have HX := Lib.hid hx1
            clear hx1 kN hcd
            go_upto_region 20 with fail
            have HK := Lib.hid (Blk.drew HK.out)
            have HWK := Lib.hid HWK.out.drew
            have HARR := Lib.hid HARR.out.drew
            have HX : Hid (wr.drew.cell? ⟨gx, I, none⟩ = some (.int .i64 a)) := Lib.hid HX.out
            have HB3 := Lib.hid HB3.out.drew
            have HS := And.intro HWK.out (And.intro HX.out (HCD.out _ HB3.out))
            refine wp_region_noPanic ?_
            refine Rg.beginR [2, 6, 10] (fun w' => Blk w' gt 47 #[.int .i64 (N : Int), .slice A3 l.length c3, .pointer (some ⟨gk, 0, none⟩)] ∧ w'.cell? ⟨gx, I, none⟩ = some (.int .i64 a) ∧ w'.cell? ⟨bd, od + I, none⟩ = some (.int .i64 d)) (by kernel_rfl) ?_
            generalize wr.drew = w1' at *
            refine Rg.takeP (i := 0) (oi := { dst := some 83, op := Op.move (Operand.tmp 12), type := 22, pos := "mat.go:131", after := #[], guard := none }) (v := ?_) rfl (by kernel_rfl) (fun _ _ _ h => h) (by rfl) ?_ ?_
            rotate_left 1
            · (intro w; go_simp; (try with_reducible rfl))
            try simp only [Act.put, List.setIfInBounds_toArray, List.set_cons_zero, List.set_cons_succ]
            refine Rg.takeP (i := 1) (oi := { dst := some 84, op := Op.move (Operand.tmp 15), type := 3, pos := "mat.go:131", after := #[], guard := none }) (v := ?_) rfl (by kernel_rfl) (fun _ _ _ h => h) (by rfl) ?_ ?_
            rotate_left 1
            · (intro w; go_simp; (try with_reducible rfl))
            try simp only [Act.put, List.setIfInBounds_toArray, List.set_cons_zero, List.set_cons_succ]
            refine Rg.takeS (i := 2) (oi := { dst := some 85, op := Op.load 47 (Operand.tmp 11), type := 47, pos := "mat.go:131", after := #[], guard := none }) (v := .agg #[.int .i64 (N : Int), .slice A3 l.length c3, .pointer (some ⟨gk, 0, none⟩)]) rfl (by kernel_rfl) (fun _ _ _ h => h) (by rfl) HS ?_ ?_
            · (intro w' hSw; exact exec_load_st 47 (.tmp 11) rfl gt rfl hSw.1 Try.underlying47 rfl (by kernel_rfl))
            try simp only [Act.put, List.setIfInBounds_toArray, List.set_cons_zero, List.set_cons_succ]
            refine Rg.takeP (i := 3) (oi := { dst := some 86, op := Op.move (Operand.tmp 12), type := 22, pos := "mat.go:131", after := #[], guard := none }) (v := ?_) rfl (by kernel_rfl) (fun _ _ _ h => h) (by rfl) ?_ ?_
            rotate_left 1
            · (intro w; go_simp; (try with_reducible rfl))
            try simp only [Act.put, List.setIfInBounds_toArray, List.set_cons_zero, List.set_cons_succ]
            refine Rg.takeP (i := 4) (oi := { dst := some 87, op := Op.move (Operand.tmp 15), type := 3, pos := "mat.go:131", after := #[], guard := none }) (v := ?_) rfl (by kernel_rfl) (fun _ _ _ h => h) (by rfl) ?_ ?_
            rotate_left 1
            · (intro w; go_simp; (try with_reducible rfl))
            try simp only [Act.put, List.setIfInBounds_toArray, List.set_cons_zero, List.set_cons_succ]
            refine Rg.takeP (i := 5) (oi := { dst := some 88, op := Op.indexAddr 22 (Operand.tmp 86) (Operand.tmp 87), type := 0, pos := "mat.go:131", after := #[{ on := 3, ground := Ground.data }, { on := 4, ground := Ground.data }], guard := none }) (v := ?_) rfl (by kernel_rfl) (fun _ _ _ h => h) (by rfl) ?_ ?_
            rotate_left 1
            · (intro w; go_simp; (try with_reducible rfl))
            try simp only [Act.put, List.setIfInBounds_toArray, List.set_cons_zero, List.set_cons_succ]
            refine Rg.takeS (i := 6) (oi := { dst := some 89, op := Op.load 3 (Operand.tmp 88), type := 3, pos := "mat.go:131", after := #[{ on := 5, ground := Ground.data }], guard := none }) (v := ?_) rfl (by kernel_rfl) (fun _ _ _ h => h) (by rfl) HS ?_ ?_
            rotate_left 1
            · (intro w hSw; (try dsimp only at hSw); (try go_split_ands); go_simp; (try with_reducible rfl))
            try simp only [Act.put, List.setIfInBounds_toArray, List.set_cons_zero, List.set_cons_succ]
            refine Rg.takeP (i := 7) (oi := { dst := some 90, op := Op.move (Operand.tmp 8), type := 22, pos := "mat.go:131", after := #[], guard := none }) (v := ?_) rfl (by kernel_rfl) (fun _ _ _ h => h) (by rfl) ?_ ?_
            rotate_left 1
            · (intro w; go_simp; (try with_reducible rfl))
            try simp only [Act.put, List.setIfInBounds_toArray, List.set_cons_zero, List.set_cons_succ]
            refine Rg.takeP (i := 8) (oi := { dst := some 91, op := Op.move (Operand.tmp 15), type := 3, pos := "mat.go:131", after := #[], guard := none }) (v := ?_) rfl (by kernel_rfl) (fun _ _ _ h => h) (by rfl) ?_ ?_
            rotate_left 1
            · (intro w; go_simp; (try with_reducible rfl))
            try simp only [Act.put, List.setIfInBounds_toArray, List.set_cons_zero, List.set_cons_succ]
            refine Rg.takeP (i := 9) (oi := { dst := some 92, op := Op.indexAddr 22 (Operand.tmp 90) (Operand.tmp 91), type := 0, pos := "mat.go:131", after := #[{ on := 7, ground := Ground.data }, { on := 8, ground := Ground.data }], guard := none }) (v := ?_) rfl (by kernel_rfl) (fun _ _ _ h => h) (by rfl) ?_ ?_
            rotate_left 1
            · (intro w; go_simp; (try with_reducible rfl))
            try simp only [Act.put, List.setIfInBounds_toArray, List.set_cons_zero, List.set_cons_succ]
            refine Rg.takeS (i := 10) (oi := { dst := some 93, op := Op.load 3 (Operand.tmp 92), type := 3, pos := "mat.go:131", after := #[{ on := 9, ground := Ground.data }], guard := none }) (v := ?_) rfl (by kernel_rfl) (fun _ _ _ h => h) (by rfl) HS ?_ ?_
            rotate_left 1
            · (intro w hSw; (try dsimp only at hSw); (try go_split_ands); go_simp; (try with_reducible rfl))
            try simp only [Act.put, List.setIfInBounds_toArray, List.set_cons_zero, List.set_cons_succ]
            refine Rg.oneR (i := 11) (oi := { dst := some 94, op := Op.call { callee := Callee.value (Operand.func 27), args := #[Operand.tmp 89, Operand.tmp 93], argTypes := #[3, 3] }, type := 42, pos := "mat.go:131", after := #[{ on := 6, ground := Ground.data }, { on := 10, ground := Ground.data }], guard := none }) rfl (by kernel_rfl) ?_
            refine Rg.stepS ?_
            intro K hK
            rw [if_pos (by rfl)]
            go_simp
            go_at_call 27
            refine (fixDiv_any a d _ r_a.out r_d.out).mono ?_
            rintro e w1' ⟨rfl, hb⟩
            rw [V_.out]
            have HK := Lib.hid (Blk.below HK.out hb (Blk.lt HK.out))
            have HWK := Lib.hid (HWK.out.below hb HWK.out.lt)
            have HX := Lib.hid ((below_cell hb _ _ HARR.out.lt).trans HX.out)
            have HARR := Lib.hid (HARR.out.below hb HARR.out.lt)
            have HB3 := Lib.hid (onward HB3.out (Nat.le_refl _) hb)
            clear hb
            (try clear HS)
            have HS := And.intro HWK.out (And.intro HX.out (HCD.out _ HB3.out))
            go_wp2_with fail
            refine hK.out _ _ HS ?_
            clear hK K
            try simp only [Act.put, List.setIfInBounds_toArray, List.set_cons_zero, List.set_cons_succ]
            refine Rg.takeP (i := 12) (oi := { dst := some 95, op := Op.extract (Operand.tmp 94) 0, type := 3, pos := "mat.go:131", after := #[{ on := 11, ground := Ground.data }], guard := none }) (v := ?_) rfl (by kernel_rfl) (fun _ _ _ h => h) (by rfl) ?_ ?_
            rotate_left 1
            · (intro w; go_simp; (try with_reducible rfl))
            try simp only [Act.put, List.setIfInBounds_toArray, List.set_cons_zero, List.set_cons_succ]
            refine Rg.takeP (i := 13) (oi := { dst := some 96, op := Op.extract (Operand.tmp 94) 1, type := 4, pos := "mat.go:131", after := #[{ on := 11, ground := Ground.data }], guard := none }) (v := ?_) rfl (by kernel_rfl) (fun _ _ _ h => h) (by rfl) ?_ ?_
            rotate_left 1
            · (intro w; go_simp; (try with_reducible rfl))
            try simp only [Act.put, List.setIfInBounds_toArray, List.set_cons_zero, List.set_cons_succ]
            refine Rg.oneR (i := 14) (oi := { dst := some 97, op := Op.call { callee := Callee.value (Operand.func 26), args := #[Operand.tmp 85, Operand.tmp 95, Operand.tmp 96], argTypes := #[47, 3, 4] }, type := 3, pos := "mat.go:131", after := #[{ on := 2, ground := Ground.data }, { on := 12, ground := Ground.data }, { on := 13, ground := Ground.data }, { on := 11, ground := Ground.chain }], guard := none }) rfl (by kernel_rfl) ?_
            refine Rg.stepF ?_ ?_
            · kernel_rfl
            intro K hK
            rw [if_pos (by rfl)]
            go_simp
            go_at_call 26
            refine (see_any (N : Int) A3 l.length c3 gk _ v vb _ HK.out).mono ?_
            rintro e w1' ⟨rfl, hst, hg⟩
            have HK := Lib.hid hst
            have HWK := Lib.hid (HWK.out.grown hg (neq_of (by omega)))
            have HX := Lib.hid ((grown_at hg HARR.out.lt (by omega) _).trans HX.out)
            have HARR := Lib.hid (HARR.out.grown hg (neq_of (by omega)))
            have HB3 := Lib.hid (below_grown HB3.out (Nat.le_refl _) hg (fun g e => by injection e with e; omega))
            clear hst hg
            (try clear HS)
            have HS := And.intro HWK.out (And.intro HX.out (HCD.out _ HB3.out))
            go_wp2_with fail
            have hc := HARR.out.cell hlt
            have hf := HARR.out.thaw I
            refine hK.out _ _ ?_
            clear hK K
            try simp only [Act.put, List.setIfInBounds_toArray, List.set_cons_zero, List.set_cons_succ]
            refine Rg.takeP (i := 15) (oi := { dst := some 98, op := Op.indexAddr 22 (Operand.tmp 83) (Operand.tmp 84), type := 0, pos := "mat.go:131", after := #[{ on := 0, ground := Ground.data }, { on := 1, ground := Ground.data }, { on := 0, ground := Ground.phase }, { on := 1, ground := Ground.phase }, { on := 2, ground := Ground.phase }, { on := 3, ground := Ground.phase }, { on := 4, ground := Ground.phase }, { on := 5, ground := Ground.phase }, { on := 6, ground := Ground.phase }, { on := 7, ground := Ground.phase }, { on := 8, ground := Ground.phase }, { on := 9, ground := Ground.phase }, { on := 10, ground := Ground.phase }, { on := 11, ground := Ground.phase }, { on := 12, ground := Ground.phase }, { on := 13, ground := Ground.phase }, { on := 14, ground := Ground.phase }], guard := none }) (v := ?_) rfl (by kernel_rfl) (fun _ _ _ h => h) (by rfl) ?_ ?_
            rotate_left 1
            · (intro w; go_simp; (try with_reducible rfl))
            try simp only [Act.put, List.setIfInBounds_toArray, List.set_cons_zero, List.set_cons_succ]
            refine Rg.oneR (i := 16) (oi := { dst := none, op := Op.store 3 (Operand.tmp 98) (Operand.tmp 97), type := 0, pos := "mat.go:131", after := #[{ on := 15, ground := Ground.data }, { on := 14, ground := Ground.data }, { on := 14, ground := Ground.chain }, { on := 0, ground := Ground.phase }, { on := 1, ground := Ground.phase }, { on := 2, ground := Ground.phase }, { on := 3, ground := Ground.phase }, { on := 4, ground := Ground.phase }, { on := 5, ground := Ground.phase }, { on := 6, ground := Ground.phase }, { on := 7, ground := Ground.phase }, { on := 8, ground := Ground.phase }, { on := 9, ground := Ground.phase }, { on := 10, ground := Ground.phase }, { on := 11, ground := Ground.phase }, { on := 12, ground := Ground.phase }, { on := 13, ground := Ground.phase }, { on := 14, ground := Ground.phase }], guard := none }) rfl (by kernel_rfl) ?_
            refine Rg.stepF ?_ ?_
            · kernel_rfl
            intro K hK
            go_simp
            refine hK.out _ _ ?_
            clear hK K
            try simp only [Act.put, List.setIfInBounds_toArray, List.set_cons_zero, List.set_cons_succ]
            refine Rg.doneR (by kernel_rfl) ?_ _
            refine NoPanic.normal ?_
            (try clear HS)
            clear hc hf HX
            have HARR := Lib.hid (HARR.out.set hlt v)
            have HK := Lib.hid (Blk.other HK.out (p := ⟨gx, I, none⟩) (by show _ ≠ gx; omega) (.int .i64 v))
            have HWK := Lib.hid (HWK.out.other (p := ⟨gx, I, none⟩) (by show _ ≠ gx; omega) (.int .i64 v))
            have HB3 := Lib.hid (HB3.out.setCell (p := ⟨gx, I, none⟩) (by show _ ≤ gx; omega) (.int .i64 v))
            generalize (w1'.setCell ⟨gx, I, none⟩ (.int .i64 v)) = w2' at *
            go_wp2_with fail
            refine ⟨⟨I + 1, by omega, by go_num, ⟨?_, HWK.out, ?_, HB3.out⟩⟩, by simp [intOf]; omega⟩
            · rw [HFS.out]
              have h := HK.out
              simp only [Bool.or_assoc] at h ⊢
              exact h
            · rw [HFS.out]
              exact HARR.out.congr fun q _ => mixU_succ I z f v q
          · obtain rfl : N = I := by omega
            clear hlt
            obtain ⟨⟨z, zb⟩, hz⟩ : ∃ r, divF f df N = r := ⟨_, rfl⟩
            have HZR := Lib.hid (show ∀ k, In64 (z k) from by have h := divF_range f df N; rw [hz] at h; exact h)
            rw [hz] at HK HARR HSA
            clear hz
            simp only at HK HARR HSA
            have HARR := Lib.hid (HARR.out.congr (f' := z) fun k hk => mixU_lt _ _ hk)
            go_wp2_with fail
            clear kN
            generalize wr = wq2 at *
            go_loopw [16] (fun iv wr => ∃ t : Nat, t ≤ N ∧ iv = .int .i64 ((N : Int) - 1 - (t : Int)) ∧ SAt w3 wr #[.int .i64 (N : Int), .slice A3 l.length c3, .pointer (some ⟨gk, 0, none⟩)] gk gt gx N (mixD (N - t) (bakF N L z t).1 z) (b || fb || zb || (bakF N L z t).2)) (fun iv _ => ((intOf iv) + 1).toNat)
            case atStart => exact ⟨0, by omega, by go_num, ⟨by simp only [bakF, Bool.or_false]; exact HK.out, HWK.out, HARR.out.congr fun k hk => (mixD_lt _ _ (by omega)).symm, HB3.out⟩⟩
            case round =>
              clear HK HWK HARR HB3
              obtain ⟨t, ht, rfl, hat⟩ := hrel
              have HK := Lib.hid hat.bent
              have HWK := Lib.hid hat.work
              have HARR := Lib.hid hat.arr
              have HB3 := Lib.hid hat.bel
              clear hat
              have kN : wr.cell? ⟨w.heap.size, 0, none⟩ = some (.int .i64 (N : Int)) := ((HM.out.below HB3.out HM.out.lt).cell 0).trans rfl
              by_cases hlt : t < N
              · obtain ⟨i, hi⟩ : ∃ i, N - 1 - t = i := ⟨_, rfl⟩
                have hiv : (N : Int) - 1 - (t : Int) = (i : Int) := by omega
                have HIV := Lib.hid hiv
                rw [hiv]
                have HFS := Lib.hid (show bakF N L z (t + 1) = (put1 (bakF N L z t).1 i (lessW (fun m => L (i + 1 + m) i) (fun m => (bakF N L z t).1 (i + 1 + m)) (z i) t).1, (bakF N L z t).2 || (lessW (fun m => L (i + 1 + m) i) (fun m => (bakF N L z t).1 (i + 1 + m)) (z i) t).2) from by rw [← hi]; rfl)
                have HFR := Lib.hid (bakF_range N L HZR.out t)
                rw [show N - t = i + 1 by omega] at HARR
                have HIT := Lib.hid (show N = i + 1 + t by omega)
                have hiN : i < N := by omega
                clear hi hiv
                generalize bakF N L z t = ff at *
                obtain ⟨f3, gb⟩ := ff
                simp only at HFS HFR HK HARR
                have hiN1 : (i : Int) < (N : Int) := by omega
                have hi0 : (0 : Int) ≤ (i : Int) := by omega
                go_wp2_with fail
                generalize wr = wq3 at *
                go_loopw [17] (fun kv wr => ∃ m : Nat, m ≤ t ∧ kv = .int .i64 ((i + 1 + m : Nat) : Int) ∧ SAt w3 wr #[.int .i64 (N : Int), .slice A3 l.length c3, .pointer (some ⟨gk, 0, none⟩)] gk gt gx N (put1 (mixD (i + 1) f3 z) i (lessW (fun m => L (i + 1 + m) i) (fun m => f3 (i + 1 + m)) (z i) m).1) (b || fb || zb || gb || (lessW (fun m => L (i + 1 + m) i) (fun m => f3 (i + 1 + m)) (z i) m).2)) (fun kv _ => N - (intOf kv).toNat)
                case atStart => exact ⟨0, by omega, by go_num, ⟨by simp only [lessW, Bool.or_false]; exact HK.out, HWK.out, HARR.out.congr fun k _ => by (simp only [lessW]; rw [← mixD_lt f3 z (show i < i + 1 by omega)]; exact (put1_self _ _ _).symm), HB3.out⟩⟩
                case round =>
                  clear HK HWK HARR HB3
                  obtain ⟨m, hm, rfl, hat⟩ := hrel
                  have HK := Lib.hid hat.bent
                  have HWK := Lib.hid hat.work
                  have HARR := Lib.hid hat.arr
                  have HB3 := Lib.hid hat.bel
                  clear hat
                  have kN : wr.cell? ⟨w.heap.size, 0, none⟩ = some (.int .i64 (N : Int)) := ((HM.out.below HB3.out HM.out.lt).cell 0).trans rfl
                  by_cases hmt : m < t
                  · obtain ⟨k, hk⟩ : ∃ k, i + 1 + m = k := ⟨_, rfl⟩
                    have hkN : k < N := by have := HIT.out; omega
                    have hik : i < k := by omega
                    rw [hk]
                    have HCH := Lib.hid (show lessW (fun m => L (i + 1 + m) i) (fun m => f3 (i + 1 + m)) (z i) (m + 1) = ((fsub (lessW (fun m => L (i + 1 + m) i) (fun m => f3 (i + 1 + m)) (z i) m).1 (fmul (L k i) (f3 k)).1).1, (lessW (fun m => L (i + 1 + m) i) (fun m => f3 (i + 1 + m)) (z i) m).2 || (fmul (L k i) (f3 k)).2 || (fsub (lessW (fun m => L (i + 1 + m) i) (fun m => f3 (i + 1 + m)) (z i) m).1 (fmul (L k i) (f3 k)).1).2) from by rw [← hk]; rfl)
                    have HKK := Lib.hid hk
                    clear hk
                    have r_s := Lib.hid (lessW_range (fun m => L (i + 1 + m) i) (fun m => f3 (i + 1 + m)) (HZR.out i) m)
                    have hx2 := HARR.out.cell hkN
                    rw [put1_other _ _ (by omega), mixD_ge _ _ (by omega)] at hx2
                    generalize lessW (fun m => L (i + 1 + m) i) (fun m => f3 (i + 1 + m)) (z i) m = ch at *
                    obtain ⟨s, sb⟩ := ch
                    simp only at HCH r_s HK HARR
                    have hx1 := HARR.out.cell hiN
                    rw [put1_same] at hx1
                    have r_x := Lib.hid (HFR.out k)
                    have r_a := Lib.hid (HLR.out k i)
                    have HAE := Lib.hid (HLA.out k i hkN hiN)
                    obtain ⟨a, ha⟩ : ∃ a, L k i = a := ⟨_, rfl⟩
                    rw [ha] at HCH r_a HAE
                    obtain ⟨x, hx⟩ : ∃ x, f3 k = x := ⟨_, rfl⟩
                    rw [hx] at HCH r_x hx2
                    clear ha hx
                    obtain ⟨⟨p, pb⟩, hp⟩ : ∃ r, fmul a x = r := ⟨_, rfl⟩
                    have r_p := Lib.hid (show In64 p from by have h := fmul_range a x; rw [hp] at h; exact h)
                    have P_ := Lib.hid hp
                    rw [hp] at HCH
                    (try simp only at HCH)
                    clear hp
                    obtain ⟨⟨t, tb⟩, ht⟩ : ∃ r, fsub s p = r := ⟨_, rfl⟩
                    have r_t := Lib.hid (show In64 t from by have h := fsub_range s p; rw [ht] at h; exact h)
                    have T_ := Lib.hid ht
                    rw [ht] at HCH
                    (try simp only at HCH)
                    clear ht
                    have hkN1 : (k : Int) < (N : Int) := by omega
                    have HX := Lib.hid (And.intro hx1 hx2)
                    clear hx1 hx2
                    go_upto_region 28 with fail
                    clear kN
                    have HK := Lib.hid (Blk.drew HK.out)
                    have HWK := Lib.hid HWK.out.drew
                    have HARR := Lib.hid HARR.out.drew
                    have HX : Hid (wr.drew.cell? ⟨gx, i, none⟩ = some (.int .i64 s) ∧ wr.drew.cell? ⟨gx, k, none⟩ = some (.int .i64 x)) := Lib.hid HX.out
                    have HB3 := Lib.hid HB3.out.drew
                    have HS := And.intro HWK.out HX.out
                    refine wp_region_noPanic ?_
                    refine Rg.beginR [2, 6, 7, 8, 15] (fun w' => Blk w' gt 47 #[.int .i64 (N : Int), .slice A3 l.length c3, .pointer (some ⟨gk, 0, none⟩)] ∧ w'.cell? ⟨gx, i, none⟩ = some (.int .i64 s) ∧ w'.cell? ⟨gx, k, none⟩ = some (.int .i64 x)) (by kernel_rfl) ?_
                    generalize wr.drew = w1' at *
                    refine Rg.takeP (i := 0) (oi := { dst := some 115, op := Op.move (Operand.tmp 12), type := 22, pos := "mat.go:135", after := #[], guard := none }) (v := ?_) rfl (by kernel_rfl) (fun _ _ _ h => h) (by rfl) ?_ ?_
                    rotate_left 1
                    · (intro w; go_simp; (try with_reducible rfl))
                    try simp only [Act.put, List.setIfInBounds_toArray, List.set_cons_zero, List.set_cons_succ]
                    refine Rg.takeP (i := 1) (oi := { dst := some 116, op := Op.move (Operand.tmp 16), type := 3, pos := "mat.go:135", after := #[], guard := none }) (v := ?_) rfl (by kernel_rfl) (fun _ _ _ h => h) (by rfl) ?_ ?_
                    rotate_left 1
                    · (intro w; go_simp; (try with_reducible rfl))
                    try simp only [Act.put, List.setIfInBounds_toArray, List.set_cons_zero, List.set_cons_succ]
                    refine Rg.takeS (i := 2) (oi := { dst := some 117, op := Op.load 47 (Operand.tmp 11), type := 47, pos := "mat.go:135", after := #[], guard := none }) (v := .agg #[.int .i64 (N : Int), .slice A3 l.length c3, .pointer (some ⟨gk, 0, none⟩)]) rfl (by kernel_rfl) (fun _ _ _ h => h) (by rfl) HS ?_ ?_
                    · (intro w' hSw; exact exec_load_st 47 (.tmp 11) rfl gt rfl hSw.1 Try.underlying47 rfl (by kernel_rfl))
                    try simp only [Act.put, List.setIfInBounds_toArray, List.set_cons_zero, List.set_cons_succ]
                    refine Rg.takeP (i := 3) (oi := { dst := some 118, op := Op.move (Operand.tmp 12), type := 22, pos := "mat.go:135", after := #[], guard := none }) (v := ?_) rfl (by kernel_rfl) (fun _ _ _ h => h) (by rfl) ?_ ?_
                    rotate_left 1
                    · (intro w; go_simp; (try with_reducible rfl))
                    try simp only [Act.put, List.setIfInBounds_toArray, List.set_cons_zero, List.set_cons_succ]
                    refine Rg.takeP (i := 4) (oi := { dst := some 119, op := Op.move (Operand.tmp 16), type := 3, pos := "mat.go:135", after := #[], guard := none }) (v := ?_) rfl (by kernel_rfl) (fun _ _ _ h => h) (by rfl) ?_ ?_
                    rotate_left 1
                    · (intro w; go_simp; (try with_reducible rfl))
                    try simp only [Act.put, List.setIfInBounds_toArray, List.set_cons_zero, List.set_cons_succ]
                    refine Rg.takeP (i := 5) (oi := { dst := some 120, op := Op.indexAddr 22 (Operand.tmp 118) (Operand.tmp 119), type := 0, pos := "mat.go:135", after := #[{ on := 3, ground := Ground.data }, { on := 4, ground := Ground.data }], guard := none }) (v := ?_) rfl (by kernel_rfl) (fun _ _ _ h => h) (by rfl) ?_ ?_
                    rotate_left 1
                    · (intro w; go_simp; (try with_reducible rfl))
                    try simp only [Act.put, List.setIfInBounds_toArray, List.set_cons_zero, List.set_cons_succ]
                    refine Rg.takeS (i := 6) (oi := { dst := some 121, op := Op.load 3 (Operand.tmp 120), type := 3, pos := "mat.go:135", after := #[{ on := 5, ground := Ground.data }], guard := none }) (v := ?_) rfl (by kernel_rfl) (fun _ _ _ h => h) (by rfl) HS ?_ ?_
                    rotate_left 1
                    · (intro w hSw; (try dsimp only at hSw); (try go_split_ands); go_simp; (try with_reducible rfl))
                    try simp only [Act.put, List.setIfInBounds_toArray, List.set_cons_zero, List.set_cons_succ]
                    refine Rg.takeS (i := 7) (oi := { dst := some 122, op := Op.load 47 (Operand.tmp 11), type := 47, pos := "mat.go:135", after := #[], guard := none }) (v := .agg #[.int .i64 (N : Int), .slice A3 l.length c3, .pointer (some ⟨gk, 0, none⟩)]) rfl (by kernel_rfl) (fun _ _ _ h => h) (by rfl) HS ?_ ?_
                    · (intro w' hSw; exact exec_load_st 47 (.tmp 11) rfl gt rfl hSw.1 Try.underlying47 rfl (by kernel_rfl))
                    try simp only [Act.put, List.setIfInBounds_toArray, List.set_cons_zero, List.set_cons_succ]
                    refine Rg.takeS (i := 8) (oi := { dst := some 123, op := Op.load 47 (Operand.tmp 11), type := 47, pos := "mat.go:135", after := #[], guard := none }) (v := .agg #[.int .i64 (N : Int), .slice A3 l.length c3, .pointer (some ⟨gk, 0, none⟩)]) rfl (by kernel_rfl) (fun _ _ _ h => h) (by rfl) HS ?_ ?_
                    · (intro w' hSw; exact exec_load_st 47 (.tmp 11) rfl gt rfl hSw.1 Try.underlying47 rfl (by kernel_rfl))
                    try simp only [Act.put, List.setIfInBounds_toArray, List.set_cons_zero, List.set_cons_succ]
                    refine Rg.takeP (i := 9) (oi := { dst := some 124, op := Op.move (Operand.tmp 17), type := 3, pos := "mat.go:135", after := #[], guard := none }) (v := ?_) rfl (by kernel_rfl) (fun _ _ _ h => h) (by rfl) ?_ ?_
                    rotate_left 1
                    · (intro w; go_simp; (try with_reducible rfl))
                    try simp only [Act.put, List.setIfInBounds_toArray, List.set_cons_zero, List.set_cons_succ]
                    refine Rg.takeP (i := 10) (oi := { dst := some 125, op := Op.move (Operand.tmp 16), type := 3, pos := "mat.go:135", after := #[], guard := none }) (v := ?_) rfl (by kernel_rfl) (fun _ _ _ h => h) (by rfl) ?_ ?_
                    rotate_left 1
                    · (intro w; go_simp; (try with_reducible rfl))
                    try simp only [Act.put, List.setIfInBounds_toArray, List.set_cons_zero, List.set_cons_succ]
                    refine Rg.takeP (i := 12) (oi := { dst := some 127, op := Op.move (Operand.tmp 12), type := 22, pos := "mat.go:135", after := #[], guard := none }) (v := ?_) rfl (by kernel_rfl) (fun _ _ _ h => h) (by rfl) ?_ ?_
                    rotate_left 1
                    · (intro w; go_simp; (try with_reducible rfl))
                    try simp only [Act.put, List.setIfInBounds_toArray, List.set_cons_zero, List.set_cons_succ]
                    refine Rg.takeP (i := 13) (oi := { dst := some 128, op := Op.move (Operand.tmp 17), type := 3, pos := "mat.go:135", after := #[], guard := none }) (v := ?_) rfl (by kernel_rfl) (fun _ _ _ h => h) (by rfl) ?_ ?_
                    rotate_left 1
                    · (intro w; go_simp; (try with_reducible rfl))
                    try simp only [Act.put, List.setIfInBounds_toArray, List.set_cons_zero, List.set_cons_succ]
                    refine Rg.takeP (i := 14) (oi := { dst := some 129, op := Op.indexAddr 22 (Operand.tmp 127) (Operand.tmp 128), type := 0, pos := "mat.go:135", after := #[{ on := 12, ground := Ground.data }, { on := 13, ground := Ground.data }], guard := none }) (v := ?_) rfl (by kernel_rfl) (fun _ _ _ h => h) (by rfl) ?_ ?_
                    rotate_left 1
                    · (intro w; go_simp; (try with_reducible rfl))
                    try simp only [Act.put, List.setIfInBounds_toArray, List.set_cons_zero, List.set_cons_succ]
                    refine Rg.takeS (i := 15) (oi := { dst := some 130, op := Op.load 3 (Operand.tmp 129), type := 3, pos := "mat.go:135", after := #[{ on := 14, ground := Ground.data }], guard := none }) (v := ?_) rfl (by kernel_rfl) (fun _ _ _ h => h) (by rfl) HS ?_ ?_
                    rotate_left 1
                    · (intro w hSw; (try dsimp only at hSw); (try go_split_ands); go_simp; (try with_reducible rfl))
                    try simp only [Act.put, List.setIfInBounds_toArray, List.set_cons_zero, List.set_cons_succ]
                    refine Rg.oneR (i := 11) (oi := { dst := some 126, op := Op.call { callee := Callee.value (Operand.func 36), args := #[Operand.tmp 123, Operand.tmp 124, Operand.tmp 125], argTypes := #[47, 3, 3] }, type := 3, pos := "mat.go:135", after := #[{ on := 8, ground := Ground.data }, { on := 9, ground := Ground.data }, { on := 10, ground := Ground.data }], guard := none }) rfl (by kernel_rfl) ?_
                    refine Rg.stepS ?_
                    intro K hK
                    rw [if_pos (by rfl)]
                    go_simp
                    go_at_call 36
                    refine (at_any N k i A3 c3 l gk _ ((H3.out.below HB3.out).more HB3.out.size) (HLI.out _ _ hkN hiN) HLL.out).mono ?_
                    rintro e w1' ⟨rfl, hb⟩
                    rw [HAE.out]
                    have HK := Lib.hid (Blk.below HK.out hb (Blk.lt HK.out))
                    have HWK := Lib.hid (HWK.out.below hb HWK.out.lt)
                    have HX := Lib.hid (And.intro ((below_cell hb _ _ HARR.out.lt).trans HX.out.1) ((below_cell hb _ _ HARR.out.lt).trans HX.out.2))
                    have HARR := Lib.hid (HARR.out.below hb HARR.out.lt)
                    have HB3 := Lib.hid (onward HB3.out (Nat.le_refl _) hb)
                    clear hb
                    (try clear HS)
                    have HS := And.intro HWK.out HX.out
                    go_wp2_with fail
                    refine hK.out _ _ HS ?_
                    clear hK K
                    try simp only [Act.put, List.setIfInBounds_toArray, List.set_cons_zero, List.set_cons_succ]
                    refine Rg.oneR (i := 16) (oi := { dst := some 131, op := Op.call { callee := Callee.value (Operand.func 35), args := #[Operand.tmp 126, Operand.tmp 130], argTypes := #[3, 3] }, type := 42, pos := "mat.go:135", after := #[{ on := 11, ground := Ground.data }, { on := 15, ground := Ground.data }, { on := 11, ground := Ground.chain }], guard := none }) rfl (by kernel_rfl) ?_
                    refine Rg.stepS ?_
                    intro K hK
                    rw [if_pos (by rfl)]
                    go_simp
                    go_at_call 35
                    refine (fixMul_any a x _ r_a.out r_x.out).mono ?_
                    rintro e w1' ⟨rfl, hb⟩
                    rw [P_.out]
                    have HK := Lib.hid (Blk.below HK.out hb (Blk.lt HK.out))
                    have HWK := Lib.hid (HWK.out.below hb HWK.out.lt)
                    have HX := Lib.hid (And.intro ((below_cell hb _ _ HARR.out.lt).trans HX.out.1) ((below_cell hb _ _ HARR.out.lt).trans HX.out.2))
                    have HARR := Lib.hid (HARR.out.below hb HARR.out.lt)
                    have HB3 := Lib.hid (onward HB3.out (Nat.le_refl _) hb)
                    clear hb
                    (try clear HS)
                    have HS := And.intro HWK.out HX.out
                    go_wp2_with fail
                    refine hK.out _ _ HS ?_
                    clear hK K
                    try simp only [Act.put, List.setIfInBounds_toArray, List.set_cons_zero, List.set_cons_succ]
                    refine Rg.takeP (i := 17) (oi := { dst := some 132, op := Op.extract (Operand.tmp 131) 0, type := 3, pos := "mat.go:135", after := #[{ on := 16, ground := Ground.data }], guard := none }) (v := ?_) rfl (by kernel_rfl) (fun _ _ _ h => h) (by rfl) ?_ ?_
                    rotate_left 1
                    · (intro w; go_simp; (try with_reducible rfl))
                    try simp only [Act.put, List.setIfInBounds_toArray, List.set_cons_zero, List.set_cons_succ]
                    refine Rg.takeP (i := 18) (oi := { dst := some 133, op := Op.extract (Operand.tmp 131) 1, type := 4, pos := "mat.go:135", after := #[{ on := 16, ground := Ground.data }], guard := none }) (v := ?_) rfl (by kernel_rfl) (fun _ _ _ h => h) (by rfl) ?_ ?_
                    rotate_left 1
                    · (intro w; go_simp; (try with_reducible rfl))
                    try simp only [Act.put, List.setIfInBounds_toArray, List.set_cons_zero, List.set_cons_succ]
                    refine Rg.oneR (i := 19) (oi := { dst := some 134, op := Op.call { callee := Callee.value (Operand.func 26), args := #[Operand.tmp 122, Operand.tmp 132, Operand.tmp 133], argTypes := #[47, 3, 4] }, type := 3, pos := "mat.go:135", after := #[{ on := 7, ground := Ground.data }, { on := 17, ground := Ground.data }, { on := 18, ground := Ground.data }, { on := 16, ground := Ground.chain }], guard := none }) rfl (by kernel_rfl) ?_
                    refine Rg.stepS ?_
                    intro K hK
                    rw [if_pos (by rfl)]
                    go_simp
                    go_at_call 26
                    refine (see_any (N : Int) A3 l.length c3 gk _ p pb _ HK.out).mono ?_
                    rintro e w1' ⟨rfl, hst, hg⟩
                    have HK := Lib.hid hst
                    have HWK := Lib.hid (HWK.out.grown hg (neq_of (by omega)))
                    have HX := Lib.hid (And.intro ((grown_at hg HARR.out.lt (by omega) _).trans HX.out.1) ((grown_at hg HARR.out.lt (by omega) _).trans HX.out.2))
                    have HARR := Lib.hid (HARR.out.grown hg (neq_of (by omega)))
                    have HB3 := Lib.hid (below_grown HB3.out (Nat.le_refl _) hg (fun g e => by injection e with e; omega))
                    clear hst hg
                    (try clear HS)
                    have HS := And.intro HWK.out HX.out
                    go_wp2_with fail
                    refine hK.out _ _ HS ?_
                    clear hK K
                    try simp only [Act.put, List.setIfInBounds_toArray, List.set_cons_zero, List.set_cons_succ]
                    refine Rg.oneR (i := 20) (oi := { dst := some 135, op := Op.call { callee := Callee.value (Operand.func 34), args := #[Operand.tmp 121, Operand.tmp 134], argTypes := #[3, 3] }, type := 42, pos := "mat.go:135", after := #[{ on := 6, ground := Ground.data }, { on := 19, ground := Ground.data }, { on := 19, ground := Ground.chain }], guard := none }) rfl (by kernel_rfl) ?_
                    refine Rg.stepS ?_
                    intro K hK
                    rw [if_pos (by rfl)]
                    go_simp
                    go_at_call 34
                    refine (fixSub_any s p _ r_s.out r_p.out).mono ?_
                    rintro e w1' ⟨rfl, rfl⟩
                    rw [show stop (s - p) = fsub s p from rfl, T_.out]
                    go_wp2_with fail
                    refine hK.out _ _ HS ?_
                    clear hK K
                    try simp only [Act.put, List.setIfInBounds_toArray, List.set_cons_zero, List.set_cons_succ]
                    refine Rg.takeP (i := 21) (oi := { dst := some 136, op := Op.extract (Operand.tmp 135) 0, type := 3, pos := "mat.go:135", after := #[{ on := 20, ground := Ground.data }], guard := none }) (v := ?_) rfl (by kernel_rfl) (fun _ _ _ h => h) (by rfl) ?_ ?_
                    rotate_left 1
                    · (intro w; go_simp; (try with_reducible rfl))
                    try simp only [Act.put, List.setIfInBounds_toArray, List.set_cons_zero, List.set_cons_succ]
                    refine Rg.takeP (i := 22) (oi := { dst := some 137, op := Op.extract (Operand.tmp 135) 1, type := 4, pos := "mat.go:135", after := #[{ on := 20, ground := Ground.data }], guard := none }) (v := ?_) rfl (by kernel_rfl) (fun _ _ _ h => h) (by rfl) ?_ ?_
                    rotate_left 1
                    · (intro w; go_simp; (try with_reducible rfl))
                    try simp only [Act.put, List.setIfInBounds_toArray, List.set_cons_zero, List.set_cons_succ]
                    refine Rg.oneR (i := 23) (oi := { dst := some 138, op := Op.call { callee := Callee.value (Operand.func 26), args := #[Operand.tmp 117, Operand.tmp 136, Operand.tmp 137], argTypes := #[47, 3, 4] }, type := 3, pos := "mat.go:135", after := #[{ on := 2, ground := Ground.data }, { on := 21, ground := Ground.data }, { on := 22, ground := Ground.data }, { on := 20, ground := Ground.chain }], guard := none }) rfl (by kernel_rfl) ?_
                    refine Rg.stepF ?_ ?_
                    · kernel_rfl
                    intro K hK
                    rw [if_pos (by rfl)]
                    go_simp
                    go_at_call 26
                    refine (see_any (N : Int) A3 l.length c3 gk _ t tb _ HK.out).mono ?_
                    rintro e w1' ⟨rfl, hst, hg⟩
                    have HK := Lib.hid hst
                    have HWK := Lib.hid (HWK.out.grown hg (neq_of (by omega)))
                    have HX := Lib.hid (And.intro ((grown_at hg HARR.out.lt (by omega) _).trans HX.out.1) ((grown_at hg HARR.out.lt (by omega) _).trans HX.out.2))
                    have HARR := Lib.hid (HARR.out.grown hg (neq_of (by omega)))
                    have HB3 := Lib.hid (below_grown HB3.out (Nat.le_refl _) hg (fun g e => by injection e with e; omega))
                    clear hst hg
                    (try clear HS)
                    have HS := And.intro HWK.out HX.out
                    go_wp2_with fail
                    have hc := HARR.out.cell hiN
                    have hf := HARR.out.thaw i
                    refine hK.out _ _ ?_
                    clear hK K
                    try simp only [Act.put, List.setIfInBounds_toArray, List.set_cons_zero, List.set_cons_succ]
                    refine Rg.takeP (i := 24) (oi := { dst := some 139, op := Op.indexAddr 22 (Operand.tmp 115) (Operand.tmp 116), type := 0, pos := "mat.go:135", after := #[{ on := 0, ground := Ground.data }, { on := 1, ground := Ground.data }, { on := 0, ground := Ground.phase }, { on := 1, ground := Ground.phase }, { on := 2, ground := Ground.phase }, { on := 3, ground := Ground.phase }, { on := 4, ground := Ground.phase }, { on := 5, ground := Ground.phase }, { on := 6, ground := Ground.phase }, { on := 7, ground := Ground.phase }, { on := 8, ground := Ground.phase }, { on := 9, ground := Ground.phase }, { on := 10, ground := Ground.phase }, { on := 11, ground := Ground.phase }, { on := 12, ground := Ground.phase }, { on := 13, ground := Ground.phase }, { on := 14, ground := Ground.phase }, { on := 15, ground := Ground.phase }, { on := 16, ground := Ground.phase }, { on := 17, ground := Ground.phase }, { on := 18, ground := Ground.phase }, { on := 19, ground := Ground.phase }, { on := 20, ground := Ground.phase }, { on := 21, ground := Ground.phase }, { on := 22, ground := Ground.phase }, { on := 23, ground := Ground.phase }], guard := none }) (v := ?_) rfl (by kernel_rfl) (fun _ _ _ h => h) (by rfl) ?_ ?_
                    rotate_left 1
                    · (intro w; go_simp; (try with_reducible rfl))
                    try simp only [Act.put, List.setIfInBounds_toArray, List.set_cons_zero, List.set_cons_succ]
                    refine Rg.oneR (i := 25) (oi := { dst := none, op := Op.store 3 (Operand.tmp 139) (Operand.tmp 138), type := 0, pos := "mat.go:135", after := #[{ on := 24, ground := Ground.data }, { on := 23, ground := Ground.data }, { on := 23, ground := Ground.chain }, { on := 0, ground := Ground.phase }, { on := 1, ground := Ground.phase }, { on := 2, ground := Ground.phase }, { on := 3, ground := Ground.phase }, { on := 4, ground := Ground.phase }, { on := 5, ground := Ground.phase }, { on := 6, ground := Ground.phase }, { on := 7, ground := Ground.phase }, { on := 8, ground := Ground.phase }, { on := 9, ground := Ground.phase }, { on := 10, ground := Ground.phase }, { on := 11, ground := Ground.phase }, { on := 12, ground := Ground.phase }, { on := 13, ground := Ground.phase }, { on := 14, ground := Ground.phase }, { on := 15, ground := Ground.phase }, { on := 16, ground := Ground.phase }, { on := 17, ground := Ground.phase }, { on := 18, ground := Ground.phase }, { on := 19, ground := Ground.phase }, { on := 20, ground := Ground.phase }, { on := 21, ground := Ground.phase }, { on := 22, ground := Ground.phase }, { on := 23, ground := Ground.phase }], guard := none }) rfl (by kernel_rfl) ?_
                    refine Rg.stepF ?_ ?_
                    · kernel_rfl
                    intro K hK
                    go_simp
                    refine hK.out _ _ ?_
                    clear hK K
                    try simp only [Act.put, List.setIfInBounds_toArray, List.set_cons_zero, List.set_cons_succ]
                    refine Rg.doneR (by kernel_rfl) ?_ _
                    refine NoPanic.normal ?_
                    (try clear HS)
                    clear hc hf HX
                    have HARR := Lib.hid ((HARR.out.set hiN t).congr fun q _ => put1_put1 _ _ _ _ q)
                    have HK := Lib.hid (Blk.other HK.out (p := ⟨gx, i, none⟩) (by show _ ≠ gx; omega) (.int .i64 t))
                    have HWK := Lib.hid (HWK.out.other (p := ⟨gx, i, none⟩) (by show _ ≠ gx; omega) (.int .i64 t))
                    have HB3 := Lib.hid (HB3.out.setCell (p := ⟨gx, i, none⟩) (by show _ ≤ gx; omega) (.int .i64 t))
                    generalize (w1'.setCell ⟨gx, i, none⟩ (.int .i64 t)) = w2' at *
                    go_wp2_with fail
                    refine ⟨⟨m + 1, by omega, by rw [show i + 1 + (m + 1) = k + 1 by have := HKK.out; omega]; go_num, ⟨?_, HWK.out, ?_, HB3.out⟩⟩, by simp [intOf]; omega⟩
                    · rw [HCH.out]
                      have h := HK.out
                      simp only [Bool.or_assoc] at h ⊢
                      exact h
                    · rw [HCH.out]
                      exact HARR.out
                  · obtain rfl : t = m := by omega
                    clear hmt
                    obtain ⟨⟨s, sb⟩, hs⟩ : ∃ r, lessW (fun m => L (i + 1 + m) i) (fun m => f3 (i + 1 + m)) (z i) t = r := ⟨_, rfl⟩
                    rw [hs] at HFS HK HARR
                    clear hs
                    simp only at HFS HK HARR
                    have hge : ¬ ((i + 1 + t : Nat) : Int) < (N : Int) := by have := HIT.out; omega
                    go_wp2_with fail
                    refine ⟨⟨t + 1, by omega, by (have := HIV.out; first | go_num | (congr 1; push_cast; omega)), ⟨?_, HWK.out, ?_, HB3.out⟩⟩, by (simp [intOf]; try omega)⟩
                    · rw [HFS.out]
                      have h := HK.out
                      simp only [Bool.or_assoc] at h ⊢
                      exact h
                    · rw [HFS.out, show N - (t + 1) = i by have := HIT.out; omega]
                      exact HARR.out.congr fun q _ => mixD_succ i f3 z s q
              · obtain rfl : N = t := by omega
                clear hlt
                obtain ⟨⟨x, xb⟩, hx⟩ : ∃ r, bakF N L z N = r := ⟨_, rfl⟩
                rw [hx] at HK HARR HSA
                clear hx
                simp only at HK HARR HSA
                have HARR := Lib.hid (HARR.out.congr (f' := x) fun k hk => mixD_ge _ _ (by omega))
                have hneg : ¬ (0 : Int) ≤ (N : Int) - 1 - (N : Int) := by omega
                go_upto_region 29 with fail
                clear kN
                have HK := Lib.hid (Blk.drew HK.out)
                have HARR := Lib.hid HARR.out.drew
                have HB3 := Lib.hid HB3.out.drew
                have HS : (fun w' => w'.cell? ⟨gk, 0, none⟩ = some (.bool (b || fb || zb || xb))) wr.drew := (Blk.cell HK.out 0).trans rfl
                refine wp_region_noPanic ?_
                refine Rg.beginR [2] (fun w' => w'.cell? ⟨gk, 0, none⟩ = some (.bool (b || fb || zb || xb))) (by kernel_rfl) ?_
                generalize wr.drew = w1' at *
                refine Rg.takeP (i := 0) (oi := { dst := some 140, op := Op.move (Operand.tmp 12), type := 22, pos := "mat.go:138", after := #[], guard := none }) (v := ?_) rfl (by kernel_rfl) (fun _ _ _ h => h) (by rfl) ?_ ?_
                rotate_left 1
                · (intro w; go_simp; (try with_reducible rfl))
                try simp only [Act.put, List.setIfInBounds_toArray, List.set_cons_zero, List.set_cons_succ]
                refine Rg.takeS (i := 2) (oi := { dst := some 142, op := Op.load 4 (Operand.tmp 9), type := 4, pos := "mat.go:138", after := #[{ on := 3, ground := Ground.gcOnly Departure.lateStores }], guard := none }) (v := ?_) rfl (by kernel_rfl) (fun _ _ _ h => h) (by rfl) HS ?_ ?_
                rotate_left 1
                · (intro w hSw; (try dsimp only at hSw); (try go_split_ands); go_simp; (try with_reducible rfl))
                try simp only [Act.put, List.setIfInBounds_toArray, List.set_cons_zero, List.set_cons_succ]
                refine Rg.oneR (i := 1) (oi := { dst := some 141, op := Op.call { callee := Callee.value (Operand.func 37), args := #[Operand.tmp 140], argTypes := #[22] }, type := 22, pos := "mat.go:138", after := #[{ on := 0, ground := Ground.data }], guard := none }) rfl (by kernel_rfl) ?_
                refine Rg.stepS ?_
                intro K hK
                rw [if_pos (by rfl)]
                go_simp
                go_at_call 37
                refine (clipI_any N cx gx w1' h6 HN.out HCX.out).mono ?_
                rintro e w2' ⟨rfl, rfl⟩
                go_wp2_with fail
                refine hK.out _ _ HS ?_
                clear hK K
                try simp only [Act.put, List.setIfInBounds_toArray, List.set_cons_zero, List.set_cons_succ]
                refine Rg.takeP (i := 3) (oi := { dst := some 4, op := Op.assign (Operand.tmp 141), type := 22, pos := "mat.go:138", after := #[{ on := 1, ground := Ground.data }, { on := 1, ground := Ground.chain }, { on := 0, ground := Ground.phase }, { on := 1, ground := Ground.phase }, { on := 2, ground := Ground.textOnly Departure.lateStores }], guard := none }) (v := ?_) rfl (by kernel_rfl) (fun _ _ _ h => h) (by rfl) ?_ ?_
                rotate_left 1
                · (intro w; go_simp; (try with_reducible rfl))
                try simp only [Act.put, List.setIfInBounds_toArray, List.set_cons_zero, List.set_cons_succ]
                refine Rg.takeP (i := 4) (oi := { dst := some 5, op := Op.assign (Operand.tmp 142), type := 4, pos := "mat.go:138", after := #[{ on := 2, ground := Ground.data }, { on := 3, ground := Ground.chain }, { on := 0, ground := Ground.phase }, { on := 1, ground := Ground.phase }, { on := 2, ground := Ground.phase }, { on := 3, ground := Ground.phase }], guard := none }) (v := ?_) rfl (by kernel_rfl) (fun _ _ _ h => h) (by rfl) ?_ ?_
                rotate_left 1
                · (intro w; go_simp; (try with_reducible rfl))
                try simp only [Act.put, List.setIfInBounds_toArray, List.set_cons_zero, List.set_cons_succ]
                refine Rg.takeP (i := 5) (oi := { dst := some 6, op := Op.assign (Operand.const (Value.int IntKind.i64 0)), type := 25, pos := "mat.go:138", after := #[{ on := 4, ground := Ground.chain }, { on := 0, ground := Ground.phase }, { on := 1, ground := Ground.phase }, { on := 2, ground := Ground.phase }, { on := 3, ground := Ground.phase }, { on := 4, ground := Ground.phase }], guard := none }) (v := ?_) rfl (by kernel_rfl) (fun _ _ _ h => h) (by rfl) ?_ ?_
                rotate_left 1
                · (intro w; go_simp; (try with_reducible rfl))
                try simp only [Act.put, List.setIfInBounds_toArray, List.set_cons_zero, List.set_cons_succ]
                refine Rg.doneR (by kernel_rfl) ?_ _
                refine NoPanic.normal ?_
                clear HS
                go_wp2_with fail
                go_ret3
                rw [HSA.out]
                refine ⟨some ⟨gx, 0, none⟩, N, ?_, ?_, onward HB.out (Nat.le_refl _) HB3.out⟩
                · show _ = Ending.returned (.tuple #[.slice (some ⟨gx, 0, none⟩) ((List.range N).map x).length N, .bool _, .int .i64 0])
                  rw [show ((List.range N).map x).length = N by simp]
                  rfl
                · show Rd _ _ 1 _ ((List.range N).map x).length _
                  rw [show ((List.range N).map x).length = N by simp]
                  exact HARR.out.rd
end Go.Proofs.Ytejefecglioifaa.BigW
