/- Contract: the reference's Solve. -/
import Derived.Test.YtejefecglioifaaSolve
namespace Go.Proofs.Ytejefecglioifaa.BigW
open Go.RowKit Go.Proofs.Ytejefecglioifaa.Mem Go.Proofs.Ytejefecglioifaa.BigLaw Go.Proofs.Ytejefecglioifaa.Rws Go.Proofs.Ytejefecglioifaa.Ints Go.Proofs.Ytejefecglioifaa.Mats
set_option linter.unusedVariables false
set_option linter.unusedSimpArgs false

/-- the reference's blocks -/
structure RSt (w3 wr : World) (MC : Array Value) (gk gx N : Nat) (f : Nat → Int) (b : Bool) : Prop where
  bent : Bent wr 55 gk b
  mat : Blk wr w3.heap.size 24 MC
  arr : ArrAt wr gx N f
  bel : Below w3.heap.size w3 wr
theorem rd_cell {w : World} {B b o : Nat} {l : List Int} (h : Rd w B 1 (some ⟨b, o, none⟩) l.length (intsV l)) {q : Nat} (hq : q < l.length) : b < B ∧ w.cell? ⟨b, o + q, none⟩ = some (.int .i64 (l.getD q 0)) := by
  obtain ⟨b', o', e, hb, hc⟩ := h.2 (by omega)
  injection e with e
  injection e with e1 e2
  subst e1 e2
  refine ⟨hb, ?_⟩
  rw [hc q _ (intsV_at l q hq), show l.getD q 0 = l[q] from by simp [List.getD_eq_getElem?_getD, hq]]

set_option maxRecDepth 100000 in
set_option maxHeartbeats 4000000 in
theorem refSolve_yes (N : Nat) (A A' : Option Addr) (c c' : Nat) (zs vs : List Int) (w : World) (hN : 1 ≤ N) (h6 : N ≤ 6) (hl : zs.length = N * N) (hv : vs.length = N) (hr : Rd w w.heap.size 1 A zs.length (intsV zs)) (hr' : Rd w w.heap.size 1 A' vs.length (intsV vs)) (hz : ∀ k, In64 (zs.getD k 0)) (hzv : ∀ k, In64 (vs.getD k 0)) :
    Calls Try.prog 15 #[matV (N : Int) A zs.length c, .slice A' vs.length c'] w fun e w' => GaveInts w w' (solA N zs vs).1.1 (solA N zs vs).1.2 (solA N zs vs).2 e := by
  rw [hv]
  rw [hv] at hr'
  have HR := Lib.hid hr
  have HR' := Lib.hid hr'
  have HZ := Lib.hid hz
  have HZV := Lib.hid hzv
  have HN := Lib.hid hN
  have HL := Lib.hid hl
  have HVL := Lib.hid hv
  have HGD := Lib.hid (show good (N : Int) zs.length = true from by
    unfold good
    rw [decide_eq_true (show (1 : Int) ≤ N by omega), decide_eq_true (show (N : Int) ≤ 6 by omega), decide_eq_true (by rw [hl]; push_cast; rfl)]
    rfl)
  have h36 := sq_36 h6
  clear hr hr' hz hzv hl hv
  unfold matV
  have HM := Lib.hid (show Blk (w.alloc (.cells #[.int .i64 (N : Int), .slice A zs.length c] 24)) w.heap.size 24 #[.int .i64 (N : Int), .slice A zs.length c] from Blk.new rfl)
  have HB := Lib.hid (show Below w.heap.size w (w.alloc (.cells #[.int .i64 (N : Int), .slice A zs.length c] 24)) from (Below.refl _ _).alloc (Nat.le_refl _) _)
  go_enter Try.func15, Try.ntmps15
  go_upto_region 1 with fail
  generalize (w.alloc (.cells #[.int .i64 (N : Int), .slice A zs.length c] 24)) = w1 at *
  go_wp2_with (refine wpList_whole rfl 24 _ rfl w.heap.size rfl HM.out _ Try.underlying24 rfl (by kernel_rfl) ?_)
  refine (goodref_any (N : Int) A zs.length c w1).mono ?_
  rintro e w2 ⟨rfl, hb⟩
  rw [HGD.out]
  have HM := Lib.hid (HM.out.below hb HM.out.lt)
  have HB := Lib.hid (onward HB.out (Nat.le_refl _) hb)
  have k0 : w2.cell? ⟨w.heap.size, 0, none⟩ = some (.int .i64 (N : Int)) := (HM.out.cell 0).trans rfl
  clear hb
  go_upto_region 3 with fail
  clear k0
  go_wp2_with (refine wpList_whole rfl 24 _ rfl w.heap.size rfl HM.out _ Try.underlying24 rfl (by kernel_rfl) ?_)
  refine (refFactor_yes N A c zs w2 HN.out h6 HL.out ((HR.out.below HB.out).more HB.out.size) HZ.out).mono ?_
  cases hf : facF N zs N with
  | none =>
    have HSA := Lib.hid (show solA N zs vs = (([], false), 9) from by unfold solA; rw [hf])
    rw [show facA N zs = ((0, []), ([], false), 9) from by unfold facA; rw [hf]]
    rintro e w3 ⟨A3, c3, A4, c4, rfl, _, _, _, hb⟩
    have HB := Lib.hid (onward HB.out (Nat.le_refl _) hb)
    clear hb hf
    dsimp only
    go_upto_region 4 with fail
    have HB := Lib.hid (show Below w.heap.size w (w3.alloc (.cells #[.int .i64 0, .slice A3 0 c3] 24)) from HB.out.alloc HB.out.size _)
    generalize (w3.alloc (.cells #[.int .i64 0, .slice A3 0 c3] 24)) = w4 at *
    go_wp2_with fail
    go_ret3
    rw [HSA.out]
    exact ⟨none, 0, rfl, Rd.nil _ _ _ _, HB.out⟩
  | some r =>
    obtain ⟨L, D, b⟩ := r
    have HSA := Lib.hid (show solA N zs vs = (((List.range N).map (bakF N L (divF (fwdF L (fun k => vs.getD k 0) N).1 (fun k => D.getD k 0) N).1 N).1, b || (fwdF L (fun k => vs.getD k 0) N).2 || (divF (fwdF L (fun k => vs.getD k 0) N).1 (fun k => D.getD k 0) N).2 || (bakF N L (divF (fwdF L (fun k => vs.getD k 0) N).1 (fun k => D.getD k 0) N).1 N).2), 0) from by unfold solA; rw [hf])
    rw [show facA N zs = (((N : Int), flatL N (N * N) L), (D, b), 0) from by unfold facA; rw [hf]]
    obtain ⟨hDl, hLR, hDR⟩ := facF_ok HZ.out hf
    have HDL := Lib.hid hDl
    have HLR := Lib.hid hLR
    have HDR := Lib.hid hDR
    have HLL := Lib.hid (show (flatL N (N * N) L).length ≤ 36 from by rw [flatL_length]; exact h36)
    have HLI := Lib.hid (show ∀ i k, i < N → k < N → i * N + k < (flatL N (N * N) L).length from fun i k hi hk => by rw [flatL_length]; exact sq_idx hi hk)
    have HLA := Lib.hid (show ∀ i k, i < N → k < N → (flatL N (N * N) L).getD (i * N + k) 0 = L i k from fun i k hi hk => flatL_at L hk (sq_idx hi hk))
    obtain ⟨l, hl⟩ : ∃ l, flatL N (N * N) L = l := ⟨_, rfl⟩
    rw [hl] at HLL HLI HLA ⊢
    obtain ⟨vf, hvf⟩ : ∃ f : Nat → Int, (fun k => vs.getD k 0) = f := ⟨_, rfl⟩
    have HVR := Lib.hid (show ∀ k, In64 (vf k) from by rw [← hvf]; exact HZV.out)
    have HVF := Lib.hid hvf
    rw [hvf] at HSA
    obtain ⟨df, hdf⟩ : ∃ f : Nat → Int, (fun k => D.getD k 0) = f := ⟨_, rfl⟩
    have HDF := Lib.hid hdf
    rw [hdf] at HSA
    clear hDl hLR hDR hl hf hvf hdf
    rintro e w3 ⟨A3, c3, A4, c4, rfl, hr3, hd3, _, hb⟩
    obtain ⟨b3, o3, rfl, hb3, _⟩ := hr3.2 (show 0 < l.length by have := HLI.out 0 0 HN.out HN.out; omega)
    obtain ⟨b4, o4, rfl, hb4, _⟩ := hd3.2 (show 0 < D.length by have := HDL.out; have := HN.out; omega)
    have H3 := Lib.hid (show ∀ i k, i < N → k < N → ∀ w', Below w3.heap.size w3 w' → w'.cell? ⟨b3, o3 + (i * N + k), none⟩ = some (.int .i64 (L i k)) from fun i k hi hk w' h => by
      have := (rd_cell hr3 (HLI.out i k hi hk)).2
      rw [HLA.out i k hi hk] at this
      exact (below_cell h _ _ hb3).trans this)
    have H4 := Lib.hid (show ∀ i, i < N → ∀ w', Below w3.heap.size w3 w' → w'.cell? ⟨b4, o4 + i, none⟩ = some (.int .i64 (df i)) from fun i hi w' h => by
      have := (rd_cell hd3 (show i < D.length by have := HDL.out; omega)).2
      rw [show D.getD i 0 = df i from congrFun HDF.out i] at this
      exact (below_cell h _ _ hb4).trans this)
    have HM := Lib.hid (HM.out.below hb HM.out.lt)
    have HB := Lib.hid (onward HB.out (Nat.le_refl _) hb)
    have hrv := HR'.out
    rw [← HVL.out] at hrv
    obtain ⟨bv, ov, rfl, hbv, _⟩ := hrv.2 (by have := HVL.out; have := HN.out; omega)
    have H5 := Lib.hid (show ∀ i, i < N → ∀ w', Below w3.heap.size w3 w' → w'.cell? ⟨bv, ov + i, none⟩ = some (.int .i64 (vf i)) from fun i hi w' h => by
      have := (rd_cell hrv (show i < vs.length by have := HVL.out; omega)).2
      rw [show vs.getD i 0 = vf i from congrFun HVF.out i] at this
      exact (below_cell (onward HB.out (Nat.le_refl _) h) _ _ hbv).trans this)
    have HDN := Lib.hid HDL.out
    clear hb hr3 hd3 hb3 hb4 hrv hbv
    dsimp only
    rw [HDL.out]
    go_upto_region 6 with fail
    have HMM := Lib.hid (show Blk (w3.alloc (.cells #[.int .i64 (N : Int), .slice (some ⟨b3, o3, none⟩) l.length c3] 24)) w3.heap.size 24 #[.int .i64 (N : Int), .slice (some ⟨b3, o3, none⟩) l.length c3] from Blk.fresh w3 _ _)
    have HB3 := Lib.hid (show Below w3.heap.size w3 (w3.alloc (.cells #[.int .i64 (N : Int), .slice (some ⟨b3, o3, none⟩) l.length c3] 24)) from (Below.refl _ _).alloc (Nat.le_refl _) _)
    generalize (w3.alloc (.cells #[.int .i64 (N : Int), .slice (some ⟨b3, o3, none⟩) l.length c3] 24)) = w4 at *
    have hk3 : w3.heap.size < w4.heap.size := HMM.out.lt
    have kN : w4.cell? ⟨w.heap.size, 0, none⟩ = some (.int .i64 (N : Int)) := ((HM.out.below HB3.out HM.out.lt).cell 0).trans rfl
    go_upto_region 8 with fail
    clear kN
    have HK := Lib.hid (show Bent (w4.alloc (.cells #[.bool b] 55)) 55 w4.heap.size b from Blk.new rfl)
    have HMM := Lib.hid (HMM.out.alloc (.cells #[.bool b] 55))
    have HB3 := Lib.hid (HB3.out.alloc HB3.out.size (.cells #[.bool b] 55))
    generalize (w4.alloc (.cells #[.bool b] 55)) = w5 at *
    obtain ⟨gk, hgk⟩ : ∃ g, w4.heap.size = g := ⟨_, rfl⟩
    rw [hgk] at HK hk3 ⊢
    clear hgk
    have hN1 : (N : Int) ≤ 6 := by omega
    have hkx := Blk.lt HK.out
    go_upto_region 9 with (refine wpList_make_row rfl _ _ _ rfl Go.Proofs.Ytejefecglioifaa.Ints.elemInts N rfl rfl rfl rfl (by omega) (by omega) ?_)
    have HARR := Lib.hid (ArrAt.of_row (show Blk (w5.alloc (.cells (rowF .i64 N (fun _ => 0)) 3)) w5.heap.size 3 (rowF .i64 N (fun _ => 0)) from Blk.fresh _ _ _))
    have HK := Lib.hid (show Bent (w5.alloc (.cells (rowF .i64 N (fun _ => 0)) 3)) 55 gk _ from Blk.alloc HK.out _)
    have HMM := Lib.hid (show Blk (w5.alloc (.cells (rowF .i64 N (fun _ => 0)) 3)) w3.heap.size 24 #[.int .i64 (N : Int), .slice (some ⟨b3, o3, none⟩) l.length c3] from HMM.out.alloc _)
    have HB3 := Lib.hid (show Below w3.heap.size w3 (w5.alloc (.cells (rowF .i64 N (fun _ => 0)) 3)) from HB3.out.alloc HB3.out.size _)
    generalize (w5.alloc (.cells (rowF .i64 N (fun _ => 0)) 3)) = w6 at *
    obtain ⟨gy, hgy⟩ : ∃ g, w5.heap.size = g := ⟨_, rfl⟩
    rw [hgy] at HARR hkx ⊢
    clear hgy
    go_wp2_with fail
    go_loopw [14] (fun iv wr => ∃ I : Nat, I ≤ N ∧ iv = .int .i64 I ∧ RSt w3 wr #[.int .i64 (N : Int), .slice (some ⟨b3, o3, none⟩) l.length c3] gk gy N (mixU I (fwdF L vf I).1 (fun _ => 0)) (b || (fwdF L vf I).2)) (fun iv _ => N - (intOf iv).toNat)
    case atStart => exact ⟨0, by omega, rfl, ⟨by simp only [fwdF, Bool.or_false]; exact HK.out, HMM.out, HARR.out.congr fun k _ => (mixU_zero _ (fun _ => 0) k).symm, HB3.out⟩⟩
    case round =>
      clear HK HMM HARR HB3
      obtain ⟨I, hI, rfl, hat⟩ := hrel
      have HK := Lib.hid hat.bent
      have HMM := Lib.hid hat.mat
      have HARR := Lib.hid hat.arr
      have HB3 := Lib.hid hat.bel
      clear hat
      by_cases hlt : I < N
      · have HFS := Lib.hid (show fwdF L vf (I + 1) = (put1 (fwdF L vf I).1 I (lessW (L I) (fwdF L vf I).1 (vf I) I).1, (fwdF L vf I).2 || (lessW (L I) (fwdF L vf I).1 (vf I) I).2) from rfl)
        have HFR := Lib.hid (fwdF_range L HVR.out I)
        generalize fwdF L vf I = ff at *
        obtain ⟨f, fb⟩ := ff
        simp only at HFS HFR HK HARR
        have hlt1 : (I : Int) < (N : Int) := by omega
        go_upto_region 12 with fail
        have hv1 := H5.out I hlt wr HB3.out
        have hc1 := HARR.out.cell hlt
        have hf1 := HARR.out.thaw I
        obtain ⟨u, hu⟩ : ∃ u, vf I = u := ⟨_, rfl⟩
        rw [hu] at hv1
        go_upto_region 13 with fail
        clear hv1 hc1 hf1
        have HARR := Lib.hid ((HARR.out.set hlt u))
        have HK := Lib.hid (Blk.other HK.out (p := ⟨gy, I, none⟩) (by show _ ≠ gy; omega) (.int .i64 u))
        have HMM := Lib.hid (HMM.out.other (p := ⟨gy, I, none⟩) (by show _ ≠ gy; omega) (.int .i64 u))
        have HB3 := Lib.hid (HB3.out.setCell (p := ⟨gy, I, none⟩) (by show _ ≤ gy; omega) (.int .i64 u))
        generalize (wr.setCell ⟨gy, I, none⟩ (.int .i64 u)) = wp' at *
        go_wp2_with fail
        go_loopw [15] (fun kv wr => ∃ k : Nat, k ≤ I ∧ kv = .int .i64 k ∧ RSt w3 wr #[.int .i64 (N : Int), .slice (some ⟨b3, o3, none⟩) l.length c3] gk gy N (put1 (mixU I f (fun _ => 0)) I (lessW (L I) f (vf I) k).1) (b || fb || (lessW (L I) f (vf I) k).2)) (fun kv _ => I - (intOf kv).toNat)
        case atStart => exact ⟨0, by omega, rfl, ⟨by simp only [lessW, Bool.or_false]; exact HK.out, HMM.out, by rw [← hu] at HARR; exact HARR.out, HB3.out⟩⟩
        case round =>
          clear HK HMM HARR HB3 hu
          obtain ⟨k, hk, rfl, hat⟩ := hrel
          have HK := Lib.hid hat.bent
          have HMM := Lib.hid hat.mat
          have HARR := Lib.hid hat.arr
          have HB3 := Lib.hid hat.bel
          clear hat
          by_cases hkI : k < I
          · have HCH := Lib.hid (show lessW (L I) f (vf I) (k + 1) = ((fsub (lessW (L I) f (vf I) k).1 (fmul (L I k) (f k)).1).1, (lessW (L I) f (vf I) k).2 || (fmul (L I k) (f k)).2 || (fsub (lessW (L I) f (vf I) k).1 (fmul (L I k) (f k)).1).2) from rfl)
            have r_s := Lib.hid (lessW_range (L I) f (HVR.out I) k)
            have hx2 := HARR.out.cell (show k < N by omega)
            rw [put1_other _ _ (by omega), mixU_lt _ _ hkI] at hx2
            generalize lessW (L I) f (vf I) k = ch at *
            obtain ⟨s, sb⟩ := ch
            simp only at HCH r_s HK HARR
            have hx1 := HARR.out.cell hlt
            rw [put1_same] at hx1
            have r_x := Lib.hid (HFR.out k)
            have r_a := Lib.hid (HLR.out I k)
            have HCD := Lib.hid (H3.out I k hlt (by omega))
            obtain ⟨a, ha⟩ : ∃ a, L I k = a := ⟨_, rfl⟩
            rw [ha] at HCH r_a HCD
            obtain ⟨x, hx⟩ : ∃ x, f k = x := ⟨_, rfl⟩
            rw [hx] at HCH r_x hx2
            clear ha hx
            obtain ⟨⟨p, pb⟩, hp⟩ : ∃ r, fmul a x = r := ⟨_, rfl⟩
            have r_p := Lib.hid (show In64 p from by have h := fmul_range a x; rw [hp] at h; exact h)
            have P_ := Lib.hid hp
            rw [hp] at HCH
            (try simp only at HCH)
            clear hp
            obtain ⟨⟨t, tb⟩, ht⟩ : ∃ r, fsub s p = r := ⟨_, rfl⟩
            have r_t := Lib.hid (show In64 t from by have h := fsub_range s p; rw [ht] at h; exact h)
            have T_ := Lib.hid ht
            rw [ht] at HCH
            (try simp only at HCH)
            clear ht
            have hk1 : (k : Int) < (I : Int) := by omega
            have hkN1 : (k : Int) < (N : Int) := by omega
            have HLQ := Lib.hid (HLI.out I k hlt (by omega))
            obtain ⟨q, hq⟩ : ∃ q, I * N = q := ⟨_, rfl⟩
            have hqi1 : (I : Int) * (N : Int) = (q : Int) := by rw [← hq]; push_cast; rfl
            rw [hq] at HCD HLQ
            clear hq
            have hll := HLL.out
            have hlq := HLQ.out
            have h1 : (q : Int) + (k : Int) < (l.length : Int) := by omega
            have t1 : ((q : Int) + (k : Int)).toNat = q + k := by omega
            have e1 : IntKind.i64.wrap (q : Int) = (q : Int) := IntWalk.i64_in _ (by omega)
            have e3 : IntKind.i64.wrap ((q : Int) + (k : Int)) = (q : Int) + (k : Int) := IntWalk.i64_in _ (by omega)
            have p1 : (0 : Int) ≤ (q : Int) + (k : Int) := by omega
            clear hll hlq
            have HX := Lib.hid (And.intro hx1 hx2)
            clear hx1 hx2
            go_upto_region 16 with fail
            have HK := Lib.hid (Blk.drew HK.out)
            have HMM := Lib.hid HMM.out.drew
            have HARR := Lib.hid HARR.out.drew
            have HX : Hid (wr.drew.cell? ⟨gy, I, none⟩ = some (.int .i64 s) ∧ wr.drew.cell? ⟨gy, k, none⟩ = some (.int .i64 x)) := Lib.hid HX.out
            have HB3 := Lib.hid HB3.out.drew
            have HS := And.intro ((HMM.out.cell 1).trans rfl) (And.intro HX.out.1 (And.intro HX.out.2 (HCD.out _ HB3.out)))
            refine wp_region_noPanic ?_
            refine Rg.beginR [6, 9, 16, 20] (fun w' => w'.cell? ⟨w3.heap.size, 1, none⟩ = some (.slice (some ⟨b3, o3, none⟩) l.length c3) ∧ w'.cell? ⟨gy, I, none⟩ = some (.int .i64 s) ∧ w'.cell? ⟨gy, k, none⟩ = some (.int .i64 x) ∧ w'.cell? ⟨b3, o3 + (q + k), none⟩ = some (.int .i64 a)) (by kernel_rfl) ?_
            generalize wr.drew = w1' at *
            refine Rg.takeP (i := 0) (oi := { dst := some 65, op := Op.move (Operand.tmp 13), type := 22, pos := "number.go:336", after := #[], guard := none }) (v := ?_) rfl (by kernel_rfl) (fun _ _ _ h => h) (by rfl) ?_ ?_
            rotate_left 1
            · (intro w; go_simp; (try with_reducible rfl))
            try simp only [Act.put, List.setIfInBounds_toArray, List.set_cons_zero, List.set_cons_succ]
            refine Rg.takeP (i := 1) (oi := { dst := some 66, op := Op.move (Operand.tmp 14), type := 3, pos := "number.go:336", after := #[], guard := none }) (v := ?_) rfl (by kernel_rfl) (fun _ _ _ h => h) (by rfl) ?_ ?_
            rotate_left 1
            · (intro w; go_simp; (try with_reducible rfl))
            try simp only [Act.put, List.setIfInBounds_toArray, List.set_cons_zero, List.set_cons_succ]
            refine Rg.takeP (i := 2) (oi := { dst := some 67, op := Op.move (Operand.tmp 12), type := 53, pos := "number.go:336", after := #[], guard := none }) (v := ?_) rfl (by kernel_rfl) (fun _ _ _ h => h) (by rfl) ?_ ?_
            rotate_left 1
            · (intro w; go_simp; (try with_reducible rfl))
            try simp only [Act.put, List.setIfInBounds_toArray, List.set_cons_zero, List.set_cons_succ]
            refine Rg.takeP (i := 3) (oi := { dst := some 68, op := Op.move (Operand.tmp 13), type := 22, pos := "number.go:336", after := #[], guard := none }) (v := ?_) rfl (by kernel_rfl) (fun _ _ _ h => h) (by rfl) ?_ ?_
            rotate_left 1
            · (intro w; go_simp; (try with_reducible rfl))
            try simp only [Act.put, List.setIfInBounds_toArray, List.set_cons_zero, List.set_cons_succ]
            refine Rg.takeP (i := 4) (oi := { dst := some 69, op := Op.move (Operand.tmp 14), type := 3, pos := "number.go:336", after := #[], guard := none }) (v := ?_) rfl (by kernel_rfl) (fun _ _ _ h => h) (by rfl) ?_ ?_
            rotate_left 1
            · (intro w; go_simp; (try with_reducible rfl))
            try simp only [Act.put, List.setIfInBounds_toArray, List.set_cons_zero, List.set_cons_succ]
            refine Rg.takeP (i := 5) (oi := { dst := some 70, op := Op.indexAddr 22 (Operand.tmp 68) (Operand.tmp 69), type := 0, pos := "number.go:336", after := #[{ on := 3, ground := Ground.data }, { on := 4, ground := Ground.data }], guard := none }) (v := ?_) rfl (by kernel_rfl) (fun _ _ _ h => h) (by rfl) ?_ ?_
            rotate_left 1
            · (intro w; go_simp; (try with_reducible rfl))
            try simp only [Act.put, List.setIfInBounds_toArray, List.set_cons_zero, List.set_cons_succ]
            refine Rg.takeS (i := 6) (oi := { dst := some 71, op := Op.load 3 (Operand.tmp 70), type := 3, pos := "number.go:336", after := #[{ on := 5, ground := Ground.data }], guard := none }) (v := ?_) rfl (by kernel_rfl) (fun _ _ _ h => h) (by rfl) HS ?_ ?_
            rotate_left 1
            · (intro w hSw; (try dsimp only at hSw); (try go_split_ands); go_simp; (try with_reducible rfl))
            try simp only [Act.put, List.setIfInBounds_toArray, List.set_cons_zero, List.set_cons_succ]
            refine Rg.takeP (i := 7) (oi := { dst := some 72, op := Op.move (Operand.tmp 12), type := 53, pos := "number.go:336", after := #[], guard := none }) (v := ?_) rfl (by kernel_rfl) (fun _ _ _ h => h) (by rfl) ?_ ?_
            rotate_left 1
            · (intro w; go_simp; (try with_reducible rfl))
            try simp only [Act.put, List.setIfInBounds_toArray, List.set_cons_zero, List.set_cons_succ]
            refine Rg.takeP (i := 8) (oi := { dst := some 73, op := Op.fieldAddr 24 (Operand.tmp 7) 1, type := 0, pos := "number.go:336", after := #[], guard := none }) (v := ?_) rfl (by kernel_rfl) (fun _ _ _ h => h) (by rfl) ?_ ?_
            rotate_left 1
            · (intro w; go_simp; (try with_reducible rfl))
            try simp only [Act.put, List.setIfInBounds_toArray, List.set_cons_zero, List.set_cons_succ]
            refine Rg.takeS (i := 9) (oi := { dst := some 74, op := Op.load 22 (Operand.tmp 73), type := 22, pos := "number.go:336", after := #[{ on := 8, ground := Ground.data }], guard := none }) (v := ?_) rfl (by kernel_rfl) (fun _ _ _ h => h) (by rfl) HS ?_ ?_
            rotate_left 1
            · (intro w hSw; (try dsimp only at hSw); (try go_split_ands); go_simp; (try with_reducible rfl))
            try simp only [Act.put, List.setIfInBounds_toArray, List.set_cons_zero, List.set_cons_succ]
            refine Rg.takeP (i := 10) (oi := { dst := some 75, op := Op.move (Operand.tmp 14), type := 3, pos := "number.go:336", after := #[], guard := none }) (v := ?_) rfl (by kernel_rfl) (fun _ _ _ h => h) (by rfl) ?_ ?_
            rotate_left 1
            · (intro w; go_simp; (try with_reducible rfl))
            try simp only [Act.put, List.setIfInBounds_toArray, List.set_cons_zero, List.set_cons_succ]
            refine Rg.takeP (i := 11) (oi := { dst := some 76, op := Op.move (Operand.tmp 11), type := 3, pos := "number.go:336", after := #[], guard := none }) (v := ?_) rfl (by kernel_rfl) (fun _ _ _ h => h) (by rfl) ?_ ?_
            rotate_left 1
            · (intro w; go_simp; (try with_reducible rfl))
            try simp only [Act.put, List.setIfInBounds_toArray, List.set_cons_zero, List.set_cons_succ]
            refine Rg.takeP (i := 12) (oi := { dst := some 77, op := Op.binOp BinOp.mul 3 (Operand.tmp 75) (Operand.tmp 76) 3, type := 3, pos := "number.go:336", after := #[{ on := 10, ground := Ground.data }, { on := 11, ground := Ground.data }], guard := none }) (v := ?_) rfl (by kernel_rfl) (fun _ _ _ h => h) (by rfl) ?_ ?_
            rotate_left 1
            · (intro w; go_simp; (try simp only [hqi1, e1, e3, t1, if_pos (And.intro p1 h1)]); (try with_reducible rfl))
            try simp only [Act.put, List.setIfInBounds_toArray, List.set_cons_zero, List.set_cons_succ]
            refine Rg.takeP (i := 13) (oi := { dst := some 78, op := Op.move (Operand.tmp 15), type := 3, pos := "number.go:336", after := #[], guard := none }) (v := ?_) rfl (by kernel_rfl) (fun _ _ _ h => h) (by rfl) ?_ ?_
            rotate_left 1
            · (intro w; go_simp; (try with_reducible rfl))
            try simp only [Act.put, List.setIfInBounds_toArray, List.set_cons_zero, List.set_cons_succ]
            refine Rg.takeP (i := 14) (oi := { dst := some 79, op := Op.binOp BinOp.add 3 (Operand.tmp 77) (Operand.tmp 78) 3, type := 3, pos := "number.go:336", after := #[{ on := 12, ground := Ground.data }, { on := 13, ground := Ground.data }], guard := none }) (v := ?_) rfl (by kernel_rfl) (fun _ _ _ h => h) (by rfl) ?_ ?_
            rotate_left 1
            · (intro w; go_simp; (try simp only [hqi1, e1, e3, t1, if_pos (And.intro p1 h1)]); (try with_reducible rfl))
            try simp only [Act.put, List.setIfInBounds_toArray, List.set_cons_zero, List.set_cons_succ]
            refine Rg.takeP (i := 15) (oi := { dst := some 80, op := Op.indexAddr 22 (Operand.tmp 74) (Operand.tmp 79), type := 0, pos := "number.go:336", after := #[{ on := 9, ground := Ground.data }, { on := 14, ground := Ground.data }], guard := none }) (v := ?_) rfl (by kernel_rfl) (fun _ _ _ h => h) (by rfl) ?_ ?_
            rotate_left 1
            · (intro w; go_simp; (try simp only [hqi1, e1, e3, t1, if_pos (And.intro p1 h1)]); (try with_reducible rfl))
            try simp only [Act.put, List.setIfInBounds_toArray, List.set_cons_zero, List.set_cons_succ]
            refine Rg.takeS (i := 16) (oi := { dst := some 81, op := Op.load 3 (Operand.tmp 80), type := 3, pos := "number.go:336", after := #[{ on := 15, ground := Ground.data }], guard := none }) (v := ?_) rfl (by kernel_rfl) (fun _ _ _ h => h) (by rfl) HS ?_ ?_
            rotate_left 1
            · (intro w hSw; (try dsimp only at hSw); (try go_split_ands); go_simp; (try with_reducible rfl))
            try simp only [Act.put, List.setIfInBounds_toArray, List.set_cons_zero, List.set_cons_succ]
            refine Rg.takeP (i := 17) (oi := { dst := some 82, op := Op.move (Operand.tmp 13), type := 22, pos := "number.go:336", after := #[], guard := none }) (v := ?_) rfl (by kernel_rfl) (fun _ _ _ h => h) (by rfl) ?_ ?_
            rotate_left 1
            · (intro w; go_simp; (try with_reducible rfl))
            try simp only [Act.put, List.setIfInBounds_toArray, List.set_cons_zero, List.set_cons_succ]
            refine Rg.takeP (i := 18) (oi := { dst := some 83, op := Op.move (Operand.tmp 15), type := 3, pos := "number.go:336", after := #[], guard := none }) (v := ?_) rfl (by kernel_rfl) (fun _ _ _ h => h) (by rfl) ?_ ?_
            rotate_left 1
            · (intro w; go_simp; (try with_reducible rfl))
            try simp only [Act.put, List.setIfInBounds_toArray, List.set_cons_zero, List.set_cons_succ]
            refine Rg.takeP (i := 19) (oi := { dst := some 84, op := Op.indexAddr 22 (Operand.tmp 82) (Operand.tmp 83), type := 0, pos := "number.go:336", after := #[{ on := 17, ground := Ground.data }, { on := 18, ground := Ground.data }], guard := none }) (v := ?_) rfl (by kernel_rfl) (fun _ _ _ h => h) (by rfl) ?_ ?_
            rotate_left 1
            · (intro w; go_simp; (try with_reducible rfl))
            try simp only [Act.put, List.setIfInBounds_toArray, List.set_cons_zero, List.set_cons_succ]
            refine Rg.takeS (i := 20) (oi := { dst := some 85, op := Op.load 3 (Operand.tmp 84), type := 3, pos := "number.go:336", after := #[{ on := 19, ground := Ground.data }], guard := none }) (v := ?_) rfl (by kernel_rfl) (fun _ _ _ h => h) (by rfl) HS ?_ ?_
            rotate_left 1
            · (intro w hSw; (try dsimp only at hSw); (try go_split_ands); go_simp; (try with_reducible rfl))
            try simp only [Act.put, List.setIfInBounds_toArray, List.set_cons_zero, List.set_cons_succ]
            refine Rg.oneR (i := 21) (oi := { dst := some 86, op := Op.call { callee := Callee.value (Operand.func 30), args := #[Operand.tmp 72, Operand.tmp 81, Operand.tmp 85], argTypes := #[53, 3, 3] }, type := 3, pos := "number.go:336", after := #[{ on := 7, ground := Ground.data }, { on := 16, ground := Ground.data }, { on := 20, ground := Ground.data }], guard := none }) rfl (by kernel_rfl) ?_
            refine Rg.stepS ?_
            intro K hK
            rw [if_pos (by rfl)]
            go_simp
            go_at_call 30
            refine (rmul_any gk _ a x _ HK.out r_a.out r_x.out).mono ?_
            rw [P_.out]
            rintro e w1' ⟨rfl, hst, hg⟩
            dsimp only at hst ⊢
            have HK := Lib.hid hst
            have HMM := Lib.hid (HMM.out.grown hg (neq_of (by omega)))
            have HX := Lib.hid (And.intro ((grown_at hg HARR.out.lt (by omega) _).trans HX.out.1) ((grown_at hg HARR.out.lt (by omega) _).trans HX.out.2))
            have HARR := Lib.hid (HARR.out.grown hg (neq_of (by omega)))
            have HB3 := Lib.hid (below_grown HB3.out (Nat.le_refl _) hg (fun g e => by injection e with e; omega))
            clear hst hg
            (try clear HS)
            have HS := And.intro ((HMM.out.cell 1).trans rfl) (And.intro HX.out.1 (And.intro HX.out.2 (HCD.out _ HB3.out)))
            go_wp2_with fail
            refine hK.out _ _ HS ?_
            clear hK K
            try simp only [Act.put, List.setIfInBounds_toArray, List.set_cons_zero, List.set_cons_succ]
            refine Rg.oneR (i := 22) (oi := { dst := some 87, op := Op.call { callee := Callee.value (Operand.func 31), args := #[Operand.tmp 67, Operand.tmp 71, Operand.tmp 86], argTypes := #[53, 3, 3] }, type := 3, pos := "number.go:336", after := #[{ on := 2, ground := Ground.data }, { on := 6, ground := Ground.data }, { on := 21, ground := Ground.data }, { on := 21, ground := Ground.chain }], guard := none }) rfl (by kernel_rfl) ?_
            refine Rg.stepF ?_ ?_
            · kernel_rfl
            intro K hK
            rw [if_pos (by rfl)]
            go_simp
            go_at_call 31
            refine (rsub_any gk _ s p _ HK.out r_s.out r_p.out).mono ?_
            rw [T_.out]
            rintro e w1' ⟨rfl, hst, hg⟩
            dsimp only at hst ⊢
            have HK := Lib.hid hst
            have HMM := Lib.hid (HMM.out.grown hg (neq_of (by omega)))
            have HX := Lib.hid (And.intro ((grown_at hg HARR.out.lt (by omega) _).trans HX.out.1) ((grown_at hg HARR.out.lt (by omega) _).trans HX.out.2))
            have HARR := Lib.hid (HARR.out.grown hg (neq_of (by omega)))
            have HB3 := Lib.hid (below_grown HB3.out (Nat.le_refl _) hg (fun g e => by injection e with e; omega))
            clear hst hg
            (try clear HS)
            have HS := And.intro ((HMM.out.cell 1).trans rfl) (And.intro HX.out.1 (And.intro HX.out.2 (HCD.out _ HB3.out)))
            go_wp2_with fail
            have hc := HARR.out.cell hlt
            have hf := HARR.out.thaw I
            refine hK.out _ _ ?_
            clear hK K
            try simp only [Act.put, List.setIfInBounds_toArray, List.set_cons_zero, List.set_cons_succ]
            refine Rg.takeP (i := 23) (oi := { dst := some 88, op := Op.indexAddr 22 (Operand.tmp 65) (Operand.tmp 66), type := 0, pos := "number.go:336", after := #[{ on := 0, ground := Ground.data }, { on := 1, ground := Ground.data }, { on := 0, ground := Ground.phase }, { on := 1, ground := Ground.phase }, { on := 2, ground := Ground.phase }, { on := 3, ground := Ground.phase }, { on := 4, ground := Ground.phase }, { on := 5, ground := Ground.phase }, { on := 6, ground := Ground.phase }, { on := 7, ground := Ground.phase }, { on := 8, ground := Ground.phase }, { on := 9, ground := Ground.phase }, { on := 10, ground := Ground.phase }, { on := 11, ground := Ground.phase }, { on := 12, ground := Ground.phase }, { on := 13, ground := Ground.phase }, { on := 14, ground := Ground.phase }, { on := 15, ground := Ground.phase }, { on := 16, ground := Ground.phase }, { on := 17, ground := Ground.phase }, { on := 18, ground := Ground.phase }, { on := 19, ground := Ground.phase }, { on := 20, ground := Ground.phase }, { on := 21, ground := Ground.phase }, { on := 22, ground := Ground.phase }], guard := none }) (v := ?_) rfl (by kernel_rfl) (fun _ _ _ h => h) (by rfl) ?_ ?_
            rotate_left 1
            · (intro w; go_simp; (try with_reducible rfl))
            try simp only [Act.put, List.setIfInBounds_toArray, List.set_cons_zero, List.set_cons_succ]
            refine Rg.oneR (i := 24) (oi := { dst := none, op := Op.store 3 (Operand.tmp 88) (Operand.tmp 87), type := 0, pos := "number.go:336", after := #[{ on := 23, ground := Ground.data }, { on := 22, ground := Ground.data }, { on := 22, ground := Ground.chain }, { on := 0, ground := Ground.phase }, { on := 1, ground := Ground.phase }, { on := 2, ground := Ground.phase }, { on := 3, ground := Ground.phase }, { on := 4, ground := Ground.phase }, { on := 5, ground := Ground.phase }, { on := 6, ground := Ground.phase }, { on := 7, ground := Ground.phase }, { on := 8, ground := Ground.phase }, { on := 9, ground := Ground.phase }, { on := 10, ground := Ground.phase }, { on := 11, ground := Ground.phase }, { on := 12, ground := Ground.phase }, { on := 13, ground := Ground.phase }, { on := 14, ground := Ground.phase }, { on := 15, ground := Ground.phase }, { on := 16, ground := Ground.phase }, { on := 17, ground := Ground.phase }, { on := 18, ground := Ground.phase }, { on := 19, ground := Ground.phase }, { on := 20, ground := Ground.phase }, { on := 21, ground := Ground.phase }, { on := 22, ground := Ground.phase }], guard := none }) rfl (by kernel_rfl) ?_
            refine Rg.stepF ?_ ?_
            · kernel_rfl
            intro K hK
            go_simp
            refine hK.out _ _ ?_
            clear hK K
            try simp only [Act.put, List.setIfInBounds_toArray, List.set_cons_zero, List.set_cons_succ]
            refine Rg.doneR (by kernel_rfl) ?_ _
            refine NoPanic.normal ?_
            (try clear HS)
            clear hc hf HX hqi1 h1 t1 e1 e3 p1
            have HARR := Lib.hid ((HARR.out.set hlt t).congr fun q _ => put1_put1 _ _ _ _ q)
            have HK := Lib.hid (Blk.other HK.out (p := ⟨gy, I, none⟩) (by show _ ≠ gy; omega) (.int .i64 t))
            have HMM := Lib.hid (HMM.out.other (p := ⟨gy, I, none⟩) (by show _ ≠ gy; omega) (.int .i64 t))
            have HB3 := Lib.hid (HB3.out.setCell (p := ⟨gy, I, none⟩) (by show _ ≤ gy; omega) (.int .i64 t))
            generalize (w1'.setCell ⟨gy, I, none⟩ (.int .i64 t)) = w2' at *
            go_wp2_with fail
            refine ⟨⟨k + 1, by omega, by go_num, ⟨?_, HMM.out, ?_, HB3.out⟩⟩, by simp [intOf]; omega⟩
            · rw [HCH.out]
              have h := HK.out
              simp only [Bool.or_assoc] at h ⊢
              exact h
            · rw [HCH.out]
              exact HARR.out
          · obtain rfl : I = k := by omega
            clear hkI
            obtain ⟨⟨s, sb⟩, hs⟩ : ∃ r, lessW (L I) f (vf I) I = r := ⟨_, rfl⟩
            rw [hs] at HFS HK HARR
            clear hs
            simp only at HFS HK HARR
            go_wp2_with fail
            refine ⟨⟨I + 1, by omega, by go_num, ⟨?_, HMM.out, ?_, HB3.out⟩⟩, by simp [intOf]; omega⟩
            · rw [HFS.out]
              have h := HK.out
              simp only [Bool.or_assoc] at h ⊢
              exact h
            · rw [HFS.out]
              exact HARR.out.congr fun q _ => mixU_succ I f _ s q
      · obtain rfl : N = I := by omega
        clear hlt
        obtain ⟨⟨f, fb⟩, hf⟩ : ∃ r, fwdF L vf N = r := ⟨_, rfl⟩
        have HFR := Lib.hid (show ∀ k, In64 (f k) from by have h := fwdF_range L HVR.out N; rw [hf] at h; exact h)
        rw [hf] at HK HARR HSA
        clear hf
        simp only at HK HARR HSA
        have HARR := Lib.hid (HARR.out.congr (f' := f) fun k hk => mixU_lt _ _ hk)
        generalize wr = wq1 at *
        have hyx := HARR.out.lt
        go_upto_region 18 with (refine wpList_make_row rfl _ _ _ rfl Go.Proofs.Ytejefecglioifaa.Ints.elemInts N rfl rfl rfl rfl (by omega) (by omega) ?_)
        have HSRC := Lib.hid (show ArrAt (wq1.alloc (.cells (rowF .i64 N (fun _ => 0)) 3)) gy N _ from HARR.out.alloc _)
        have HARR := Lib.hid (ArrAt.of_row (show Blk (wq1.alloc (.cells (rowF .i64 N (fun _ => 0)) 3)) wq1.heap.size 3 (rowF .i64 N (fun _ => 0)) from Blk.fresh _ _ _))
        have HK := Lib.hid (show Bent (wq1.alloc (.cells (rowF .i64 N (fun _ => 0)) 3)) 55 gk _ from Blk.alloc HK.out _)
        have HMM := Lib.hid (show Blk (wq1.alloc (.cells (rowF .i64 N (fun _ => 0)) 3)) w3.heap.size 24 #[.int .i64 (N : Int), .slice (some ⟨b3, o3, none⟩) l.length c3] from HMM.out.alloc _)
        have HB3 := Lib.hid (show Below w3.heap.size w3 (wq1.alloc (.cells (rowF .i64 N (fun _ => 0)) 3)) from HB3.out.alloc HB3.out.size _)
        generalize (wq1.alloc (.cells (rowF .i64 N (fun _ => 0)) 3)) = w6' at *
        obtain ⟨gz, hgz⟩ : ∃ g, wq1.heap.size = g := ⟨_, rfl⟩
        rw [hgz] at HARR hyx ⊢
        clear hgz
        go_wp2_with fail
        go_loopw [17] (fun iv wr => ∃ I : Nat, I ≤ N ∧ iv = .int .i64 I ∧ ArrAt wr gy N f ∧ RSt w3 wr #[.int .i64 (N : Int), .slice (some ⟨b3, o3, none⟩) l.length c3] gk gz N (mixU I (divF f df I).1 (fun _ => 0)) (b || fb || (divF f df I).2)) (fun iv _ => N - (intOf iv).toNat)
        case atStart => exact ⟨0, by omega, rfl, HSRC.out, ⟨by simp only [divF, Bool.or_false]; exact HK.out, HMM.out, HARR.out.congr fun k _ => (mixU_zero _ (fun _ => 0) k).symm, HB3.out⟩⟩
        case round =>
          clear HK HMM HARR HB3 HSRC
          obtain ⟨I, hI, rfl, hsrc, hat⟩ := hrel
          have HK := Lib.hid hat.bent
          have HMM := Lib.hid hat.mat
          have HARR := Lib.hid hat.arr
          have HB3 := Lib.hid hat.bel
          clear hat
          have HSRC := Lib.hid hsrc
          clear hsrc
          by_cases hlt : I < N
          · have HFS := Lib.hid (show divF f df (I + 1) = (put1 (divF f df I).1 I (fdiv (f I) (df I)).1, (divF f df I).2 || (fdiv (f I) (df I)).2) from rfl)
            generalize divF f df I = ff at *
            obtain ⟨z, zb⟩ := ff
            simp only at HFS HK HARR
            have hx1 := HSRC.out.cell hlt
            have HCD := Lib.hid (H4.out I hlt)
            have r_a := Lib.hid (HFR.out I)
            have r_d := Lib.hid (show In64 (df I) from by rw [← HDF.out]; exact HDR.out I)
            obtain ⟨a, ha⟩ : ∃ a, f I = a := ⟨_, rfl⟩
            rw [ha] at HFS r_a hx1
            obtain ⟨d, hd⟩ : ∃ a, df I = a := ⟨_, rfl⟩
            rw [hd] at HFS r_d HCD
            clear ha hd
            obtain ⟨⟨v, vb⟩, hv⟩ : ∃ r, fdiv a d = r := ⟨_, rfl⟩
            have V_ := Lib.hid hv
            rw [hv] at HFS
            simp only at HFS
            clear hv
            have hlt1 : (I : Int) < (N : Int) := by omega
            have HX := Lib.hid hx1
            clear hx1
            go_upto_region 21 with fail
            have HK := Lib.hid (Blk.drew HK.out)
            have HMM := Lib.hid HMM.out.drew
            have HARR := Lib.hid HARR.out.drew
            have HSRC := Lib.hid HSRC.out.drew
            have HX : Hid (wr.drew.cell? ⟨gy, I, none⟩ = some (.int .i64 a)) := Lib.hid HX.out
            have HB3 := Lib.hid HB3.out.drew
            have HS := And.intro HX.out (HCD.out _ HB3.out)
            refine wp_region_noPanic ?_
            refine Rg.beginR [6, 10] (fun w' => w'.cell? ⟨gy, I, none⟩ = some (.int .i64 a) ∧ w'.cell? ⟨b4, o4 + I, none⟩ = some (.int .i64 d)) (by kernel_rfl) ?_
            generalize wr.drew = w1' at *
            refine Rg.takeP (i := 0) (oi := { dst := some 96, op := Op.move (Operand.tmp 16), type := 22, pos := "number.go:341", after := #[], guard := none }) (v := ?_) rfl (by kernel_rfl) (fun _ _ _ h => h) (by rfl) ?_ ?_
            rotate_left 1
            · (intro w; go_simp; (try with_reducible rfl))
            try simp only [Act.put, List.setIfInBounds_toArray, List.set_cons_zero, List.set_cons_succ]
            refine Rg.takeP (i := 1) (oi := { dst := some 97, op := Op.move (Operand.tmp 17), type := 3, pos := "number.go:341", after := #[], guard := none }) (v := ?_) rfl (by kernel_rfl) (fun _ _ _ h => h) (by rfl) ?_ ?_
            rotate_left 1
            · (intro w; go_simp; (try with_reducible rfl))
            try simp only [Act.put, List.setIfInBounds_toArray, List.set_cons_zero, List.set_cons_succ]
            refine Rg.takeP (i := 2) (oi := { dst := some 98, op := Op.move (Operand.tmp 12), type := 53, pos := "number.go:341", after := #[], guard := none }) (v := ?_) rfl (by kernel_rfl) (fun _ _ _ h => h) (by rfl) ?_ ?_
            rotate_left 1
            · (intro w; go_simp; (try with_reducible rfl))
            try simp only [Act.put, List.setIfInBounds_toArray, List.set_cons_zero, List.set_cons_succ]
            refine Rg.takeP (i := 3) (oi := { dst := some 99, op := Op.move (Operand.tmp 13), type := 22, pos := "number.go:341", after := #[], guard := none }) (v := ?_) rfl (by kernel_rfl) (fun _ _ _ h => h) (by rfl) ?_ ?_
            rotate_left 1
            · (intro w; go_simp; (try with_reducible rfl))
            try simp only [Act.put, List.setIfInBounds_toArray, List.set_cons_zero, List.set_cons_succ]
            refine Rg.takeP (i := 4) (oi := { dst := some 100, op := Op.move (Operand.tmp 17), type := 3, pos := "number.go:341", after := #[], guard := none }) (v := ?_) rfl (by kernel_rfl) (fun _ _ _ h => h) (by rfl) ?_ ?_
            rotate_left 1
            · (intro w; go_simp; (try with_reducible rfl))
            try simp only [Act.put, List.setIfInBounds_toArray, List.set_cons_zero, List.set_cons_succ]
            refine Rg.takeP (i := 5) (oi := { dst := some 101, op := Op.indexAddr 22 (Operand.tmp 99) (Operand.tmp 100), type := 0, pos := "number.go:341", after := #[{ on := 3, ground := Ground.data }, { on := 4, ground := Ground.data }], guard := none }) (v := ?_) rfl (by kernel_rfl) (fun _ _ _ h => h) (by rfl) ?_ ?_
            rotate_left 1
            · (intro w; go_simp; (try with_reducible rfl))
            try simp only [Act.put, List.setIfInBounds_toArray, List.set_cons_zero, List.set_cons_succ]
            refine Rg.takeS (i := 6) (oi := { dst := some 102, op := Op.load 3 (Operand.tmp 101), type := 3, pos := "number.go:341", after := #[{ on := 5, ground := Ground.data }], guard := none }) (v := ?_) rfl (by kernel_rfl) (fun _ _ _ h => h) (by rfl) HS ?_ ?_
            rotate_left 1
            · (intro w hSw; (try dsimp only at hSw); (try go_split_ands); go_simp; (try with_reducible rfl))
            try simp only [Act.put, List.setIfInBounds_toArray, List.set_cons_zero, List.set_cons_succ]
            refine Rg.takeP (i := 7) (oi := { dst := some 103, op := Op.move (Operand.tmp 8), type := 22, pos := "number.go:341", after := #[], guard := none }) (v := ?_) rfl (by kernel_rfl) (fun _ _ _ h => h) (by rfl) ?_ ?_
            rotate_left 1
            · (intro w; go_simp; (try with_reducible rfl))
            try simp only [Act.put, List.setIfInBounds_toArray, List.set_cons_zero, List.set_cons_succ]
            refine Rg.takeP (i := 8) (oi := { dst := some 104, op := Op.move (Operand.tmp 17), type := 3, pos := "number.go:341", after := #[], guard := none }) (v := ?_) rfl (by kernel_rfl) (fun _ _ _ h => h) (by rfl) ?_ ?_
            rotate_left 1
            · (intro w; go_simp; (try with_reducible rfl))
            try simp only [Act.put, List.setIfInBounds_toArray, List.set_cons_zero, List.set_cons_succ]
            refine Rg.takeP (i := 9) (oi := { dst := some 105, op := Op.indexAddr 22 (Operand.tmp 103) (Operand.tmp 104), type := 0, pos := "number.go:341", after := #[{ on := 7, ground := Ground.data }, { on := 8, ground := Ground.data }], guard := none }) (v := ?_) rfl (by kernel_rfl) (fun _ _ _ h => h) (by rfl) ?_ ?_
            rotate_left 1
            · (intro w; go_simp; (try with_reducible rfl))
            try simp only [Act.put, List.setIfInBounds_toArray, List.set_cons_zero, List.set_cons_succ]
            refine Rg.takeS (i := 10) (oi := { dst := some 106, op := Op.load 3 (Operand.tmp 105), type := 3, pos := "number.go:341", after := #[{ on := 9, ground := Ground.data }], guard := none }) (v := ?_) rfl (by kernel_rfl) (fun _ _ _ h => h) (by rfl) HS ?_ ?_
            rotate_left 1
            · (intro w hSw; (try dsimp only at hSw); (try go_split_ands); go_simp; (try with_reducible rfl))
            try simp only [Act.put, List.setIfInBounds_toArray, List.set_cons_zero, List.set_cons_succ]
            refine Rg.oneR (i := 11) (oi := { dst := some 107, op := Op.call { callee := Callee.value (Operand.func 32), args := #[Operand.tmp 98, Operand.tmp 102, Operand.tmp 106], argTypes := #[53, 3, 3] }, type := 3, pos := "number.go:341", after := #[{ on := 2, ground := Ground.data }, { on := 6, ground := Ground.data }, { on := 10, ground := Ground.data }], guard := none }) rfl (by kernel_rfl) ?_
            refine Rg.stepF ?_ ?_
            · kernel_rfl
            intro K hK
            rw [if_pos (by rfl)]
            go_simp
            go_at_call 32
            refine (rdiv_any gk _ a d _ HK.out r_a.out r_d.out).mono ?_
            rw [V_.out]
            rintro e w1' ⟨rfl, hst, hg⟩
            dsimp only at hst ⊢
            have HK := Lib.hid hst
            have HMM := Lib.hid (HMM.out.grown hg (neq_of (by omega)))
            have HX := Lib.hid ((grown_at hg HSRC.out.lt (by omega) _).trans HX.out)
            have HARR := Lib.hid (HARR.out.grown hg (neq_of (by omega)))
            have HSRC := Lib.hid (HSRC.out.grown hg (neq_of (by omega)))
            have HB3 := Lib.hid (below_grown HB3.out (Nat.le_refl _) hg (fun g e => by injection e with e; omega))
            clear hst hg
            (try clear HS)
            have HS := And.intro HX.out (HCD.out _ HB3.out)
            go_wp2_with fail
            have hc := HARR.out.cell hlt
            have hf := HARR.out.thaw I
            refine hK.out _ _ ?_
            clear hK K
            try simp only [Act.put, List.setIfInBounds_toArray, List.set_cons_zero, List.set_cons_succ]
            refine Rg.takeP (i := 12) (oi := { dst := some 108, op := Op.indexAddr 22 (Operand.tmp 96) (Operand.tmp 97), type := 0, pos := "number.go:341", after := #[{ on := 0, ground := Ground.data }, { on := 1, ground := Ground.data }, { on := 0, ground := Ground.phase }, { on := 1, ground := Ground.phase }, { on := 2, ground := Ground.phase }, { on := 3, ground := Ground.phase }, { on := 4, ground := Ground.phase }, { on := 5, ground := Ground.phase }, { on := 6, ground := Ground.phase }, { on := 7, ground := Ground.phase }, { on := 8, ground := Ground.phase }, { on := 9, ground := Ground.phase }, { on := 10, ground := Ground.phase }, { on := 11, ground := Ground.phase }], guard := none }) (v := ?_) rfl (by kernel_rfl) (fun _ _ _ h => h) (by rfl) ?_ ?_
            rotate_left 1
            · (intro w; go_simp; (try with_reducible rfl))
            try simp only [Act.put, List.setIfInBounds_toArray, List.set_cons_zero, List.set_cons_succ]
            refine Rg.oneR (i := 13) (oi := { dst := none, op := Op.store 3 (Operand.tmp 108) (Operand.tmp 107), type := 0, pos := "number.go:341", after := #[{ on := 12, ground := Ground.data }, { on := 11, ground := Ground.data }, { on := 11, ground := Ground.chain }, { on := 0, ground := Ground.phase }, { on := 1, ground := Ground.phase }, { on := 2, ground := Ground.phase }, { on := 3, ground := Ground.phase }, { on := 4, ground := Ground.phase }, { on := 5, ground := Ground.phase }, { on := 6, ground := Ground.phase }, { on := 7, ground := Ground.phase }, { on := 8, ground := Ground.phase }, { on := 9, ground := Ground.phase }, { on := 10, ground := Ground.phase }, { on := 11, ground := Ground.phase }], guard := none }) rfl (by kernel_rfl) ?_
            refine Rg.stepF ?_ ?_
            · kernel_rfl
            intro K hK
            go_simp
            refine hK.out _ _ ?_
            clear hK K
            try simp only [Act.put, List.setIfInBounds_toArray, List.set_cons_zero, List.set_cons_succ]
            refine Rg.doneR (by kernel_rfl) ?_ _
            refine NoPanic.normal ?_
            (try clear HS)
            clear hc hf HX
            have HARR := Lib.hid ((HARR.out.set hlt v))
            have HK := Lib.hid (Blk.other HK.out (p := ⟨gz, I, none⟩) (by show _ ≠ gz; omega) (.int .i64 v))
            have HMM := Lib.hid (HMM.out.other (p := ⟨gz, I, none⟩) (by show _ ≠ gz; omega) (.int .i64 v))
            have HSRC := Lib.hid (HSRC.out.other (p := ⟨gz, I, none⟩) (by show _ ≠ gz; omega) (.int .i64 v))
            have HB3 := Lib.hid (HB3.out.setCell (p := ⟨gz, I, none⟩) (by show _ ≤ gz; omega) (.int .i64 v))
            generalize (w1'.setCell ⟨gz, I, none⟩ (.int .i64 v)) = w2' at *
            go_wp2_with fail
            refine ⟨⟨I + 1, by omega, by go_num, HSRC.out, ⟨?_, HMM.out, ?_, HB3.out⟩⟩, by simp [intOf]; omega⟩
            · rw [HFS.out]
              have h := HK.out
              simp only [Bool.or_assoc] at h ⊢
              exact h
            · rw [HFS.out]
              exact HARR.out.congr fun q _ => mixU_succ I z _ v q
          · obtain rfl : N = I := by omega
            clear hlt HSRC
            obtain ⟨⟨z, zb⟩, hz⟩ : ∃ r, divF f df N = r := ⟨_, rfl⟩
            have HZR := Lib.hid (show ∀ k, In64 (z k) from by have h := divF_range f df N; rw [hz] at h; exact h)
            rw [hz] at HK HARR HSA
            clear hz
            simp only at HK HARR HSA
            have HARR := Lib.hid (HARR.out.congr (f' := z) fun k hk => mixU_lt _ _ hk)
            generalize wr = wq2 at *
            have hzx := HARR.out.lt
            go_upto_region 23 with (refine wpList_make_row rfl _ _ _ rfl Go.Proofs.Ytejefecglioifaa.Ints.elemInts N rfl rfl rfl rfl (by omega) (by omega) ?_)
            have HSRC := Lib.hid (show ArrAt (wq2.alloc (.cells (rowF .i64 N (fun _ => 0)) 3)) gz N _ from HARR.out.alloc _)
            have HARR := Lib.hid (ArrAt.of_row (show Blk (wq2.alloc (.cells (rowF .i64 N (fun _ => 0)) 3)) wq2.heap.size 3 (rowF .i64 N (fun _ => 0)) from Blk.fresh _ _ _))
            have HK := Lib.hid (show Bent (wq2.alloc (.cells (rowF .i64 N (fun _ => 0)) 3)) 55 gk _ from Blk.alloc HK.out _)
            have HMM := Lib.hid (show Blk (wq2.alloc (.cells (rowF .i64 N (fun _ => 0)) 3)) w3.heap.size 24 #[.int .i64 (N : Int), .slice (some ⟨b3, o3, none⟩) l.length c3] from HMM.out.alloc _)
            have HB3 := Lib.hid (show Below w3.heap.size w3 (wq2.alloc (.cells (rowF .i64 N (fun _ => 0)) 3)) from HB3.out.alloc HB3.out.size _)
            generalize (wq2.alloc (.cells (rowF .i64 N (fun _ => 0)) 3)) = w7' at *
            obtain ⟨gx, hgx⟩ : ∃ g, wq2.heap.size = g := ⟨_, rfl⟩
            rw [hgx] at HARR hzx ⊢
            clear hgx
            go_wp2_with fail
            go_loopw [19] (fun iv wr => ∃ t : Nat, t ≤ N ∧ iv = .int .i64 ((N : Int) - 1 - (t : Int)) ∧ ArrAt wr gz N z ∧ RSt w3 wr #[.int .i64 (N : Int), .slice (some ⟨b3, o3, none⟩) l.length c3] gk gx N (mixD (N - t) (bakF N L z t).1 (fun _ => 0)) (b || fb || zb || (bakF N L z t).2)) (fun iv _ => ((intOf iv) + 1).toNat)
            case atStart => exact ⟨0, by omega, by go_num, HSRC.out, ⟨by simp only [bakF, Bool.or_false]; exact HK.out, HMM.out, HARR.out.congr fun k hk => (mixD_lt _ (fun _ => 0) (by omega)).symm, HB3.out⟩⟩
            case round =>
              clear HK HMM HARR HB3 HSRC
              obtain ⟨t, ht, rfl, hsrc, hat⟩ := hrel
              have HK := Lib.hid hat.bent
              have HMM := Lib.hid hat.mat
              have HARR := Lib.hid hat.arr
              have HB3 := Lib.hid hat.bel
              clear hat
              have HSRC := Lib.hid hsrc
              clear hsrc
              by_cases hlt : t < N
              · obtain ⟨i, hi⟩ : ∃ i, N - 1 - t = i := ⟨_, rfl⟩
                have hiv : (N : Int) - 1 - (t : Int) = (i : Int) := by omega
                have HIV := Lib.hid hiv
                rw [hiv]
                have HFS := Lib.hid (show bakF N L z (t + 1) = (put1 (bakF N L z t).1 i (lessW (fun m => L (i + 1 + m) i) (fun m => (bakF N L z t).1 (i + 1 + m)) (z i) t).1, (bakF N L z t).2 || (lessW (fun m => L (i + 1 + m) i) (fun m => (bakF N L z t).1 (i + 1 + m)) (z i) t).2) from by rw [← hi]; rfl)
                have HFR := Lib.hid (bakF_range N L HZR.out t)
                rw [show N - t = i + 1 by omega] at HARR
                have HIT := Lib.hid (show N = i + 1 + t by omega)
                have hiN : i < N := by omega
                clear hi hiv
                generalize bakF N L z t = ff at *
                obtain ⟨f3, gb⟩ := ff
                simp only at HFS HFR HK HARR
                have hiN1 : (i : Int) < (N : Int) := by omega
                have hi0 : (0 : Int) ≤ (i : Int) := by omega
                generalize wr = wq3 at *
                go_upto_region 26 with fail
                have hv1 := HSRC.out.cell hiN
                have hc1 := HARR.out.cell hiN
                have hf1 := HARR.out.thaw i
                obtain ⟨u, hu⟩ : ∃ u, z i = u := ⟨_, rfl⟩
                rw [hu] at hv1
                go_upto_region 27 with fail
                clear hv1 hc1 hf1
                have HARR := Lib.hid ((HARR.out.set hiN u))
                have HK := Lib.hid (Blk.other HK.out (p := ⟨gx, i, none⟩) (by show _ ≠ gx; omega) (.int .i64 u))
                have HMM := Lib.hid (HMM.out.other (p := ⟨gx, i, none⟩) (by show _ ≠ gx; omega) (.int .i64 u))
                have HSRC := Lib.hid (HSRC.out.other (p := ⟨gx, i, none⟩) (by show _ ≠ gx; omega) (.int .i64 u))
                have HB3 := Lib.hid (HB3.out.setCell (p := ⟨gx, i, none⟩) (by show _ ≤ gx; omega) (.int .i64 u))
                generalize (wq3.setCell ⟨gx, i, none⟩ (.int .i64 u)) = wp' at *
                go_wp2_with fail
                go_loopw [20] (fun kv wr => ∃ m : Nat, m ≤ t ∧ kv = .int .i64 ((i + 1 + m : Nat) : Int) ∧ ArrAt wr gz N z ∧ RSt w3 wr #[.int .i64 (N : Int), .slice (some ⟨b3, o3, none⟩) l.length c3] gk gx N (put1 (mixD (i + 1) f3 (fun _ => 0)) i (lessW (fun m => L (i + 1 + m) i) (fun m => f3 (i + 1 + m)) (z i) m).1) (b || fb || zb || gb || (lessW (fun m => L (i + 1 + m) i) (fun m => f3 (i + 1 + m)) (z i) m).2)) (fun kv _ => N - (intOf kv).toNat)
                case atStart => exact ⟨0, by omega, by go_num, HSRC.out, ⟨by simp only [lessW, Bool.or_false]; exact HK.out, HMM.out, by rw [← hu] at HARR; exact HARR.out, HB3.out⟩⟩
                case round =>
                  clear HK HMM HARR HB3 HSRC hu
                  obtain ⟨m, hm, rfl, hsrc, hat⟩ := hrel
                  have HK := Lib.hid hat.bent
                  have HMM := Lib.hid hat.mat
                  have HARR := Lib.hid hat.arr
                  have HB3 := Lib.hid hat.bel
                  clear hat
                  have HSRC := Lib.hid hsrc
                  clear hsrc
                  by_cases hmt : m < t
                  · obtain ⟨k, hk⟩ : ∃ k, i + 1 + m = k := ⟨_, rfl⟩
                    have hkN : k < N := by have := HIT.out; omega
                    have hik : i < k := by omega
                    rw [hk]
                    have HCH := Lib.hid (show lessW (fun m => L (i + 1 + m) i) (fun m => f3 (i + 1 + m)) (z i) (m + 1) = ((fsub (lessW (fun m => L (i + 1 + m) i) (fun m => f3 (i + 1 + m)) (z i) m).1 (fmul (L k i) (f3 k)).1).1, (lessW (fun m => L (i + 1 + m) i) (fun m => f3 (i + 1 + m)) (z i) m).2 || (fmul (L k i) (f3 k)).2 || (fsub (lessW (fun m => L (i + 1 + m) i) (fun m => f3 (i + 1 + m)) (z i) m).1 (fmul (L k i) (f3 k)).1).2) from by rw [← hk]; rfl)
                    have HKK := Lib.hid hk
                    clear hk
                    have r_s := Lib.hid (lessW_range (fun m => L (i + 1 + m) i) (fun m => f3 (i + 1 + m)) (HZR.out i) m)
                    have hx2 := HARR.out.cell hkN
                    rw [put1_other _ _ (by omega), mixD_ge _ _ (by omega)] at hx2
                    generalize lessW (fun m => L (i + 1 + m) i) (fun m => f3 (i + 1 + m)) (z i) m = ch at *
                    obtain ⟨s, sb⟩ := ch
                    simp only at HCH r_s HK HARR
                    have hx1 := HARR.out.cell hiN
                    rw [put1_same] at hx1
                    have r_x := Lib.hid (HFR.out k)
                    have r_a := Lib.hid (HLR.out k i)
                    have HCD := Lib.hid (H3.out k i hkN hiN)
                    obtain ⟨a, ha⟩ : ∃ a, L k i = a := ⟨_, rfl⟩
                    rw [ha] at HCH r_a HCD
                    obtain ⟨x, hx⟩ : ∃ x, f3 k = x := ⟨_, rfl⟩
                    rw [hx] at HCH r_x hx2
                    clear ha hx
                    obtain ⟨⟨p, pb⟩, hp⟩ : ∃ r, fmul a x = r := ⟨_, rfl⟩
                    have r_p := Lib.hid (show In64 p from by have h := fmul_range a x; rw [hp] at h; exact h)
                    have P_ := Lib.hid hp
                    rw [hp] at HCH
                    (try simp only at HCH)
                    clear hp
                    obtain ⟨⟨t, tb⟩, ht⟩ : ∃ r, fsub s p = r := ⟨_, rfl⟩
                    have r_t := Lib.hid (show In64 t from by have h := fsub_range s p; rw [ht] at h; exact h)
                    have T_ := Lib.hid ht
                    rw [ht] at HCH
                    (try simp only at HCH)
                    clear ht
                    have hkN1 : (k : Int) < (N : Int) := by omega
                    have HLQ := Lib.hid (HLI.out k i hkN hiN)
                    obtain ⟨q, hq⟩ : ∃ q, k * N = q := ⟨_, rfl⟩
                    have hqi1 : (k : Int) * (N : Int) = (q : Int) := by rw [← hq]; push_cast; rfl
                    rw [hq] at HCD HLQ
                    clear hq
                    have hll := HLL.out
                    have hlq := HLQ.out
                    have h1 : (q : Int) + (i : Int) < (l.length : Int) := by omega
                    have t1 : ((q : Int) + (i : Int)).toNat = q + i := by omega
                    have e1 : IntKind.i64.wrap (q : Int) = (q : Int) := IntWalk.i64_in _ (by omega)
                    have e3 : IntKind.i64.wrap ((q : Int) + (i : Int)) = (q : Int) + (i : Int) := IntWalk.i64_in _ (by omega)
                    have p1 : (0 : Int) ≤ (q : Int) + (i : Int) := by omega
                    clear hll hlq
                    have HX := Lib.hid (And.intro hx1 hx2)
                    clear hx1 hx2
                    go_upto_region 30 with fail
                    have HK := Lib.hid (Blk.drew HK.out)
                    have HMM := Lib.hid HMM.out.drew
                    have HARR := Lib.hid HARR.out.drew
                    have HX : Hid (wr.drew.cell? ⟨gx, i, none⟩ = some (.int .i64 s) ∧ wr.drew.cell? ⟨gx, k, none⟩ = some (.int .i64 x)) := Lib.hid HX.out
                    have HSRC := Lib.hid HSRC.out.drew
                    have HB3 := Lib.hid HB3.out.drew
                    have HS := And.intro ((HMM.out.cell 1).trans rfl) (And.intro HX.out.1 (And.intro HX.out.2 (HCD.out _ HB3.out)))
                    refine wp_region_noPanic ?_
                    refine Rg.beginR [6, 9, 16, 20] (fun w' => w'.cell? ⟨w3.heap.size, 1, none⟩ = some (.slice (some ⟨b3, o3, none⟩) l.length c3) ∧ w'.cell? ⟨gx, i, none⟩ = some (.int .i64 s) ∧ w'.cell? ⟨gx, k, none⟩ = some (.int .i64 x) ∧ w'.cell? ⟨b3, o3 + (q + i), none⟩ = some (.int .i64 a)) (by kernel_rfl) ?_
                    generalize wr.drew = w1' at *
                    refine Rg.takeP (i := 0) (oi := { dst := some 131, op := Op.move (Operand.tmp 18), type := 22, pos := "number.go:347", after := #[], guard := none }) (v := ?_) rfl (by kernel_rfl) (fun _ _ _ h => h) (by rfl) ?_ ?_
                    rotate_left 1
                    · (intro w; go_simp; (try with_reducible rfl))
                    try simp only [Act.put, List.setIfInBounds_toArray, List.set_cons_zero, List.set_cons_succ]
                    refine Rg.takeP (i := 1) (oi := { dst := some 132, op := Op.move (Operand.tmp 19), type := 3, pos := "number.go:347", after := #[], guard := none }) (v := ?_) rfl (by kernel_rfl) (fun _ _ _ h => h) (by rfl) ?_ ?_
                    rotate_left 1
                    · (intro w; go_simp; (try with_reducible rfl))
                    try simp only [Act.put, List.setIfInBounds_toArray, List.set_cons_zero, List.set_cons_succ]
                    refine Rg.takeP (i := 2) (oi := { dst := some 133, op := Op.move (Operand.tmp 12), type := 53, pos := "number.go:347", after := #[], guard := none }) (v := ?_) rfl (by kernel_rfl) (fun _ _ _ h => h) (by rfl) ?_ ?_
                    rotate_left 1
                    · (intro w; go_simp; (try with_reducible rfl))
                    try simp only [Act.put, List.setIfInBounds_toArray, List.set_cons_zero, List.set_cons_succ]
                    refine Rg.takeP (i := 3) (oi := { dst := some 134, op := Op.move (Operand.tmp 18), type := 22, pos := "number.go:347", after := #[], guard := none }) (v := ?_) rfl (by kernel_rfl) (fun _ _ _ h => h) (by rfl) ?_ ?_
                    rotate_left 1
                    · (intro w; go_simp; (try with_reducible rfl))
                    try simp only [Act.put, List.setIfInBounds_toArray, List.set_cons_zero, List.set_cons_succ]
                    refine Rg.takeP (i := 4) (oi := { dst := some 135, op := Op.move (Operand.tmp 19), type := 3, pos := "number.go:347", after := #[], guard := none }) (v := ?_) rfl (by kernel_rfl) (fun _ _ _ h => h) (by rfl) ?_ ?_
                    rotate_left 1
                    · (intro w; go_simp; (try with_reducible rfl))
                    try simp only [Act.put, List.setIfInBounds_toArray, List.set_cons_zero, List.set_cons_succ]
                    refine Rg.takeP (i := 5) (oi := { dst := some 136, op := Op.indexAddr 22 (Operand.tmp 134) (Operand.tmp 135), type := 0, pos := "number.go:347", after := #[{ on := 3, ground := Ground.data }, { on := 4, ground := Ground.data }], guard := none }) (v := ?_) rfl (by kernel_rfl) (fun _ _ _ h => h) (by rfl) ?_ ?_
                    rotate_left 1
                    · (intro w; go_simp; (try with_reducible rfl))
                    try simp only [Act.put, List.setIfInBounds_toArray, List.set_cons_zero, List.set_cons_succ]
                    refine Rg.takeS (i := 6) (oi := { dst := some 137, op := Op.load 3 (Operand.tmp 136), type := 3, pos := "number.go:347", after := #[{ on := 5, ground := Ground.data }], guard := none }) (v := ?_) rfl (by kernel_rfl) (fun _ _ _ h => h) (by rfl) HS ?_ ?_
                    rotate_left 1
                    · (intro w hSw; (try dsimp only at hSw); (try go_split_ands); go_simp; (try with_reducible rfl))
                    try simp only [Act.put, List.setIfInBounds_toArray, List.set_cons_zero, List.set_cons_succ]
                    refine Rg.takeP (i := 7) (oi := { dst := some 138, op := Op.move (Operand.tmp 12), type := 53, pos := "number.go:347", after := #[], guard := none }) (v := ?_) rfl (by kernel_rfl) (fun _ _ _ h => h) (by rfl) ?_ ?_
                    rotate_left 1
                    · (intro w; go_simp; (try with_reducible rfl))
                    try simp only [Act.put, List.setIfInBounds_toArray, List.set_cons_zero, List.set_cons_succ]
                    refine Rg.takeP (i := 8) (oi := { dst := some 139, op := Op.fieldAddr 24 (Operand.tmp 7) 1, type := 0, pos := "number.go:347", after := #[], guard := none }) (v := ?_) rfl (by kernel_rfl) (fun _ _ _ h => h) (by rfl) ?_ ?_
                    rotate_left 1
                    · (intro w; go_simp; (try with_reducible rfl))
                    try simp only [Act.put, List.setIfInBounds_toArray, List.set_cons_zero, List.set_cons_succ]
                    refine Rg.takeS (i := 9) (oi := { dst := some 140, op := Op.load 22 (Operand.tmp 139), type := 22, pos := "number.go:347", after := #[{ on := 8, ground := Ground.data }], guard := none }) (v := ?_) rfl (by kernel_rfl) (fun _ _ _ h => h) (by rfl) HS ?_ ?_
                    rotate_left 1
                    · (intro w hSw; (try dsimp only at hSw); (try go_split_ands); go_simp; (try with_reducible rfl))
                    try simp only [Act.put, List.setIfInBounds_toArray, List.set_cons_zero, List.set_cons_succ]
                    refine Rg.takeP (i := 10) (oi := { dst := some 141, op := Op.move (Operand.tmp 20), type := 3, pos := "number.go:347", after := #[], guard := none }) (v := ?_) rfl (by kernel_rfl) (fun _ _ _ h => h) (by rfl) ?_ ?_
                    rotate_left 1
                    · (intro w; go_simp; (try with_reducible rfl))
                    try simp only [Act.put, List.setIfInBounds_toArray, List.set_cons_zero, List.set_cons_succ]
                    refine Rg.takeP (i := 11) (oi := { dst := some 142, op := Op.move (Operand.tmp 11), type := 3, pos := "number.go:347", after := #[], guard := none }) (v := ?_) rfl (by kernel_rfl) (fun _ _ _ h => h) (by rfl) ?_ ?_
                    rotate_left 1
                    · (intro w; go_simp; (try with_reducible rfl))
                    try simp only [Act.put, List.setIfInBounds_toArray, List.set_cons_zero, List.set_cons_succ]
                    refine Rg.takeP (i := 12) (oi := { dst := some 143, op := Op.binOp BinOp.mul 3 (Operand.tmp 141) (Operand.tmp 142) 3, type := 3, pos := "number.go:347", after := #[{ on := 10, ground := Ground.data }, { on := 11, ground := Ground.data }], guard := none }) (v := ?_) rfl (by kernel_rfl) (fun _ _ _ h => h) (by rfl) ?_ ?_
                    rotate_left 1
                    · (intro w; go_simp; (try simp only [hqi1, e1, e3, t1, if_pos (And.intro p1 h1)]); (try with_reducible rfl))
                    try simp only [Act.put, List.setIfInBounds_toArray, List.set_cons_zero, List.set_cons_succ]
                    refine Rg.takeP (i := 13) (oi := { dst := some 144, op := Op.move (Operand.tmp 19), type := 3, pos := "number.go:347", after := #[], guard := none }) (v := ?_) rfl (by kernel_rfl) (fun _ _ _ h => h) (by rfl) ?_ ?_
                    rotate_left 1
                    · (intro w; go_simp; (try with_reducible rfl))
                    try simp only [Act.put, List.setIfInBounds_toArray, List.set_cons_zero, List.set_cons_succ]
                    refine Rg.takeP (i := 14) (oi := { dst := some 145, op := Op.binOp BinOp.add 3 (Operand.tmp 143) (Operand.tmp 144) 3, type := 3, pos := "number.go:347", after := #[{ on := 12, ground := Ground.data }, { on := 13, ground := Ground.data }], guard := none }) (v := ?_) rfl (by kernel_rfl) (fun _ _ _ h => h) (by rfl) ?_ ?_
                    rotate_left 1
                    · (intro w; go_simp; (try simp only [hqi1, e1, e3, t1, if_pos (And.intro p1 h1)]); (try with_reducible rfl))
                    try simp only [Act.put, List.setIfInBounds_toArray, List.set_cons_zero, List.set_cons_succ]
                    refine Rg.takeP (i := 15) (oi := { dst := some 146, op := Op.indexAddr 22 (Operand.tmp 140) (Operand.tmp 145), type := 0, pos := "number.go:347", after := #[{ on := 9, ground := Ground.data }, { on := 14, ground := Ground.data }], guard := none }) (v := ?_) rfl (by kernel_rfl) (fun _ _ _ h => h) (by rfl) ?_ ?_
                    rotate_left 1
                    · (intro w; go_simp; (try simp only [hqi1, e1, e3, t1, if_pos (And.intro p1 h1)]); (try with_reducible rfl))
                    try simp only [Act.put, List.setIfInBounds_toArray, List.set_cons_zero, List.set_cons_succ]
                    refine Rg.takeS (i := 16) (oi := { dst := some 147, op := Op.load 3 (Operand.tmp 146), type := 3, pos := "number.go:347", after := #[{ on := 15, ground := Ground.data }], guard := none }) (v := ?_) rfl (by kernel_rfl) (fun _ _ _ h => h) (by rfl) HS ?_ ?_
                    rotate_left 1
                    · (intro w hSw; (try dsimp only at hSw); (try go_split_ands); go_simp; (try with_reducible rfl))
                    try simp only [Act.put, List.setIfInBounds_toArray, List.set_cons_zero, List.set_cons_succ]
                    refine Rg.takeP (i := 17) (oi := { dst := some 148, op := Op.move (Operand.tmp 18), type := 22, pos := "number.go:347", after := #[], guard := none }) (v := ?_) rfl (by kernel_rfl) (fun _ _ _ h => h) (by rfl) ?_ ?_
                    rotate_left 1
                    · (intro w; go_simp; (try with_reducible rfl))
                    try simp only [Act.put, List.setIfInBounds_toArray, List.set_cons_zero, List.set_cons_succ]
                    refine Rg.takeP (i := 18) (oi := { dst := some 149, op := Op.move (Operand.tmp 20), type := 3, pos := "number.go:347", after := #[], guard := none }) (v := ?_) rfl (by kernel_rfl) (fun _ _ _ h => h) (by rfl) ?_ ?_
                    rotate_left 1
                    · (intro w; go_simp; (try with_reducible rfl))
                    try simp only [Act.put, List.setIfInBounds_toArray, List.set_cons_zero, List.set_cons_succ]
                    refine Rg.takeP (i := 19) (oi := { dst := some 150, op := Op.indexAddr 22 (Operand.tmp 148) (Operand.tmp 149), type := 0, pos := "number.go:347", after := #[{ on := 17, ground := Ground.data }, { on := 18, ground := Ground.data }], guard := none }) (v := ?_) rfl (by kernel_rfl) (fun _ _ _ h => h) (by rfl) ?_ ?_
                    rotate_left 1
                    · (intro w; go_simp; (try with_reducible rfl))
                    try simp only [Act.put, List.setIfInBounds_toArray, List.set_cons_zero, List.set_cons_succ]
                    refine Rg.takeS (i := 20) (oi := { dst := some 151, op := Op.load 3 (Operand.tmp 150), type := 3, pos := "number.go:347", after := #[{ on := 19, ground := Ground.data }], guard := none }) (v := ?_) rfl (by kernel_rfl) (fun _ _ _ h => h) (by rfl) HS ?_ ?_
                    rotate_left 1
                    · (intro w hSw; (try dsimp only at hSw); (try go_split_ands); go_simp; (try with_reducible rfl))
                    try simp only [Act.put, List.setIfInBounds_toArray, List.set_cons_zero, List.set_cons_succ]
                    refine Rg.oneR (i := 21) (oi := { dst := some 152, op := Op.call { callee := Callee.value (Operand.func 30), args := #[Operand.tmp 138, Operand.tmp 147, Operand.tmp 151], argTypes := #[53, 3, 3] }, type := 3, pos := "number.go:347", after := #[{ on := 7, ground := Ground.data }, { on := 16, ground := Ground.data }, { on := 20, ground := Ground.data }], guard := none }) rfl (by kernel_rfl) ?_
                    refine Rg.stepS ?_
                    intro K hK
                    rw [if_pos (by rfl)]
                    go_simp
                    go_at_call 30
                    refine (rmul_any gk _ a x _ HK.out r_a.out r_x.out).mono ?_
                    rw [P_.out]
                    rintro e w1' ⟨rfl, hst, hg⟩
                    dsimp only at hst ⊢
                    have HK := Lib.hid hst
                    have HMM := Lib.hid (HMM.out.grown hg (neq_of (by omega)))
                    have HX := Lib.hid (And.intro ((grown_at hg HARR.out.lt (by omega) _).trans HX.out.1) ((grown_at hg HARR.out.lt (by omega) _).trans HX.out.2))
                    have HARR := Lib.hid (HARR.out.grown hg (neq_of (by omega)))
                    have HSRC := Lib.hid (HSRC.out.grown hg (neq_of (by omega)))
                    have HB3 := Lib.hid (below_grown HB3.out (Nat.le_refl _) hg (fun g e => by injection e with e; omega))
                    clear hst hg
                    (try clear HS)
                    have HS := And.intro ((HMM.out.cell 1).trans rfl) (And.intro HX.out.1 (And.intro HX.out.2 (HCD.out _ HB3.out)))
                    go_wp2_with fail
                    refine hK.out _ _ HS ?_
                    clear hK K
                    try simp only [Act.put, List.setIfInBounds_toArray, List.set_cons_zero, List.set_cons_succ]
                    refine Rg.oneR (i := 22) (oi := { dst := some 153, op := Op.call { callee := Callee.value (Operand.func 31), args := #[Operand.tmp 133, Operand.tmp 137, Operand.tmp 152], argTypes := #[53, 3, 3] }, type := 3, pos := "number.go:347", after := #[{ on := 2, ground := Ground.data }, { on := 6, ground := Ground.data }, { on := 21, ground := Ground.data }, { on := 21, ground := Ground.chain }], guard := none }) rfl (by kernel_rfl) ?_
                    refine Rg.stepF ?_ ?_
                    · kernel_rfl
                    intro K hK
                    rw [if_pos (by rfl)]
                    go_simp
                    go_at_call 31
                    refine (rsub_any gk _ s p _ HK.out r_s.out r_p.out).mono ?_
                    rw [T_.out]
                    rintro e w1' ⟨rfl, hst, hg⟩
                    dsimp only at hst ⊢
                    have HK := Lib.hid hst
                    have HMM := Lib.hid (HMM.out.grown hg (neq_of (by omega)))
                    have HX := Lib.hid (And.intro ((grown_at hg HARR.out.lt (by omega) _).trans HX.out.1) ((grown_at hg HARR.out.lt (by omega) _).trans HX.out.2))
                    have HARR := Lib.hid (HARR.out.grown hg (neq_of (by omega)))
                    have HSRC := Lib.hid (HSRC.out.grown hg (neq_of (by omega)))
                    have HB3 := Lib.hid (below_grown HB3.out (Nat.le_refl _) hg (fun g e => by injection e with e; omega))
                    clear hst hg
                    (try clear HS)
                    have HS := And.intro ((HMM.out.cell 1).trans rfl) (And.intro HX.out.1 (And.intro HX.out.2 (HCD.out _ HB3.out)))
                    go_wp2_with fail
                    have hc := HARR.out.cell hiN
                    have hf := HARR.out.thaw i
                    refine hK.out _ _ ?_
                    clear hK K
                    try simp only [Act.put, List.setIfInBounds_toArray, List.set_cons_zero, List.set_cons_succ]
                    refine Rg.takeP (i := 23) (oi := { dst := some 154, op := Op.indexAddr 22 (Operand.tmp 131) (Operand.tmp 132), type := 0, pos := "number.go:347", after := #[{ on := 0, ground := Ground.data }, { on := 1, ground := Ground.data }, { on := 0, ground := Ground.phase }, { on := 1, ground := Ground.phase }, { on := 2, ground := Ground.phase }, { on := 3, ground := Ground.phase }, { on := 4, ground := Ground.phase }, { on := 5, ground := Ground.phase }, { on := 6, ground := Ground.phase }, { on := 7, ground := Ground.phase }, { on := 8, ground := Ground.phase }, { on := 9, ground := Ground.phase }, { on := 10, ground := Ground.phase }, { on := 11, ground := Ground.phase }, { on := 12, ground := Ground.phase }, { on := 13, ground := Ground.phase }, { on := 14, ground := Ground.phase }, { on := 15, ground := Ground.phase }, { on := 16, ground := Ground.phase }, { on := 17, ground := Ground.phase }, { on := 18, ground := Ground.phase }, { on := 19, ground := Ground.phase }, { on := 20, ground := Ground.phase }, { on := 21, ground := Ground.phase }, { on := 22, ground := Ground.phase }], guard := none }) (v := ?_) rfl (by kernel_rfl) (fun _ _ _ h => h) (by rfl) ?_ ?_
                    rotate_left 1
                    · (intro w; go_simp; (try with_reducible rfl))
                    try simp only [Act.put, List.setIfInBounds_toArray, List.set_cons_zero, List.set_cons_succ]
                    refine Rg.oneR (i := 24) (oi := { dst := none, op := Op.store 3 (Operand.tmp 154) (Operand.tmp 153), type := 0, pos := "number.go:347", after := #[{ on := 23, ground := Ground.data }, { on := 22, ground := Ground.data }, { on := 22, ground := Ground.chain }, { on := 0, ground := Ground.phase }, { on := 1, ground := Ground.phase }, { on := 2, ground := Ground.phase }, { on := 3, ground := Ground.phase }, { on := 4, ground := Ground.phase }, { on := 5, ground := Ground.phase }, { on := 6, ground := Ground.phase }, { on := 7, ground := Ground.phase }, { on := 8, ground := Ground.phase }, { on := 9, ground := Ground.phase }, { on := 10, ground := Ground.phase }, { on := 11, ground := Ground.phase }, { on := 12, ground := Ground.phase }, { on := 13, ground := Ground.phase }, { on := 14, ground := Ground.phase }, { on := 15, ground := Ground.phase }, { on := 16, ground := Ground.phase }, { on := 17, ground := Ground.phase }, { on := 18, ground := Ground.phase }, { on := 19, ground := Ground.phase }, { on := 20, ground := Ground.phase }, { on := 21, ground := Ground.phase }, { on := 22, ground := Ground.phase }], guard := none }) rfl (by kernel_rfl) ?_
                    refine Rg.stepF ?_ ?_
                    · kernel_rfl
                    intro K hK
                    go_simp
                    refine hK.out _ _ ?_
                    clear hK K
                    try simp only [Act.put, List.setIfInBounds_toArray, List.set_cons_zero, List.set_cons_succ]
                    refine Rg.doneR (by kernel_rfl) ?_ _
                    refine NoPanic.normal ?_
                    (try clear HS)
                    clear hc hf HX hqi1 h1 t1 e1 e3 p1
                    have HARR := Lib.hid ((HARR.out.set hiN t).congr fun q _ => put1_put1 _ _ _ _ q)
                    have HK := Lib.hid (Blk.other HK.out (p := ⟨gx, i, none⟩) (by show _ ≠ gx; omega) (.int .i64 t))
                    have HMM := Lib.hid (HMM.out.other (p := ⟨gx, i, none⟩) (by show _ ≠ gx; omega) (.int .i64 t))
                    have HSRC := Lib.hid (HSRC.out.other (p := ⟨gx, i, none⟩) (by show _ ≠ gx; omega) (.int .i64 t))
                    have HB3 := Lib.hid (HB3.out.setCell (p := ⟨gx, i, none⟩) (by show _ ≤ gx; omega) (.int .i64 t))
                    generalize (w1'.setCell ⟨gx, i, none⟩ (.int .i64 t)) = w2' at *
                    go_wp2_with fail
                    refine ⟨⟨m + 1, by omega, by rw [show i + 1 + (m + 1) = k + 1 by have := HKK.out; omega]; go_num, HSRC.out, ⟨?_, HMM.out, ?_, HB3.out⟩⟩, by simp [intOf]; omega⟩
                    · rw [HCH.out]
                      have h := HK.out
                      simp only [Bool.or_assoc] at h ⊢
                      exact h
                    · rw [HCH.out]
                      exact HARR.out
                  · obtain rfl : t = m := by omega
                    clear hmt
                    obtain ⟨⟨s, sb⟩, hs⟩ : ∃ r, lessW (fun m => L (i + 1 + m) i) (fun m => f3 (i + 1 + m)) (z i) t = r := ⟨_, rfl⟩
                    rw [hs] at HFS HK HARR
                    clear hs
                    simp only at HFS HK HARR
                    have hge : ¬ ((i + 1 + t : Nat) : Int) < (N : Int) := by have := HIT.out; omega
                    go_wp2_with fail
                    refine ⟨⟨t + 1, by omega, by (have := HIV.out; first | go_num | (congr 1; push_cast; omega)), HSRC.out, ⟨?_, HMM.out, ?_, HB3.out⟩⟩, by (simp [intOf]; try omega)⟩
                    · rw [HFS.out]
                      have h := HK.out
                      simp only [Bool.or_assoc] at h ⊢
                      exact h
                    · rw [HFS.out, show N - (t + 1) = i by have := HIT.out; omega]
                      exact HARR.out.congr fun q _ => mixD_succ i f3 _ s q
              · obtain rfl : N = t := by omega
                clear hlt
                obtain ⟨⟨x, xb⟩, hx⟩ : ∃ r, bakF N L z N = r := ⟨_, rfl⟩
                rw [hx] at HK HARR HSA
                clear hx
                simp only at HK HARR HSA
                have HARR := Lib.hid (HARR.out.congr (f' := x) fun k hk => mixD_ge _ _ (by omega))
                have hneg : ¬ (0 : Int) ≤ (N : Int) - 1 - (N : Int) := by omega
                have kb : wr.cell? ⟨gk, 0, none⟩ = some (.bool (b || fb || zb || xb)) := (Blk.cell HK.out 0).trans rfl
                go_upto_region 31 with fail
                have HARR := Lib.hid HARR.out.drew
                have HB3 := Lib.hid HB3.out.drew
                have HS : (fun w' => w'.cell? ⟨gk, 0, none⟩ = some (.bool (b || fb || zb || xb))) wr.drew := kb
                refine wp_region_noPanic ?_
                refine Rg.beginR [4] (fun w' => w'.cell? ⟨gk, 0, none⟩ = some (.bool (b || fb || zb || xb))) (by kernel_rfl) ?_
                clear kb
                generalize wr.drew = w1' at *
                refine Rg.takeP (i := 0) (oi := { dst := some 155, op := Op.move (Operand.tmp 18), type := 22, pos := "number.go:350", after := #[], guard := none }) (v := ?_) rfl (by kernel_rfl) (fun _ _ _ h => h) (by rfl) ?_ ?_
                rotate_left 1
                · (intro w; go_simp; (try with_reducible rfl))
                try simp only [Act.put, List.setIfInBounds_toArray, List.set_cons_zero, List.set_cons_succ]
                refine Rg.takeP (i := 1) (oi := { dst := some 156, op := Op.move (Operand.tmp 12), type := 53, pos := "number.go:350", after := #[{ on := 5, ground := Ground.gcOnly Departure.lateStores }], guard := none }) (v := ?_) rfl (by kernel_rfl) (fun _ _ _ h => h) (by rfl) ?_ ?_
                rotate_left 1
                · (intro w; go_simp; (try with_reducible rfl))
                try simp only [Act.put, List.setIfInBounds_toArray, List.set_cons_zero, List.set_cons_succ]
                refine Rg.takeP (i := 2) (oi := { dst := some 157, op := Op.nilCheck (Operand.tmp 156), type := 0, pos := "number.go:350", after := #[{ on := 1, ground := Ground.data }, { on := 5, ground := Ground.gcOnly Departure.lateStores }], guard := none }) (v := ?_) rfl (by kernel_rfl) (fun _ _ _ h => h) (by rfl) ?_ ?_
                rotate_left 1
                · (intro w; go_simp; (try with_reducible rfl))
                try simp only [Act.put, List.setIfInBounds_toArray, List.set_cons_zero, List.set_cons_succ]
                refine Rg.takeP (i := 3) (oi := { dst := some 158, op := Op.fieldAddr 55 (Operand.tmp 157) 0, type := 0, pos := "number.go:350", after := #[{ on := 2, ground := Ground.data }, { on := 5, ground := Ground.gcOnly Departure.lateStores }], guard := none }) (v := ?_) rfl (by kernel_rfl) (fun _ _ _ h => h) (by rfl) ?_ ?_
                rotate_left 1
                · (intro w; go_simp; (try with_reducible rfl))
                try simp only [Act.put, List.setIfInBounds_toArray, List.set_cons_zero, List.set_cons_succ]
                refine Rg.takeS (i := 4) (oi := { dst := some 159, op := Op.load 4 (Operand.tmp 158), type := 4, pos := "number.go:350", after := #[{ on := 3, ground := Ground.data }, { on := 5, ground := Ground.gcOnly Departure.lateStores }], guard := none }) (v := ?_) rfl (by kernel_rfl) (fun _ _ _ h => h) (by rfl) HS ?_ ?_
                rotate_left 1
                · (intro w hSw; (try dsimp only at hSw); (try go_split_ands); go_simp; (try with_reducible rfl))
                try simp only [Act.put, List.setIfInBounds_toArray, List.set_cons_zero, List.set_cons_succ]
                refine Rg.takeP (i := 5) (oi := { dst := some 4, op := Op.assign (Operand.tmp 155), type := 22, pos := "number.go:350", after := #[{ on := 0, ground := Ground.data }, { on := 0, ground := Ground.phase }, { on := 1, ground := Ground.textOnly Departure.lateStores }, { on := 2, ground := Ground.textOnly Departure.lateStores }, { on := 3, ground := Ground.textOnly Departure.lateStores }, { on := 4, ground := Ground.textOnly Departure.lateStores }], guard := none }) (v := ?_) rfl (by kernel_rfl) (fun _ _ _ h => h) (by rfl) ?_ ?_
                rotate_left 1
                · (intro w; go_simp; (try with_reducible rfl))
                try simp only [Act.put, List.setIfInBounds_toArray, List.set_cons_zero, List.set_cons_succ]
                refine Rg.takeP (i := 6) (oi := { dst := some 5, op := Op.assign (Operand.tmp 159), type := 4, pos := "number.go:350", after := #[{ on := 4, ground := Ground.data }, { on := 5, ground := Ground.chain }, { on := 0, ground := Ground.phase }, { on := 1, ground := Ground.phase }, { on := 2, ground := Ground.phase }, { on := 3, ground := Ground.phase }, { on := 4, ground := Ground.phase }, { on := 5, ground := Ground.phase }], guard := none }) (v := ?_) rfl (by kernel_rfl) (fun _ _ _ h => h) (by rfl) ?_ ?_
                rotate_left 1
                · (intro w; go_simp; (try with_reducible rfl))
                try simp only [Act.put, List.setIfInBounds_toArray, List.set_cons_zero, List.set_cons_succ]
                refine Rg.takeP (i := 7) (oi := { dst := some 6, op := Op.assign (Operand.const (Value.int IntKind.i64 0)), type := 25, pos := "number.go:350", after := #[{ on := 6, ground := Ground.chain }, { on := 0, ground := Ground.phase }, { on := 1, ground := Ground.phase }, { on := 2, ground := Ground.phase }, { on := 3, ground := Ground.phase }, { on := 4, ground := Ground.phase }, { on := 5, ground := Ground.phase }, { on := 6, ground := Ground.phase }], guard := none }) (v := ?_) rfl (by kernel_rfl) (fun _ _ _ h => h) (by rfl) ?_ ?_
                rotate_left 1
                · (intro w; go_simp; (try with_reducible rfl))
                try simp only [Act.put, List.setIfInBounds_toArray, List.set_cons_zero, List.set_cons_succ]
                refine Rg.doneR (by kernel_rfl) ?_ _
                refine NoPanic.normal ?_
                clear HS
                go_wp2_with fail
                go_ret3
                rw [HSA.out]
                refine ⟨some ⟨gx, 0, none⟩, N, ?_, ?_, onward HB.out (Nat.le_refl _) HB3.out⟩
                · show _ = Ending.returned (.tuple #[.slice (some ⟨gx, 0, none⟩) ((List.range N).map x).length N, .bool _, .int .i64 0])
                  rw [show ((List.range N).map x).length = N by simp]
                  rfl
                · show Rd _ _ 1 _ ((List.range N).map x).length _
                  rw [show ((List.range N).map x).length = N by simp]
                  exact HARR.out.rd

/-- P3.6, with the error -/
def solR (N : Int) (zs vs : List Int) : (List Int × Bool) × Int := if good N zs.length = true ∧ (vs.length : Int) = N then solA N.toNat zs vs else (([], false), 8)
theorem solR_len (N : Int) (zs vs : List Int) : (solR N zs vs).1.1.length ≤ 36 := by
  unfold solR
  split
  · rename_i h
    obtain ⟨k, rfl, h1, h2, h3⟩ := good_nat h.1
    show (solA k zs vs).1.1.length ≤ 36
    unfold solA
    split
    · simp
    · simp; omega
  · simp

set_option maxRecDepth 100000 in
set_option maxHeartbeats 1000000 in
theorem solve_no (N : Int) (A A' : Option Addr) (n c m c' : Nat) (w : World) (h : good N n = false ∨ (m : Int) ≠ N) :
    Calls Try.prog 14 #[matV N A n c, .slice A' m c'] w fun e w' => e = .returned (.tuple #[.slice none 0 0, .bool false, .int .i64 8]) ∧ Below w.heap.size w w' := by
  unfold matV
  have HM := Lib.hid (show Blk (w.alloc (.cells #[.int .i64 N, .slice A n c] 24)) w.heap.size 24 #[.int .i64 N, .slice A n c] from Blk.new rfl)
  have HB := Lib.hid (show Below w.heap.size w (w.alloc (.cells #[.int .i64 N, .slice A n c] 24)) from (Below.refl _ _).alloc (Nat.le_refl _) _)
  by_cases hg : good N n = true
  · have HG := Lib.hid hg
    have hm : ((m : Int) == N) = false := by rw [beq_eq_false_iff_ne]; rcases h with h | h; rw [hg] at h; cases h; exact h
    have hm' : (N == (m : Int)) = false := by rw [beq_eq_false_iff_ne]; rcases h with h | h; rw [hg] at h; cases h; exact fun e => h e.symm
    clear hg h
    go_enter Try.func14, Try.ntmps14
    go_upto_region 1 with fail
    generalize (w.alloc (.cells #[.int .i64 N, .slice A n c] 24)) = w1 at *
    go_wp2_with (refine wpList_whole rfl 24 _ rfl w.heap.size rfl HM.out _ Try.underlying24 rfl (by kernel_rfl) ?_)
    refine (good_any N A n c w1).mono ?_
    rintro e w2 ⟨rfl, hb⟩
    rw [HG.out]
    have k0 : w2.cell? ⟨w.heap.size, 0, none⟩ = some (.int .i64 N) := ((HM.out.below hb HM.out.lt).cell 0).trans rfl
    have HB := Lib.hid (onward HB.out (Nat.le_refl _) hb)
    clear hb
    go_wp2_with fail
    go_ret3
    exact ⟨rfl, HB.out⟩
  · have HG := Lib.hid (show good N n = false from by simpa using hg)
    clear hg h
    go_enter Try.func14, Try.ntmps14
    go_upto_region 1 with fail
    generalize (w.alloc (.cells #[.int .i64 N, .slice A n c] 24)) = w1 at *
    go_wp2_with (refine wpList_whole rfl 24 _ rfl w.heap.size rfl HM.out _ Try.underlying24 rfl (by kernel_rfl) ?_)
    refine (good_any N A n c w1).mono ?_
    rintro e w2 ⟨rfl, hb⟩
    rw [HG.out]
    have HB := Lib.hid (onward HB.out (Nat.le_refl _) hb)
    clear hb
    go_wp2_with fail
    go_ret3
    exact ⟨rfl, HB.out⟩

set_option maxRecDepth 100000 in
set_option maxHeartbeats 1000000 in
theorem refSolve_no (N : Int) (A A' : Option Addr) (n c m c' : Nat) (w : World) (h : good N n = false ∨ (m : Int) ≠ N) :
    Calls Try.prog 15 #[matV N A n c, .slice A' m c'] w fun e w' => e = .returned (.tuple #[.slice none 0 0, .bool false, .int .i64 8]) ∧ Below w.heap.size w w' := by
  unfold matV
  have HM := Lib.hid (show Blk (w.alloc (.cells #[.int .i64 N, .slice A n c] 24)) w.heap.size 24 #[.int .i64 N, .slice A n c] from Blk.new rfl)
  have HB := Lib.hid (show Below w.heap.size w (w.alloc (.cells #[.int .i64 N, .slice A n c] 24)) from (Below.refl _ _).alloc (Nat.le_refl _) _)
  by_cases hg : good N n = true
  · have HG := Lib.hid hg
    have hm : ((m : Int) == N) = false := by rw [beq_eq_false_iff_ne]; rcases h with h | h; rw [hg] at h; cases h; exact h
    have hm' : (N == (m : Int)) = false := by rw [beq_eq_false_iff_ne]; rcases h with h | h; rw [hg] at h; cases h; exact fun e => h e.symm
    clear hg h
    go_enter Try.func15, Try.ntmps15
    go_upto_region 1 with fail
    generalize (w.alloc (.cells #[.int .i64 N, .slice A n c] 24)) = w1 at *
    go_wp2_with (refine wpList_whole rfl 24 _ rfl w.heap.size rfl HM.out _ Try.underlying24 rfl (by kernel_rfl) ?_)
    refine (goodref_any N A n c w1).mono ?_
    rintro e w2 ⟨rfl, hb⟩
    rw [HG.out]
    have k0 : w2.cell? ⟨w.heap.size, 0, none⟩ = some (.int .i64 N) := ((HM.out.below hb HM.out.lt).cell 0).trans rfl
    have HB := Lib.hid (onward HB.out (Nat.le_refl _) hb)
    clear hb
    go_wp2_with fail
    go_ret3
    exact ⟨rfl, HB.out⟩
  · have HG := Lib.hid (show good N n = false from by simpa using hg)
    clear hg h
    go_enter Try.func15, Try.ntmps15
    go_upto_region 1 with fail
    generalize (w.alloc (.cells #[.int .i64 N, .slice A n c] 24)) = w1 at *
    go_wp2_with (refine wpList_whole rfl 24 _ rfl w.heap.size rfl HM.out _ Try.underlying24 rfl (by kernel_rfl) ?_)
    refine (goodref_any N A n c w1).mono ?_
    rintro e w2 ⟨rfl, hb⟩
    rw [HG.out]
    have HB := Lib.hid (onward HB.out (Nat.le_refl _) hb)
    clear hb
    go_wp2_with fail
    go_ret3
    exact ⟨rfl, HB.out⟩

theorem solve_all (N : Int) (A A' : Option Addr) (c c' : Nat) (zs vs : List Int) (w : World) (hr : Rd w w.heap.size 1 A zs.length (intsV zs)) (hr' : Rd w w.heap.size 1 A' vs.length (intsV vs)) (hz : ∀ k, In64 (zs.getD k 0)) (hzv : ∀ k, In64 (vs.getD k 0)) :
    Calls Try.prog 14 #[matV N A zs.length c, .slice A' vs.length c'] w fun e w' => GaveInts w w' (solR N zs vs).1.1 (solR N zs vs).1.2 (solR N zs vs).2 e := by
  by_cases h : good N zs.length = true ∧ (vs.length : Int) = N
  · obtain ⟨n, rfl, h1, h2, h3⟩ := good_nat h.1
    have hv : vs.length = n := by have := h.2; omega
    unfold solR
    rw [if_pos h]
    exact solve_yes n A A' c c' zs vs w h1 h2 h3 hv hr hr' hz hzv
  · unfold solR
    rw [if_neg h]
    refine (solve_no N A A' zs.length c vs.length c' w (by
      by_cases hg : good N zs.length = true
      · exact .inr fun e => h ⟨hg, e⟩
      · exact .inl (by simpa using hg))).mono ?_
    rintro e w' ⟨rfl, hb⟩
    exact ⟨none, 0, rfl, Rd.nil _ _ _ _, hb⟩

theorem refSolve_all (N : Int) (A A' : Option Addr) (c c' : Nat) (zs vs : List Int) (w : World) (hr : Rd w w.heap.size 1 A zs.length (intsV zs)) (hr' : Rd w w.heap.size 1 A' vs.length (intsV vs)) (hz : ∀ k, In64 (zs.getD k 0)) (hzv : ∀ k, In64 (vs.getD k 0)) :
    Calls Try.prog 15 #[matV N A zs.length c, .slice A' vs.length c'] w fun e w' => GaveInts w w' (solR N zs vs).1.1 (solR N zs vs).1.2 (solR N zs vs).2 e := by
  by_cases h : good N zs.length = true ∧ (vs.length : Int) = N
  · obtain ⟨n, rfl, h1, h2, h3⟩ := good_nat h.1
    have hv : vs.length = n := by have := h.2; omega
    unfold solR
    rw [if_pos h]
    exact refSolve_yes n A A' c c' zs vs w h1 h2 h3 hv hr hr' hz hzv
  · unfold solR
    rw [if_neg h]
    refine (refSolve_no N A A' zs.length c vs.length c' w (by
      by_cases hg : good N zs.length = true
      · exact .inr fun e => h ⟨hg, e⟩
      · exact .inl (by simpa using hg))).mono ?_
    rintro e w' ⟨rfl, hb⟩
    exact ⟨none, 0, rfl, Rd.nil _ _ _ _, hb⟩
end Go.Proofs.Ytejefecglioifaa.BigW
