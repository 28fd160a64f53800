/- slices.stableCmpFunc at the parcels: blocks of twenty by insertion, then merged by pairs. -/
import Derived.Test.YtlcpackmoolngaaStabAll
import Derived.Test.YtlcpackmoolngaaStabC
namespace Go.Proofs.Ytlcpackmoolngaa.Ss
open Go.Shelf Go.RowKit Go.Lib Go.Sort Go.Proofs.Ytlcpackmoolngaa.Stb
set_option linter.unusedVariables false
variable {α : Type} [Inhabited α] {enc : α → List Value} {w0 : World} {blk off cap : Nat} {d0 : Array α}
variable {P : Program} {k gf : Nat} {cf : α → α → Int} {lt : α → α → Bool} {τ : α → Nat}

/-- a block that still lies as it lay at first is sorted by insertion -/
theorem ins_blk (L : LaysP P k) (R : RowK enc k w0 blk off d0) (eg : ∀ args w, (callFunc gf args).run P w = .ok (.enter gf args) w) (hC : CmpLays P gf #[] enc k cf blk off d0.size w0) (hS : SWO lt) (hlt : ∀ x y, τ x < τ y → decide (cf y x < 0) = lt y x) (hsz : d0.size < 1152921504606846976) (ht : ∀ i, i < d0.size → τ d0[i]! = i) {q A : Nat} {W : World} {g : Array α} (hA : A = q * 20) (b : Nat) (hs : g.size = d0.size) (h : SWK enc k w0 blk off g W) (hI : Ins lt τ 20 q d0.size d0 g) (hab : A ≤ b) (hb : b ≤ d0.size) :
    Calls P 77 #[.slice (some ⟨blk, off, none⟩) d0.size cap, .int .i64 A, .int .i64 b, .func (.func gf) #[] #[]] W fun e w' => e = .returned (.tuple #[]) ∧ ∃ g', SWK enc k w0 blk off g' w' ∧ g'.size = d0.size ∧ PermIn A b g g' ∧ SortedIn lt A b g' := by
  have he : insertionSort (ltOf cf) g A b = insertionSort lt g A b := by
    refine insertion_eq (ltOf cf) lt τ (fun x y hxy => hlt x y hxy) g A b (by omega) (fun i j h1 h2 h3 => ?_)
    rw [hI.1.2.1 i (.inr (by omega)), hI.1.2.1 j (.inr (by omega)), ht i (by omega), ht j (by omega)]
    exact h2
  obtain ⟨hp, hso⟩ := insertionSort_holds hS g A b hab (by omega)
  have hsi : (insertionSort lt g A b).size = g.size := hp.1
  have hH := h.holds R.hblk R.hH hs
  have hcmp : CmpLays P gf #[] enc k cf blk off g.size W := by
    intro m os d2 h2 x y
    obtain ⟨n, os1, rfl⟩ := h
    have := SWK.on (w0 := w0) (W := sortWorldK enc k w0 blk off n g os1) ⟨n, os1, rfl⟩ R.hblk m d2 os h2
    obtain ⟨n3, os3, e3⟩ := this
    rw [e3]
    exact hC n3 os3 d2 (h2.trans hs) x y
  rw [← hs]
  refine (AnyQ.insertionSortCmpFunc L.lay k L.aE L.zE enc R.hk R.h1 cf gf #[] blk off cap A b g W eg hcmp hH (h.lt R.hblk) hab (by omega) (by omega)).mono ?_
  rintro e w' ⟨rfl, n, os, rfl⟩
  rw [he]
  exact ⟨rfl, _, h.on R.hblk n _ os hsi, hsi, hp, hso⟩

set_option maxRecDepth 100000 in
set_option maxHeartbeats 4000000 in
theorem stab_any (L : LaysP P k) (R : RowK enc k w0 blk off d0) (eg : ∀ args w, (callFunc gf args).run P w = .ok (.enter gf args) w) (hC : CmpLays P gf #[] enc k cf blk off d0.size w0) (hS : SWO lt) (hlt : ∀ x y, τ x < τ y → decide (cf y x < 0) = lt y x) (hsz : d0.size < 1152921504606846976) (ht : ∀ i, i < d0.size → τ d0[i]! = i) (W : World) (h : SWK enc k w0 blk off d0 W) :
    Calls P 54 #[.slice (some ⟨blk, off, none⟩) d0.size cap, .int .i64 d0.size, .func (.func gf) #[] #[]] W fun e w' => e = .returned (.tuple #[]) ∧ ∃ f', SWK enc k w0 blk off f' w' ∧ f'.size = d0.size ∧ PermIn 0 d0.size d0 f' ∧ SortedIn lt 0 d0.size f' := by
  have mixed : P.follows .mixedOrders = true := L.lay.mixed
  have aE := L.aE; have zE := L.zE
  have t0 : P.underlying 0 = _ := L.lay.t0; have a0 : ∀ w, (isAgg 0).run P w = _ := L.lay.a0; have z0 : ∀ w, (Go.sizeOf 0).run P w = _ := L.lay.z0; have v0 : ∀ w, (zeroValue 0).run P w = _ := L.lay.v0
  have t3 : P.underlying 3 = _ := L.lay.t3; have a3 : ∀ w, (isAgg 3).run P w = _ := L.lay.a3; have z3 : ∀ w, (Go.sizeOf 3).run P w = _ := L.lay.z3; have v3 : ∀ w, (zeroValue 3).run P w = _ := L.lay.v3
  have t4 : P.underlying 4 = _ := L.lay.t4; have a4 : ∀ w, (isAgg 4).run P w = _ := L.lay.a4; have z4 : ∀ w, (Go.sizeOf 4).run P w = _ := L.lay.z4; have v4 : ∀ w, (zeroValue 4).run P w = _ := L.lay.v4
  have t22 : P.underlying 22 = some (.slice 52) := L.lay.t22; have a22 : ∀ w, (isAgg 22).run P w = _ := L.lay.a22; have z22 : ∀ w, (Go.sizeOf 22).run P w = _ := L.lay.z22; have v22 : ∀ w, (zeroValue 22).run P w = _ := L.lay.v22
  have t25 : P.underlying 56 = some (.func #[52, 52] #[3] false) := L.lay.t25; have a25 : ∀ w, (isAgg 56).run P w = _ := L.lay.a25; have z25 : ∀ w, (Go.sizeOf 56).run P w = _ := L.lay.z25; have v25 : ∀ w, (zeroValue 56).run P w = _ := L.lay.v25
  have u22 := run_underlying t22
  have t59 := L.t59
  have gsw : ∀ (args : Array Value) (w : World), (callFunc 89 args).run P w = .ok (.enter 89 args) w := L.gsw
  have grot : ∀ (args : Array Value) (w : World), (callFunc 85 args).run P w = .ok (.enter 85 args) w := L.grot
  have gsym : ∀ (args : Array Value) (w : World), (callFunc 78 args).run P w = .ok (.enter 78 args) w := L.gsym
  have gins : ∀ (args : Array Value) (w : World), (callFunc 77 args).run P w = .ok (.enter 77 args) w := L.gins
  have gsym : ∀ (args : Array Value) (w : World), (callFunc 78 args).run P w = .ok (.enter 78 args) w := L.gsym
  obtain ⟨n, hn⟩ : ∃ n, n = d0.size := ⟨_, rfl⟩
  have HN := Lib.hid hn
  have HI := Lib.hid (fun (q A : Nat) (W : World) (g : Array α) (hA : A = q * 20) (b : Nat) hs h hI hab hb => ins_blk (cap := cap) L R eg hC hS hlt hsz ht (q := q) (A := A) (W := W) (g := g) hA b hs h hI hab hb)
  have HM := Lib.hid (fun (a m b : Nat) (f : Array α) (W : World) hs h ham hmb hb hL hR hx => sym_any (cap := cap) L R eg hC hS hlt (by omega) a m b f W hs h ham hmb hb hL hR hx)
  have HT := Lib.hid ht
  have HH := Lib.hid h
  have hsz2 : n < 1152921504606846976 := by omega
  rw [← hn]
  rw [← hn] at HI HM HT
  clear hn hsz R eg hC hS hlt ht h
  go_enter L.stab, Try.ntmps54
  go_wp2_with fail
  go_loopw [7, 8] (fun av bv wr => ∃ (q A B : Nat) (g : Array α), av = .int .i64 (A : Int) ∧ bv = .int .i64 (B : Int) ∧ A = q * 20 ∧ B = A + 20 ∧ A ≤ n ∧ SWK enc k w0 blk off g wr ∧ g.size = n ∧ Ins lt τ 20 q n d0 g) (fun _ bv _ => n + 20 - (intOf bv).toNat)
  case atStart => exact ⟨0, 0, 20, d0, rfl, rfl, rfl, rfl, Nat.zero_le _, HH.out, HN.out.symm, Ins.zero 20 n d0⟩
  case round =>
    obtain ⟨q, A, B, g, rfl, rfl, hA, hB, hAn, hw, hg, hins⟩ := hrel
    have HW := Lib.hid hw
    have HG := Lib.hid hg
    have HA := Lib.hid hA
    have HIN := Lib.hid hins
    have HBE := Lib.hid hB
    have hBl : B ≤ A + 20 := by omega
    have hBg : A + 20 ≤ B := by omega
    clear hw hg hA hins hB
    by_cases hle : B ≤ n
    · have hlez : (B : Int) ≤ (n : Int) := by omega
      have HQ := Lib.hid (HI.out q A _ g HA.out B HG.out HW.out HIN.out (by omega) hle)
      go_wp2_with fail
      refine HQ.out.mono ?_
      rintro e w2 ⟨rfl, f2, h2, hf2, hp2, hs2⟩
      have HW2 := Lib.hid h2
      have HF2 := Lib.hid hf2
      have HP2 := Lib.hid hp2
      have HS2 := Lib.hid hs2
      clear h2 hf2 hp2 hs2
      go_wp2_with fail
      refine ⟨⟨q + 1, B, B + 20, f2, rfl, by go_num, by have := HA.out; omega, rfl, hle, HW2.out, HF2.out, ?_⟩, by simp [intOf]; omega⟩
      have e1 : q * 20 = A := HA.out.symm
      have e2 : (q + 1) * 20 = B := by omega
      exact HIN.out.step HN.out (by omega) HT.out (by rw [e1, e2]; exact HP2.out) (by rw [e1, e2]; exact HS2.out)
    · have hlez : ¬ (B : Int) ≤ (n : Int) := by omega
      have HQ := Lib.hid (HI.out q A _ g HA.out n HG.out HW.out HIN.out hAn (Nat.le_refl _))
      have HAB := Lib.hid (And.intro HBE.out (And.intro hAn hle))
      clear hBl hBg hAn hle
      go_wp2_with fail
      refine HQ.out.mono ?_
      rintro e w2 ⟨rfl, f2, h2, hf2, hp2, hs2⟩
      have HW2 := Lib.hid h2
      have HF2 := Lib.hid hf2
      have HD := Lib.hid (HIN.out.done HN.out (by have := HA.out; have := HAB.out; omega) (by have := HA.out; have := HAB.out; omega) HT.out (by rw [← HA.out]; exact hp2) (by rw [← HA.out]; exact hs2))
      clear h2 hf2 hp2 hs2 hlez
      clear HQ HW HG HIN HI
      go_wp2_with fail
      go_loopw [6, 7, 8, 9] (fun sv _ _ _ wr => ∃ (S : Nat) (g : Array α), sv = .int .i64 (S : Int) ∧ 20 ≤ S ∧ S ≤ 2 * n + 20 ∧ SWK enc k w0 blk off g wr ∧ g.size = n ∧ PermIn 0 n d0 g ∧ Done lt τ S n g) (fun sv _ _ _ _ => n - (intOf sv).toNat)
      case atStart => exact ⟨20, f2, rfl, Nat.le_refl _, by omega, HW2.out, HF2.out, HD.out.1, HD.out.2⟩
      case round =>
        obtain ⟨S, g1, rfl, hS20, hSn, hw1, hg1, hp1, hd1⟩ := hrel
        have HW1 := Lib.hid hw1
        have HG1 := Lib.hid hg1
        have HP1 := Lib.hid hp1
        have HD1 := Lib.hid hd1
        clear hw1 hg1 hp1 hd1
        by_cases hlt : S < n
        · have hltz : (S : Int) < (n : Int) := by omega
          obtain ⟨T, hT⟩ : ∃ T, T = 2 * S := ⟨_, rfl⟩
          have eT : 2 * (S : Int) = (T : Int) := by omega
          have hTn : T ≤ 2 * n := by omega
          have HTS := Lib.hid hT
          clear hT
          go_upto_region 6 with fail
          go_loopw [7, 8] (fun av bv wr => ∃ (q A B : Nat) (g : Array α), av = .int .i64 (A : Int) ∧ bv = .int .i64 (B : Int) ∧ A = q * T ∧ B = A + T ∧ A ≤ n ∧ SWK enc k w0 blk off g wr ∧ g.size = n ∧ PermIn 0 n d0 g ∧ Mrg lt τ S q n g) (fun _ bv _ => n + T - (intOf bv).toNat)
          case atStart => exact ⟨0, 0, T, g1, rfl, rfl, (Nat.zero_mul _).symm, (Nat.zero_add _).symm, Nat.zero_le _, HW1.out, HG1.out, HP1.out, Mrg.zero HD1.out⟩
          case round =>
            obtain ⟨q1, A1, B1, g2, rfl, rfl, hA1, hB1, hAn1, hw3, hg3, hp3, hm3⟩ := hrel
            have HA1 := Lib.hid (show A1 = q1 * (2 * S) by rw [← HTS.out]; exact hA1)
            have HW3 := Lib.hid hw3
            have HG3 := Lib.hid hg3
            have HP3 := Lib.hid hp3
            have HM3 := Lib.hid hm3
            clear hw3 hg3 hp3 hm3 hA1
            obtain ⟨M, hM⟩ : ∃ M, M = A1 + S := ⟨_, rfl⟩
            have eM : (A1 : Int) + (S : Int) = (M : Int) := by omega
            have eB1 : (q1 + 1) * (2 * S) = B1 := by rw [Nat.succ_mul, ← HA1.out, ← HTS.out]; exact hB1.symm
            have HB1 := Lib.hid eB1
            have hBl : B1 ≤ A1 + T := by omega
            have hBg : A1 + T ≤ B1 := by omega
            have hMl : M ≤ A1 + S := by omega
            have hMg : A1 + S ≤ M := by omega
            have HME := Lib.hid hM
            clear eB1 hB1 hM
            by_cases hle1 : B1 ≤ n
            · have hlez1 : (B1 : Int) ≤ (n : Int) := by omega
              have hMn : M < n := by have := HTS.out; omega
              obtain ⟨b1, b2⟩ := HM3.out.pair (by omega) (by rw [← HA1.out, ← HME.out]; exact hMn)
              rw [← HA1.out, ← HME.out] at b1
              rw [← HA1.out, ← HME.out, HB1.out, Nat.min_eq_left hle1] at b2
              have HQ1 := Lib.hid (HM.out A1 M B1 g2 _ HG3.out HW3.out (by omega) (by have := HTS.out; omega) hle1 b1.1 b2.1 (fun x y h1 h2 h3 h4 => Bk.cross b1 b2 h1 h2 h3 h4))
              clear b1 b2
              go_wp2_with fail
              refine HQ1.out.mono ?_
              rintro e w4 ⟨rfl, f4, h4, hf4, hp4, hs4⟩
              have HW4 := Lib.hid h4
              have HF4 := Lib.hid hf4
              have HP4 := Lib.hid hp4
              have HS4 := Lib.hid hs4
              clear h4 hf4 hp4 hs4
              go_wp2_with fail
              refine ⟨⟨q1 + 1, B1, B1 + T, f4, rfl, by go_num, by rw [HTS.out]; exact HB1.out.symm, rfl, hle1, HW4.out, HF4.out, ?_, ?_⟩, by simp [intOf]; omega⟩
              · exact permIn_trans _ _ _ _ _ HP3.out (permIn_mono _ _ _ _ _ _ (Nat.zero_le _) hle1 (by have := HG3.out; omega) HP4.out)
              · exact HM3.out.step (by omega) (by rw [HB1.out]; exact hle1) (by have := HG3.out; omega) (by rw [← HA1.out, HB1.out]; exact HP4.out) (by rw [← HA1.out, HB1.out]; exact HS4.out)
            · have hlez1 : ¬ (B1 : Int) ≤ (n : Int) := by omega
              by_cases hMn : M < n
              · have hMz : (M : Int) < (n : Int) := by omega
                obtain ⟨b1, b2⟩ := HM3.out.pair (by omega) (by rw [← HA1.out, ← HME.out]; exact hMn)
                rw [← HA1.out, ← HME.out] at b1
                rw [← HA1.out, ← HME.out, HB1.out, Nat.min_eq_right (by omega)] at b2
                have HQ1 := Lib.hid (HM.out A1 M n g2 _ HG3.out HW3.out (by omega) hMn (Nat.le_refl _) b1.1 b2.1 (fun x y h1 h2 h3 h4 => Bk.cross b1 b2 h1 h2 h3 h4))
                clear b1 b2
                go_wp2_with fail
                refine HQ1.out.mono ?_
                rintro e w4 ⟨rfl, f4, h4, hf4, hp4, hs4⟩
                have HW4 := Lib.hid h4
                have HF4 := Lib.hid hf4
                have HP4 := Lib.hid hp4
                have HS4 := Lib.hid hs4
                clear h4 hf4 hp4 hs4
                go_wp2_with fail
                refine ⟨⟨2 * S, f4, by go_num, by omega, by omega, HW4.out, HF4.out, ?_, ?_⟩, by simp [intOf]; omega⟩
                · exact permIn_trans _ _ _ _ _ HP3.out (permIn_mono _ _ _ _ _ _ (Nat.zero_le _) (Nat.le_refl _) (by have := HG3.out; omega) HP4.out)
                · exact HM3.out.last (by omega) (by rw [HB1.out]; omega) (by rw [← HA1.out, ← HME.out]; exact hMn) (by have := HG3.out; omega) (by rw [← HA1.out]; exact HP4.out) (by rw [← HA1.out]; exact HS4.out)
              · have hMz : ¬ (M : Int) < (n : Int) := by omega
                go_wp2_with fail
                exact ⟨⟨2 * S, g2, by go_num, by omega, by omega, HW3.out, HG3.out, HP3.out, HM3.out.done (by omega) (by rw [← HA1.out]; exact hAn1) (by rw [HB1.out]; omega) (by rw [← HA1.out, ← HME.out]; omega)⟩, by simp [intOf]; omega⟩
        · have hltz : ¬ (S : Int) < (n : Int) := by omega
          have HE := Lib.hid (HD1.out.sorted (by omega : n ≤ S))
          clear hlt
          go_wp2_with fail
          go_end0
          exact ⟨rfl, g1, HW1.out, HG1.out, HP1.out, HE.out⟩
end Go.Proofs.Ytlcpackmoolngaa.Ss
