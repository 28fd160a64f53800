/- slices.symMergeCmpFunc at the parcels, where the right side has a single element and the left has more. -/
import Derived.Test.YtlcpackmoolngaaStabRot
import Derived.Test.YtlcpackmoolngaaStabM
import Derived.Deep.CutBlock
import Derived.Deep.DeepCutAuto
namespace Go.Proofs.Ytlcpackmoolngaa.Ss
open Go.Shelf Go.RowKit Go.Lib Go.Sort Go.Proofs.Ytlcpackmoolngaa.Stb
set_option linter.unusedVariables false
variable {α : Type} [Inhabited α] {enc : α → List Value} {w0 W : World} {blk off cap : Nat} {d0 f : Array α}
variable {P : Program} {k gf : Nat} {cf : α → α → Int} {lt : α → α → Bool} {τ : α → Nat}

set_option maxRecDepth 100000 in
set_option maxHeartbeats 4000000 in
theorem sym_right (L : LaysP P k) (R : RowK enc k w0 blk off d0) (eg : ∀ args w, (callFunc gf args).run P w = .ok (.enter gf args) w) (hC : CmpLays P gf #[] enc k cf blk off d0.size w0) (hS : SWO lt) (hlt : ∀ x y, τ x < τ y → decide (cf y x < 0) = lt y x) (hs : f.size = d0.size) (h : SWK enc k w0 blk off f W) (a m b : Nat) (hm : b = m + 1) (ham : a + 1 < m) (hb : b ≤ d0.size) (hsz : d0.size < 4611686018427387904)
    (hL : SortedIn lt a m f) (hx : ∀ x, a ≤ x → x < m → τ f[x]! < τ f[m]!) :
    Calls P 78 #[.slice (some ⟨blk, off, none⟩) d0.size cap, .int .i64 a, .int .i64 m, .int .i64 b, .func (.func gf) #[] #[]] W fun e w' => e = .returned (.tuple #[]) ∧ ∃ f', SWK enc k w0 blk off f' w' ∧ f'.size = d0.size ∧ PermIn a b f f' ∧ SortedIn lt a b f' := by
  have mixed : P.follows .mixedOrders = true := L.lay.mixed
  have aE := L.aE; have zE := L.zE
  have t0 : P.underlying 0 = _ := L.lay.t0; have a0 : ∀ w, (isAgg 0).run P w = _ := L.lay.a0; have z0 : ∀ w, (Go.sizeOf 0).run P w = _ := L.lay.z0; have v0 : ∀ w, (zeroValue 0).run P w = _ := L.lay.v0
  have t3 : P.underlying 3 = _ := L.lay.t3; have a3 : ∀ w, (isAgg 3).run P w = _ := L.lay.a3; have z3 : ∀ w, (Go.sizeOf 3).run P w = _ := L.lay.z3; have v3 : ∀ w, (zeroValue 3).run P w = _ := L.lay.v3
  have t4 : P.underlying 4 = _ := L.lay.t4; have a4 : ∀ w, (isAgg 4).run P w = _ := L.lay.a4; have z4 : ∀ w, (Go.sizeOf 4).run P w = _ := L.lay.z4; have v4 : ∀ w, (zeroValue 4).run P w = _ := L.lay.v4
  have t22 : P.underlying 22 = some (.slice 52) := L.lay.t22; have a22 : ∀ w, (isAgg 22).run P w = _ := L.lay.a22; have z22 : ∀ w, (Go.sizeOf 22).run P w = _ := L.lay.z22; have v22 : ∀ w, (zeroValue 22).run P w = _ := L.lay.v22
  have t25 : P.underlying 56 = some (.func #[52, 52] #[3] false) := L.lay.t25; have a25 : ∀ w, (isAgg 56).run P w = _ := L.lay.a25; have z25 : ∀ w, (Go.sizeOf 56).run P w = _ := L.lay.z25; have v25 : ∀ w, (zeroValue 56).run P w = _ := L.lay.v25
  have u22 := run_underlying t22
  have t59 := L.t59
  have gsw : ∀ (args : Array Value) (w : World), (callFunc 89 args).run P w = .ok (.enter 89 args) w := L.gsw
  have grot : ∀ (args : Array Value) (w : World), (callFunc 85 args).run P w = .ok (.enter 85 args) w := L.grot
  have gsym : ∀ (args : Array Value) (w : World), (callFunc 78 args).run P w = .ok (.enter 78 args) w := L.gsym
  have HL := Lib.hid L
  have HR := Lib.hid R
  have HC := Lib.hid hC
  have HH := Lib.hid h
  have HS := Lib.hid hs
  have HSW := Lib.hid hS
  have HLT := Lib.hid hlt
  have HLS := Lib.hid hL
  have HX := Lib.hid hx
  have hd0 : (((m : Int) - (a : Int)) == 1) = false := by rw [beq_eq_false_iff_ne]; omega
  have hd1 : (b : Int) - (m : Int) = 1 := by omega
  have HM := Lib.hid hm
  clear R hC h hs hS hlt hL hx hm
  go_enter L.sym, Try.ntmps78
  go_wp2_with fail
  go_loopw [14, 15, 16] (fun iv jv _ wr => ∃ (i j : Nat), iv = .int .i64 (i : Int) ∧ jv = .int .i64 (j : Int) ∧ a ≤ i ∧ i ≤ j ∧ j ≤ m ∧ SWK enc k w0 blk off f wr ∧ (j = m ∨ lt f[m]! f[j]! = true) ∧ (i = a ∨ lt f[m]! f[i - 1]! = false)) (fun iv jv _ _ => (intOf jv - intOf iv).toNat)
  case atStart => exact ⟨a, m, rfl, rfl, Nat.le_refl _, by omega, Nat.le_refl _, HH.out, .inl rfl, .inl rfl⟩
  case round =>
    obtain ⟨i, j, rfl, rfl, hmi, hij, hjb, hw, e1, e2⟩ := hrel
    have HW := Lib.hid hw
    have HE1 := Lib.hid e1
    have HE2 := Lib.hid e2
    clear hw e1 e2
    by_cases hlt : i < j
    · have hltz : (i : Int) < (j : Int) := by omega
      obtain ⟨h, hh⟩ : ∃ h, h = (i + j) / 2 := ⟨_, rfl⟩
      have hsum : ((i : Int) + (j : Int)) / 2 = (h : Int) := by omega
      have hhi : i ≤ h := by omega
      have hhj : h < j := by omega
      have hmd : m < d0.size := by have := HM.out; omega
      have hhd : h < d0.size := by omega
      have zh : (h : Int) < (d0.size : Int) := by omega
      have za : (m : Int) < (d0.size : Int) := by omega
      clear hh
      obtain ⟨xh, hxh⟩ : ∃ x, f[h]! = x := ⟨_, rfl⟩
      obtain ⟨xm, hxm⟩ : ∃ x, f[m]! = x := ⟨_, rfl⟩
      have l1 := HW.out.ld HR.out HS.out P h (by rw [HS.out]; exact hhd)
      have l2 := HW.out.ld HR.out HS.out P m (by rw [HS.out]; exact hmd)
      rw [hxh] at l1
      rw [hxm] at l2
      have hcg := HW.out.cmp HC.out HS.out xm xh
      have HG := Lib.hid HW.out.grown
      have HCF := Lib.hid (show decide (cf xm xh < 0) = lt xm xh from HLT.out xh xm (by rw [← hxh, ← hxm]; exact HX.out h (by omega) (by omega)))
      have HXH := Lib.hid hxh
      have HXM := Lib.hid hxm
      have hlh : (enc xh).length = k := HR.out.hk _
      have hlm : (enc xm).length = k := HR.out.hk _
      clear hxh hxm
      by_cases hcf : cf xm xh < 0
      · have HCX := Lib.hid hcf
        obtain ⟨bv, hbv⟩ : ∃ bv, bv = cf xm xh := ⟨_, rfl⟩
        rw [← hbv] at hcg hcf
        have hdb : decide (bv < 0) = true := by simp; omega
        have hdn : (!decide (bv < 0)) = false := by rw [hdb]; rfl
        have HBV := Lib.hid hbv
        clear hbv
        go_wp2_with fail
        go_quiet_grown (first | (go_at_fn gf; refine Calls.grown_of (hcg _ _)))
        go_wp2_with fail
        exact ⟨⟨i, h, rfl, rfl, hmi, hhi, by omega, HG.out nq osq, .inr (by rw [HXH.out, HXM.out, ← HCF.out]; exact decide_eq_true (by have := HCX.out; omega)), HE2.out⟩, by simp [intOf]; omega⟩
      · have HCX := Lib.hid hcf
        obtain ⟨bv, hbv⟩ : ∃ bv, bv = cf xm xh := ⟨_, rfl⟩
        rw [← hbv] at hcg hcf
        have hdb : decide (bv < 0) = false := by simp; omega
        have hdn : (!decide (bv < 0)) = true := by rw [hdb]; rfl
        have HBV := Lib.hid hbv
        clear hbv
        go_wp2_with fail
        go_quiet_grown (first | (go_at_fn gf; refine Calls.grown_of (hcg _ _)))
        go_wp2_with fail
        exact ⟨⟨h + 1, j, by go_num, rfl, by omega, by omega, hjb, HG.out nq osq, HE1.out, .inr (by rw [Nat.add_sub_cancel, HXH.out, HXM.out, ← HCF.out]; exact decide_eq_false (by have := HCX.out; omega))⟩, by simp [intOf]; omega⟩
    · have hltz : ¬ (i : Int) < (j : Int) := by omega
      obtain rfl : i = j := by omega
      clear hlt
      go_upto_region 21 with fail
      go_loopw [17] (fun kv wr => ∃ (x : Nat) (g : Array α), kv = .int .i64 (x : Int) ∧ i ≤ x ∧ x ≤ m ∧ SWK enc k w0 blk off g wr ∧ g.size = d0.size ∧ Rot x m (m + 1) f g) (fun kv _ => (intOf kv).toNat)
      case atStart => exact ⟨m, f, rfl, hjb, Nat.le_refl _, HW.out, HS.out, rot_left0 m f⟩
      case round =>
        obtain ⟨x, g, rfl, hax, hxi, hwg, hg, hrt⟩ := hrel
        have HWG := Lib.hid hwg
        have HG := Lib.hid hg
        have HRT := Lib.hid hrt
        clear hwg hrt
        by_cases hlt2 : i < x
        · have hltz2 : (i : Int) < (x : Int) := by omega
          have hmd : m < d0.size := by have := HM.out; omega
          obtain ⟨y, hy⟩ : ∃ y, x = y + 1 := ⟨x - 1, by omega⟩
          have ey : (x : Int) - 1 = (y : Int) := by omega
          have hxl : x < g.size := by omega
          have hyl : y < g.size := by omega
          have zx : (x : Int) < (d0.size : Int) := by omega
          have zy : (y : Int) < (d0.size : Int) := by omega
          have l1 := HWG.out.ld1 HR.out HG.out P x hxl
          have l2 := HWG.out.ld1 HR.out HG.out P y hyl
          have s1 := HWG.out.st1 HR.out HG.out P x hxl g[y]!
          have s2 := HWG.out.st2 HR.out HG.out P x y hxl hyl g[y]! g[x]!
          have HSP := Lib.hid (HWG.out.swapped HR.out x y hxl hyl)
          have hlx : (enc g[x]!).length = k := HR.out.hk _
          have hly : (enc g[y]!).length = k := HR.out.hk _
          obtain ⟨cX, hcX⟩ : ∃ c, c = enc g[x]! := ⟨_, rfl⟩
          obtain ⟨cY, hcY⟩ : ∃ c, c = enc g[y]! := ⟨_, rfl⟩
          rw [← hcX] at l1 hlx
          rw [← hcY] at l2 s1 hly
          rw [← hcX, ← hcY] at s2 HSP
          have HY := Lib.hid hy
          have HRN := Lib.hid (show Rot y m (m + 1) f (swp g x y) by
            have h := rot_left1 HRT.out (by omega) hxi (by have := HS.out; omega)
            rwa [show x - 1 = y by omega] at h)
          clear hcX hcY hy
          go_wp2_with fail
          go_big_region_o
          all_goals go_wp2_with fail
          all_goals
            have hy2 := HY.out
            exact ⟨⟨y, swp g x y, by first | rfl | go_num, by omega, by omega, HSP.out, by rw [size_swp]; exact HG.out, HRN.out⟩, by simp [intOf]; omega⟩
        · have hltz2 : ¬ (i : Int) < (x : Int) := by omega
          obtain rfl : x = i := by omega
          have HF := Lib.hid (merge_right1 HSW.out HLS.out hmi hjb (by have := HS.out; have := HM.out; omega) HRT.out HE2.out HE1.out)
          clear hlt2
          go_wp2_with fail
          (try simp only [Exit.inBlock, Exit.then])
          refine bodyPost_ret (results_none rfl _ _ _) rfl ?_
          exact ⟨rfl, g, HWG.out, HG.out, by rw [HM.out]; exact HF.out.1, by rw [HM.out]; exact HF.out.2⟩
end Go.Proofs.Ytlcpackmoolngaa.Ss
