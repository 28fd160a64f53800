/- slices.symMergeCmpFunc at the parcels, where one side has a single element. -/
import Derived.Test.YtlcpackmoolngaaStabRot
import Derived.Test.YtlcpackmoolngaaStabM
import Derived.Deep.CutBlock
import Derived.Deep.DeepCutAuto
namespace Go.Proofs.Ytlcpackmoolngaa.Ss
open Go.Shelf Go.RowKit Go.Lib Go.Sort Go.Proofs.Ytlcpackmoolngaa.Stb
set_option linter.unusedVariables false
variable {α : Type} [Inhabited α] {enc : α → List Value} {w0 W : World} {blk off cap : Nat} {d0 f : Array α}
variable {P : Program} {k gf : Nat} {cf : α → α → Int} {lt : α → α → Bool} {τ : α → Nat}

set_option maxRecDepth 100000 in
set_option maxHeartbeats 4000000 in
theorem sym_left (L : LaysP P k) (R : RowK enc k w0 blk off d0) (eg : ∀ args w, (callFunc gf args).run P w = .ok (.enter gf args) w) (hC : CmpLays P gf #[] enc k cf blk off d0.size w0) (hS : SWO lt) (hlt : ∀ x y, τ x < τ y → decide (cf y x < 0) = lt y x) (hs : f.size = d0.size) (h : SWK enc k w0 blk off f W) (a m b : Nat) (hm : m = a + 1) (hmb : m < b) (hb : b ≤ d0.size) (hsz : d0.size < 4611686018427387904)
    (hR : SortedIn lt m b f) (hx : ∀ y, m ≤ y → y < b → τ f[a]! < τ f[y]!) :
    Calls P 78 #[.slice (some ⟨blk, off, none⟩) d0.size cap, .int .i64 a, .int .i64 m, .int .i64 b, .func (.func gf) #[] #[]] W fun e w' => e = .returned (.tuple #[]) ∧ ∃ f', SWK enc k w0 blk off f' w' ∧ f'.size = d0.size ∧ PermIn a b f f' ∧ SortedIn lt a b f' := by
  have mixed : P.follows .mixedOrders = true := L.lay.mixed
  have aE := L.aE; have zE := L.zE
  have t0 : P.underlying 0 = _ := L.lay.t0; have a0 : ∀ w, (isAgg 0).run P w = _ := L.lay.a0; have z0 : ∀ w, (Go.sizeOf 0).run P w = _ := L.lay.z0; have v0 : ∀ w, (zeroValue 0).run P w = _ := L.lay.v0
  have t3 : P.underlying 3 = _ := L.lay.t3; have a3 : ∀ w, (isAgg 3).run P w = _ := L.lay.a3; have z3 : ∀ w, (Go.sizeOf 3).run P w = _ := L.lay.z3; have v3 : ∀ w, (zeroValue 3).run P w = _ := L.lay.v3
  have t4 : P.underlying 4 = _ := L.lay.t4; have a4 : ∀ w, (isAgg 4).run P w = _ := L.lay.a4; have z4 : ∀ w, (Go.sizeOf 4).run P w = _ := L.lay.z4; have v4 : ∀ w, (zeroValue 4).run P w = _ := L.lay.v4
  have t22 : P.underlying 22 = some (.slice 52) := L.lay.t22; have a22 : ∀ w, (isAgg 22).run P w = _ := L.lay.a22; have z22 : ∀ w, (Go.sizeOf 22).run P w = _ := L.lay.z22; have v22 : ∀ w, (zeroValue 22).run P w = _ := L.lay.v22
  have t25 : P.underlying 56 = some (.func #[52, 52] #[3] false) := L.lay.t25; have a25 : ∀ w, (isAgg 56).run P w = _ := L.lay.a25; have z25 : ∀ w, (Go.sizeOf 56).run P w = _ := L.lay.z25; have v25 : ∀ w, (zeroValue 56).run P w = _ := L.lay.v25
  have u22 := run_underlying t22
  have t59 := L.t59
  have gsw : ∀ (args : Array Value) (w : World), (callFunc 89 args).run P w = .ok (.enter 89 args) w := L.gsw
  have grot : ∀ (args : Array Value) (w : World), (callFunc 85 args).run P w = .ok (.enter 85 args) w := L.grot
  have gsym : ∀ (args : Array Value) (w : World), (callFunc 78 args).run P w = .ok (.enter 78 args) w := L.gsym
  have HL := Lib.hid L
  have HR := Lib.hid R
  have HC := Lib.hid hC
  have HH := Lib.hid h
  have HS := Lib.hid hs
  have HSW := Lib.hid hS
  have HLT := Lib.hid hlt
  have HRS := Lib.hid hR
  have HX := Lib.hid hx
  have hd1 : (m : Int) - (a : Int) = 1 := by omega
  have HM := Lib.hid hm
  clear R hC h hs hS hlt hR hx hm
  go_enter L.sym, Try.ntmps78
  go_wp2_with fail
  go_loopw [10, 11, 12] (fun iv jv _ wr => ∃ (i j : Nat), iv = .int .i64 (i : Int) ∧ jv = .int .i64 (j : Int) ∧ m ≤ i ∧ i ≤ j ∧ j ≤ b ∧ SWK enc k w0 blk off f wr ∧ (j = b ∨ lt f[j]! f[a]! = false) ∧ (i = m ∨ lt f[i - 1]! f[a]! = true)) (fun iv jv _ _ => (intOf jv - intOf iv).toNat)
  case atStart => exact ⟨m, b, rfl, rfl, Nat.le_refl _, by omega, Nat.le_refl _, HH.out, .inl rfl, .inl rfl⟩
  case round =>
    obtain ⟨i, j, rfl, rfl, hmi, hij, hjb, hw, e1, e2⟩ := hrel
    have HW := Lib.hid hw
    have HE1 := Lib.hid e1
    have HE2 := Lib.hid e2
    clear hw e1 e2
    by_cases hlt : i < j
    · have hltz : (i : Int) < (j : Int) := by omega
      obtain ⟨h, hh⟩ : ∃ h, h = (i + j) / 2 := ⟨_, rfl⟩
      have hsum : ((i : Int) + (j : Int)) / 2 = (h : Int) := by omega
      have hhi : i ≤ h := by omega
      have hhj : h < j := by omega
      have hhd : h < d0.size := by omega
      have had : a < d0.size := by have := HM.out; omega
      have zh : (h : Int) < (d0.size : Int) := by omega
      have za : (a : Int) < (d0.size : Int) := by omega
      clear hh
      obtain ⟨xh, hxh⟩ : ∃ x, f[h]! = x := ⟨_, rfl⟩
      obtain ⟨xa, hxa⟩ : ∃ x, f[a]! = x := ⟨_, rfl⟩
      have l1 := HW.out.ld HR.out HS.out P h (by rw [HS.out]; exact hhd)
      have l2 := HW.out.ld HR.out HS.out P a (by rw [HS.out]; exact had)
      rw [hxh] at l1
      rw [hxa] at l2
      have hcg := HW.out.cmp HC.out HS.out xh xa
      have HG := Lib.hid HW.out.grown
      have HCF := Lib.hid (show decide (cf xh xa < 0) = lt xh xa from HLT.out xa xh (by rw [← hxh, ← hxa]; exact HX.out h (by omega) (by omega)))
      have HXH := Lib.hid hxh
      have HXA := Lib.hid hxa
      have hlh : (enc xh).length = k := HR.out.hk _
      have hla : (enc xa).length = k := HR.out.hk _
      clear hxh hxa
      by_cases hcf : cf xh xa < 0
      · go_wp2_with fail
        go_quiet_grown (first | (go_at_fn gf; refine Calls.grown_of (hcg _ _)))
        go_wp2_with fail
        exact ⟨⟨h + 1, j, by go_num, rfl, by omega, by omega, hjb, HG.out nq osq, HE1.out, .inr (by rw [Nat.add_sub_cancel, HXH.out, HXA.out, ← HCF.out]; exact decide_eq_true hcf)⟩, by simp [intOf]; omega⟩
      · go_wp2_with fail
        go_quiet_grown (first | (go_at_fn gf; refine Calls.grown_of (hcg _ _)))
        go_wp2_with fail
        exact ⟨⟨i, h, rfl, rfl, hmi, hhi, by omega, HG.out nq osq, .inr (by rw [HXH.out, HXA.out, ← HCF.out]; exact decide_eq_false (by omega)), HE2.out⟩, by simp [intOf]; omega⟩
    · have hltz : ¬ (i : Int) < (j : Int) := by omega
      obtain rfl : i = j := by omega
      have hi1 : (i : Int) - 1 = ((i - 1 : Nat) : Int) := by have := HM.out; omega
      obtain ⟨i1, hi1e⟩ : ∃ i1, i1 = i - 1 := ⟨_, rfl⟩
      rw [← hi1e] at hi1
      have hai : a ≤ i1 := by have := HM.out; omega
      have hi1l : i1 + 1 = i := by have := HM.out; omega
      clear hlt hi1e
      go_upto_region 9 with fail
      go_loopw [13] (fun kv wr => ∃ (x : Nat) (g : Array α), kv = .int .i64 (x : Int) ∧ a ≤ x ∧ x ≤ i1 ∧ SWK enc k w0 blk off g wr ∧ g.size = d0.size ∧ Rot a (a + 1) (x + 1) f g) (fun kv _ => i1 - (intOf kv).toNat)
      case atStart => exact ⟨a, f, rfl, Nat.le_refl _, hai, HW.out, HS.out, rot_right0 a f⟩
      case round =>
        obtain ⟨x, g, rfl, hax, hxi, hwg, hg, hrt⟩ := hrel
        have HWG := Lib.hid hwg
        have HG := Lib.hid hg
        have HRT := Lib.hid hrt
        clear hwg hrt
        by_cases hlt2 : x < i1
        · have hltz2 : (x : Int) < (i1 : Int) := by omega
          obtain ⟨y, hy⟩ : ∃ y, y = x + 1 := ⟨_, rfl⟩
          have ey : (x : Int) + 1 = (y : Int) := by omega
          have hxl : x < g.size := by omega
          have hyl : y < g.size := by omega
          have zx : (x : Int) < (d0.size : Int) := by omega
          have zy : (y : Int) < (d0.size : Int) := by omega
          have l1 := HWG.out.ld1 HR.out HG.out P x hxl
          have l2 := HWG.out.ld1 HR.out HG.out P y hyl
          have s1 := HWG.out.st1 HR.out HG.out P x hxl g[y]!
          have s2 := HWG.out.st2 HR.out HG.out P x y hxl hyl g[y]! g[x]!
          have HSP := Lib.hid (HWG.out.swapped HR.out x y hxl hyl)
          have hlx : (enc g[x]!).length = k := HR.out.hk _
          have hly : (enc g[y]!).length = k := HR.out.hk _
          obtain ⟨cX, hcX⟩ : ∃ c, c = enc g[x]! := ⟨_, rfl⟩
          obtain ⟨cY, hcY⟩ : ∃ c, c = enc g[y]! := ⟨_, rfl⟩
          rw [← hcX] at l1 hlx
          rw [← hcY] at l2 s1 hly
          rw [← hcX, ← hcY] at s2 HSP
          have HY := Lib.hid hy
          have HRN := Lib.hid (show Rot a (a + 1) (y + 1) f (swp g x y) by rw [hy]; exact rot_right1 HRT.out hax (by have := HS.out; omega))
          clear hcX hcY hy
          go_wp2_with fail
          go_big_region_o
          all_goals go_wp2_with fail
          all_goals
            exact ⟨⟨y, swp g x y, by first | rfl | go_num, by omega, by omega, HSP.out, by rw [size_swp]; exact HG.out, HRN.out⟩, by simp [intOf]; omega⟩
        · have hltz2 : ¬ (x : Int) < (i1 : Int) := by omega
          obtain rfl : x = i1 := by omega
          have HF := Lib.hid (merge_left1 HSW.out (show SortedIn lt (a + 1) b f by rw [← HM.out]; exact HRS.out) (show a + 1 ≤ i by omega) hjb (by rw [HS.out]; exact hb) (show Rot a (a + 1) i f g by rw [← hi1l]; exact HRT.out) HE1.out (by rw [← HM.out]; exact HE2.out))
          clear hlt2
          go_wp2_with fail
          (try simp only [Exit.inBlock, Exit.then])
          refine bodyPost_ret (results_none rfl _ _ _) rfl ?_
          exact ⟨rfl, g, HWG.out, HG.out, HF.out.1, HF.out.2⟩
end Go.Proofs.Ytlcpackmoolngaa.Ss
