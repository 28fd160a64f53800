import Derived.Test.YtlcpackmoolngaaPk8
import Derived.Deep.CutBlock
import Derived.Deep.DeepCutAuto
namespace Go.Proofs.Ytlcpackmoolngaa.Ss
open Go.Shelf Go.RowKit Go.Lib Go.Sort Go.Proofs.Ytlcpackmoolngaa.Stb
set_option linter.unusedVariables false
variable {α : Type} [Inhabited α] {enc : α → List Value} {w0 : World} {blk off cap : Nat} {d0 : Array α}
variable {P : Program} {k gf : Nat} {cf : α → α → Int} {lt : α → α → Bool} {τ : α → Nat}
def SymAt (P : Program) (enc : α → List Value) (k gf : Nat) (lt : α → α → Bool) (τ : α → Nat) (w0 : World) (blk off cap : Nat) (d0 : Array α) (N : Nat) : Prop :=
  ∀ (a m b : Nat) (f : Array α) (W : World), b - a < N → f.size = d0.size → SWK enc k w0 blk off f W → a < m → m < b → b ≤ d0.size → SortedIn lt a m f → SortedIn lt m b f → (∀ x y, a ≤ x → x < m → m ≤ y → y < b → τ f[x]! < τ f[y]!) →
    Calls P 78 #[.slice (some ⟨blk, off, none⟩) d0.size cap, .int .i64 a, .int .i64 m, .int .i64 b, .func (.func gf) #[] #[]] W fun e w' => e = .returned (.tuple #[]) ∧ ∃ f', SWK enc k w0 blk off f' w' ∧ f'.size = d0.size ∧ PermIn a b f f' ∧ SortedIn lt a b f'
theorem rot_none {s m e : Nat} {f : Array α} (h1 : s ≤ m) (h2 : m ≤ e) (h : s = m ∨ e = m) : Rot s m e f f := by
  refine ⟨permIn_refl _ _ _, fun k hk => ?_, fun k hk => ?_⟩
  · rcases h with h | h
    · rw [h]
    · omega
  · rcases h with h | h
    · omega
    · rw [h, Nat.sub_self, Nat.add_zero]
structure CutOf (a m b mid n lo hi : Nat) : Prop where
  lo_hi : lo ≤ hi
  a_lo : a ≤ lo
  hi_m : hi ≤ m
  lo_e : lo = a ∨ n - lo = b
  hi_e : hi = m ∨ n - hi = m
  p_lo : ∀ c, lo ≤ c → c < hi → c < n ∧ m ≤ n - 1 - c ∧ n - 1 - c < b
  n_hi : hi ≤ n ∧ m ≤ n - hi ∧ n - lo ≤ b ∧ lo ≤ n
theorem cut_big {a m b : Nat} (h1 : a < m) (h2 : m < b) (hm : (a + b) / 2 < m) : CutOf a m b ((a + b) / 2) ((a + b) / 2 + m) ((a + b) / 2 + m - b) ((a + b) / 2) := by
  refine ⟨by omega, by omega, by omega, by right; omega, by right; omega, fun c hc hc2 => by omega, by omega⟩
theorem cut_small {a m b : Nat} (h1 : a < m) (h2 : m < b) (hm : m ≤ (a + b) / 2) : CutOf a m b ((a + b) / 2) ((a + b) / 2 + m) a m := by
  refine ⟨by omega, by omega, by omega, by left; rfl, by left; rfl, fun c hc hc2 => by omega, by omega⟩
set_option maxRecDepth 100000 in
set_option maxHeartbeats 8000000 in
theorem sym_big (L : LaysP P k) (R : RowK enc k w0 blk off d0) (eg : ∀ args w, (callFunc gf args).run P w = .ok (.enter gf args) w) (hC : CmpLays P gf #[] enc k cf blk off d0.size w0) (hS : SWO lt) (hlt : ∀ x y, τ x < τ y → decide (cf y x < 0) = lt y x) (hsz : d0.size < 4611686018427387904) {N : Nat} (IH : SymAt P enc k gf lt τ w0 blk off cap d0 N)
    (a m b : Nat) (f : Array α) (W : World) (hN : b - a < N + 1) (hs : f.size = d0.size) (h : SWK enc k w0 blk off f W) (ham : a + 1 < m) (hmb : m + 1 < b) (hb : b ≤ d0.size) (hbig0 : (a + b) / 2 < m) (hL : SortedIn lt a m f) (hR : SortedIn lt m b f) (hx : ∀ x y, a ≤ x → x < m → m ≤ y → y < b → τ f[x]! < τ f[y]!) :
    Calls P 78 #[.slice (some ⟨blk, off, none⟩) d0.size cap, .int .i64 a, .int .i64 m, .int .i64 b, .func (.func gf) #[] #[]] W fun e w' => e = .returned (.tuple #[]) ∧ ∃ f', SWK enc k w0 blk off f' w' ∧ f'.size = d0.size ∧ PermIn a b f f' ∧ SortedIn lt a b f' := by
  have mixed : P.follows .mixedOrders = true := L.lay.mixed
  have aE := L.aE; have zE := L.zE
  have t0 : P.underlying 0 = _ := L.lay.t0; have a0 : ∀ w, (isAgg 0).run P w = _ := L.lay.a0; have z0 : ∀ w, (Go.sizeOf 0).run P w = _ := L.lay.z0; have v0 : ∀ w, (zeroValue 0).run P w = _ := L.lay.v0
  have t3 : P.underlying 3 = _ := L.lay.t3; have a3 : ∀ w, (isAgg 3).run P w = _ := L.lay.a3; have z3 : ∀ w, (Go.sizeOf 3).run P w = _ := L.lay.z3; have v3 : ∀ w, (zeroValue 3).run P w = _ := L.lay.v3
  have t4 : P.underlying 4 = _ := L.lay.t4; have a4 : ∀ w, (isAgg 4).run P w = _ := L.lay.a4; have z4 : ∀ w, (Go.sizeOf 4).run P w = _ := L.lay.z4; have v4 : ∀ w, (zeroValue 4).run P w = _ := L.lay.v4
  have t22 : P.underlying 22 = some (.slice 52) := L.lay.t22; have a22 : ∀ w, (isAgg 22).run P w = _ := L.lay.a22; have z22 : ∀ w, (Go.sizeOf 22).run P w = _ := L.lay.z22; have v22 : ∀ w, (zeroValue 22).run P w = _ := L.lay.v22
  have t25 : P.underlying 56 = some (.func #[52, 52] #[3] false) := L.lay.t25; have a25 : ∀ w, (isAgg 56).run P w = _ := L.lay.a25; have z25 : ∀ w, (Go.sizeOf 56).run P w = _ := L.lay.z25; have v25 : ∀ w, (zeroValue 56).run P w = _ := L.lay.v25
  have u22 := run_underlying t22
  have t59 := L.t59
  have gsw : ∀ (args : Array Value) (w : World), (callFunc 89 args).run P w = .ok (.enter 89 args) w := L.gsw
  have grot : ∀ (args : Array Value) (w : World), (callFunc 85 args).run P w = .ok (.enter 85 args) w := L.grot
  have gsym : ∀ (args : Array Value) (w : World), (callFunc 78 args).run P w = .ok (.enter 78 args) w := L.gsym
  have HL := Lib.hid L
  have HR := Lib.hid R
  have HC := Lib.hid hC
  have HH := Lib.hid h
  have HS := Lib.hid hs
  have HSW := Lib.hid hS
  have HLT := Lib.hid hlt
  have HLS := Lib.hid hL
  have HRS := Lib.hid hR
  have HX := Lib.hid hx
  have HIH := Lib.hid IH
  have hd0 : (((m : Int) - (a : Int)) == 1) = false := by rw [beq_eq_false_iff_ne]; omega
  have hd1 : (((b : Int) - (m : Int)) == 1) = false := by rw [beq_eq_false_iff_ne]; omega
  obtain ⟨mid, hmid⟩ : ∃ mid, mid = (a + b) / 2 := ⟨_, rfl⟩
  have hmI : ((a : Int) + (b : Int)) / 2 = (mid : Int) := by omega
  obtain ⟨n, hn⟩ : ∃ n, n = mid + m := ⟨_, rfl⟩
  have hnI : (mid : Int) + (m : Int) = (n : Int) := by omega
  have HMID := Lib.hid hmid
  have HNN := Lib.hid hn
  have hnb : n < 9223372036854775807 := by omega
  have HBN := Lib.hid (show a < mid ∧ mid < b ∧ mid - a < N ∧ b - mid < N by omega)
  clear R hC h hs hS hlt hL hR hx IH hmid hn
  have hbig : mid < m := by have := HMID.out; omega
  obtain ⟨lo, hlo⟩ : ∃ lo, lo = n - b := ⟨_, rfl⟩
  have HCUT := Lib.hid (show CutOf a m b mid n lo mid by
    have h := cut_big (show a < m by omega) (show m < b by omega) (show (a + b) / 2 < m by rw [← HMID.out]; exact hbig)
    rwa [← HMID.out, ← HNN.out, ← hlo] at h)
  have hloI : (n : Int) - (b : Int) = (lo : Int) := by have := HNN.out; have := HMID.out; omega
  have hbI : (mid : Int) < (m : Int) := by omega
  clear hlo hbig0
  obtain ⟨p, hp⟩ : ∃ p, p = n - 1 := ⟨_, rfl⟩
  have hpI : (n : Int) - 1 = (p : Int) := by have := HCUT.out.n_hi; have := HCUT.out.p_lo; omega
  have HP := Lib.hid hp
  clear hp
  go_enter L.sym, Try.ntmps78
  go_upto_region 33 with fail
  go_loopw [20, 21, 23] (fun sv rv _ wr => ∃ (s r : Nat), sv = .int .i64 (s : Int) ∧ rv = .int .i64 (r : Int) ∧ lo ≤ s ∧ s ≤ r ∧ r ≤ mid ∧ SWK enc k w0 blk off f wr ∧ (s = lo ∨ lt f[p - (s - 1)]! f[s - 1]! = false) ∧ (r = mid ∨ lt f[p - r]! f[r]! = true)) (fun sv rv _ _ => (intOf rv - intOf sv).toNat)
  case atStart => exact ⟨lo, mid, rfl, rfl, Nat.le_refl _, HCUT.out.lo_hi, Nat.le_refl _, HH.out, .inl rfl, .inl rfl⟩
  case round =>
    obtain ⟨s, r, rfl, rfl, hls, hsr, hrh, hw, e1, e2⟩ := hrel
    have HW := Lib.hid hw
    have HE1 := Lib.hid e1
    have HE2 := Lib.hid e2
    clear hw e1 e2
    by_cases hlt : s < r
    · have hltz : (s : Int) < (r : Int) := by omega
      obtain ⟨c, hc⟩ : ∃ c, c = (s + r) / 2 := ⟨_, rfl⟩
      have hsum : ((s : Int) + (r : Int)) / 2 = (c : Int) := by omega
      have hcs : s ≤ c := by omega
      have hcr : c < r := by omega
      clear hc
      have hpl := HCUT.out.p_lo c (by omega) (by omega)
      obtain ⟨q, hq⟩ : ∃ q, q = p - c := ⟨_, rfl⟩
      have hqI : (p : Int) - (c : Int) = (q : Int) := by have := HP.out; omega
      have hqm : m ≤ q := by have := HP.out; omega
      have hqb : q < b := by have := HP.out; omega
      have hcm : c < m := by have := HCUT.out.hi_m; omega
      have hac : a ≤ c := by have := HCUT.out.a_lo; omega
      have hcd : c < d0.size := by omega
      have hqd : q < d0.size := by omega
      have zc : (c : Int) < (d0.size : Int) := by omega
      have zq : (q : Int) < (d0.size : Int) := by omega
      have hqw : IntKind.i64.wrap (q : Int) = (q : Int) := by rw [IntKind.wrap_i64]; omega
      have HQ := Lib.hid hq
      clear hq hpl
      obtain ⟨xq, hxq⟩ : ∃ x, f[q]! = x := ⟨_, rfl⟩
      obtain ⟨xc, hxc⟩ : ∃ x, f[c]! = x := ⟨_, rfl⟩
      have l1 := HW.out.ld HR.out HS.out P q (by rw [HS.out]; exact hqd)
      have l2 := HW.out.ld HR.out HS.out P c (by rw [HS.out]; exact hcd)
      rw [hxq] at l1
      rw [hxc] at l2
      have hcg := HW.out.cmp HC.out HS.out xq xc
      have HG := Lib.hid HW.out.grown
      have HCF := Lib.hid (show decide (cf xq xc < 0) = lt xq xc from HLT.out xc xq (by rw [← hxq, ← hxc]; exact HX.out c q hac hcm hqm hqb))
      have HXQ := Lib.hid hxq
      have HXC := Lib.hid hxc
      have hlq : (enc xq).length = k := HR.out.hk _
      have hlc : (enc xc).length = k := HR.out.hk _
      clear hxq hxc
      obtain ⟨bv, hbv⟩ : ∃ bv, bv = cf xq xc := ⟨_, rfl⟩
      rw [← hbv] at hcg HCF
      clear hbv
      by_cases hcf : bv < 0
      · have hdb : decide (bv < 0) = true := decide_eq_true hcf
        have hdn : (!decide (bv < 0)) = false := by rw [hdb]; rfl
        have HB := Lib.hid hdb
        go_wp2_with fail
        go_quiet_grown (first | (go_at_fn gf; refine Calls.grown_of (hcg _ _)))
        go_wp2_with fail
        exact ⟨⟨s, c, rfl, rfl, hls, hcs, by omega, HG.out nq osq, HE1.out, .inr (by rw [← HQ.out, HXQ.out, HXC.out, ← HCF.out]; exact HB.out)⟩, by simp [intOf]; omega⟩
      · have hdb : decide (bv < 0) = false := decide_eq_false hcf
        have hdn : (!decide (bv < 0)) = true := by rw [hdb]; rfl
        have HB := Lib.hid hdb
        go_wp2_with fail
        go_quiet_grown (first | (go_at_fn gf; refine Calls.grown_of (hcg _ _)))
        go_wp2_with fail
        exact ⟨⟨c + 1, r, by go_num, rfl, by omega, by omega, hrh, HG.out nq osq, .inr (by rw [Nat.add_sub_cancel, ← HQ.out, HXQ.out, HXC.out, ← HCF.out]; exact HB.out), HE2.out⟩, by simp [intOf]; omega⟩
    · have hltz : ¬ (s : Int) < (r : Int) := by omega
      obtain rfl : s = r := by omega
      obtain ⟨e, he⟩ : ∃ e, e = n - s := ⟨_, rfl⟩
      have hpl := HCUT.out.n_hi
      have heI : (n : Int) - (s : Int) = (e : Int) := by omega
      have hme : m ≤ e := by omega
      have heb : e ≤ b := by omega
      have hsm : s ≤ m := by have := HCUT.out.hi_m; omega
      have has : a ≤ s := by have := HCUT.out.a_lo; omega
      have hmidI : s + (e - m) = mid := by have := HNN.out; omega
      have HMD := Lib.hid hmidI
      have HF1 := Lib.hid (show s = a ∨ e = b ∨ lt f[e]! f[s - 1]! = false by
        rcases HE1.out with h | h
        · rcases HCUT.out.lo_e with h2 | h2
          · exact .inl (h.trans h2)
          · exact .inr (.inl (by rw [he, h]; exact h2))
        · by_cases hsl : s = lo
          · rcases HCUT.out.lo_e with h2 | h2
            · exact .inl (hsl.trans h2)
            · exact .inr (.inl (by rw [he, hsl]; exact h2))
          · right; right
            rwa [show p - (s - 1) = e by rw [he, HP.out]; omega] at h)
      have HF2 := Lib.hid (show s = m ∨ e = m ∨ lt f[e - 1]! f[s]! = true by
        rcases HE2.out with h | h
        · rcases HCUT.out.hi_e with h2 | h2
          · exact .inl (h.trans h2)
          · exact .inr (.inl (by rw [he, h]; exact h2))
        · right; right
          rwa [show p - s = e - 1 by rw [he, HP.out]; omega] at h)
      have hsmid : s ≤ mid := by omega
      have hmide : mid ≤ e := by omega
      clear hlt he hpl hmidI
      go_upto_region 39 with fail
      go_cut [185] (fun v wx => v = .bool (decide (s < m ∧ m < e)) ∧ wx = wr)
      case first =>
        as_aux_lemma =>
          by_cases q1 : s < m
          · have q1' : (s : Int) < (m : Int) := by omega
            by_cases q2 : m < e
            · have q2' : (m : Int) < (e : Int) := by omega
              have HD := Lib.hid (show decide (s < m ∧ m < e) = true from decide_eq_true ⟨q1, q2⟩)
              go_wp2_with fail
              go_meet
              exact ⟨by rw [HD.out], by first | rfl | trivial⟩
            · have q2' : ¬ (m : Int) < (e : Int) := by omega
              have HD := Lib.hid (show decide (s < m ∧ m < e) = false from decide_eq_false (fun h => q2 h.2))
              go_wp2_with fail
              go_meet
              exact ⟨by rw [HD.out], by first | rfl | trivial⟩
          · have q1' : ¬ (s : Int) < (m : Int) := by omega
            have HD := Lib.hid (show decide (s < m ∧ m < e) = false from decide_eq_false (fun h => q1 h.1))
            go_wp2_with fail
            go_meet
            exact ⟨by rw [HD.out], by first | rfl | trivial⟩
      obtain ⟨rfl, rfl⟩ := hcut
      go_upto_if 185 with fail
      go_cut [] (fun wx => ∃ g, SWK enc k w0 blk off g wx ∧ g.size = d0.size ∧ Rot s m e f g)
      case first =>
        as_aux_lemma =>
          by_cases hro : s < m ∧ m < e
          · rw [decide_eq_true hro]
            have HQ := Lib.hid (rot_any HL.out HR.out HS.out HW.out s m e (.func (.func gf) #[] #[]) (cap := cap) hro.1 hro.2 (by omega) hsz)
            clear hro
            go_wp2_with fail
            refine HQ.out.mono ?_
            rintro x w2 ⟨rfl, g2, h2, hg2, hr2⟩
            have HW2 := Lib.hid h2
            have HG2 := Lib.hid hg2
            have HR2 := Lib.hid hr2
            clear h2 hg2 hr2
            go_wp2_with fail
            go_meet
            exact ⟨g2, HW2.out, HG2.out, HR2.out⟩
          · rw [decide_eq_false hro]
            have HRO := Lib.hid (rot_none (f := f) hsm hme (by omega))
            clear hro
            go_wp2_with fail
            go_meet
            exact ⟨f, HW.out, HS.out, HRO.out⟩
      obtain ⟨g, hwg, hg, hrg⟩ := hcut
      have HWG := Lib.hid hwg
      have HG := Lib.hid hg
      have HRG := Lib.hid hrg
      have hmc := merge_cut HSW.out HLS.out HRS.out has hsm hme heb hrg HF1.out HF2.out
      rw [HMD.out] at hmc
      obtain ⟨hc1, hc2, hc3, hc4, hc5⟩ := hmc
      have gA : ∀ x, x < s → g[x]! = f[x]! := fun x h => hrg.1.2.1 x (.inl h)
      have gB : ∀ y, e ≤ y → g[y]! = f[y]! := fun y h => hrg.1.2.1 y (.inr h)
      have gC : ∀ x, s ≤ x → x < mid → g[x]! = f[m + (x - s)]! := fun x h h' => by
        have h2 := hrg.2.1 (x - s) (by have := HMD.out; omega)
        rwa [show s + (x - s) = x by omega] at h2
      have gD : ∀ y, mid ≤ y → y < e → g[y]! = f[y - (e - m)]! := fun y h h' => by
        have hmd := HMD.out
        have h2 := hrg.2.2 (y - mid) (by omega)
        rwa [show s + (e - m) + (y - mid) = y by omega, show s + (y - mid) = y - (e - m) by omega] at h2
      have HT1 := Lib.hid (show ∀ x y, a ≤ x → x < s → s ≤ y → y < mid → τ g[x]! < τ g[y]! from fun x y h1 h2 h3 h4 => by
        have hmd := HMD.out
        rw [gA x h2, gC y h3 h4]; exact HX.out x _ h1 (by omega) (by omega) (by omega))
      have HT2 := Lib.hid (show ∀ x y, mid ≤ x → x < e → e ≤ y → y < b → τ g[x]! < τ g[y]! from fun x y h1 h2 h3 h4 => by
        have hmd := HMD.out
        rw [gD x h1 h2, gB y h3]; exact HX.out _ y (by omega) (by omega) (by omega) h4)
      have HC1 := Lib.hid hc1
      have HC2 := Lib.hid hc2
      have HC3 := Lib.hid hc3
      have HC4 := Lib.hid hc4
      have HC5 := Lib.hid hc5
      have HPF := Lib.hid (permIn_mono _ _ _ _ _ _ has heb (by rw [HS.out]; exact hb) hrg.1)
      clear hwg hg hrg hc1 hc2 hc3 hc4 hc5 gA gB gC gD
      go_upto_region 41 with fail
      go_cut [199] (fun v wx => v = .bool (decide (a < s ∧ s < mid)) ∧ wx = wc)
      case first =>
        as_aux_lemma =>
          by_cases q1 : a < s
          · have q1' : (a : Int) < (s : Int) := by omega
            by_cases q2 : s < mid
            · have q2' : (s : Int) < (mid : Int) := by omega
              have HD := Lib.hid (show decide (a < s ∧ s < mid) = true from decide_eq_true ⟨q1, q2⟩)
              go_wp2_with fail
              go_meet
              exact ⟨by rw [HD.out], by first | rfl | trivial⟩
            · have q2' : ¬ (s : Int) < (mid : Int) := by omega
              have HD := Lib.hid (show decide (a < s ∧ s < mid) = false from decide_eq_false (fun h => q2 h.2))
              go_wp2_with fail
              go_meet
              exact ⟨by rw [HD.out], by first | rfl | trivial⟩
          · have q1' : ¬ (a : Int) < (s : Int) := by omega
            have HD := Lib.hid (show decide (a < s ∧ s < mid) = false from decide_eq_false (fun h => q1 h.1))
            go_wp2_with fail
            go_meet
            exact ⟨by rw [HD.out], by first | rfl | trivial⟩
      obtain ⟨rfl, rfl⟩ := hcut
      go_upto_if 199 with fail
      go_cut [] (fun wx => ∃ g', SWK enc k w0 blk off g' wx ∧ g'.size = d0.size ∧ PermIn a mid g g' ∧ SortedIn lt a mid g')
      case first =>
        as_aux_lemma =>
          by_cases hro : a < s ∧ s < mid
          · rw [decide_eq_true hro]
            have HQ := Lib.hid (HIH.out a s mid g _ HBN.out.2.2.1 HG.out HWG.out hro.1 hro.2 (by have := HBN.out; omega) HC1.out HC2.out HT1.out)
            clear hro
            go_wp2_with fail
            refine HQ.out.mono ?_
            rintro x w2 ⟨rfl, g2, h2, hg2, hr2, hr3⟩
            have HW2 := Lib.hid h2
            have HG2 := Lib.hid hg2
            have HR2 := Lib.hid hr2
            have HR3 := Lib.hid hr3
            clear h2 hg2 hr2 hr3
            go_wp2_with fail
            go_meet
            exact ⟨g2, HW2.out, HG2.out, HR2.out, HR3.out⟩
          · rw [decide_eq_false hro]
            have HRO := Lib.hid (show SortedIn lt a mid g by
              by_cases h : a < s
              · have h2 : s = mid := by have h3 : ¬ s < mid := fun h3 => hro ⟨h, h3⟩; omega
                rw [← h2]; exact HC1.out
              · have h2 : s = a := by omega
                rw [← h2]; exact HC2.out)
            clear hro
            go_wp2_with fail
            go_meet
            exact ⟨g, HWG.out, HG.out, permIn_refl _ _ _, HRO.out⟩
      obtain ⟨g', hwg', hg', hpg', hsg'⟩ := hcut
      have HWG' := Lib.hid hwg'
      have HG' := Lib.hid hg'
      have HPG' := Lib.hid hpg'
      have HSG' := Lib.hid hsg'
      have gE : ∀ y, mid ≤ y → g'[y]! = g[y]! := fun y h => hpg'.2.1 y (.inr h)
      have HC3' := Lib.hid (show SortedIn lt mid e g' from fun i j h1 h2 h3 => by rw [gE i h1, gE j (by omega)]; exact HC3.out i j h1 h2 h3)
      have HC4' := Lib.hid (show SortedIn lt e b g' from fun i j h1 h2 h3 => by rw [gE i (by omega), gE j (by omega)]; exact HC4.out i j h1 h2 h3)
      have HT2' := Lib.hid (show ∀ x y, mid ≤ x → x < e → e ≤ y → y < b → τ g'[x]! < τ g'[y]! from fun x y h1 h2 h3 h4 => by rw [gE x h1, gE y (by omega)]; exact HT2.out x y h1 h2 h3 h4)
      clear hwg' hg' hpg' hsg' gE
      go_upto_region 43 with fail
      go_cut [213] (fun v wx => v = .bool (decide (mid < e ∧ e < b)) ∧ wx = wc)
      case first =>
        as_aux_lemma =>
          by_cases q1 : mid < e
          · have q1' : (mid : Int) < (e : Int) := by omega
            by_cases q2 : e < b
            · have q2' : (e : Int) < (b : Int) := by omega
              have HD := Lib.hid (show decide (mid < e ∧ e < b) = true from decide_eq_true ⟨q1, q2⟩)
              go_wp2_with fail
              go_meet
              exact ⟨by rw [HD.out], by first | rfl | trivial⟩
            · have q2' : ¬ (e : Int) < (b : Int) := by omega
              have HD := Lib.hid (show decide (mid < e ∧ e < b) = false from decide_eq_false (fun h => q2 h.2))
              go_wp2_with fail
              go_meet
              exact ⟨by rw [HD.out], by first | rfl | trivial⟩
          · have q1' : ¬ (mid : Int) < (e : Int) := by omega
            have HD := Lib.hid (show decide (mid < e ∧ e < b) = false from decide_eq_false (fun h => q1 h.1))
            go_wp2_with fail
            go_meet
            exact ⟨by rw [HD.out], by first | rfl | trivial⟩
      obtain ⟨rfl, rfl⟩ := hcut
      go_upto_if 213 with fail
      have hamd : a ≤ mid := by have := HBN.out; omega
      have hmdb : mid ≤ b := by have := HBN.out; omega
      by_cases hro : mid < e ∧ e < b
      · rw [decide_eq_true hro]
        have HQ := Lib.hid (HIH.out mid e b g' _ HBN.out.2.2.2 HG'.out HWG'.out hro.1 hro.2 hb HC3'.out HC4'.out HT2'.out)
        clear hro
        go_wp2_with fail
        refine HQ.out.mono ?_
        rintro x w2 ⟨rfl, g2, h2, hg2, hr2, hr3⟩
        have HW2 := Lib.hid h2
        have HG2 := Lib.hid hg2
        have HFN := Lib.hid (merge_fin hamd hmdb (by rw [HG.out]; exact hb) HC5.out HPG'.out HSG'.out hr2 hr3)
        clear h2 hg2 hr2 hr3
        go_wp2_with fail
        go_end0
        exact ⟨rfl, g2, HW2.out, HG2.out, permIn_trans _ _ _ _ _ HPF.out HFN.out.1, HFN.out.2⟩
      · rw [decide_eq_false hro]
        have HSX := Lib.hid (show SortedIn lt mid b g' by
          by_cases h : mid < e
          · have h2 : e = b := by have h3 : ¬ e < b := fun h3 => hro ⟨h, h3⟩; omega
            rw [← h2]; exact HC3'.out
          · have h2 : e = mid := by omega
            rw [← h2]; exact HC4'.out)
        have HFN := Lib.hid (merge_fin hamd hmdb (by rw [HG.out]; exact hb) HC5.out HPG'.out HSG'.out (permIn_refl _ _ _) HSX.out)
        clear hro
        go_wp2_with fail
        go_end0
        exact ⟨rfl, g', HWG'.out, HG'.out, permIn_trans _ _ _ _ _ HPF.out HFN.out.1, HFN.out.2⟩
end Go.Proofs.Ytlcpackmoolngaa.Ss
namespace Go.Proofs.Ytlcpackmoolngaa.Ss
open Go.Shelf Go.RowKit Go.Lib Go.Sort Go.Proofs.Ytlcpackmoolngaa.Stb
set_option linter.unusedVariables false
variable {α : Type} [Inhabited α] {enc : α → List Value} {w0 : World} {blk off cap : Nat} {d0 : Array α}
variable {P : Program} {k gf : Nat} {cf : α → α → Int} {lt : α → α → Bool} {τ : α → Nat}
set_option maxRecDepth 100000 in
set_option maxHeartbeats 8000000 in
theorem sym_small (L : LaysP P k) (R : RowK enc k w0 blk off d0) (eg : ∀ args w, (callFunc gf args).run P w = .ok (.enter gf args) w) (hC : CmpLays P gf #[] enc k cf blk off d0.size w0) (hS : SWO lt) (hlt : ∀ x y, τ x < τ y → decide (cf y x < 0) = lt y x) (hsz : d0.size < 4611686018427387904) {N : Nat} (IH : SymAt P enc k gf lt τ w0 blk off cap d0 N)
    (a m b : Nat) (f : Array α) (W : World) (hN : b - a < N + 1) (hs : f.size = d0.size) (h : SWK enc k w0 blk off f W) (ham : a + 1 < m) (hmb : m + 1 < b) (hb : b ≤ d0.size) (hbig0 : ¬ (a + b) / 2 < m) (hL : SortedIn lt a m f) (hR : SortedIn lt m b f) (hx : ∀ x y, a ≤ x → x < m → m ≤ y → y < b → τ f[x]! < τ f[y]!) :
    Calls P 78 #[.slice (some ⟨blk, off, none⟩) d0.size cap, .int .i64 a, .int .i64 m, .int .i64 b, .func (.func gf) #[] #[]] W fun e w' => e = .returned (.tuple #[]) ∧ ∃ f', SWK enc k w0 blk off f' w' ∧ f'.size = d0.size ∧ PermIn a b f f' ∧ SortedIn lt a b f' := by
  have mixed : P.follows .mixedOrders = true := L.lay.mixed
  have aE := L.aE; have zE := L.zE
  have t0 : P.underlying 0 = _ := L.lay.t0; have a0 : ∀ w, (isAgg 0).run P w = _ := L.lay.a0; have z0 : ∀ w, (Go.sizeOf 0).run P w = _ := L.lay.z0; have v0 : ∀ w, (zeroValue 0).run P w = _ := L.lay.v0
  have t3 : P.underlying 3 = _ := L.lay.t3; have a3 : ∀ w, (isAgg 3).run P w = _ := L.lay.a3; have z3 : ∀ w, (Go.sizeOf 3).run P w = _ := L.lay.z3; have v3 : ∀ w, (zeroValue 3).run P w = _ := L.lay.v3
  have t4 : P.underlying 4 = _ := L.lay.t4; have a4 : ∀ w, (isAgg 4).run P w = _ := L.lay.a4; have z4 : ∀ w, (Go.sizeOf 4).run P w = _ := L.lay.z4; have v4 : ∀ w, (zeroValue 4).run P w = _ := L.lay.v4
  have t22 : P.underlying 22 = some (.slice 52) := L.lay.t22; have a22 : ∀ w, (isAgg 22).run P w = _ := L.lay.a22; have z22 : ∀ w, (Go.sizeOf 22).run P w = _ := L.lay.z22; have v22 : ∀ w, (zeroValue 22).run P w = _ := L.lay.v22
  have t25 : P.underlying 56 = some (.func #[52, 52] #[3] false) := L.lay.t25; have a25 : ∀ w, (isAgg 56).run P w = _ := L.lay.a25; have z25 : ∀ w, (Go.sizeOf 56).run P w = _ := L.lay.z25; have v25 : ∀ w, (zeroValue 56).run P w = _ := L.lay.v25
  have u22 := run_underlying t22
  have t59 := L.t59
  have gsw : ∀ (args : Array Value) (w : World), (callFunc 89 args).run P w = .ok (.enter 89 args) w := L.gsw
  have grot : ∀ (args : Array Value) (w : World), (callFunc 85 args).run P w = .ok (.enter 85 args) w := L.grot
  have gsym : ∀ (args : Array Value) (w : World), (callFunc 78 args).run P w = .ok (.enter 78 args) w := L.gsym
  have HL := Lib.hid L
  have HR := Lib.hid R
  have HC := Lib.hid hC
  have HH := Lib.hid h
  have HS := Lib.hid hs
  have HSW := Lib.hid hS
  have HLT := Lib.hid hlt
  have HLS := Lib.hid hL
  have HRS := Lib.hid hR
  have HX := Lib.hid hx
  have HIH := Lib.hid IH
  have hd0 : (((m : Int) - (a : Int)) == 1) = false := by rw [beq_eq_false_iff_ne]; omega
  have hd1 : (((b : Int) - (m : Int)) == 1) = false := by rw [beq_eq_false_iff_ne]; omega
  obtain ⟨mid, hmid⟩ : ∃ mid, mid = (a + b) / 2 := ⟨_, rfl⟩
  have hmI : ((a : Int) + (b : Int)) / 2 = (mid : Int) := by omega
  obtain ⟨n, hn⟩ : ∃ n, n = mid + m := ⟨_, rfl⟩
  have hnI : (mid : Int) + (m : Int) = (n : Int) := by omega
  have HMID := Lib.hid hmid
  have HNN := Lib.hid hn
  have hnb : n < 9223372036854775807 := by omega
  have HBN := Lib.hid (show a < mid ∧ mid < b ∧ mid - a < N ∧ b - mid < N by omega)
  clear R hC h hs hS hlt hL hR hx IH hmid hn
  have HCUT := Lib.hid (show CutOf a m b mid n a m by
    have h := cut_small (show a < m by omega) (show m < b by omega) (show m ≤ (a + b) / 2 by omega)
    rwa [← HMID.out, ← HNN.out] at h)
  have hbI : ¬ (mid : Int) < (m : Int) := by have := HMID.out; omega
  clear hbig0
  obtain ⟨p, hp⟩ : ∃ p, p = n - 1 := ⟨_, rfl⟩
  have hpI : (n : Int) - 1 = (p : Int) := by have := HCUT.out.n_hi; have := HCUT.out.p_lo; omega
  have HP := Lib.hid hp
  clear hp
  go_enter L.sym, Try.ntmps78
  go_upto_region 33 with fail
  go_loopw [20, 21, 23] (fun sv rv _ wr => ∃ (s r : Nat), sv = .int .i64 (s : Int) ∧ rv = .int .i64 (r : Int) ∧ a ≤ s ∧ s ≤ r ∧ r ≤ m ∧ SWK enc k w0 blk off f wr ∧ (s = a ∨ lt f[p - (s - 1)]! f[s - 1]! = false) ∧ (r = m ∨ lt f[p - r]! f[r]! = true)) (fun sv rv _ _ => (intOf rv - intOf sv).toNat)
  case atStart => exact ⟨a, m, rfl, rfl, Nat.le_refl _, HCUT.out.lo_hi, Nat.le_refl _, HH.out, .inl rfl, .inl rfl⟩
  case round =>
    obtain ⟨s, r, rfl, rfl, hls, hsr, hrh, hw, e1, e2⟩ := hrel
    have HW := Lib.hid hw
    have HE1 := Lib.hid e1
    have HE2 := Lib.hid e2
    clear hw e1 e2
    by_cases hlt : s < r
    · have hltz : (s : Int) < (r : Int) := by omega
      obtain ⟨c, hc⟩ : ∃ c, c = (s + r) / 2 := ⟨_, rfl⟩
      have hsum : ((s : Int) + (r : Int)) / 2 = (c : Int) := by omega
      have hcs : s ≤ c := by omega
      have hcr : c < r := by omega
      clear hc
      have hpl := HCUT.out.p_lo c (by omega) (by omega)
      obtain ⟨q, hq⟩ : ∃ q, q = p - c := ⟨_, rfl⟩
      have hqI : (p : Int) - (c : Int) = (q : Int) := by have := HP.out; omega
      have hqm : m ≤ q := by have := HP.out; omega
      have hqb : q < b := by have := HP.out; omega
      have hcm : c < m := by have := HCUT.out.hi_m; omega
      have hac : a ≤ c := by have := HCUT.out.a_lo; omega
      have hcd : c < d0.size := by omega
      have hqd : q < d0.size := by omega
      have zc : (c : Int) < (d0.size : Int) := by omega
      have zq : (q : Int) < (d0.size : Int) := by omega
      have hqw : IntKind.i64.wrap (q : Int) = (q : Int) := by rw [IntKind.wrap_i64]; omega
      have HQ := Lib.hid hq
      clear hq hpl
      obtain ⟨xq, hxq⟩ : ∃ x, f[q]! = x := ⟨_, rfl⟩
      obtain ⟨xc, hxc⟩ : ∃ x, f[c]! = x := ⟨_, rfl⟩
      have l1 := HW.out.ld HR.out HS.out P q (by rw [HS.out]; exact hqd)
      have l2 := HW.out.ld HR.out HS.out P c (by rw [HS.out]; exact hcd)
      rw [hxq] at l1
      rw [hxc] at l2
      have hcg := HW.out.cmp HC.out HS.out xq xc
      have HG := Lib.hid HW.out.grown
      have HCF := Lib.hid (show decide (cf xq xc < 0) = lt xq xc from HLT.out xc xq (by rw [← hxq, ← hxc]; exact HX.out c q hac hcm hqm hqb))
      have HXQ := Lib.hid hxq
      have HXC := Lib.hid hxc
      have hlq : (enc xq).length = k := HR.out.hk _
      have hlc : (enc xc).length = k := HR.out.hk _
      clear hxq hxc
      obtain ⟨bv, hbv⟩ : ∃ bv, bv = cf xq xc := ⟨_, rfl⟩
      rw [← hbv] at hcg HCF
      clear hbv
      by_cases hcf : bv < 0
      · have hdb : decide (bv < 0) = true := decide_eq_true hcf
        have hdn : (!decide (bv < 0)) = false := by rw [hdb]; rfl
        have HB := Lib.hid hdb
        go_wp2_with fail
        go_quiet_grown (first | (go_at_fn gf; refine Calls.grown_of (hcg _ _)))
        go_wp2_with fail
        exact ⟨⟨s, c, rfl, rfl, hls, hcs, by omega, HG.out nq osq, HE1.out, .inr (by rw [← HQ.out, HXQ.out, HXC.out, ← HCF.out]; exact HB.out)⟩, by simp [intOf]; omega⟩
      · have hdb : decide (bv < 0) = false := decide_eq_false hcf
        have hdn : (!decide (bv < 0)) = true := by rw [hdb]; rfl
        have HB := Lib.hid hdb
        go_wp2_with fail
        go_quiet_grown (first | (go_at_fn gf; refine Calls.grown_of (hcg _ _)))
        go_wp2_with fail
        exact ⟨⟨c + 1, r, by go_num, rfl, by omega, by omega, hrh, HG.out nq osq, .inr (by rw [Nat.add_sub_cancel, ← HQ.out, HXQ.out, HXC.out, ← HCF.out]; exact HB.out), HE2.out⟩, by simp [intOf]; omega⟩
    · have hltz : ¬ (s : Int) < (r : Int) := by omega
      obtain rfl : s = r := by omega
      obtain ⟨e, he⟩ : ∃ e, e = n - s := ⟨_, rfl⟩
      have hpl := HCUT.out.n_hi
      have heI : (n : Int) - (s : Int) = (e : Int) := by omega
      have hme : m ≤ e := by omega
      have heb : e ≤ b := by omega
      have hsm : s ≤ m := by have := HCUT.out.hi_m; omega
      have has : a ≤ s := by have := HCUT.out.a_lo; omega
      have hmidI : s + (e - m) = mid := by have := HNN.out; omega
      have HMD := Lib.hid hmidI
      have HF1 := Lib.hid (show s = a ∨ e = b ∨ lt f[e]! f[s - 1]! = false by
        rcases HE1.out with h | h
        · rcases HCUT.out.lo_e with h2 | h2
          · exact .inl (h.trans h2)
          · exact .inr (.inl (by rw [he, h]; exact h2))
        · by_cases hsl : s = a
          · rcases HCUT.out.lo_e with h2 | h2
            · exact .inl (hsl.trans h2)
            · exact .inr (.inl (by rw [he, hsl]; exact h2))
          · right; right
            rwa [show p - (s - 1) = e by rw [he, HP.out]; omega] at h)
      have HF2 := Lib.hid (show s = m ∨ e = m ∨ lt f[e - 1]! f[s]! = true by
        rcases HE2.out with h | h
        · rcases HCUT.out.hi_e with h2 | h2
          · exact .inl (h.trans h2)
          · exact .inr (.inl (by rw [he, h]; exact h2))
        · right; right
          rwa [show p - s = e - 1 by rw [he, HP.out]; omega] at h)
      have hsmid : s ≤ mid := by omega
      have hmide : mid ≤ e := by omega
      clear hlt he hpl hmidI
      go_upto_region 39 with fail
      go_cut [185] (fun v wx => v = .bool (decide (s < m ∧ m < e)) ∧ wx = wr)
      case first =>
        as_aux_lemma =>
          by_cases q1 : s < m
          · have q1' : (s : Int) < (m : Int) := by omega
            by_cases q2 : m < e
            · have q2' : (m : Int) < (e : Int) := by omega
              have HD := Lib.hid (show decide (s < m ∧ m < e) = true from decide_eq_true ⟨q1, q2⟩)
              go_wp2_with fail
              go_meet
              exact ⟨by rw [HD.out], by first | rfl | trivial⟩
            · have q2' : ¬ (m : Int) < (e : Int) := by omega
              have HD := Lib.hid (show decide (s < m ∧ m < e) = false from decide_eq_false (fun h => q2 h.2))
              go_wp2_with fail
              go_meet
              exact ⟨by rw [HD.out], by first | rfl | trivial⟩
          · have q1' : ¬ (s : Int) < (m : Int) := by omega
            have HD := Lib.hid (show decide (s < m ∧ m < e) = false from decide_eq_false (fun h => q1 h.1))
            go_wp2_with fail
            go_meet
            exact ⟨by rw [HD.out], by first | rfl | trivial⟩
      obtain ⟨rfl, rfl⟩ := hcut
      go_upto_if 185 with fail
      go_cut [] (fun wx => ∃ g, SWK enc k w0 blk off g wx ∧ g.size = d0.size ∧ Rot s m e f g)
      case first =>
        as_aux_lemma =>
          by_cases hro : s < m ∧ m < e
          · rw [decide_eq_true hro]
            have HQ := Lib.hid (rot_any HL.out HR.out HS.out HW.out s m e (.func (.func gf) #[] #[]) (cap := cap) hro.1 hro.2 (by omega) hsz)
            clear hro
            go_wp2_with fail
            refine HQ.out.mono ?_
            rintro x w2 ⟨rfl, g2, h2, hg2, hr2⟩
            have HW2 := Lib.hid h2
            have HG2 := Lib.hid hg2
            have HR2 := Lib.hid hr2
            clear h2 hg2 hr2
            go_wp2_with fail
            go_meet
            exact ⟨g2, HW2.out, HG2.out, HR2.out⟩
          · rw [decide_eq_false hro]
            have HRO := Lib.hid (rot_none (f := f) hsm hme (by omega))
            clear hro
            go_wp2_with fail
            go_meet
            exact ⟨f, HW.out, HS.out, HRO.out⟩
      obtain ⟨g, hwg, hg, hrg⟩ := hcut
      have HWG := Lib.hid hwg
      have HG := Lib.hid hg
      have HRG := Lib.hid hrg
      have hmc := merge_cut HSW.out HLS.out HRS.out has hsm hme heb hrg HF1.out HF2.out
      rw [HMD.out] at hmc
      obtain ⟨hc1, hc2, hc3, hc4, hc5⟩ := hmc
      have gA : ∀ x, x < s → g[x]! = f[x]! := fun x h => hrg.1.2.1 x (.inl h)
      have gB : ∀ y, e ≤ y → g[y]! = f[y]! := fun y h => hrg.1.2.1 y (.inr h)
      have gC : ∀ x, s ≤ x → x < mid → g[x]! = f[m + (x - s)]! := fun x h h' => by
        have h2 := hrg.2.1 (x - s) (by have := HMD.out; omega)
        rwa [show s + (x - s) = x by omega] at h2
      have gD : ∀ y, mid ≤ y → y < e → g[y]! = f[y - (e - m)]! := fun y h h' => by
        have hmd := HMD.out
        have h2 := hrg.2.2 (y - mid) (by omega)
        rwa [show s + (e - m) + (y - mid) = y by omega, show s + (y - mid) = y - (e - m) by omega] at h2
      have HT1 := Lib.hid (show ∀ x y, a ≤ x → x < s → s ≤ y → y < mid → τ g[x]! < τ g[y]! from fun x y h1 h2 h3 h4 => by
        have hmd := HMD.out
        rw [gA x h2, gC y h3 h4]; exact HX.out x _ h1 (by omega) (by omega) (by omega))
      have HT2 := Lib.hid (show ∀ x y, mid ≤ x → x < e → e ≤ y → y < b → τ g[x]! < τ g[y]! from fun x y h1 h2 h3 h4 => by
        have hmd := HMD.out
        rw [gD x h1 h2, gB y h3]; exact HX.out _ y (by omega) (by omega) (by omega) h4)
      have HC1 := Lib.hid hc1
      have HC2 := Lib.hid hc2
      have HC3 := Lib.hid hc3
      have HC4 := Lib.hid hc4
      have HC5 := Lib.hid hc5
      have HPF := Lib.hid (permIn_mono _ _ _ _ _ _ has heb (by rw [HS.out]; exact hb) hrg.1)
      clear hwg hg hrg hc1 hc2 hc3 hc4 hc5 gA gB gC gD
      go_upto_region 41 with fail
      go_cut [199] (fun v wx => v = .bool (decide (a < s ∧ s < mid)) ∧ wx = wc)
      case first =>
        as_aux_lemma =>
          by_cases q1 : a < s
          · have q1' : (a : Int) < (s : Int) := by omega
            by_cases q2 : s < mid
            · have q2' : (s : Int) < (mid : Int) := by omega
              have HD := Lib.hid (show decide (a < s ∧ s < mid) = true from decide_eq_true ⟨q1, q2⟩)
              go_wp2_with fail
              go_meet
              exact ⟨by rw [HD.out], by first | rfl | trivial⟩
            · have q2' : ¬ (s : Int) < (mid : Int) := by omega
              have HD := Lib.hid (show decide (a < s ∧ s < mid) = false from decide_eq_false (fun h => q2 h.2))
              go_wp2_with fail
              go_meet
              exact ⟨by rw [HD.out], by first | rfl | trivial⟩
          · have q1' : ¬ (a : Int) < (s : Int) := by omega
            have HD := Lib.hid (show decide (a < s ∧ s < mid) = false from decide_eq_false (fun h => q1 h.1))
            go_wp2_with fail
            go_meet
            exact ⟨by rw [HD.out], by first | rfl | trivial⟩
      obtain ⟨rfl, rfl⟩ := hcut
      go_upto_if 199 with fail
      go_cut [] (fun wx => ∃ g', SWK enc k w0 blk off g' wx ∧ g'.size = d0.size ∧ PermIn a mid g g' ∧ SortedIn lt a mid g')
      case first =>
        as_aux_lemma =>
          by_cases hro : a < s ∧ s < mid
          · rw [decide_eq_true hro]
            have HQ := Lib.hid (HIH.out a s mid g _ HBN.out.2.2.1 HG.out HWG.out hro.1 hro.2 (by have := HBN.out; omega) HC1.out HC2.out HT1.out)
            clear hro
            go_wp2_with fail
            refine HQ.out.mono ?_
            rintro x w2 ⟨rfl, g2, h2, hg2, hr2, hr3⟩
            have HW2 := Lib.hid h2
            have HG2 := Lib.hid hg2
            have HR2 := Lib.hid hr2
            have HR3 := Lib.hid hr3
            clear h2 hg2 hr2 hr3
            go_wp2_with fail
            go_meet
            exact ⟨g2, HW2.out, HG2.out, HR2.out, HR3.out⟩
          · rw [decide_eq_false hro]
            have HRO := Lib.hid (show SortedIn lt a mid g by
              by_cases h : a < s
              · have h2 : s = mid := by have h3 : ¬ s < mid := fun h3 => hro ⟨h, h3⟩; omega
                rw [← h2]; exact HC1.out
              · have h2 : s = a := by omega
                rw [← h2]; exact HC2.out)
            clear hro
            go_wp2_with fail
            go_meet
            exact ⟨g, HWG.out, HG.out, permIn_refl _ _ _, HRO.out⟩
      obtain ⟨g', hwg', hg', hpg', hsg'⟩ := hcut
      have HWG' := Lib.hid hwg'
      have HG' := Lib.hid hg'
      have HPG' := Lib.hid hpg'
      have HSG' := Lib.hid hsg'
      have gE : ∀ y, mid ≤ y → g'[y]! = g[y]! := fun y h => hpg'.2.1 y (.inr h)
      have HC3' := Lib.hid (show SortedIn lt mid e g' from fun i j h1 h2 h3 => by rw [gE i h1, gE j (by omega)]; exact HC3.out i j h1 h2 h3)
      have HC4' := Lib.hid (show SortedIn lt e b g' from fun i j h1 h2 h3 => by rw [gE i (by omega), gE j (by omega)]; exact HC4.out i j h1 h2 h3)
      have HT2' := Lib.hid (show ∀ x y, mid ≤ x → x < e → e ≤ y → y < b → τ g'[x]! < τ g'[y]! from fun x y h1 h2 h3 h4 => by rw [gE x h1, gE y (by omega)]; exact HT2.out x y h1 h2 h3 h4)
      clear hwg' hg' hpg' hsg' gE
      go_upto_region 43 with fail
      go_cut [213] (fun v wx => v = .bool (decide (mid < e ∧ e < b)) ∧ wx = wc)
      case first =>
        as_aux_lemma =>
          by_cases q1 : mid < e
          · have q1' : (mid : Int) < (e : Int) := by omega
            by_cases q2 : e < b
            · have q2' : (e : Int) < (b : Int) := by omega
              have HD := Lib.hid (show decide (mid < e ∧ e < b) = true from decide_eq_true ⟨q1, q2⟩)
              go_wp2_with fail
              go_meet
              exact ⟨by rw [HD.out], by first | rfl | trivial⟩
            · have q2' : ¬ (e : Int) < (b : Int) := by omega
              have HD := Lib.hid (show decide (mid < e ∧ e < b) = false from decide_eq_false (fun h => q2 h.2))
              go_wp2_with fail
              go_meet
              exact ⟨by rw [HD.out], by first | rfl | trivial⟩
          · have q1' : ¬ (mid : Int) < (e : Int) := by omega
            have HD := Lib.hid (show decide (mid < e ∧ e < b) = false from decide_eq_false (fun h => q1 h.1))
            go_wp2_with fail
            go_meet
            exact ⟨by rw [HD.out], by first | rfl | trivial⟩
      obtain ⟨rfl, rfl⟩ := hcut
      go_upto_if 213 with fail
      have hamd : a ≤ mid := by have := HBN.out; omega
      have hmdb : mid ≤ b := by have := HBN.out; omega
      by_cases hro : mid < e ∧ e < b
      · rw [decide_eq_true hro]
        have HQ := Lib.hid (HIH.out mid e b g' _ HBN.out.2.2.2 HG'.out HWG'.out hro.1 hro.2 hb HC3'.out HC4'.out HT2'.out)
        clear hro
        go_wp2_with fail
        refine HQ.out.mono ?_
        rintro x w2 ⟨rfl, g2, h2, hg2, hr2, hr3⟩
        have HW2 := Lib.hid h2
        have HG2 := Lib.hid hg2
        have HFN := Lib.hid (merge_fin hamd hmdb (by rw [HG.out]; exact hb) HC5.out HPG'.out HSG'.out hr2 hr3)
        clear h2 hg2 hr2 hr3
        go_wp2_with fail
        go_end0
        exact ⟨rfl, g2, HW2.out, HG2.out, permIn_trans _ _ _ _ _ HPF.out HFN.out.1, HFN.out.2⟩
      · rw [decide_eq_false hro]
        have HSX := Lib.hid (show SortedIn lt mid b g' by
          by_cases h : mid < e
          · have h2 : e = b := by have h3 : ¬ e < b := fun h3 => hro ⟨h, h3⟩; omega
            rw [← h2]; exact HC3'.out
          · have h2 : e = mid := by omega
            rw [← h2]; exact HC4'.out)
        have HFN := Lib.hid (merge_fin hamd hmdb (by rw [HG.out]; exact hb) HC5.out HPG'.out HSG'.out (permIn_refl _ _ _) HSX.out)
        clear hro
        go_wp2_with fail
        go_end0
        exact ⟨rfl, g', HWG'.out, HG'.out, permIn_trans _ _ _ _ _ HPF.out HFN.out.1, HFN.out.2⟩
end Go.Proofs.Ytlcpackmoolngaa.Ss
namespace Go.Proofs.Ytlcpackmoolngaa.Ss
open Go.Shelf Go.RowKit Go.Lib Go.Sort Go.Proofs.Ytlcpackmoolngaa.Stb
set_option linter.unusedVariables false
variable {α : Type} [Inhabited α] {enc : α → List Value} {w0 : World} {blk off cap : Nat} {d0 : Array α}
variable {P : Program} {k gf : Nat} {cf : α → α → Int} {lt : α → α → Bool} {τ : α → Nat}
theorem sym_at (L : LaysP P k) (R : RowK enc k w0 blk off d0) (eg : ∀ args w, (callFunc gf args).run P w = .ok (.enter gf args) w) (hC : CmpLays P gf #[] enc k cf blk off d0.size w0) (hS : SWO lt) (hlt : ∀ x y, τ x < τ y → decide (cf y x < 0) = lt y x) (hsz : d0.size < 4611686018427387904) : ∀ N, SymAt P enc k gf lt τ w0 blk off cap d0 N
  | 0 => fun a m b f W hN => absurd hN (Nat.not_lt_zero _)
  | N + 1 => fun a m b f W hN hs h ham hmb hb hL hR hx => by
    have IH := sym_at L R eg hC hS hlt hsz N
    by_cases h1 : m = a + 1
    · exact sym_left L R eg hC hS hlt hs h a m b h1 hmb hb hsz hR (fun y h2 h3 => hx a y (Nat.le_refl _) ham h2 h3)
    · by_cases h2 : b = m + 1
      · exact sym_right L R eg hC hS hlt hs h a m b h2 (by omega) hb hsz hL (fun x h3 h4 => hx x m h3 h4 (Nat.le_refl _) hmb)
      · by_cases h3 : (a + b) / 2 < m
        · exact sym_big L R eg hC hS hlt hsz IH a m b f W hN hs h (by omega) (by omega) hb h3 hL hR hx
        · exact sym_small L R eg hC hS hlt hsz IH a m b f W hN hs h (by omega) (by omega) hb h3 hL hR hx
theorem sym_any (L : LaysP P k) (R : RowK enc k w0 blk off d0) (eg : ∀ args w, (callFunc gf args).run P w = .ok (.enter gf args) w) (hC : CmpLays P gf #[] enc k cf blk off d0.size w0) (hS : SWO lt) (hlt : ∀ x y, τ x < τ y → decide (cf y x < 0) = lt y x) (hsz : d0.size < 4611686018427387904) (a m b : Nat) (f : Array α) (W : World) (hs : f.size = d0.size) (h : SWK enc k w0 blk off f W) (ham : a < m) (hmb : m < b) (hb : b ≤ d0.size) (hL : SortedIn lt a m f) (hR : SortedIn lt m b f) (hx : ∀ x y, a ≤ x → x < m → m ≤ y → y < b → τ f[x]! < τ f[y]!) :
    Calls P 78 #[.slice (some ⟨blk, off, none⟩) d0.size cap, .int .i64 a, .int .i64 m, .int .i64 b, .func (.func gf) #[] #[]] W fun e w' => e = .returned (.tuple #[]) ∧ ∃ f', SWK enc k w0 blk off f' w' ∧ f'.size = d0.size ∧ PermIn a b f f' ∧ SortedIn lt a b f' :=
  sym_at L R eg hC hS hlt hsz (b - a + 1) a m b f W (Nat.lt_succ_self _) hs h ham hmb hb hL hR hx
end Go.Proofs.Ytlcpackmoolngaa.Ss
