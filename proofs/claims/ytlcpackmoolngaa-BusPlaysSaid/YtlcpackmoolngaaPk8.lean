import Derived.Test.YtlcpackmoolngaaPk7
import Derived.Test.YtlcpackmoolngaaPk0
import Derived.Lib.Hide
import Derived.Shelf.RegionOpen
import Derived.Deep.CutBlock
import Derived.Deep.DeepCutAuto
namespace Go.Proofs.Ytlcpackmoolngaa.Ss
open Go.Shelf Go.RowKit Go.Lib Go.Sort Go.Proofs.Ytlcpackmoolngaa.Stb
set_option linter.unusedVariables false
variable {α : Type} [Inhabited α] {enc : α → List Value} {w0 W : World} {blk off cap : Nat} {d0 dk : Array α}
structure LaysP (P : Program) (k : Nat) : Prop where
  lay : Go.Proofs.SlLaysF0.n20 P ins_ren
  aE : ∀ w, (isAgg 52).run P w = .ok true w
  zE : ∀ w, (Go.sizeOf 52).run P w = .ok k w
  sw : P.funcs[89]? = some Try.f89
  rot : P.funcs[85]? = some Try.f85
  sym : P.funcs[78]? = some Try.f78
  stab : P.funcs[54]? = some Try.f54
  t59 : P.underlying 59 = some (TypeDesc.int IntKind.u64)
theorem laysP : LaysP Try.prog 5 := ⟨ins_lay, Try.isAgg52, Try.sizeOf52, Try.func89, Try.func85, Try.func78, Try.func54, Try.underlying59⟩
variable {P : Program} {k : Nat}
theorem LaysP.gsw (L : LaysP P k) : Enters P 89 := enters_of L.sw (by decide) rfl
theorem LaysP.grot (L : LaysP P k) : Enters P 85 := enters_of L.rot (by decide) rfl
theorem LaysP.gsym (L : LaysP P k) : Enters P 78 := enters_of L.sym (by decide) rfl
theorem LaysP.gins (L : LaysP P k) : Enters P 77 := L.lay.f20.enters rfl
set_option maxRecDepth 100000 in
set_option maxHeartbeats 2000000 in
theorem swap_any (L : LaysP P k) (R : RowK enc k w0 blk off d0) (hs : dk.size = d0.size) (h : SWK enc k w0 blk off dk W) (a b n : Nat) (fv : Value) (hab : a + n ≤ b) (hb : b + n ≤ dk.size) (hsz : d0.size < 4611686018427387904) :
    Calls P 89 #[.slice (some ⟨blk, off, none⟩) d0.size cap, .int .i64 a, .int .i64 b, .int .i64 n, fv] W fun e w' => e = .returned (.tuple #[]) ∧ ∃ g, SWK enc k w0 blk off g w' ∧ g.size = d0.size ∧ Sw a b n dk g := by
  have mixed : P.follows .mixedOrders = true := L.lay.mixed
  have aE := L.aE; have zE := L.zE
  have t0 : P.underlying 0 = _ := L.lay.t0; have a0 : ∀ w, (isAgg 0).run P w = _ := L.lay.a0; have z0 : ∀ w, (Go.sizeOf 0).run P w = _ := L.lay.z0; have v0 : ∀ w, (zeroValue 0).run P w = _ := L.lay.v0
  have t3 : P.underlying 3 = _ := L.lay.t3; have a3 : ∀ w, (isAgg 3).run P w = _ := L.lay.a3; have z3 : ∀ w, (Go.sizeOf 3).run P w = _ := L.lay.z3; have v3 : ∀ w, (zeroValue 3).run P w = _ := L.lay.v3
  have t4 : P.underlying 4 = _ := L.lay.t4; have a4 : ∀ w, (isAgg 4).run P w = _ := L.lay.a4; have z4 : ∀ w, (Go.sizeOf 4).run P w = _ := L.lay.z4; have v4 : ∀ w, (zeroValue 4).run P w = _ := L.lay.v4
  have t22 : P.underlying 22 = some (.slice 52) := L.lay.t22; have a22 : ∀ w, (isAgg 22).run P w = _ := L.lay.a22; have z22 : ∀ w, (Go.sizeOf 22).run P w = _ := L.lay.z22; have v22 : ∀ w, (zeroValue 22).run P w = _ := L.lay.v22
  have t25 : P.underlying 56 = some (.func #[52, 52] #[3] false) := L.lay.t25; have a25 : ∀ w, (isAgg 56).run P w = _ := L.lay.a25; have z25 : ∀ w, (Go.sizeOf 56).run P w = _ := L.lay.z25; have v25 : ∀ w, (zeroValue 56).run P w = _ := L.lay.v25
  have u22 := run_underlying t22
  have HR := Lib.hid R
  have HH := Lib.hid h
  have HS := Lib.hid hs
  have hsd : b + n ≤ d0.size := by omega
  clear R h
  go_enter L.sw, Try.ntmps89
  go_wp2_with fail
  go_loopw [10] (fun i wr => ∃ (m : Nat) (g : Array α), m ≤ n ∧ i = .int .i64 (m : Int) ∧ SWK enc k w0 blk off g wr ∧ g.size = d0.size ∧ Sw a b m dk g) (fun i _ => n - (intOf i).toNat)
  case atStart => exact ⟨0, dk, by omega, rfl, HH.out, HS.out, Sw.zero a b dk⟩
  case round =>
    obtain ⟨m, g, hk, rfl, hw, hg, hsw⟩ := hrel
    have HW := Lib.hid hw
    have HG := Lib.hid hg
    have HSW := Lib.hid hsw
    clear hw hsw
    by_cases hlt : m < n
    · have hltz : (m : Int) < (n : Int) := by omega
      have e1 : (a : Int) + (m : Int) = ((a + m : Nat) : Int) := by omega
      have e2 : (b : Int) + (m : Int) = ((b + m : Nat) : Int) := by omega
      obtain ⟨x, hx⟩ : ∃ x, x = a + m := ⟨_, rfl⟩
      obtain ⟨y, hy⟩ : ∃ y, y = b + m := ⟨_, rfl⟩
      rw [← hx] at e1
      rw [← hy] at e2
      have hxl : x < g.size := by omega
      have hyl : y < g.size := by omega
      have zx : (x : Int) < (d0.size : Int) := by omega
      have zy : (y : Int) < (d0.size : Int) := by omega
      have l1 := HW.out.ld1 HR.out HG.out P x hxl
      have l2 := HW.out.ld1 HR.out HG.out P y hyl
      have s1 := HW.out.st1 HR.out HG.out P x hxl g[y]!
      have s2 := HW.out.st2 HR.out HG.out P x y hxl hyl g[y]! g[x]!
      have HSP := Lib.hid (HW.out.swapped HR.out x y hxl hyl)
      have hlx : (enc g[x]!).length = k := HR.out.hk _
      have hly : (enc g[y]!).length = k := HR.out.hk _
      obtain ⟨cX, hcX⟩ : ∃ c, c = enc g[x]! := ⟨_, rfl⟩
      obtain ⟨cY, hcY⟩ : ∃ c, c = enc g[y]! := ⟨_, rfl⟩
      rw [← hcX] at l1 hlx
      rw [← hcY] at l2 s1 hly
      rw [← hcX, ← hcY] at s2 HSP
      have HC := Lib.hid (And.intro hcX hcY)
      have HXY := Lib.hid (And.intro hx hy)
      clear hcX hcY hx hy
      go_wp2_with fail
      go_big_region_o
      all_goals go_wp2_with fail
      all_goals
        refine ⟨⟨m + 1, swp g x y, by omega, by go_num, HSP.out, by rw [size_swp]; exact HG.out, ?_⟩, by simp [intOf]; omega⟩
        rw [HXY.out.1, HXY.out.2]
        exact HSW.out.step (by omega) (by omega)
    · have hltz : ¬ (m : Int) < (n : Int) := by omega
      have e : m = n := by omega
      have HE := Lib.hid (show Sw a b n dk g by have h := HSW.out; rwa [e] at h)
      clear hlt e
      go_wp2_with fail
      go_end0
      exact ⟨rfl, g, HW.out, HG.out, HE.out⟩
end Go.Proofs.Ytlcpackmoolngaa.Ss
namespace Go.Proofs.Ytlcpackmoolngaa.Ss
open Go.Shelf Go.RowKit Go.Lib Go.Sort Go.Proofs.Ytlcpackmoolngaa.Stb
set_option linter.unusedVariables false
variable {α : Type} [Inhabited α] {enc : α → List Value} {w0 W : World} {blk off cap : Nat} {d0 dk : Array α}
variable {P : Program} {k : Nat}
set_option maxRecDepth 100000 in
set_option maxHeartbeats 2000000 in
theorem rot_any (L : LaysP P k) (R : RowK enc k w0 blk off d0) (hs : dk.size = d0.size) (h : SWK enc k w0 blk off dk W) (a m b : Nat) (fv : Value) (ham : a < m) (hmb : m < b) (hb : b ≤ d0.size) (hsz : d0.size < 4611686018427387904) :
    Calls P 85 #[.slice (some ⟨blk, off, none⟩) d0.size cap, .int .i64 a, .int .i64 m, .int .i64 b, fv] W fun e w' => e = .returned (.tuple #[]) ∧ ∃ g, SWK enc k w0 blk off g w' ∧ g.size = d0.size ∧ Rot a m b dk g := by
  have mixed : P.follows .mixedOrders = true := L.lay.mixed
  have aE := L.aE; have zE := L.zE
  have t0 : P.underlying 0 = _ := L.lay.t0; have a0 : ∀ w, (isAgg 0).run P w = _ := L.lay.a0; have z0 : ∀ w, (Go.sizeOf 0).run P w = _ := L.lay.z0; have v0 : ∀ w, (zeroValue 0).run P w = _ := L.lay.v0
  have t3 : P.underlying 3 = _ := L.lay.t3; have a3 : ∀ w, (isAgg 3).run P w = _ := L.lay.a3; have z3 : ∀ w, (Go.sizeOf 3).run P w = _ := L.lay.z3; have v3 : ∀ w, (zeroValue 3).run P w = _ := L.lay.v3
  have t4 : P.underlying 4 = _ := L.lay.t4; have a4 : ∀ w, (isAgg 4).run P w = _ := L.lay.a4; have z4 : ∀ w, (Go.sizeOf 4).run P w = _ := L.lay.z4; have v4 : ∀ w, (zeroValue 4).run P w = _ := L.lay.v4
  have t22 : P.underlying 22 = some (.slice 52) := L.lay.t22; have a22 : ∀ w, (isAgg 22).run P w = _ := L.lay.a22; have z22 : ∀ w, (Go.sizeOf 22).run P w = _ := L.lay.z22; have v22 : ∀ w, (zeroValue 22).run P w = _ := L.lay.v22
  have t25 : P.underlying 56 = some (.func #[52, 52] #[3] false) := L.lay.t25; have a25 : ∀ w, (isAgg 56).run P w = _ := L.lay.a25; have z25 : ∀ w, (Go.sizeOf 56).run P w = _ := L.lay.z25; have v25 : ∀ w, (zeroValue 56).run P w = _ := L.lay.v25
  have u22 := run_underlying t22
  have HL := Lib.hid L
  have gsw : ∀ (args : Array Value) (w : World), (callFunc 89 args).run P w = .ok (.enter 89 args) w := L.gsw
  have HR := Lib.hid R
  have HH := Lib.hid h
  have HS := Lib.hid hs
  obtain ⟨i0, hi0⟩ : ∃ i0, i0 = m - a := ⟨_, rfl⟩
  obtain ⟨j0, hj0⟩ : ∃ j0, j0 = b - m := ⟨_, rfl⟩
  have hi1 : (m : Int) - (a : Int) = (i0 : Int) := by omega
  have hj1 : (b : Int) - (m : Int) = (j0 : Int) := by omega
  have H0 := Lib.hid (show ∀ g, Rot (m - i0) m (m + j0) dk g → Rot a m b dk g from fun g hg => by rwa [show m - i0 = a by omega, show m + j0 = b by omega] at hg)
  have HIJ := Lib.hid (show 1 ≤ i0 ∧ 1 ≤ j0 ∧ i0 ≤ m ∧ m + j0 ≤ d0.size by omega)
  clear R h hs hi0 hj0
  go_enter L.rot, Try.ntmps85
  go_wp2_with fail
  clear hi1 hj1
  go_loopw [10, 11] (fun iv jv wr => ∃ (i j : Nat) (f : Array α), iv = .int .i64 (i : Int) ∧ jv = .int .i64 (j : Int) ∧ 1 ≤ i ∧ 1 ≤ j ∧ i ≤ m ∧ m + j ≤ d0.size ∧ SWK enc k w0 blk off f wr ∧ f.size = d0.size ∧ ∀ g, Rot (m - i) m (m + j) f g → Rot a m b dk g) (fun iv jv _ => (intOf iv).toNat + (intOf jv).toNat)
  case atStart => exact ⟨i0, j0, dk, rfl, rfl, HIJ.out.1, HIJ.out.2.1, HIJ.out.2.2.1, HIJ.out.2.2.2, HH.out, HS.out, H0.out⟩
  case round =>
    obtain ⟨i, j, f, rfl, rfl, hi, hj, him, hjb, hw, hf, hrot⟩ := hrel
    have HW := Lib.hid hw
    have HF := Lib.hid hf
    have HRT := Lib.hid hrot
    clear hw hrot
    have em : (m : Int) - (i : Int) = ((m - i : Nat) : Int) := by omega
    rcases Nat.lt_trichotomy i j with hij | hij | hij
    · have hne : ((i : Int) == (j : Int)) = false := by rw [beq_eq_false_iff_ne]; omega
      have hgt : ¬ (j : Int) < (i : Int) := by omega
      have hgt2 : ¬ j < i := by omega
      have e2 : (m : Int) + (j : Int) - (i : Int) = ((m + j - i : Nat) : Int) := by omega
      have e3 : (j : Int) - (i : Int) = ((j - i : Nat) : Int) := by omega
      have HE := Lib.hid (And.intro e2 e3)
      have HQ := Lib.hid (swap_any HL.out HR.out HF.out HW.out (m - i) (m + j - i) i fv (cap := cap) (by omega) (by have := HF.out; omega) hsz)
      clear hf
      go_wp2_with fail
      refine HQ.out.mono ?_
      rintro e w2 ⟨rfl, f2, h2, hf2, hs2⟩
      have HW2 := Lib.hid h2
      have HF2 := Lib.hid hf2
      have HS2 := Lib.hid hs2
      clear h2 hf2 hs2
      go_wp2_with fail
      refine ⟨⟨i, j - i, f2, rfl, rfl, hi, by omega, him, by omega, HW2.out, HF2.out, fun g hg => HRT.out g (rot_small him hij (by have := HF.out; omega) HS2.out hg)⟩, by simp [intOf]; omega⟩
    · have hne : ((i : Int) == (j : Int)) = true := by rw [beq_iff_eq]; omega
      have HQ := Lib.hid (swap_any HL.out HR.out HF.out HW.out (m - i) m i fv (cap := cap) (by omega) (by have := HF.out; omega) hsz)
      subst hij
      clear hf
      go_wp2_with fail
      refine HQ.out.mono ?_
      rintro e w2 ⟨rfl, f2, h2, hf2, hs2⟩
      have HW2 := Lib.hid h2
      have HF2 := Lib.hid hf2
      have HS2 := Lib.hid hs2
      clear h2 hf2 hs2
      go_wp2_with fail
      go_end0
      exact ⟨rfl, f2, HW2.out, HF2.out, HRT.out f2 (rot_same him HS2.out)⟩
    · have hne : ((i : Int) == (j : Int)) = false := by rw [beq_eq_false_iff_ne]; omega
      have hgt : (j : Int) < (i : Int) := by omega
      have hgt2 : j < i := by omega
      have e3 : (i : Int) - (j : Int) = ((i - j : Nat) : Int) := by omega
      have HQ := Lib.hid (swap_any HL.out HR.out HF.out HW.out (m - i) m j fv (cap := cap) (by omega) (by have := HF.out; omega) hsz)
      clear hf
      go_wp2_with fail
      refine HQ.out.mono ?_
      rintro e w2 ⟨rfl, f2, h2, hf2, hs2⟩
      have HW2 := Lib.hid h2
      have HF2 := Lib.hid hf2
      have HS2 := Lib.hid hs2
      clear h2 hf2 hs2
      go_wp2_with fail
      refine ⟨⟨i - j, j, f2, rfl, rfl, by omega, hj, by omega, hjb, HW2.out, HF2.out, fun g hg => HRT.out g (rot_big him hij (by have := HF.out; omega) HS2.out hg)⟩, by simp [intOf]; omega⟩
end Go.Proofs.Ytlcpackmoolngaa.Ss
namespace Go.Proofs.Ytlcpackmoolngaa.Stb
open Go.Sort
set_option linter.unusedVariables false
set_option linter.unusedSimpArgs false
section
variable {α : Type} [Inhabited α] {lt : α → α → Bool}
theorem asymm {γ : Type} {l : γ → γ → Bool} (hS : SWO l) {x y : γ} (h : l x y = true) : l y x = false := by
  cases hq : l y x with
  | false => rfl
  | true =>
    have := hS.trans _ _ _ h hq
    rw [hS.irrefl] at this
    cases this
theorem SortedIn.weak (hS : SWO lt) {a b : Nat} {f : Array α} (h : SortedIn lt a b f) {x y : Nat} (h1 : a ≤ x) (h2 : x ≤ y) (h3 : y < b) : lt f[y]! f[x]! = false := by
  by_cases e : x = y
  · subst e
    exact hS.irrefl _
  · exact h x y h1 (by omega) h3
theorem merge_cut (hS : SWO lt) {a s m e b : Nat} {f g : Array α} (hL : SortedIn lt a m f) (hR : SortedIn lt m b f) (h1 : a ≤ s) (h2 : s ≤ m) (h3 : m ≤ e) (h4 : e ≤ b) (hr : Rot s m e f g)
    (E1 : s = a ∨ e = b ∨ lt f[e]! f[s - 1]! = false) (E2 : s = m ∨ e = m ∨ lt f[e - 1]! f[s]! = true) :
    SortedIn lt a s g ∧ SortedIn lt s (s + (e - m)) g ∧ SortedIn lt (s + (e - m)) e g ∧ SortedIn lt e b g ∧ ∀ x y, a ≤ x → x < s + (e - m) → s + (e - m) ≤ y → y < b → lt g[y]! g[x]! = false := by
  have A : ∀ x, x < s → g[x]! = f[x]! := fun x h => hr.1.2.1 x (.inl h)
  have B : ∀ y, e ≤ y → g[y]! = f[y]! := fun y h => hr.1.2.1 y (.inr h)
  have C : ∀ x, s ≤ x → x < s + (e - m) → g[x]! = f[m + (x - s)]! := fun x h h' => by
    have := hr.2.1 (x - s) (by omega)
    rwa [show s + (x - s) = x by omega] at this
  have D : ∀ y, s + (e - m) ≤ y → y < e → g[y]! = f[y - (e - m)]! := fun y h h' => by
    have := hr.2.2 (y - (s + (e - m))) (by omega)
    rwa [show s + (e - m) + (y - (s + (e - m))) = y by omega, show s + (y - (s + (e - m))) = y - (e - m) by omega] at this
  have K1 : ∀ x y, a ≤ x → x < s → e ≤ y → y < b → lt f[y]! f[x]! = false := fun x y q1 q2 q3 q4 => by
    rcases E1 with e1 | e1 | e1
    · omega
    · omega
    · exact hS.ntrans _ _ _ (SortedIn.weak hS hR h3 q3 q4) (hS.ntrans _ _ _ e1 (SortedIn.weak hS hL q1 (by omega) (by omega)))
  have K2 : ∀ x y, s ≤ x → x < m → m ≤ y → y < e → lt f[x]! f[y]! = false := fun x y q1 q2 q3 q4 => by
    rcases E2 with e2 | e2 | e2
    · omega
    · omega
    · exact hS.ntrans _ _ _ (SortedIn.weak hS hL h1 q1 q2) (hS.ntrans _ _ _ (asymm hS e2) (SortedIn.weak hS hR q3 (by omega) (by omega)))
  refine ⟨fun i j h h' h'' => ?_, fun i j h h' h'' => ?_, fun i j h h' h'' => ?_, fun i j h h' h'' => ?_, fun x y hx1 hx2 hy1 hy2 => ?_⟩
  · rw [A i (by omega), A j h'']
    exact hL i j h h' (by omega)
  · rw [C i h (by omega), C j (by omega) h'']
    exact hR _ _ (by omega) (by omega) (by omega)
  · rw [D i h (by omega), D j (by omega) h'']
    exact hL _ _ (by omega) (by omega) (by omega)
  · rw [B i h, B j (by omega)]
    exact hR i j (by omega) h' h''
  · by_cases c1 : x < s
    · rw [A x c1]
      by_cases c2 : y < e
      · rw [D y hy1 c2]
        exact SortedIn.weak hS hL hx1 (by omega) (by omega)
      · rw [B y (by omega)]
        exact K1 x y hx1 c1 (by omega) hy2
    · rw [C x (by omega) hx2]
      by_cases c2 : y < e
      · rw [D y hy1 c2]
        exact K2 _ _ (by omega) (by omega) (by omega) (by omega)
      · rw [B y (by omega)]
        exact SortedIn.weak hS hR (by omega) (by omega) hy2
theorem merge_fin {a mid b : Nat} {g g' g'' : Array α} (h1 : a ≤ mid) (h2 : mid ≤ b) (hb : b ≤ g.size) (hc : ∀ x y, a ≤ x → x < mid → mid ≤ y → y < b → lt g[y]! g[x]! = false)
    (p1 : PermIn a mid g g') (s1 : SortedIn lt a mid g') (p2 : PermIn mid b g' g'') (s2 : SortedIn lt mid b g'') : PermIn a b g g'' ∧ SortedIn lt a b g'' := by
  have hs := p1.1
  refine ⟨permIn_trans _ _ _ _ _ (permIn_mono _ _ _ _ _ _ (Nat.le_refl _) h2 hb p1) (permIn_mono _ _ _ _ _ _ h1 (Nat.le_refl _) (by omega) p2), fun i j h h' h'' => ?_⟩
  by_cases c1 : mid ≤ i
  · exact s2 i j c1 h' h''
  · rw [p2.2.1 i (.inl (by omega))]
    by_cases c2 : mid ≤ j
    · refine permIn_all g' g'' mid b (fun v => lt v g'[i]! = false) (by omega) p2 (fun y q1 q2 => ?_) j c2 h''
      show lt g'[y]! g'[i]! = false
      rw [p1.2.1 y (.inr q1)]
      exact permIn_all g g' a mid (fun v => lt g[y]! v = false) (by omega) p1 (fun x q3 q4 => hc x y q3 q4 q1 q2) i h (by omega)
    · rw [p2.2.1 j (.inl (by omega))]
      exact s1 i j h h' (by omega)
theorem merge_left1 (hS : SWO lt) {a i b : Nat} {f g : Array α} (hR : SortedIn lt (a + 1) b f) (hi : a + 1 ≤ i) (hib : i ≤ b) (hb : b ≤ f.size) (hr : Rot a (a + 1) i f g) (e1 : i = b ∨ lt f[i]! f[a]! = false)
    (e2 : i = a + 1 ∨ lt f[i - 1]! f[a]! = true) : PermIn a b f g ∧ SortedIn lt a b g := by
  refine ⟨permIn_mono _ _ _ _ _ _ (Nat.le_refl _) hib hb hr.1, fun x y h h' h'' => ?_⟩
  have A : ∀ x, a ≤ x → x < i - 1 → g[x]! = f[x + 1]! := fun x h h' => by
    have := hr.2.1 (x - a) (by omega)
    rwa [show a + (x - a) = x by omega, show a + 1 + (x - a) = x + 1 by omega] at this
  have C : g[i - 1]! = f[a]! := by
    have := hr.2.2 0 (by omega)
    rwa [show a + (i - (a + 1)) + 0 = i - 1 by omega] at this
  have B : ∀ y, i ≤ y → g[y]! = f[y]! := fun y h => hr.1.2.1 y (.inr h)
  by_cases c1 : y < i - 1
  · rw [A x h (by omega), A y (by omega) c1]
    exact hR _ _ (by omega) (by omega) (by omega)
  by_cases c2 : y = i - 1
  · rw [c2, C, A x h (by omega)]
    rcases e2 with e2 | e2
    · omega
    · exact hS.ntrans _ _ _ (asymm hS e2) (SortedIn.weak hS hR (by omega) (by omega) (by omega))
  rw [B y (by omega)]
  by_cases c3 : x < i - 1
  · rw [A x h c3]
    exact hR _ _ (by omega) (by omega) h''
  by_cases c4 : x = i - 1
  · rw [c4, C]
    rcases e1 with e1 | e1
    · omega
    · exact hS.ntrans _ _ _ (SortedIn.weak hS hR hi (by omega) h'') e1
  rw [B x (by omega)]
  exact hR x y (by omega) h' h''
theorem merge_right1 (hS : SWO lt) {a i m : Nat} {f g : Array α} (hL : SortedIn lt a m f) (ha : a ≤ i) (him : i ≤ m) (hb : m + 1 ≤ f.size) (hr : Rot i m (m + 1) f g) (e1 : i = a ∨ lt f[m]! f[i - 1]! = false)
    (e2 : i = m ∨ lt f[m]! f[i]! = true) : PermIn a (m + 1) f g ∧ SortedIn lt a (m + 1) g := by
  refine ⟨permIn_mono _ _ _ _ _ _ ha (Nat.le_refl _) hb hr.1, fun x y h h' h'' => ?_⟩
  have A : ∀ x, x < i → g[x]! = f[x]! := fun x h => hr.1.2.1 x (.inl h)
  have C : g[i]! = f[m]! := by
    have := hr.2.1 0 (by omega)
    rwa [Nat.add_zero, Nat.add_zero] at this
  have D : ∀ k, i < k → k ≤ m → g[k]! = f[k - 1]! := fun k h h' => by
    have := hr.2.2 (k - 1 - i) (by omega)
    rwa [show i + (m + 1 - m) + (k - 1 - i) = k by omega, show i + (k - 1 - i) = k - 1 by omega] at this
  by_cases c1 : y < i
  · rw [A x (by omega), A y c1]
    exact hL x y h h' (by omega)
  by_cases c2 : y = i
  · rw [c2, C, A x (by omega)]
    rcases e1 with e1 | e1
    · omega
    · exact hS.ntrans _ _ _ e1 (SortedIn.weak hS hL h (by omega) (by omega))
  rw [D y (by omega) (by omega)]
  by_cases c3 : x < i
  · rw [A x c3]
    exact hL x _ h (by omega) (by omega)
  by_cases c4 : x = i
  · rw [c4, C]
    rcases e2 with e2 | e2
    · omega
    · exact hS.ntrans _ _ _ (SortedIn.weak hS hL ha (by omega) (by omega)) (asymm hS e2)
  rw [D x (by omega) (by omega)]
  exact hL _ _ (by omega) (by omega) (by omega)
end
section
variable {β : Type} (k1 k2 : β → Int)
def ltT (x y : β × Nat) : Bool := decide (k1 x.1 < k1 y.1 ∨ k1 x.1 = k1 y.1 ∧ (k2 x.1 < k2 y.1 ∨ k2 x.1 = k2 y.1 ∧ x.2 < y.2))
def ltK (x y : β × Nat) : Bool := decide (k1 x.1 < k1 y.1 ∨ k1 x.1 = k1 y.1 ∧ k2 x.1 < k2 y.1)
theorem ltT_swo : SWO (ltT k1 k2) := ⟨fun x => by
    simp only [ltT, decide_eq_false_iff_not]
    omega, fun x y z => by
    simp only [ltT, decide_eq_true_eq]
    omega, fun x y z => by
    simp only [ltT, decide_eq_false_iff_not]
    omega⟩
theorem ltK_tag {x y : β × Nat} (h : x.2 < y.2) : ltK k1 k2 y x = ltT k1 k2 y x := by
  unfold ltK ltT
  exact decide_eq_decide.2 ⟨by omega, by omega⟩
end
end Go.Proofs.Ytlcpackmoolngaa.Stb
namespace Go.Proofs.Ytlcpackmoolngaa.Ss
open Go.Shelf Go.RowKit Go.Lib Go.Sort Go.Proofs.Ytlcpackmoolngaa.Stb
set_option linter.unusedVariables false
variable {α : Type} [Inhabited α] {enc : α → List Value} {w0 W : World} {blk off cap : Nat} {d0 f : Array α}
variable {P : Program} {k gf : Nat} {cf : α → α → Int} {lt : α → α → Bool} {τ : α → Nat}
set_option maxRecDepth 100000 in
set_option maxHeartbeats 4000000 in
theorem sym_left (L : LaysP P k) (R : RowK enc k w0 blk off d0) (eg : ∀ args w, (callFunc gf args).run P w = .ok (.enter gf args) w) (hC : CmpLays P gf #[] enc k cf blk off d0.size w0) (hS : SWO lt) (hlt : ∀ x y, τ x < τ y → decide (cf y x < 0) = lt y x) (hs : f.size = d0.size) (h : SWK enc k w0 blk off f W) (a m b : Nat) (hm : m = a + 1) (hmb : m < b) (hb : b ≤ d0.size) (hsz : d0.size < 4611686018427387904)
    (hR : SortedIn lt m b f) (hx : ∀ y, m ≤ y → y < b → τ f[a]! < τ f[y]!) :
    Calls P 78 #[.slice (some ⟨blk, off, none⟩) d0.size cap, .int .i64 a, .int .i64 m, .int .i64 b, .func (.func gf) #[] #[]] W fun e w' => e = .returned (.tuple #[]) ∧ ∃ f', SWK enc k w0 blk off f' w' ∧ f'.size = d0.size ∧ PermIn a b f f' ∧ SortedIn lt a b f' := by
  have mixed : P.follows .mixedOrders = true := L.lay.mixed
  have aE := L.aE; have zE := L.zE
  have t0 : P.underlying 0 = _ := L.lay.t0; have a0 : ∀ w, (isAgg 0).run P w = _ := L.lay.a0; have z0 : ∀ w, (Go.sizeOf 0).run P w = _ := L.lay.z0; have v0 : ∀ w, (zeroValue 0).run P w = _ := L.lay.v0
  have t3 : P.underlying 3 = _ := L.lay.t3; have a3 : ∀ w, (isAgg 3).run P w = _ := L.lay.a3; have z3 : ∀ w, (Go.sizeOf 3).run P w = _ := L.lay.z3; have v3 : ∀ w, (zeroValue 3).run P w = _ := L.lay.v3
  have t4 : P.underlying 4 = _ := L.lay.t4; have a4 : ∀ w, (isAgg 4).run P w = _ := L.lay.a4; have z4 : ∀ w, (Go.sizeOf 4).run P w = _ := L.lay.z4; have v4 : ∀ w, (zeroValue 4).run P w = _ := L.lay.v4
  have t22 : P.underlying 22 = some (.slice 52) := L.lay.t22; have a22 : ∀ w, (isAgg 22).run P w = _ := L.lay.a22; have z22 : ∀ w, (Go.sizeOf 22).run P w = _ := L.lay.z22; have v22 : ∀ w, (zeroValue 22).run P w = _ := L.lay.v22
  have t25 : P.underlying 56 = some (.func #[52, 52] #[3] false) := L.lay.t25; have a25 : ∀ w, (isAgg 56).run P w = _ := L.lay.a25; have z25 : ∀ w, (Go.sizeOf 56).run P w = _ := L.lay.z25; have v25 : ∀ w, (zeroValue 56).run P w = _ := L.lay.v25
  have u22 := run_underlying t22
  have t59 := L.t59
  have gsw : ∀ (args : Array Value) (w : World), (callFunc 89 args).run P w = .ok (.enter 89 args) w := L.gsw
  have grot : ∀ (args : Array Value) (w : World), (callFunc 85 args).run P w = .ok (.enter 85 args) w := L.grot
  have gsym : ∀ (args : Array Value) (w : World), (callFunc 78 args).run P w = .ok (.enter 78 args) w := L.gsym
  have HL := Lib.hid L
  have HR := Lib.hid R
  have HC := Lib.hid hC
  have HH := Lib.hid h
  have HS := Lib.hid hs
  have HSW := Lib.hid hS
  have HLT := Lib.hid hlt
  have HRS := Lib.hid hR
  have HX := Lib.hid hx
  have hd1 : (m : Int) - (a : Int) = 1 := by omega
  have HM := Lib.hid hm
  clear R hC h hs hS hlt hR hx hm
  go_enter L.sym, Try.ntmps78
  go_wp2_with fail
  go_loopw [10, 11, 12] (fun iv jv _ wr => ∃ (i j : Nat), iv = .int .i64 (i : Int) ∧ jv = .int .i64 (j : Int) ∧ m ≤ i ∧ i ≤ j ∧ j ≤ b ∧ SWK enc k w0 blk off f wr ∧ (j = b ∨ lt f[j]! f[a]! = false) ∧ (i = m ∨ lt f[i - 1]! f[a]! = true)) (fun iv jv _ _ => (intOf jv - intOf iv).toNat)
  case atStart => exact ⟨m, b, rfl, rfl, Nat.le_refl _, by omega, Nat.le_refl _, HH.out, .inl rfl, .inl rfl⟩
  case round =>
    obtain ⟨i, j, rfl, rfl, hmi, hij, hjb, hw, e1, e2⟩ := hrel
    have HW := Lib.hid hw
    have HE1 := Lib.hid e1
    have HE2 := Lib.hid e2
    clear hw e1 e2
    by_cases hlt : i < j
    · have hltz : (i : Int) < (j : Int) := by omega
      obtain ⟨h, hh⟩ : ∃ h, h = (i + j) / 2 := ⟨_, rfl⟩
      have hsum : ((i : Int) + (j : Int)) / 2 = (h : Int) := by omega
      have hhi : i ≤ h := by omega
      have hhj : h < j := by omega
      have hhd : h < d0.size := by omega
      have had : a < d0.size := by have := HM.out; omega
      have zh : (h : Int) < (d0.size : Int) := by omega
      have za : (a : Int) < (d0.size : Int) := by omega
      clear hh
      obtain ⟨xh, hxh⟩ : ∃ x, f[h]! = x := ⟨_, rfl⟩
      obtain ⟨xa, hxa⟩ : ∃ x, f[a]! = x := ⟨_, rfl⟩
      have l1 := HW.out.ld HR.out HS.out P h (by rw [HS.out]; exact hhd)
      have l2 := HW.out.ld HR.out HS.out P a (by rw [HS.out]; exact had)
      rw [hxh] at l1
      rw [hxa] at l2
      have hcg := HW.out.cmp HC.out HS.out xh xa
      have HG := Lib.hid HW.out.grown
      have HCF := Lib.hid (show decide (cf xh xa < 0) = lt xh xa from HLT.out xa xh (by rw [← hxh, ← hxa]; exact HX.out h (by omega) (by omega)))
      have HXH := Lib.hid hxh
      have HXA := Lib.hid hxa
      have hlh : (enc xh).length = k := HR.out.hk _
      have hla : (enc xa).length = k := HR.out.hk _
      clear hxh hxa
      by_cases hcf : cf xh xa < 0
      · go_wp2_with fail
        go_quiet_grown (first | (go_at_fn gf; refine Calls.grown_of (hcg _ _)))
        go_wp2_with fail
        exact ⟨⟨h + 1, j, by go_num, rfl, by omega, by omega, hjb, HG.out nq osq, HE1.out, .inr (by rw [Nat.add_sub_cancel, HXH.out, HXA.out, ← HCF.out]; exact decide_eq_true hcf)⟩, by simp [intOf]; omega⟩
      · go_wp2_with fail
        go_quiet_grown (first | (go_at_fn gf; refine Calls.grown_of (hcg _ _)))
        go_wp2_with fail
        exact ⟨⟨i, h, rfl, rfl, hmi, hhi, by omega, HG.out nq osq, .inr (by rw [HXH.out, HXA.out, ← HCF.out]; exact decide_eq_false (by omega)), HE2.out⟩, by simp [intOf]; omega⟩
    · have hltz : ¬ (i : Int) < (j : Int) := by omega
      obtain rfl : i = j := by omega
      have hi1 : (i : Int) - 1 = ((i - 1 : Nat) : Int) := by have := HM.out; omega
      obtain ⟨i1, hi1e⟩ : ∃ i1, i1 = i - 1 := ⟨_, rfl⟩
      rw [← hi1e] at hi1
      have hai : a ≤ i1 := by have := HM.out; omega
      have hi1l : i1 + 1 = i := by have := HM.out; omega
      clear hlt hi1e
      go_upto_region 9 with fail
      go_loopw [13] (fun kv wr => ∃ (x : Nat) (g : Array α), kv = .int .i64 (x : Int) ∧ a ≤ x ∧ x ≤ i1 ∧ SWK enc k w0 blk off g wr ∧ g.size = d0.size ∧ Rot a (a + 1) (x + 1) f g) (fun kv _ => i1 - (intOf kv).toNat)
      case atStart => exact ⟨a, f, rfl, Nat.le_refl _, hai, HW.out, HS.out, rot_right0 a f⟩
      case round =>
        obtain ⟨x, g, rfl, hax, hxi, hwg, hg, hrt⟩ := hrel
        have HWG := Lib.hid hwg
        have HG := Lib.hid hg
        have HRT := Lib.hid hrt
        clear hwg hrt
        by_cases hlt2 : x < i1
        · have hltz2 : (x : Int) < (i1 : Int) := by omega
          obtain ⟨y, hy⟩ : ∃ y, y = x + 1 := ⟨_, rfl⟩
          have ey : (x : Int) + 1 = (y : Int) := by omega
          have hxl : x < g.size := by omega
          have hyl : y < g.size := by omega
          have zx : (x : Int) < (d0.size : Int) := by omega
          have zy : (y : Int) < (d0.size : Int) := by omega
          have l1 := HWG.out.ld1 HR.out HG.out P x hxl
          have l2 := HWG.out.ld1 HR.out HG.out P y hyl
          have s1 := HWG.out.st1 HR.out HG.out P x hxl g[y]!
          have s2 := HWG.out.st2 HR.out HG.out P x y hxl hyl g[y]! g[x]!
          have HSP := Lib.hid (HWG.out.swapped HR.out x y hxl hyl)
          have hlx : (enc g[x]!).length = k := HR.out.hk _
          have hly : (enc g[y]!).length = k := HR.out.hk _
          obtain ⟨cX, hcX⟩ : ∃ c, c = enc g[x]! := ⟨_, rfl⟩
          obtain ⟨cY, hcY⟩ : ∃ c, c = enc g[y]! := ⟨_, rfl⟩
          rw [← hcX] at l1 hlx
          rw [← hcY] at l2 s1 hly
          rw [← hcX, ← hcY] at s2 HSP
          have HY := Lib.hid hy
          have HRN := Lib.hid (show Rot a (a + 1) (y + 1) f (swp g x y) by rw [hy]; exact rot_right1 HRT.out hax (by have := HS.out; omega))
          clear hcX hcY hy
          go_wp2_with fail
          go_big_region_o
          all_goals go_wp2_with fail
          all_goals
            exact ⟨⟨y, swp g x y, by first | rfl | go_num, by omega, by omega, HSP.out, by rw [size_swp]; exact HG.out, HRN.out⟩, by simp [intOf]; omega⟩
        · have hltz2 : ¬ (x : Int) < (i1 : Int) := by omega
          obtain rfl : x = i1 := by omega
          have HF := Lib.hid (merge_left1 HSW.out (show SortedIn lt (a + 1) b f by rw [← HM.out]; exact HRS.out) (show a + 1 ≤ i by omega) hjb (by rw [HS.out]; exact hb) (show Rot a (a + 1) i f g by rw [← hi1l]; exact HRT.out) HE1.out (by rw [← HM.out]; exact HE2.out))
          clear hlt2
          go_wp2_with fail
          (try simp only [Exit.inBlock, Exit.then])
          refine bodyPost_ret (results_none rfl _ _ _) rfl ?_
          exact ⟨rfl, g, HWG.out, HG.out, HF.out.1, HF.out.2⟩
end Go.Proofs.Ytlcpackmoolngaa.Ss
namespace Go.Proofs.Ytlcpackmoolngaa.Ss
open Go.Shelf Go.RowKit Go.Lib Go.Sort Go.Proofs.Ytlcpackmoolngaa.Stb
set_option linter.unusedVariables false
variable {α : Type} [Inhabited α] {enc : α → List Value} {w0 W : World} {blk off cap : Nat} {d0 f : Array α}
variable {P : Program} {k gf : Nat} {cf : α → α → Int} {lt : α → α → Bool} {τ : α → Nat}
set_option maxRecDepth 100000 in
set_option maxHeartbeats 4000000 in
theorem sym_right (L : LaysP P k) (R : RowK enc k w0 blk off d0) (eg : ∀ args w, (callFunc gf args).run P w = .ok (.enter gf args) w) (hC : CmpLays P gf #[] enc k cf blk off d0.size w0) (hS : SWO lt) (hlt : ∀ x y, τ x < τ y → decide (cf y x < 0) = lt y x) (hs : f.size = d0.size) (h : SWK enc k w0 blk off f W) (a m b : Nat) (hm : b = m + 1) (ham : a + 1 < m) (hb : b ≤ d0.size) (hsz : d0.size < 4611686018427387904)
    (hL : SortedIn lt a m f) (hx : ∀ x, a ≤ x → x < m → τ f[x]! < τ f[m]!) :
    Calls P 78 #[.slice (some ⟨blk, off, none⟩) d0.size cap, .int .i64 a, .int .i64 m, .int .i64 b, .func (.func gf) #[] #[]] W fun e w' => e = .returned (.tuple #[]) ∧ ∃ f', SWK enc k w0 blk off f' w' ∧ f'.size = d0.size ∧ PermIn a b f f' ∧ SortedIn lt a b f' := by
  have mixed : P.follows .mixedOrders = true := L.lay.mixed
  have aE := L.aE; have zE := L.zE
  have t0 : P.underlying 0 = _ := L.lay.t0; have a0 : ∀ w, (isAgg 0).run P w = _ := L.lay.a0; have z0 : ∀ w, (Go.sizeOf 0).run P w = _ := L.lay.z0; have v0 : ∀ w, (zeroValue 0).run P w = _ := L.lay.v0
  have t3 : P.underlying 3 = _ := L.lay.t3; have a3 : ∀ w, (isAgg 3).run P w = _ := L.lay.a3; have z3 : ∀ w, (Go.sizeOf 3).run P w = _ := L.lay.z3; have v3 : ∀ w, (zeroValue 3).run P w = _ := L.lay.v3
  have t4 : P.underlying 4 = _ := L.lay.t4; have a4 : ∀ w, (isAgg 4).run P w = _ := L.lay.a4; have z4 : ∀ w, (Go.sizeOf 4).run P w = _ := L.lay.z4; have v4 : ∀ w, (zeroValue 4).run P w = _ := L.lay.v4
  have t22 : P.underlying 22 = some (.slice 52) := L.lay.t22; have a22 : ∀ w, (isAgg 22).run P w = _ := L.lay.a22; have z22 : ∀ w, (Go.sizeOf 22).run P w = _ := L.lay.z22; have v22 : ∀ w, (zeroValue 22).run P w = _ := L.lay.v22
  have t25 : P.underlying 56 = some (.func #[52, 52] #[3] false) := L.lay.t25; have a25 : ∀ w, (isAgg 56).run P w = _ := L.lay.a25; have z25 : ∀ w, (Go.sizeOf 56).run P w = _ := L.lay.z25; have v25 : ∀ w, (zeroValue 56).run P w = _ := L.lay.v25
  have u22 := run_underlying t22
  have t59 := L.t59
  have gsw : ∀ (args : Array Value) (w : World), (callFunc 89 args).run P w = .ok (.enter 89 args) w := L.gsw
  have grot : ∀ (args : Array Value) (w : World), (callFunc 85 args).run P w = .ok (.enter 85 args) w := L.grot
  have gsym : ∀ (args : Array Value) (w : World), (callFunc 78 args).run P w = .ok (.enter 78 args) w := L.gsym
  have HL := Lib.hid L
  have HR := Lib.hid R
  have HC := Lib.hid hC
  have HH := Lib.hid h
  have HS := Lib.hid hs
  have HSW := Lib.hid hS
  have HLT := Lib.hid hlt
  have HLS := Lib.hid hL
  have HX := Lib.hid hx
  have hd0 : (((m : Int) - (a : Int)) == 1) = false := by rw [beq_eq_false_iff_ne]; omega
  have hd1 : (b : Int) - (m : Int) = 1 := by omega
  have HM := Lib.hid hm
  clear R hC h hs hS hlt hL hx hm
  go_enter L.sym, Try.ntmps78
  go_wp2_with fail
  go_loopw [14, 15, 16] (fun iv jv _ wr => ∃ (i j : Nat), iv = .int .i64 (i : Int) ∧ jv = .int .i64 (j : Int) ∧ a ≤ i ∧ i ≤ j ∧ j ≤ m ∧ SWK enc k w0 blk off f wr ∧ (j = m ∨ lt f[m]! f[j]! = true) ∧ (i = a ∨ lt f[m]! f[i - 1]! = false)) (fun iv jv _ _ => (intOf jv - intOf iv).toNat)
  case atStart => exact ⟨a, m, rfl, rfl, Nat.le_refl _, by omega, Nat.le_refl _, HH.out, .inl rfl, .inl rfl⟩
  case round =>
    obtain ⟨i, j, rfl, rfl, hmi, hij, hjb, hw, e1, e2⟩ := hrel
    have HW := Lib.hid hw
    have HE1 := Lib.hid e1
    have HE2 := Lib.hid e2
    clear hw e1 e2
    by_cases hlt : i < j
    · have hltz : (i : Int) < (j : Int) := by omega
      obtain ⟨h, hh⟩ : ∃ h, h = (i + j) / 2 := ⟨_, rfl⟩
      have hsum : ((i : Int) + (j : Int)) / 2 = (h : Int) := by omega
      have hhi : i ≤ h := by omega
      have hhj : h < j := by omega
      have hmd : m < d0.size := by have := HM.out; omega
      have hhd : h < d0.size := by omega
      have zh : (h : Int) < (d0.size : Int) := by omega
      have za : (m : Int) < (d0.size : Int) := by omega
      clear hh
      obtain ⟨xh, hxh⟩ : ∃ x, f[h]! = x := ⟨_, rfl⟩
      obtain ⟨xm, hxm⟩ : ∃ x, f[m]! = x := ⟨_, rfl⟩
      have l1 := HW.out.ld HR.out HS.out P h (by rw [HS.out]; exact hhd)
      have l2 := HW.out.ld HR.out HS.out P m (by rw [HS.out]; exact hmd)
      rw [hxh] at l1
      rw [hxm] at l2
      have hcg := HW.out.cmp HC.out HS.out xm xh
      have HG := Lib.hid HW.out.grown
      have HCF := Lib.hid (show decide (cf xm xh < 0) = lt xm xh from HLT.out xh xm (by rw [← hxh, ← hxm]; exact HX.out h (by omega) (by omega)))
      have HXH := Lib.hid hxh
      have HXM := Lib.hid hxm
      have hlh : (enc xh).length = k := HR.out.hk _
      have hlm : (enc xm).length = k := HR.out.hk _
      clear hxh hxm
      by_cases hcf : cf xm xh < 0
      · have HCX := Lib.hid hcf
        obtain ⟨bv, hbv⟩ : ∃ bv, bv = cf xm xh := ⟨_, rfl⟩
        rw [← hbv] at hcg hcf
        have hdb : decide (bv < 0) = true := by simp; omega
        have hdn : (!decide (bv < 0)) = false := by rw [hdb]; rfl
        have HBV := Lib.hid hbv
        clear hbv
        go_wp2_with fail
        go_quiet_grown (first | (go_at_fn gf; refine Calls.grown_of (hcg _ _)))
        go_wp2_with fail
        exact ⟨⟨i, h, rfl, rfl, hmi, hhi, by omega, HG.out nq osq, .inr (by rw [HXH.out, HXM.out, ← HCF.out]; exact decide_eq_true (by have := HCX.out; omega)), HE2.out⟩, by simp [intOf]; omega⟩
      · have HCX := Lib.hid hcf
        obtain ⟨bv, hbv⟩ : ∃ bv, bv = cf xm xh := ⟨_, rfl⟩
        rw [← hbv] at hcg hcf
        have hdb : decide (bv < 0) = false := by simp; omega
        have hdn : (!decide (bv < 0)) = true := by rw [hdb]; rfl
        have HBV := Lib.hid hbv
        clear hbv
        go_wp2_with fail
        go_quiet_grown (first | (go_at_fn gf; refine Calls.grown_of (hcg _ _)))
        go_wp2_with fail
        exact ⟨⟨h + 1, j, by go_num, rfl, by omega, by omega, hjb, HG.out nq osq, HE1.out, .inr (by rw [Nat.add_sub_cancel, HXH.out, HXM.out, ← HCF.out]; exact decide_eq_false (by have := HCX.out; omega))⟩, by simp [intOf]; omega⟩
    · have hltz : ¬ (i : Int) < (j : Int) := by omega
      obtain rfl : i = j := by omega
      clear hlt
      go_upto_region 21 with fail
      go_loopw [17] (fun kv wr => ∃ (x : Nat) (g : Array α), kv = .int .i64 (x : Int) ∧ i ≤ x ∧ x ≤ m ∧ SWK enc k w0 blk off g wr ∧ g.size = d0.size ∧ Rot x m (m + 1) f g) (fun kv _ => (intOf kv).toNat)
      case atStart => exact ⟨m, f, rfl, hjb, Nat.le_refl _, HW.out, HS.out, rot_left0 m f⟩
      case round =>
        obtain ⟨x, g, rfl, hax, hxi, hwg, hg, hrt⟩ := hrel
        have HWG := Lib.hid hwg
        have HG := Lib.hid hg
        have HRT := Lib.hid hrt
        clear hwg hrt
        by_cases hlt2 : i < x
        · have hltz2 : (i : Int) < (x : Int) := by omega
          have hmd : m < d0.size := by have := HM.out; omega
          obtain ⟨y, hy⟩ : ∃ y, x = y + 1 := ⟨x - 1, by omega⟩
          have ey : (x : Int) - 1 = (y : Int) := by omega
          have hxl : x < g.size := by omega
          have hyl : y < g.size := by omega
          have zx : (x : Int) < (d0.size : Int) := by omega
          have zy : (y : Int) < (d0.size : Int) := by omega
          have l1 := HWG.out.ld1 HR.out HG.out P x hxl
          have l2 := HWG.out.ld1 HR.out HG.out P y hyl
          have s1 := HWG.out.st1 HR.out HG.out P x hxl g[y]!
          have s2 := HWG.out.st2 HR.out HG.out P x y hxl hyl g[y]! g[x]!
          have HSP := Lib.hid (HWG.out.swapped HR.out x y hxl hyl)
          have hlx : (enc g[x]!).length = k := HR.out.hk _
          have hly : (enc g[y]!).length = k := HR.out.hk _
          obtain ⟨cX, hcX⟩ : ∃ c, c = enc g[x]! := ⟨_, rfl⟩
          obtain ⟨cY, hcY⟩ : ∃ c, c = enc g[y]! := ⟨_, rfl⟩
          rw [← hcX] at l1 hlx
          rw [← hcY] at l2 s1 hly
          rw [← hcX, ← hcY] at s2 HSP
          have HY := Lib.hid hy
          have HRN := Lib.hid (show Rot y m (m + 1) f (swp g x y) by
            have h := rot_left1 HRT.out (by omega) hxi (by have := HS.out; omega)
            rwa [show x - 1 = y by omega] at h)
          clear hcX hcY hy
          go_wp2_with fail
          go_big_region_o
          all_goals go_wp2_with fail
          all_goals
            have hy2 := HY.out
            exact ⟨⟨y, swp g x y, by first | rfl | go_num, by omega, by omega, HSP.out, by rw [size_swp]; exact HG.out, HRN.out⟩, by simp [intOf]; omega⟩
        · have hltz2 : ¬ (i : Int) < (x : Int) := by omega
          obtain rfl : x = i := by omega
          have HF := Lib.hid (merge_right1 HSW.out HLS.out hmi hjb (by have := HS.out; have := HM.out; omega) HRT.out HE2.out HE1.out)
          clear hlt2
          go_wp2_with fail
          (try simp only [Exit.inBlock, Exit.then])
          refine bodyPost_ret (results_none rfl _ _ _) rfl ?_
          exact ⟨rfl, g, HWG.out, HG.out, by rw [HM.out]; exact HF.out.1, by rw [HM.out]; exact HF.out.2⟩
end Go.Proofs.Ytlcpackmoolngaa.Ss
