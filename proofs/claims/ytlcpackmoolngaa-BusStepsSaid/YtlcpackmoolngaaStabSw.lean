/- slices.swapRangeCmpFunc at the parcels: two runs of a row changed about. -/
import Derived.Test.YtlcpackmoolngaaStabLay
import Derived.Test.YtlcpackmoolngaaStab
import Derived.Test.YtlcpackmoolngaaMem
import Derived.Lib.Hide
import Derived.Shelf.RegionOpen
namespace Go.Proofs.Ytlcpackmoolngaa.Ss
open Go.Shelf Go.RowKit Go.Lib Go.Sort Go.Proofs.Ytlcpackmoolngaa.Stb
set_option linter.unusedVariables false
variable {α : Type} [Inhabited α] {enc : α → List Value} {w0 W : World} {blk off cap : Nat} {d0 dk : Array α}

/-- What a walk asks of the program: the types' descriptions (the elements stay closed), and one body. -/
structure LaysP (P : Program) (k : Nat) : Prop where
  lay : Go.Proofs.SlLaysF0.n20 P ins_ren
  aE : ∀ w, (isAgg 52).run P w = .ok true w
  zE : ∀ w, (Go.sizeOf 52).run P w = .ok k w
  sw : P.funcs[89]? = some Try.f89
  rot : P.funcs[85]? = some Try.f85
  sym : P.funcs[78]? = some Try.f78
  stab : P.funcs[54]? = some Try.f54
  t59 : P.underlying 59 = some (TypeDesc.int IntKind.u64)
theorem laysP : LaysP Try.prog 5 := ⟨ins_lay, Try.isAgg52, Try.sizeOf52, Try.func89, Try.func85, Try.func78, Try.func54, Try.underlying59⟩
variable {P : Program} {k : Nat}
theorem LaysP.gsw (L : LaysP P k) : Enters P 89 := enters_of L.sw (by decide) rfl
theorem LaysP.grot (L : LaysP P k) : Enters P 85 := enters_of L.rot (by decide) rfl
theorem LaysP.gsym (L : LaysP P k) : Enters P 78 := enters_of L.sym (by decide) rfl
theorem LaysP.gins (L : LaysP P k) : Enters P 77 := L.lay.f20.enters rfl

set_option maxRecDepth 100000 in
set_option maxHeartbeats 2000000 in
theorem swap_any (L : LaysP P k) (R : RowK enc k w0 blk off d0) (hs : dk.size = d0.size) (h : SWK enc k w0 blk off dk W) (a b n : Nat) (fv : Value) (hab : a + n ≤ b) (hb : b + n ≤ dk.size) (hsz : d0.size < 4611686018427387904) :
    Calls P 89 #[.slice (some ⟨blk, off, none⟩) d0.size cap, .int .i64 a, .int .i64 b, .int .i64 n, fv] W fun e w' => e = .returned (.tuple #[]) ∧ ∃ g, SWK enc k w0 blk off g w' ∧ g.size = d0.size ∧ Sw a b n dk g := by
  have mixed : P.follows .mixedOrders = true := L.lay.mixed
  have aE := L.aE; have zE := L.zE
  have t0 : P.underlying 0 = _ := L.lay.t0; have a0 : ∀ w, (isAgg 0).run P w = _ := L.lay.a0; have z0 : ∀ w, (Go.sizeOf 0).run P w = _ := L.lay.z0; have v0 : ∀ w, (zeroValue 0).run P w = _ := L.lay.v0
  have t3 : P.underlying 3 = _ := L.lay.t3; have a3 : ∀ w, (isAgg 3).run P w = _ := L.lay.a3; have z3 : ∀ w, (Go.sizeOf 3).run P w = _ := L.lay.z3; have v3 : ∀ w, (zeroValue 3).run P w = _ := L.lay.v3
  have t4 : P.underlying 4 = _ := L.lay.t4; have a4 : ∀ w, (isAgg 4).run P w = _ := L.lay.a4; have z4 : ∀ w, (Go.sizeOf 4).run P w = _ := L.lay.z4; have v4 : ∀ w, (zeroValue 4).run P w = _ := L.lay.v4
  have t22 : P.underlying 22 = some (.slice 52) := L.lay.t22; have a22 : ∀ w, (isAgg 22).run P w = _ := L.lay.a22; have z22 : ∀ w, (Go.sizeOf 22).run P w = _ := L.lay.z22; have v22 : ∀ w, (zeroValue 22).run P w = _ := L.lay.v22
  have t25 : P.underlying 56 = some (.func #[52, 52] #[3] false) := L.lay.t25; have a25 : ∀ w, (isAgg 56).run P w = _ := L.lay.a25; have z25 : ∀ w, (Go.sizeOf 56).run P w = _ := L.lay.z25; have v25 : ∀ w, (zeroValue 56).run P w = _ := L.lay.v25
  have u22 := run_underlying t22
  have HR := Lib.hid R
  have HH := Lib.hid h
  have HS := Lib.hid hs
  have hsd : b + n ≤ d0.size := by omega
  clear R h
  go_enter L.sw, Try.ntmps89
  go_wp2_with fail
  go_loopw [10] (fun i wr => ∃ (m : Nat) (g : Array α), m ≤ n ∧ i = .int .i64 (m : Int) ∧ SWK enc k w0 blk off g wr ∧ g.size = d0.size ∧ Sw a b m dk g) (fun i _ => n - (intOf i).toNat)
  case atStart => exact ⟨0, dk, by omega, rfl, HH.out, HS.out, Sw.zero a b dk⟩
  case round =>
    obtain ⟨m, g, hk, rfl, hw, hg, hsw⟩ := hrel
    have HW := Lib.hid hw
    have HG := Lib.hid hg
    have HSW := Lib.hid hsw
    clear hw hsw
    by_cases hlt : m < n
    · have hltz : (m : Int) < (n : Int) := by omega
      have e1 : (a : Int) + (m : Int) = ((a + m : Nat) : Int) := by omega
      have e2 : (b : Int) + (m : Int) = ((b + m : Nat) : Int) := by omega
      obtain ⟨x, hx⟩ : ∃ x, x = a + m := ⟨_, rfl⟩
      obtain ⟨y, hy⟩ : ∃ y, y = b + m := ⟨_, rfl⟩
      rw [← hx] at e1
      rw [← hy] at e2
      have hxl : x < g.size := by omega
      have hyl : y < g.size := by omega
      have zx : (x : Int) < (d0.size : Int) := by omega
      have zy : (y : Int) < (d0.size : Int) := by omega
      have l1 := HW.out.ld1 HR.out HG.out P x hxl
      have l2 := HW.out.ld1 HR.out HG.out P y hyl
      have s1 := HW.out.st1 HR.out HG.out P x hxl g[y]!
      have s2 := HW.out.st2 HR.out HG.out P x y hxl hyl g[y]! g[x]!
      have HSP := Lib.hid (HW.out.swapped HR.out x y hxl hyl)
      have hlx : (enc g[x]!).length = k := HR.out.hk _
      have hly : (enc g[y]!).length = k := HR.out.hk _
      obtain ⟨cX, hcX⟩ : ∃ c, c = enc g[x]! := ⟨_, rfl⟩
      obtain ⟨cY, hcY⟩ : ∃ c, c = enc g[y]! := ⟨_, rfl⟩
      rw [← hcX] at l1 hlx
      rw [← hcY] at l2 s1 hly
      rw [← hcX, ← hcY] at s2 HSP
      have HC := Lib.hid (And.intro hcX hcY)
      have HXY := Lib.hid (And.intro hx hy)
      clear hcX hcY hx hy
      go_wp2_with fail
      go_big_region_o
      all_goals go_wp2_with fail
      all_goals
        refine ⟨⟨m + 1, swp g x y, by omega, by go_num, HSP.out, by rw [size_swp]; exact HG.out, ?_⟩, by simp [intOf]; omega⟩
        rw [HXY.out.1, HXY.out.2]
        exact HSW.out.step (by omega) (by omega)
    · have hltz : ¬ (m : Int) < (n : Int) := by omega
      have e : m = n := by omega
      have HE := Lib.hid (show Sw a b n dk g by have h := HSW.out; rwa [e] at h)
      clear hlt e
      go_wp2_with fail
      go_end0
      exact ⟨rfl, g, HW.out, HG.out, HE.out⟩
end Go.Proofs.Ytlcpackmoolngaa.Ss
