/- slices.rotateCmpFunc at the parcels: two neighbouring runs of a row change places. -/
import Derived.Test.YtlcpackmoolngaaStabSw
namespace Go.Proofs.Ytlcpackmoolngaa.Ss
open Go.Shelf Go.RowKit Go.Lib Go.Sort Go.Proofs.Ytlcpackmoolngaa.Stb
set_option linter.unusedVariables false
variable {α : Type} [Inhabited α] {enc : α → List Value} {w0 W : World} {blk off cap : Nat} {d0 dk : Array α}
variable {P : Program} {k : Nat}

set_option maxRecDepth 100000 in
set_option maxHeartbeats 2000000 in
theorem rot_any (L : LaysP P k) (R : RowK enc k w0 blk off d0) (hs : dk.size = d0.size) (h : SWK enc k w0 blk off dk W) (a m b : Nat) (fv : Value) (ham : a < m) (hmb : m < b) (hb : b ≤ d0.size) (hsz : d0.size < 4611686018427387904) :
    Calls P 85 #[.slice (some ⟨blk, off, none⟩) d0.size cap, .int .i64 a, .int .i64 m, .int .i64 b, fv] W fun e w' => e = .returned (.tuple #[]) ∧ ∃ g, SWK enc k w0 blk off g w' ∧ g.size = d0.size ∧ Rot a m b dk g := by
  have mixed : P.follows .mixedOrders = true := L.lay.mixed
  have aE := L.aE; have zE := L.zE
  have t0 : P.underlying 0 = _ := L.lay.t0; have a0 : ∀ w, (isAgg 0).run P w = _ := L.lay.a0; have z0 : ∀ w, (Go.sizeOf 0).run P w = _ := L.lay.z0; have v0 : ∀ w, (zeroValue 0).run P w = _ := L.lay.v0
  have t3 : P.underlying 3 = _ := L.lay.t3; have a3 : ∀ w, (isAgg 3).run P w = _ := L.lay.a3; have z3 : ∀ w, (Go.sizeOf 3).run P w = _ := L.lay.z3; have v3 : ∀ w, (zeroValue 3).run P w = _ := L.lay.v3
  have t4 : P.underlying 4 = _ := L.lay.t4; have a4 : ∀ w, (isAgg 4).run P w = _ := L.lay.a4; have z4 : ∀ w, (Go.sizeOf 4).run P w = _ := L.lay.z4; have v4 : ∀ w, (zeroValue 4).run P w = _ := L.lay.v4
  have t22 : P.underlying 22 = some (.slice 52) := L.lay.t22; have a22 : ∀ w, (isAgg 22).run P w = _ := L.lay.a22; have z22 : ∀ w, (Go.sizeOf 22).run P w = _ := L.lay.z22; have v22 : ∀ w, (zeroValue 22).run P w = _ := L.lay.v22
  have t25 : P.underlying 56 = some (.func #[52, 52] #[3] false) := L.lay.t25; have a25 : ∀ w, (isAgg 56).run P w = _ := L.lay.a25; have z25 : ∀ w, (Go.sizeOf 56).run P w = _ := L.lay.z25; have v25 : ∀ w, (zeroValue 56).run P w = _ := L.lay.v25
  have u22 := run_underlying t22
  have HL := Lib.hid L
  have gsw : ∀ (args : Array Value) (w : World), (callFunc 89 args).run P w = .ok (.enter 89 args) w := L.gsw
  have HR := Lib.hid R
  have HH := Lib.hid h
  have HS := Lib.hid hs
  obtain ⟨i0, hi0⟩ : ∃ i0, i0 = m - a := ⟨_, rfl⟩
  obtain ⟨j0, hj0⟩ : ∃ j0, j0 = b - m := ⟨_, rfl⟩
  have hi1 : (m : Int) - (a : Int) = (i0 : Int) := by omega
  have hj1 : (b : Int) - (m : Int) = (j0 : Int) := by omega
  have H0 := Lib.hid (show ∀ g, Rot (m - i0) m (m + j0) dk g → Rot a m b dk g from fun g hg => by rwa [show m - i0 = a by omega, show m + j0 = b by omega] at hg)
  have HIJ := Lib.hid (show 1 ≤ i0 ∧ 1 ≤ j0 ∧ i0 ≤ m ∧ m + j0 ≤ d0.size by omega)
  clear R h hs hi0 hj0
  go_enter L.rot, Try.ntmps85
  go_wp2_with fail
  clear hi1 hj1
  go_loopw [10, 11] (fun iv jv wr => ∃ (i j : Nat) (f : Array α), iv = .int .i64 (i : Int) ∧ jv = .int .i64 (j : Int) ∧ 1 ≤ i ∧ 1 ≤ j ∧ i ≤ m ∧ m + j ≤ d0.size ∧ SWK enc k w0 blk off f wr ∧ f.size = d0.size ∧ ∀ g, Rot (m - i) m (m + j) f g → Rot a m b dk g) (fun iv jv _ => (intOf iv).toNat + (intOf jv).toNat)
  case atStart => exact ⟨i0, j0, dk, rfl, rfl, HIJ.out.1, HIJ.out.2.1, HIJ.out.2.2.1, HIJ.out.2.2.2, HH.out, HS.out, H0.out⟩
  case round =>
    obtain ⟨i, j, f, rfl, rfl, hi, hj, him, hjb, hw, hf, hrot⟩ := hrel
    have HW := Lib.hid hw
    have HF := Lib.hid hf
    have HRT := Lib.hid hrot
    clear hw hrot
    have em : (m : Int) - (i : Int) = ((m - i : Nat) : Int) := by omega
    rcases Nat.lt_trichotomy i j with hij | hij | hij
    · have hne : ((i : Int) == (j : Int)) = false := by rw [beq_eq_false_iff_ne]; omega
      have hgt : ¬ (j : Int) < (i : Int) := by omega
      have hgt2 : ¬ j < i := by omega
      have e2 : (m : Int) + (j : Int) - (i : Int) = ((m + j - i : Nat) : Int) := by omega
      have e3 : (j : Int) - (i : Int) = ((j - i : Nat) : Int) := by omega
      have HE := Lib.hid (And.intro e2 e3)
      have HQ := Lib.hid (swap_any HL.out HR.out HF.out HW.out (m - i) (m + j - i) i fv (cap := cap) (by omega) (by have := HF.out; omega) hsz)
      clear hf
      go_wp2_with fail
      refine HQ.out.mono ?_
      rintro e w2 ⟨rfl, f2, h2, hf2, hs2⟩
      have HW2 := Lib.hid h2
      have HF2 := Lib.hid hf2
      have HS2 := Lib.hid hs2
      clear h2 hf2 hs2
      go_wp2_with fail
      refine ⟨⟨i, j - i, f2, rfl, rfl, hi, by omega, him, by omega, HW2.out, HF2.out, fun g hg => HRT.out g (rot_small him hij (by have := HF.out; omega) HS2.out hg)⟩, by simp [intOf]; omega⟩
    · have hne : ((i : Int) == (j : Int)) = true := by rw [beq_iff_eq]; omega
      have HQ := Lib.hid (swap_any HL.out HR.out HF.out HW.out (m - i) m i fv (cap := cap) (by omega) (by have := HF.out; omega) hsz)
      subst hij
      clear hf
      go_wp2_with fail
      refine HQ.out.mono ?_
      rintro e w2 ⟨rfl, f2, h2, hf2, hs2⟩
      have HW2 := Lib.hid h2
      have HF2 := Lib.hid hf2
      have HS2 := Lib.hid hs2
      clear h2 hf2 hs2
      go_wp2_with fail
      go_end0
      exact ⟨rfl, f2, HW2.out, HF2.out, HRT.out f2 (rot_same him HS2.out)⟩
    · have hne : ((i : Int) == (j : Int)) = false := by rw [beq_eq_false_iff_ne]; omega
      have hgt : (j : Int) < (i : Int) := by omega
      have hgt2 : j < i := by omega
      have e3 : (i : Int) - (j : Int) = ((i - j : Nat) : Int) := by omega
      have HQ := Lib.hid (swap_any HL.out HR.out HF.out HW.out (m - i) m j fv (cap := cap) (by omega) (by have := HF.out; omega) hsz)
      clear hf
      go_wp2_with fail
      refine HQ.out.mono ?_
      rintro e w2 ⟨rfl, f2, h2, hf2, hs2⟩
      have HW2 := Lib.hid h2
      have HF2 := Lib.hid hf2
      have HS2 := Lib.hid hs2
      clear h2 hf2 hs2
      go_wp2_with fail
      refine ⟨⟨i - j, j, f2, rfl, rfl, by omega, hj, by omega, hjb, HW2.out, HF2.out, fun g hg => HRT.out g (rot_big him hij (by have := HF.out; omega) HS2.out hg)⟩, by simp [intOf]; omega⟩
end Go.Proofs.Ytlcpackmoolngaa.Ss
