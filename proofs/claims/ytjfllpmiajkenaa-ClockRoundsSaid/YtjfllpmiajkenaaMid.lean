/- Contracts: slices.Sorted of slices.Values; clock.Middle. -/
import Derived.Lib.SlKeysI
import Derived.Test.YtjfllpmiajkenaaSortLay
import Derived.Test.YtjfllpmiajkenaaSorted
import Derived.Test.YtjfllpmiajkenaaMidR
import Derived.BigQuiet
namespace Go.Proofs.Ytjfllpmiajkenaa.Md
open Go.RowKit Go.Sort Go.Shelf Go.Proofs.Ytjfllpmiajkenaa.Mem Go.Proofs.Ytjfllpmiajkenaa.Ms
set_option linter.unusedVariables false

theorem sort_any (g : Nat) (c : Nat) (zs : List Int) (w : World) (hl : zs.length ≤ 1000) (hH : Holds (Value.int .i64) w g 0 zs.toArray) (hg : g < w.heap.size) :
    Calls Try.prog 93 #[.slice (some ⟨g, 0, none⟩) zs.length c] w fun e w' => e = .returned (.tuple #[]) ∧ ∃ n os, w' = grow (putRow (Value.int .i64) (Sort.ahead w n) g 0 (srt zs).toArray) os :=
  AnyM.slices_Sort_int Sl.sort_lay g 0 c zs w hH hg (by omega)

set_option maxRecDepth 100000 in
set_option maxHeartbeats 1000000 in
theorem sorted_any (A : Option Addr) (cap : Nat) (zs : List Int) (hl : zs.length ≤ 1000) (h0 : 0 < zs.length) (Bs : Nat) (w : World) (hBs : Bs < w.heap.size) (cs : w.cell? ⟨Bs, 0, none⟩ = some (.slice A zs.length cap)) (hr : Rd w w.heap.size 1 A zs.length (intsV zs)) :
    Calls Try.prog 66 #[.func (.func 94) #[] #[.pointer (some ⟨Bs, 0, none⟩)]] w fun e w' => ∃ g c, e = .returned (.slice (some ⟨g, 0, none⟩) zs.length c) ∧ zs.length ≤ c ∧ c ≤ maxLen ∧ w.heap.size ≤ g ∧ (∀ j, j < zs.length → w'.cell? ⟨g, j, none⟩ = some (.int .i64 ((srt zs).getD j 0))) ∧ Below w.heap.size w w' := by
  have C := Lib.hid (So.collect_any A cap zs hl Bs w hBs cs hr)
  clear cs hr
  go_enter Try.func66, Try.ntmps66
  go_wp2_with fail
  refine C.out.mono ?_
  rintro e w1 ⟨A1, c1, rfl, hown, hb⟩
  obtain ⟨_, ⟨_, hz⟩ | ⟨gb, cp, cur, hv, hbase, hgb, r1, r2, r3, r4⟩⟩ := hown
  · omega
  cases hv
  have hH : Holds encZ w1 gb 0 zs.toArray := holds_of_block_i hgb (by rw [Nat.mul_one] at r4; exact r4)
  have C2 := Lib.hid (sort_any gb c1 zs w1 hl hH (Array.getElem?_eq_some_iff.1 hgb).1)
  have HO := Lib.hid (fun (n : Nat) (os : Array Obj) => ownsRow_sorted_i (n := n) (os := os) (ts := srt zs) (srt_len zs) hbase hgb r1 r2 r3)
  have HG := Lib.hid (fun (n : Nat) (os : Array Obj) => grownBy_sorted_i (w := w1) (g := gb) (n := n) (os := os) (srt zs).toArray)
  have HB := Lib.hid hb
  have HX := Lib.hid (And.intro hbase (And.intro r1 r2))
  clear hH hgb hb hbase r1 r2 r3 r4 C
  go_wp2_with fail
  refine C2.out.mono ?_
  rintro e w2 ⟨rfl, n, os, rfl⟩
  have HO := Lib.hid (HO.out n os)
  have HB := Lib.hid (HB.out.grown (HG.out n os) HB.out.size (fun j hj => by cases hj; exact HX.out.1))
  have HE := Lib.hid (show encZ = Value.int .i64 from rfl)
  clear C2 HG
  rw [HE.out] at HO HB
  generalize (grow (putRow (Value.int .i64) (Sort.ahead w1 n) gb 0 (srt zs).toArray) os) = w2 at *
  go_wp2_with fail
  go_ret
  refine ⟨gb, c1, rfl, HX.out.2.1, HX.out.2.2, HX.out.1, fun j hj => ?_, HB.out⟩
  have h := HO.out.cells (g := gb) (j := j) rfl (u := .int .i64 ((srt zs).getD j 0)) (by
    rw [List.getElem?_map, List.getD_eq_getElem?_getD, List.getElem?_eq_getElem (by rw [srt_len]; exact hj)]
    rfl)
  have e : (⟨gb, 0, none⟩ : Addr).add j = ⟨gb, j, none⟩ := by unfold Addr.add; split <;> simp_all
  rwa [e] at h

set_option maxRecDepth 100000 in
set_option maxHeartbeats 1000000 in
theorem middle_any (A : Option Addr) (c : Nat) (zs : List Int) (B : Nat) (w : World) (hB : B ≤ w.heap.size) (hl : zs.length ≤ 140737488355328) (ho : ∀ z ∈ zs, -9223372036854775808 ≤ z ∧ z ≤ 9223372036854775807) (hr : Rd w B 1 A zs.length (intsV zs)) :
    Calls Try.prog 25 #[.slice A zs.length c] w fun e w' => e = .returned (.tuple #[.int .i64 (midZ zs).1, .int .i64 (midZ zs).2]) ∧ Below w.heap.size w w' := by
  have HR := Lib.hid hr
  have HO := Lib.hid ho
  have HZ := Lib.hid (show midZ zs = if zs.length = 0 ∨ 64 < zs.length then (0, 8) else (midOf zs, 0) from rfl)
  clear hr ho
  by_cases h0 : zs.length < 1
  · have hz := HZ.out.trans (if_pos (.inl (by omega)))
    have h0' : ((zs.length : Int) == 0) = true := beq_iff_eq.2 (by omega)
    have HZ2 := Lib.hid hz
    clear hz HZ h0
    go_enter Try.func25, Try.ntmps25
    go_wp2_with fail
    go_ret2
    exact ⟨by rw [HZ2.out]; rfl, Below.refl _ _⟩
  have h0' : ((zs.length : Int) == 0) = false := beq_eq_false_iff_ne.2 (by omega)
  by_cases h1 : 64 < zs.length
  · have hz := HZ.out.trans (if_pos (.inr h1))
    have h1' : (64 : Int) < (zs.length : Int) := by omega
    have HZ2 := Lib.hid hz
    clear hz HZ h0 h1
    go_enter Try.func25, Try.ntmps25
    go_wp2_with fail
    go_ret2
    exact ⟨by rw [HZ2.out]; rfl, Below.refl _ _⟩
  have HZ2 := Lib.hid (HZ.out.trans (if_neg (by omega)))
  have h1' : (zs.length : Int) ≤ 64 := by omega
  obtain ⟨k, hk⟩ : ∃ k : Nat, (zs.length - 1) / 3 = k := ⟨_, rfl⟩
  obtain ⟨q, hq⟩ : ∃ q : Nat, zs.length - k = q := ⟨_, rfl⟩
  obtain ⟨m, hm⟩ : ∃ m : Nat, q - k = m := ⟨_, rfl⟩
  obtain ⟨r, hr⟩ : ∃ r : Nat, m - 1 = r := ⟨_, rfl⟩
  have e1 : ((zs.length : Int) - 1) / 3 = (k : Int) := by omega
  have e2 : (zs.length : Int) - (k : Int) = (q : Int) := by omega
  have e3 : (m : Int) - 1 = (r : Int) := by omega
  have hkr : k + r = zs.length - 1 - k := by omega
  have HM := Lib.hid (show midOf zs = ((srt zs).getD k 0 + (srt zs).getD (k + r) 0) / 2 by unfold midOf; rw [hk, hkr])
  have X1 := Lib.hid (HO.out _ (srt_mem (l := zs) (k := k) (by omega)))
  have X2 := Lib.hid (HO.out _ (srt_mem (l := zs) (k := k + r) (by omega)))
  have XN := Lib.hid (show k < zs.length ∧ k + r < zs.length by omega)
  have a1 : (0 : Int) ≤ (k : Int) := by omega
  have a2 : (k : Int) ≤ (q : Int) := by omega
  have a3 : (q : Int) ≤ (zs.length : Int) := by omega
  have a4 : (1 : Int) ≤ (m : Int) := by omega
  have a5 : (0 : Int) ≤ (r : Int) := by omega
  have a6 : (r : Int) < (m : Int) := by omega
  have a8 : (m : Int) ≤ 64 := by omega
  have HQ := Lib.hid hm
  have hzl : zs.length ≤ 1000 := by omega
  have hzp : 0 < zs.length := by omega
  have CS := Lib.hid (fun w1 (hb : Below w.heap.size w w1) (Bs : Nat) (h1 : Bs < w1.heap.size) (h2 : w1.cell? ⟨Bs, 0, none⟩ = some (.slice A zs.length c)) => sorted_any A c zs hzl hzp Bs w1 h1 h2 ((HR.out.below (hb.mono hB)).more (Nat.le_trans hB hb.size)))
  clear hk hq hr hm h0 h1 HZ hkr hzl hzp
  go_enter Try.func25, Try.ntmps25
  go_wp2_with fail
  refine (So.values_any A zs.length c w).mono ?_
  rintro e w' ⟨rfl, rfl⟩
  have HB := Lib.hid ((Below.refl w.heap.size w).alloc (Nat.le_refl _) (.cells #[.slice A zs.length c] 39))
  have C := Lib.hid (CS.out _ HB.out w.heap.size (by simp) (by rw [(Blk.fresh w 39 #[.slice A zs.length c]).cell]; rfl))
  clear CS
  go_wp2_with fail
  refine C.out.mono ?_
  rintro e w2 ⟨g, cc, rfl, hc1, hc2, hg, hcell, hb2⟩
  have HB := Lib.hid (onward HB.out (Nat.le_refl _) hb2)
  have c1 := hcell k XN.out.1
  have c2 := hcell (k + r) XN.out.2
  have hck : ¬ cc = k := by have := XN.out.1; omega
  have a7 : (q : Int) ≤ (cc : Int) := by omega
  clear hcell hb2 hg C
  go_upto_region 6 with fail
  rw [HQ.out]
  generalize (srt zs).getD k 0 = x at *
  generalize (srt zs).getD (k + r) 0 = y at *
  have CH := Lib.hid (fun v => half_any x y v X1.out X2.out)
  have b0 : (0 : Int) < (m : Int) := by omega
  have b1 : 0 < m := by omega
  have b2 : IntKind.i64.wrap ((m : Int) - 1) = (r : Int) := by rw [e3, IntKind.wrap_i64]; omega
  have b3 : ((r : Int)).toNat = r := by simp
  have b4 : IntKind.i64.wrap (r : Int) = (r : Int) := by rw [IntKind.wrap_i64]; omega
  go_quiet (first | (go_at_call 68; exact Calls.quiet_of_same ((CH.out _).mono fun _ _ h => ⟨h.1, h.2.symm⟩)))
  go_wp2_with fail
  go_ret2
  exact ⟨by rw [HZ2.out, HM.out]; rfl, below_drewN HB.out _⟩
end Go.Proofs.Ytjfllpmiajkenaa.Md
