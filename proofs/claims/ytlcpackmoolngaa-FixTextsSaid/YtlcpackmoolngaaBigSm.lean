/- fourwatchbig.Int: small, and where its words lie. -/
import Derived.Test.YtlcpackmoolngaaBigR
import Derived.Deep.CutBlock
import Derived.Deep.DeepCutAuto
namespace Go.Proofs.Ytlcpackmoolngaa.BigW
open Go.RowKit Go.Proofs.Ytlcpackmoolngaa.Mem Go.Proofs.Ytlcpackmoolngaa.BigLaw
set_option linter.unusedVariables false

/-- words in a row of the call's own, made first of all, and a word -/
def GaveF (w w' : World) (q r : Nat) (e : Ending) : Prop := ∃ c l, e = .returned (.tuple #[.slice (some ⟨w.heap.size, 0, none⟩) l.length c, .int .u32 (r : Int)]) ∧ Wd w' (w.heap.size + 1) (some ⟨w.heap.size, 0, none⟩) c l ∧ trimd l ∧ val l = q ∧ Below w.heap.size w w'

set_option maxHeartbeats 4000000 in
theorem smallF_any (A : Option Addr) (c : Nat) (l : List Nat) (d : Nat) (B : Nat) (w : World) (hB : B ≤ w.heap.size) (h : Wd w B A c l) (hsz : l.length ≤ 1000000) (hd : 0 < d) (hd2 : d < 4294967296) :
    Calls Try.prog 83 #[.slice A l.length c, .int .u32 (d : Int)] w fun e w' => GaveF w w' (val l / d) (val l % d) e := by
  have H := Lib.hid h
  clear h
  go_enter Try.func83, Try.ntmps83
  go_wp2_with (refine wpList_make_row rfl _ _ _ rfl elemU32 l.length rfl rfl (by go_num) (by go_num) (by omega) (by omega) ?_)
  go_loopw [7, 8] (fun r i wr => ∃ k : Nat, k ≤ l.length ∧ i = .int .i64 ((k : Int) - 1) ∧ r = .int .u64 (hiV l k % d : Nat) ∧ Blk wr w.heap.size 90 (rowF .u32 l.length fun j => if j < k then 0 else (smallQ l d j : Int)) ∧ Below w.heap.size w wr) (fun _ i _ => (intOf i + 1).toNat)
  case atStart =>
    refine ⟨l.length, Nat.le_refl _, rfl, by rw [hiV_end, Nat.zero_mod]; rfl, ?_, (Below.refl _ _).alloc (Nat.le_refl _) _⟩
    rw [rowF_congr (g := fun _ => 0) (fun i hi => if_pos hi)]
    exact Blk.new rfl
  case round =>
    obtain ⟨k, hk, rfl, rfl, hblk, hb⟩ := hrel
    have hrl : hiV l k % d < d := Nat.mod_lt _ hd
    by_cases hpos : 0 < k
    · obtain ⟨q, rfl⟩ : ∃ q, k = q + 1 := ⟨k - 1, by omega⟩
      rw [show ((q + 1 : Nat) : Int) - 1 = (q : Int) by omega]
      obtain ⟨b, o, rfl, hbB, hcx⟩ := (H.out.keep (w' := wr) (fun b o hb' => below_cell hb b o (by omega))).at_ (show q < l.length by omega)
      have hx := getD_lt H.out.small q
      have hcell := hblk.cell q
      rw [rowF_at _ _ _ _ (by omega), if_pos (by omega)] at hcell
      have hthaw := hblk.thaw q
      have hQ := smallQ_lt H.out.small hd q
      have HQ := Lib.hid (show smallQ l d q = (hiV l (q + 1) % d * 4294967296 + l.getD q 0) / d from rfl)
      have HR := Lib.hid (small_rest l d (show q < l.length by omega))
      have HB := Lib.hid (show (rowF .u32 l.length fun j => if j < q + 1 then 0 else (smallQ l d j : Int)).setIfInBounds q (.int .u32 (smallQ l d q : Nat)) = rowF .u32 l.length fun j => if j < q then 0 else (smallQ l d j : Int) from rowF_set fun i hi => by
        by_cases e : i = q
        · subst e; rw [if_pos rfl, if_neg (by omega)]
        · rw [if_neg e]
          by_cases h1 : i < q
          · rw [if_pos h1, if_pos (by omega)]
          · rw [if_neg h1, if_neg (by omega)])
      generalize hiV l (q + 1) % d = r at hrl HQ HR
      generalize l.getD q 0 = x at hcx hx HQ HR
      have hor := or64 x r hx (by omega)
      have hor2 : bits .or .u64 ((r : Int) * 4294967296) (x : Int) = ((r * 4294967296 + x : Nat) : Int) := by
        have h := u64_or_nat (r * 4294967296) x (by omega) (by omega)
        rw [Nat.or_comm, or_low x (r * 4294967296) 32 (by omega) (by omega)] at h
        have e : ((r * 4294967296 : Nat) : Int) = (r : Int) * 4294967296 := by omega
        rw [e] at h
        exact h
      clear hor
      generalize hX : r * 4294967296 + x = X at hor2 HQ HR
      have hXl : X < 18446744073709551616 := by omega
      have hd0 : ¬ (d : Int) = 0 := by omega
      have hd1 : ¬ d = 0 := by omega
      have hq : IntKind.u64.wrap ((X : Int) / (d : Int)) = ((X / d : Nat) : Int) := by
        have e : (X : Int) / (d : Int) = ((X / d : Nat) : Int) := rfl
        have := Nat.div_le_self X d
        rw [e, u64wrap]; generalize X / d = Q at this ⊢; omega
      have hr : (X : Int).tmod (d : Int) = ((X % d : Nat) : Int) := rfl
      rw [HQ.out] at hQ
      have HX := Lib.hid hX
      generalize hQQ : X / d = Q at hq hQ HQ
      generalize hRR : X % d = R at hr HR
      have HQQ := Lib.hid (And.intro hQQ hRR)
      clear hX hQQ hRR
      go_wp2_with fail
      refine ⟨⟨q, by omega, rfl, by rw [HR.out], ?_, hb.setCell (Nat.le_refl _) _⟩, by simp [intOf]⟩
      rw [← HB.out, HQ.out]
      exact hblk.set _ _
    · obtain rfl : k = 0 := by omega
      have hblk2 : Blk wr w.heap.size 90 (rowF .u32 l.length fun j => (smallQ l d j : Int)) := by
        rw [← rowF_congr (f := fun j => if j < 0 then 0 else (smallQ l d j : Int)) (fun i hi => if_neg (by omega))]; exact hblk
      have hg := hblk2.lt
      have HW := Lib.hid (wd_of_blk hblk2 (by omega) (fun i _ => smallQ_lt H.out.small hd i))
      have HV := Lib.hid (show val ((List.range l.length).map (smallQ l d)) = val l / d by rw [val_map, small_all l hd])
      have hT := trim_any _ _ _ _ _ HW.out
      rw [List.length_map, List.length_range] at hT
      have HT := Lib.hid hT
      rw [hiV_all] at hrl ⊢
      generalize hR : val l % d = r at hrl ⊢
      have HR := Lib.hid hR
      clear hpos hT hR
      go_wp2_with fail
      refine HT.out.mono ?_
      rintro e w' ⟨⟨n, hn, rfl, ht1, ht2⟩, rfl⟩
      have HW2 := Lib.hid (HW.out.take hn)
      have HL2 := Lib.hid (show (((List.range l.length).map (smallQ l d)).take n).length = n by rw [List.length_take]; omega)
      have HT2 := Lib.hid ht1
      have HV2 := Lib.hid (ht2.trans HV.out)
      generalize ((List.range l.length).map (smallQ l d)).take n = l2 at HW2 HL2 HT2 HV2
      have hl2 := HL2.out
      clear ht1 ht2 hn HW HV
      subst hl2
      go_wp2_with fail
      go_ret2
      exact ⟨_, l2, by rw [HR.out]; rfl, HW2.out, HT2.out, HV2.out, hb⟩
end Go.Proofs.Ytlcpackmoolngaa.BigW
