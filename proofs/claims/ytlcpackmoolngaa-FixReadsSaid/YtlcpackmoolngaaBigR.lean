/- fourwatchbig: right and small, of words. -/
import Derived.Test.YtlcpackmoolngaaBigB
import Derived.Test.YtlcpackmoolngaaRightLaw
import Derived.IntWalk
namespace Go.Proofs.Ytlcpackmoolngaa.BigW
open Go.RowKit Go.Proofs.Ytlcpackmoolngaa.Mem Go.Proofs.Ytlcpackmoolngaa.BigLaw
set_option linter.unusedVariables false

theorem or_high (x y : Nat) (hx : x < 4294967296) : bits .or .u64 (x : Int) ((y : Int) * 4294967296) = (x : Int) + (y : Int) * 4294967296 ∨ ¬ y < 4294967296 := by
  by_cases hy : y < 4294967296
  · exact .inl (or64 x y hx hy)
  · exact .inr hy

set_option maxHeartbeats 4000000 in
theorem right_any (A : Option Addr) (c : Nat) (l : List Nat) (n wd s : Nat) (B : Nat) (w : World) (hB : B ≤ w.heap.size) (h : Wd w B A c l) (hsz : l.length ≤ 1000000) (hn : n = 32 * wd + s) (hs : s < 32) (hw : wd ≤ 1000000) :
    Calls Try.prog 66 #[.slice A l.length c, .int .u64 (n : Int)] w fun e w' => GaveW w w' (val l / 2 ^ n) e := by
  have hq : (n : Int) / 32 = (wd : Int) := by omega
  have hr : (n : Int) % 32 = (s : Int) := by omega
  have HN := Lib.hid hn
  have H := Lib.hid h
  clear hn h
  by_cases hz : l.length ≤ wd
  · have HZ := Lib.hid (show val l / 2 ^ n = 0 by
      refine Nat.div_eq_of_lt (Nat.lt_of_lt_of_le (val_lt H.out.small) (Nat.le_trans (pw_le hz) ?_))
      rw [pw_two]
      exact Nat.pow_le_pow_right (by omega) (by have := HN.out; omega))
    have hlim : n ≤ 32000031 := by have := HN.out; omega
    go_enter Try.func66, Try.ntmps66
    go_wp2_with fail
    go_ret
    exact ⟨none, 0, [], rfl, Wd.nil _ _, fun h => by simp at h, by rw [HZ.out]; rfl, Below.refl _ _⟩
  · have hlim : n ≤ 32000031 := by have := HN.out; omega
    obtain ⟨m, hm⟩ : ∃ m, l.length = wd + m := ⟨l.length - wd, by omega⟩
    have hm0 : 0 < m := by omega
    have hm1 : m ≤ 1000000 := by omega
    have HM := Lib.hid hm
    clear hz hm
    have hml : (l.length : Int) = (wd : Int) + (m : Int) := by have := HM.out; omega
    rw [HM.out]
    have hwd0 : ¬ ((wd : Int) + (m : Int)) ≤ (wd : Int) := by omega
    clear hml
    have hmm : ((wd : Int) + (m : Int)) - (wd : Int) = (m : Int) := by omega
    go_enter Try.func66, Try.ntmps66
    go_wp2_with (refine wpList_make_row rfl _ _ _ rfl elemU32 m rfl rfl (by go_num) (by go_num) (by omega) (by omega) ?_)
    go_loopw [8] (fun i wr => ∃ k : Nat, k ≤ m ∧ i = .int .i64 k ∧ Blk wr w.heap.size 90 (rowF .u32 m fun j => if j < k then (dRight (fun i => l.getD (wd + i) 0) s j : Int) else 0) ∧ Below w.heap.size w wr) (fun i _ => m - (intOf i).toNat)
    case atStart => exact ⟨0, by omega, rfl, Blk.none (Blk.new rfl), (Below.refl _ _).alloc (Nat.le_refl _) _⟩
    case round =>
      obtain ⟨k, hk, rfl, hblk, hb⟩ := hrel
      by_cases hlt : k < m
      · obtain ⟨b, o, rfl, hbB, hcx⟩ := (H.out.keep (w' := wr) (fun b o hb' => below_cell hb b o (by omega))).at_ (show wd + k < l.length by have := HM.out; omega)
        have hx := getD_lt H.out.small (wd + k)
        have hcell := hblk.upto_cell hlt
        have hthaw := hblk.thaw k
        have HD := Lib.hid (show dRight (fun i => l.getD (wd + i) 0) s k = (l.getD (wd + k) 0 + l.getD (wd + (k + 1)) 0 * 4294967296) / 2 ^ s % 4294967296 from rfl)
        have hk1 : IntKind.i64.wrap ((k : Int) + (wd : Int)) = (k : Int) + (wd : Int) := IntWalk.i64_in _ (by omega)
        have hk2 : (0 : Int) ≤ (k : Int) + (wd : Int) := by omega
        have hk3 : (k : Int) + (wd : Int) < (wd : Int) + (m : Int) := by omega
        have hk4 : ((k : Int) + (wd : Int)).toNat = wd + k := by omega
        have hlt1 : (k : Int) < (m : Int) := by omega
        by_cases hlt2 : wd + k + 1 < l.length
        · obtain ⟨b', o', e, _, hcy⟩ := (H.out.keep (w' := wr) (fun b o hb' => below_cell hb b o (by omega))).at_ hlt2
          injection e with e
          injection e with e1 e2
          subst e1 e2
          have hy := getD_lt H.out.small (wd + (k + 1))
          rw [Nat.add_assoc wd k 1] at hcy
          generalize l.getD (wd + k) 0 = x at hcx hx HD
          generalize l.getD (wd + (k + 1)) 0 = y at hcy hy HD
          have hor := or64 x y hx hy
          have hk5 : (k : Int) + (wd : Int) + 1 < (wd : Int) + (m : Int) := by have := HM.out; omega
          have hk6 : ((k : Int) + (wd : Int) + 1).toNat = wd + (k + 1) := by omega
          have HV := Lib.hid (show ((x : Int) + (y : Int) * 4294967296) / 2 ^ s = (((x + y * 4294967296) / 2 ^ s : Nat) : Int) by
            rw [Int.natCast_ediv, Int.natCast_add, Int.natCast_mul, Int.natCast_pow]; rfl)
          clear hlt2
          go_wp2_with fail
          refine ⟨⟨k + 1, by omega, by go_num, hblk.upto (by rw [HD.out, HV.out, Int.natCast_emod]; rfl), hb.setCell (Nat.le_refl _) _⟩, by simp [intOf]; omega⟩
        · have HY := Lib.hid (getD_out (l := l) (i := wd + (k + 1)) (by omega))
          generalize l.getD (wd + k) 0 = x at hcx hx HD
          rw [HY.out] at HD
          have hk5 : ¬ (k : Int) + (wd : Int) + 1 < (wd : Int) + (m : Int) := by have := HM.out; omega
          have HV := Lib.hid (show (x : Int) / 2 ^ s = ((x / 2 ^ s : Nat) : Int) by
            rw [Int.natCast_ediv, Int.natCast_pow]; rfl)
          clear hlt2
          go_wp2_with fail
          refine ⟨⟨k + 1, by omega, by go_num, hblk.upto (by rw [HD.out, HV.out, Nat.zero_mul, Nat.add_zero, Int.natCast_emod]; rfl), hb.setCell (Nat.le_refl _) _⟩, by simp [intOf]; omega⟩
      · obtain rfl : k = m := by omega
        have hblk2 := hblk.all
        have hg := hblk2.lt
        have HW := Lib.hid (wd_of_blk hblk2 (by omega) (fun i _ => Nat.mod_lt _ (by omega)))
        have HV := Lib.hid (show val ((List.range k).map (dRight (fun i => l.getD (wd + i) 0) s)) = val l / 2 ^ n by
          rw [val_map, HN.out, ← right_words l H.out.small hs (show wd ≤ l.length by have := HM.out; omega)]
          congr 1
          have := HM.out; omega)
        have hT := trim_any _ _ _ _ _ HW.out
        rw [List.length_map, List.length_range] at hT
        have HT := Lib.hid hT
        clear hlt hT
        go_wp2_with fail
        refine HT.out.mono ?_
        rintro e w' ⟨ht, rfl⟩
        obtain ⟨A, c, l1, rfl, h2⟩ := gave_of_trim (n := val l / 2 ^ n) HW.out (by omega) hb HV.out ht
        have H2 := Lib.hid h2
        clear h2 ht
        go_wp2_with fail
        go_ret
        exact ⟨A, c, l1, rfl, H2.out⟩

/-- words and a word -/
def GaveS (w w' : World) (q r : Nat) (e : Ending) : Prop := ∃ A c l, e = .returned (.tuple #[.slice A l.length c, .int .u32 (r : Int)]) ∧ Wd w' w'.heap.size A c l ∧ trimd l ∧ val l = q ∧ Below w.heap.size w w'

set_option maxHeartbeats 4000000 in
theorem small_any (A : Option Addr) (c : Nat) (l : List Nat) (d : Nat) (B : Nat) (w : World) (hB : B ≤ w.heap.size) (h : Wd w B A c l) (hsz : l.length ≤ 1000000) (hd : 0 < d) (hd2 : d < 4294967296) :
    Calls Try.prog 83 #[.slice A l.length c, .int .u32 (d : Int)] w fun e w' => GaveS w w' (val l / d) (val l % d) e := by
  have H := Lib.hid h
  clear h
  go_enter Try.func83, Try.ntmps83
  go_wp2_with (refine wpList_make_row rfl _ _ _ rfl elemU32 l.length rfl rfl (by go_num) (by go_num) (by omega) (by omega) ?_)
  go_loopw [7, 8] (fun r i wr => ∃ k : Nat, k ≤ l.length ∧ i = .int .i64 ((k : Int) - 1) ∧ r = .int .u64 (hiV l k % d : Nat) ∧ Blk wr w.heap.size 90 (rowF .u32 l.length fun j => if j < k then 0 else (smallQ l d j : Int)) ∧ Below w.heap.size w wr) (fun _ i _ => (intOf i + 1).toNat)
  case atStart =>
    refine ⟨l.length, Nat.le_refl _, rfl, by rw [hiV_end, Nat.zero_mod]; rfl, ?_, (Below.refl _ _).alloc (Nat.le_refl _) _⟩
    rw [rowF_congr (g := fun _ => 0) (fun i hi => if_pos hi)]
    exact Blk.new rfl
  case round =>
    obtain ⟨k, hk, rfl, rfl, hblk, hb⟩ := hrel
    have hrl : hiV l k % d < d := Nat.mod_lt _ hd
    by_cases hpos : 0 < k
    · obtain ⟨q, rfl⟩ : ∃ q, k = q + 1 := ⟨k - 1, by omega⟩
      rw [show ((q + 1 : Nat) : Int) - 1 = (q : Int) by omega]
      obtain ⟨b, o, rfl, hbB, hcx⟩ := (H.out.keep (w' := wr) (fun b o hb' => below_cell hb b o (by omega))).at_ (show q < l.length by omega)
      have hx := getD_lt H.out.small q
      have hcell := hblk.cell q
      rw [rowF_at _ _ _ _ (by omega), if_pos (by omega)] at hcell
      have hthaw := hblk.thaw q
      have hQ := smallQ_lt H.out.small hd q
      have HQ := Lib.hid (show smallQ l d q = (hiV l (q + 1) % d * 4294967296 + l.getD q 0) / d from rfl)
      have HR := Lib.hid (small_rest l d (show q < l.length by omega))
      have HB := Lib.hid (show (rowF .u32 l.length fun j => if j < q + 1 then 0 else (smallQ l d j : Int)).setIfInBounds q (.int .u32 (smallQ l d q : Nat)) = rowF .u32 l.length fun j => if j < q then 0 else (smallQ l d j : Int) from rowF_set fun i hi => by
        by_cases e : i = q
        · subst e; rw [if_pos rfl, if_neg (by omega)]
        · rw [if_neg e]
          by_cases h1 : i < q
          · rw [if_pos h1, if_pos (by omega)]
          · rw [if_neg h1, if_neg (by omega)])
      generalize hiV l (q + 1) % d = r at hrl HQ HR
      generalize l.getD q 0 = x at hcx hx HQ HR
      have hor := or64 x r hx (by omega)
      have hor2 : bits .or .u64 ((r : Int) * 4294967296) (x : Int) = ((r * 4294967296 + x : Nat) : Int) := by
        have h := u64_or_nat (r * 4294967296) x (by omega) (by omega)
        rw [Nat.or_comm, or_low x (r * 4294967296) 32 (by omega) (by omega)] at h
        have e : ((r * 4294967296 : Nat) : Int) = (r : Int) * 4294967296 := by omega
        rw [e] at h
        exact h
      clear hor
      generalize hX : r * 4294967296 + x = X at hor2 HQ HR
      have hXl : X < 18446744073709551616 := by omega
      have hd0 : ¬ (d : Int) = 0 := by omega
      have hd1 : ¬ d = 0 := by omega
      have hq : IntKind.u64.wrap ((X : Int) / (d : Int)) = ((X / d : Nat) : Int) := by
        have e : (X : Int) / (d : Int) = ((X / d : Nat) : Int) := rfl
        have := Nat.div_le_self X d
        rw [e, u64wrap]; generalize X / d = Q at this ⊢; omega
      have hr : (X : Int).tmod (d : Int) = ((X % d : Nat) : Int) := rfl
      rw [HQ.out] at hQ
      have HX := Lib.hid hX
      generalize hQQ : X / d = Q at hq hQ HQ
      generalize hRR : X % d = R at hr HR
      have HQQ := Lib.hid (And.intro hQQ hRR)
      clear hX hQQ hRR
      go_wp2_with fail
      refine ⟨⟨q, by omega, rfl, by rw [HR.out], ?_, hb.setCell (Nat.le_refl _) _⟩, by simp [intOf]⟩
      rw [← HB.out, HQ.out]
      exact hblk.set _ _
    · obtain rfl : k = 0 := by omega
      have hblk2 : Blk wr w.heap.size 90 (rowF .u32 l.length fun j => (smallQ l d j : Int)) := by
        rw [← rowF_congr (f := fun j => if j < 0 then 0 else (smallQ l d j : Int)) (fun i hi => if_neg (by omega))]; exact hblk
      have hg := hblk2.lt
      have HW := Lib.hid (wd_of_blk hblk2 (by omega) (fun i _ => smallQ_lt H.out.small hd i))
      have HV := Lib.hid (show val ((List.range l.length).map (smallQ l d)) = val l / d by rw [val_map, small_all l hd])
      have hT := trim_any _ _ _ _ _ HW.out
      rw [List.length_map, List.length_range] at hT
      have HT := Lib.hid hT
      rw [hiV_all] at hrl ⊢
      generalize hR : val l % d = r at hrl ⊢
      have HR := Lib.hid hR
      clear hpos hT hR
      go_wp2_with fail
      refine HT.out.mono ?_
      rintro e w' ⟨ht, rfl⟩
      obtain ⟨A, c, l1, rfl, h2⟩ := gave_of_trim (n := val l / d) HW.out (by omega) hb HV.out ht
      have H2 := Lib.hid h2
      clear h2 ht
      go_wp2_with fail
      go_ret2
      exact ⟨A, c, l1, by rw [HR.out]; rfl, H2.out⟩
end Go.Proofs.Ytlcpackmoolngaa.BigW
