/- fourwatchbig: mul of words, and Mul. -/
import Derived.Test.YtlcpackmoolngaaBigS
import Derived.Test.YtlcpackmoolngaaMulLaw
import Derived.Deep.RegionLaw
import Derived.IntWalk
namespace Go.Proofs.Ytlcpackmoolngaa.BigW
open Go.RowKit Go.Proofs.Ytlcpackmoolngaa.Mem Go.Proofs.Ytlcpackmoolngaa.BigLaw
set_option linter.unusedVariables false

/-- the words in the midst of a round -/
def mulM (f g : Nat → Nat) (x k j p : Nat) : Nat := if p < k then f p else if p < k + j then macD (fun i => f (k + i)) g x (p - k) else f p
theorem mulM_zero (f g : Nat → Nat) (x k n : Nat) : rowF .u32 n (fun p => (f p : Int)) = rowF .u32 n (fun p => (mulM f g x k 0 p : Int)) :=
  rowF_congr fun i hi => by unfold mulM; split; rfl; rw [if_neg (by omega)]
theorem mulM_step (f g : Nat → Nat) (x k j n : Nat) : (rowF .u32 n fun p => (mulM f g x k j p : Int)).setIfInBounds (k + j) (.int .u32 (macD (fun i => f (k + i)) g x j : Nat)) = rowF .u32 n fun p => (mulM f g x k (j + 1) p : Int) := by
  refine rowF_set fun i hi => ?_
  unfold mulM
  by_cases e : i = k + j
  · subst e
    rw [if_pos rfl, if_neg (by omega), if_pos (by omega), show k + j - k = j by omega]
  · rw [if_neg e]
    by_cases h0 : i < k
    · rw [if_pos h0, if_pos h0]
    · rw [if_neg h0, if_neg h0]
      by_cases h1 : i < k + j
      · rw [if_pos h1, if_pos (by omega)]
      · rw [if_neg h1, if_neg (by omega)]
theorem mulM_end (f g : Nat → Nat) (x k m n : Nat) : (rowF .u32 n fun p => (mulM f g x k m p : Int)).setIfInBounds (k + m) (.int .u32 (macC (fun i => f (k + i)) g x m : Nat)) = rowF .u32 n fun p => (mulF f g x k m p : Int) := by
  refine rowF_set fun i hi => ?_
  unfold mulM mulF
  by_cases e : i = k + m
  · subst e
    rw [if_pos rfl, if_neg (by omega), if_neg (by omega), if_pos rfl]
  · rw [if_neg e, if_neg e]
theorem mac_div (c x y z : Nat) : ((c : Int) + ((x : Int) * (y : Int) + (z : Int))) / 4294967296 = (((c + (x * y + z)) / 4294967296 : Nat) : Int) := by
  have : ((x * y : Nat) : Int) = (x : Int) * (y : Int) := Int.natCast_mul _ _
  omega
theorem mac_mod (c x y z : Nat) : ((c : Int) + ((x : Int) * (y : Int) + (z : Int))) % 4294967296 = (((c + (x * y + z)) % 4294967296 : Nat) : Int) := by
  have : ((x * y : Nat) : Int) = (x : Int) * (y : Int) := Int.natCast_mul _ _
  omega
theorem mulM_at (f g : Nat → Nat) (x k j : Nat) : mulM f g x k j (k + j) = f (k + j) := by
  unfold mulM; rw [if_neg (by omega), if_neg (by omega)]

set_option maxRecDepth 100000 in
set_option maxHeartbeats 4000000 in
theorem mul_any (A A' : Option Addr) (c c' : Nat) (l l' : List Nat) (B : Nat) (w : World) (hB : B ≤ w.heap.size) (h : Wd w B A c l) (h' : Wd w B A' c' l') (hsz : l.length ≤ 1000000) (hsz' : l'.length ≤ 1000000) :
    Calls Try.prog 64 #[.slice A l.length c, .slice A' l'.length c'] w fun e w' => GaveW w w' (val l * val l') e := by
  have H := Lib.hid h
  have H' := Lib.hid h'
  clear h h'
  by_cases hz : l.length = 0
  · have hz' : ((l.length : Int) == 0) = true := by simp [hz]
    have HZ := Lib.hid (show val l = 0 by rw [List.eq_nil_of_length_eq_zero hz]; rfl)
    clear hz
    go_enter Try.func64, Try.ntmps64
    go_wp2_with fail
    go_ret
    exact ⟨none, 0, [], rfl, Wd.nil _ _, fun h => by simp at h, by rw [HZ.out, Nat.zero_mul]; rfl, Below.refl _ _⟩
  have hz1 : ((l.length : Int) == 0) = false := by rw [beq_eq_false_iff_ne]; omega
  by_cases hz' : l'.length = 0
  · have hz2 : ((l'.length : Int) == 0) = true := by simp [hz']
    have HZ := Lib.hid (show val l' = 0 by rw [List.eq_nil_of_length_eq_zero hz']; rfl)
    clear hz hz'
    go_enter Try.func64, Try.ntmps64
    go_wp2_with fail
    go_ret
    exact ⟨none, 0, [], rfl, Wd.nil _ _, fun h => by simp at h, by rw [HZ.out, Nat.mul_zero]; rfl, Below.refl _ _⟩
  have hz2 : ((l'.length : Int) == 0) = false := by rw [beq_eq_false_iff_ne]; omega
  clear hz hz'
  go_enter Try.func64, Try.ntmps64
  go_wp2_with (refine wpList_make_row rfl _ _ _ rfl elemU32 (l.length + l'.length) rfl rfl (by go_num) (by go_num) (by omega) (by omega) ?_)
  go_loopw [6] (fun i wr => ∃ (k : Nat) (f : Nat → Nat), k ≤ l.length ∧ i = .int .i64 k ∧ Hid ((∀ p, f p < 4294967296) ∧ (∀ p, k + l'.length ≤ p → f p = 0) ∧ valF f (k + l'.length) = valF (fun i => l.getD i 0) k * val l') ∧ Blk wr w.heap.size 90 (rowF .u32 (l.length + l'.length) fun j => (f j : Int)) ∧ Below w.heap.size w wr) (fun i _ => l.length - (intOf i).toNat)
  case atStart => exact ⟨0, fun _ => 0, by omega, rfl, Lib.hid ⟨fun _ => Nat.zero_lt_succ _, fun _ _ => rfl, by rw [valF_zeros (a := 0) (Nat.zero_le _) (fun _ _ _ => rfl)]; simp [valF]⟩, Blk.new rfl, (Below.refl _ _).alloc (Nat.le_refl _) _⟩
  case round =>
    obtain ⟨k, f, hk, rfl, hf, hblk, hb⟩ := hrel
    by_cases hlt : k < l.length
    · obtain ⟨b, o, rfl, hbB, hcx⟩ := (H.out.keep (w' := wr) (fun b o hb' => below_cell hb b o (by omega))).at_ hlt
      have hx := getD_lt H.out.small k
      have HX := Lib.hid (show valF (fun i => l.getD i 0) (k + 1) = valF (fun i => l.getD i 0) k + l.getD k 0 * pw k from rfl)
      have HCX := Lib.hid (show ∀ wr', Below w.heap.size w wr' → wr'.cell? ⟨b, o + k, none⟩ = some (.int .u32 (l.getD k 0 : Int)) from fun wr' hb' => by
        obtain ⟨b', o', e, _, h⟩ := (H.out.keep (w' := wr') (fun b o hb'' => below_cell hb' b o (by omega))).at_ hlt
        injection e with e; injection e with e1 e2; subst e1 e2; exact h)
      generalize l.getD k 0 = x at hcx hx HX HCX
      have hlt1 : (k : Int) < (l.length : Int) := by omega
      clear hcx
      go_wp2_with fail
      go_loopw [7, 8] (fun c j wr => ∃ j' : Nat, j' ≤ l'.length ∧ j = .int .i64 j' ∧ c = .int .u64 (macC (fun i => f (k + i)) (fun i => l'.getD i 0) x j' : Nat) ∧ Blk wr w.heap.size 90 (rowF .u32 (l.length + l'.length) fun p => (mulM f (fun i => l'.getD i 0) x k j' p : Int)) ∧ Below w.heap.size w wr) (fun _ j _ => l'.length - (intOf j).toNat)
      case atStart => exact ⟨0, by omega, rfl, rfl, by rw [← mulM_zero]; exact hblk, hb⟩
      case round =>
        clear hblk hb
        obtain ⟨j, hj, rfl, rfl, hblk, hb⟩ := hrel
        have hcl := macC_lt (f := fun i => f (k + i)) hx (fun i => getD_lt H'.out.small i) (fun i => hf.out.1 _) j
        by_cases hjl : j < l'.length
        · obtain ⟨b', o', rfl, hbB', hcy⟩ := (H'.out.keep (w' := wr) (fun b o hb' => below_cell hb b o (by omega))).at_ hjl
          have hcx := HCX.out wr hb
          have hy := getD_lt H'.out.small j
          have hz := hf.out.1 (k + j)
          have c1 := hblk.cell (k + j)
          rw [rowF_at _ _ _ _ (by omega), mulM_at] at c1
          have t1 := hblk.thaw (k + j)
          have hroom := mac_room hcl hx hy hz
          have HS := Lib.hid (show macC (fun i => f (k + i)) (fun i => l'.getD i 0) x (j + 1) = (macC (fun i => f (k + i)) (fun i => l'.getD i 0) x j + (x * l'.getD j 0 + f (k + j))) / 4294967296 from rfl)
          have HD := Lib.hid (show macD (fun i => f (k + i)) (fun i => l'.getD i 0) x j = (macC (fun i => f (k + i)) (fun i => l'.getD i 0) x j + (x * l'.getD j 0 + f (k + j))) % 4294967296 from rfl)
          generalize macC (fun i => f (k + i)) (fun i => l'.getD i 0) x j = cc at hcl hroom HS HD
          generalize l'.getD j 0 = y at hcy hy hroom HS HD
          generalize f (k + j) = z at hz c1 hroom HS HD
          have hjl1 : (j : Int) < (l'.length : Int) := by omega
          have hp0 : 0 ≤ (x : Int) * (y : Int) := Int.mul_nonneg (by omega) (by omega)
          have hp1 : (cc : Int) + ((x : Int) * (y : Int) + (z : Int)) < 18446744073709551616 := by have := hroom; rw [← Int.natCast_mul]; omega
          clear hroom
          have hk1 : IntKind.i64.wrap ((k : Int) + (j : Int)) = (k : Int) + (j : Int) := IntWalk.i64_in _ (by omega)
          have hk2 : (0 : Int) ≤ (k : Int) + (j : Int) := by omega
          have hk3 : (k : Int) + (j : Int) < (l.length : Int) + (l'.length : Int) := by omega
          have hk4 : ((k : Int) + (j : Int)).toNat = k + j := by omega
          go_wp2_with fail
          go_quiet (fail)
          go_wp2_with fail
          have e : ((cc : Int) + ((x : Int) * (y : Int) + (z : Int))) % 4294967296 = ((macD (fun i => f (k + i)) (fun i => l'.getD i 0) x j : Nat) : Int) := by rw [HD.out]; exact mac_mod _ _ _ _
          refine ⟨⟨j + 1, by omega, by go_num, by rw [HS.out, ← mac_div], ?_, (below_drewN hb nq).setCell (Nat.le_refl _) _⟩, by simp [intOf]; omega⟩
          rw [e, ← mulM_step]
          exact (hblk.drewN nq).set _ _
        · obtain rfl : j = l'.length := by omega
          have c1 := hblk.cell (k + l'.length)
          rw [rowF_at _ _ _ _ (by omega), mulM_at, hf.out.2.1 _ (Nat.le_refl _)] at c1
          have t1 := hblk.thaw (k + l'.length)
          have HE := Lib.hid (mulM_end f (fun i => l'.getD i 0) x k l'.length (l.length + l'.length))
          have HF := Lib.hid (show (∀ p, mulF f (fun i => l'.getD i 0) x k l'.length p < 4294967296) ∧ (∀ p, k + 1 + l'.length ≤ p → mulF f (fun i => l'.getD i 0) x k l'.length p = 0) ∧ valF (mulF f (fun i => l'.getD i 0) x k l'.length) (k + 1 + l'.length) = valF (fun i => l.getD i 0) (k + 1) * val l' from
            ⟨mulF_lt hx (fun i => getD_lt H'.out.small i) hf.out.1, mulF_out hf.out.2.1, by rw [mulF_val, hf.out.2.2, HX.out, valF_val (Nat.le_refl _), Nat.add_mul, Nat.mul_right_comm x]⟩)
          generalize macC (fun i => f (k + i)) (fun i => l'.getD i 0) x l'.length = cc at hcl HE
          have hk1 : IntKind.i64.wrap ((k : Int) + (l'.length : Int)) = (k : Int) + (l'.length : Int) := IntWalk.i64_in _ (by omega)
          have hk2 : (0 : Int) ≤ (k : Int) + (l'.length : Int) := by omega
          have hk3 : (k : Int) + (l'.length : Int) < (l.length : Int) + (l'.length : Int) := by omega
          have hk4 : ((k : Int) + (l'.length : Int)).toNat = k + l'.length := by omega
          clear hjl
          go_wp2_with fail
          refine ⟨⟨k + 1, mulF f (fun i => l'.getD i 0) x k l'.length, by omega, by go_num, HF, ?_, hb.setCell (Nat.le_refl _) _⟩, by simp [intOf]; omega⟩
          rw [← HE.out]
          exact hblk.set _ _
    · obtain rfl : k = l.length := by omega
      have hg := hblk.lt
      have HW := Lib.hid (wd_of_blk hblk (by omega) (fun i _ => hf.out.1 i))
      have HV := Lib.hid (show val ((List.range (l.length + l'.length)).map f) = val l * val l' by rw [val_map, hf.out.2.2]; rfl)
      have hT := trim_any _ _ _ _ _ HW.out
      rw [List.length_map, List.length_range] at hT
      have HT := Lib.hid hT
      clear hlt hT
      go_wp2_with fail
      refine HT.out.mono ?_
      rintro e w' ⟨ht, rfl⟩
      obtain ⟨A, c, l1, rfl, h2⟩ := gave_of_trim (n := val l * val l') HW.out (by omega) hb HV.out ht
      have H2 := Lib.hid h2
      clear h2 ht
      go_wp2_with fail
      go_ret
      exact ⟨A, c, l1, rfl, H2.out⟩

theorem mul_sg {X Y : Int} : Sg (decide (X < 0) != decide (Y < 0)) (X * Y) := by
  refine sg_mk ?_
  rcases Int.lt_trichotomy X 0 with h | h | h <;> rcases Int.lt_trichotomy Y 0 with h' | h' | h'
  · right; right; exact ⟨by simp [h, h'], Int.mul_pos_of_neg_of_neg h h'⟩
  · left; rw [h', Int.mul_zero]
  · right; left; exact ⟨by simp [h]; omega, Int.mul_neg_of_neg_of_pos h h'⟩
  · left; rw [h, Int.zero_mul]
  · left; rw [h, Int.zero_mul]
  · left; rw [h, Int.zero_mul]
  · right; left; exact ⟨by simp [h']; omega, Int.mul_neg_of_pos_of_neg h h'⟩
  · left; rw [h', Int.mul_zero]
  · have h1 : ¬ X < 0 := by omega
    have h2 : ¬ Y < 0 := by omega
    right; right; exact ⟨by simp [h1, h2], Int.mul_pos h h'⟩

set_option maxRecDepth 100000 in
set_option maxHeartbeats 8000000 in
theorem bigMul_any (p px py : Nat) (X Y : Int) (w : World) (hp : IsInt w p) (hx : BigAt w px X) (hy : BigAt w py Y) (bx : X.natAbs < pw 100) (bY : Y.natAbs < pw 100) :
    Calls Try.prog 39 #[.pointer (some ⟨p, 0, none⟩), .pointer (some ⟨px, 0, none⟩), .pointer (some ⟨py, 0, none⟩)] w fun e w' => e = .returned (.pointer (some ⟨p, 0, none⟩)) ∧ BigAt w' p (X * Y) ∧ w.grownBy w' (some p) := by
  obtain ⟨A, c, l, x0, x1, xw, xt, xv⟩ := hx.parts
  obtain ⟨A', c', l', y0, y1, yw, yt, yv⟩ := hy.parts
  have HL := Lib.hid (len_of xt xv bx)
  have HL' := Lib.hid (len_of yt yv bY)
  have HXW := Lib.hid xw
  have HYW := Lib.hid yw
  have HV := Lib.hid (show val l * val l' = (X * Y).natAbs by rw [Int.natAbs_mul, xv, yv])
  have HSG := Lib.hid (mul_sg (X := X) (Y := Y))
  have HP := Lib.hid hp
  have HPX := Lib.hid hx.lt
  have HPY := Lib.hid hy.lt
  clear xw xt xv yw yt yv hp hx hy bx bY
  generalize X * Y = Z at HV HSG ⊢
  generalize decide (X < 0) = xn at x0 HSG
  generalize decide (Y < 0) = yn at y0 HSG
  go_enter Try.func39, Try.ntmps39
  go_wp2_with fail
  go_region_law (first
    | (go_simp; go_at_call 64; refine (mul_any A A' c c' l l' _ _ (Nat.le_refl _) HXW.out.drew HYW.out.drew HL.out HL'.out).mono ?_; rintro e w1 ⟨A1, c1, l1, rfl, hw1, ht1, hv1, hb1⟩; have x0' := (below_cell hb1 px 0 HPX.out).trans x0; have y0' := (below_cell hb1 py 0 HPY.out).trans y0)
    | (go_simp; go_at_call 56; refine (give_big p _ A1 l1 c1 _ Z (HP.out.drew.below hb1 HP.out.lt) hw1 ht1 (hv1.trans HV.out) (sign_of ht1 (hv1.trans HV.out) _ HSG.out)).mono ?_; rintro e w2 ⟨rfl, hz2, hg2⟩))
  all_goals
    have HZ := Lib.hid hz2
    clear hz2
    go_wp2_with fail
    go_ret
    exact ⟨rfl, HZ.out, (show w.grownBy w1 (some p) from ⟨hb1.os, hb1.tape, hb1.output, hb1.size, fun g hg _ => hb1.block g hg⟩).trans hg2⟩
end Go.Proofs.Ytlcpackmoolngaa.BigW
