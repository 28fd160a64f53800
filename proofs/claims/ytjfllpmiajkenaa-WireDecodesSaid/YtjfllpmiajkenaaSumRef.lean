/- Contract: the reference's More, bit by bit, comes to the same number as the table's way. -/
import Derived.Test.YtjfllpmiajkenaaSum
import Derived.StillTailTactics
namespace Go.Proofs.Ytjfllpmiajkenaa.Sm
open Go.ChangeShapes Go.WideShapes Go.ChangeAt Go.RowKit Go.Proofs.Ytjfllpmiajkenaa.Mem Go.Proofs.Ytjfllpmiajkenaa.SumLaw
set_option linter.unusedVariables false

theorem i64_and1 (n : Int) : bits .and .i64 n 1 = n % 2 := by
  have h1 : (BitVec.ofInt 64 1).toNat = 2 ^ 1 - 1 := by decide
  have key : (BitVec.ofInt 64 n &&& BitVec.ofInt 64 1).toNat = (n % ((2 ^ 64 : Nat) : Int)).toNat % 2 ^ 1 := by
    rw [BitVec.toNat_and, BitVec.toNat_ofInt, h1, Nat.and_two_pow_sub_one_eq_mod]
  show IntKind.i64.wrap ((BitVec.ofInt 64 n &&& BitVec.ofInt 64 1).toNat : Nat) = n % 2
  rw [key, IntKind.wrap_i64]
  omega

def zeros32 : Array Value := #[.int .i64 0, .int .i64 0, .int .i64 0, .int .i64 0, .int .i64 0, .int .i64 0, .int .i64 0, .int .i64 0, .int .i64 0, .int .i64 0, .int .i64 0, .int .i64 0, .int .i64 0, .int .i64 0, .int .i64 0, .int .i64 0, .int .i64 0, .int .i64 0, .int .i64 0, .int .i64 0, .int .i64 0, .int .i64 0, .int .i64 0, .int .i64 0, .int .i64 0, .int .i64 0, .int .i64 0, .int .i64 0, .int .i64 0, .int .i64 0, .int .i64 0, .int .i64 0]
/-- the register, bit by bit -/
def regF (c : Nat) : Array Value := rowF .i64 32 fun i => (bit c i : Int)

theorem bitxor (a b : Nat) (ha : a ≤ 1) (hb : b ≤ 1) : bits .xor .i64 (a : Int) (b : Int) = (((a + b) % 2 : Nat) : Int) := by
  obtain rfl | rfl : a = 0 ∨ a = 1 := by omega
  all_goals (obtain rfl | rfl : b = 0 ∨ b = 1 := by omega)
  all_goals decide

def regL (c : Nat) : List Value := (List.range 32).map fun i => Value.int .i64 (bit c i : Int)
def tailL (c : Nat) : List Value := (List.range 31).map fun i => Value.int .i64 (bit c (i + 1) : Int)
set_option maxRecDepth 100000 in
theorem moved (c : Nat) (hc : c < 4294967296) : (splice (regL c) 0 (tailL c)).toArray.setIfInBounds 31 (.int .i64 0) = regF (c / 2) := by
  apply Array.ext_getElem?
  intro i
  have hl : (splice (regL c) 0 (tailL c)).length = 32 := by
    rw [length_splice _ _ _ (by simp only [regL, tailL, List.length_map, List.length_range]; omega)]
    simp only [regL, List.length_map, List.length_range]
  rw [Array.getElem?_setIfInBounds, List.size_toArray, hl, List.getElem?_toArray]
  by_cases hi : i < 32
  · rw [show (regF (c / 2))[i]? = some (.int .i64 (bit (c / 2) i : Int)) from rowF_at _ _ _ i hi]
    by_cases e : 31 = i
    · subst e
      rw [if_pos rfl, if_pos (by omega), bit_high (c / 2) 31 (by omega)]
      rfl
    · rw [if_neg e, bit_shift]
      simp only [splice, List.take_zero, List.nil_append]
      rw [List.getElem?_append_left (by simp [tailL]; omega)]
      simp [tailL, show i < 31 by omega]
  · rw [if_neg (by omega), List.getElem?_eq_none (by omega)]
    exact (rowF_out _ _ _ i (by omega)).symm
set_option maxRecDepth 100000 in
theorem spliced_31 (c : Nat) : ∃ v, (splice (regL c) 0 (tailL c)).toArray[31]? = some v := by
  have hl : (splice (regL c) 0 (tailL c)).length = 32 := by
    rw [length_splice _ _ _ (by simp only [regL, tailL, List.length_map, List.length_range]; omega)]
    simp only [regL, List.length_map, List.length_range]
  rw [List.getElem?_toArray]
  exact ⟨_, List.getElem?_eq_getElem (by omega)⟩
theorem cast_shift (x j : Nat) : ((x / 2 ^ j : Nat) : Int) = (x : Int) / 2 ^ j := by rw [Int.natCast_ediv, Int.natCast_pow]; rfl
theorem regL_one (c : Nat) : ∀ v ∈ tailL c, v.oneCell' = true := by
  intro v hv
  obtain ⟨i, _, rfl⟩ := List.mem_map.1 hv
  rfl
theorem polyxor (d i : Nat) (hi : i < 32) : bits .xor .i64 (bit d i : Int) ((3988292384 : Int) / 2 ^ i % 2) = (bit (d ^^^ 3988292384) i : Int) := by
  have e : (3988292384 : Int) / 2 ^ i % 2 = ((bit 3988292384 i : Nat) : Int) := by unfold bit; rw [Int.natCast_emod, Int.natCast_ediv, Int.natCast_pow]; rfl
  rw [e, bitxor _ _ (bit_le _ _) (bit_le _ _), bit_xor]

set_option maxRecDepth 100000 in
theorem refmore_any (s : Int) (A : Option Addr) (c : Nat) (bs : List Nat) (B : Nat) (w : World) (hB : B ≤ w.heap.size) (hs : -9223372036854775808 ≤ s ∧ s ≤ 9223372036854775807) (hl : bs.length ≤ 9223372036854775807) (hbs : ∀ x ∈ bs, x < 256) (hr : Rd w B 1 A bs.length (bytesV bs)) :
    Calls Try.prog 112 #[.int .i64 s, .slice A bs.length c] w fun e w' => e = .returned (.int .i64 (more s bs)) ∧ Below w.heap.size w w' := by
  have Hbs := Lib.hid hbs
  clear hbs
  have hz : zeros32 = rowF .i64 32 (fun _ => 0) := by kernel_rfl
  have b0 : Blk (w.alloc (.cells zeros32 164)) w.heap.size 164 (rowF .i64 32 (fun _ => 0)) := by rw [hz]; exact Blk.new rfl
  have hb0 : Below w.heap.size w (w.alloc (.cells zeros32 164)) := (Below.refl _ _).alloc (Nat.le_refl _) _
  have hr0 := hr.alloc hB (.cells zeros32 164)
  clear hz hr
  unfold zeros32 at b0 hb0 hr0
  have hc0 : 4294967295 - (s % 4294967296).toNat < 4294967296 := by omega
  have HG := Lib.hid (fun k (hk : k < 32) => reg_begin s k hk)
  have Hend := Lib.hid (show more s bs = 4294967295 - (over byteT (4294967295 - (s % 4294967296).toNat) (bs.take bs.length) : Nat) by rw [List.take_of_length_le (Nat.le_refl _)]; rfl)
  generalize 4294967295 - (s % 4294967296).toNat = c0 at hc0 HG Hend
  go_enter Try.func112, Try.ntmps112
  go_wp2_with fail
  go_loopw [15] (fun i wr => ∃ k : Nat, k ≤ 32 ∧ i = .int .i64 k ∧ Blk wr w.heap.size 164 (rowF .i64 32 fun i => if i < k then (bit c0 i : Int) else 0) ∧ Below w.heap.size w wr ∧ Rd wr B 1 A bs.length (bytesV bs)) (fun i _ => 32 - (intOf i).toNat)
  case atStart => exact ⟨0, by omega, rfl, by simpa using b0, hb0, hr0⟩
  case round =>
    clear b0 hb0 hr0
    obtain ⟨k, hk, rfl, b0, hb0, hr0⟩ := hrel
    by_cases hlt : k < 32
    · have hg := HG.out k hlt
      have h1 := i64_and1 (s / 2 ^ k)
      have c1 := b0.cell k
      have f1 := b0.thaw k
      rw [rowF_at _ _ _ _ hlt, if_neg (by omega)] at c1
      have hm2 : 0 ≤ s / 2 ^ k % 2 ∧ s / 2 ^ k % 2 ≤ 1 := by omega
      have HG2 := Lib.hid hg
      clear hg
      go_wp2_with fail
      refine ⟨⟨k + 1, by omega, by go_num, ?_, hb0.setCell (Nat.le_refl _) _, hr0.setCell hB _⟩, by simp [intOf]; omega⟩
      have := b0.set k (.int .i64 (1 - s / 2 ^ k % 2))
      rwa [rowF_set (g := fun i => if i < k + 1 then (bit c0 i : Int) else 0) (fun i hi => by
        by_cases e : i = k
        · subst e; rw [if_pos rfl, if_pos (by omega)]; exact HG.out _ hlt
        · rw [if_neg e]
          by_cases h : i < k
          · rw [if_pos h, if_pos (by omega)]
          · rw [if_neg h, if_neg (by omega)])] at this
    · obtain rfl : k = 32 := by omega
      rw [show ((32 : Nat) : Int) = 32 from rfl]
      clear hlt
      have bR : Blk wr w.heap.size 164 (regF c0) := by
        rwa [rowF_congr (g := fun i => (bit c0 i : Int)) (fun i hi => by rw [if_pos hi])] at b0
      clear b0 HG
      go_wp2_with fail
      go_loopw [29] (fun i wr => ∃ k : Nat, k ≤ bs.length ∧ i = .int .i64 k ∧ Blk wr w.heap.size 164 (regF (over byteT c0 (bs.take k))) ∧ Below w.heap.size w wr ∧ Rd wr B 1 A bs.length (bytesV bs)) (fun i _ => bs.length - (intOf i).toNat)
      case atStart => exact ⟨0, by omega, rfl, bR, hb0, hr0⟩
      case round =>
        clear bR hb0 hr0
        obtain ⟨k, hk, rfl, bR, hb0, hr0⟩ := hrel
        have hclt := over_lt (bs.take k) c0 hc0 (fun x hx => Hbs.out x (List.mem_of_mem_take hx))
        by_cases hlt : k < bs.length
        · have HS := Lib.hid (over_take byteT c0 bs k hlt)
          have hx := Hbs.out _ (List.getElem_mem hlt)
          have Hr0 := Lib.hid hr0
          obtain ⟨b, o, u, rfl, hbB, hu, hcell⟩ := hr0.at hlt
          rw [bytesV_at bs k hlt] at hu
          injection hu with hu
          subst hu
          generalize over byteT c0 (bs.take k) = d at hclt HS bR
          generalize bs[k] = x at hx HS hcell
          have HB := Lib.hid (bitsR_byte d x hx)
          clear hr0
          go_wp2_with fail
          go_loopw [10] (fun i wr => ∃ j : Nat, j ≤ 8 ∧ i = .int .i64 j ∧ Blk wr w.heap.size 164 (regF (bitsR d x j)) ∧ Below w.heap.size w wr ∧ Rd wr B 1 (some ⟨b, o, none⟩) bs.length (bytesV bs)) (fun i _ => 8 - (intOf i).toNat)
          case atStart => exact ⟨0, by omega, rfl, bR, hb0, Hr0.out⟩
          case round =>
            clear bR hb0 hcell Hr0
            obtain ⟨j, hj, rfl, bR, hb0, hr0⟩ := hrel
            have hdlt := bitsR_lt d x j hclt
            by_cases hlj : j < 8
            · have HR := Lib.hid (show bitsR d x (j + 1) = bitR (bitsR d x j) x j from rfl)
              generalize bitsR d x j = y at hdlt HR bR
              have c0' := bR.cell 0
              rw [show (regF y)[0]? = some (.int .i64 (bit y 0 : Int)) from rowF_at _ _ _ 0 (by omega)] at c0'
              have h1 := i64_and1 ((x : Int) / 2 ^ j)
              have h2 := bitxor (bit y 0) (x / 2 ^ j % 2) (bit_le _ _) (by omega)
              rw [bit_out, show ((x / 2 ^ j % 2 : Nat) : Int) = (x : Int) / 2 ^ j % 2 by rw [Int.natCast_emod, cast_shift]; rfl] at h2
              have Hmv := Lib.hid (moved y hdlt)
              have Hr0 := Lib.hid hr0
              clear hr0
              go_wp2_with fail
              go_still_tail 2, (by kernel_rfl)
              refine wpList_copy_splice rfl (.tmp 46) (.tmp 47) 39 39 rfl 3 Try.underlying39 (by kernel_rfl) _ _ _ _ _ _ rfl rfl w.heap.size 0 (regL y) 164 (by exact bR) (tailL y) (by simp only [tailL, List.length_map, List.length_range]; rfl) (fun _ => ⟨rfl, _, rfl, fun i v hv => ?_⟩) (by simp only [tailL, regL, List.length_map, List.length_range]; omega) (regL_one y) w.heap.size w hb0.drew (Nat.le_refl _) ?_
              · have hi : i < 31 := by have := (List.getElem?_eq_some_iff.1 hv).1; simpa [tailL] using this
                have hv' : v = .int .i64 (bit y (i + 1) : Int) := by simp [tailL, hi] at hv; exact hv.symm
                have := bR.cell (1 + i)
                rw [show (regF y)[1 + i]? = some (.int .i64 (bit y (1 + i) : Int)) from rowF_at _ _ _ _ (by omega)] at this
                rw [hv', Nat.add_comm i 1]
                rw [show ((⟨w.heap.size, 0 + 1, none⟩ : Addr).add i) = ⟨w.heap.size, 1 + i, none⟩ by unfold Addr.add; split <;> simp_all]
                exact this
              intro w4 hg4 hb4
              have b4 : Blk w4 w.heap.size 164 (splice (regL y) 0 (tailL y)).toArray := hg4.out
              have hk4 : ∀ b' o', b' < B → w4.cell? ⟨b', o', none⟩ = wr.cell? ⟨b', o', none⟩ := fun b' o' h => by rw [below_cell hb4 b' o' (by omega), below_cell hb0 b' o' (by omega)]
              have hr4 : Rd w4 B 1 (some ⟨b, o, none⟩) bs.length (bytesV bs) := Hr0.out.keep (fun b' o' h => (hk4 b' o' h))
              have Hr4 := Lib.hid hr4
              have c31 : ∃ v, w4.cell? ⟨w.heap.size, 31, none⟩ = some v := by
                rw [b4.cell 31]
                exact spliced_31 y
              obtain ⟨v31, c31⟩ := c31
              have f31 := b4.thaw 31
              have b5 := b4.set 31 (.int .i64 0)
              rw [Hmv.out] at b5
              have hb5 := hb4.setCell (p := ⟨w.heap.size, 31, none⟩) (Nat.le_refl _) (.int .i64 0)
              have Hr5 := Lib.hid (hr4.setCell (p := ⟨w.heap.size, 31, none⟩) hB (.int .i64 0))
              clear hk4 hg4 b4 hr4 Hr4 c0' Hr0 bR hb0
              by_cases ho : ((y : Int) + (x : Int) / 2 ^ j) % 2 = 1
              · have hob : (((y : Int) + (x : Int) / 2 ^ j) % 2 == 1) = true := by simpa using ho
                have HT := Lib.hid (show bitR y x j = (y / 2) ^^^ 3988292384 from by unfold bitR; rw [if_pos (by have := cast_shift x j; omega)])
                clear ho
                go_wp2_with fail
                generalize w4.setCell ⟨w.heap.size, 31, none⟩ (.int .i64 0) = w5 at *
                go_loopw [52] (fun i wr => ∃ n : Nat, n ≤ 32 ∧ i = .int .i64 n ∧ Blk wr w.heap.size 164 (rowF .i64 32 fun i => if i < n then (bit (y / 2 ^^^ 3988292384) i : Int) else (bit (y / 2) i : Int)) ∧ Below w.heap.size w wr ∧ Rd wr B 1 (some ⟨b, o, none⟩) bs.length (bytesV bs)) (fun i _ => 32 - (intOf i).toNat)
                case atStart => exact ⟨0, by omega, rfl, by simpa [regF] using b5, hb5, Hr5.out⟩
                case round =>
                  clear b5 hb5 Hr5
                  obtain ⟨n, hn, rfl, b5, hb5, hr5⟩ := hrel
                  by_cases hln : n < 32
                  · have cn := b5.cell n
                    have fn := b5.thaw n
                    rw [rowF_at _ _ _ _ hln, if_neg (by omega)] at cn
                    have h1 := i64_and1 ((3988292384 : Int) / 2 ^ n)
                    have h2 := polyxor (y / 2) n hln
                    have Hr5 := Lib.hid hr5
                    clear hr5
                    go_wp2_with fail
                    refine ⟨⟨n + 1, by omega, by go_num, ?_, hb5.setCell (Nat.le_refl _) _, Hr5.out.setCell hB _⟩, by simp [intOf]; omega⟩
                    have := b5.set n (.int .i64 (bit (y / 2 ^^^ 3988292384) n : Int))
                    rwa [rowF_set (g := fun i => if i < n + 1 then (bit (y / 2 ^^^ 3988292384) i : Int) else (bit (y / 2) i : Int)) (fun i hi => by
                      by_cases e : i = n
                      · subst e; rw [if_pos rfl, if_pos (by omega)]
                      · rw [if_neg e]
                        by_cases h : i < n
                        · rw [if_pos h, if_pos (by omega)]
                        · rw [if_neg h, if_neg (by omega)])] at this
                  · obtain rfl : n = 32 := by omega
                    go_wp2_with fail
                    refine ⟨⟨j + 1, by omega, by go_num, ?_, hb5, hr5⟩, by simp [intOf]; omega⟩
                    rw [HR.out, HT.out]
                    rwa [rowF_congr (g := fun i => (bit (y / 2 ^^^ 3988292384) i : Int)) (fun i hi => by rw [if_pos hi])] at b5
              · have hob : (((y : Int) + (x : Int) / 2 ^ j) % 2 == 1) = false := by simpa using ho
                have HT := Lib.hid (show bitR y x j = y / 2 from by unfold bitR; rw [if_neg (by have := cast_shift x j; omega)])
                clear ho
                go_wp2_with fail
                exact ⟨⟨j + 1, by omega, by go_num, by rw [HR.out, HT.out]; exact b5, hb5, Hr5.out⟩, by simp [intOf]; omega⟩
            · obtain rfl : j = 8 := by omega
              rw [HB.out] at bR
              go_wp2_with fail
              exact ⟨⟨k + 1, by omega, by go_num, by rw [HS.out]; exact bR, hb0, hr0⟩, by simp [intOf]; omega⟩
        · obtain rfl : k = bs.length := by omega
          have HK := Lib.hid (back_eq _ hclt)
          generalize over byteT c0 (bs.take bs.length) = d at hclt HK Hend bR
          clear hr0 hlt
          go_wp2_with fail
          go_loop [13, 14] (fun n i => ∃ q : Nat, q ≤ 32 ∧ i = .int .i64 (31 - (q : Int)) ∧ n = .int .i64 (back d q)) (fun _ i => (intOf i + 1).toNat)
          case atStart => exact ⟨0, by omega, by go_num, rfl⟩
          case round =>
            obtain ⟨q, hq, rfl, rfl⟩ := hrel
            have hbb := back_bound d q hq
            by_cases hlq : q < 32
            · have cq := bR.cell (31 - q)
              rw [show (regF d)[31 - q]? = some (.int .i64 (bit d (31 - q) : Int)) from rowF_at _ _ _ _ (by omega)] at cq
              have hbl := bit_le d (31 - q)
              have hi0 : (31 - (q : Int)).toNat = 31 - q := by omega
              have HQ := Lib.hid (show back d (q + 1) = 2 * back d q + 1 - bit d (31 - q) from rfl)
              generalize back d q = m at hbb HQ ⊢
              generalize bit d (31 - q) = t at hbl HQ cq
              go_wp2_with fail
              exact ⟨⟨q + 1, by omega, by go_num, by rw [HQ.out]⟩, by simp [intOf]; omega⟩
            · have HQ := Lib.hid (show q = 32 by omega)
              go_wp2_with fail
              go_ret
              exact ⟨ret_int (by rw [Hend.out, HQ.out, HK.out]), hb0⟩
end Go.Proofs.Ytjfllpmiajkenaa.Sm
