import Derived.Test.YtjfllpmiajkenaaGreatPk6
import Derived.StillTailTactics
import Derived.Deep.RegionHeld3
import Derived.Laws.BytesArg
import Derived.Lib.Bytes
import Derived.Test.YtjfllpmiajkenaaGreatPk5
import Derived.Test.YtjfllpmiajkenaaGreatPk1
import Derived.Test.YtjfllpmiajkenaaGreatPk3
import Derived.Test.YtjfllpmiajkenaaGreatPk0
namespace Go.Proofs.YtjfllpmiajkenaaGreat.Sm
open Go.ChangeShapes Go.WideShapes Go.ChangeAt Go.RowKit Go.Proofs.YtjfllpmiajkenaaGreat.Mem Go.Proofs.YtjfllpmiajkenaaGreat.SumLaw
set_option linter.unusedVariables false
theorem i64_and1 (n : Int) : bits .and .i64 n 1 = n % 2 := by
  have h1 : (BitVec.ofInt 64 1).toNat = 2 ^ 1 - 1 := by decide
  have key : (BitVec.ofInt 64 n &&& BitVec.ofInt 64 1).toNat = (n % ((2 ^ 64 : Nat) : Int)).toNat % 2 ^ 1 := by
    rw [BitVec.toNat_and, BitVec.toNat_ofInt, h1, Nat.and_two_pow_sub_one_eq_mod]
  show IntKind.i64.wrap ((BitVec.ofInt 64 n &&& BitVec.ofInt 64 1).toNat : Nat) = n % 2
  rw [key, IntKind.wrap_i64]
  omega
def zeros32 : Array Value := #[.int .i64 0, .int .i64 0, .int .i64 0, .int .i64 0, .int .i64 0, .int .i64 0, .int .i64 0, .int .i64 0, .int .i64 0, .int .i64 0, .int .i64 0, .int .i64 0, .int .i64 0, .int .i64 0, .int .i64 0, .int .i64 0, .int .i64 0, .int .i64 0, .int .i64 0, .int .i64 0, .int .i64 0, .int .i64 0, .int .i64 0, .int .i64 0, .int .i64 0, .int .i64 0, .int .i64 0, .int .i64 0, .int .i64 0, .int .i64 0, .int .i64 0, .int .i64 0]
def regF (c : Nat) : Array Value := rowF .i64 32 fun i => (bit c i : Int)
theorem bitxor (a b : Nat) (ha : a ≤ 1) (hb : b ≤ 1) : bits .xor .i64 (a : Int) (b : Int) = (((a + b) % 2 : Nat) : Int) := by
  obtain rfl | rfl : a = 0 ∨ a = 1 := by omega
  all_goals (obtain rfl | rfl : b = 0 ∨ b = 1 := by omega)
  all_goals decide
def regL (c : Nat) : List Value := (List.range 32).map fun i => Value.int .i64 (bit c i : Int)
def tailL (c : Nat) : List Value := (List.range 31).map fun i => Value.int .i64 (bit c (i + 1) : Int)
set_option maxRecDepth 100000 in
theorem moved (c : Nat) (hc : c < 4294967296) : (splice (regL c) 0 (tailL c)).toArray.setIfInBounds 31 (.int .i64 0) = regF (c / 2) := by
  apply Array.ext_getElem?
  intro i
  have hl : (splice (regL c) 0 (tailL c)).length = 32 := by
    rw [length_splice _ _ _ (by simp only [regL, tailL, List.length_map, List.length_range]; omega)]
    simp only [regL, List.length_map, List.length_range]
  rw [Array.getElem?_setIfInBounds, List.size_toArray, hl, List.getElem?_toArray]
  by_cases hi : i < 32
  · rw [show (regF (c / 2))[i]? = some (.int .i64 (bit (c / 2) i : Int)) from rowF_at _ _ _ i hi]
    by_cases e : 31 = i
    · subst e
      rw [if_pos rfl, if_pos (by omega), bit_high (c / 2) 31 (by omega)]
      rfl
    · rw [if_neg e, bit_shift]
      simp only [splice, List.take_zero, List.nil_append]
      rw [List.getElem?_append_left (by simp [tailL]; omega)]
      simp [tailL, show i < 31 by omega]
  · rw [if_neg (by omega), List.getElem?_eq_none (by omega)]
    exact (rowF_out _ _ _ i (by omega)).symm
set_option maxRecDepth 100000 in
theorem spliced_31 (c : Nat) : ∃ v, (splice (regL c) 0 (tailL c)).toArray[31]? = some v := by
  have hl : (splice (regL c) 0 (tailL c)).length = 32 := by
    rw [length_splice _ _ _ (by simp only [regL, tailL, List.length_map, List.length_range]; omega)]
    simp only [regL, List.length_map, List.length_range]
  rw [List.getElem?_toArray]
  exact ⟨_, List.getElem?_eq_getElem (by omega)⟩
theorem cast_shift (x j : Nat) : ((x / 2 ^ j : Nat) : Int) = (x : Int) / 2 ^ j := by rw [Int.natCast_ediv, Int.natCast_pow]; rfl
theorem regL_one (c : Nat) : ∀ v ∈ tailL c, v.oneCell' = true := by
  intro v hv
  obtain ⟨i, _, rfl⟩ := List.mem_map.1 hv
  rfl
theorem polyxor (d i : Nat) (hi : i < 32) : bits .xor .i64 (bit d i : Int) ((3988292384 : Int) / 2 ^ i % 2) = (bit (d ^^^ 3988292384) i : Int) := by
  have e : (3988292384 : Int) / 2 ^ i % 2 = ((bit 3988292384 i : Nat) : Int) := by unfold bit; rw [Int.natCast_emod, Int.natCast_ediv, Int.natCast_pow]; rfl
  rw [e, bitxor _ _ (bit_le _ _) (bit_le _ _), bit_xor]
set_option maxRecDepth 100000 in
theorem refmore_any (s : Int) (A : Option Addr) (c : Nat) (bs : List Nat) (B : Nat) (w : World) (hB : B ≤ w.heap.size) (hs : -9223372036854775808 ≤ s ∧ s ≤ 9223372036854775807) (hl : bs.length ≤ 9223372036854775807) (hbs : ∀ x ∈ bs, x < 256) (hr : Rd w B 1 A bs.length (bytesV bs)) :
    Calls Tryz.prog 103 #[.int .i64 s, .slice A bs.length c] w fun e w' => e = .returned (.int .i64 (more s bs)) ∧ Below w.heap.size w w' := by
  have Hbs := Lib.hid hbs
  clear hbs
  have hz : zeros32 = rowF .i64 32 (fun _ => 0) := by kernel_rfl
  have b0 : Blk (w.alloc (.cells zeros32 180)) w.heap.size 180 (rowF .i64 32 (fun _ => 0)) := by rw [hz]; exact Blk.new rfl
  have hb0 : Below w.heap.size w (w.alloc (.cells zeros32 180)) := (Below.refl _ _).alloc (Nat.le_refl _) _
  have hr0 := hr.alloc hB (.cells zeros32 180)
  clear hz hr
  unfold zeros32 at b0 hb0 hr0
  have hc0 : 4294967295 - (s % 4294967296).toNat < 4294967296 := by omega
  have HG := Lib.hid (fun k (hk : k < 32) => reg_begin s k hk)
  have Hend := Lib.hid (show more s bs = 4294967295 - (over byteT (4294967295 - (s % 4294967296).toNat) (bs.take bs.length) : Nat) by rw [List.take_of_length_le (Nat.le_refl _)]; rfl)
  generalize 4294967295 - (s % 4294967296).toNat = c0 at hc0 HG Hend
  go_enter Tryz.func103, Tryz.ntmps103
  go_wp2_with fail
  go_loopw [15] (fun i wr => ∃ k : Nat, k ≤ 32 ∧ i = .int .i64 k ∧ Blk wr w.heap.size 180 (rowF .i64 32 fun i => if i < k then (bit c0 i : Int) else 0) ∧ Below w.heap.size w wr ∧ Rd wr B 1 A bs.length (bytesV bs)) (fun i _ => 32 - (intOf i).toNat)
  case atStart => exact ⟨0, by omega, rfl, by simpa using b0, hb0, hr0⟩
  case round =>
    clear b0 hb0 hr0
    obtain ⟨k, hk, rfl, b0, hb0, hr0⟩ := hrel
    by_cases hlt : k < 32
    · have hg := HG.out k hlt
      have h1 := i64_and1 (s / 2 ^ k)
      have c1 := b0.cell k
      have f1 := b0.thaw k
      rw [rowF_at _ _ _ _ hlt, if_neg (by omega)] at c1
      have hm2 : 0 ≤ s / 2 ^ k % 2 ∧ s / 2 ^ k % 2 ≤ 1 := by omega
      have HG2 := Lib.hid hg
      clear hg
      go_wp2_with fail
      refine ⟨⟨k + 1, by omega, by go_num, ?_, hb0.setCell (Nat.le_refl _) _, hr0.setCell hB _⟩, by simp [intOf]; omega⟩
      have := b0.set k (.int .i64 (1 - s / 2 ^ k % 2))
      rwa [rowF_set (g := fun i => if i < k + 1 then (bit c0 i : Int) else 0) (fun i hi => by
        by_cases e : i = k
        · subst e; rw [if_pos rfl, if_pos (by omega)]; exact HG.out _ hlt
        · rw [if_neg e]
          by_cases h : i < k
          · rw [if_pos h, if_pos (by omega)]
          · rw [if_neg h, if_neg (by omega)])] at this
    · obtain rfl : k = 32 := by omega
      rw [show ((32 : Nat) : Int) = 32 from rfl]
      clear hlt
      have bR : Blk wr w.heap.size 180 (regF c0) := by
        rwa [rowF_congr (g := fun i => (bit c0 i : Int)) (fun i hi => by rw [if_pos hi])] at b0
      clear b0 HG
      go_wp2_with fail
      go_loopw [29] (fun i wr => ∃ k : Nat, k ≤ bs.length ∧ i = .int .i64 k ∧ Blk wr w.heap.size 180 (regF (over byteT c0 (bs.take k))) ∧ Below w.heap.size w wr ∧ Rd wr B 1 A bs.length (bytesV bs)) (fun i _ => bs.length - (intOf i).toNat)
      case atStart => exact ⟨0, by omega, rfl, bR, hb0, hr0⟩
      case round =>
        clear bR hb0 hr0
        obtain ⟨k, hk, rfl, bR, hb0, hr0⟩ := hrel
        have hclt := over_lt (bs.take k) c0 hc0 (fun x hx => Hbs.out x (List.mem_of_mem_take hx))
        by_cases hlt : k < bs.length
        · have HS := Lib.hid (over_take byteT c0 bs k hlt)
          have hx := Hbs.out _ (List.getElem_mem hlt)
          have Hr0 := Lib.hid hr0
          obtain ⟨b, o, u, rfl, hbB, hu, hcell⟩ := hr0.at hlt
          rw [bytesV_at bs k hlt] at hu
          injection hu with hu
          subst hu
          generalize over byteT c0 (bs.take k) = d at hclt HS bR
          generalize bs[k] = x at hx HS hcell
          have HB := Lib.hid (bitsR_byte d x hx)
          clear hr0
          go_wp2_with fail
          go_loopw [10] (fun i wr => ∃ j : Nat, j ≤ 8 ∧ i = .int .i64 j ∧ Blk wr w.heap.size 180 (regF (bitsR d x j)) ∧ Below w.heap.size w wr ∧ Rd wr B 1 (some ⟨b, o, none⟩) bs.length (bytesV bs)) (fun i _ => 8 - (intOf i).toNat)
          case atStart => exact ⟨0, by omega, rfl, bR, hb0, Hr0.out⟩
          case round =>
            clear bR hb0 hcell Hr0
            obtain ⟨j, hj, rfl, bR, hb0, hr0⟩ := hrel
            have hdlt := bitsR_lt d x j hclt
            by_cases hlj : j < 8
            · have HR := Lib.hid (show bitsR d x (j + 1) = bitR (bitsR d x j) x j from rfl)
              generalize bitsR d x j = y at hdlt HR bR
              have c0' := bR.cell 0
              rw [show (regF y)[0]? = some (.int .i64 (bit y 0 : Int)) from rowF_at _ _ _ 0 (by omega)] at c0'
              have h1 := i64_and1 ((x : Int) / 2 ^ j)
              have h2 := bitxor (bit y 0) (x / 2 ^ j % 2) (bit_le _ _) (by omega)
              rw [bit_out, show ((x / 2 ^ j % 2 : Nat) : Int) = (x : Int) / 2 ^ j % 2 by rw [Int.natCast_emod, cast_shift]; rfl] at h2
              have Hmv := Lib.hid (moved y hdlt)
              have Hr0 := Lib.hid hr0
              clear hr0
              go_wp2_with fail
              go_still_tail 2, (by kernel_rfl)
              refine wpList_copy_splice rfl (.tmp 46) (.tmp 47) 39 39 rfl 3 Tryz.underlying39 (by kernel_rfl) _ _ _ _ _ _ rfl rfl w.heap.size 0 (regL y) 180 (by exact bR) (tailL y) (by simp only [tailL, List.length_map, List.length_range]; rfl) (fun _ => ⟨rfl, _, rfl, fun i v hv => ?_⟩) (by simp only [tailL, regL, List.length_map, List.length_range]; omega) (regL_one y) w.heap.size w hb0.drew (Nat.le_refl _) ?_
              · have hi : i < 31 := by have := (List.getElem?_eq_some_iff.1 hv).1; simpa [tailL] using this
                have hv' : v = .int .i64 (bit y (i + 1) : Int) := by simp [tailL, hi] at hv; exact hv.symm
                have := bR.cell (1 + i)
                rw [show (regF y)[1 + i]? = some (.int .i64 (bit y (1 + i) : Int)) from rowF_at _ _ _ _ (by omega)] at this
                rw [hv', Nat.add_comm i 1]
                rw [show ((⟨w.heap.size, 0 + 1, none⟩ : Addr).add i) = ⟨w.heap.size, 1 + i, none⟩ by unfold Addr.add; split <;> simp_all]
                exact this
              intro w4 hg4 hb4
              have b4 : Blk w4 w.heap.size 180 (splice (regL y) 0 (tailL y)).toArray := hg4.out
              have hk4 : ∀ b' o', b' < B → w4.cell? ⟨b', o', none⟩ = wr.cell? ⟨b', o', none⟩ := fun b' o' h => by rw [below_cell hb4 b' o' (by omega), below_cell hb0 b' o' (by omega)]
              have hr4 : Rd w4 B 1 (some ⟨b, o, none⟩) bs.length (bytesV bs) := Hr0.out.keep (fun b' o' h => (hk4 b' o' h))
              have Hr4 := Lib.hid hr4
              have c31 : ∃ v, w4.cell? ⟨w.heap.size, 31, none⟩ = some v := by
                rw [b4.cell 31]
                exact spliced_31 y
              obtain ⟨v31, c31⟩ := c31
              have f31 := b4.thaw 31
              have b5 := b4.set 31 (.int .i64 0)
              rw [Hmv.out] at b5
              have hb5 := hb4.setCell (p := ⟨w.heap.size, 31, none⟩) (Nat.le_refl _) (.int .i64 0)
              have Hr5 := Lib.hid (hr4.setCell (p := ⟨w.heap.size, 31, none⟩) hB (.int .i64 0))
              clear hk4 hg4 b4 hr4 Hr4 c0' Hr0 bR hb0
              by_cases ho : ((y : Int) + (x : Int) / 2 ^ j) % 2 = 1
              · have hob : (((y : Int) + (x : Int) / 2 ^ j) % 2 == 1) = true := by simpa using ho
                have HT := Lib.hid (show bitR y x j = (y / 2) ^^^ 3988292384 from by unfold bitR; rw [if_pos (by have := cast_shift x j; omega)])
                clear ho
                go_wp2_with fail
                generalize w4.setCell ⟨w.heap.size, 31, none⟩ (.int .i64 0) = w5 at *
                go_loopw [52] (fun i wr => ∃ n : Nat, n ≤ 32 ∧ i = .int .i64 n ∧ Blk wr w.heap.size 180 (rowF .i64 32 fun i => if i < n then (bit (y / 2 ^^^ 3988292384) i : Int) else (bit (y / 2) i : Int)) ∧ Below w.heap.size w wr ∧ Rd wr B 1 (some ⟨b, o, none⟩) bs.length (bytesV bs)) (fun i _ => 32 - (intOf i).toNat)
                case atStart => exact ⟨0, by omega, rfl, by simpa [regF] using b5, hb5, Hr5.out⟩
                case round =>
                  clear b5 hb5 Hr5
                  obtain ⟨n, hn, rfl, b5, hb5, hr5⟩ := hrel
                  by_cases hln : n < 32
                  · have cn := b5.cell n
                    have fn := b5.thaw n
                    rw [rowF_at _ _ _ _ hln, if_neg (by omega)] at cn
                    have h1 := i64_and1 ((3988292384 : Int) / 2 ^ n)
                    have h2 := polyxor (y / 2) n hln
                    have Hr5 := Lib.hid hr5
                    clear hr5
                    go_wp2_with fail
                    refine ⟨⟨n + 1, by omega, by go_num, ?_, hb5.setCell (Nat.le_refl _) _, Hr5.out.setCell hB _⟩, by simp [intOf]; omega⟩
                    have := b5.set n (.int .i64 (bit (y / 2 ^^^ 3988292384) n : Int))
                    rwa [rowF_set (g := fun i => if i < n + 1 then (bit (y / 2 ^^^ 3988292384) i : Int) else (bit (y / 2) i : Int)) (fun i hi => by
                      by_cases e : i = n
                      · subst e; rw [if_pos rfl, if_pos (by omega)]
                      · rw [if_neg e]
                        by_cases h : i < n
                        · rw [if_pos h, if_pos (by omega)]
                        · rw [if_neg h, if_neg (by omega)])] at this
                  · obtain rfl : n = 32 := by omega
                    go_wp2_with fail
                    refine ⟨⟨j + 1, by omega, by go_num, ?_, hb5, hr5⟩, by simp [intOf]; omega⟩
                    rw [HR.out, HT.out]
                    rwa [rowF_congr (g := fun i => (bit (y / 2 ^^^ 3988292384) i : Int)) (fun i hi => by rw [if_pos hi])] at b5
              · have hob : (((y : Int) + (x : Int) / 2 ^ j) % 2 == 1) = false := by simpa using ho
                have HT := Lib.hid (show bitR y x j = y / 2 from by unfold bitR; rw [if_neg (by have := cast_shift x j; omega)])
                clear ho
                go_wp2_with fail
                exact ⟨⟨j + 1, by omega, by go_num, by rw [HR.out, HT.out]; exact b5, hb5, Hr5.out⟩, by simp [intOf]; omega⟩
            · obtain rfl : j = 8 := by omega
              rw [HB.out] at bR
              go_wp2_with fail
              exact ⟨⟨k + 1, by omega, by go_num, by rw [HS.out]; exact bR, hb0, hr0⟩, by simp [intOf]; omega⟩
        · obtain rfl : k = bs.length := by omega
          have HK := Lib.hid (back_eq _ hclt)
          generalize over byteT c0 (bs.take bs.length) = d at hclt HK Hend bR
          clear hr0 hlt
          go_wp2_with fail
          go_loop [13, 14] (fun n i => ∃ q : Nat, q ≤ 32 ∧ i = .int .i64 (31 - (q : Int)) ∧ n = .int .i64 (back d q)) (fun _ i => (intOf i + 1).toNat)
          case atStart => exact ⟨0, by omega, by go_num, rfl⟩
          case round =>
            obtain ⟨q, hq, rfl, rfl⟩ := hrel
            have hbb := back_bound d q hq
            by_cases hlq : q < 32
            · have cq := bR.cell (31 - q)
              rw [show (regF d)[31 - q]? = some (.int .i64 (bit d (31 - q) : Int)) from rowF_at _ _ _ _ (by omega)] at cq
              have hbl := bit_le d (31 - q)
              have hi0 : (31 - (q : Int)).toNat = 31 - q := by omega
              have HQ := Lib.hid (show back d (q + 1) = 2 * back d q + 1 - bit d (31 - q) from rfl)
              generalize back d q = m at hbb HQ ⊢
              generalize bit d (31 - q) = t at hbl HQ cq
              go_wp2_with fail
              exact ⟨⟨q + 1, by omega, by go_num, by rw [HQ.out]⟩, by simp [intOf]; omega⟩
            · have HQ := Lib.hid (show q = 32 by omega)
              go_wp2_with fail
              go_ret
              exact ⟨ret_int (by rw [Hend.out, HQ.out, HK.out]), hb0⟩
end Go.Proofs.YtjfllpmiajkenaaGreat.Sm
namespace Go.Proofs.YtjfllpmiajkenaaGreat.Sm
open Go.ChangeShapes Go.WideShapes Go.ChangeAt Go.RowKit Go.Proofs.YtjfllpmiajkenaaGreat.Mem Go.Proofs.YtjfllpmiajkenaaGreat.SumLaw
set_option linter.unusedVariables false
theorem sum_any (A : Option Addr) (c : Nat) (bs : List Nat) (B : Nat) (w : World) (hB : B ≤ w.heap.size) (hl : bs.length ≤ 9223372036854775807) (hbs : ∀ x ∈ bs, x < 256) (hr : Rd w B 1 A bs.length (bytesV bs)) :
    Calls Tryz.prog 60 #[.slice A bs.length c] w fun e w' => e = .returned (.int .i64 (more 0 bs)) ∧ Below w.heap.size w w' := by
  have HR := Lib.hid hr
  have HS := Lib.hid hbs
  clear hr hbs
  go_enter Tryz.func60, Tryz.ntmps60
  go_wp2_with fail
  refine (more_any 0 A c bs B _ hB (by omega) hl HS.out HR.out).mono ?_
  rintro e w1 ⟨rfl, hb⟩
  generalize hm : more 0 bs = m
  have HM := Lib.hid hm
  clear hm
  go_wp2_with fail
  go_ret
  exact ⟨by rw [HM.out]; rfl, hb⟩
theorem refsum_any (A : Option Addr) (c : Nat) (bs : List Nat) (B : Nat) (w : World) (hB : B ≤ w.heap.size) (hl : bs.length ≤ 9223372036854775807) (hbs : ∀ x ∈ bs, x < 256) (hr : Rd w B 1 A bs.length (bytesV bs)) :
    Calls Tryz.prog 72 #[.slice A bs.length c] w fun e w' => e = .returned (.int .i64 (more 0 bs)) ∧ Below w.heap.size w w' := by
  have HR := Lib.hid hr
  have HS := Lib.hid hbs
  clear hr hbs
  go_enter Tryz.func72, Tryz.ntmps72
  go_wp2_with fail
  refine (refmore_any 0 A c bs B _ hB (by omega) hl HS.out HR.out).mono ?_
  rintro e w1 ⟨rfl, hb⟩
  generalize hm : more 0 bs = m
  have HM := Lib.hid hm
  clear hm
  go_wp2_with fail
  go_ret
  exact ⟨by rw [HM.out]; rfl, hb⟩
theorem rd_alloc (w : World) (C : Array Value) (e : TypeId) (fr : Nat × Nat) : Rd (w.alloc (.cells C e fr)) (w.heap.size + 1) 1 (some ⟨w.heap.size, 0, none⟩) C.size C.toList := by
  have h : (w.alloc (.cells C e fr)).heap[w.heap.size]? = some (.cells C e fr) := by
    show (w.heap.push _)[w.heap.size]? = _; simp
  refine ⟨by simp, fun _ => ⟨w.heap.size, 0, rfl, by omega, fun j u hu => ?_⟩⟩
  rw [Nat.zero_add]
  simp only [World.cell?, h]
  simpa using hu
end Go.Proofs.YtjfllpmiajkenaaGreat.Sm
namespace Go.Proofs.YtjfllpmiajkenaaGreat.Sm
open Go.ChangeShapes Go.WideShapes Go.ChangeAt Go.RowKit Go.Proofs.YtjfllpmiajkenaaGreat.Mem Go.Proofs.YtjfllpmiajkenaaGreat.SumLaw
set_option linter.unusedVariables false
theorem bytesV_append (a b : List Nat) : bytesV (a ++ b) = bytesV a ++ bytesV b := by simp [bytesV]
theorem rd_one (w : World) (v : Value) (e : TypeId) : Rd (w.alloc (.cells #[v] e)) (w.heap.size + 1) 1 (some ⟨w.heap.size, 0, none⟩) 1 [v] := rd_alloc w #[v] e (0, 0)
end Go.Proofs.YtjfllpmiajkenaaGreat.Sm
namespace Go.Proofs.YtjfllpmiajkenaaGreat.Sm
open Go.ChangeShapes Go.WideShapes Go.ChangeAt Go.RowKit Go.Proofs.YtjfllpmiajkenaaGreat.Mem Go.Proofs.YtjfllpmiajkenaaGreat.SumLaw
set_option linter.unusedVariables false
theorem ownsRow_below {w w' : World} {base : Nat} {e : TypeId} {size : Nat} {v : Value} {n : Nat} {xs : List Value} (h : w.ownsRow base e size v n xs) (hb : Below w.heap.size w w') : w'.ownsRow base e size v n xs :=
  h.kept (row := none) ⟨hb.os, hb.tape, hb.output, hb.size, fun g hg _ => hb.block g hg⟩ (by cases v.ownBlock <;> simp)
theorem own_nil {w : World} {base : Nat} {e : TypeId} {size : Nat} {A : Option Addr} {n c : Nat} {xs : List Value} (h : w.ownsRow base e size (.slice A n c) n xs) : A = none → n = 0 ∧ c = 0 := by
  obtain ⟨A', c', hv, _, _, h4, _⟩ := own_form h
  injection hv with h1 h2 h3
  subst h1; subst h3
  exact h4
theorem own_cap {w : World} {base : Nat} {e : TypeId} {size : Nat} {A : Option Addr} {n c : Nat} {xs : List Value} (h : w.ownsRow base e size (.slice A n c) n xs) : n ≤ c := by
  obtain ⟨A', c', hv, h2, _, h4, _⟩ := own_form h
  injection hv with h1 h2 h3
  subst h1; subst h3
  assumption
end Go.Proofs.YtjfllpmiajkenaaGreat.Sm
namespace Go.Proofs.YtjfllpmiajkenaaGreat.Wr
open Go.ChangeShapes Go.WideShapes Go.ChangeAt Go.RowKit Go.Proofs.YtjfllpmiajkenaaGreat.Mem Go.Proofs.YtjfllpmiajkenaaGreat.Sm Go.Proofs.YtjfllpmiajkenaaGreat.SumLaw
set_option linter.unusedVariables false
def hb (v : Int) (j : Nat) : Nat := (v / 256 ^ j % 256).toNat
theorem hb_lt (v : Int) (j : Nat) : hb v j < 256 := by unfold hb; omega
theorem hb_int (v : Int) (j : Nat) : ((hb v j : Nat) : Int) = v / 256 ^ j % 256 := by unfold hb; omega
def hi (v : Int) : Nat → List Nat
  | 0 => []
  | j + 1 => hb v j :: hi v j
theorem hi_length (v : Int) : ∀ j, (hi v j).length = j
  | 0 => rfl
  | j + 1 => by simp [hi, hi_length v j]
theorem hi_small (v : Int) : ∀ j, ∀ x ∈ hi v j, x < 256
  | 0, x, h => by cases h
  | j + 1, x, h => by
    rcases List.mem_cons.1 h with rfl | h
    · exact hb_lt v j
    · exact hi_small v j x h
theorem shr_pow (v : Int) (j : Nat) : v / 2 ^ (8 * j) = v / 256 ^ j := by
  rw [Int.pow_mul]; rfl
def OwnB (base : Nat) (w w' : World) (xs : List Nat) (e : Ending) : Prop :=
  ∃ A c, e = .returned (.slice A xs.length c) ∧ w'.ownsRow base 5 1 (.slice A xs.length c) xs.length (bytesV xs) ∧ Below base w w'
def PutAt (base : Nat) (w wr : World) (xs : List Nat) (v : Int) (n : Nat) (sv si : Value) : Prop :=
  ∃ (j : Nat) (P : List Nat) (A : Option Addr) (c : Nat), j ≤ n ∧ P ++ hi v j = hi v n ∧ si = .int .i64 ((j : Int) - 1) ∧ sv = .slice A (xs ++ P).length c ∧ wr.ownsRow base 5 1 (.slice A (xs ++ P).length c) (xs ++ P).length (bytesV (xs ++ P)) ∧ Below base w wr
def OfAt (base : Nat) (w wr : World) (v : Int) (n : Nat) (sv si sb : Value) : Prop :=
  ∃ (j : Nat) (A : Option Addr) (c : Nat), j ≤ n ∧ si = .int .i64 ((n : Int) - j) ∧ sv = .int .i64 (v / 256 ^ j) ∧ sb = .slice A j c ∧ wr.ownsRow base 5 1 (.slice A j c) j (bytesV (hi v j)) ∧ Below base w wr
theorem div_step (v : Int) (j : Nat) : v / 256 ^ j / 256 = v / 256 ^ (j + 1) := by
  rw [Int.pow_succ, Int.ediv_ediv_of_nonneg (Int.pow_nonneg (by omega))]
set_option maxHeartbeats 1000000 in
theorem bytesOf_any (v : Int) (n : Nat) (w : World) (hn : n ≤ 8) :
    Calls Tryz.prog 71 #[.int .i64 v, .int .i64 (n : Int)] w fun e w' => OwnB w.heap.size w w' (hi v n) e := by
  go_enter Tryz.func71, Tryz.ntmps71
  go_wp2_with fail
  go_loopw [0, 1, 5] (fun sv si sb wr => OfAt w.heap.size w wr v n sv si sb) (fun _ i _ _ => (intOf i).toNat)
  case atStart => exact ⟨0, none, 0, by omega, by simp, by simp, rfl, World.ownsRow_nil _ _ _ _, Below.refl _ _⟩
  case round =>
    obtain ⟨j, A1, c1, hj, rfl, rfl, rfl, hown, hbel⟩ := hrel
    have HW := Lib.hid hown
    have hsz := hbel.size
    have hN := own_nil hown
    clear hown
    by_cases h0 : n = j
    · subst h0
      have e0 : (n : Int) - (n : Int) = 0 := by omega
      rw [e0]
      clear e0
      go_wp2_with fail
      go_ret
      exact ⟨A1, c1, by rw [hi_length]; rfl, by rw [hi_length]; exact HW.out, hbel⟩
    · have e3 : IntKind.u8.wrap (v / 256 ^ j) = ((hb v j : Nat) : Int) := by rw [hb_int]; simp [IntKind.wrap, IntKind.bits, IntKind.signed]
      have HD := Lib.hid (div_step v j)
      generalize v / 256 ^ j = q at *
      have hlt : (0 : Int) < (n : Int) - (j : Int) := by omega
      clear h0
      go_wp2_with (at_builtin; refine wpList_append_rd _ rfl (.tmp 12) (.tmp 13) 98 rfl (base := wr.heap.size) elemBytes rfl (World.ownsRow_lit wr #[.int .u8 ((hb v j : Nat) : Int)] 1 (Nat.le_refl _) (by unfold maxLen; omega) rfl) rfl hN ((Rd.of_own HW.out).alloc (Nat.le_refl _) _) (bytesV_one _) (by unfold maxLen; omega) (by omega) (by simp) ?_; intro A2 c2 w4 hA2 hown2 hg2)
      have hb4 := Below.grown (hbel.alloc hsz (.cells #[.int .u8 ((hb v j : Nat) : Int)] 5)) hg2 (by simp; omega) (fun g e => by have e : some wr.heap.size = some g := e; injection e with e; omega)
      refine ⟨⟨j + 1, A2, c2, by omega, ?_, by rw [HD.out], by rw [Nat.add_comm], by have h := own_weaken hown2 hsz; rw [Nat.add_comm 1 j] at h; exact h, hb4⟩, by simp [intOf]; omega⟩
      congr 1; omega
def vals (zs : List Int) : List Nat := (zs.map fun z => hi z 8).flatten
theorem vals_take (zs : List Int) (k : Nat) (hk : k < zs.length) : vals (zs.take (k + 1)) = vals (zs.take k) ++ hi zs[k] 8 := by
  unfold vals
  rw [List.take_succ_eq_append_getElem hk, List.map_append, List.flatten_append]
  simp
theorem vals_length (zs : List Int) : (vals zs).length = 8 * zs.length := by
  induction zs with
  | nil => rfl
  | cons z zs ih =>
    have : vals (z :: zs) = hi z 8 ++ vals zs := rfl
    rw [this, List.length_append, hi_length, ih, List.length_cons]; omega
theorem vals_small (zs : List Int) : ∀ x ∈ vals zs, x < 256 := fun x h => by
  unfold vals at h
  obtain ⟨l, hl, hx⟩ := List.mem_flatten.1 h
  obtain ⟨z, _, rfl⟩ := List.mem_map.1 hl
  exact hi_small z 8 x hx
end Go.Proofs.YtjfllpmiajkenaaGreat.Wr
namespace Go.Proofs.YtjfllpmiajkenaaGreat.Nd
open Go.RowKit Go.Proofs.YtjfllpmiajkenaaGreat.Mem Go.Proofs.YtjfllpmiajkenaaGreat.Rws Go.Proofs.YtjfllpmiajkenaaGreat.Flat Go.Proofs.YtjfllpmiajkenaaGreat.Sm Go.Proofs.YtjfllpmiajkenaaGreat.SumLaw Go.Proofs.YtjfllpmiajkenaaGreat.Wr
set_option linter.unusedVariables false
set_option linter.unusedSimpArgs false
def digestZ (f : Nat → Value) : Int := more 0 (vals (packZ f))
def DigI (base : Nat) (w wr : World) (zs : List Int) (i : Nat) (sv : Value) : Prop :=
  ∃ (A : Option Addr) (c : Nat), sv = .slice A (8 * i) c ∧ wr.ownsRow base 5 1 (.slice A (8 * i) c) (8 * i) (bytesV (vals (zs.take i))) ∧ Below base w wr
theorem vals_len (zs : List Int) {i : Nat} (h : i ≤ zs.length) : (vals (zs.take i)).length = 8 * i := by rw [vals_length, List.length_take]; omega
set_option maxRecDepth 100000 in
set_option maxHeartbeats 2000000 in
theorem digest_any (f : Nat → Value) (hf : ∀ i, i < 73 → okT (nodeT i) (f i)) (S : Value) (w : World) :
    Calls Tryz.prog 29 #[.agg (row 74 (nodeW f S))] w fun e w' => e = .returned (.int .i64 (digestZ f)) ∧ Below w.heap.size w w' := by
  have HF := Lib.hid hf
  have hi74 : (Tryz.prog.info? 37).map (·.size) = some (row 74 (nodeW f S)).size := by rw [row_size]; kernel_rfl
  have H1 := Lib.hid (Blk.fresh w 37 (row 74 (nodeW f S)))
  have HB := Lib.hid ((Below.refl w.heap.size w).alloc (Nat.le_refl _) (.cells (row 74 (nodeW f S)) 37))
  obtain ⟨R, hR⟩ : ∃ R, row 74 (nodeW f S) = R := ⟨_, rfl⟩
  have HR := Lib.hid hR
  rw [hR] at hi74 H1 HB ⊢
  clear hR hf
  go_enter Tryz.func29, Tryz.ntmps29
  go_wp2_with (refine wpList_whole rfl 37 _ rfl w.heap.size rfl H1.out _ Tryz.underlying37 rfl hi74 ?_)
  rw [← HR.out]
  refine (pack_any f HF.out S _).mono ?_
  rintro e w1 ⟨AP, cp, rfl, hpo, hb⟩
  rw [HR.out]
  have HD := Lib.hid (show digestZ f = more 0 (vals (packZ f)) from rfl)
  have hzl := packZ_len f
  obtain ⟨zs, hzs⟩ : ∃ zs, packZ f = zs := ⟨_, rfl⟩
  rw [hzs] at hpo HD hzl
  have HP := Lib.hid (Rd.of_own hpo)
  have HL := Lib.hid hzl
  have HB := Lib.hid (by rw [HR.out] at hb; exact onward HB.out (Nat.le_refl _) hb)
  clear hpo hb hzs hzl H1 hi74
  go_wp2_with fail
  go_loopw [3, 10] (fun sv si wr => ∃ i : Nat, i ≤ 24 ∧ si = .int .i64 i ∧ DigI w1.heap.size w1 wr zs i sv) (fun _ si _ => 24 - (intOf si).toNat)
  case atStart => exact ⟨0, by omega, rfl, none, 0, rfl, World.ownsRow_nil _ _ _ _, Below.refl _ _⟩
  case round =>
    obtain ⟨i, hi_, rfl, A, c, rfl, hown, hbel⟩ := hrel
    have HO := Lib.hid hown
    have HW := Lib.hid hbel
    clear hown hbel
    by_cases hlt : i < 24
    · obtain ⟨b, o, u, rfl, hbB, hu, hcell⟩ := (HP.out.below HW.out).at hlt
      have hlz : i < zs.length := by rw [HL.out]; exact hlt
      rw [Ms.intsV_at zs i hlz] at hu
      obtain rfl := Option.some.inj hu
      have HV := Lib.hid (vals_take zs i hlz)
      generalize zs[i] = v at *
      have hl0 : (0 : Int) ≤ (i : Int) := by omega
      have hl1 : (i : Int) < 24 := by omega
      have HI := Lib.hid hlt
      have HX := Lib.hid (vals_len zs (Nat.le_of_lt hlz))
      clear hu hlz hlt
      obtain ⟨xs, hxs⟩ : ∃ xs, vals (zs.take i) = xs := ⟨_, rfl⟩
      rw [hxs] at HO HV HX
      rw [← HX.out] at HO
      rw [show (8 * i) = xs.length from HX.out.symm]
      clear hxs
      go_wp2_with fail
      generalize wr = wq at *
      go_loopw [3, 6] (fun sv si wr => PutAt w1.heap.size wq wr xs v 8 sv si) (fun _ i _ => (intOf i + 1).toNat)
      case atStart => exact ⟨8, [], A, c, Nat.le_refl _, rfl, rfl, by rw [List.append_nil], by rw [List.append_nil]; exact HO.out, Below.refl _ _⟩
      case round =>
        obtain ⟨j, P, A1, c1, hj, hP, rfl, rfl, hown, hbel⟩ := hrel
        have HPP := Lib.hid hP
        have HW2 := Lib.hid hown
        have hsz := hbel.size
        have hsz1 := HW.out.size
        have hlen : (xs ++ P).length + j = xs.length + 8 := by
          have := congrArg List.length hP
          simp only [List.length_append, hi_length] at this ⊢
          omega
        have hxl : xs.length ≤ 200 := by have := HX.out; have := HI.out; omega
        obtain ⟨m, hm⟩ : ∃ m, (xs ++ P).length = m := ⟨_, rfl⟩
        rw [hm] at HW2 hlen ⊢
        have HM := Lib.hid hm
        clear hP hown hm
        by_cases h0 : j = 0
        · subst h0
          have HE := Lib.hid (show xs ++ hi v 8 = xs ++ P by rw [← HPP.out]; simp [hi])
          have HN := Lib.hid (show m = 8 * (i + 1) by have := HX.out; omega)
          rw [HN.out] at HW2 ⊢
          go_wp2_with fail
          exact ⟨⟨i + 1, by have := HI.out; omega, by go_num, A1, c1, rfl, by rw [HV.out, HE.out]; exact HW2.out, HW.out.trans hbel⟩, by have := HI.out; simp [intOf]; omega⟩
        · obtain ⟨q, rfl⟩ : ∃ i, j = i + 1 := ⟨j - 1, by omega⟩
          have e1 : ((q + 1 : Nat) : Int) - 1 = (q : Int) := by omega
          rw [e1]
          clear e1 h0
          have e2 : (8 * (q : Int)).toNat = 8 * q := by omega
          have e3 : IntKind.u8.wrap (v / 2 ^ (8 * q)) = ((hb v q : Nat) : Int) := by rw [shr_pow, hb_int]; simp [IntKind.wrap, IntKind.bits, IntKind.signed]
          go_wp2_with (at_builtin; refine wpList_append_rd _ rfl (.tmp 18) (.tmp 25) 98 rfl elemBytes rfl (HW2.out.alloc _) rfl (by simp) (rd_one _ _ _) (by simp [Value.oneCell']) (by unfold maxLen; omega) (by omega) (by simp; omega) ?_; intro A2 c2 w4 hA2 hown2 hg2)
          have hb4 := Below.grown (hbel.alloc (Nat.le_trans hsz1 hsz) (.cells #[.int .u8 ((hb v q : Nat) : Int)] 5)) hg2 (by simp; omega) (fun g e => (HW2.out.lt g e).1)
          have hlen2 : (xs ++ (P ++ [hb v q])).length = m + 1 := by rw [← List.append_assoc, List.length_append, HM.out]; rfl
          refine ⟨⟨q, P ++ [hb v q], A2, c2, by omega, by rw [← HPP.out, List.append_assoc]; rfl, rfl, by rw [hlen2], ?_, hb4⟩, by simp [intOf]⟩
          rw [hlen2, ← List.append_assoc, bytesV_append]
          exact hown2
    · obtain rfl : i = 24 := by omega
      rw [show ((24 : Nat) : Int) = 24 from rfl]
      have e8 : 8 * 24 = (vals zs).length := by rw [vals_length, HL.out]
      have et : zs.take 24 = zs := List.take_of_length_le (by rw [HL.out]; omega)
      rw [et, e8] at HO
      rw [e8]
      have C := Lib.hid (sum_any A c (vals zs) wr.heap.size wr (Nat.le_refl _) (by rw [← e8]; omega) (vals_small zs) (Rd.of_own HO.out))
      rw [← HD.out] at C
      clear e8 et hlt
      obtain ⟨L, hL⟩ : ∃ L, (vals zs).length = L := ⟨_, rfl⟩
      rw [hL] at C ⊢
      clear hL
      go_wp2_with fail
      refine C.out.mono ?_
      rintro e w5 ⟨rfl, hb⟩
      have HB := Lib.hid (onward (HB.out.trans (HW.out.mono HB.out.size)) (Nat.le_refl _) hb)
      clear hb
      go_wp2_with fail
      go_ret
      exact ⟨rfl, HB.out⟩
set_option maxRecDepth 100000 in
set_option maxHeartbeats 2000000 in
theorem refdigest_any (f : Nat → Value) (hf : ∀ i, i < 73 → okT (nodeT i) (f i)) (S : Value) (w : World) :
    Calls Tryz.prog 36 #[.agg (row 74 (nodeW f S))] w fun e w' => e = .returned (.int .i64 (digestZ f)) ∧ Below w.heap.size w w' := by
  have HF := Lib.hid hf
  have hi74 : (Tryz.prog.info? 37).map (·.size) = some (row 74 (nodeW f S)).size := by rw [row_size]; kernel_rfl
  have H1 := Lib.hid (Blk.fresh w 37 (row 74 (nodeW f S)))
  have HB := Lib.hid ((Below.refl w.heap.size w).alloc (Nat.le_refl _) (.cells (row 74 (nodeW f S)) 37))
  obtain ⟨R, hR⟩ : ∃ R, row 74 (nodeW f S) = R := ⟨_, rfl⟩
  have HR := Lib.hid hR
  rw [hR] at hi74 H1 HB ⊢
  clear hR hf
  go_enter Tryz.func36, Tryz.ntmps36
  go_wp2_with (refine wpList_whole rfl 37 _ rfl w.heap.size rfl H1.out _ Tryz.underlying37 rfl hi74 ?_)
  rw [← HR.out]
  refine (packed_any f HF.out S _).mono ?_
  rintro e w1 ⟨AP, cp, rfl, hpo, hb⟩
  rw [HR.out]
  have HD := Lib.hid (show digestZ f = more 0 (vals (packZ f)) from rfl)
  have hzl := packZ_len f
  obtain ⟨zs, hzs⟩ : ∃ zs, packZ f = zs := ⟨_, rfl⟩
  rw [hzs] at hpo HD hzl
  have HP := Lib.hid (Rd.of_own hpo)
  have HL := Lib.hid hzl
  have HB := Lib.hid (by rw [HR.out] at hb; exact onward HB.out (Nat.le_refl _) hb)
  clear hpo hb hzs hzl H1 hi74
  go_wp2_with fail
  go_loopw [3, 9] (fun sv si wr => ∃ i : Nat, i ≤ 24 ∧ si = .int .i64 i ∧ DigI w1.heap.size w1 wr zs i sv) (fun _ si _ => 24 - (intOf si).toNat)
  case atStart => exact ⟨0, by omega, rfl, none, 0, rfl, World.ownsRow_nil _ _ _ _, Below.refl _ _⟩
  case round =>
    obtain ⟨i, hi_, rfl, A, c, rfl, hown, hbel⟩ := hrel
    have HO := Lib.hid hown
    have HW := Lib.hid hbel
    clear hown hbel
    by_cases hlt : i < 24
    · obtain ⟨b, o, u, rfl, hbB, hu, hcell⟩ := (HP.out.below HW.out).at hlt
      have hlz : i < zs.length := by rw [HL.out]; exact hlt
      rw [Ms.intsV_at zs i hlz] at hu
      obtain rfl := Option.some.inj hu
      have HV := Lib.hid (vals_take zs i hlz)
      generalize zs[i] = v at *
      have hl0 : (0 : Int) ≤ (i : Int) := by omega
      have hl1 : (i : Int) < 24 := by omega
      have HI := Lib.hid hlt
      clear hu hlz hlt
      have CB := Lib.hid (fun w => bytesOf_any v 8 w (by omega))
      have hsz1 := HW.out.size
      go_wp2_with fail
      refine (CB.out _).mono ?_
      rintro e w4 ⟨A4, c4, rfl, hown4, hb4⟩
      rw [hi_length] at hown4 ⊢
      have HO := Lib.hid (Nd.ownsRow_below HO.out hb4)
      have HW := Lib.hid (onward HW.out (Nat.le_refl _) hb4)
      have HO4 := Lib.hid hown4
      have hsz4 := HW.out.size
      have hi24 := HI.out
      clear hown4 hb4 CB hcell
      go_wp2_with (at_builtin; refine wpList_append_rd _ rfl (.tmp 13) (.tmp 15) 98 rfl (base := w1.heap.size) elemBytes rfl HO.out rfl (fun h => own_nil HO4.out h) (Rd.of_own HO4.out) (bytesV_one _) (by unfold maxLen; omega) (by omega) hsz4 ?_; intro A9 c9 w5 hA9 hown5 hg5; have HO5 := Lib.hid hown5; have HW5 := Lib.hid (Below.grown HW.out hg5 hsz4 (fun g e => (HO.out.lt g e).1)); clear hown5 hg5)
      have HN := Lib.hid (show 8 * i + 8 = 8 * (i + 1) by omega)
      rw [HN.out] at HO5 ⊢
      exact ⟨⟨i + 1, by omega, by go_num, A9, c9, rfl, by rw [HV.out, bytesV_append]; exact HO5.out, HW5.out⟩, by simp [intOf]; omega⟩
    · obtain rfl : i = 24 := by omega
      rw [show ((24 : Nat) : Int) = 24 from rfl]
      have e8 : 8 * 24 = (vals zs).length := by rw [vals_length, HL.out]
      have et : zs.take 24 = zs := List.take_of_length_le (by rw [HL.out]; omega)
      rw [et, e8] at HO
      rw [e8]
      have C := Lib.hid (refsum_any A c (vals zs) wr.heap.size wr (Nat.le_refl _) (by rw [← e8]; omega) (vals_small zs) (Rd.of_own HO.out))
      rw [← HD.out] at C
      clear e8 et hlt
      obtain ⟨L, hL⟩ : ∃ L, (vals zs).length = L := ⟨_, rfl⟩
      rw [hL] at C ⊢
      clear hL
      go_wp2_with fail
      refine C.out.mono ?_
      rintro e w5 ⟨rfl, hb⟩
      have HB := Lib.hid (onward (HB.out.trans (HW.out.mono HB.out.size)) (Nat.le_refl _) hb)
      clear hb
      go_wp2_with fail
      go_ret
      exact ⟨rfl, HB.out⟩
end Go.Proofs.YtjfllpmiajkenaaGreat.Nd
namespace Go.Proofs.YtjfllpmiajkenaaGreat.Nd
open Go.RowKit Go.Proofs.YtjfllpmiajkenaaGreat.Mem Go.Proofs.YtjfllpmiajkenaaGreat.Rws Go.Proofs.YtjfllpmiajkenaaGreat.Flat
set_option linter.unusedVariables false
set_option linter.unusedSimpArgs false
theorem run_index_slices (s : Nat → Value) (k : Nat) (hk : k < 4) (w : World) : (Instr.index 70 (.agg (row 4 s)) (.int .i64 (k : Int))).run Tryz.prog w = .ok (s k) w :=
  run_index_row Tryz.underlying70 Tryz.underlying39 rfl (by kernel_rfl) s k hk w
end Go.Proofs.YtjfllpmiajkenaaGreat.Nd
namespace Go.Proofs.YtjfllpmiajkenaaGreat.Nd
open Go.RowKit Go.Proofs.YtjfllpmiajkenaaGreat.Mem Go.Proofs.YtjfllpmiajkenaaGreat.Rws Go.Proofs.YtjfllpmiajkenaaGreat.Flat
set_option linter.unusedVariables false
def kindV : Value → Option Bool
  | .int .i64 _ => some true
  | .bool _ => some false
  | _ => none
theorem ok_kind {v : Value} {b : Bool} (h : kindV v = some b) : okT b v := by
  unfold kindV at h
  split at h
  · cases h; exact ⟨_, rfl⟩
  · cases h; exact ⟨_, rfl⟩
  · cases h
theorem ok_rows {f : Nat → Value} (h : (List.range 73).map (fun i => kindV (f i)) = (List.range 73).map (fun i => some (nodeT i))) : ∀ i, i < 73 → okT (nodeT i) (f i) := fun i hi => by
  have h1 := congrArg (·[i]?) h
  simp [hi] at h1
  exact ok_kind h1
theorem ok_node (id t0 t1 t2 t3 : Int) : ∀ i, i < 73 → okT (nodeT i) (nodeK id t0 t1 t2 t3 3 i) := ok_rows (by kernel_rfl)
theorem last_node (id t0 t1 t2 t3 : Int) : row 74 (nodeK id t0 t1 t2 t3 3) = row 74 (nodeW (nodeK id t0 t1 t2 t3 3) (.slice none 0 0)) :=
  row_congr fun i hi => by
    unfold nodeW
    by_cases h : i = 73
    · subst h; rw [if_pos rfl]; rfl
    · rw [if_neg h]
end Go.Proofs.YtjfllpmiajkenaaGreat.Nd
namespace Go.Proofs.YtjfllpmiajkenaaGreat.Nd
open Go.RowKit Go.Proofs.YtjfllpmiajkenaaGreat.Mem Go.Proofs.YtjfllpmiajkenaaGreat.Rws Go.Proofs.YtjfllpmiajkenaaGreat.Flat
set_option linter.unusedVariables false
theorem good_id {f : Nat → Value} {id : Int} (hid : f 0 = .int .i64 id) (hb : badId id = false) : ∃ k : Nat, k < 4 ∧ f 0 = .int .i64 (k : Int) := by
  have hr : 0 ≤ id ∧ id < 4 := by unfold badId at hb; simp at hb; omega
  exact ⟨id.toNat, by omega, by rw [hid]; congr 1; omega⟩
theorem two_cells (w : World) (t u : TypeId) (zt zu R S : Array Value) : Below w.heap.size w ((((w.alloc (.cells zt t)).alloc (.cells zu u)).setRow w.heap.size R).setRow (w.heap.size + 1) S) ∧
    Blk ((((w.alloc (.cells zt t)).alloc (.cells zu u)).setRow w.heap.size R).setRow (w.heap.size + 1) S) w.heap.size t R ∧ Blk ((((w.alloc (.cells zt t)).alloc (.cells zu u)).setRow w.heap.size R).setRow (w.heap.size + 1) S) (w.heap.size + 1) u S ∧ w.heap.size + 1 < ((((w.alloc (.cells zt t)).alloc (.cells zu u)).setRow w.heap.size R).setRow (w.heap.size + 1) S).heap.size := by
  have h1 : Blk ((w.alloc (.cells zt t)).alloc (.cells zu u)) w.heap.size t zt := (Blk.fresh _ _ _).alloc _
  have h2 : Blk ((w.alloc (.cells zt t)).alloc (.cells zu u)) (w.heap.size + 1) u zu := Blk.new (by simp)
  have hb := below_setRow (below_setRow (((Below.refl w.heap.size w).alloc (Nat.le_refl _) (.cells zt t)).alloc (by simp) (.cells zu u)) (Nat.le_refl w.heap.size) R) (show w.heap.size ≤ w.heap.size + 1 by omega) S
  have k2 := (h2.setRow_other (g' := w.heap.size) (by omega) R).setRow S
  exact ⟨hb, (h1.setRow R).setRow_other (by omega) S, k2, k2.lt⟩
end Go.Proofs.YtjfllpmiajkenaaGreat.Nd
namespace Go.Proofs.YtjfllpmiajkenaaGreat.MajLaw
def vstep (s : Nat × Int) (v : Int) : Nat × Int := if s.1 = 0 then (1, v) else if v = s.2 then (s.1 + 1, s.2) else (s.1 - 1, s.2)
def left (l : List Int) : Nat × Int := l.foldl vstep (0, 0)
def cnt (x : Int) (l : List Int) : Nat := l.count x
theorem left_snoc (l : List Int) (v : Int) : left (l ++ [v]) = vstep (left l) v := by simp [left]
theorem cnt_snoc (x : Int) (l : List Int) (v : Int) : cnt x (l ++ [v]) = cnt x l + if v = x then 1 else 0 := by
  unfold cnt
  rw [List.count_append, List.count_singleton]
  simp
theorem cnt_le (x : Int) (l : List Int) : cnt x l ≤ l.length := List.count_le_length
theorem left_inv (l : List Int) : ∀ x, 2 * cnt x l + (left l).1 ≤ l.length + (if x = (left l).2 then 2 * (left l).1 else 0) := by
  suffices h : ∀ (r : List Int), (∀ x, 2 * cnt x r.reverse + (left r.reverse).1 ≤ r.reverse.length + (if x = (left r.reverse).2 then 2 * (left r.reverse).1 else 0)) by
    have := h l.reverse
    rwa [List.reverse_reverse] at this
  intro r
  induction r with
  | nil => intro x; simp [cnt, left]
  | cons v r ih =>
    intro x
    have h := ih x
    have hv := ih v
    rw [List.reverse_cons, left_snoc, cnt_snoc, List.length_append, List.length_singleton]
    generalize left r.reverse = s at h hv ⊢
    obtain ⟨n, a⟩ := s
    simp only at h hv ⊢
    unfold vstep
    simp only
    by_cases h0 : n = 0
    · subst h0
      rw [if_pos rfl]
      by_cases e : v = x
      · subst e; simp at *; omega
      · rw [if_neg e]; simp [Ne.symm e] at *; omega
    · rw [if_neg h0]
      by_cases e1 : v = a
      · subst e1
        rw [if_pos rfl]
        by_cases e : v = x
        · subst e; simp at *; omega
        · rw [if_neg e]; simp [Ne.symm e] at *; omega
      · rw [if_neg e1]
        by_cases e : v = x
        · subst e
          rw [if_pos rfl]; simp [e1] at *; omega
        · rw [if_neg e]
          by_cases e2 : x = a
          · subst e2; simp at *; omega
          · simp [e2] at *; omega
def maj (l : List Int) (other : Int) : Int := if l.length < 2 * cnt (left l).2 l then (left l).2 else other
theorem left_of_more {l : List Int} {x : Int} (h : l.length < 2 * cnt x l) : (left l).2 = x := by
  have := left_inv l x
  by_cases e : x = (left l).2
  · exact e.symm
  · rw [if_neg e] at this; omega
theorem maj_found {l : List Int} {x o : Int} (h : l.length < 2 * cnt x l) : maj l o = x := by
  have e := left_of_more h
  unfold maj; rw [e, if_pos h]
theorem maj_none {l : List Int} {o : Int} (h : ∀ i (hi : i < l.length), ¬ l.length < 2 * cnt l[i] l) : maj l o = o := by
  unfold maj
  refine if_neg fun hm => ?_
  have h0 : 0 < cnt (left l).2 l := by omega
  obtain ⟨i, hi, e⟩ := List.getElem_of_mem (List.count_pos_iff.1 h0)
  exact h i hi (by rw [e]; exact hm)
theorem left_take (l : List Int) (k : Nat) (hk : k < l.length) : left (l.take (k + 1)) = vstep (left (l.take k)) l[k] := by
  rw [List.take_succ_eq_append_getElem hk, left_snoc]
theorem left_le (l : List Int) : (left l).1 ≤ l.length := by
  have h := left_inv l ((left l).2 + 1)
  rw [if_neg (by omega)] at h
  omega
theorem cnt_take (x : Int) (l : List Int) (k : Nat) (hk : k < l.length) : cnt x (l.take (k + 1)) = cnt x (l.take k) + if l[k] = x then 1 else 0 := by
  rw [List.take_succ_eq_append_getElem hk, cnt_snoc]
theorem vstep_zero {n : Nat} {a v : Int} (h : n = 0) : vstep (n, a) v = (1, v) := by unfold vstep; rw [if_pos h]
theorem vstep_same {n : Nat} {a v : Int} (h : n ≠ 0) (e : v = a) : vstep (n, a) v = (n + 1, a) := by unfold vstep; rw [if_neg h, if_pos e]
theorem vstep_other {n : Nat} {a v : Int} (h : n ≠ 0) (e : v ≠ a) : vstep (n, a) v = (n - 1, a) := by unfold vstep; rw [if_neg h, if_neg e]
end Go.Proofs.YtjfllpmiajkenaaGreat.MajLaw
namespace Go.Proofs.YtjfllpmiajkenaaGreat.Ints
open Go.ChangeShapes Go.WideShapes Go.ChangeAt Go.RowKit Go.Proofs.YtjfllpmiajkenaaGreat.Mem
set_option linter.unusedVariables false
def intsV (zs : List Int) : List Value := zs.map (Value.int .i64)
theorem intsV_at (zs : List Int) (k : Nat) (hk : k < zs.length) : (intsV zs)[k]? = some (.int .i64 zs[k]) := by simp [intsV, hk]
theorem intsV_one (zs : List Int) : ∀ u ∈ intsV zs, u.oneCell' = true := fun u hu => by
  obtain ⟨z, _, rfl⟩ := List.mem_map.1 hu
  rfl
theorem elemInts : Elem Tryz.prog 39 3 (.int .i64 0) 1 8 := ⟨Tryz.underlying39, by kernel_rfl, rfl, by omega⟩
theorem rd_of_blk {w : World} {g : Nat} {t : TypeId} {cs : Array Value} (h : Blk w g t cs) : Rd w (g + 1) 1 (some ⟨g, 0, none⟩) cs.size cs.toList :=
  ⟨by simp, fun _ => ⟨g, 0, rfl, by omega, fun j u hu => by rw [Nat.zero_add, h.cell]; simpa using hu⟩⟩
end Go.Proofs.YtjfllpmiajkenaaGreat.Ints
namespace Go.Proofs.YtjfllpmiajkenaaGreat.Av
set_option linter.unusedVariables false
def upd (S : Nat → Nat → Int) (i j : Nat) (v : Int) : Nat → Nat → Int := fun a b => if a = i ∧ b = j then v else S a b
def tells (s r q : Nat) : Prop := r ≠ s ∧ q ≠ s ∧ q ≠ r
instance (s r q : Nat) : Decidable (tells s r q) := inferInstanceAs (Decidable (_ ∧ _ ∧ _))
def toldF (s q : Nat) (S : Nat → Nat → Int) (r : Nat) : List Int := ((List.range r).filter fun p => decide (p ≠ s ∧ p ≠ q)).map fun p => S p q
theorem toldF_succ (s q : Nat) (S : Nat → Nat → Int) (r : Nat) : toldF s q S (r + 1) = toldF s q S r ++ if r ≠ s ∧ r ≠ q then [S r q] else [] := by
  unfold toldF
  rw [List.range_succ, List.filter_append, List.map_append]
  congr 1
  by_cases h : r ≠ s ∧ r ≠ q
  · rw [if_pos h]; simp [h]
  · rw [if_neg h]; simp [h]
theorem toldF_length : ∀ s q, s < 4 → q < 4 → q ≠ s → ∀ S, (toldF s q S 4).length = 2 := by
  intro s q hs hq hne S
  unfold toldF
  rw [List.length_map]
  rcases (show s = 0 ∨ s = 1 ∨ s = 2 ∨ s = 3 by omega) with rfl | rfl | rfl | rfl <;> rcases (show q = 0 ∨ q = 1 ∨ q = 2 ∨ q = 3 by omega) with rfl | rfl | rfl | rfl <;> first | rfl | exact absurd rfl hne
end Go.Proofs.YtjfllpmiajkenaaGreat.Av
