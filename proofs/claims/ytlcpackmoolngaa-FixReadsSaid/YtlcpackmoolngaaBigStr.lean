/- fourwatchbig.Int: SetString of decimal digits. -/
import Derived.Test.YtlcpackmoolngaaBigMul
import Derived.Test.YtlcpackmoolngaaBigI
import Derived.Test.YtlcpackmoolngaaFixCut
import Derived.Test.YtlcpackmoolngaaReadLaw2
namespace Go.Proofs.Ytlcpackmoolngaa.Tx
open Go.RowKit Go.Proofs.Ytlcpackmoolngaa.Mem Go.Proofs.Ytlcpackmoolngaa.Rws Go.Proofs.Ytlcpackmoolngaa.Sm Go.Proofs.Ytlcpackmoolngaa.ReadLaw Go.Proofs.Ytlcpackmoolngaa.BigW Go.Proofs.Ytlcpackmoolngaa.BigLaw
set_option linter.unusedVariables false

theorem index00_strB {s : ByteArray} {l : List Nat} {x : Nat} (hs : s = strB l) (hl : ∀ y ∈ l, y < 256) (hm : 0 < l.length) (hx : l.getD 0 0 = x) (w : World) : (Instr.index 9 (.string s) (.int .i64 0)).run Try.prog w = .ok (.int .u8 (x : Int)) w :=
  index_strB (m := 0) hs hl hm hx rfl w
theorem dg_getD {l : List Nat} (h : l.all dg = true) {k : Nat} (hk : k < l.length) : 48 ≤ l.getD k 0 ∧ l.getD k 0 ≤ 57 := by
  refine of_decide_eq_true (show dg (l.getD k 0) = true from (List.all_eq_true.1 h) _ ?_)
  rw [List.getD_eq_getElem?_getD, List.getElem?_eq_getElem hk]; exact List.getElem_mem hk
theorem dg_256 {l : List Nat} (h : l.all dg = true) : ∀ y ∈ l, y < 256 := fun y hy => by
  have := of_decide_eq_true ((List.all_eq_true.1 h) y hy); omega
theorem ten_pow_pw {k : Nat} (h : k ≤ 100) : 10 ^ k < pw 50 := by
  obtain ⟨m, hm⟩ : ∃ m, m = 100 := ⟨_, rfl⟩
  have h1 : (10 : Nat) ^ k ≤ 10 ^ m := Nat.pow_le_pow_right (by omega) (by omega)
  have h2 : (10 : Nat) ^ m ≤ 16 ^ m := Nat.pow_le_pow_left (by omega) _
  have h3 : (16 : Nat) ^ m = 2 ^ (4 * m) := by rw [show (16 : Nat) = 2 ^ 4 from rfl, ← Nat.pow_mul]
  obtain ⟨q, hq⟩ : ∃ q, q = 32 * 50 := ⟨_, rfl⟩
  have h4 : (2 : Nat) ^ (4 * m) < 2 ^ q := Nat.pow_lt_pow_right (by omega) (by omega)
  rw [pw_two, ← hq]
  omega

theorem ten_mul {k m : Nat} (h : m < 10 ^ k) (hk : k + 1 ≤ 100) : m * 10 < pw 50 := by
  refine Nat.lt_of_lt_of_le ?_ (Nat.le_of_lt (ten_pow_pw hk))
  rw [Nat.pow_succ]
  omega

set_option maxRecDepth 100000 in
set_option maxHeartbeats 2000000 in
theorem setString_any (p : Nat) (l : List Nat) (w : World) (hp : IsInt w p) (hl : l.all dg = true) (h0 : l ≠ []) (hn : l.length ≤ 100) :
    Calls Try.prog 45 #[.pointer (some ⟨p, 0, none⟩), .string (strB l), .int .i64 10] w fun e w' => e = .returned (.tuple #[.pointer (some ⟨p, 0, none⟩), .bool true]) ∧ BigAt w' p (num l : Int) ∧ w.grownBy w' (some p) := by
  obtain ⟨S, hS⟩ : ∃ S, S = strB l := ⟨_, rfl⟩
  obtain ⟨n, hnn⟩ : ∃ n, n = l.length := ⟨_, rfl⟩
  have hsz : S.size = n := by rw [hS, strB_size, hnn]
  rw [← hS]
  have HP := Lib.hid hp
  have HPL := Lib.hid hp.lt
  have HS := Lib.hid hS
  have HL := Lib.hid hl
  have HL2 := Lib.hid (dg_256 hl)
  have HN := Lib.hid hnn
  have hn2 : n ≤ 100 := by omega
  have hlp : 0 < l.length := List.length_pos_iff.2 h0
  have hs0 : 0 < S.size := by omega
  have hs0' : ((S.size : Int) == 0) = false := by rw [beq_eq_false_iff_ne]; omega
  have hse : ¬ S.size = 0 := by omega
  obtain ⟨x, hx⟩ : ∃ x, l.getD 0 0 = x := ⟨_, rfl⟩
  have hxd := dg_getD hl hlp
  rw [hx] at hxd
  have hx45 : ((x : Int) == 45) = false := by rw [beq_eq_false_iff_ne]; omega
  have hx43 : ((x : Int) == 43) = false := by rw [beq_eq_false_iff_ne]; omega
  have hix := index00_strB hS (dg_256 hl) hlp hx
  have HZ := Lib.hid hsz
  clear hS hl hnn hn hsz hp h0 hlp hx hxd
  go_enter Try.func45, Try.ntmps45
  go_upto_region 24 with fail
  clear hix hx45 hx43
  go_loopw [9, 10, 11, 12] (fun r i _ _ wr => ∃ (k : Nat) (A : Option Addr) (c : Nat) (ws : List Nat), k ≤ n ∧ i = .int .i64 (k : Int) ∧ r = .slice A ws.length c ∧ Wd wr wr.heap.size A c ws ∧ trimd ws ∧ val ws = num (l.take k) ∧ Below w.heap.size w wr) (fun _ i _ _ _ => n - (intOf i).toNat)
  case atStart => exact ⟨0, none, 0, [], by omega, rfl, rfl, Wd.nil _ _, fun h => by simp at h, rfl, Below.refl _ _⟩
  case round =>
    obtain ⟨k, A, c, ws, hk, rfl, rfl, hw, ht, hv, hb⟩ := hrel
    have HW := Lib.hid hw
    have HT := Lib.hid ht
    have HV := Lib.hid hv
    have HLT := Lib.hid (num_take_lt HL.out k)
    have HB := Lib.hid hb
    have HWL := Lib.hid (show ws.length ≤ 1000000 from len_of (z := ((num (l.take k) : Nat) : Int)) ht hv (Nat.lt_trans (num_take_lt HL.out k) (Nat.lt_of_lt_of_le (ten_pow_pw (by omega)) (pw_le (by omega)))))
    clear hw ht hv hb
    by_cases hlt : k < n
    · have hkl : k < l.length := by rw [← HN.out]; exact hlt
      have hks : k < S.size := by rw [HZ.out]; exact hlt
      obtain ⟨y, hy⟩ : ∃ y, l.getD k 0 = y := ⟨_, rfl⟩
      have hyd := dg_getD HL.out hkl
      rw [hy] at hyd
      obtain ⟨hy1, hy2⟩ := hyd
      have hixk : ∀ w, (Instr.index 9 (.string S) (.int .i64 (k : Int))).run Try.prog w = .ok (.int .u8 (y : Int)) w := index_strB HS.out HL2.out hkl hy rfl
      have HNT := Lib.hid (num_take l k hkl)
      rw [hy] at HNT
      have e1 : (y : Int) - 48 = ((y - 48 : Nat) : Int) := by omega
      have hz9 : y - 48 < 10 := by omega
      generalize hz : y - 48 = z at e1 hz9 HNT
      have b1 : (48 : Int) ≤ (y : Int) := by omega
      have b2 : (y : Int) ≤ 57 := by omega
      clear hy hkl
      go_wp2_with fail
      refine (words_any 10 (by omega) _).mono ?_
      rintro e w1 ⟨A1, c1, l1, rfl, hw1, ht1, hv1, hb1⟩
      have HW1 := Lib.hid hw1
      have HL1 := Lib.hid (show l1.length ≤ 1000000 from len_of (z := ((10 : Nat) : Int)) ht1 hv1 (Nat.lt_of_lt_of_le (show 10 < pw 1 by unfold pw; omega) (pw_le (by omega))))
      have HV1 := Lib.hid hv1
      have HWB := Lib.hid ((HW.out.below hb1).more hb1.size)
      have HB1 := Lib.hid (onward HB.out (Nat.le_refl _) hb1)
      clear hw1 ht1 hv1 hb1
      go_wp2_with fail
      refine (mul_any A A1 c c1 ws l1 _ _ (Nat.le_refl _) HWB.out HW1.out HWL.out HL1.out).mono ?_
      rintro e w2 ⟨A2, c2, l2, rfl, hw2, ht2, hv2, hb2⟩
      rw [HV.out, HV1.out] at hv2
      have HW2 := Lib.hid hw2
      have HL2' := Lib.hid (show l2.length ≤ 1000000 from len_of (z := ((num (l.take k) * 10 : Nat) : Int)) ht2 hv2 (by
        show num (l.take k) * 10 < pw 100
        refine Nat.lt_of_lt_of_le (ten_mul HLT.out (by omega)) (pw_le (by omega))))
      have HV2 := Lib.hid hv2
      have HB2 := Lib.hid (onward HB1.out (Nat.le_refl _) hb2)
      clear hw2 ht2 hv2 hb2
      go_wp2_with fail
      refine (words_any z (by omega) _).mono ?_
      rintro e w3 ⟨A3, c3, l3, rfl, hw3, ht3, hv3, hb3⟩
      have HW3 := Lib.hid hw3
      have HL3 := Lib.hid (show l3.length ≤ 1000000 from len_of (z := ((z : Nat) : Int)) ht3 hv3 (Nat.lt_of_lt_of_le (show z < pw 1 by unfold pw; omega) (pw_le (by omega))))
      have HV3 := Lib.hid hv3
      have HWC := Lib.hid ((HW2.out.below hb3).more hb3.size)
      have HB3 := Lib.hid (onward HB2.out (Nat.le_refl _) hb3)
      clear hw3 ht3 hv3 hb3
      go_wp2_with fail
      refine (add_any A2 A3 c2 c3 l2 l3 _ _ (Nat.le_refl _) HWC.out HW3.out HL2'.out HL3.out).mono ?_
      rintro e w4 ⟨A4, c4, l4, rfl, hw4, ht4, hv4, hb4⟩
      rw [HV2.out, HV3.out, ← HNT.out] at hv4
      have HW4 := Lib.hid hw4
      have HT4 := Lib.hid ht4
      have HV4 := Lib.hid hv4
      have HB4 := Lib.hid (onward HB3.out (Nat.le_refl _) hb4)
      clear hw4 ht4 hv4 hb4
      go_wp2_with fail
      exact ⟨⟨k + 1, A4, c4, l4, by omega, by go_num, rfl, HW4.out, HT4.out, HV4.out, HB4.out⟩, by simp [intOf]; omega⟩
    · have e : k = n := by omega
      have hge : ¬ k < S.size := by rw [HZ.out]; exact hlt
      have HVE := Lib.hid (show val ws = ((num l : Nat) : Int).natAbs by rw [HV.out, e, HN.out, List.take_length]; rfl)
      have HPW := Lib.hid (HP.out.below HB.out HPL.out)
      clear hlt e
      go_wp2_with fail
      refine (give_big p false A ws c _ (num l : Int) HPW.out HW.out HT.out HVE.out (by rw [Bool.false_and, decide_eq_false (by omega)])).mono ?_
      rintro e w1 ⟨rfl, hz1, hg1⟩
      have HZ1 := Lib.hid hz1
      clear hz1
      go_wp2_with fail
      go_ret2
      exact ⟨rfl, HZ1.out, (grown_of_below HB.out).trans hg1⟩
end Go.Proofs.Ytlcpackmoolngaa.Tx
