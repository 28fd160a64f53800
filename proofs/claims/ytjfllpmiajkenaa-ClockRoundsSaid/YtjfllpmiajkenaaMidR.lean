/- Contracts: clock.half; the reference's rank and Middle. -/
import Derived.Test.YtjfllpmiajkenaaMidLaw
import Derived.Test.YtjfllpmiajkenaaMsg
import Derived.Test.YtjfllpmiajkenaaBigDiv
import Derived.Test.YtjfllpmiajkenaaBigAdd
namespace Go.Proofs.Ytjfllpmiajkenaa.Md
open Go.RowKit Go.Proofs.Ytjfllpmiajkenaa.Mem Go.Proofs.Ytjfllpmiajkenaa.Ms Go.Proofs.Ytjfllpmiajkenaa.BigW Go.Proofs.Ytjfllpmiajkenaa.BigLaw
set_option linter.unusedVariables false

set_option maxHeartbeats 400000 in
theorem half_any (a b : Int) (w : World) (ha : -9223372036854775808 ≤ a ∧ a ≤ 9223372036854775807) (hb : -9223372036854775808 ≤ b ∧ b ≤ 9223372036854775807) :
    Calls Try.prog 68 #[.int .i64 a, .int .i64 b] w fun e w' => e = .returned (.int .i64 ((a + b) / 2)) ∧ w = w' := by
  have H := Lib.hid (half_eq a b ha hb)
  have h2 := (and_xor a b ha hb).1
  have h3 := (and_xor a b ha hb).2.1
  have h4 := (and_xor a b ha hb).2.2
  obtain ⟨p, hp⟩ : ∃ p, bits .and .i64 a b = p := ⟨_, rfl⟩
  obtain ⟨q, hq⟩ : ∃ q, bits .xor .i64 a b = q := ⟨_, rfl⟩
  rw [hp, hq] at H
  rw [hp, hq] at h2
  rw [hp] at h3
  rw [hq] at h4
  obtain ⟨s, hs⟩ : ∃ s, (a + b) / 2 = s := ⟨_, rfl⟩
  rw [hs] at H ⊢
  have hs1 : -9223372036854775808 ≤ s := by omega
  have hs2 : s ≤ 9223372036854775807 := by omega
  have hr1 : -9223372036854775808 ≤ p + q / 2 := by rw [H.out]; exact hs1
  have hr2 : p + q / 2 ≤ 9223372036854775807 := by rw [H.out]; exact hs2
  clear h2 hs ha hb
  go_enter Try.func68, Try.ntmps68
  go_wp2_with fail
  go_ret
  exact ⟨ret_int H.out, rfl⟩

theorem find_step {p : Int → Bool} {zs : List Int} {i : Nat} (h : i < zs.length) (h0 : (zs.take i).find? p = none) (hp : p zs[i] = false) : (zs.take (i + 1)).find? p = none := by
  rw [List.take_add_one, List.getElem?_eq_getElem h, List.find?_append, h0]
  simp [hp]
theorem find_hit {p : Int → Bool} {zs : List Int} {i : Nat} (h : i < zs.length) (h0 : (zs.take i).find? p = none) (hp : p zs[i] = true) : (zs.find? p).getD 0 = zs[i] := by
  have e : zs = zs.take i ++ zs.drop i := (List.take_append_drop i zs).symm
  have e2 : zs.find? p = ((zs.take i).find? p).or ((zs.drop i).find? p) := by
    conv => lhs; rw [e]
    exact List.find?_append
  rw [e2, h0, List.drop_eq_getElem_cons h, List.find?_cons, hp]
  rfl
theorem less_step {zs : List Int} {j : Nat} (h : j < zs.length) (v : Int) : lessN (zs.take (j + 1)) v = lessN (zs.take j) v + (if zs[j] < v then 1 else 0) := by
  unfold lessN
  rw [List.take_add_one, List.getElem?_eq_getElem h, List.countP_append]
  simp [List.countP_cons]
theorem same_step {zs : List Int} {j : Nat} (h : j < zs.length) (v : Int) : sameN (zs.take (j + 1)) v = sameN (zs.take j) v + (if zs[j] = v then 1 else 0) := by
  unfold sameN
  rw [List.take_add_one, List.getElem?_eq_getElem h, List.countP_append]
  simp [List.countP_cons]
theorem less_le (zs : List Int) (v : Int) : lessN zs v ≤ zs.length := List.countP_le_length
theorem same_le (zs : List Int) (v : Int) : sameN zs v ≤ zs.length := List.countP_le_length

set_option maxHeartbeats 2000000 in
theorem rank_any (A : Option Addr) (c : Nat) (zs : List Int) (k : Nat) (B : Nat) (w : World) (hl : zs.length ≤ 1000000) (hk : k ≤ 1000000) (hr : Rd w B 1 A zs.length (intsV zs)) :
    Calls Try.prog 70 #[.slice A zs.length c, .int .i64 (k : Nat)] w fun e w' => e = .returned (.int .i64 (rankOf zs k)) ∧ w = w' := by
  have HR := Lib.hid hr
  have hk0 : (0 : Int) ≤ (k : Int) := by omega
  have hk1 : (k : Int) ≤ 1000000 := by omega
  clear hr
  go_enter Try.func70, Try.ntmps70
  go_wp2_with fail
  go_loop [13] (fun iv => ∃ i : Nat, i ≤ zs.length ∧ iv = .int .i64 i ∧ (zs.take i).find? (isRank zs k) = none) (fun iv => zs.length - (intOf iv).toNat)
  case atStart => exact ⟨0, by omega, rfl, rfl⟩
  case round =>
    obtain ⟨i, hi, rfl, hnone⟩ := hrel
    have HN := Lib.hid hnone
    clear hnone
    by_cases hlt : i < zs.length
    · obtain ⟨b, o, u, rfl, hbB, hu, hcell⟩ := HR.out.at hlt
      rw [intsV_at zs i hlt] at hu
      obtain rfl := Option.some.inj hu
      have HH := Lib.hid (fun h => find_hit (p := isRank zs k) hlt HN.out h)
      have HM := Lib.hid (fun h => find_step (p := isRank zs k) hlt HN.out h)
      have HI := Lib.hid (show isRank zs k zs[i] = decide (lessN zs zs[i] ≤ k ∧ k < lessN zs zs[i] + sameN zs zs[i]) from rfl)
      clear hu
      generalize zs[i] = v at *
      have hl0 : (0 : Int) ≤ (i : Int) := by omega
      have hl1 : (i : Int) < (zs.length : Int) := by omega
      go_wp2_with fail
      go_loop [7, 8, 19] (fun lv sv jv => ∃ j : Nat, j ≤ zs.length ∧ jv = .int .i64 j ∧ lv = .int .i64 (lessN (zs.take j) v : Nat) ∧ sv = .int .i64 (sameN (zs.take j) v : Nat)) (fun _ _ jv => zs.length - (intOf jv).toNat)
      case atStart => exact ⟨0, by omega, rfl, rfl, rfl⟩
      case round =>
        obtain ⟨j, hj, rfl, rfl, rfl⟩ := hrel
        have B1 := less_le (zs.take j) v
        have B2 := same_le (zs.take j) v
        rw [List.length_take] at B1 B2
        by_cases hjl : j < zs.length
        · obtain ⟨b', o', u', e', hbB', hu', hcell'⟩ := HR.out.at hjl
          cases e'
          rw [intsV_at zs j hjl] at hu'
          obtain rfl := Option.some.inj hu'
          have HS1 := Lib.hid (less_step hjl v)
          have HS2 := Lib.hid (same_step hjl v)
          clear hu'
          generalize zs[j] = x at *
          generalize lessN (zs.take j) v = L at *
          generalize sameN (zs.take j) v = S at *
          have m0 : (0 : Int) ≤ (j : Int) := by omega
          have m1 : (j : Int) < (zs.length : Int) := by omega
          have m2 : (L : Int) ≤ 1000000 := by omega
          have m3 : (S : Int) ≤ 1000000 := by omega
          by_cases c1 : x < v
          · have c2 : (x == v) = false := beq_eq_false_iff_ne.2 (by omega)
            go_wp2_with fail
            exact ⟨⟨j + 1, by omega, by go_num, by rw [HS1.out, if_pos (by assumption)]; go_num, by rw [HS2.out, if_neg (by omega), Nat.add_zero]⟩, by simp [intOf]; omega⟩
          · by_cases c3 : x = v
            · have c2 : (x == v) = true := beq_iff_eq.2 c3
              have C3 := Lib.hid c3
              have c4 : v ≤ x := by omega
              clear c3 c1
              go_wp2_with fail
              exact ⟨⟨j + 1, by omega, by go_num, by rw [HS1.out, if_neg (by omega), Nat.add_zero], by rw [HS2.out, if_pos C3.out]; go_num⟩, by simp [intOf]; omega⟩
            · have c2 : (x == v) = false := beq_eq_false_iff_ne.2 c3
              have c4 : v ≤ x := by omega
              have C3 := Lib.hid c3
              clear c3 c1
              go_wp2_with fail
              exact ⟨⟨j + 1, by omega, by go_num, by rw [HS1.out, if_neg (by omega), Nat.add_zero], by rw [HS2.out, if_neg C3.out, Nat.add_zero]⟩, by simp [intOf]; omega⟩
        · obtain rfl : j = zs.length := by omega
          rw [List.take_length] at B1 B2 ⊢
          generalize lessN zs v = L at *
          generalize sameN zs v = S at *
          clear hjl
          have m2 : (L : Int) ≤ 1000000 := by omega
          have m3 : (S : Int) ≤ 1000000 := by omega
          have m4 : (0 : Int) ≤ (L : Int) := by omega
          have m5 : (0 : Int) ≤ (S : Int) := by omega
          by_cases c1 : (L : Int) ≤ (k : Int)
          · by_cases c2 : (k : Int) < (L : Int) + (S : Int)
            · have hv := HH.out (by rw [HI.out]; exact decide_eq_true ⟨by omega, by omega⟩)
              go_wp2_with fail
              go_ret
              exact ⟨ret_int hv.symm, rfl⟩
            · have hv := Lib.hid (HM.out (by rw [HI.out]; exact decide_eq_false (by omega)))
              have c3 : (L : Int) + (S : Int) ≤ (k : Int) := by omega
              clear c2
              go_wp2_with fail
              exact ⟨⟨i + 1, by omega, by go_num, hv.out⟩, by simp [intOf]; omega⟩
          · have hv := Lib.hid (HM.out (by rw [HI.out]; exact decide_eq_false (by omega)))
            have c3 : (k : Int) < (L : Int) := by omega
            clear c1
            go_wp2_with fail
            exact ⟨⟨i + 1, by omega, by go_num, hv.out⟩, by simp [intOf]; omega⟩
    · obtain rfl : i = zs.length := by omega
      clear hlt
      go_wp2_with fail
      go_ret
      refine ⟨ret_int ?_, rfl⟩
      have h := HN.out
      rw [List.take_length] at h
      unfold rankOf
      rw [h]
      rfl

theorem in_i64 {l : List Int} (ho : ∀ z ∈ l, -9223372036854775808 ≤ z ∧ z ≤ 9223372036854775807) {k : Nat} (hk : k < l.length) : -9223372036854775808 ≤ rankOf l k ∧ rankOf l k ≤ 9223372036854775807 := by
  rw [rankOf_eq l hk]; exact ho _ (srt_mem hk)

set_option maxHeartbeats 1000000 in
theorem refmid_any (A : Option Addr) (c : Nat) (zs : List Int) (B : Nat) (w : World) (hB : B ≤ w.heap.size) (hl : zs.length ≤ 140737488355328) (ho : ∀ z ∈ zs, -9223372036854775808 ≤ z ∧ z ≤ 9223372036854775807) (hr : Rd w B 1 A zs.length (intsV zs)) :
    Calls Try.prog 26 #[.slice A zs.length c] w fun e w' => e = .returned (.tuple #[.int .i64 (midZ zs).1, .int .i64 (midZ zs).2]) ∧ Below w.heap.size w w' := by
  have HR := Lib.hid hr
  have HO := Lib.hid ho
  have HZ := Lib.hid (show midZ zs = if zs.length = 0 ∨ 64 < zs.length then (0, 8) else (midOf zs, 0) from rfl)
  clear hr ho
  by_cases h0 : zs.length < 1
  · have hz := HZ.out.trans (if_pos (.inl (by omega)))
    have h0' : (zs.length : Int) < 1 := by omega
    have HZ2 := Lib.hid hz
    clear hz HZ h0
    go_enter Try.func26, Try.ntmps26
    go_wp2_with fail
    go_ret2
    exact ⟨by rw [HZ2.out]; rfl, Below.refl _ _⟩
  by_cases h1 : 64 < zs.length
  · have hz := HZ.out.trans (if_pos (.inr h1))
    have h0' : (1 : Int) ≤ (zs.length : Int) := by omega
    have h1' : (64 : Int) < (zs.length : Int) := by omega
    have HZ2 := Lib.hid hz
    clear hz HZ h0 h1
    go_enter Try.func26, Try.ntmps26
    go_wp2_with fail
    go_ret2
    exact ⟨by rw [HZ2.out]; rfl, Below.refl _ _⟩
  have HZ2 := Lib.hid (HZ.out.trans (if_neg (by omega)))
  have h0' : (1 : Int) ≤ (zs.length : Int) := by omega
  have h1' : (zs.length : Int) ≤ 64 := by omega
  obtain ⟨k, hk⟩ : ∃ k : Nat, (zs.length - 1) / 3 = k := ⟨_, rfl⟩
  obtain ⟨q, hq⟩ : ∃ q : Nat, zs.length - 1 - k = q := ⟨_, rfl⟩
  have e1 : ((zs.length : Int) - 1) / 3 = (k : Int) := by omega
  have e2 : (zs.length : Int) - 1 - (k : Int) = (q : Int) := by omega
  have hk1 : k < zs.length := by omega
  have hq1 : q < zs.length := by omega
  have HM := Lib.hid (show midOf zs = (rankOf zs k + rankOf zs q) / 2 by rw [rankOf_eq zs hk1, rankOf_eq zs hq1, ← hq, ← hk]; rfl)
  have C1 := Lib.hid (fun v => fun (hv : Below w.heap.size w v) => rank_any A c zs k B v (by omega) (by omega) (HR.out.below (hv.mono hB)))
  have C2 := Lib.hid (fun v => fun (hv : Below w.heap.size w v) => rank_any A c zs q B v (by omega) (by omega) (HR.out.below (hv.mono hB)))
  have X1 := Lib.hid (in_i64 HO.out hk1)
  have X2 := Lib.hid (in_i64 HO.out hq1)
  generalize rankOf zs k = x at *
  generalize rankOf zs q = y at *
  obtain ⟨m, hm⟩ : ∃ m, (x + y) / 2 = m := ⟨_, rfl⟩
  have X3 := Lib.hid (show -9223372036854775808 ≤ m ∧ m ≤ 9223372036854775807 by have := X1.out; have := X2.out; omega)
  have HMM := Lib.hid hm
  have XK := Lib.hid (show k < zs.length ∧ q < zs.length from ⟨hk1, hq1⟩)
  clear hk hq h0 h1 hm hk1 hq1 HZ
  go_enter Try.func26, Try.ntmps26
  go_wp2_with fail
  refine (C1.out _ (Below.refl _ _)).mono ?_
  rintro e w' ⟨rfl, rfl⟩
  go_wp2_with fail
  refine (whole_any x _ X1.out).mono ?_
  rintro e w1 ⟨p1, rfl, hp1, hz1, hb1⟩
  have HZ1 := Lib.hid hz1
  have HB := Lib.hid hb1
  clear hz1 hb1
  go_wp2_with fail
  refine (C2.out _ HB.out).mono ?_
  rintro e w' ⟨rfl, rfl⟩
  go_wp2_with fail
  refine (whole_any y _ X2.out).mono ?_
  rintro e w2 ⟨p2, rfl, hp2, hz2, hb2⟩
  have HZ2' := Lib.hid hz2
  have HZ1 := Lib.hid (HZ1.out.below hb2)
  have HB := Lib.hid (onward HB.out (Nat.le_refl _) hb2)
  clear hz2 hb2
  go_wp2_with fail
  refine (bigAdd_any p1 p1 p2 x y _ HZ1.out.isInt HZ1.out HZ2'.out (pw_small (by have := X1.out; omega)) (pw_small (by have := X2.out; omega))).mono ?_
  rintro e w3 ⟨rfl, hz3, hg3⟩
  have HZ3 := Lib.hid hz3
  have HB := Lib.hid (below_grown HB.out (Nat.le_refl _) hg3 (fun g e => by injection e with e; omega))
  clear hz3 hg3
  go_wp2_with fail
  refine (whole_any 2 _ (by omega)).mono ?_
  rintro e w4 ⟨p4, rfl, hp4, hz4, hb4⟩
  have HZ4 := Lib.hid hz4
  have HZ3 := Lib.hid (HZ3.out.below hb4)
  have HB := Lib.hid (onward HB.out (Nat.le_refl _) hb4)
  clear hz4 hb4
  go_wp2_with fail
  refine (down_any p1 p4 (x + y) 2 _ HZ3.out HZ4.out (pw_small (by have := X1.out; have := X2.out; omega)) (by omega) (pw_small (by omega))).mono ?_
  rintro e w5 ⟨p5, rfl, hp5, hz5, hb5⟩
  rw [HMM.out] at hz5
  have HZ5 := Lib.hid hz5
  have HB := Lib.hid (onward HB.out (Nat.le_refl _) hb5)
  clear hz5 hb5
  go_wp2_with fail
  refine (bigInt64_any p5 m _ HZ5.out X3.out).mono ?_
  rintro e w6 ⟨rfl, rfl⟩
  go_wp2_with fail
  go_ret2
  exact ⟨by rw [HZ2.out, HM.out, HMM.out]; rfl, HB.out⟩
end Go.Proofs.Ytjfllpmiajkenaa.Md
