/- Contracts: mat.Times and the reference's Times, whatever they are given. -/
import Derived.Test.YtajhkbdaoakogaaRefTimes
namespace Go.Proofs.Ytajhkbdaoakogaa.BigW
open Go.RowKit Go.Proofs.Ytajhkbdaoakogaa.Mem Go.Proofs.Ytajhkbdaoakogaa.BigLaw Go.Proofs.Ytajhkbdaoakogaa.Rws Go.Proofs.Ytajhkbdaoakogaa.Ints Go.Proofs.Ytajhkbdaoakogaa.Mats
set_option linter.unusedVariables false
set_option linter.unusedSimpArgs false

set_option maxRecDepth 100000 in
set_option maxHeartbeats 1000000 in
theorem times_no (N : Int) (A A' : Option Addr) (n c m c' : Nat) (w : World) (h : good N n = false ∨ (m : Int) ≠ N) :
    Calls Try.prog 34 #[matV N A n c, .slice A' m c'] w fun e w' => e = .returned (.tuple #[.slice none 0 0, .bool false, .int .i64 8]) ∧ Below w.heap.size w w' := by
  unfold matV
  have HM := Lib.hid (show Blk (w.alloc (.cells #[.int .i64 N, .slice A n c] 49)) w.heap.size 49 #[.int .i64 N, .slice A n c] from Blk.new rfl)
  have HB := Lib.hid (show Below w.heap.size w (w.alloc (.cells #[.int .i64 N, .slice A n c] 49)) from (Below.refl _ _).alloc (Nat.le_refl _) _)
  by_cases hg : good N n = true
  · have HG := Lib.hid hg
    have hm : ((m : Int) == N) = false := by rw [beq_eq_false_iff_ne]; rcases h with h | h; rw [hg] at h; cases h; exact h
    have hm' : (N == (m : Int)) = false := by rw [beq_eq_false_iff_ne]; rcases h with h | h; rw [hg] at h; cases h; exact fun e => h e.symm
    clear hg h
    go_enter Try.func34, Try.ntmps34
    go_upto_region 1 with fail
    generalize (w.alloc (.cells #[.int .i64 N, .slice A n c] 49)) = w1 at *
    go_wp2_with (refine wpList_whole rfl 49 _ rfl w.heap.size rfl HM.out _ Try.underlying49 rfl (by kernel_rfl) ?_)
    refine (good_any N A n c w1).mono ?_
    rintro e w2 ⟨rfl, hb⟩
    rw [HG.out]
    have k0 : w2.cell? ⟨w.heap.size, 0, none⟩ = some (.int .i64 N) := ((HM.out.below hb HM.out.lt).cell 0).trans rfl
    have HB := Lib.hid (onward HB.out (Nat.le_refl _) hb)
    clear hb
    go_wp2_with fail
    go_ret3
    exact ⟨rfl, HB.out⟩
  · have HG := Lib.hid (show good N n = false from by simpa using hg)
    clear hg h
    go_enter Try.func34, Try.ntmps34
    go_upto_region 1 with fail
    generalize (w.alloc (.cells #[.int .i64 N, .slice A n c] 49)) = w1 at *
    go_wp2_with (refine wpList_whole rfl 49 _ rfl w.heap.size rfl HM.out _ Try.underlying49 rfl (by kernel_rfl) ?_)
    refine (good_any N A n c w1).mono ?_
    rintro e w2 ⟨rfl, hb⟩
    rw [HG.out]
    have HB := Lib.hid (onward HB.out (Nat.le_refl _) hb)
    clear hb
    go_wp2_with fail
    go_ret3
    exact ⟨rfl, HB.out⟩

set_option maxRecDepth 100000 in
set_option maxHeartbeats 1000000 in
theorem refTimes_no (N : Int) (A A' : Option Addr) (n c m c' : Nat) (w : World) (h : good N n = false ∨ (m : Int) ≠ N) :
    Calls Try.prog 36 #[matV N A n c, .slice A' m c'] w fun e w' => e = .returned (.tuple #[.slice none 0 0, .bool false, .int .i64 8]) ∧ Below w.heap.size w w' := by
  unfold matV
  have HM := Lib.hid (show Blk ((w.alloc (.cells #[.int .i64 N, .slice A n c] 49)).alloc (.cells #[.slice A' m c'] 32)) w.heap.size 49 #[.int .i64 N, .slice A n c] from (Blk.new rfl).alloc _)
  have HS := Lib.hid (show Blk ((w.alloc (.cells #[.int .i64 N, .slice A n c] 49)).alloc (.cells #[.slice A' m c'] 32)) (w.heap.size + 1) 32 #[.slice A' m c'] from Blk.new (by simp))
  have HB := Lib.hid (show Below w.heap.size w ((w.alloc (.cells #[.int .i64 N, .slice A n c] 49)).alloc (.cells #[.slice A' m c'] 32)) from ((Below.refl _ _).alloc (Nat.le_refl _) _).alloc (by simp) _)
  by_cases hg : good N n = true
  · have HG := Lib.hid hg
    have hm : ((m : Int) == N) = false := by rw [beq_eq_false_iff_ne]; rcases h with h | h; rw [hg] at h; cases h; exact h
    have hm' : (N == (m : Int)) = false := by rw [beq_eq_false_iff_ne]; rcases h with h | h; rw [hg] at h; cases h; exact fun e => h e.symm
    clear hg h
    go_enter Try.func36, Try.ntmps36
    go_upto_region 1 with fail
    generalize ((w.alloc (.cells #[.int .i64 N, .slice A n c] 49)).alloc (.cells #[.slice A' m c'] 32)) = w1 at *
    go_wp2_with (refine wpList_whole rfl 49 _ rfl w.heap.size rfl HM.out _ Try.underlying49 rfl (by kernel_rfl) ?_)
    refine (goodref_any N A n c w1).mono ?_
    rintro e w2 ⟨rfl, hb⟩
    rw [HG.out]
    have k0 : w2.cell? ⟨w.heap.size, 0, none⟩ = some (.int .i64 N) := ((HM.out.below hb HM.out.lt).cell 0).trans rfl
    have k1 : w2.cell? ⟨w.heap.size + 1, 0, none⟩ = some (.slice A' m c') := ((HS.out.below hb HS.out.lt).cell 0).trans rfl
    have HB := Lib.hid (onward HB.out (Nat.le_refl _) hb)
    clear hb
    go_wp2_with fail
    go_ret3
    exact ⟨rfl, HB.out⟩
  · have HG := Lib.hid (show good N n = false from by simpa using hg)
    clear hg h
    go_enter Try.func36, Try.ntmps36
    go_upto_region 1 with fail
    generalize ((w.alloc (.cells #[.int .i64 N, .slice A n c] 49)).alloc (.cells #[.slice A' m c'] 32)) = w1 at *
    go_wp2_with (refine wpList_whole rfl 49 _ rfl w.heap.size rfl HM.out _ Try.underlying49 rfl (by kernel_rfl) ?_)
    refine (goodref_any N A n c w1).mono ?_
    rintro e w2 ⟨rfl, hb⟩
    rw [HG.out]
    have HB := Lib.hid (onward HB.out (Nat.le_refl _) hb)
    clear hb
    go_wp2_with fail
    go_ret3
    exact ⟨rfl, HB.out⟩

/-- P3.4, with the error -/
def timesR (N : Int) (zs vs : List Int) : (List Int × Bool) × Int := if good N zs.length = true ∧ (vs.length : Int) = N then (timesF N.toNat zs vs N.toNat, 0) else (([], false), 8)
theorem good_nat {N : Int} {n : Nat} (h : good N n = true) : ∃ k : Nat, N = (k : Int) ∧ 1 ≤ k ∧ k ≤ 6 ∧ n = k * k := by
  unfold good at h
  simp only [Bool.and_eq_true, decide_eq_true_eq] at h
  obtain ⟨⟨h1, h2⟩, h3⟩ := h
  obtain ⟨k, rfl⟩ := Int.eq_ofNat_of_zero_le (show 0 ≤ N by omega)
  exact ⟨k, rfl, by omega, by omega, by have : ((k * k : Nat) : Int) = (k : Int) * (k : Int) := by push_cast; rfl
                                        omega⟩

theorem times_all (N : Int) (A A' : Option Addr) (c c' : Nat) (zs vs : List Int) (w : World) (hr : Rd w w.heap.size 1 A zs.length (intsV zs)) (hr' : Rd w w.heap.size 1 A' vs.length (intsV vs)) (hz : ∀ k, In64 (zs.getD k 0)) (hzv : ∀ k, In64 (vs.getD k 0)) :
    Calls Try.prog 34 #[matV N A zs.length c, .slice A' vs.length c'] w fun e w' => GaveInts w w' (timesR N zs vs).1.1 (timesR N zs vs).1.2 (timesR N zs vs).2 e := by
  by_cases h : good N zs.length = true ∧ (vs.length : Int) = N
  · obtain ⟨n, rfl, h1, h2, h3⟩ := good_nat h.1
    have hv : vs.length = n := by have := h.2; omega
    unfold timesR
    rw [if_pos h]
    exact times_yes n A A' c c' zs vs w h1 h2 h3 hv hr hr' hz hzv
  · unfold timesR
    rw [if_neg h]
    refine (times_no N A A' zs.length c vs.length c' w (by
      by_cases hg : good N zs.length = true
      · exact .inr fun e => h ⟨hg, e⟩
      · exact .inl (by simpa using hg))).mono ?_
    rintro e w' ⟨rfl, hb⟩
    exact ⟨none, 0, rfl, Rd.nil _ _ _ _, hb⟩

theorem refTimes_all (N : Int) (A A' : Option Addr) (c c' : Nat) (zs vs : List Int) (w : World) (hr : Rd w w.heap.size 1 A zs.length (intsV zs)) (hr' : Rd w w.heap.size 1 A' vs.length (intsV vs)) (hz : ∀ k, In64 (zs.getD k 0)) (hzv : ∀ k, In64 (vs.getD k 0)) :
    Calls Try.prog 36 #[matV N A zs.length c, .slice A' vs.length c'] w fun e w' => GaveInts w w' (timesR N zs vs).1.1 (timesR N zs vs).1.2 (timesR N zs vs).2 e := by
  by_cases h : good N zs.length = true ∧ (vs.length : Int) = N
  · obtain ⟨n, rfl, h1, h2, h3⟩ := good_nat h.1
    have hv : vs.length = n := by have := h.2; omega
    unfold timesR
    rw [if_pos h]
    exact refTimes_yes n A A' c c' zs vs w h1 h2 h3 hv hr hr' hz hzv
  · unfold timesR
    rw [if_neg h]
    refine (refTimes_no N A A' zs.length c vs.length c' w (by
      by_cases hg : good N zs.length = true
      · exact .inr fun e => h ⟨hg, e⟩
      · exact .inl (by simpa using hg))).mono ?_
    rintro e w' ⟨rfl, hb⟩
    exact ⟨none, 0, rfl, Rd.nil _ _ _ _, hb⟩
end Go.Proofs.Ytajhkbdaoakogaa.BigW
