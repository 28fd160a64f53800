/- Contracts: mat.Factor and the reference's Factor, whatever they are given. -/
import Derived.Test.YtejefecglioifaaRefFac
namespace Go.Proofs.Ytejefecglioifaa.BigW
open Go.RowKit Go.Proofs.Ytejefecglioifaa.Mem Go.Proofs.Ytejefecglioifaa.BigLaw Go.Proofs.Ytejefecglioifaa.Rws Go.Proofs.Ytejefecglioifaa.Ints Go.Proofs.Ytejefecglioifaa.Mats
set_option linter.unusedVariables false
set_option linter.unusedSimpArgs false

theorem good_nat {N : Int} {n : Nat} (h : good N n = true) : ∃ k : Nat, N = (k : Int) ∧ 1 ≤ k ∧ k ≤ 6 ∧ n = k * k := by
  unfold good at h
  simp only [Bool.and_eq_true, decide_eq_true_eq] at h
  obtain ⟨⟨h1, h2⟩, h3⟩ := h
  obtain ⟨k, rfl⟩ := Int.eq_ofNat_of_zero_le (show 0 ≤ N by omega)
  exact ⟨k, rfl, by omega, by omega, by have : ((k * k : Nat) : Int) = (k : Int) * (k : Int) := by push_cast; rfl
                                        omega⟩
def facR (N : Int) (zs : List Int) : (Int × List Int) × (List Int × Bool) × Int := if good N zs.length = true then facA N.toNat zs else ((0, []), ([], false), 8)
theorem facR_len (N : Int) (zs : List Int) (hz : ∀ k, In64 (zs.getD k 0)) : (facR N zs).1.2.length ≤ 36 ∧ (facR N zs).2.1.1.length ≤ 6 := by
  unfold facR
  split
  · rename_i h
    obtain ⟨k, rfl, h1, h2, h3⟩ := good_nat h
    show (facA k zs).1.2.length ≤ 36 ∧ (facA k zs).2.1.1.length ≤ 6
    unfold facA
    split
    · simp
    · rename_i L D b hf
      refine ⟨?_, ?_⟩
      · show (flatL k (k * k) L).length ≤ 36
        rw [flatL_length]
        exact sq_36 h2
      · show D.length ≤ 6
        rw [(facF_ok hz hf).1]
        exact h2
  · simp

set_option maxRecDepth 100000 in
set_option maxHeartbeats 1000000 in
theorem factor_no (N : Int) (A : Option Addr) (n c : Nat) (w : World) (h : ¬ good N n = true) :
    Calls Try.prog 8 #[matV N A n c] w fun e w' => e = .returned (.tuple #[.agg #[.int .i64 0, .slice none 0 0], .slice none 0 0, .bool false, .int .i64 8]) ∧ Below w.heap.size w w' := by
  unfold matV
  have HM := Lib.hid (show Blk ((w.alloc (.cells #[.int .i64 N, .slice A n c] 24)).alloc (.cells #[.int .i64 0, .slice none 0 0] 24)) w.heap.size 24 #[.int .i64 N, .slice A n c] from (Blk.new rfl).alloc _)
  have HRS := Lib.hid (show Blk ((w.alloc (.cells #[.int .i64 N, .slice A n c] 24)).alloc (.cells #[.int .i64 0, .slice none 0 0] 24)) (w.heap.size + 1) 24 #[.int .i64 0, .slice none 0 0] from Blk.new (by simp))
  have HB := Lib.hid (show Below w.heap.size w ((w.alloc (.cells #[.int .i64 N, .slice A n c] 24)).alloc (.cells #[.int .i64 0, .slice none 0 0] 24)) from ((Below.refl _ _).alloc (Nat.le_refl _) _).alloc (by simp) _)
  have HG := Lib.hid (show good N n = false from by simpa using h)
  clear h
  go_enter Try.func8, Try.ntmps8
  go_upto_region 1 with fail
  generalize ((w.alloc (.cells #[.int .i64 N, .slice A n c] 24)).alloc (.cells #[.int .i64 0, .slice none 0 0] 24)) = w1 at *
  go_wp2_with (refine wpList_whole rfl 24 _ rfl w.heap.size rfl HM.out _ Try.underlying24 rfl (by kernel_rfl) ?_)
  refine (good_any N A n c w1).mono ?_
  rintro e w2 ⟨rfl, hb⟩
  rw [HG.out]
  have HRS := Lib.hid (HRS.out.below hb HRS.out.lt)
  have HB := Lib.hid (onward HB.out (Nat.le_refl _) hb)
  clear hb
  go_upto_region 2 with fail
  go_wp2_with (refine wpList_store_row rfl 24 _ _ rfl (w.heap.size + 1) #[.int .i64 0, .slice none 0 0] rfl rfl 24 _ HRS.out (by kernel_rfl) rfl (by simp [Value.oneCell']) ?_)
  refine ret_row4 (x := .slice none 0 0) (y := .bool false) (z := .int .i64 8) rfl rfl rfl rfl rfl (HRS.out.setRow #[.int .i64 0, .slice none 0 0]) ⟨by rw [Try.underlying24], by kernel_rfl⟩ rfl ?_
  exact ⟨rfl, below_setRow HB.out (by omega) _⟩

theorem factor_all (N : Int) (A : Option Addr) (c : Nat) (zs : List Int) (w : World) (hr : Rd w w.heap.size 1 A zs.length (intsV zs)) (hz : ∀ k, In64 (zs.getD k 0)) :
    Calls Try.prog 8 #[matV N A zs.length c] w fun e w' => GaveFac w w' (facR N zs).1.1 (facR N zs).1.2 (facR N zs).2.1.1 (facR N zs).2.1.2 (facR N zs).2.2 e := by
  by_cases h : good N zs.length = true
  · obtain ⟨n, rfl, h1, h2, h3⟩ := good_nat h
    unfold facR
    rw [if_pos h]
    exact factor_yes n A c zs w h1 h2 h3 hr hz
  · unfold facR
    rw [if_neg h]
    refine (factor_no N A zs.length c w h).mono ?_
    rintro e w' ⟨rfl, hb⟩
    exact ⟨none, 0, none, 0, rfl, Rd.nil _ _ _ _, Rd.nil _ _ _ _, (fun a e => by cases e), hb⟩

set_option maxRecDepth 100000 in
set_option maxHeartbeats 1000000 in
theorem refFactor_no (N : Int) (A : Option Addr) (n c : Nat) (w : World) (h : ¬ good N n = true) :
    Calls Try.prog 10 #[matV N A n c] w fun e w' => e = .returned (.tuple #[.agg #[.int .i64 0, .slice none 0 0], .slice none 0 0, .bool false, .int .i64 8]) ∧ Below w.heap.size w w' := by
  unfold matV
  have HM := Lib.hid (show Blk ((w.alloc (.cells #[.int .i64 N, .slice A n c] 24)).alloc (.cells #[.int .i64 0, .slice none 0 0] 24)) w.heap.size 24 #[.int .i64 N, .slice A n c] from (Blk.new rfl).alloc _)
  have HRS := Lib.hid (show Blk ((w.alloc (.cells #[.int .i64 N, .slice A n c] 24)).alloc (.cells #[.int .i64 0, .slice none 0 0] 24)) (w.heap.size + 1) 24 #[.int .i64 0, .slice none 0 0] from Blk.new (by simp))
  have HB := Lib.hid (show Below w.heap.size w ((w.alloc (.cells #[.int .i64 N, .slice A n c] 24)).alloc (.cells #[.int .i64 0, .slice none 0 0] 24)) from ((Below.refl _ _).alloc (Nat.le_refl _) _).alloc (by simp) _)
  have HG := Lib.hid (show good N n = false from by simpa using h)
  clear h
  go_enter Try.func10, Try.ntmps10
  go_upto_region 1 with fail
  generalize ((w.alloc (.cells #[.int .i64 N, .slice A n c] 24)).alloc (.cells #[.int .i64 0, .slice none 0 0] 24)) = w1 at *
  go_wp2_with (refine wpList_whole rfl 24 _ rfl w.heap.size rfl HM.out _ Try.underlying24 rfl (by kernel_rfl) ?_)
  refine (goodref_any N A n c w1).mono ?_
  rintro e w2 ⟨rfl, hb⟩
  rw [HG.out]
  have HRS := Lib.hid (HRS.out.below hb HRS.out.lt)
  have HB := Lib.hid (onward HB.out (Nat.le_refl _) hb)
  clear hb
  go_upto_region 2 with fail
  go_wp2_with (refine wpList_store_row rfl 24 _ _ rfl (w.heap.size + 1) #[.int .i64 0, .slice none 0 0] rfl rfl 24 _ HRS.out (by kernel_rfl) rfl (by simp [Value.oneCell']) ?_)
  refine ret_row4 (x := .slice none 0 0) (y := .bool false) (z := .int .i64 8) rfl rfl rfl rfl rfl (HRS.out.setRow #[.int .i64 0, .slice none 0 0]) ⟨by rw [Try.underlying24], by kernel_rfl⟩ rfl ?_
  exact ⟨rfl, below_setRow HB.out (by omega) _⟩

theorem refFactor_all (N : Int) (A : Option Addr) (c : Nat) (zs : List Int) (w : World) (hr : Rd w w.heap.size 1 A zs.length (intsV zs)) (hz : ∀ k, In64 (zs.getD k 0)) :
    Calls Try.prog 10 #[matV N A zs.length c] w fun e w' => GaveFac w w' (facR N zs).1.1 (facR N zs).1.2 (facR N zs).2.1.1 (facR N zs).2.1.2 (facR N zs).2.2 e := by
  by_cases h : good N zs.length = true
  · obtain ⟨n, rfl, h1, h2, h3⟩ := good_nat h
    unfold facR
    rw [if_pos h]
    exact refFactor_yes n A c zs w h1 h2 h3 hr hz
  · unfold facR
    rw [if_neg h]
    refine (refFactor_no N A zs.length c w h).mono ?_
    rintro e w' ⟨rfl, hb⟩
    exact ⟨none, 0, none, 0, rfl, Rd.nil _ _ _ _, Rd.nil _ _ _ _, (fun a e => by cases e), hb⟩

end Go.Proofs.Ytejefecglioifaa.BigW
