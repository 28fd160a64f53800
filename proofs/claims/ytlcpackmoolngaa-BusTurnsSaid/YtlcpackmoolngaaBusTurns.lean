/- The law BusTurns returns true: bus.Lose, bus.Turn and the reference's answer alike for all buses and numbers. Conditions: none. -/
import Derived.Test.YtlcpackmoolngaaFrame
import Derived.Test.YtlcpackmoolngaaFacts
import Derived.Test.YtlcpackmoolngaaLoseR
import Derived.Test.YtlcpackmoolngaaTurnB
import Derived.Test.YtlcpackmoolngaaTurnRf
import Derived.Test.YtlcpackmoolngaaOpen
namespace Go.Proofs.Ytlcpackmoolngaa.lawBusTurns
open Go.ChangeShapes Go.WideShapes Go.ChangeAt Go.RowKit Go.Proofs.Ytlcpackmoolngaa.Mem Go.Proofs.Ytlcpackmoolngaa.Rws Go.Proofs.Ytlcpackmoolngaa.Bu Go.Proofs.Ytlcpackmoolngaa.Sm
set_option linter.unusedVariables false
set_option linter.unusedSimpArgs false

theorem lose_len (now ser : Int) (qs : List Parc) (s : Int) : (loseR now ser qs s).2.2.1.length ≤ qs.length := by
  unfold loseR
  cases fnd s qs with
  | none => simp
  | some k => simp only [List.length_eraseIdx]; split <;> omega
theorem turn_len (now ser : Int) (qs : List Parc) (s at_ m : Int) : (turnR now ser qs s at_ m).2.2.1.length ≤ qs.length := by
  unfold turnR
  cases fnd s qs with
  | none => simp
  | some k => simp only; split <;> simp
theorem empty_lose (w : World) : Calls Try.prog 9 #[.agg #[.int .i64 0, .int .i64 0, .slice none 0 0], .int .i64 3] w fun e w' => ∃ A7 c7, e = .returned (.tuple #[.agg #[.int .i64 0, .int .i64 0, .slice A7 0 c7], .int .i64 7]) ∧ Below w.heap.size w w' :=
  (lose_any 0 0 none 0 [] 3 w.heap.size w (Nat.le_refl _) (by simp) (ParcsAt.nil _ _ _)).mono fun e w' h => by
    obtain ⟨A7, c7, h1, _, hb⟩ := h
    exact ⟨A7, c7, h1, hb⟩

set_option maxRecDepth 100000 in
set_option maxHeartbeats 4000000 in
theorem walk (now ser : Int) (A : Option Addr) (c : Nat) (qs : List Parc) (s at_ m : Int) (w : World) (hql : qs.length * 56 ≤ 140737488351232) (hq : ParcsAt w w.heap.size A qs) :
    Calls Try.prog 3 #[.agg #[.int .i64 now, .int .i64 ser, .slice A qs.length c], .int .i64 s, .int .i64 at_, .int .i64 m] w fun e w' => e = .returned (.bool true) ∧ Below w.heap.size w w' := by
  have cL := fun A c B w h1 h2 => lose_any now ser A c qs s B w h1 hql h2
  have cRL := fun A c B w h1 h2 => reflose_any now ser A c qs s B w h1 hql h2
  have cT := fun A c B w h1 h2 => busturn_any now ser A c qs s at_ m B w h1 hql h2
  have cRT := fun A c B w h1 h2 => refturn_any now ser A c qs s at_ m B w h1 hql h2
  have hlen1 := lose_len now ser qs s
  have hlen2 := turn_len now ser qs s at_ m
  obtain ⟨r1, hr1⟩ : ∃ r, loseR now ser qs s = r := ⟨_, rfl⟩
  obtain ⟨r2, hr2⟩ : ∃ r, turnR now ser qs s at_ m = r := ⟨_, rfl⟩
  rw [hr1] at cL cRL hlen1
  rw [hr2] at cT cRT hlen2
  obtain ⟨n1, s1, l1, er1⟩ := r1
  obtain ⟨n2, s2, l2, er2⟩ := r2
  unfold SendAs at cL cRL cT cRT
  dsimp only at cL cRL cT cRT hlen1 hlen2
  have CL := Lib.hid cL
  have CRL := Lib.hid cRL
  have CT := Lib.hid cT
  have CRT := Lib.hid cRT
  have CE := Lib.hid empty_lose
  have HQ := Lib.hid hq
  clear cL cRL cT cRT hq hr1 hr2
  go_enter Try.func3, Try.ntmps3
  have B1 := Lib.hid (show Blk (w.alloc (.cells #[.int .i64 now, .int .i64 ser, .slice A qs.length c] 24)) w.heap.size 24 #[.int .i64 now, .int .i64 ser, .slice A qs.length c] from Blk.fresh _ _ _)
  have HB := Lib.hid ((Below.refl w.heap.size w).alloc (Nat.le_refl _) (.cells #[.int .i64 now, .int .i64 ser, .slice A qs.length c] 24))
  go_wp2_with (refine wpList_whole rfl 24 _ rfl w.heap.size rfl B1.out _ Try.underlying24 rfl (by kernel_rfl) ?_)
  refine (copybus_any now ser A c qs w.heap.size _ (HB.out.size) hql (HQ.out.below HB.out)).mono ?_
  rintro e w1 ⟨A2, c2, rfl, hop, hb⟩
  have H2 := Lib.hid hop.at.1
  have HB := Lib.hid (onward HB.out (Nat.le_refl _) hb)
  have B1 := Lib.hid (B1.out.below hb B1.out.lt)
  clear hb hop
  go_wp2_with fail
  refine (CL.out A2 c2 w1.heap.size _ (Nat.le_refl _) H2.out).mono ?_
  rintro e w3 ⟨A3, c3, rfl, h3, hb⟩
  have H3 := Lib.hid h3
  have HB := Lib.hid (onward HB.out (Nat.le_refl _) hb)
  have B1 := Lib.hid (B1.out.below hb B1.out.lt)
  clear hb h3 H2
  go_upto_region 2 with fail
  have hb : Below w3.heap.size w3 (w3.alloc (.cells #[.int .i64 n1, .int .i64 s1, .slice A3 l1.length c3] 24)) := (Below.refl _ _).alloc (Nat.le_refl _) _
  have BN3 := Lib.hid (show Blk (w3.alloc (.cells #[.int .i64 n1, .int .i64 s1, .slice A3 l1.length c3] 24)) w3.heap.size 24 #[.int .i64 n1, .int .i64 s1, .slice A3 l1.length c3] from Blk.fresh _ _ _)
  have HB := Lib.hid (onward HB.out (Nat.le_refl _) hb)
  have B1 := Lib.hid (B1.out.below hb B1.out.lt)
  have H3 := Lib.hid ((H3.out.below hb).more hb.size)
  clear hb
  generalize (w3.alloc (.cells #[.int .i64 n1, .int .i64 s1, .slice A3 l1.length c3] 24)) = w3v at *
  obtain ⟨p3, hp3⟩ : ∃ p, w3.heap.size = p := ⟨_, rfl⟩
  rw [hp3] at BN3 ⊢
  clear hp3
  go_wp2_with (refine wpList_whole rfl 24 _ rfl w.heap.size rfl B1.out _ Try.underlying24 rfl (by kernel_rfl) ?_)
  refine (CRL.out A c w.heap.size _ HB.out.size (HQ.out.below HB.out)).mono ?_
  rintro e w4 ⟨A5, c5, rfl, h3, hb⟩
  have H5 := Lib.hid h3
  have HB := Lib.hid (onward HB.out (Nat.le_refl _) hb)
  have B1 := Lib.hid (B1.out.below hb B1.out.lt)
  have BN3 := Lib.hid (BN3.out.below hb BN3.out.lt)
  have H3 := Lib.hid ((H3.out.below hb).more hb.size)
  clear hb h3 
  go_upto_region 3 with fail
  have hb : Below w4.heap.size w4 (w4.alloc (.cells #[.int .i64 n1, .int .i64 s1, .slice A5 l1.length c5] 24)) := (Below.refl _ _).alloc (Nat.le_refl _) _
  have BN5 := Lib.hid (show Blk (w4.alloc (.cells #[.int .i64 n1, .int .i64 s1, .slice A5 l1.length c5] 24)) w4.heap.size 24 #[.int .i64 n1, .int .i64 s1, .slice A5 l1.length c5] from Blk.fresh _ _ _)
  have HB := Lib.hid (onward HB.out (Nat.le_refl _) hb)
  have B1 := Lib.hid (B1.out.below hb B1.out.lt)
  have BN3 := Lib.hid (BN3.out.below hb BN3.out.lt)
  have H3 := Lib.hid ((H3.out.below hb).more hb.size)
  have H5 := Lib.hid ((H5.out.below hb).more hb.size)
  clear hb
  generalize (w4.alloc (.cells #[.int .i64 n1, .int .i64 s1, .slice A5 l1.length c5] 24)) = w4v at *
  obtain ⟨p5, hp5⟩ : ∃ p, w4.heap.size = p := ⟨_, rfl⟩
  rw [hp5] at BN5 ⊢
  clear hp5
  go_wp2_with (refine wpList_whole rfl 24 _ rfl w.heap.size rfl B1.out _ Try.underlying24 rfl (by kernel_rfl) ?_)
  refine (copybus_any now ser A c qs w.heap.size _ (HB.out.size) hql (HQ.out.below HB.out)).mono ?_
  rintro e w5 ⟨A6, c6, rfl, hop, hb⟩
  have H6 := Lib.hid hop.at.1
  have HB := Lib.hid (onward HB.out (Nat.le_refl _) hb)
  have B1 := Lib.hid (B1.out.below hb B1.out.lt)
  have BN3 := Lib.hid (BN3.out.below hb BN3.out.lt)
  have BN5 := Lib.hid (BN5.out.below hb BN5.out.lt)
  have H3 := Lib.hid ((H3.out.below hb).more hb.size)
  have H5 := Lib.hid ((H5.out.below hb).more hb.size)
  clear hb hop
  go_wp2_with fail
  refine (CT.out A6 c6 w5.heap.size _ (Nat.le_refl _) H6.out).mono ?_
  rintro e w6 ⟨A7, c7, rfl, h3, hb⟩
  have H7 := Lib.hid h3
  have HB := Lib.hid (onward HB.out (Nat.le_refl _) hb)
  have B1 := Lib.hid (B1.out.below hb B1.out.lt)
  have BN3 := Lib.hid (BN3.out.below hb BN3.out.lt)
  have BN5 := Lib.hid (BN5.out.below hb BN5.out.lt)
  have H3 := Lib.hid ((H3.out.below hb).more hb.size)
  have H5 := Lib.hid ((H5.out.below hb).more hb.size)
  clear hb h3 H6
  go_upto_region 4 with fail
  have hb : Below w6.heap.size w6 (w6.alloc (.cells #[.int .i64 n2, .int .i64 s2, .slice A7 l2.length c7] 24)) := (Below.refl _ _).alloc (Nat.le_refl _) _
  have BN7 := Lib.hid (show Blk (w6.alloc (.cells #[.int .i64 n2, .int .i64 s2, .slice A7 l2.length c7] 24)) w6.heap.size 24 #[.int .i64 n2, .int .i64 s2, .slice A7 l2.length c7] from Blk.fresh _ _ _)
  have HB := Lib.hid (onward HB.out (Nat.le_refl _) hb)
  have B1 := Lib.hid (B1.out.below hb B1.out.lt)
  have BN3 := Lib.hid (BN3.out.below hb BN3.out.lt)
  have BN5 := Lib.hid (BN5.out.below hb BN5.out.lt)
  have H3 := Lib.hid ((H3.out.below hb).more hb.size)
  have H5 := Lib.hid ((H5.out.below hb).more hb.size)
  have H7 := Lib.hid ((H7.out.below hb).more hb.size)
  clear hb
  generalize (w6.alloc (.cells #[.int .i64 n2, .int .i64 s2, .slice A7 l2.length c7] 24)) = w6v at *
  obtain ⟨p7, hp7⟩ : ∃ p, w6.heap.size = p := ⟨_, rfl⟩
  rw [hp7] at BN7 ⊢
  clear hp7
  go_wp2_with (refine wpList_whole rfl 24 _ rfl w.heap.size rfl B1.out _ Try.underlying24 rfl (by kernel_rfl) ?_)
  refine (CRT.out A c w.heap.size _ HB.out.size (HQ.out.below HB.out)).mono ?_
  rintro e w7 ⟨A9, c9, rfl, h3, hb⟩
  have H9 := Lib.hid h3
  have HB := Lib.hid (onward HB.out (Nat.le_refl _) hb)
  have B1 := Lib.hid (B1.out.below hb B1.out.lt)
  have BN3 := Lib.hid (BN3.out.below hb BN3.out.lt)
  have BN5 := Lib.hid (BN5.out.below hb BN5.out.lt)
  have BN7 := Lib.hid (BN7.out.below hb BN7.out.lt)
  have H3 := Lib.hid ((H3.out.below hb).more hb.size)
  have H5 := Lib.hid ((H5.out.below hb).more hb.size)
  have H7 := Lib.hid ((H7.out.below hb).more hb.size)
  clear hb h3 
  go_upto_region 5 with fail
  have hb : Below w7.heap.size w7 (w7.alloc (.cells #[.int .i64 n2, .int .i64 s2, .slice A9 l2.length c9] 24)) := (Below.refl _ _).alloc (Nat.le_refl _) _
  have BN9 := Lib.hid (show Blk (w7.alloc (.cells #[.int .i64 n2, .int .i64 s2, .slice A9 l2.length c9] 24)) w7.heap.size 24 #[.int .i64 n2, .int .i64 s2, .slice A9 l2.length c9] from Blk.fresh _ _ _)
  have HB := Lib.hid (onward HB.out (Nat.le_refl _) hb)
  have B1 := Lib.hid (B1.out.below hb B1.out.lt)
  have BN3 := Lib.hid (BN3.out.below hb BN3.out.lt)
  have BN5 := Lib.hid (BN5.out.below hb BN5.out.lt)
  have BN7 := Lib.hid (BN7.out.below hb BN7.out.lt)
  have H3 := Lib.hid ((H3.out.below hb).more hb.size)
  have H5 := Lib.hid ((H5.out.below hb).more hb.size)
  have H7 := Lib.hid ((H7.out.below hb).more hb.size)
  have H9 := Lib.hid ((H9.out.below hb).more hb.size)
  clear hb
  generalize (w7.alloc (.cells #[.int .i64 n2, .int .i64 s2, .slice A9 l2.length c9] 24)) = w7v at *
  obtain ⟨p9, hp9⟩ : ∃ p, w7.heap.size = p := ⟨_, rfl⟩
  rw [hp9] at BN9 ⊢
  clear hp9
  clear B1
  go_wp2_with fail
  refine (CE.out _).mono ?_
  rintro e w8 ⟨A8, c8, rfl, hb⟩
  have HB := Lib.hid (onward HB.out (Nat.le_refl _) hb)
  have BN3 := Lib.hid (BN3.out.below hb BN3.out.lt)
  have BN5 := Lib.hid (BN5.out.below hb BN5.out.lt)
  have BN7 := Lib.hid (BN7.out.below hb BN7.out.lt)
  have BN9 := Lib.hid (BN9.out.below hb BN9.out.lt)
  have H3 := Lib.hid ((H3.out.below hb).more hb.size)
  have H5 := Lib.hid ((H5.out.below hb).more hb.size)
  have H7 := Lib.hid ((H7.out.below hb).more hb.size)
  have H9 := Lib.hid ((H9.out.below hb).more hb.size)
  clear hb
  go_upto_region 6 with fail
  have hb : Below w8.heap.size w8 (w8.alloc (.cells #[.int .i64 0, .int .i64 0, .slice A8 0 c8] 24)) := (Below.refl _ _).alloc (Nat.le_refl _) _
  have HB := Lib.hid (onward HB.out (Nat.le_refl _) hb)
  have BN3 := Lib.hid (BN3.out.below hb BN3.out.lt)
  have BN5 := Lib.hid (BN5.out.below hb BN5.out.lt)
  have BN7 := Lib.hid (BN7.out.below hb BN7.out.lt)
  have BN9 := Lib.hid (BN9.out.below hb BN9.out.lt)
  have H3 := Lib.hid ((H3.out.below hb).more hb.size)
  have H5 := Lib.hid ((H5.out.below hb).more hb.size)
  have H7 := Lib.hid ((H7.out.below hb).more hb.size)
  have H9 := Lib.hid ((H9.out.below hb).more hb.size)
  clear hb
  generalize (w8.alloc (.cells #[.int .i64 0, .int .i64 0, .slice A8 0 c8] 24)) = w8v at *
  have hee1 : (er1 == er1) = true := by simp
  have hee2 : (er2 == er2) = true := by simp
  refine wp_region_list ?_
  refine wpList_wanted (by rfl) (fun K hK => ?_)
  go_simp
  try simp only [hee1, hee2]
  refine hK _ _ ?_
  clear hK K
  try simp only [Act.put, List.setIfInBounds_toArray, List.set_cons_zero, List.set_cons_succ]
  refine wpList_wanted (by rfl) (fun K hK => ?_)
  go_simp
  try simp only [hee1, hee2]
  refine hK _ _ ?_
  clear hK K
  try simp only [Act.put, List.setIfInBounds_toArray, List.set_cons_zero, List.set_cons_succ]
  refine wpList_wanted (by rfl) (fun K hK => ?_)
  go_simp
  try simp only [hee1, hee2]
  refine hK _ _ ?_
  clear hK K
  try simp only [Act.put, List.setIfInBounds_toArray, List.set_cons_zero, List.set_cons_succ]
  refine wpList_wanted (by rfl) (fun K hK => ?_)
  go_simp
  try simp only [hee1, hee2]
  refine hK _ _ ?_
  clear hK K
  try simp only [Act.put, List.setIfInBounds_toArray, List.set_cons_zero, List.set_cons_succ]
  refine wpList_wanted (by rfl) (fun K hK => ?_)
  go_simp
  try simp only [hee1, hee2]
  refine hK _ _ ?_
  clear hK K
  try simp only [Act.put, List.setIfInBounds_toArray, List.set_cons_zero, List.set_cons_succ]
  refine wpList_wanted (by rfl) (fun K hK => ?_)
  go_simp
  try simp only [hee1, hee2]
  refine hK _ _ ?_
  clear hK K
  try simp only [Act.put, List.setIfInBounds_toArray, List.set_cons_zero, List.set_cons_succ]
  refine wpList_wanted (by rfl) (fun K hK => ?_)
  go_simp
  try simp only [hee1, hee2]
  refine hK _ _ ?_
  clear hK K
  try simp only [Act.put, List.setIfInBounds_toArray, List.set_cons_zero, List.set_cons_succ]
  refine wpList_wanted (by rfl) (fun K hK => ?_)
  go_simp
  try simp only [hee1, hee2]
  refine hK _ _ ?_
  clear hK K
  try simp only [Act.put, List.setIfInBounds_toArray, List.set_cons_zero, List.set_cons_succ]
  refine wpList_wanted (by rfl) (fun K hK => ?_)
  go_simp
  try simp only [hee1, hee2]
  refine hK _ _ ?_
  clear hK K
  try simp only [Act.put, List.setIfInBounds_toArray, List.set_cons_zero, List.set_cons_succ]
  refine wpList_whole (by rfl) 24 _ rfl p3 rfl BN3.out _ Try.underlying24 rfl (by kernel_rfl) ?_
  try simp only [Act.put, List.setIfInBounds_toArray, List.set_cons_zero, List.set_cons_succ]
  refine wpList_whole (by rfl) 24 _ rfl p5 rfl BN5.out _ Try.underlying24 rfl (by kernel_rfl) ?_
  try simp only [Act.put, List.setIfInBounds_toArray, List.set_cons_zero, List.set_cons_succ]
  refine wpList_wanted (by rfl) (fun K hK => ?_)
  go_simp
  go_at_call 14
  refine (sameBus_any n1 s1 A3 A5 c3 c5 l1 w8v.heap.size w8v (Nat.le_refl _) (by omega) H3.out H5.out).mono ?_
  rintro e w9 ⟨rfl, hb⟩
  have HB := Lib.hid (onward HB.out (Nat.le_refl _) hb)
  have BN7 := Lib.hid (BN7.out.below hb BN7.out.lt)
  have BN9 := Lib.hid (BN9.out.below hb BN9.out.lt)
  have H7 := Lib.hid ((H7.out.below hb).more hb.size)
  have H9 := Lib.hid ((H9.out.below hb).more hb.size)
  clear hb
  refine hK _ _ ?_
  clear hK K
  try simp only [Act.put, List.setIfInBounds_toArray, List.set_cons_zero, List.set_cons_succ]
  refine wpList_wanted (by rfl) (fun K hK => ?_)
  go_simp
  try simp only [hee1, hee2]
  refine hK _ _ ?_
  clear hK K
  try simp only [Act.put, List.setIfInBounds_toArray, List.set_cons_zero, List.set_cons_succ]
  refine wpList_wanted (by rfl) (fun K hK => ?_)
  go_simp
  try simp only [hee1, hee2]
  refine hK _ _ ?_
  clear hK K
  try simp only [Act.put, List.setIfInBounds_toArray, List.set_cons_zero, List.set_cons_succ]
  refine wpList_whole (by rfl) 24 _ rfl p7 rfl BN7.out _ Try.underlying24 rfl (by kernel_rfl) ?_
  try simp only [Act.put, List.setIfInBounds_toArray, List.set_cons_zero, List.set_cons_succ]
  refine wpList_whole (by rfl) 24 _ rfl p9 rfl BN9.out _ Try.underlying24 rfl (by kernel_rfl) ?_
  try simp only [Act.put, List.setIfInBounds_toArray, List.set_cons_zero, List.set_cons_succ]
  refine wpList_wanted (by rfl) (fun K hK => ?_)
  go_simp
  go_at_call 14
  refine (sameBus_any n2 s2 A7 A9 c7 c9 l2 w9.heap.size w9 (Nat.le_refl _) (by omega) H7.out H9.out).mono ?_
  rintro e w10 ⟨rfl, hb⟩
  have HB := Lib.hid (onward HB.out (Nat.le_refl _) hb)
  clear hb
  refine hK _ _ ?_
  clear hK K
  try simp only [Act.put, List.setIfInBounds_toArray, List.set_cons_zero, List.set_cons_succ]
  refine wpList_wanted (by rfl) (fun K hK => ?_)
  go_simp
  try simp only [hee1, hee2]
  refine hK _ _ ?_
  clear hK K
  try simp only [Act.put, List.setIfInBounds_toArray, List.set_cons_zero, List.set_cons_succ]
  refine wpList_wanted (by rfl) (fun K hK => ?_)
  go_simp
  try simp only [hee1, hee2]
  refine hK _ _ ?_
  clear hK K
  try simp only [Act.put, List.setIfInBounds_toArray, List.set_cons_zero, List.set_cons_succ]
  refine wpList_wanted (by rfl) (fun K hK => ?_)
  go_simp
  try simp only [hee1, hee2]
  refine hK _ _ ?_
  clear hK K
  try simp only [Act.put, List.setIfInBounds_toArray, List.set_cons_zero, List.set_cons_succ]
  refine wpList_wanted (by rfl) (fun K hK => ?_)
  go_simp
  try simp only [hee1, hee2]
  refine hK _ _ ?_
  clear hK K
  try simp only [Act.put, List.setIfInBounds_toArray, List.set_cons_zero, List.set_cons_succ]
  refine wpList_wanted (by rfl) (fun K hK => ?_)
  go_simp
  try simp only [hee1, hee2]
  refine hK _ _ ?_
  clear hK K
  try simp only [Act.put, List.setIfInBounds_toArray, List.set_cons_zero, List.set_cons_succ]
  refine wpList_wanted (by rfl) (fun K hK => ?_)
  go_simp
  try simp only [hee1, hee2]
  refine hK _ _ ?_
  clear hK K
  try simp only [Act.put, List.setIfInBounds_toArray, List.set_cons_zero, List.set_cons_succ]
  go_wp2_with fail
  go_ret
  exact ⟨rfl, HB.out⟩
set_option maxRecDepth 100000 in
set_option maxHeartbeats 1000000 in
theorem lifted (os : Os) (started : os.Started) (H : Type) (enc : TypeId × Value → H) :
    ReturnsInHanded {} Try.checked os 3 .any (Rows.busTurnsSpec.pre6 enc Try.prog Try.f3 Rows.busTurnsRow.domain false) (Rows.busTurnsSpec.post enc Try.prog Try.f3 false true false false) := by
  refine returnsInHanded_of_change_sized (C := Try.checked) Fr.own started (by kernel_rfl) Try.func3
    (ChangeSpec.witness6 (enc := enc) (C := Try.checked) false ⟨#[], #[.agg #[.int .i64 0, .int .i64 0, .slice none 0 0], .int .i64 0, .int .i64 0, .int .i64 0], []⟩ 8 (by kernel_rfl) (by kernel_rfl) (by kernel_rfl) (by kernel_rfl)) ?_
  intro W base args ds gs before hval0 hW _ hsz0 _
  have hval : ∀ (j : Nat) t v, Try.f3.params[j]? = some t → args[j]? = some v → Value.okWide Try.prog W .any base t v := hval0
  have hsz : (DataW.weightsEach Try.prog (Try.f3.params.toList ++ Rows.busTurnsSpec.plain.varTypes Try.prog) (ds ++ gs)).all (· ≤ reachBytes) = true := hsz0
  clear hval0 hsz0
  obtain ⟨p, q, hA0, hV0, _⟩ := id hW
  have hA : DataW.TrodAll enc Try.prog W 0 (fun _ => true) true Try.f3.params.toList args.toList ds p := hA0
  rw [Try.params3] at hA hval hsz
  obtain ⟨v0, vs0, d0, ds0, p0, q0, hargs, rfl, rfl, h0, r0⟩ := trodAll_cons hA
  obtain ⟨v1, vs1, d1, ds1, p1, q1, rfl, rfl, rfl, h1, r1⟩ := trodAll_cons r0
  obtain ⟨v2, vs2, d2, ds2, p2, q2, rfl, rfl, rfl, h2, r2⟩ := trodAll_cons r1
  obtain ⟨v3, vs3, d3, ds3, p3, q3, rfl, rfl, rfl, h3, r3⟩ := trodAll_cons r2
  obtain ⟨rfl, rfl, rfl⟩ := trodAll_nil r3
  obtain rfl : args = #[v0, v1, v2, v3] := by cases args; simp_all
  obtain ⟨rfl, rfl⟩ := trodVars_none hV0
  refine Fr.of_walk (f := Try.f3) Fr.laidOut (by rw [Try.params3]; intro t ht; simp at ht; (first | (rcases ht with rfl | rfl | rfl | rfl | rfl | rfl) | (rcases ht with rfl | rfl | rfl | rfl | rfl) | (rcases ht with rfl | rfl | rfl | rfl) | (rcases ht with rfl | rfl | rfl) | (rcases ht with rfl | rfl) | (subst ht)) <;> exact ⟨by kernel_rfl, of_decide_eq_true (by kernel_rfl)⟩) rfl rfl Try.underlying4 (fun _ => rfl) hW ?_
  clear hW hA hA0 hV0
  obtain ⟨now, ser, A, c, qs, rfl, hqc, hqb, hqA, hq, _, _⟩ := Bu.openBus (hval 0 24 v0 rfl rfl) h0 (Op.light_of_each (j := 0) hsz rfl rfl)
  obtain ⟨s, rfl, rfl, rfl, wf_s⟩ := open_int Try.underlying3 (hval 1 3 v1 rfl rfl) h1
  have bd_s := Op.wf_i64 wf_s
  obtain ⟨at_, rfl, rfl, rfl, wf_at_⟩ := open_int Try.underlying3 (hval 2 3 v2 rfl rfl) h2
  have bd_at_ := Op.wf_i64 wf_at_
  obtain ⟨m, rfl, rfl, rfl, wf_m⟩ := open_int Try.underlying3 (hval 3 3 v3 rfl rfl) h3
  have bd_m := Op.wf_i64 wf_m
  exact walk now ser A c qs s at_ m W (by omega) hq

set_option maxHeartbeats 2000000 in
theorem closedFacts : joinedFacts Try.prog 3 Try.f3 Rows.busTurnsSpec Rows.busTurnsRow = true := by
  unfold joinedFacts
  simp only [Bool.and_eq_true]
  refine ⟨⟨⟨⟨⟨⟨⟨⟨⟨⟨⟨⟨⟨⟨⟨⟨⟨⟨⟨⟨⟨⟨⟨⟨⟨⟨⟨⟨⟨⟨⟨?_, ?_⟩, ?_⟩, ?_⟩, ?_⟩, ?_⟩, ?_⟩, ?_⟩, ?_⟩, ?_⟩, ?_⟩, ?_⟩, ?_⟩, ?_⟩, ?_⟩, ?_⟩, ?_⟩, ?_⟩, ?_⟩, ?_⟩, ?_⟩, ?_⟩, ?_⟩, ?_⟩, ?_⟩, ?_⟩, ?_⟩, ?_⟩, ?_⟩, ?_⟩, ?_⟩, ?_⟩
  · as_aux_lemma => kernel_rfl
  · exact Fr.laidOut
  · exact Facts.mapsRowed_
  · as_aux_lemma => kernel_rfl
  · as_aux_lemma => kernel_rfl
  · as_aux_lemma => kernel_rfl
  · exact Facts.stops_
  · as_aux_lemma => kernel_rfl
  · exact Facts.knobs_
  · as_aux_lemma => kernel_rfl
  · as_aux_lemma => kernel_rfl
  · as_aux_lemma => kernel_rfl
  · as_aux_lemma => kernel_rfl
  · as_aux_lemma => kernel_rfl
  · as_aux_lemma => kernel_rfl
  · as_aux_lemma => kernel_rfl
  · as_aux_lemma => kernel_rfl
  · as_aux_lemma => kernel_rfl
  · as_aux_lemma => kernel_rfl
  · as_aux_lemma => kernel_rfl
  · as_aux_lemma => kernel_rfl
  · as_aux_lemma => kernel_rfl
  · exact Facts.keys_
  · as_aux_lemma => kernel_rfl
  · exact Facts.heard_
  · exact Facts.enter_
  · exact Facts.lifts_
  · exact Facts.make_
  · as_aux_lemma => kernel_rfl
  · as_aux_lemma => kernel_rfl
  · as_aux_lemma => kernel_rfl
  · as_aux_lemma => kernel_rfl

theorem proved : Rows.BusTurnsSaid :=
  OpenClaim.holds_of_wide 3 Try.f3 rfl rfl rfl rfl rfl rfl rfl ⟨rfl, rfl, rfl, rfl, rfl⟩ rfl rfl rfl rfl rfl (by kernel_rfl) Try.func3 closedFacts
    (of_decide_eq_true (by kernel_rfl)) (by unfold Func.isWrapper; first | (rw [if_pos (by decide +kernel)]; kernel_rfl) | (rw [if_neg (by decide +kernel)]; exact ⟨rfl, rfl⟩))
    (fun os started H enc _ => lifted os started H enc)

end Go.Proofs.Ytlcpackmoolngaa.lawBusTurns
