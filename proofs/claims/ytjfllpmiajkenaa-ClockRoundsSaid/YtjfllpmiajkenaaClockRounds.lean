/- The law ClockRounds returns true: clock.Round and the reference's ClockRound answer alike for all offsets, lies and bad nodes. Conditions: none. -/
import Derived.Test.YtjfllpmiajkenaaFrame
import Derived.Test.YtjfllpmiajkenaaFacts
import Derived.Test.YtjfllpmiajkenaaRound
namespace Go.Proofs.Ytjfllpmiajkenaa.lawClockRounds
open Go.ChangeShapes Go.WideShapes Go.ChangeAt Go.RowKit Go.Proofs.Ytjfllpmiajkenaa.Mem Go.Proofs.Ytjfllpmiajkenaa.Rd4 Go.Proofs.Ytjfllpmiajkenaa.Rn Go.Proofs.Ytjfllpmiajkenaa.Rws Go.Proofs.Ytjfllpmiajkenaa.Flat
set_option linter.unusedVariables false
set_option linter.unusedSimpArgs false

theorem five : rz (fun _ => 5) (fun _ => 0) (-1) 0 = 5 := by
  have h : okR (fun _ => 5) (fun _ => 0) = true := by decide
  have hm : Md.midOf [5, 5, 5, 5] = 5 := by
    have e : Md.srt [5, 5, 5, 5] = [5, 5, 5, 5] := by simp [Md.srt, List.mergeSort, List.MergeSort.Internal.splitInTwo, List.merge]
    simp [Md.midOf, e]
  unfold rz
  rw [if_pos h]
  unfold rout
  rw [if_neg (by decide)]
  exact hm
theorem at4_eta (a b c d : Int) : (#[.int .i64 a, .int .i64 b, .int .i64 c, .int .i64 d] : Array Value) = rowF .i64 4 (fun k => [a, b, c, d].getD k 0) := rfl

set_option maxRecDepth 100000 in
set_option maxHeartbeats 2000000 in
theorem walk (f g : Nat → Int) (bad : Int) (w : World) :
    Calls Try.prog 7 #[.agg (rowF .i64 4 f), .int .i64 bad, .agg (rowF .i64 4 g)] w fun e w' => e = .returned (.bool true) ∧ Below w.heap.size w w' := by
  have i4 := Lib.hid (fun h : Nat → Int => show (Try.prog.info? 28).map (·.size) = some (rowF .i64 4 h).size by rw [rowF_size]; kernel_rfl)
  have H3 : Hid (Blk ((w.alloc (.cells (rowF .i64 4 f) 28)).alloc (.cells (rowF .i64 4 g) 28)) w.heap.size 28 (rowF .i64 4 f)) := Lib.hid ((Blk.fresh w 28 (rowF .i64 4 f)).alloc _)
  have H5 : Hid (Blk ((w.alloc (.cells (rowF .i64 4 f) 28)).alloc (.cells (rowF .i64 4 g) 28)) (w.heap.size + 1) 28 (rowF .i64 4 g)) := Lib.hid (Blk.new (by simp))
  have HB := Lib.hid (((Below.refl w.heap.size w).alloc (Nat.le_refl _) (.cells (rowF .i64 4 f) 28)).alloc (by simp) (.cells (rowF .i64 4 g) 28))
  go_enter Try.func7, Try.ntmps7
  go_upto_region 1 with fail
  generalize ((w.alloc (.cells (rowF .i64 4 f) 28)).alloc (.cells (rowF .i64 4 g) 28)) = W1 at *
  go_wp2_with (first | (refine wpList_whole rfl 28 _ rfl w.heap.size rfl H3.out _ Try.underlying28 rfl (i4.out _) ?_) | (refine wpList_whole rfl 28 _ rfl (w.heap.size + 1) rfl H5.out _ Try.underlying28 rfl (i4.out _) ?_))
  refine (round_any f g bad _).mono ?_
  rintro e w2 ⟨rfl, hb⟩
  have HB := Lib.hid (onward HB.out (Nat.le_refl _) hb)
  have H3 := Lib.hid (H3.out.below hb H3.out.lt)
  have H5 := Lib.hid (H5.out.below hb H5.out.lt)
  clear hb
  obtain ⟨r, hr⟩ : ∃ r, rz f g bad = r := ⟨_, rfl⟩
  obtain ⟨E, hE⟩ : ∃ r, re f g = r := ⟨_, rfl⟩
  have HRE := Lib.hid (And.intro hr hE)
  rw [hr, hE]
  clear hr hE
  have F7 : Hid (Blk (w2.alloc (.cells #[.int .i64 0, .int .i64 0, .int .i64 0, .int .i64 0] 28)) w2.heap.size 28 #[.int .i64 0, .int .i64 0, .int .i64 0, .int .i64 0]) := Lib.hid (Blk.fresh _ _ _)
  have H7 := Lib.hid (F7.out.setRow (rowF .i64 4 r))
  have BEL := Lib.hid (below_setRow ((Below.refl w2.heap.size w2).alloc (Nat.le_refl _) (.cells #[.int .i64 0, .int .i64 0, .int .i64 0, .int .i64 0] 28)) (Nat.le_refl _) (rowF .i64 4 r))
  go_upto_region 2 with (refine wpList_store_row rfl 28 _ _ rfl w2.heap.size (rowF .i64 4 r) rfl rfl 28 _ F7.out (i4.out _) rfl (row4_one _) ?_)
  generalize ((w2.alloc (.cells #[.int .i64 0, .int .i64 0, .int .i64 0, .int .i64 0] 28)).setRow w2.heap.size (rowF .i64 4 r)) = w3 at *
  have HB := Lib.hid (onward HB.out (Nat.le_refl _) BEL.out)
  have H3 := Lib.hid (H3.out.below BEL.out H3.out.lt)
  have H5 := Lib.hid (H5.out.below BEL.out H5.out.lt)
  obtain ⟨p7, hp7⟩ : ∃ p, w2.heap.size = p := ⟨_, rfl⟩
  rw [hp7] at H7 ⊢
  clear hp7 F7 BEL
  go_wp2_with (first | (refine wpList_whole rfl 28 _ rfl w.heap.size rfl H3.out _ Try.underlying28 rfl (i4.out _) ?_) | (refine wpList_whole rfl 28 _ rfl (w.heap.size + 1) rfl H5.out _ Try.underlying28 rfl (i4.out _) ?_))
  refine (refround_any f g bad _).mono ?_
  rintro e w4 ⟨rfl, hb⟩
  have HB := Lib.hid (onward HB.out (Nat.le_refl _) hb)
  have H7 := Lib.hid (H7.out.below hb H7.out.lt)
  clear hb H3 H5
  rw [HRE.out.1, HRE.out.2]
  have F9 : Hid (Blk (w4.alloc (.cells #[.int .i64 0, .int .i64 0, .int .i64 0, .int .i64 0] 28)) w4.heap.size 28 #[.int .i64 0, .int .i64 0, .int .i64 0, .int .i64 0]) := Lib.hid (Blk.fresh _ _ _)
  have H9 := Lib.hid (F9.out.setRow (rowF .i64 4 r))
  have BEL := Lib.hid (below_setRow ((Below.refl w4.heap.size w4).alloc (Nat.le_refl _) (.cells #[.int .i64 0, .int .i64 0, .int .i64 0, .int .i64 0] 28)) (Nat.le_refl _) (rowF .i64 4 r))
  go_upto_region 3 with (refine wpList_store_row rfl 28 _ _ rfl w4.heap.size (rowF .i64 4 r) rfl rfl 28 _ F9.out (i4.out _) rfl (row4_one _) ?_)
  generalize ((w4.alloc (.cells #[.int .i64 0, .int .i64 0, .int .i64 0, .int .i64 0] 28)).setRow w4.heap.size (rowF .i64 4 r)) = w5 at *
  have HB := Lib.hid (onward HB.out (Nat.le_refl _) BEL.out)
  have H7 := Lib.hid (H7.out.below BEL.out H7.out.lt)
  obtain ⟨p9, hp9⟩ : ∃ p, w4.heap.size = p := ⟨_, rfl⟩
  rw [hp9] at H9 ⊢
  clear hp9 F9 BEL
  have CR := Lib.hid (fun v => round_any (fun _ => 5) (fun _ => 0) (-1) v)
  have hF := five
  obtain ⟨r5, hr5⟩ : ∃ r, rz (fun _ => 5) (fun _ => 0) (-1) = r := ⟨_, rfl⟩
  rw [hr5] at hF
  have HF := Lib.hid hF
  have HR5 := Lib.hid hr5
  clear hF hr5
  go_wp2_with fail
  refine (CR.out _).mono ?_
  rintro e w6 ⟨rfl, hb⟩
  have HB := Lib.hid (onward HB.out (Nat.le_refl _) hb)
  have H7 := Lib.hid (H7.out.below hb H7.out.lt)
  have H9 := Lib.hid (H9.out.below hb H9.out.lt)
  clear hb
  rw [HR5.out]
  obtain ⟨E5, hE5⟩ : ∃ r, re (fun _ => 5) (fun _ => 0) = r := ⟨_, rfl⟩
  rw [hE5]
  clear hE5
  have F11 : Hid (Blk (w6.alloc (.cells #[.int .i64 0, .int .i64 0, .int .i64 0, .int .i64 0] 28)) w6.heap.size 28 #[.int .i64 0, .int .i64 0, .int .i64 0, .int .i64 0]) := Lib.hid (Blk.fresh _ _ _)
  have H11 := Lib.hid (F11.out.setRow (rowF .i64 4 r5))
  have BEL := Lib.hid (below_setRow ((Below.refl w6.heap.size w6).alloc (Nat.le_refl _) (.cells #[.int .i64 0, .int .i64 0, .int .i64 0, .int .i64 0] 28)) (Nat.le_refl _) (rowF .i64 4 r5))
  go_upto_region 4 with (refine wpList_store_row rfl 28 _ _ rfl w6.heap.size (rowF .i64 4 r5) rfl rfl 28 _ F11.out (i4.out _) rfl (row4_one _) ?_)
  generalize ((w6.alloc (.cells #[.int .i64 0, .int .i64 0, .int .i64 0, .int .i64 0] 28)).setRow w6.heap.size (rowF .i64 4 r5)) = w7 at *
  have HB := Lib.hid (onward HB.out (Nat.le_refl _) BEL.out)
  have H7 := Lib.hid (H7.out.below BEL.out H7.out.lt)
  have H9 := Lib.hid (H9.out.below BEL.out H9.out.lt)
  obtain ⟨p11, hp11⟩ : ∃ p, w6.heap.size = p := ⟨_, rfl⟩
  rw [hp11] at H11 ⊢
  clear hp11 F11 BEL
  have x0 := H11.out.cell 0
  rw [rowF_at _ _ _ _ (by omega), HF.out] at x0
  refine wp_region_list ?_
  refine wpList_whole (by rfl) 28 _ rfl p7 rfl H7.out _ Try.underlying28 rfl (i4.out _) ?_
  try simp only [Act.put, List.setIfInBounds_toArray, List.set_cons_zero, List.set_cons_succ]
  refine wpList_whole (by rfl) 28 _ rfl p9 rfl H9.out _ Try.underlying28 rfl (i4.out _) ?_
  try simp only [Act.put, List.setIfInBounds_toArray, List.set_cons_zero, List.set_cons_succ]
  refine wpList_eql (by rfl) 28 _ _ _ rfl (d := 20) (ls := [true, true, true, true]) (by kernel_rfl) (by omega) Try.underlying28 rfl (by kernel_rfl) (by kernel_rfl) (fun i => .int .i64 (r i)) rfl rfl (by simp [List.range_succ, Typed]) ?_
  try simp only [Act.put, List.setIfInBounds_toArray, List.set_cons_zero, List.set_cons_succ]
  go_wp2_with fail
  go_ret
  exact ⟨rfl, HB.out⟩
set_option maxRecDepth 100000 in
set_option maxHeartbeats 1000000 in
theorem lifted (os : Os) (started : os.Started) (H : Type) (enc : TypeId × Value → H) :
    ReturnsInHanded {} Try.checked os 7 .any (Rows.clockRoundsSpec.pre6 enc Try.prog Try.f7 Rows.clockRoundsRow.domain false) (Rows.clockRoundsSpec.post enc Try.prog Try.f7 false true false false) := by
  refine returnsInHanded_of_change_sized (C := Try.checked) Fr.own started (by kernel_rfl) Try.func7
    (ChangeSpec.witness6 (enc := enc) (C := Try.checked) false ⟨#[], #[.agg #[.int .i64 0, .int .i64 0, .int .i64 0, .int .i64 0], .int .i64 0, .agg #[.int .i64 0, .int .i64 0, .int .i64 0, .int .i64 0]], []⟩ 8 (by kernel_rfl) (by kernel_rfl) (by kernel_rfl) (by kernel_rfl)) ?_
  intro W base args ds gs before hval0 hW _ hsz0 _
  have hval : ∀ (j : Nat) t v, Try.f7.params[j]? = some t → args[j]? = some v → Value.okWide Try.prog W .any base t v := hval0
  have hsz : (DataW.weightsEach Try.prog (Try.f7.params.toList ++ Rows.clockRoundsSpec.plain.varTypes Try.prog) (ds ++ gs)).all (· ≤ reachBytes) = true := hsz0
  clear hval0 hsz0
  obtain ⟨p, q, hA0, hV0, _⟩ := id hW
  have hA : DataW.TrodAll enc Try.prog W 0 (fun _ => true) true Try.f7.params.toList args.toList ds p := hA0
  rw [Try.params7] at hA hval hsz
  obtain ⟨v0, vs0, d0, ds0, p0, q0, hargs, rfl, rfl, h0, r0⟩ := trodAll_cons hA
  obtain ⟨v1, vs1, d1, ds1, p1, q1, rfl, rfl, rfl, h1, r1⟩ := trodAll_cons r0
  obtain ⟨v2, vs2, d2, ds2, p2, q2, rfl, rfl, rfl, h2, r2⟩ := trodAll_cons r1
  obtain ⟨rfl, rfl, rfl⟩ := trodAll_nil r2
  obtain rfl : args = #[v0, v1, v2] := by cases args; simp_all
  obtain ⟨rfl, rfl⟩ := trodVars_none hV0
  refine Fr.of_walk (f := Try.f7) Fr.laidOut (by rw [Try.params7]; intro t ht; simp at ht; (first | (rcases ht with rfl | rfl | rfl | rfl | rfl | rfl) | (rcases ht with rfl | rfl | rfl | rfl | rfl) | (rcases ht with rfl | rfl | rfl | rfl) | (rcases ht with rfl | rfl | rfl) | (rcases ht with rfl | rfl) | (subst ht)) <;> exact ⟨by kernel_rfl, of_decide_eq_true (by kernel_rfl)⟩) rfl rfl Try.underlying4 (fun _ => rfl) hW ?_
  clear hW hA hA0 hV0
  obtain ⟨cs0, rfl⟩ := Op.okWide_agg (t := 28) (by kernel_rfl) (hval 0 28 v0 rfl rfl)
  have k0 := Op.flat_arg (ls := [3,3,3,3]) (by kernel_rfl) h0 (Op.light_of_each (j := 0) hsz rfl rfl)
  obtain ⟨y0_0, l0, e0, f0_0, k0⟩ := k0.cons
  obtain ⟨y0_1, l0, rfl, f0_1, k0⟩ := k0.cons
  obtain ⟨y0_2, l0, rfl, f0_2, k0⟩ := k0.cons
  obtain ⟨y0_3, l0, rfl, f0_3, k0⟩ := k0.cons
  obtain rfl := k0.nil_
  obtain rfl := Op.arr_of e0
  obtain ⟨a, rfl, wf_a⟩ := f0_0.int Try.underlying3
  obtain ⟨b, rfl, wf_b⟩ := f0_1.int Try.underlying3
  obtain ⟨c, rfl, wf_c⟩ := f0_2.int Try.underlying3
  obtain ⟨d, rfl, wf_d⟩ := f0_3.int Try.underlying3
  obtain ⟨bad, rfl, rfl, rfl, wf_bad⟩ := open_int Try.underlying3 (hval 1 3 v1 rfl rfl) h1
  have bd_bad := Op.wf_i64 wf_bad
  obtain ⟨cs2, rfl⟩ := Op.okWide_agg (t := 28) (by kernel_rfl) (hval 2 28 v2 rfl rfl)
  have k2 := Op.flat_arg (ls := [3,3,3,3]) (by kernel_rfl) h2 (Op.light_of_each (j := 2) hsz rfl rfl)
  obtain ⟨y2_0, l2, e2, f2_0, k2⟩ := k2.cons
  obtain ⟨y2_1, l2, rfl, f2_1, k2⟩ := k2.cons
  obtain ⟨y2_2, l2, rfl, f2_2, k2⟩ := k2.cons
  obtain ⟨y2_3, l2, rfl, f2_3, k2⟩ := k2.cons
  obtain rfl := k2.nil_
  obtain rfl := Op.arr_of e2
  obtain ⟨p, rfl, wf_p⟩ := f2_0.int Try.underlying3
  obtain ⟨q, rfl, wf_q⟩ := f2_1.int Try.underlying3
  obtain ⟨r, rfl, wf_r⟩ := f2_2.int Try.underlying3
  obtain ⟨s, rfl, wf_s⟩ := f2_3.int Try.underlying3
  exact walk (fun k => [a, b, c, d].getD k 0) (fun k => [p, q, r, s].getD k 0) bad W

theorem closedFacts : joinedFacts Try.prog 7 Try.f7 Rows.clockRoundsSpec Rows.clockRoundsRow = true := by
  unfold joinedFacts
  simp only [Bool.and_eq_true]
  refine ⟨⟨⟨⟨⟨⟨⟨⟨⟨⟨⟨⟨⟨⟨⟨⟨⟨⟨⟨⟨⟨⟨⟨⟨⟨⟨⟨⟨⟨⟨⟨?_, ?_⟩, ?_⟩, ?_⟩, ?_⟩, ?_⟩, ?_⟩, ?_⟩, ?_⟩, ?_⟩, ?_⟩, ?_⟩, ?_⟩, ?_⟩, ?_⟩, ?_⟩, ?_⟩, ?_⟩, ?_⟩, ?_⟩, ?_⟩, ?_⟩, ?_⟩, ?_⟩, ?_⟩, ?_⟩, ?_⟩, ?_⟩, ?_⟩, ?_⟩, ?_⟩, ?_⟩
  · as_aux_lemma => kernel_rfl
  · exact Fr.laidOut
  · exact Facts.mapsRowed_
  · as_aux_lemma => kernel_rfl
  · as_aux_lemma => kernel_rfl
  · as_aux_lemma => kernel_rfl
  · exact Facts.stops_
  · as_aux_lemma => kernel_rfl
  · exact Facts.knobs_
  · as_aux_lemma => kernel_rfl
  · as_aux_lemma => kernel_rfl
  · as_aux_lemma => kernel_rfl
  · as_aux_lemma => kernel_rfl
  · as_aux_lemma => kernel_rfl
  · as_aux_lemma => kernel_rfl
  · as_aux_lemma => kernel_rfl
  · as_aux_lemma => kernel_rfl
  · as_aux_lemma => kernel_rfl
  · as_aux_lemma => kernel_rfl
  · as_aux_lemma => kernel_rfl
  · as_aux_lemma => kernel_rfl
  · as_aux_lemma => kernel_rfl
  · exact Facts.keys_
  · as_aux_lemma => kernel_rfl
  · exact Facts.heard_
  · exact Facts.enter_
  · exact Facts.lifts_
  · exact Facts.make_
  · as_aux_lemma => kernel_rfl
  · as_aux_lemma => kernel_rfl
  · as_aux_lemma => kernel_rfl
  · as_aux_lemma => kernel_rfl

theorem proved : Rows.ClockRoundsSaid :=
  OpenClaim.holds_of_wide 7 Try.f7 rfl rfl rfl rfl rfl rfl rfl ⟨rfl, rfl, rfl, rfl, rfl⟩ rfl rfl rfl rfl rfl (by kernel_rfl) Try.func7 closedFacts
    (of_decide_eq_true (by kernel_rfl)) (by unfold Func.isWrapper; first | (rw [if_pos (by decide +kernel)]; kernel_rfl) | (rw [if_neg (by decide +kernel)]; exact ⟨rfl, rfl⟩))
    (fun os started H enc _ => lifted os started H enc)

end Go.Proofs.Ytjfllpmiajkenaa.lawClockRounds
