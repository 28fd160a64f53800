/- The law VecCrosses returns true: vec.Cross and the reference answer one vector and one Bool for all vectors. Conditions: none. -/
import Derived.Test.YtajhkbdaoakogaaFrame
import Derived.Test.YtajhkbdaoakogaaFacts
import Derived.Test.YtajhkbdaoakogaaOpen
import Derived.Test.YtajhkbdaoakogaaCrossR
namespace Go.Proofs.Ytajhkbdaoakogaa.lawVecCrosses
open Go.ChangeShapes Go.WideShapes Go.ChangeAt Go.RowKit Go.Proofs.Ytajhkbdaoakogaa.Mem Go.Proofs.Ytajhkbdaoakogaa.BigW Go.Proofs.Ytajhkbdaoakogaa.Rws
set_option linter.unusedVariables false
set_option linter.unusedSimpArgs false

theorem c1 : twoV 0 0 0 4294967296 = (0, false) := by decide +kernel
theorem c2 : twoV 0 0 4294967296 0 = (0, false) := by decide +kernel
theorem c3 : twoV 4294967296 4294967296 0 0 = (4294967296, false) := by decide +kernel
theorem i0 : In64 0 := by unfold In64; omega
theorem i1 : In64 4294967296 := by unfold In64; omega

set_option maxRecDepth 100000 in
set_option maxHeartbeats 2000000 in
theorem walk (ax ay az bx b_y bz : Int) (w : World) (r_ax : In64 ax) (r_ay : In64 ay) (r_az : In64 az) (r_bx : In64 bx) (r_b_y : In64 b_y) (r_bz : In64 bz) :
    Calls Try.prog 8 #[.agg #[.int .i64 ax, .int .i64 ay, .int .i64 az], .agg #[.int .i64 bx, .int .i64 b_y, .int .i64 bz]] w fun e w' => e = .returned (.bool true) ∧ Below w.heap.size w w' := by
  obtain ⟨⟨px, pxb⟩, h_px⟩ : ∃ res_, twoV ay bz az b_y = res_ := ⟨_, rfl⟩
  have PX_ := Lib.hid h_px
  clear h_px
  obtain ⟨⟨py, pyb⟩, h_py⟩ : ∃ res_, twoV az bx ax bz = res_ := ⟨_, rfl⟩
  have PY_ := Lib.hid h_py
  clear h_py
  obtain ⟨⟨pz, pzb⟩, h_pz⟩ : ∃ res_, twoV ax b_y ay bx = res_ := ⟨_, rfl⟩
  have PZ_ := Lib.hid h_pz
  clear h_pz
  obtain ⟨pt, h_pt⟩ : ∃ t_, (pxb || pyb || pzb) = t_ := ⟨_, rfl⟩
  have PT_ := Lib.hid h_pt
  clear h_pt
  go_enter Try.func8, Try.ntmps8
  go_upto_region 1 with fail
  have HB := Lib.hid (show Below w.heap.size w ((w.alloc (.cells #[.int .i64 ax, .int .i64 ay, .int .i64 az] 37)).alloc (.cells #[.int .i64 bx, .int .i64 b_y, .int .i64 bz] 37)) from ((Below.refl _ _).alloc (Nat.le_refl _) _).alloc (by simp) _)
  have HA := Lib.hid (show Blk ((w.alloc (.cells #[.int .i64 ax, .int .i64 ay, .int .i64 az] 37)).alloc (.cells #[.int .i64 bx, .int .i64 b_y, .int .i64 bz] 37)) (w.heap.size) 37 #[.int .i64 ax, .int .i64 ay, .int .i64 az] from (Blk.new rfl).alloc _)
  have HX := Lib.hid (show Blk ((w.alloc (.cells #[.int .i64 ax, .int .i64 ay, .int .i64 az] 37)).alloc (.cells #[.int .i64 bx, .int .i64 b_y, .int .i64 bz] 37)) (w.heap.size + 1) 37 #[.int .i64 bx, .int .i64 b_y, .int .i64 bz] from Blk.new (by simp))
  generalize ((w.alloc (.cells #[.int .i64 ax, .int .i64 ay, .int .i64 az] 37)).alloc (.cells #[.int .i64 bx, .int .i64 b_y, .int .i64 bz] 37)) = w1 at *
  obtain ⟨gX, hgX⟩ : ∃ g, w.heap.size + 1 = g := ⟨_, rfl⟩
  rw [hgX] at HX ⊢
  go_wp2_with (first | (refine wpList_whole rfl 37 _ rfl w.heap.size rfl HA.out _ Try.underlying37 rfl (by kernel_rfl) ?_) | (refine wpList_whole rfl 37 _ rfl gX rfl HX.out _ Try.underlying37 rfl (by kernel_rfl) ?_))
  refine (cross_any ax ay az bx b_y bz _ r_ax r_ay r_az r_bx r_b_y r_bz).mono ?_
  rintro e w1 ⟨rfl, hb⟩
  rw [PX_.out, PY_.out, PZ_.out]
  simp only [vecV]
  rw [PT_.out]
  have HA := Lib.hid (HA.out.below hb HA.out.lt)
  have HX := Lib.hid (HX.out.below hb HX.out.lt)
  have HB := Lib.hid (onward HB.out (Nat.le_refl _) hb)
  clear hb
  go_upto_region 2 with fail
  have HA := Lib.hid (HA.out.alloc (.cells #[.int .i64 px, .int .i64 py, .int .i64 pz] 37))
  have HX := Lib.hid (HX.out.alloc (.cells #[.int .i64 px, .int .i64 py, .int .i64 pz] 37))
  have HC0 := Lib.hid (show Blk (w1.alloc (.cells #[.int .i64 px, .int .i64 py, .int .i64 pz] 37)) w1.heap.size 37 #[.int .i64 px, .int .i64 py, .int .i64 pz] from Blk.fresh _ _ _)
  have HB := Lib.hid (HB.out.alloc HB.out.size (.cells #[.int .i64 px, .int .i64 py, .int .i64 pz] 37))
  obtain ⟨gc0, hgc0⟩ : ∃ g, w1.heap.size = g := ⟨_, rfl⟩
  rw [hgc0] at HC0 ⊢
  generalize (w1.alloc (.cells #[.int .i64 px, .int .i64 py, .int .i64 pz] 37)) = w1 at *
  go_wp2_with (first | (refine wpList_whole rfl 37 _ rfl w.heap.size rfl HA.out _ Try.underlying37 rfl (by kernel_rfl) ?_) | (refine wpList_whole rfl 37 _ rfl gX rfl HX.out _ Try.underlying37 rfl (by kernel_rfl) ?_) | (refine wpList_whole rfl 37 _ rfl gc0 rfl HC0.out _ Try.underlying37 rfl (by kernel_rfl) ?_))
  refine (refcross_any ax ay az bx b_y bz _ r_ax r_ay r_az r_bx r_b_y r_bz).mono ?_
  rintro e w1 ⟨rfl, hb⟩
  rw [PX_.out, PY_.out, PZ_.out]
  simp only [vecV]
  rw [PT_.out]
  have HA := Lib.hid (HA.out.below hb HA.out.lt)
  have HX := Lib.hid (HX.out.below hb HX.out.lt)
  have HC0 := Lib.hid (HC0.out.below hb HC0.out.lt)
  have HB := Lib.hid (onward HB.out (Nat.le_refl _) hb)
  clear hb
  go_upto_region 3 with fail
  have HA := Lib.hid (HA.out.alloc (.cells #[.int .i64 px, .int .i64 py, .int .i64 pz] 37))
  have HX := Lib.hid (HX.out.alloc (.cells #[.int .i64 px, .int .i64 py, .int .i64 pz] 37))
  have HC0 := Lib.hid (HC0.out.alloc (.cells #[.int .i64 px, .int .i64 py, .int .i64 pz] 37))
  have HC1 := Lib.hid (show Blk (w1.alloc (.cells #[.int .i64 px, .int .i64 py, .int .i64 pz] 37)) w1.heap.size 37 #[.int .i64 px, .int .i64 py, .int .i64 pz] from Blk.fresh _ _ _)
  have HB := Lib.hid (HB.out.alloc HB.out.size (.cells #[.int .i64 px, .int .i64 py, .int .i64 pz] 37))
  obtain ⟨gc1, hgc1⟩ : ∃ g, w1.heap.size = g := ⟨_, rfl⟩
  rw [hgc1] at HC1 ⊢
  generalize (w1.alloc (.cells #[.int .i64 px, .int .i64 py, .int .i64 pz] 37)) = w1 at *
  go_wp2_with fail
  refine (cross_any 4294967296 0 0 0 4294967296 0 _ i1 i0 i0 i0 i1 i0).mono ?_
  rintro e w1 ⟨rfl, hb⟩
  rw [c1, c2, c3]
  simp only [vecV]
  have HA := Lib.hid (HA.out.below hb HA.out.lt)
  have HX := Lib.hid (HX.out.below hb HX.out.lt)
  have HC0 := Lib.hid (HC0.out.below hb HC0.out.lt)
  have HC1 := Lib.hid (HC1.out.below hb HC1.out.lt)
  have HB := Lib.hid (onward HB.out (Nat.le_refl _) hb)
  clear hb
  go_upto_region 4 with fail
  have HA := Lib.hid (HA.out.alloc (.cells #[.int .i64 0, .int .i64 0, .int .i64 4294967296] 37))
  have HX := Lib.hid (HX.out.alloc (.cells #[.int .i64 0, .int .i64 0, .int .i64 4294967296] 37))
  have HC0 := Lib.hid (HC0.out.alloc (.cells #[.int .i64 0, .int .i64 0, .int .i64 4294967296] 37))
  have HC1 := Lib.hid (HC1.out.alloc (.cells #[.int .i64 0, .int .i64 0, .int .i64 4294967296] 37))
  have HZ := Lib.hid (show Blk (w1.alloc (.cells #[.int .i64 0, .int .i64 0, .int .i64 4294967296] 37)) w1.heap.size 37 #[.int .i64 0, .int .i64 0, .int .i64 4294967296] from Blk.fresh _ _ _)
  have HB := Lib.hid (HB.out.alloc HB.out.size (.cells #[.int .i64 0, .int .i64 0, .int .i64 4294967296] 37))
  obtain ⟨gz, hgz⟩ : ∃ g, w1.heap.size = g := ⟨_, rfl⟩
  rw [hgz] at HZ ⊢
  generalize (w1.alloc (.cells #[.int .i64 0, .int .i64 0, .int .i64 4294967296] 37)) = w1 at *
  have k5 : w1.cell? ⟨gz, 2, none⟩ = some (.int .i64 4294967296) := (Blk.cell HZ.out 2).trans rfl
  all_goals cases pt
  all_goals
    go_wp2_with (first | (refine wpList_whole rfl 37 _ rfl w.heap.size rfl HA.out _ Try.underlying37 rfl (by kernel_rfl) ?_) | (refine wpList_whole rfl 37 _ rfl gX rfl HX.out _ Try.underlying37 rfl (by kernel_rfl) ?_) | (refine wpList_whole rfl 37 _ rfl gc0 rfl HC0.out _ Try.underlying37 rfl (by kernel_rfl) ?_) | (refine wpList_whole rfl 37 _ rfl gc1 rfl HC1.out _ Try.underlying37 rfl (by kernel_rfl) ?_))
    go_ret
    exact ⟨rfl, HB.out⟩
set_option maxRecDepth 100000 in
set_option maxHeartbeats 1000000 in
theorem lifted (os : Os) (started : os.Started) (H : Type) (enc : TypeId × Value → H) :
    ReturnsInHanded {} Try.checked os 8 .any (Rows.vecCrossesSpec.pre6 enc Try.prog Try.f8 Rows.vecCrossesRow.domain false) (Rows.vecCrossesSpec.post enc Try.prog Try.f8 false true false false) := by
  refine returnsInHanded_of_change_sized (C := Try.checked) Fr.own started (by kernel_rfl) Try.func8
    (ChangeSpec.witness6 (enc := enc) (C := Try.checked) false ⟨#[], #[.agg #[.int .i64 0, .int .i64 0, .int .i64 0], .agg #[.int .i64 0, .int .i64 0, .int .i64 0]], []⟩ 8 (by kernel_rfl) (by kernel_rfl) (by kernel_rfl) (by kernel_rfl)) ?_
  intro W base args ds gs before hval0 hW _ hsz0 _
  have hval : ∀ (j : Nat) t v, Try.f8.params[j]? = some t → args[j]? = some v → Value.okWide Try.prog W .any base t v := hval0
  have hsz : (DataW.weightsEach Try.prog (Try.f8.params.toList ++ Rows.vecCrossesSpec.plain.varTypes Try.prog) (ds ++ gs)).all (· ≤ reachBytes) = true := hsz0
  clear hval0 hsz0
  obtain ⟨p, q, hA0, hV0, _⟩ := id hW
  have hA : DataW.TrodAll enc Try.prog W 0 (fun _ => true) true Try.f8.params.toList args.toList ds p := hA0
  rw [Try.params8] at hA hval hsz
  obtain ⟨v0, vs0, d0, ds0, p0, q0, hargs, rfl, rfl, h0, r0⟩ := trodAll_cons hA
  obtain ⟨v1, vs1, d1, ds1, p1, q1, rfl, rfl, rfl, h1, r1⟩ := trodAll_cons r0
  obtain ⟨rfl, rfl, rfl⟩ := trodAll_nil r1
  obtain rfl : args = #[v0, v1] := by cases args; simp_all
  obtain ⟨rfl, rfl⟩ := trodVars_none hV0
  refine Fr.of_walk (f := Try.f8) Fr.laidOut (by rw [Try.params8]; intro t ht; simp at ht; (first | (rcases ht with rfl | rfl | rfl | rfl | rfl | rfl) | (rcases ht with rfl | rfl | rfl | rfl | rfl) | (rcases ht with rfl | rfl | rfl | rfl) | (rcases ht with rfl | rfl | rfl) | (rcases ht with rfl | rfl) | (subst ht)) <;> exact ⟨by kernel_rfl, of_decide_eq_true (by kernel_rfl)⟩) rfl rfl Try.underlying4 (fun _ => rfl) hW ?_
  clear hW hA hA0 hV0
  obtain ⟨cs0, rfl⟩ := Op.okWide_agg (t := 37) (by kernel_rfl) (hval 0 37 v0 rfl rfl)
  have k0 := Op.flat_arg (ls := [3,3,3]) (by kernel_rfl) h0 (Op.light_of_each (j := 0) hsz rfl rfl)
  obtain ⟨y0_0, l0, e0, f0_0, k0⟩ := k0.cons
  obtain ⟨y0_1, l0, rfl, f0_1, k0⟩ := k0.cons
  obtain ⟨y0_2, l0, rfl, f0_2, k0⟩ := k0.cons
  obtain rfl := k0.nil_
  obtain rfl := Op.arr_of e0
  obtain ⟨ax, rfl, wf_ax⟩ := f0_0.int Try.underlying3
  obtain ⟨ay, rfl, wf_ay⟩ := f0_1.int Try.underlying3
  obtain ⟨az, rfl, wf_az⟩ := f0_2.int Try.underlying3
  obtain ⟨cs1, rfl⟩ := Op.okWide_agg (t := 37) (by kernel_rfl) (hval 1 37 v1 rfl rfl)
  have k1 := Op.flat_arg (ls := [3,3,3]) (by kernel_rfl) h1 (Op.light_of_each (j := 1) hsz rfl rfl)
  obtain ⟨y1_0, l1, e1, f1_0, k1⟩ := k1.cons
  obtain ⟨y1_1, l1, rfl, f1_1, k1⟩ := k1.cons
  obtain ⟨y1_2, l1, rfl, f1_2, k1⟩ := k1.cons
  obtain rfl := k1.nil_
  obtain rfl := Op.arr_of e1
  obtain ⟨bx, rfl, wf_bx⟩ := f1_0.int Try.underlying3
  obtain ⟨b_y, rfl, wf_b_y⟩ := f1_1.int Try.underlying3
  obtain ⟨bz, rfl, wf_bz⟩ := f1_2.int Try.underlying3
  exact walk ax ay az bx b_y bz W (Op.wf_i64 wf_ax) (Op.wf_i64 wf_ay) (Op.wf_i64 wf_az) (Op.wf_i64 wf_bx) (Op.wf_i64 wf_b_y) (Op.wf_i64 wf_bz)

theorem closedFacts : joinedFacts Try.prog 8 Try.f8 Rows.vecCrossesSpec Rows.vecCrossesRow = true := by
  unfold joinedFacts
  simp only [Bool.and_eq_true]
  refine ⟨⟨⟨⟨⟨⟨⟨⟨⟨⟨⟨⟨⟨⟨⟨⟨⟨⟨⟨⟨⟨⟨⟨⟨⟨⟨⟨⟨⟨⟨⟨?_, ?_⟩, ?_⟩, ?_⟩, ?_⟩, ?_⟩, ?_⟩, ?_⟩, ?_⟩, ?_⟩, ?_⟩, ?_⟩, ?_⟩, ?_⟩, ?_⟩, ?_⟩, ?_⟩, ?_⟩, ?_⟩, ?_⟩, ?_⟩, ?_⟩, ?_⟩, ?_⟩, ?_⟩, ?_⟩, ?_⟩, ?_⟩, ?_⟩, ?_⟩, ?_⟩, ?_⟩
  · as_aux_lemma => kernel_rfl
  · exact Fr.laidOut
  · exact Facts.mapsRowed_
  · as_aux_lemma => kernel_rfl
  · as_aux_lemma => kernel_rfl
  · as_aux_lemma => kernel_rfl
  · exact Facts.stops_
  · as_aux_lemma => kernel_rfl
  · exact Facts.knobs_
  · as_aux_lemma => kernel_rfl
  · as_aux_lemma => kernel_rfl
  · as_aux_lemma => kernel_rfl
  · as_aux_lemma => kernel_rfl
  · as_aux_lemma => kernel_rfl
  · as_aux_lemma => kernel_rfl
  · as_aux_lemma => kernel_rfl
  · as_aux_lemma => kernel_rfl
  · as_aux_lemma => kernel_rfl
  · as_aux_lemma => kernel_rfl
  · as_aux_lemma => kernel_rfl
  · as_aux_lemma => kernel_rfl
  · as_aux_lemma => kernel_rfl
  · exact Facts.keys_
  · as_aux_lemma => kernel_rfl
  · exact Facts.heard_
  · exact Facts.enter_
  · exact Facts.lifts_
  · exact Facts.make_
  · as_aux_lemma => kernel_rfl
  · as_aux_lemma => kernel_rfl
  · as_aux_lemma => kernel_rfl
  · as_aux_lemma => kernel_rfl

theorem proved : Rows.VecCrossesSaid :=
  OpenClaim.holds_of_wide 8 Try.f8 rfl rfl rfl rfl rfl rfl rfl ⟨rfl, rfl, rfl, rfl, rfl⟩ rfl rfl rfl rfl rfl (by kernel_rfl) Try.func8 closedFacts
    (of_decide_eq_true (by kernel_rfl)) (by unfold Func.isWrapper; first | (rw [if_pos (by decide +kernel)]; kernel_rfl) | (rw [if_neg (by decide +kernel)]; exact ⟨rfl, rfl⟩))
    (fun os started H enc _ => lifted os started H enc)

end Go.Proofs.Ytajhkbdaoakogaa.lawVecCrosses
