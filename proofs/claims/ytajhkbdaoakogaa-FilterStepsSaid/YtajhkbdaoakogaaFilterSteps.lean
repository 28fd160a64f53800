/- The law FilterSteps returns true: filter.Step and the reference's answer one state and one Bool for all of them. Conditions: none. -/
import Derived.Test.YtajhkbdaoakogaaFrame
import Derived.Test.YtajhkbdaoakogaaFacts
import Derived.Test.YtajhkbdaoakogaaOpen
import Derived.Test.YtajhkbdaoakogaaFStep
namespace Go.Proofs.Ytajhkbdaoakogaa.lawFilterSteps
open Go.ChangeShapes Go.WideShapes Go.ChangeAt Go.RowKit Go.Proofs.Ytajhkbdaoakogaa.Mem Go.Proofs.Ytajhkbdaoakogaa.BigW Go.Proofs.Ytajhkbdaoakogaa.Rws
set_option linter.unusedVariables false
set_option linter.unusedSimpArgs false

theorem closed : (fstep ⟨0, 0, 4294967296, 0, 4294967296, false, 0⟩ 0 0 4294967296 4294967296 0).2 = true := by decide +kernel
theorem in0 : StIn ⟨0, 0, 4294967296, 0, 4294967296, false, 0⟩ := by unfold StIn In64; simp
theorem i0 : In64 0 := by unfold In64; omega
theorem i1 : In64 4294967296 := by unfold In64; omega

set_option maxRecDepth 100000 in
set_option maxHeartbeats 4000000 in
theorem walk (X V P00 P01 P11 : Int) (bent : Bool) (missed dt q r gate z : Int) (w : World) (hs : StIn ⟨X, V, P00, P01, P11, bent, missed⟩) (h_dt : In64 dt) (h_q : In64 q) (h_r : In64 r) (h_gate : In64 gate) (h_z : In64 z) :
    Calls Try.prog 4 #[.agg #[.int .i64 X, .int .i64 V, .int .i64 P00, .int .i64 P01, .int .i64 P11, .bool bent, .int .i64 missed], .agg #[.int .i64 dt, .int .i64 q, .int .i64 r, .int .i64 gate], .int .i64 z] w fun e w' => e = .returned (.bool true) ∧ Below w.heap.size w w' := by
  obtain ⟨⟨⟨QX, QV, QA, QB, QC, qb, qm⟩, qt⟩, hc⟩ : ∃ p, fstep ⟨0, 0, 4294967296, 0, 4294967296, false, 0⟩ 0 0 4294967296 4294967296 0 = p := ⟨_, rfl⟩
  have HC := Lib.hid hc
  have H3 := Lib.hid (show qt = true from by rw [← closed, hc])
  obtain ⟨⟨⟨PX, PV, PA, PB, PC, pb, pm⟩, pt⟩, hp⟩ : ∃ p, fstep ⟨X, V, P00, P01, P11, bent, missed⟩ dt q r gate z = p := ⟨_, rfl⟩
  have HP := Lib.hid hp
  have HS0 := Lib.hid hs
  have H_dt := Lib.hid h_dt
  have H_q := Lib.hid h_q
  have H_r := Lib.hid h_r
  have H_gate := Lib.hid h_gate
  have H_z := Lib.hid h_z
  clear hc hp hs h_dt h_q h_r h_gate h_z
  go_enter Try.func4, Try.ntmps4
  go_upto_region 1 with fail
  have HB := Lib.hid (show Below w.heap.size w ((w.alloc (.cells #[.int .i64 X, .int .i64 V, .int .i64 P00, .int .i64 P01, .int .i64 P11, .bool bent, .int .i64 missed] 23)).alloc (.cells #[.int .i64 dt, .int .i64 q, .int .i64 r, .int .i64 gate] 29)) from ((Below.refl _ _).alloc (Nat.le_refl _) _).alloc (by simp) _)
  have HS : Blk ((w.alloc (.cells #[.int .i64 X, .int .i64 V, .int .i64 P00, .int .i64 P01, .int .i64 P11, .bool bent, .int .i64 missed] 23)).alloc (.cells #[.int .i64 dt, .int .i64 q, .int .i64 r, .int .i64 gate] 29)) w.heap.size 23 #[.int .i64 X, .int .i64 V, .int .i64 P00, .int .i64 P01, .int .i64 P11, .bool bent, .int .i64 missed] := (Blk.fresh _ _ _).alloc _
  have HU : Blk ((w.alloc (.cells #[.int .i64 X, .int .i64 V, .int .i64 P00, .int .i64 P01, .int .i64 P11, .bool bent, .int .i64 missed] 23)).alloc (.cells #[.int .i64 dt, .int .i64 q, .int .i64 r, .int .i64 gate] 29)) (w.heap.size + 1) 29 #[.int .i64 dt, .int .i64 q, .int .i64 r, .int .i64 gate] := Blk.new (by simp)
  generalize ((w.alloc (.cells #[.int .i64 X, .int .i64 V, .int .i64 P00, .int .i64 P01, .int .i64 P11, .bool bent, .int .i64 missed] 23)).alloc (.cells #[.int .i64 dt, .int .i64 q, .int .i64 r, .int .i64 gate] 29)) = w1 at *
  obtain ⟨gu, hgu⟩ : ∃ g, w.heap.size + 1 = g := ⟨_, rfl⟩
  rw [hgu] at HU ⊢
  go_wp2_with (first | (refine wpList_whole rfl 23 _ rfl w.heap.size rfl HS _ Try.underlying23 rfl (by kernel_rfl) ?_) | (refine wpList_whole rfl 29 _ rfl gu rfl HU _ Try.underlying29 rfl (by kernel_rfl) ?_))
  refine (fstep_any ⟨X, V, P00, P01, P11, bent, missed⟩ dt q r gate z _ HS0.out H_dt.out H_q.out H_r.out H_gate.out H_z.out).mono ?_
  rintro e w1 ⟨rfl, hb⟩
  rw [HP.out]
  simp only [stV, stC]
  replace HS := HS.below hb HS.lt
  replace HU := HU.below hb HU.lt
  have HB := Lib.hid (onward HB.out (Nat.le_refl _) hb)
  clear hb
  go_upto_region 2 with fail
  replace HS := HS.alloc (.cells #[.int .i64 PX, .int .i64 PV, .int .i64 PA, .int .i64 PB, .int .i64 PC, .bool pb, .int .i64 pm] 23)
  replace HU := HU.alloc (.cells #[.int .i64 PX, .int .i64 PV, .int .i64 PA, .int .i64 PB, .int .i64 PC, .bool pb, .int .i64 pm] 23)
  have HA : Blk (w1.alloc (.cells #[.int .i64 PX, .int .i64 PV, .int .i64 PA, .int .i64 PB, .int .i64 PC, .bool pb, .int .i64 pm] 23)) w1.heap.size 23 #[.int .i64 PX, .int .i64 PV, .int .i64 PA, .int .i64 PB, .int .i64 PC, .bool pb, .int .i64 pm] := Blk.fresh _ _ _
  have HB := Lib.hid (HB.out.alloc HB.out.size (.cells #[.int .i64 PX, .int .i64 PV, .int .i64 PA, .int .i64 PB, .int .i64 PC, .bool pb, .int .i64 pm] 23))
  obtain ⟨ga, hga⟩ : ∃ g, w1.heap.size = g := ⟨_, rfl⟩
  rw [hga] at HA ⊢
  generalize (w1.alloc (.cells #[.int .i64 PX, .int .i64 PV, .int .i64 PA, .int .i64 PB, .int .i64 PC, .bool pb, .int .i64 pm] 23)) = w1 at *
  go_wp2_with (first | (refine wpList_whole rfl 23 _ rfl w.heap.size rfl HS _ Try.underlying23 rfl (by kernel_rfl) ?_) | (refine wpList_whole rfl 29 _ rfl gu rfl HU _ Try.underlying29 rfl (by kernel_rfl) ?_) | (refine wpList_whole rfl 23 _ rfl ga rfl HA _ Try.underlying23 rfl (by kernel_rfl) ?_))
  refine (reffstep_any ⟨X, V, P00, P01, P11, bent, missed⟩ dt q r gate z _ HS0.out H_dt.out H_q.out H_r.out H_gate.out H_z.out).mono ?_
  rintro e w1 ⟨rfl, hb⟩
  rw [HP.out]
  simp only [stV, stC]
  replace HS := HS.below hb HS.lt
  replace HU := HU.below hb HU.lt
  replace HA := HA.below hb HA.lt
  have HB := Lib.hid (onward HB.out (Nat.le_refl _) hb)
  clear hb
  go_upto_region 3 with fail
  replace HS := HS.alloc (.cells #[.int .i64 PX, .int .i64 PV, .int .i64 PA, .int .i64 PB, .int .i64 PC, .bool pb, .int .i64 pm] 23)
  replace HU := HU.alloc (.cells #[.int .i64 PX, .int .i64 PV, .int .i64 PA, .int .i64 PB, .int .i64 PC, .bool pb, .int .i64 pm] 23)
  replace HA := HA.alloc (.cells #[.int .i64 PX, .int .i64 PV, .int .i64 PA, .int .i64 PB, .int .i64 PC, .bool pb, .int .i64 pm] 23)
  have HQ : Blk (w1.alloc (.cells #[.int .i64 PX, .int .i64 PV, .int .i64 PA, .int .i64 PB, .int .i64 PC, .bool pb, .int .i64 pm] 23)) w1.heap.size 23 #[.int .i64 PX, .int .i64 PV, .int .i64 PA, .int .i64 PB, .int .i64 PC, .bool pb, .int .i64 pm] := Blk.fresh _ _ _
  have HB := Lib.hid (HB.out.alloc HB.out.size (.cells #[.int .i64 PX, .int .i64 PV, .int .i64 PA, .int .i64 PB, .int .i64 PC, .bool pb, .int .i64 pm] 23))
  obtain ⟨gq, hgq⟩ : ∃ g, w1.heap.size = g := ⟨_, rfl⟩
  rw [hgq] at HQ ⊢
  generalize (w1.alloc (.cells #[.int .i64 PX, .int .i64 PV, .int .i64 PA, .int .i64 PB, .int .i64 PC, .bool pb, .int .i64 pm] 23)) = w1 at *
  go_wp2_with fail
  refine (begin_any 0 _).mono ?_
  rintro e w1 ⟨rfl, hb⟩
  simp only [stV, stC]
  replace HS := HS.below hb HS.lt
  replace HU := HU.below hb HU.lt
  replace HA := HA.below hb HA.lt
  replace HQ := HQ.below hb HQ.lt
  have HB := Lib.hid (onward HB.out (Nat.le_refl _) hb)
  clear hb
  go_wp2_with fail
  refine (fstep_any ⟨0, 0, 4294967296, 0, 4294967296, false, 0⟩ 0 0 4294967296 4294967296 0 _ in0 i0 i0 i1 i1 i0).mono ?_
  rintro e w1 ⟨rfl, hb⟩
  rw [HC.out]
  simp only [stV, stC]
  replace HS := HS.below hb HS.lt
  replace HU := HU.below hb HU.lt
  replace HA := HA.below hb HA.lt
  replace HQ := HQ.below hb HQ.lt
  have HB := Lib.hid (onward HB.out (Nat.le_refl _) hb)
  clear hb
  go_upto_region 4 with fail
  replace HS := HS.alloc (.cells #[.int .i64 QX, .int .i64 QV, .int .i64 QA, .int .i64 QB, .int .i64 QC, .bool qb, .int .i64 qm] 23)
  replace HU := HU.alloc (.cells #[.int .i64 QX, .int .i64 QV, .int .i64 QA, .int .i64 QB, .int .i64 QC, .bool qb, .int .i64 qm] 23)
  replace HA := HA.alloc (.cells #[.int .i64 QX, .int .i64 QV, .int .i64 QA, .int .i64 QB, .int .i64 QC, .bool qb, .int .i64 qm] 23)
  replace HQ := HQ.alloc (.cells #[.int .i64 QX, .int .i64 QV, .int .i64 QA, .int .i64 QB, .int .i64 QC, .bool qb, .int .i64 qm] 23)
  have HZ : Blk (w1.alloc (.cells #[.int .i64 QX, .int .i64 QV, .int .i64 QA, .int .i64 QB, .int .i64 QC, .bool qb, .int .i64 qm] 23)) w1.heap.size 23 #[.int .i64 QX, .int .i64 QV, .int .i64 QA, .int .i64 QB, .int .i64 QC, .bool qb, .int .i64 qm] := Blk.fresh _ _ _
  have HB := Lib.hid (HB.out.alloc HB.out.size (.cells #[.int .i64 QX, .int .i64 QV, .int .i64 QA, .int .i64 QB, .int .i64 QC, .bool qb, .int .i64 qm] 23))
  obtain ⟨gz, hgz⟩ : ∃ g, w1.heap.size = g := ⟨_, rfl⟩
  rw [hgz] at HZ ⊢
  generalize (w1.alloc (.cells #[.int .i64 QX, .int .i64 QV, .int .i64 QA, .int .i64 QB, .int .i64 QC, .bool qb, .int .i64 qm] 23)) = w1 at *
  have h3 := H3.out
  subst h3
  cases pt
  all_goals
    go_wp2_with (first | (refine wpList_whole rfl 23 _ rfl w.heap.size rfl HS _ Try.underlying23 rfl (by kernel_rfl) ?_) | (refine wpList_whole rfl 29 _ rfl gu rfl HU _ Try.underlying29 rfl (by kernel_rfl) ?_) | (refine wpList_whole rfl 23 _ rfl ga rfl HA _ Try.underlying23 rfl (by kernel_rfl) ?_) | (refine wpList_whole rfl 23 _ rfl gq rfl HQ _ Try.underlying23 rfl (by kernel_rfl) ?_))
    go_ret
    exact ⟨rfl, HB.out⟩
set_option maxRecDepth 100000 in
set_option maxHeartbeats 1000000 in
theorem lifted (os : Os) (started : os.Started) (H : Type) (enc : TypeId × Value → H) :
    ReturnsInHanded {} Try.checked os 4 .any (Rows.filterStepsSpec.pre6 enc Try.prog Try.f4 Rows.filterStepsRow.domain false) (Rows.filterStepsSpec.post enc Try.prog Try.f4 false true false false) := by
  refine returnsInHanded_of_change_sized (C := Try.checked) Fr.own started (by kernel_rfl) Try.func4
    (ChangeSpec.witness6 (enc := enc) (C := Try.checked) false ⟨#[], #[.agg #[.int .i64 0, .int .i64 0, .int .i64 0, .int .i64 0, .int .i64 0, .bool false, .int .i64 0], .agg #[.int .i64 0, .int .i64 0, .int .i64 0, .int .i64 0], .int .i64 0], []⟩ 8 (by kernel_rfl) (by kernel_rfl) (by kernel_rfl) (by kernel_rfl)) ?_
  intro W base args ds gs before hval0 hW _ hsz0 _
  have hval : ∀ (j : Nat) t v, Try.f4.params[j]? = some t → args[j]? = some v → Value.okWide Try.prog W .any base t v := hval0
  have hsz : (DataW.weightsEach Try.prog (Try.f4.params.toList ++ Rows.filterStepsSpec.plain.varTypes Try.prog) (ds ++ gs)).all (· ≤ reachBytes) = true := hsz0
  clear hval0 hsz0
  obtain ⟨p, q, hA0, hV0, _⟩ := id hW
  have hA : DataW.TrodAll enc Try.prog W 0 (fun _ => true) true Try.f4.params.toList args.toList ds p := hA0
  rw [Try.params4] at hA hval hsz
  obtain ⟨v0, vs0, d0, ds0, p0, q0, hargs, rfl, rfl, h0, r0⟩ := trodAll_cons hA
  obtain ⟨v1, vs1, d1, ds1, p1, q1, rfl, rfl, rfl, h1, r1⟩ := trodAll_cons r0
  obtain ⟨v2, vs2, d2, ds2, p2, q2, rfl, rfl, rfl, h2, r2⟩ := trodAll_cons r1
  obtain ⟨rfl, rfl, rfl⟩ := trodAll_nil r2
  obtain rfl : args = #[v0, v1, v2] := by cases args; simp_all
  obtain ⟨rfl, rfl⟩ := trodVars_none hV0
  refine Fr.of_walk (f := Try.f4) Fr.laidOut (by rw [Try.params4]; intro t ht; simp at ht; (first | (rcases ht with rfl | rfl | rfl | rfl | rfl | rfl) | (rcases ht with rfl | rfl | rfl | rfl | rfl) | (rcases ht with rfl | rfl | rfl | rfl) | (rcases ht with rfl | rfl | rfl) | (rcases ht with rfl | rfl) | (subst ht)) <;> exact ⟨by kernel_rfl, of_decide_eq_true (by kernel_rfl)⟩) rfl rfl Try.underlying4 (fun _ => rfl) hW ?_
  clear hW hA hA0 hV0
  obtain ⟨cs0, rfl⟩ := Op.okWide_agg (t := 23) (by kernel_rfl) (hval 0 23 v0 rfl rfl)
  have k0 := Op.flat_arg (ls := [3,3,3,3,3,4,3]) (by kernel_rfl) h0 (Op.light_of_each (j := 0) hsz rfl rfl)
  obtain ⟨y0_0, l0, e0, f0_0, k0⟩ := k0.cons
  obtain ⟨y0_1, l0, rfl, f0_1, k0⟩ := k0.cons
  obtain ⟨y0_2, l0, rfl, f0_2, k0⟩ := k0.cons
  obtain ⟨y0_3, l0, rfl, f0_3, k0⟩ := k0.cons
  obtain ⟨y0_4, l0, rfl, f0_4, k0⟩ := k0.cons
  obtain ⟨y0_5, l0, rfl, f0_5, k0⟩ := k0.cons
  obtain ⟨y0_6, l0, rfl, f0_6, k0⟩ := k0.cons
  obtain rfl := k0.nil_
  obtain rfl := Op.arr_of e0
  obtain ⟨X, rfl, wf_X⟩ := f0_0.int Try.underlying3
  obtain ⟨V, rfl, wf_V⟩ := f0_1.int Try.underlying3
  obtain ⟨P00, rfl, wf_P00⟩ := f0_2.int Try.underlying3
  obtain ⟨P01, rfl, wf_P01⟩ := f0_3.int Try.underlying3
  obtain ⟨P11, rfl, wf_P11⟩ := f0_4.int Try.underlying3
  obtain ⟨bent, rfl⟩ := f0_5.bool Try.underlying4
  obtain ⟨missed, rfl, wf_missed⟩ := f0_6.int Try.underlying3
  obtain ⟨cs1, rfl⟩ := Op.okWide_agg (t := 29) (by kernel_rfl) (hval 1 29 v1 rfl rfl)
  have k1 := Op.flat_arg (ls := [3,3,3,3]) (by kernel_rfl) h1 (Op.light_of_each (j := 1) hsz rfl rfl)
  obtain ⟨y1_0, l1, e1, f1_0, k1⟩ := k1.cons
  obtain ⟨y1_1, l1, rfl, f1_1, k1⟩ := k1.cons
  obtain ⟨y1_2, l1, rfl, f1_2, k1⟩ := k1.cons
  obtain ⟨y1_3, l1, rfl, f1_3, k1⟩ := k1.cons
  obtain rfl := k1.nil_
  obtain rfl := Op.arr_of e1
  obtain ⟨dt, rfl, wf_dt⟩ := f1_0.int Try.underlying3
  obtain ⟨q, rfl, wf_q⟩ := f1_1.int Try.underlying3
  obtain ⟨r, rfl, wf_r⟩ := f1_2.int Try.underlying3
  obtain ⟨gate, rfl, wf_gate⟩ := f1_3.int Try.underlying3
  obtain ⟨z, rfl, rfl, rfl, wf_z⟩ := open_int Try.underlying3 (hval 2 3 v2 rfl rfl) h2
  have bd_z := Op.wf_i64 wf_z
  exact walk X V P00 P01 P11 bent missed dt q r gate z W ⟨Op.wf_i64 wf_X, Op.wf_i64 wf_V, Op.wf_i64 wf_P00, Op.wf_i64 wf_P01, Op.wf_i64 wf_P11⟩ (Op.wf_i64 wf_dt) (Op.wf_i64 wf_q) (Op.wf_i64 wf_r) (Op.wf_i64 wf_gate) bd_z

theorem closedFacts : joinedFacts Try.prog 4 Try.f4 Rows.filterStepsSpec Rows.filterStepsRow = true := by
  unfold joinedFacts
  simp only [Bool.and_eq_true]
  refine ⟨⟨⟨⟨⟨⟨⟨⟨⟨⟨⟨⟨⟨⟨⟨⟨⟨⟨⟨⟨⟨⟨⟨⟨⟨⟨⟨⟨⟨⟨⟨?_, ?_⟩, ?_⟩, ?_⟩, ?_⟩, ?_⟩, ?_⟩, ?_⟩, ?_⟩, ?_⟩, ?_⟩, ?_⟩, ?_⟩, ?_⟩, ?_⟩, ?_⟩, ?_⟩, ?_⟩, ?_⟩, ?_⟩, ?_⟩, ?_⟩, ?_⟩, ?_⟩, ?_⟩, ?_⟩, ?_⟩, ?_⟩, ?_⟩, ?_⟩, ?_⟩, ?_⟩
  · as_aux_lemma => kernel_rfl
  · exact Fr.laidOut
  · exact Facts.mapsRowed_
  · as_aux_lemma => kernel_rfl
  · as_aux_lemma => kernel_rfl
  · as_aux_lemma => kernel_rfl
  · exact Facts.stops_
  · as_aux_lemma => kernel_rfl
  · exact Facts.knobs_
  · as_aux_lemma => kernel_rfl
  · as_aux_lemma => kernel_rfl
  · as_aux_lemma => kernel_rfl
  · as_aux_lemma => kernel_rfl
  · as_aux_lemma => kernel_rfl
  · as_aux_lemma => kernel_rfl
  · as_aux_lemma => kernel_rfl
  · as_aux_lemma => kernel_rfl
  · as_aux_lemma => kernel_rfl
  · as_aux_lemma => kernel_rfl
  · as_aux_lemma => kernel_rfl
  · as_aux_lemma => kernel_rfl
  · as_aux_lemma => kernel_rfl
  · exact Facts.keys_
  · as_aux_lemma => kernel_rfl
  · exact Facts.heard_
  · exact Facts.enter_
  · exact Facts.lifts_
  · exact Facts.make_
  · as_aux_lemma => kernel_rfl
  · as_aux_lemma => kernel_rfl
  · as_aux_lemma => kernel_rfl
  · as_aux_lemma => kernel_rfl

theorem proved : Rows.FilterStepsSaid :=
  OpenClaim.holds_of_wide 4 Try.f4 rfl rfl rfl rfl rfl rfl rfl ⟨rfl, rfl, rfl, rfl, rfl⟩ rfl rfl rfl rfl rfl (by kernel_rfl) Try.func4 closedFacts
    (of_decide_eq_true (by kernel_rfl)) (by unfold Func.isWrapper; first | (rw [if_pos (by decide +kernel)]; kernel_rfl) | (rw [if_neg (by decide +kernel)]; exact ⟨rfl, rfl⟩))
    (fun os started H enc _ => lifted os started H enc)

end Go.Proofs.Ytajhkbdaoakogaa.lawFilterSteps
