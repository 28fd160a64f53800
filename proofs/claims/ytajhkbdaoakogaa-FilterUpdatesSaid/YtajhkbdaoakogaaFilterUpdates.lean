/- The law FilterUpdates returns true: filter.Update and the reference's answer one state and one Bool for all of them. Conditions: none. -/
import Derived.Test.YtajhkbdaoakogaaFrame
import Derived.Test.YtajhkbdaoakogaaFacts
import Derived.Test.YtajhkbdaoakogaaOpen
import Derived.Test.YtajhkbdaoakogaaStep0
namespace Go.Proofs.Ytajhkbdaoakogaa.lawFilterUpdates
open Go.ChangeShapes Go.WideShapes Go.ChangeAt Go.RowKit Go.Proofs.Ytajhkbdaoakogaa.Mem Go.Proofs.Ytajhkbdaoakogaa.BigW Go.Proofs.Ytajhkbdaoakogaa.Rws
set_option linter.unusedVariables false
set_option linter.unusedSimpArgs false

theorem closed : (update ⟨0, 0, 4294967296, 0, 4294967296, false, 0⟩ 0 4294967296 4294967296).2 = true := by decide +kernel
theorem in0 : StIn ⟨0, 0, 4294967296, 0, 4294967296, false, 0⟩ := by unfold StIn In64; simp
theorem i0 : In64 0 := by unfold In64; omega
theorem i1 : In64 4294967296 := by unfold In64; omega

set_option maxRecDepth 100000 in
set_option maxHeartbeats 4000000 in
theorem walk (X V P00 P01 P11 : Int) (bent : Bool) (missed z r gate : Int) (w : World) (hs : StIn ⟨X, V, P00, P01, P11, bent, missed⟩) (h_z : In64 z) (h_r : In64 r) (h_gate : In64 gate) :
    Calls Try.prog 3 #[.agg #[.int .i64 X, .int .i64 V, .int .i64 P00, .int .i64 P01, .int .i64 P11, .bool bent, .int .i64 missed], .int .i64 z, .int .i64 r, .int .i64 gate] w fun e w' => e = .returned (.bool true) ∧ Below w.heap.size w w' := by
  obtain ⟨⟨⟨QX, QV, QA, QB, QC, qb, qm⟩, qt⟩, hc⟩ : ∃ p, update ⟨0, 0, 4294967296, 0, 4294967296, false, 0⟩ 0 4294967296 4294967296 = p := ⟨_, rfl⟩
  have HC := Lib.hid hc
  have H3 := Lib.hid (show qt = true from by rw [← closed, hc])
  obtain ⟨⟨⟨PX, PV, PA, PB, PC, pb, pm⟩, pt⟩, hp⟩ : ∃ p, update ⟨X, V, P00, P01, P11, bent, missed⟩ z r gate = p := ⟨_, rfl⟩
  have HP := Lib.hid hp
  have HS0 := Lib.hid hs
  have H_z := Lib.hid h_z
  have H_r := Lib.hid h_r
  have H_gate := Lib.hid h_gate
  clear hc hp hs h_z h_r h_gate
  go_enter Try.func3, Try.ntmps3
  go_upto_region 1 with fail
  have HB := Lib.hid (show Below w.heap.size w (w.alloc (.cells #[.int .i64 X, .int .i64 V, .int .i64 P00, .int .i64 P01, .int .i64 P11, .bool bent, .int .i64 missed] 23)) from (Below.refl _ _).alloc (Nat.le_refl _) _)
  have HS : Blk (w.alloc (.cells #[.int .i64 X, .int .i64 V, .int .i64 P00, .int .i64 P01, .int .i64 P11, .bool bent, .int .i64 missed] 23)) w.heap.size 23 #[.int .i64 X, .int .i64 V, .int .i64 P00, .int .i64 P01, .int .i64 P11, .bool bent, .int .i64 missed] := Blk.fresh _ _ _
  generalize (w.alloc (.cells #[.int .i64 X, .int .i64 V, .int .i64 P00, .int .i64 P01, .int .i64 P11, .bool bent, .int .i64 missed] 23)) = w1 at *
  go_wp2_with (first | (refine wpList_whole rfl 23 _ rfl w.heap.size rfl HS _ Try.underlying23 rfl (by kernel_rfl) ?_))
  refine (update_any ⟨X, V, P00, P01, P11, bent, missed⟩ z r gate _ HS0.out H_z.out H_r.out H_gate.out).mono ?_
  rintro e w1 ⟨rfl, hb⟩
  rw [HP.out]
  simp only [stV, stC]
  replace HS := HS.below hb HS.lt
  have HB := Lib.hid (onward HB.out (Nat.le_refl _) hb)
  clear hb
  go_upto_region 2 with fail
  replace HS := HS.alloc (.cells #[.int .i64 PX, .int .i64 PV, .int .i64 PA, .int .i64 PB, .int .i64 PC, .bool pb, .int .i64 pm] 23)
  have HA : Blk (w1.alloc (.cells #[.int .i64 PX, .int .i64 PV, .int .i64 PA, .int .i64 PB, .int .i64 PC, .bool pb, .int .i64 pm] 23)) w1.heap.size 23 #[.int .i64 PX, .int .i64 PV, .int .i64 PA, .int .i64 PB, .int .i64 PC, .bool pb, .int .i64 pm] := Blk.fresh _ _ _
  have HB := Lib.hid (HB.out.alloc HB.out.size (.cells #[.int .i64 PX, .int .i64 PV, .int .i64 PA, .int .i64 PB, .int .i64 PC, .bool pb, .int .i64 pm] 23))
  obtain ⟨ga, hga⟩ : ∃ g, w1.heap.size = g := ⟨_, rfl⟩
  rw [hga] at HA ⊢
  generalize (w1.alloc (.cells #[.int .i64 PX, .int .i64 PV, .int .i64 PA, .int .i64 PB, .int .i64 PC, .bool pb, .int .i64 pm] 23)) = w1 at *
  go_wp2_with (first | (refine wpList_whole rfl 23 _ rfl w.heap.size rfl HS _ Try.underlying23 rfl (by kernel_rfl) ?_) | (refine wpList_whole rfl 23 _ rfl ga rfl HA _ Try.underlying23 rfl (by kernel_rfl) ?_))
  refine (refupdate_any ⟨X, V, P00, P01, P11, bent, missed⟩ z r gate _ HS0.out H_z.out H_r.out H_gate.out).mono ?_
  rintro e w1 ⟨rfl, hb⟩
  rw [HP.out]
  simp only [stV, stC]
  replace HS := HS.below hb HS.lt
  replace HA := HA.below hb HA.lt
  have HB := Lib.hid (onward HB.out (Nat.le_refl _) hb)
  clear hb
  go_upto_region 3 with fail
  replace HS := HS.alloc (.cells #[.int .i64 PX, .int .i64 PV, .int .i64 PA, .int .i64 PB, .int .i64 PC, .bool pb, .int .i64 pm] 23)
  replace HA := HA.alloc (.cells #[.int .i64 PX, .int .i64 PV, .int .i64 PA, .int .i64 PB, .int .i64 PC, .bool pb, .int .i64 pm] 23)
  have HQ : Blk (w1.alloc (.cells #[.int .i64 PX, .int .i64 PV, .int .i64 PA, .int .i64 PB, .int .i64 PC, .bool pb, .int .i64 pm] 23)) w1.heap.size 23 #[.int .i64 PX, .int .i64 PV, .int .i64 PA, .int .i64 PB, .int .i64 PC, .bool pb, .int .i64 pm] := Blk.fresh _ _ _
  have HB := Lib.hid (HB.out.alloc HB.out.size (.cells #[.int .i64 PX, .int .i64 PV, .int .i64 PA, .int .i64 PB, .int .i64 PC, .bool pb, .int .i64 pm] 23))
  obtain ⟨gq, hgq⟩ : ∃ g, w1.heap.size = g := ⟨_, rfl⟩
  rw [hgq] at HQ ⊢
  generalize (w1.alloc (.cells #[.int .i64 PX, .int .i64 PV, .int .i64 PA, .int .i64 PB, .int .i64 PC, .bool pb, .int .i64 pm] 23)) = w1 at *
  go_wp2_with fail
  refine (begin_any 0 _).mono ?_
  rintro e w1 ⟨rfl, hb⟩
  simp only [stV, stC]
  replace HS := HS.below hb HS.lt
  replace HA := HA.below hb HA.lt
  replace HQ := HQ.below hb HQ.lt
  have HB := Lib.hid (onward HB.out (Nat.le_refl _) hb)
  clear hb
  go_wp2_with fail
  refine (update_any ⟨0, 0, 4294967296, 0, 4294967296, false, 0⟩ 0 4294967296 4294967296 _ in0 i0 i1 i1).mono ?_
  rintro e w1 ⟨rfl, hb⟩
  rw [HC.out]
  simp only [stV, stC]
  replace HS := HS.below hb HS.lt
  replace HA := HA.below hb HA.lt
  replace HQ := HQ.below hb HQ.lt
  have HB := Lib.hid (onward HB.out (Nat.le_refl _) hb)
  clear hb
  go_upto_region 4 with fail
  replace HS := HS.alloc (.cells #[.int .i64 QX, .int .i64 QV, .int .i64 QA, .int .i64 QB, .int .i64 QC, .bool qb, .int .i64 qm] 23)
  replace HA := HA.alloc (.cells #[.int .i64 QX, .int .i64 QV, .int .i64 QA, .int .i64 QB, .int .i64 QC, .bool qb, .int .i64 qm] 23)
  replace HQ := HQ.alloc (.cells #[.int .i64 QX, .int .i64 QV, .int .i64 QA, .int .i64 QB, .int .i64 QC, .bool qb, .int .i64 qm] 23)
  have HZ : Blk (w1.alloc (.cells #[.int .i64 QX, .int .i64 QV, .int .i64 QA, .int .i64 QB, .int .i64 QC, .bool qb, .int .i64 qm] 23)) w1.heap.size 23 #[.int .i64 QX, .int .i64 QV, .int .i64 QA, .int .i64 QB, .int .i64 QC, .bool qb, .int .i64 qm] := Blk.fresh _ _ _
  have HB := Lib.hid (HB.out.alloc HB.out.size (.cells #[.int .i64 QX, .int .i64 QV, .int .i64 QA, .int .i64 QB, .int .i64 QC, .bool qb, .int .i64 qm] 23))
  obtain ⟨gz, hgz⟩ : ∃ g, w1.heap.size = g := ⟨_, rfl⟩
  rw [hgz] at HZ ⊢
  generalize (w1.alloc (.cells #[.int .i64 QX, .int .i64 QV, .int .i64 QA, .int .i64 QB, .int .i64 QC, .bool qb, .int .i64 qm] 23)) = w1 at *
  have h3 := H3.out
  subst h3
  cases pt
  all_goals
    go_wp2_with (first | (refine wpList_whole rfl 23 _ rfl w.heap.size rfl HS _ Try.underlying23 rfl (by kernel_rfl) ?_) | (refine wpList_whole rfl 23 _ rfl ga rfl HA _ Try.underlying23 rfl (by kernel_rfl) ?_) | (refine wpList_whole rfl 23 _ rfl gq rfl HQ _ Try.underlying23 rfl (by kernel_rfl) ?_))
    go_ret
    exact ⟨rfl, HB.out⟩
set_option maxRecDepth 100000 in
set_option maxHeartbeats 1000000 in
theorem lifted (os : Os) (started : os.Started) (H : Type) (enc : TypeId × Value → H) :
    ReturnsInHanded {} Try.checked os 3 .any (Rows.filterUpdatesSpec.pre6 enc Try.prog Try.f3 Rows.filterUpdatesRow.domain false) (Rows.filterUpdatesSpec.post enc Try.prog Try.f3 false true false false) := by
  refine returnsInHanded_of_change_sized (C := Try.checked) Fr.own started (by kernel_rfl) Try.func3
    (ChangeSpec.witness6 (enc := enc) (C := Try.checked) false ⟨#[], #[.agg #[.int .i64 0, .int .i64 0, .int .i64 0, .int .i64 0, .int .i64 0, .bool false, .int .i64 0], .int .i64 0, .int .i64 0, .int .i64 0], []⟩ 8 (by kernel_rfl) (by kernel_rfl) (by kernel_rfl) (by kernel_rfl)) ?_
  intro W base args ds gs before hval0 hW _ hsz0 _
  have hval : ∀ (j : Nat) t v, Try.f3.params[j]? = some t → args[j]? = some v → Value.okWide Try.prog W .any base t v := hval0
  have hsz : (DataW.weightsEach Try.prog (Try.f3.params.toList ++ Rows.filterUpdatesSpec.plain.varTypes Try.prog) (ds ++ gs)).all (· ≤ reachBytes) = true := hsz0
  clear hval0 hsz0
  obtain ⟨p, q, hA0, hV0, _⟩ := id hW
  have hA : DataW.TrodAll enc Try.prog W 0 (fun _ => true) true Try.f3.params.toList args.toList ds p := hA0
  rw [Try.params3] at hA hval hsz
  obtain ⟨v0, vs0, d0, ds0, p0, q0, hargs, rfl, rfl, h0, r0⟩ := trodAll_cons hA
  obtain ⟨v1, vs1, d1, ds1, p1, q1, rfl, rfl, rfl, h1, r1⟩ := trodAll_cons r0
  obtain ⟨v2, vs2, d2, ds2, p2, q2, rfl, rfl, rfl, h2, r2⟩ := trodAll_cons r1
  obtain ⟨v3, vs3, d3, ds3, p3, q3, rfl, rfl, rfl, h3, r3⟩ := trodAll_cons r2
  obtain ⟨rfl, rfl, rfl⟩ := trodAll_nil r3
  obtain rfl : args = #[v0, v1, v2, v3] := by cases args; simp_all
  obtain ⟨rfl, rfl⟩ := trodVars_none hV0
  refine Fr.of_walk (f := Try.f3) Fr.laidOut (by rw [Try.params3]; intro t ht; simp at ht; (first | (rcases ht with rfl | rfl | rfl | rfl | rfl | rfl) | (rcases ht with rfl | rfl | rfl | rfl | rfl) | (rcases ht with rfl | rfl | rfl | rfl) | (rcases ht with rfl | rfl | rfl) | (rcases ht with rfl | rfl) | (subst ht)) <;> exact ⟨by kernel_rfl, of_decide_eq_true (by kernel_rfl)⟩) rfl rfl Try.underlying4 (fun _ => rfl) hW ?_
  clear hW hA hA0 hV0
  obtain ⟨cs0, rfl⟩ := Op.okWide_agg (t := 23) (by kernel_rfl) (hval 0 23 v0 rfl rfl)
  have k0 := Op.flat_arg (ls := [3,3,3,3,3,4,3]) (by kernel_rfl) h0 (Op.light_of_each (j := 0) hsz rfl rfl)
  obtain ⟨y0_0, l0, e0, f0_0, k0⟩ := k0.cons
  obtain ⟨y0_1, l0, rfl, f0_1, k0⟩ := k0.cons
  obtain ⟨y0_2, l0, rfl, f0_2, k0⟩ := k0.cons
  obtain ⟨y0_3, l0, rfl, f0_3, k0⟩ := k0.cons
  obtain ⟨y0_4, l0, rfl, f0_4, k0⟩ := k0.cons
  obtain ⟨y0_5, l0, rfl, f0_5, k0⟩ := k0.cons
  obtain ⟨y0_6, l0, rfl, f0_6, k0⟩ := k0.cons
  obtain rfl := k0.nil_
  obtain rfl := Op.arr_of e0
  obtain ⟨X, rfl, wf_X⟩ := f0_0.int Try.underlying3
  obtain ⟨V, rfl, wf_V⟩ := f0_1.int Try.underlying3
  obtain ⟨P00, rfl, wf_P00⟩ := f0_2.int Try.underlying3
  obtain ⟨P01, rfl, wf_P01⟩ := f0_3.int Try.underlying3
  obtain ⟨P11, rfl, wf_P11⟩ := f0_4.int Try.underlying3
  obtain ⟨bent, rfl⟩ := f0_5.bool Try.underlying4
  obtain ⟨missed, rfl, wf_missed⟩ := f0_6.int Try.underlying3
  obtain ⟨z, rfl, rfl, rfl, wf_z⟩ := open_int Try.underlying3 (hval 1 3 v1 rfl rfl) h1
  have bd_z := Op.wf_i64 wf_z
  obtain ⟨r, rfl, rfl, rfl, wf_r⟩ := open_int Try.underlying3 (hval 2 3 v2 rfl rfl) h2
  have bd_r := Op.wf_i64 wf_r
  obtain ⟨gate, rfl, rfl, rfl, wf_gate⟩ := open_int Try.underlying3 (hval 3 3 v3 rfl rfl) h3
  have bd_gate := Op.wf_i64 wf_gate
  exact walk X V P00 P01 P11 bent missed z r gate W ⟨Op.wf_i64 wf_X, Op.wf_i64 wf_V, Op.wf_i64 wf_P00, Op.wf_i64 wf_P01, Op.wf_i64 wf_P11⟩ bd_z bd_r bd_gate

theorem closedFacts : joinedFacts Try.prog 3 Try.f3 Rows.filterUpdatesSpec Rows.filterUpdatesRow = true := by
  unfold joinedFacts
  simp only [Bool.and_eq_true]
  refine ⟨⟨⟨⟨⟨⟨⟨⟨⟨⟨⟨⟨⟨⟨⟨⟨⟨⟨⟨⟨⟨⟨⟨⟨⟨⟨⟨⟨⟨⟨⟨?_, ?_⟩, ?_⟩, ?_⟩, ?_⟩, ?_⟩, ?_⟩, ?_⟩, ?_⟩, ?_⟩, ?_⟩, ?_⟩, ?_⟩, ?_⟩, ?_⟩, ?_⟩, ?_⟩, ?_⟩, ?_⟩, ?_⟩, ?_⟩, ?_⟩, ?_⟩, ?_⟩, ?_⟩, ?_⟩, ?_⟩, ?_⟩, ?_⟩, ?_⟩, ?_⟩, ?_⟩
  · as_aux_lemma => kernel_rfl
  · exact Fr.laidOut
  · exact Facts.mapsRowed_
  · as_aux_lemma => kernel_rfl
  · as_aux_lemma => kernel_rfl
  · as_aux_lemma => kernel_rfl
  · exact Facts.stops_
  · as_aux_lemma => kernel_rfl
  · exact Facts.knobs_
  · as_aux_lemma => kernel_rfl
  · as_aux_lemma => kernel_rfl
  · as_aux_lemma => kernel_rfl
  · as_aux_lemma => kernel_rfl
  · as_aux_lemma => kernel_rfl
  · as_aux_lemma => kernel_rfl
  · as_aux_lemma => kernel_rfl
  · as_aux_lemma => kernel_rfl
  · as_aux_lemma => kernel_rfl
  · as_aux_lemma => kernel_rfl
  · as_aux_lemma => kernel_rfl
  · as_aux_lemma => kernel_rfl
  · as_aux_lemma => kernel_rfl
  · exact Facts.keys_
  · as_aux_lemma => kernel_rfl
  · exact Facts.heard_
  · exact Facts.enter_
  · exact Facts.lifts_
  · exact Facts.make_
  · as_aux_lemma => kernel_rfl
  · as_aux_lemma => kernel_rfl
  · as_aux_lemma => kernel_rfl
  · as_aux_lemma => kernel_rfl

theorem proved : Rows.FilterUpdatesSaid :=
  OpenClaim.holds_of_wide 3 Try.f3 rfl rfl rfl rfl rfl rfl rfl ⟨rfl, rfl, rfl, rfl, rfl⟩ rfl rfl rfl rfl rfl (by kernel_rfl) Try.func3 closedFacts
    (of_decide_eq_true (by kernel_rfl)) (by unfold Func.isWrapper; first | (rw [if_pos (by decide +kernel)]; kernel_rfl) | (rw [if_neg (by decide +kernel)]; exact ⟨rfl, rfl⟩))
    (fun os started H enc _ => lifted os started H enc)

end Go.Proofs.Ytajhkbdaoakogaa.lawFilterUpdates
