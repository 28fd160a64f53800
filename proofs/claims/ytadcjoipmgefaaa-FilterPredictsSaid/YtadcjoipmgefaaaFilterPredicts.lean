/- The law FilterPredicts returns true: filter.Predict and the reference's Predict answer one state for all states and numbers. Conditions: none. -/
import Derived.Test.YtadcjoipmgefaaaFrame
import Derived.Test.YtadcjoipmgefaaaFacts
import Derived.Test.YtadcjoipmgefaaaOpen
import Derived.Test.YtadcjoipmgefaaaPredictR
namespace Go.Proofs.Ytadcjoipmgefaaa.lawFilterPredicts
open Go.ChangeShapes Go.WideShapes Go.ChangeAt Go.RowKit Go.Proofs.Ytadcjoipmgefaaa.Mem Go.Proofs.Ytadcjoipmgefaaa.BigW
set_option linter.unusedVariables false
set_option linter.unusedSimpArgs false

theorem closed : (predict ⟨0, 0, 0, 0, 0, false, 0⟩ 0 3).P11 = 3 := by decide +kernel
theorem in0 : StIn ⟨0, 0, 0, 0, 0, false, 0⟩ := by unfold StIn In64; simp

set_option maxRecDepth 100000 in
set_option maxHeartbeats 4000000 in
theorem walk (X V P00 P01 P11 : Int) (bent : Bool) (missed dt q : Int) (w : World) (hs : StIn ⟨X, V, P00, P01, P11, bent, missed⟩) (hd : In64 dt) (hq : In64 q) :
    Calls Try.prog 11 #[.agg #[.int .i64 X, .int .i64 V, .int .i64 P00, .int .i64 P01, .int .i64 P11, .bool bent, .int .i64 missed], .int .i64 dt, .int .i64 q] w fun e w' => e = .returned (.bool true) ∧ Below w.heap.size w w' := by
  obtain ⟨⟨QX, QV, QA, QB, QC, qb, qm⟩, hc⟩ : ∃ p, predict ⟨0, 0, 0, 0, 0, false, 0⟩ 0 3 = p := ⟨_, rfl⟩
  have HC := Lib.hid hc
  have H3 := Lib.hid (show QC = 3 from by rw [← closed, hc])
  obtain ⟨⟨PX, PV, PA, PB, PC, pb, pm⟩, hp⟩ : ∃ p, predict ⟨X, V, P00, P01, P11, bent, missed⟩ dt q = p := ⟨_, rfl⟩
  have HP := Lib.hid hp
  have HS0 := Lib.hid hs
  have HD0 := Lib.hid hd
  have HQ0 := Lib.hid hq
  clear hc hp hs hd hq
  have hfd : ∀ w : World, (Instr.field 41 (.agg #[.int .i64 QX, .int .i64 QV, .int .i64 QA, .int .i64 QB, .int .i64 QC, .bool qb, .int .i64 qm]) 4).run Try.prog w = .ok (.int .i64 QC) w := fun _ => by kernel_rfl
  go_enter Try.func11, Try.ntmps11
  go_upto_region 1 with fail
  have HB := Lib.hid (show Below w.heap.size w (w.alloc (.cells #[.int .i64 X, .int .i64 V, .int .i64 P00, .int .i64 P01, .int .i64 P11, .bool bent, .int .i64 missed] 41)).drew from ((Below.refl _ _).alloc (Nat.le_refl _) _).drew)
  have HS : Blk (w.alloc (.cells #[.int .i64 X, .int .i64 V, .int .i64 P00, .int .i64 P01, .int .i64 P11, .bool bent, .int .i64 missed] 41)).drew w.heap.size 41 #[.int .i64 X, .int .i64 V, .int .i64 P00, .int .i64 P01, .int .i64 P11, .bool bent, .int .i64 missed] := (Blk.fresh _ _ _).drew
  refine wp_region_noPanic ?_
  refine Rg.beginR [0, 4] (fun w' => Blk w' w.heap.size 41 #[.int .i64 X, .int .i64 V, .int .i64 P00, .int .i64 P01, .int .i64 P11, .bool bent, .int .i64 missed]) (by kernel_rfl) ?_
  generalize (w.alloc (.cells #[.int .i64 X, .int .i64 V, .int .i64 P00, .int .i64 P01, .int .i64 P11, .bool bent, .int .i64 missed] 41)).drew = w1 at *
  refine Rg.takeS (i := 0) (oi := { dst := some 7, op := Op.load 41 (Operand.tmp 3), type := 41, pos := "numbers.go:175", after := #[], guard := none }) (v := .agg #[.int .i64 X, .int .i64 V, .int .i64 P00, .int .i64 P01, .int .i64 P11, .bool bent, .int .i64 missed]) rfl (by kernel_rfl) (fun _ _ _ h => h) (by rfl) HS ?_ ?_
  · (intro w' hSw; exact exec_load_st 41 (.tmp 3) rfl w.heap.size rfl hSw Try.underlying41 rfl (by kernel_rfl))
  try simp only [Act.put, List.setIfInBounds_toArray, List.set_cons_zero, List.set_cons_succ]
  refine Rg.takeP (i := 1) (oi := { dst := some 8, op := Op.move (Operand.tmp 1), type := 3, pos := "numbers.go:175", after := #[], guard := none }) (v := ?_) rfl (by kernel_rfl) (fun _ _ _ h => h) (by rfl) ?_ ?_
  rotate_left 1
  · (intro w; go_simp; (try with_reducible rfl))
  try simp only [Act.put, List.setIfInBounds_toArray, List.set_cons_zero, List.set_cons_succ]
  refine Rg.takeP (i := 2) (oi := { dst := some 9, op := Op.move (Operand.tmp 2), type := 3, pos := "numbers.go:175", after := #[], guard := none }) (v := ?_) rfl (by kernel_rfl) (fun _ _ _ h => h) (by rfl) ?_ ?_
  rotate_left 1
  · (intro w; go_simp; (try with_reducible rfl))
  try simp only [Act.put, List.setIfInBounds_toArray, List.set_cons_zero, List.set_cons_succ]
  refine Rg.takeS (i := 4) (oi := { dst := some 11, op := Op.load 41 (Operand.tmp 3), type := 41, pos := "numbers.go:175", after := #[], guard := none }) (v := .agg #[.int .i64 X, .int .i64 V, .int .i64 P00, .int .i64 P01, .int .i64 P11, .bool bent, .int .i64 missed]) rfl (by kernel_rfl) (fun _ _ _ h => h) (by rfl) HS ?_ ?_
  · (intro w' hSw; exact exec_load_st 41 (.tmp 3) rfl w.heap.size rfl hSw Try.underlying41 rfl (by kernel_rfl))
  try simp only [Act.put, List.setIfInBounds_toArray, List.set_cons_zero, List.set_cons_succ]
  refine Rg.takeP (i := 5) (oi := { dst := some 12, op := Op.move (Operand.tmp 1), type := 3, pos := "numbers.go:175", after := #[], guard := none }) (v := ?_) rfl (by kernel_rfl) (fun _ _ _ h => h) (by rfl) ?_ ?_
  rotate_left 1
  · (intro w; go_simp; (try with_reducible rfl))
  try simp only [Act.put, List.setIfInBounds_toArray, List.set_cons_zero, List.set_cons_succ]
  refine Rg.takeP (i := 6) (oi := { dst := some 13, op := Op.move (Operand.tmp 2), type := 3, pos := "numbers.go:175", after := #[], guard := none }) (v := ?_) rfl (by kernel_rfl) (fun _ _ _ h => h) (by rfl) ?_ ?_
  rotate_left 1
  · (intro w; go_simp; (try with_reducible rfl))
  try simp only [Act.put, List.setIfInBounds_toArray, List.set_cons_zero, List.set_cons_succ]
  refine Rg.oneR (i := 3) (oi := { dst := some 10, op := Op.call { callee := Callee.value (Operand.func 41), args := #[Operand.tmp 7, Operand.tmp 8, Operand.tmp 9], argTypes := #[41, 3, 3] }, type := 41, pos := "numbers.go:175", after := #[{ on := 0, ground := Ground.data }, { on := 1, ground := Ground.data }, { on := 2, ground := Ground.data }], guard := none }) rfl (by kernel_rfl) ?_
  refine Rg.stepS ?_
  intro K hK
  rw [if_pos (by rfl)]
  go_simp
  go_at_call 41
  refine (predict_any ⟨X, V, P00, P01, P11, bent, missed⟩ dt q _ HS0.out HD0.out HQ0.out).mono ?_
  rintro e w1 ⟨rfl, hb⟩
  rw [HP.out]
  simp only [stV, stC]
  replace HS := HS.below hb HS.lt
  have HB := Lib.hid (onward HB.out (Nat.le_refl _) hb)
  clear hb
  go_wp2_with fail
  refine hK.out _ _ HS ?_
  clear hK K
  try simp only [Act.put, List.setIfInBounds_toArray, List.set_cons_zero, List.set_cons_succ]
  refine Rg.oneR (i := 7) (oi := { dst := some 14, op := Op.call { callee := Callee.value (Operand.func 42), args := #[Operand.tmp 11, Operand.tmp 12, Operand.tmp 13], argTypes := #[41, 3, 3] }, type := 41, pos := "numbers.go:175", after := #[{ on := 4, ground := Ground.data }, { on := 5, ground := Ground.data }, { on := 6, ground := Ground.data }, { on := 3, ground := Ground.chain }], guard := none }) rfl (by kernel_rfl) ?_
  refine Rg.stepF ?_ ?_
  · kernel_rfl
  intro K hK
  rw [if_pos (by rfl)]
  go_simp
  go_at_call 42
  refine (refpredict_any ⟨X, V, P00, P01, P11, bent, missed⟩ dt q _ HS0.out HD0.out HQ0.out).mono ?_
  rintro e w1 ⟨rfl, hb⟩
  rw [HP.out]
  simp only [stV, stC]
  replace HS := HS.below hb HS.lt
  have HB := Lib.hid (onward HB.out (Nat.le_refl _) hb)
  clear hb
  go_wp2_with fail
  refine hK.out _ _ ?_
  clear hK K
  try simp only [Act.put, List.setIfInBounds_toArray, List.set_cons_zero, List.set_cons_succ]
  refine Rg.takeP (i := 8) (oi := { dst := some 15, op := Op.binOp BinOp.eql 41 (Operand.tmp 10) (Operand.tmp 14) 41, type := 4, pos := "numbers.go:175", after := #[{ on := 3, ground := Ground.data }, { on := 7, ground := Ground.data }], guard := none }) (v := ?_) rfl (by kernel_rfl) (fun _ _ _ h => h) (by rfl) ?_ ?_
  rotate_left 1
  · (intro w; go_simp; (try with_reducible rfl))
  try simp only [Act.put, List.setIfInBounds_toArray, List.set_cons_zero, List.set_cons_succ]
  refine Rg.takeP (i := 9) (oi := { dst := some 16, op := Op.move (Operand.tmp 15), type := 4, pos := "numbers.go:175", after := #[{ on := 8, ground := Ground.data }, { on := 7, ground := Ground.chain }], guard := none }) (v := ?_) rfl (by kernel_rfl) (fun _ _ _ h => h) (by rfl) ?_ ?_
  rotate_left 1
  · (intro w; go_simp; (try with_reducible rfl))
  try simp only [Act.put, List.setIfInBounds_toArray, List.set_cons_zero, List.set_cons_succ]
  refine Rg.takeP (i := 10) (oi := { dst := some 17, op := Op.build 41 #[], type := 41, pos := "numbers.go:175", after := #[{ on := 9, ground := Ground.guard }], guard := some (9, true) }) (v := ?_) rfl (by kernel_rfl) (fun _ _ _ h => h) (by rfl) ?_ ?_
  rotate_left 1
  · (intro w; go_simp; (try with_reducible rfl))
  try simp only [Act.put, List.setIfInBounds_toArray, List.set_cons_zero, List.set_cons_succ]
  refine Rg.oneR (i := 11) (oi := { dst := some 18, op := Op.call { callee := Callee.value (Operand.func 41), args := #[Operand.tmp 17, Operand.const (Value.int IntKind.i64 0), Operand.const (Value.int IntKind.i64 3)], argTypes := #[41, 3, 3] }, type := 41, pos := "numbers.go:175", after := #[{ on := 10, ground := Ground.data }, { on := 9, ground := Ground.chain }, { on := 9, ground := Ground.guard }], guard := some (9, true) }) rfl (by kernel_rfl) ?_
  refine Rg.stepF ?_ ?_
  · kernel_rfl
  intro K hK
  rw [if_pos (by rfl)]
  go_simp
  go_at_call 41
  refine (predict_any ⟨0, 0, 0, 0, 0, false, 0⟩ 0 3 _ in0 (by unfold In64; omega) (by unfold In64; omega)).mono ?_
  rintro e w1 ⟨rfl, hb⟩
  rw [HC.out]
  simp only [stV, stC]
  replace HS := HS.below hb HS.lt
  have HB := Lib.hid (onward HB.out (Nat.le_refl _) hb)
  clear hb
  go_wp2_with fail
  refine hK.out _ _ ?_
  clear hK K
  try simp only [Act.put, List.setIfInBounds_toArray, List.set_cons_zero, List.set_cons_succ]
  refine Rg.takeP (i := 12) (oi := { dst := some 19, op := Op.field 41 (Operand.tmp 18) 4, type := 3, pos := "numbers.go:175", after := #[{ on := 11, ground := Ground.data }, { on := 9, ground := Ground.guard }], guard := some (9, true) }) (v := ?_) rfl (by kernel_rfl) (fun _ _ _ h => h) (by rfl) ?_ ?_
  rotate_left 1
  · (intro w; go_simp; (try with_reducible rfl))
  try simp only [Act.put, List.setIfInBounds_toArray, List.set_cons_zero, List.set_cons_succ]
  refine Rg.takeP (i := 13) (oi := { dst := some 20, op := Op.binOp BinOp.eql 3 (Operand.tmp 19) (Operand.const (Value.int IntKind.i64 3)) 3, type := 4, pos := "numbers.go:175", after := #[{ on := 12, ground := Ground.data }, { on := 9, ground := Ground.guard }], guard := some (9, true) }) (v := ?_) rfl (by kernel_rfl) (fun _ _ _ h => h) (by rfl) ?_ ?_
  rotate_left 1
  · (intro w; go_simp; (try with_reducible rfl))
  try simp only [Act.put, List.setIfInBounds_toArray, List.set_cons_zero, List.set_cons_succ]
  refine Rg.takeP (i := 14) (oi := { dst := some 21, op := Op.pick (Operand.tmp 16) (Operand.tmp 20) (Operand.const (Value.bool false)), type := 4, pos := "numbers.go:175", after := #[{ on := 9, ground := Ground.data }, { on := 13, ground := Ground.data }], guard := none }) (v := ?_) rfl (by kernel_rfl) (fun _ _ _ h => h) (by rfl) ?_ ?_
  rotate_left 1
  · (intro w; go_simp; (try with_reducible rfl))
  try simp only [Act.put, List.setIfInBounds_toArray, List.set_cons_zero, List.set_cons_succ]
  refine Rg.takeP (i := 15) (oi := { dst := some 6, op := Op.assign (Operand.tmp 21), type := 4, pos := "numbers.go:175", after := #[{ on := 14, ground := Ground.data }, { on := 11, ground := Ground.chain }, { on := 0, ground := Ground.phase }, { on := 1, ground := Ground.phase }, { on := 2, ground := Ground.phase }, { on := 3, ground := Ground.phase }, { on := 4, ground := Ground.phase }, { on := 5, ground := Ground.phase }, { on := 6, ground := Ground.phase }, { on := 7, ground := Ground.phase }, { on := 8, ground := Ground.phase }, { on := 9, ground := Ground.phase }, { on := 10, ground := Ground.phase }, { on := 11, ground := Ground.phase }, { on := 12, ground := Ground.phase }, { on := 13, ground := Ground.phase }, { on := 14, ground := Ground.phase }], guard := none }) (v := ?_) rfl (by kernel_rfl) (fun _ _ _ h => h) (by rfl) ?_ ?_
  rotate_left 1
  · (intro w; go_simp; (try with_reducible rfl))
  try simp only [Act.put, List.setIfInBounds_toArray, List.set_cons_zero, List.set_cons_succ]
  refine Rg.doneR (by kernel_rfl) ?_ _
  refine NoPanic.normal ?_
  have h3 := H3.out
  clear hfd HS
  subst h3
  go_wp2_with fail
  go_ret
  exact ⟨rfl, HB.out⟩
set_option maxRecDepth 100000 in
set_option maxHeartbeats 1000000 in
theorem lifted (os : Os) (started : os.Started) (H : Type) (enc : TypeId × Value → H) :
    ReturnsInHanded {} Try.checked os 11 .any (Rows.filterPredictsSpec.pre6 enc Try.prog Try.f11 Rows.filterPredictsRow.domain false) (Rows.filterPredictsSpec.post enc Try.prog Try.f11 false true false false) := by
  refine returnsInHanded_of_change_sized (C := Try.checked) Fr.own started (by kernel_rfl) Try.func11
    (ChangeSpec.witness6 (enc := enc) (C := Try.checked) false ⟨#[], #[.agg #[.int .i64 0, .int .i64 0, .int .i64 0, .int .i64 0, .int .i64 0, .bool false, .int .i64 0], .int .i64 0, .int .i64 0], []⟩ 8 (by kernel_rfl) (by kernel_rfl) (by kernel_rfl) (by kernel_rfl)) ?_
  intro W base args ds gs before hval0 hW _ hsz0 _
  have hval : ∀ (j : Nat) t v, Try.f11.params[j]? = some t → args[j]? = some v → Value.okWide Try.prog W .any base t v := hval0
  have hsz : (DataW.weightsEach Try.prog (Try.f11.params.toList ++ Rows.filterPredictsSpec.plain.varTypes Try.prog) (ds ++ gs)).all (· ≤ reachBytes) = true := hsz0
  clear hval0 hsz0
  obtain ⟨p, q, hA0, hV0, _⟩ := id hW
  have hA : DataW.TrodAll enc Try.prog W 0 (fun _ => true) true Try.f11.params.toList args.toList ds p := hA0
  rw [Try.params11] at hA hval hsz
  obtain ⟨v0, vs0, d0, ds0, p0, q0, hargs, rfl, rfl, h0, r0⟩ := trodAll_cons hA
  obtain ⟨v1, vs1, d1, ds1, p1, q1, rfl, rfl, rfl, h1, r1⟩ := trodAll_cons r0
  obtain ⟨v2, vs2, d2, ds2, p2, q2, rfl, rfl, rfl, h2, r2⟩ := trodAll_cons r1
  obtain ⟨rfl, rfl, rfl⟩ := trodAll_nil r2
  obtain rfl : args = #[v0, v1, v2] := by cases args; simp_all
  obtain ⟨rfl, rfl⟩ := trodVars_none hV0
  refine Fr.of_walk (f := Try.f11) Fr.laidOut (by rw [Try.params11]; intro t ht; simp at ht; (first | (rcases ht with rfl | rfl | rfl | rfl | rfl | rfl) | (rcases ht with rfl | rfl | rfl | rfl | rfl) | (rcases ht with rfl | rfl | rfl | rfl) | (rcases ht with rfl | rfl | rfl) | (rcases ht with rfl | rfl) | (subst ht)) <;> exact ⟨by kernel_rfl, of_decide_eq_true (by kernel_rfl)⟩) rfl rfl Try.underlying4 (fun _ => rfl) hW ?_
  clear hW hA hA0 hV0
  obtain ⟨cs0, rfl⟩ := Op.okWide_agg (t := 41) (by kernel_rfl) (hval 0 41 v0 rfl rfl)
  have k0 := Op.flat_arg (ls := [3,3,3,3,3,4,3]) (by kernel_rfl) h0 (Op.light_of_each (j := 0) hsz rfl rfl)
  obtain ⟨y0_0, l0, e0, f0_0, k0⟩ := k0.cons
  obtain ⟨y0_1, l0, rfl, f0_1, k0⟩ := k0.cons
  obtain ⟨y0_2, l0, rfl, f0_2, k0⟩ := k0.cons
  obtain ⟨y0_3, l0, rfl, f0_3, k0⟩ := k0.cons
  obtain ⟨y0_4, l0, rfl, f0_4, k0⟩ := k0.cons
  obtain ⟨y0_5, l0, rfl, f0_5, k0⟩ := k0.cons
  obtain ⟨y0_6, l0, rfl, f0_6, k0⟩ := k0.cons
  obtain rfl := k0.nil_
  obtain rfl := Op.arr_of e0
  obtain ⟨X, rfl, wf_X⟩ := f0_0.int Try.underlying3
  obtain ⟨V, rfl, wf_V⟩ := f0_1.int Try.underlying3
  obtain ⟨P00, rfl, wf_P00⟩ := f0_2.int Try.underlying3
  obtain ⟨P01, rfl, wf_P01⟩ := f0_3.int Try.underlying3
  obtain ⟨P11, rfl, wf_P11⟩ := f0_4.int Try.underlying3
  obtain ⟨bent, rfl⟩ := f0_5.bool Try.underlying4
  obtain ⟨missed, rfl, wf_missed⟩ := f0_6.int Try.underlying3
  obtain ⟨dt, rfl, rfl, rfl, wf_dt⟩ := open_int Try.underlying3 (hval 1 3 v1 rfl rfl) h1
  have bd_dt := Op.wf_i64 wf_dt
  obtain ⟨q, rfl, rfl, rfl, wf_q⟩ := open_int Try.underlying3 (hval 2 3 v2 rfl rfl) h2
  have bd_q := Op.wf_i64 wf_q
  exact walk X V P00 P01 P11 bent missed dt q W ⟨Op.wf_i64 wf_X, Op.wf_i64 wf_V, Op.wf_i64 wf_P00, Op.wf_i64 wf_P01, Op.wf_i64 wf_P11⟩ bd_dt bd_q

theorem closedFacts : joinedFacts Try.prog 11 Try.f11 Rows.filterPredictsSpec Rows.filterPredictsRow = true := by
  unfold joinedFacts
  simp only [Bool.and_eq_true]
  refine ⟨⟨⟨⟨⟨⟨⟨⟨⟨⟨⟨⟨⟨⟨⟨⟨⟨⟨⟨⟨⟨⟨⟨⟨⟨⟨⟨⟨⟨⟨⟨?_, ?_⟩, ?_⟩, ?_⟩, ?_⟩, ?_⟩, ?_⟩, ?_⟩, ?_⟩, ?_⟩, ?_⟩, ?_⟩, ?_⟩, ?_⟩, ?_⟩, ?_⟩, ?_⟩, ?_⟩, ?_⟩, ?_⟩, ?_⟩, ?_⟩, ?_⟩, ?_⟩, ?_⟩, ?_⟩, ?_⟩, ?_⟩, ?_⟩, ?_⟩, ?_⟩, ?_⟩
  · as_aux_lemma => kernel_rfl
  · exact Fr.laidOut
  · exact Facts.mapsRowed_
  · as_aux_lemma => kernel_rfl
  · as_aux_lemma => kernel_rfl
  · as_aux_lemma => kernel_rfl
  · exact Facts.stops_
  · as_aux_lemma => kernel_rfl
  · exact Facts.knobs_
  · as_aux_lemma => kernel_rfl
  · as_aux_lemma => kernel_rfl
  · as_aux_lemma => kernel_rfl
  · as_aux_lemma => kernel_rfl
  · as_aux_lemma => kernel_rfl
  · as_aux_lemma => kernel_rfl
  · as_aux_lemma => kernel_rfl
  · as_aux_lemma => kernel_rfl
  · as_aux_lemma => kernel_rfl
  · as_aux_lemma => kernel_rfl
  · as_aux_lemma => kernel_rfl
  · as_aux_lemma => kernel_rfl
  · as_aux_lemma => kernel_rfl
  · exact Facts.keys_
  · as_aux_lemma => kernel_rfl
  · exact Facts.heard_
  · exact Facts.enter_
  · exact Facts.lifts_
  · exact Facts.make_
  · as_aux_lemma => kernel_rfl
  · as_aux_lemma => kernel_rfl
  · as_aux_lemma => kernel_rfl
  · as_aux_lemma => kernel_rfl

theorem proved : Rows.FilterPredictsSaid :=
  OpenClaim.holds_of_wide 11 Try.f11 rfl rfl rfl rfl rfl rfl rfl ⟨rfl, rfl, rfl, rfl, rfl⟩ rfl rfl rfl rfl rfl (by kernel_rfl) Try.func11 closedFacts
    (of_decide_eq_true (by kernel_rfl)) (by unfold Func.isWrapper; first | (rw [if_pos (by decide +kernel)]; kernel_rfl) | (rw [if_neg (by decide +kernel)]; exact ⟨rfl, rfl⟩))
    (fun os started H enc _ => lifted os started H enc)

end Go.Proofs.Ytadcjoipmgefaaa.lawFilterPredicts
