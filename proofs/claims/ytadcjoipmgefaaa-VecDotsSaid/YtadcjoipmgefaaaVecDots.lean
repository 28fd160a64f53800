/- The law VecDots returns true: vec.Dot and the reference's Dot answer alike for all vectors. Conditions: none. -/
import Derived.Test.YtadcjoipmgefaaaFrame
import Derived.Test.YtadcjoipmgefaaaFacts
import Derived.Test.YtadcjoipmgefaaaOpen
import Derived.Test.YtadcjoipmgefaaaVec
namespace Go.Proofs.Ytadcjoipmgefaaa.lawVecDots
open Go.ChangeShapes Go.WideShapes Go.ChangeAt Go.RowKit Go.Proofs.Ytadcjoipmgefaaa.Mem Go.Proofs.Ytadcjoipmgefaaa.BigW
set_option linter.unusedVariables false

theorem closed : dotV 0 0 3 0 0 4294967296 = (3, false) := by decide +kernel

set_option maxRecDepth 100000 in
set_option maxHeartbeats 1000000 in
theorem walk (ax ay az bx b_y bz : Int) (w : World) (h1 : In64 ax) (h2 : In64 ay) (h3 : In64 az) (h4 : In64 bx) (h5 : In64 b_y) (h6 : In64 bz) :
    Calls Try.prog 10 #[vecV ax ay az, vecV bx b_y bz] w fun e w' => e = .returned (.bool true) ∧ Below w.heap.size w w' := by
  have HC := Lib.hid closed
  unfold vecV
  go_enter Try.func10, Try.ntmps10
  go_wp2_with fail
  have hW : Below w.heap.size w ((w.alloc (.cells #[.int .i64 ax, .int .i64 ay, .int .i64 az] 27)).alloc (.cells #[.int .i64 bx, .int .i64 b_y, .int .i64 bz] 27)) := ((Below.refl _ _).alloc (Nat.le_refl _) _).alloc (by simp) _
  have b0 := (Blk.new (w := w) (t := 27) (cs := #[.int .i64 ax, .int .i64 ay, .int .i64 az]) rfl).alloc (.cells #[.int .i64 bx, .int .i64 b_y, .int .i64 bz] 27)
  have b1 := Blk.new (w := w.alloc (.cells #[.int .i64 ax, .int .i64 ay, .int .i64 az] 27)) (g := w.heap.size + 1) (t := 27) (cs := #[.int .i64 bx, .int .i64 b_y, .int .i64 bz]) (by simp)
  refine (vecDot_any ax ay az bx b_y bz _ h1 h2 h3 h4 h5 h6).mono ?_
  rintro e w1 ⟨rfl, hb1⟩
  have b0 := b0.below hb1 b0.lt
  have b1 := b1.below hb1 b1.lt
  have k00 := b0.cell 0
  have k01 := b0.cell 1
  have k02 := b0.cell 2
  have k10 := b1.cell 0
  have k11 := b1.cell 1
  have k12 := b1.cell 2
  simp only [List.getElem?_toArray, List.getElem?_cons_zero, List.getElem?_cons_succ] at k00 k01 k02 k10 k11 k12
  have hb2 := onward hW (Nat.le_refl _) hb1
  obtain ⟨r, hr⟩ : ∃ r, dotV ax ay az bx b_y bz = r := ⟨_, rfl⟩
  have HR := Lib.hid hr
  rw [hr]
  clear hr hW b0 b1
  go_wp2_with fail
  refine (refDot_any ax ay az bx b_y bz _ h1 h2 h3 h4 h5 h6).mono ?_
  rintro e w2 ⟨rfl, hb3⟩
  rw [HR.out]
  have hb4 := onward hb2 (Nat.le_refl _) hb3
  go_wp2_with fail
  refine (vecDot_any 0 0 3 0 0 4294967296 _ (by unfold In64; omega) (by unfold In64; omega) (by unfold In64; omega) (by unfold In64; omega) (by unfold In64; omega) (by unfold In64; omega)).mono ?_
  rintro e w3 ⟨rfl, hb5⟩
  rw [HC.out]
  have hb6 := onward hb4 (Nat.le_refl _) hb5
  go_wp2_with fail
  go_ret
  exact ⟨rfl, hb6⟩
set_option maxRecDepth 100000 in
theorem lifted (os : Os) (started : os.Started) (H : Type) (enc : TypeId × Value → H) :
    ReturnsInHanded {} Try.checked os 10 .any (Rows.vecDotsSpec.pre6 enc Try.prog Try.f10 Rows.vecDotsRow.domain false) (Rows.vecDotsSpec.post enc Try.prog Try.f10 false true false false) := by
  refine returnsInHanded_of_change_sized (C := Try.checked) Fr.own started (by kernel_rfl) Try.func10
    (ChangeSpec.witness6 (enc := enc) (C := Try.checked) false ⟨#[], #[.agg #[.int .i64 0, .int .i64 0, .int .i64 0], .agg #[.int .i64 0, .int .i64 0, .int .i64 0]], []⟩ 8 (by kernel_rfl) (by kernel_rfl) (by kernel_rfl) (by kernel_rfl)) ?_
  intro W base args ds gs before hval0 hW _ hsz0 _
  have hval : ∀ (j : Nat) t v, Try.f10.params[j]? = some t → args[j]? = some v → Value.okWide Try.prog W .any base t v := hval0
  have hsz : (DataW.weightsEach Try.prog (Try.f10.params.toList ++ Rows.vecDotsSpec.plain.varTypes Try.prog) (ds ++ gs)).all (· ≤ reachBytes) = true := hsz0
  clear hval0 hsz0
  obtain ⟨p, q, hA0, hV0, _⟩ := id hW
  have hA : DataW.TrodAll enc Try.prog W 0 (fun _ => true) true Try.f10.params.toList args.toList ds p := hA0
  rw [Try.params10] at hA hval hsz
  obtain ⟨v0, vs0, d0, ds0, p0, q0, hargs, rfl, rfl, h0, r0⟩ := trodAll_cons hA
  obtain ⟨v1, vs1, d1, ds1, p1, q1, rfl, rfl, rfl, h1, r1⟩ := trodAll_cons r0
  obtain ⟨rfl, rfl, rfl⟩ := trodAll_nil r1
  obtain rfl : args = #[v0, v1] := by cases args; simp_all
  obtain ⟨rfl, rfl⟩ := trodVars_none hV0
  refine Fr.of_walk (f := Try.f10) Fr.laidOut (by rw [Try.params10]; intro t ht; simp at ht; (first | (rcases ht with rfl | rfl | rfl | rfl | rfl | rfl) | (rcases ht with rfl | rfl | rfl | rfl | rfl) | (rcases ht with rfl | rfl | rfl | rfl) | (rcases ht with rfl | rfl | rfl) | (rcases ht with rfl | rfl) | (subst ht)) <;> exact ⟨by kernel_rfl, of_decide_eq_true (by kernel_rfl)⟩) rfl rfl Try.underlying4 (fun _ => rfl) hW ?_
  clear hW hA hA0 hV0
  obtain ⟨cs0, rfl⟩ := Op.okWide_agg (t := 27) (by kernel_rfl) (hval 0 27 v0 rfl rfl)
  have k0 := Op.flat_arg (ls := [3,3,3]) (by kernel_rfl) h0 (Op.light_of_each (j := 0) hsz rfl rfl)
  obtain ⟨y0_0, l0, e0, f0_0, k0⟩ := k0.cons
  obtain ⟨y0_1, l0, rfl, f0_1, k0⟩ := k0.cons
  obtain ⟨y0_2, l0, rfl, f0_2, k0⟩ := k0.cons
  obtain rfl := k0.nil_
  obtain rfl := Op.arr_of e0
  obtain ⟨ax, rfl, wf_ax⟩ := f0_0.int Try.underlying3
  obtain ⟨ay, rfl, wf_ay⟩ := f0_1.int Try.underlying3
  obtain ⟨az, rfl, wf_az⟩ := f0_2.int Try.underlying3
  obtain ⟨cs1, rfl⟩ := Op.okWide_agg (t := 27) (by kernel_rfl) (hval 1 27 v1 rfl rfl)
  have k1 := Op.flat_arg (ls := [3,3,3]) (by kernel_rfl) h1 (Op.light_of_each (j := 1) hsz rfl rfl)
  obtain ⟨y1_0, l1, e1, f1_0, k1⟩ := k1.cons
  obtain ⟨y1_1, l1, rfl, f1_1, k1⟩ := k1.cons
  obtain ⟨y1_2, l1, rfl, f1_2, k1⟩ := k1.cons
  obtain rfl := k1.nil_
  obtain rfl := Op.arr_of e1
  obtain ⟨bx, rfl, wf_bx⟩ := f1_0.int Try.underlying3
  obtain ⟨b_y, rfl, wf_b_y⟩ := f1_1.int Try.underlying3
  obtain ⟨bz, rfl, wf_bz⟩ := f1_2.int Try.underlying3
  exact walk ax ay az bx b_y bz W (Op.wf_i64 wf_ax) (Op.wf_i64 wf_ay) (Op.wf_i64 wf_az) (Op.wf_i64 wf_bx) (Op.wf_i64 wf_b_y) (Op.wf_i64 wf_bz)

theorem closedFacts : joinedFacts Try.prog 10 Try.f10 Rows.vecDotsSpec Rows.vecDotsRow = true := by
  unfold joinedFacts
  simp only [Bool.and_eq_true]
  refine ⟨⟨⟨⟨⟨⟨⟨⟨⟨⟨⟨⟨⟨⟨⟨⟨⟨⟨⟨⟨⟨⟨⟨⟨⟨⟨⟨⟨⟨⟨⟨?_, ?_⟩, ?_⟩, ?_⟩, ?_⟩, ?_⟩, ?_⟩, ?_⟩, ?_⟩, ?_⟩, ?_⟩, ?_⟩, ?_⟩, ?_⟩, ?_⟩, ?_⟩, ?_⟩, ?_⟩, ?_⟩, ?_⟩, ?_⟩, ?_⟩, ?_⟩, ?_⟩, ?_⟩, ?_⟩, ?_⟩, ?_⟩, ?_⟩, ?_⟩, ?_⟩, ?_⟩
  · as_aux_lemma => kernel_rfl
  · exact Fr.laidOut
  · exact Facts.mapsRowed_
  · as_aux_lemma => kernel_rfl
  · as_aux_lemma => kernel_rfl
  · as_aux_lemma => kernel_rfl
  · exact Facts.stops_
  · as_aux_lemma => kernel_rfl
  · exact Facts.knobs_
  · as_aux_lemma => kernel_rfl
  · as_aux_lemma => kernel_rfl
  · as_aux_lemma => kernel_rfl
  · as_aux_lemma => kernel_rfl
  · as_aux_lemma => kernel_rfl
  · as_aux_lemma => kernel_rfl
  · as_aux_lemma => kernel_rfl
  · as_aux_lemma => kernel_rfl
  · as_aux_lemma => kernel_rfl
  · as_aux_lemma => kernel_rfl
  · as_aux_lemma => kernel_rfl
  · as_aux_lemma => kernel_rfl
  · as_aux_lemma => kernel_rfl
  · exact Facts.keys_
  · as_aux_lemma => kernel_rfl
  · exact Facts.heard_
  · exact Facts.enter_
  · exact Facts.lifts_
  · exact Facts.make_
  · as_aux_lemma => kernel_rfl
  · as_aux_lemma => kernel_rfl
  · as_aux_lemma => kernel_rfl
  · as_aux_lemma => kernel_rfl

theorem proved : Rows.VecDotsSaid :=
  OpenClaim.holds_of_wide 10 Try.f10 rfl rfl rfl rfl rfl rfl rfl ⟨rfl, rfl, rfl, rfl, rfl⟩ rfl rfl rfl rfl rfl (by kernel_rfl) Try.func10 closedFacts
    (of_decide_eq_true (by kernel_rfl)) (by unfold Func.isWrapper; first | (rw [if_pos (by decide +kernel)]; kernel_rfl) | (rw [if_neg (by decide +kernel)]; exact ⟨rfl, rfl⟩))
    (fun os started H enc _ => lifted os started H enc)

end Go.Proofs.Ytadcjoipmgefaaa.lawVecDots
