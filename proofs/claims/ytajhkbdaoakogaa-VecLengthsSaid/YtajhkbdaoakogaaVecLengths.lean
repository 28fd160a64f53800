/- The law VecLengths returns true: vec.Length and the reference's Length answer one number and one Bool for all vectors. Conditions: none. -/
import Derived.Test.YtajhkbdaoakogaaFrame
import Derived.Test.YtajhkbdaoakogaaFacts
import Derived.Test.YtajhkbdaoakogaaOpen
import Derived.Test.YtajhkbdaoakogaaLength
namespace Go.Proofs.Ytajhkbdaoakogaa.lawVecLengths
open Go.ChangeShapes Go.WideShapes Go.ChangeAt Go.RowKit Go.Proofs.Ytajhkbdaoakogaa.Mem Go.Proofs.Ytajhkbdaoakogaa.BigW Go.Proofs.Ytajhkbdaoakogaa.Rws
set_option linter.unusedVariables false

theorem closed : lengthV 12884901888 17179869184 0 = (21474836480, false) := by decide +kernel

set_option maxRecDepth 100000 in
set_option maxHeartbeats 1000000 in
theorem walk (ax ay az : Int) (w : World) (h1 : In64 ax) (h2 : In64 ay) (h3 : In64 az) : Calls Try.prog 9 #[.agg #[.int .i64 ax, .int .i64 ay, .int .i64 az]] w fun e w' => e = .returned (.bool true) ∧ Below w.heap.size w w' := by
  have HC := Lib.hid closed
  have H1 := Lib.hid h1
  have H2 := Lib.hid h2
  have H3 := Lib.hid h3
  obtain ⟨⟨x, p⟩, hx⟩ : ∃ r, lengthV ax ay az = r := ⟨_, rfl⟩
  have HX := Lib.hid hx
  clear hx h1 h2 h3
  have HA := Lib.hid (show Blk (w.alloc (.cells #[.int .i64 ax, .int .i64 ay, .int .i64 az] 37)) w.heap.size 37 #[.int .i64 ax, .int .i64 ay, .int .i64 az] from Blk.new rfl)
  have HB := Lib.hid (show Below w.heap.size w (w.alloc (.cells #[.int .i64 ax, .int .i64 ay, .int .i64 az] 37)) from (Below.refl _ _).alloc (Nat.le_refl _) _)
  go_enter Try.func9, Try.ntmps9
  go_upto_region 1 with fail
  generalize (w.alloc (.cells #[.int .i64 ax, .int .i64 ay, .int .i64 az] 37)) = w1 at *
  go_wp2_with (refine wpList_whole rfl 37 _ rfl w.heap.size rfl HA.out _ Try.underlying37 rfl (by kernel_rfl) ?_)
  refine (length_any' ax ay az _ H1.out H2.out H3.out).mono ?_
  rintro e w2 ⟨rfl, hb⟩
  rw [HX.out]
  have HA := Lib.hid (HA.out.below hb HA.out.lt)
  have HB := Lib.hid (onward HB.out (Nat.le_refl _) hb)
  clear hb
  go_wp2_with (refine wpList_whole rfl 37 _ rfl w.heap.size rfl HA.out _ Try.underlying37 rfl (by kernel_rfl) ?_)
  refine (refLength_any ax ay az _ H1.out H2.out H3.out).mono ?_
  rintro e w3 ⟨rfl, hb⟩
  rw [HX.out]
  have HB := Lib.hid (onward HB.out (Nat.le_refl _) hb)
  clear hb HA
  go_wp2_with fail
  refine (length_any' 12884901888 17179869184 0 _ (by unfold In64; omega) (by unfold In64; omega) (by unfold In64; omega)).mono ?_
  rintro e w4 ⟨rfl, hb⟩
  rw [HC.out]
  have HB := Lib.hid (onward HB.out (Nat.le_refl _) hb)
  clear hb
  cases p
  all_goals
    go_wp2_with fail
    go_ret
    exact ⟨rfl, HB.out⟩
set_option maxRecDepth 100000 in
set_option maxHeartbeats 1000000 in
theorem lifted (os : Os) (started : os.Started) (H : Type) (enc : TypeId × Value → H) :
    ReturnsInHanded {} Try.checked os 9 .any (Rows.vecLengthsSpec.pre6 enc Try.prog Try.f9 Rows.vecLengthsRow.domain false) (Rows.vecLengthsSpec.post enc Try.prog Try.f9 false true false false) := by
  refine returnsInHanded_of_change_sized (C := Try.checked) Fr.own started (by kernel_rfl) Try.func9
    (ChangeSpec.witness6 (enc := enc) (C := Try.checked) false ⟨#[], #[.agg #[.int .i64 0, .int .i64 0, .int .i64 0]], []⟩ 8 (by kernel_rfl) (by kernel_rfl) (by kernel_rfl) (by kernel_rfl)) ?_
  intro W base args ds gs before hval0 hW _ hsz0 _
  have hval : ∀ (j : Nat) t v, Try.f9.params[j]? = some t → args[j]? = some v → Value.okWide Try.prog W .any base t v := hval0
  have hsz : (DataW.weightsEach Try.prog (Try.f9.params.toList ++ Rows.vecLengthsSpec.plain.varTypes Try.prog) (ds ++ gs)).all (· ≤ reachBytes) = true := hsz0
  clear hval0 hsz0
  obtain ⟨p, q, hA0, hV0, _⟩ := id hW
  have hA : DataW.TrodAll enc Try.prog W 0 (fun _ => true) true Try.f9.params.toList args.toList ds p := hA0
  rw [Try.params9] at hA hval hsz
  obtain ⟨v0, vs0, d0, ds0, p0, q0, hargs, rfl, rfl, h0, r0⟩ := trodAll_cons hA
  obtain ⟨rfl, rfl, rfl⟩ := trodAll_nil r0
  obtain rfl : args = #[v0] := by cases args; simp_all
  obtain ⟨rfl, rfl⟩ := trodVars_none hV0
  refine Fr.of_walk (f := Try.f9) Fr.laidOut (by rw [Try.params9]; intro t ht; simp at ht; (first | (rcases ht with rfl | rfl | rfl | rfl | rfl | rfl) | (rcases ht with rfl | rfl | rfl | rfl | rfl) | (rcases ht with rfl | rfl | rfl | rfl) | (rcases ht with rfl | rfl | rfl) | (rcases ht with rfl | rfl) | (subst ht)) <;> exact ⟨by kernel_rfl, of_decide_eq_true (by kernel_rfl)⟩) rfl rfl Try.underlying4 (fun _ => rfl) hW ?_
  clear hW hA hA0 hV0
  obtain ⟨cs0, rfl⟩ := Op.okWide_agg (t := 37) (by kernel_rfl) (hval 0 37 v0 rfl rfl)
  have k0 := Op.flat_arg (ls := [3,3,3]) (by kernel_rfl) h0 (Op.light_of_each (j := 0) hsz rfl rfl)
  obtain ⟨y0_0, l0, e0, f0_0, k0⟩ := k0.cons
  obtain ⟨y0_1, l0, rfl, f0_1, k0⟩ := k0.cons
  obtain ⟨y0_2, l0, rfl, f0_2, k0⟩ := k0.cons
  obtain rfl := k0.nil_
  obtain rfl := Op.arr_of e0
  obtain ⟨ax, rfl, wf_ax⟩ := f0_0.int Try.underlying3
  obtain ⟨ay, rfl, wf_ay⟩ := f0_1.int Try.underlying3
  obtain ⟨az, rfl, wf_az⟩ := f0_2.int Try.underlying3
  exact walk ax ay az W (Op.wf_i64 wf_ax) (Op.wf_i64 wf_ay) (Op.wf_i64 wf_az)

theorem closedFacts : joinedFacts Try.prog 9 Try.f9 Rows.vecLengthsSpec Rows.vecLengthsRow = true := by
  unfold joinedFacts
  simp only [Bool.and_eq_true]
  refine ⟨⟨⟨⟨⟨⟨⟨⟨⟨⟨⟨⟨⟨⟨⟨⟨⟨⟨⟨⟨⟨⟨⟨⟨⟨⟨⟨⟨⟨⟨⟨?_, ?_⟩, ?_⟩, ?_⟩, ?_⟩, ?_⟩, ?_⟩, ?_⟩, ?_⟩, ?_⟩, ?_⟩, ?_⟩, ?_⟩, ?_⟩, ?_⟩, ?_⟩, ?_⟩, ?_⟩, ?_⟩, ?_⟩, ?_⟩, ?_⟩, ?_⟩, ?_⟩, ?_⟩, ?_⟩, ?_⟩, ?_⟩, ?_⟩, ?_⟩, ?_⟩, ?_⟩
  · as_aux_lemma => kernel_rfl
  · exact Fr.laidOut
  · exact Facts.mapsRowed_
  · as_aux_lemma => kernel_rfl
  · as_aux_lemma => kernel_rfl
  · as_aux_lemma => kernel_rfl
  · exact Facts.stops_
  · as_aux_lemma => kernel_rfl
  · exact Facts.knobs_
  · as_aux_lemma => kernel_rfl
  · as_aux_lemma => kernel_rfl
  · as_aux_lemma => kernel_rfl
  · as_aux_lemma => kernel_rfl
  · as_aux_lemma => kernel_rfl
  · as_aux_lemma => kernel_rfl
  · as_aux_lemma => kernel_rfl
  · as_aux_lemma => kernel_rfl
  · as_aux_lemma => kernel_rfl
  · as_aux_lemma => kernel_rfl
  · as_aux_lemma => kernel_rfl
  · as_aux_lemma => kernel_rfl
  · as_aux_lemma => kernel_rfl
  · exact Facts.keys_
  · as_aux_lemma => kernel_rfl
  · exact Facts.heard_
  · exact Facts.enter_
  · exact Facts.lifts_
  · exact Facts.make_
  · as_aux_lemma => kernel_rfl
  · as_aux_lemma => kernel_rfl
  · as_aux_lemma => kernel_rfl
  · as_aux_lemma => kernel_rfl

theorem proved : Rows.VecLengthsSaid :=
  OpenClaim.holds_of_wide 9 Try.f9 rfl rfl rfl rfl rfl rfl rfl ⟨rfl, rfl, rfl, rfl, rfl⟩ rfl rfl rfl rfl rfl (by kernel_rfl) Try.func9 closedFacts
    (of_decide_eq_true (by kernel_rfl)) (by unfold Func.isWrapper; first | (rw [if_pos (by decide +kernel)]; kernel_rfl) | (rw [if_neg (by decide +kernel)]; exact ⟨rfl, rfl⟩))
    (fun os started H enc _ => lifted os started H enc)

end Go.Proofs.Ytajhkbdaoakogaa.lawVecLengths
