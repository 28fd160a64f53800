/- The law FixDivs returns true: fix.Div and the reference's Div answer alike for all numbers. Conditions: none. -/
import Derived.Test.YtadcjoipmgefaaaFrame
import Derived.Test.YtadcjoipmgefaaaFacts
import Derived.Test.YtadcjoipmgefaaaOpen
import Derived.Test.YtadcjoipmgefaaaFixDiv
namespace Go.Proofs.Ytadcjoipmgefaaa.lawFixDivs
open Go.ChangeShapes Go.WideShapes Go.ChangeAt Go.RowKit Go.Proofs.Ytadcjoipmgefaaa.Mem Go.Proofs.Ytadcjoipmgefaaa.BigW
set_option linter.unusedVariables false

theorem closed : fdiv 5 4294967296 = (5, false) := by decide +kernel

theorem walk (a b : Int) (w : World) (ha : -9223372036854775808 ≤ a ∧ a ≤ 9223372036854775807) (hb : -9223372036854775808 ≤ b ∧ b ≤ 9223372036854775807) :
    Calls Try.prog 15 #[.int .i64 a, .int .i64 b] w fun e w' => e = .returned (.bool true) ∧ Below w.heap.size w w' := by
  have HA := Lib.hid ha
  have HB := Lib.hid hb
  have HC := Lib.hid closed
  clear ha hb
  go_enter Try.func15, Try.ntmps15
  go_wp2_with fail
  refine (fixDiv_any a b _ HA.out HB.out).mono ?_
  rintro e w1 ⟨rfl, hb1⟩
  generalize hr : fdiv a b = r
  have HR := Lib.hid hr
  clear hr
  go_wp2_with fail
  refine (refDiv_any a b _ HA.out HB.out).mono ?_
  rintro e w2 ⟨rfl, hb2⟩
  rw [HR.out]
  have hb3 := onward hb1 (Nat.le_refl _) hb2
  go_wp2_with fail
  refine (fixDiv_any 5 4294967296 _ (by omega) (by omega)).mono ?_
  rintro e w3 ⟨rfl, hb4⟩
  rw [HC.out]
  have hb5 := onward hb3 (Nat.le_refl _) hb4
  go_wp2_with fail
  go_ret
  exact ⟨rfl, hb5⟩
set_option maxRecDepth 100000 in
theorem lifted (os : Os) (started : os.Started) (H : Type) (enc : TypeId × Value → H) :
    ReturnsInHanded {} Try.checked os 15 .any (Rows.fixDivsSpec.pre6 enc Try.prog Try.f15 Rows.fixDivsRow.domain false) (Rows.fixDivsSpec.post enc Try.prog Try.f15 false true false false) := by
  refine returnsInHanded_of_change_sized (C := Try.checked) Fr.own started (by kernel_rfl) Try.func15
    (ChangeSpec.witness6 (enc := enc) (C := Try.checked) false ⟨#[], #[.int .i64 0, .int .i64 0], []⟩ 8 (by kernel_rfl) (by kernel_rfl) (by kernel_rfl) (by kernel_rfl)) ?_
  intro W base args ds gs before hval0 hW _ hsz0 _
  have hval : ∀ (j : Nat) t v, Try.f15.params[j]? = some t → args[j]? = some v → Value.okWide Try.prog W .any base t v := hval0
  have hsz : (DataW.weightsEach Try.prog (Try.f15.params.toList ++ Rows.fixDivsSpec.plain.varTypes Try.prog) (ds ++ gs)).all (· ≤ reachBytes) = true := hsz0
  clear hval0 hsz0
  obtain ⟨p, q, hA0, hV0, _⟩ := id hW
  have hA : DataW.TrodAll enc Try.prog W 0 (fun _ => true) true Try.f15.params.toList args.toList ds p := hA0
  rw [Try.params15] at hA hval hsz
  obtain ⟨v0, vs0, d0, ds0, p0, q0, hargs, rfl, rfl, h0, r0⟩ := trodAll_cons hA
  obtain ⟨v1, vs1, d1, ds1, p1, q1, rfl, rfl, rfl, h1, r1⟩ := trodAll_cons r0
  obtain ⟨rfl, rfl, rfl⟩ := trodAll_nil r1
  obtain rfl : args = #[v0, v1] := by cases args; simp_all
  obtain ⟨rfl, rfl⟩ := trodVars_none hV0
  refine Fr.of_walk (f := Try.f15) Fr.laidOut (by rw [Try.params15]; intro t ht; simp at ht; (first | (rcases ht with rfl | rfl | rfl | rfl | rfl | rfl) | (rcases ht with rfl | rfl | rfl | rfl | rfl) | (rcases ht with rfl | rfl | rfl | rfl) | (rcases ht with rfl | rfl | rfl) | (rcases ht with rfl | rfl) | (subst ht)) <;> exact ⟨by kernel_rfl, of_decide_eq_true (by kernel_rfl)⟩) rfl rfl Try.underlying4 (fun _ => rfl) hW ?_
  clear hW hA hA0 hV0
  obtain ⟨a, rfl, rfl, rfl, wf_a⟩ := open_int Try.underlying3 (hval 0 3 v0 rfl rfl) h0
  have bd_a := Op.wf_i64 wf_a
  obtain ⟨b, rfl, rfl, rfl, wf_b⟩ := open_int Try.underlying3 (hval 1 3 v1 rfl rfl) h1
  have bd_b := Op.wf_i64 wf_b
  exact walk a b W bd_a bd_b

theorem closedFacts : joinedFacts Try.prog 15 Try.f15 Rows.fixDivsSpec Rows.fixDivsRow = true := by
  unfold joinedFacts
  simp only [Bool.and_eq_true]
  refine ⟨⟨⟨⟨⟨⟨⟨⟨⟨⟨⟨⟨⟨⟨⟨⟨⟨⟨⟨⟨⟨⟨⟨⟨⟨⟨⟨⟨⟨⟨⟨?_, ?_⟩, ?_⟩, ?_⟩, ?_⟩, ?_⟩, ?_⟩, ?_⟩, ?_⟩, ?_⟩, ?_⟩, ?_⟩, ?_⟩, ?_⟩, ?_⟩, ?_⟩, ?_⟩, ?_⟩, ?_⟩, ?_⟩, ?_⟩, ?_⟩, ?_⟩, ?_⟩, ?_⟩, ?_⟩, ?_⟩, ?_⟩, ?_⟩, ?_⟩, ?_⟩, ?_⟩
  · as_aux_lemma => kernel_rfl
  · exact Fr.laidOut
  · exact Facts.mapsRowed_
  · as_aux_lemma => kernel_rfl
  · as_aux_lemma => kernel_rfl
  · as_aux_lemma => kernel_rfl
  · exact Facts.stops_
  · as_aux_lemma => kernel_rfl
  · exact Facts.knobs_
  · as_aux_lemma => kernel_rfl
  · as_aux_lemma => kernel_rfl
  · as_aux_lemma => kernel_rfl
  · as_aux_lemma => kernel_rfl
  · as_aux_lemma => kernel_rfl
  · as_aux_lemma => kernel_rfl
  · as_aux_lemma => kernel_rfl
  · as_aux_lemma => kernel_rfl
  · as_aux_lemma => kernel_rfl
  · as_aux_lemma => kernel_rfl
  · as_aux_lemma => kernel_rfl
  · as_aux_lemma => kernel_rfl
  · as_aux_lemma => kernel_rfl
  · exact Facts.keys_
  · as_aux_lemma => kernel_rfl
  · exact Facts.heard_
  · exact Facts.enter_
  · exact Facts.lifts_
  · exact Facts.make_
  · as_aux_lemma => kernel_rfl
  · as_aux_lemma => kernel_rfl
  · as_aux_lemma => kernel_rfl
  · as_aux_lemma => kernel_rfl

theorem proved : Rows.FixDivsSaid :=
  OpenClaim.holds_of_wide 15 Try.f15 rfl rfl rfl rfl rfl rfl rfl ⟨rfl, rfl, rfl, rfl, rfl⟩ rfl rfl rfl rfl rfl (by kernel_rfl) Try.func15 closedFacts
    (of_decide_eq_true (by kernel_rfl)) (by unfold Func.isWrapper; first | (rw [if_pos (by decide +kernel)]; kernel_rfl) | (rw [if_neg (by decide +kernel)]; exact ⟨rfl, rfl⟩))
    (fun os started H enc _ => lifted os started H enc)

end Go.Proofs.Ytadcjoipmgefaaa.lawFixDivs
