/- The law SumSeals returns true: sum.Seal and the reference's Seal answer the same bytes for all bytes. Conditions: none. -/
import Derived.Test.YtfaielkkecphbaaFrame
import Derived.Test.YtfaielkkecphbaaFacts
import Derived.Test.YtfaielkkecphbaaStr
import Derived.Deep.RegionLaw
namespace Go.Proofs.Ytfaielkkecphbaa.lawSumSeals
open Go.ChangeShapes Go.WideShapes Go.ChangeAt Go.RowKit Go.Proofs.Ytfaielkkecphbaa.Mem Go.Proofs.Ytfaielkkecphbaa.Sm Go.Proofs.Ytfaielkkecphbaa.SumLaw
set_option linter.unusedVariables false

set_option maxHeartbeats 4000000 in
theorem walk (A : Option Addr) (c : Nat) (bs : List Nat) (w : World) (hA : A = none → c = 0) (hnc : bs.length ≤ c) (hc : bs.length ≤ 140737488351232) (hbs : ∀ x ∈ bs, x < 256) (hr : Rd w w.heap.size 1 A bs.length (bytesV bs)) :
    Calls Try.prog 4 #[.slice A bs.length c] w fun e w' => e = .returned (.bool true) ∧ Below w.heap.size w w' := by
  have Hr := Lib.hid hr
  have Hbs := Lib.hid hbs
  have hb0 : Below w.heap.size w w.drew := (Below.refl _ _).drew
  have hs : w.heap.size ≤ w.drew.heap.size := Nat.le_refl _
  clear hr hbs
  go_enter Try.func4, Try.ntmps4
  go_wp2_with fail
  go_region_with (first
    | (go_at_call 25; refine (bytes_any A c bs w.heap.size _ hs hA hnc (by omega) (Hr.out.below hb0)).mono ?_; rintro e w1 ⟨A1, c1, rfl, hown1, hbn⟩; have hb0 := onward hb0 (Nat.le_refl _) hbn; have hs := hb0.size; have HO1 := Lib.hid hown1; (try (have HO3 := Lib.hid (ownsRow_below HO3.out hbn); have k3 := conv_own rfl HO3.out)); clear hown1 hbn)
    | (go_at_call 27; refine (seal_any A1 c1 bs _ _ (Nat.le_refl _) (fun h => (own_nil HO1.out h).2) (own_cap HO1.out) hc Hbs.out (Rd.of_own HO1.out)).mono ?_; rintro e w2 ⟨A2, c2, rfl, hown2, hbn⟩; have hb0 := onward hb0 (Nat.le_refl _) hbn; have hs := hb0.size; have HO2 := Lib.hid hown2; have k2 := conv_own rfl HO2.out; (try (have HO3 := Lib.hid (ownsRow_below HO3.out hbn); have k3 := conv_own rfl HO3.out)); clear hown2 hbn)
    | (go_at_call 28; refine (refseal_any A c bs w.heap.size _ hs hA hnc hc Hbs.out (Hr.out.below hb0)).mono ?_; rintro e w3 ⟨A3, c3, rfl, hown3, hbn⟩; have hb0 := onward hb0 (Nat.le_refl _) hbn; have hs := hb0.size; have HO3 := Lib.hid hown3; have k3 := conv_own rfl HO3.out; (try (have HO1 := Lib.hid (ownsRow_below HO1.out hbn))); (try (have HO2 := Lib.hid (ownsRow_below HO2.out hbn); have k2 := conv_own rfl HO2.out)); clear hown3 hbn))
  all_goals (try clear k2)
  all_goals (try clear k3)
  all_goals go_wp2_with fail
  all_goals go_ret
  all_goals exact ⟨rfl, hb0⟩
set_option maxRecDepth 100000 in
theorem lifted (os : Os) (started : os.Started) (H : Type) (enc : TypeId × Value → H) :
    ReturnsInHanded {} Try.checked os 4 .any (Rows.sumSealsSpec.pre6 enc Try.prog Try.f4 Rows.sumSealsRow.domain false) (Rows.sumSealsSpec.post enc Try.prog Try.f4 false true false false) := by
  refine returnsInHanded_of_change_sized (C := Try.checked) Fr.own started (by kernel_rfl) Try.func4
    (ChangeSpec.witness6 (enc := enc) (C := Try.checked) false ⟨#[], #[.slice none 0 0], []⟩ 8 (by kernel_rfl) (by kernel_rfl) (by kernel_rfl) (by kernel_rfl)) ?_
  intro W base args ds gs before hval0 hW _ hsz0 _
  have hval : ∀ (j : Nat) t v, Try.f4.params[j]? = some t → args[j]? = some v → Value.okWide Try.prog W .any base t v := hval0
  have hsz : (DataW.weightsEach Try.prog (Try.f4.params.toList ++ Rows.sumSealsSpec.plain.varTypes Try.prog) (ds ++ gs)).all (· ≤ reachBytes) = true := hsz0
  clear hval0 hsz0
  obtain ⟨p, q, hA0, hV0, _⟩ := id hW
  have hA : DataW.TrodAll enc Try.prog W 0 (fun _ => true) true Try.f4.params.toList args.toList ds p := hA0
  rw [Try.params4] at hA hval hsz
  obtain ⟨v0, vs0, d0, ds0, p0, q0, hargs, rfl, rfl, h0, r0⟩ := trodAll_cons hA
  obtain ⟨rfl, rfl, rfl⟩ := trodAll_nil r0
  obtain rfl : args = #[v0] := by cases args; simp_all
  obtain ⟨rfl, rfl⟩ := trodVars_none hV0
  refine Fr.of_walk (f := Try.f4) Fr.laidOut (by rw [Try.params4]; intro t ht; simp at ht; (first | (rcases ht with rfl | rfl | rfl | rfl | rfl | rfl) | (rcases ht with rfl | rfl | rfl | rfl | rfl) | (rcases ht with rfl | rfl | rfl | rfl) | (rcases ht with rfl | rfl | rfl) | (rcases ht with rfl | rfl) | (subst ht)) <;> exact ⟨by kernel_rfl, of_decide_eq_true (by kernel_rfl)⟩) rfl rfl Try.underlying4 (fun _ => rfl) hW ?_
  clear hW hA hA0 hV0
  obtain ⟨A, c, bs, rfl, h2, h3, h4, h5, h6⟩ := Sm.openBytes (hval 0 22 v0 rfl rfl) h0 (Op.light_of_each (j := 0) hsz rfl rfl)
  exact walk A c bs W h4 h2 (by omega) h6 h5

theorem closedFacts : joinedFacts Try.prog 4 Try.f4 Rows.sumSealsSpec Rows.sumSealsRow = true := by
  unfold joinedFacts
  simp only [Bool.and_eq_true]
  refine ⟨⟨⟨⟨⟨⟨⟨⟨⟨⟨⟨⟨⟨⟨⟨⟨⟨⟨⟨⟨⟨⟨⟨⟨⟨⟨⟨⟨⟨⟨⟨?_, ?_⟩, ?_⟩, ?_⟩, ?_⟩, ?_⟩, ?_⟩, ?_⟩, ?_⟩, ?_⟩, ?_⟩, ?_⟩, ?_⟩, ?_⟩, ?_⟩, ?_⟩, ?_⟩, ?_⟩, ?_⟩, ?_⟩, ?_⟩, ?_⟩, ?_⟩, ?_⟩, ?_⟩, ?_⟩, ?_⟩, ?_⟩, ?_⟩, ?_⟩, ?_⟩, ?_⟩
  · as_aux_lemma => kernel_rfl
  · exact Fr.laidOut
  · exact Facts.mapsRowed_
  · as_aux_lemma => kernel_rfl
  · as_aux_lemma => kernel_rfl
  · as_aux_lemma => kernel_rfl
  · exact Facts.stops_
  · as_aux_lemma => kernel_rfl
  · exact Facts.knobs_
  · as_aux_lemma => kernel_rfl
  · as_aux_lemma => kernel_rfl
  · as_aux_lemma => kernel_rfl
  · as_aux_lemma => kernel_rfl
  · as_aux_lemma => kernel_rfl
  · as_aux_lemma => kernel_rfl
  · as_aux_lemma => kernel_rfl
  · as_aux_lemma => kernel_rfl
  · as_aux_lemma => kernel_rfl
  · as_aux_lemma => kernel_rfl
  · as_aux_lemma => kernel_rfl
  · as_aux_lemma => kernel_rfl
  · as_aux_lemma => kernel_rfl
  · exact Facts.keys_
  · as_aux_lemma => kernel_rfl
  · exact Facts.heard_
  · exact Facts.enter_
  · exact Facts.lifts_
  · exact Facts.make_
  · as_aux_lemma => kernel_rfl
  · as_aux_lemma => kernel_rfl
  · as_aux_lemma => kernel_rfl
  · as_aux_lemma => kernel_rfl

theorem proved : Rows.SumSealsSaid :=
  OpenClaim.holds_of_wide 4 Try.f4 rfl rfl rfl rfl rfl rfl rfl ⟨rfl, rfl, rfl, rfl, rfl⟩ rfl rfl rfl rfl rfl (by kernel_rfl) Try.func4 closedFacts
    (of_decide_eq_true (by kernel_rfl)) (by unfold Func.isWrapper; first | (rw [if_pos (by decide +kernel)]; kernel_rfl) | (rw [if_neg (by decide +kernel)]; exact ⟨rfl, rfl⟩))
    (fun os started H enc _ => lifted os started H enc)

end Go.Proofs.Ytfaielkkecphbaa.lawSumSeals
