/- The law SumSums returns true: sum.Sum and the reference's Sum answer alike for all bytes. Conditions: none. -/
import Derived.Test.YtfaielkkecphbaaFrame
import Derived.Test.YtfaielkkecphbaaFacts
import Derived.Test.YtfaielkkecphbaaSumRef
import Derived.Test.YtfaielkkecphbaaSumOf
import Derived.Deep.RegionHeld3
import Derived.Lib.SlBytesConst
namespace Go.Proofs.Ytfaielkkecphbaa.lawSumSums
open Go.ChangeShapes Go.WideShapes Go.ChangeAt Go.RowKit Go.Proofs.Ytfaielkkecphbaa.Mem Go.Proofs.Ytfaielkkecphbaa.Sm Go.Proofs.Ytfaielkkecphbaa.SumLaw
set_option linter.unusedVariables false

theorem closed : more 0 [49, 50, 51, 52, 53, 54, 55, 56, 57] = 3421780262 := by decide +kernel

theorem walk (A : Option Addr) (c : Nat) (bs : List Nat) (w : World) (hA : A = none → c = 0) (hnc : bs.length ≤ c) (hc : bs.length ≤ 140737488355328) (hbs : ∀ x ∈ bs, x < 256) (hr : Rd w w.heap.size 1 A bs.length (bytesV bs)) :
    Calls Try.prog 3 #[.slice A bs.length c] w fun e w' => e = .returned (.bool true) ∧ Below w.heap.size w w' := by
  have kc := fun (w : World) (C : Array Value) (n c : Nat) => Lib.run_convert_bytes_const (P := Try.prog) w 22 5 C n c Try.underlying22 Try.underlying5
  have Hr := Lib.hid hr
  have Hbs := Lib.hid hbs
  clear hr hbs
  go_enter Try.func3, Try.ntmps3
  go_wp2_with fail
  refine (bytes_any A c bs w.heap.size _ (Nat.le_refl _) hA hnc hc Hr.out).mono ?_
  rintro e w1 ⟨A', c', rfl, hown, hb1⟩
  have Hown := Lib.hid hown
  clear hown
  generalize hm : more 0 bs = m
  have HM := Lib.hid hm
  clear hm
  go_wp2_with fail
  refine (sum_any _ _ bs _ _ (Nat.le_refl _) (by omega) Hbs.out (Rd.of_own Hown.out)).mono ?_
  rintro e w2 ⟨rfl, hb2⟩
  rw [HM.out]
  have hb3 := onward hb1 (Nat.le_refl _) hb2
  go_wp2_with fail
  refine (refsum_any A c bs w.heap.size _ hb3.size (by omega) Hbs.out (Hr.out.below hb3)).mono ?_
  rintro e w3 ⟨rfl, hb4⟩
  rw [HM.out]
  have hb5 := onward hb3 (Nat.le_refl _) hb4
  go_wp2_with fail
  have hl : (bytesV [49, 50, 51, 52, 53, 54, 55, 56, 57]).length = 9 := rfl
  have hRd := rd_alloc w3 (bytesV [49, 50, 51, 52, 53, 54, 55, 56, 57]).toArray 5 (9, 10)
  have hb6 : Below w.heap.size w (w3.alloc (.cells (bytesV [49, 50, 51, 52, 53, 54, 55, 56, 57]).toArray 5 (9, 10))) := hb5.alloc hb5.size _
  refine (sum_any _ 9 [49, 50, 51, 52, 53, 54, 55, 56, 57] _ _ (by simp) (by simp) (by simp) hRd).mono ?_
  rintro e w4 ⟨rfl, hb7⟩
  have HC := Lib.hid closed
  rw [HC.out]
  have hb8 := onward hb6 (Nat.le_refl _) hb7
  clear hRd
  go_wp2_with fail
  go_ret
  exact ⟨rfl, hb8⟩
set_option maxRecDepth 100000 in
theorem lifted (os : Os) (started : os.Started) (H : Type) (enc : TypeId × Value → H) :
    ReturnsInHanded {} Try.checked os 3 .any (Rows.sumSumsSpec.pre6 enc Try.prog Try.f3 Rows.sumSumsRow.domain false) (Rows.sumSumsSpec.post enc Try.prog Try.f3 false true false false) := by
  refine returnsInHanded_of_change_sized (C := Try.checked) Fr.own started (by kernel_rfl) Try.func3
    (ChangeSpec.witness6 (enc := enc) (C := Try.checked) false ⟨#[], #[.slice none 0 0], []⟩ 8 (by kernel_rfl) (by kernel_rfl) (by kernel_rfl) (by kernel_rfl)) ?_
  intro W base args ds gs before hval0 hW _ hsz0 _
  have hval : ∀ (j : Nat) t v, Try.f3.params[j]? = some t → args[j]? = some v → Value.okWide Try.prog W .any base t v := hval0
  have hsz : (DataW.weightsEach Try.prog (Try.f3.params.toList ++ Rows.sumSumsSpec.plain.varTypes Try.prog) (ds ++ gs)).all (· ≤ reachBytes) = true := hsz0
  clear hval0 hsz0
  obtain ⟨p, q, hA0, hV0, _⟩ := id hW
  have hA : DataW.TrodAll enc Try.prog W 0 (fun _ => true) true Try.f3.params.toList args.toList ds p := hA0
  rw [Try.params3] at hA hval hsz
  obtain ⟨v0, vs0, d0, ds0, p0, q0, hargs, rfl, rfl, h0, r0⟩ := trodAll_cons hA
  obtain ⟨rfl, rfl, rfl⟩ := trodAll_nil r0
  obtain rfl : args = #[v0] := by cases args; simp_all
  obtain ⟨rfl, rfl⟩ := trodVars_none hV0
  refine Fr.of_walk (f := Try.f3) Fr.laidOut (by rw [Try.params3]; intro t ht; simp at ht; (first | (rcases ht with rfl | rfl | rfl | rfl | rfl | rfl) | (rcases ht with rfl | rfl | rfl | rfl | rfl) | (rcases ht with rfl | rfl | rfl | rfl) | (rcases ht with rfl | rfl | rfl) | (rcases ht with rfl | rfl) | (subst ht)) <;> exact ⟨by kernel_rfl, of_decide_eq_true (by kernel_rfl)⟩) rfl rfl Try.underlying4 (fun _ => rfl) hW ?_
  clear hW hA hA0 hV0
  obtain ⟨A, c, bs, rfl, h2, h3, h4, h5, h6⟩ := Sm.openBytes (hval 0 22 v0 rfl rfl) h0 (Op.light_of_each (j := 0) hsz rfl rfl)
  exact walk A c bs W h4 h2 (by omega) h6 h5

theorem closedFacts : joinedFacts Try.prog 3 Try.f3 Rows.sumSumsSpec Rows.sumSumsRow = true := by
  unfold joinedFacts
  simp only [Bool.and_eq_true]
  refine ⟨⟨⟨⟨⟨⟨⟨⟨⟨⟨⟨⟨⟨⟨⟨⟨⟨⟨⟨⟨⟨⟨⟨⟨⟨⟨⟨⟨⟨⟨⟨?_, ?_⟩, ?_⟩, ?_⟩, ?_⟩, ?_⟩, ?_⟩, ?_⟩, ?_⟩, ?_⟩, ?_⟩, ?_⟩, ?_⟩, ?_⟩, ?_⟩, ?_⟩, ?_⟩, ?_⟩, ?_⟩, ?_⟩, ?_⟩, ?_⟩, ?_⟩, ?_⟩, ?_⟩, ?_⟩, ?_⟩, ?_⟩, ?_⟩, ?_⟩, ?_⟩, ?_⟩
  · as_aux_lemma => kernel_rfl
  · exact Fr.laidOut
  · exact Facts.mapsRowed_
  · as_aux_lemma => kernel_rfl
  · as_aux_lemma => kernel_rfl
  · as_aux_lemma => kernel_rfl
  · exact Facts.stops_
  · as_aux_lemma => kernel_rfl
  · exact Facts.knobs_
  · as_aux_lemma => kernel_rfl
  · as_aux_lemma => kernel_rfl
  · as_aux_lemma => kernel_rfl
  · as_aux_lemma => kernel_rfl
  · as_aux_lemma => kernel_rfl
  · as_aux_lemma => kernel_rfl
  · as_aux_lemma => kernel_rfl
  · as_aux_lemma => kernel_rfl
  · as_aux_lemma => kernel_rfl
  · as_aux_lemma => kernel_rfl
  · as_aux_lemma => kernel_rfl
  · as_aux_lemma => kernel_rfl
  · as_aux_lemma => kernel_rfl
  · exact Facts.keys_
  · as_aux_lemma => kernel_rfl
  · exact Facts.heard_
  · exact Facts.enter_
  · exact Facts.lifts_
  · exact Facts.make_
  · as_aux_lemma => kernel_rfl
  · as_aux_lemma => kernel_rfl
  · as_aux_lemma => kernel_rfl
  · as_aux_lemma => kernel_rfl

theorem proved : Rows.SumSumsSaid :=
  OpenClaim.holds_of_wide 3 Try.f3 rfl rfl rfl rfl rfl rfl rfl ⟨rfl, rfl, rfl, rfl, rfl⟩ rfl rfl rfl rfl rfl (by kernel_rfl) Try.func3 closedFacts
    (of_decide_eq_true (by kernel_rfl)) (by unfold Func.isWrapper; first | (rw [if_pos (by decide +kernel)]; kernel_rfl) | (rw [if_neg (by decide +kernel)]; exact ⟨rfl, rfl⟩))
    (fun os started H enc _ => lifted os started H enc)

end Go.Proofs.Ytfaielkkecphbaa.lawSumSums
