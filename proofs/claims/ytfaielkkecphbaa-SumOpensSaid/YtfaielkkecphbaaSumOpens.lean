/- The law SumOpens returns true: sum.Open and the reference's Open answer alike for all bytes. Conditions: none. -/
import Derived.Test.YtfaielkkecphbaaFrame
import Derived.Test.YtfaielkkecphbaaFacts
import Derived.Test.YtfaielkkecphbaaOpens
namespace Go.Proofs.Ytfaielkkecphbaa.lawSumOpens
open Go.ChangeShapes Go.WideShapes Go.ChangeAt Go.RowKit Go.Proofs.Ytfaielkkecphbaa.Mem Go.Proofs.Ytfaielkkecphbaa.Sm Go.Proofs.Ytfaielkkecphbaa.SumLaw
set_option linter.unusedVariables false

theorem closed : okB [0, 0, 0, 0] = true := by decide +kernel
/-- at the bytes of which it is known that they are sealed -/
theorem open_yes {w w' : World} {bs : List Nat} {e : Ending} (h : OpenAt w w' bs e) (hk : okB bs = true) : ∃ A c, e = .returned (.tuple #[.slice A (bs.length - 4) c, .bool true]) ∧ w'.ownsRow w.heap.size 5 1 (.slice A (bs.length - 4) c) (bs.length - 4) (bytesV (bs.take (bs.length - 4))) ∧ Below w.heap.size w w' := by
  rcases h with ⟨_, h⟩ | ⟨h, _⟩
  · exact h
  · rw [hk] at h; cases h
theorem open_no {w w' : World} {bs : List Nat} {e : Ending} (h : OpenAt w w' bs e) (hk : okB bs = false) : e = .returned (.tuple #[.slice none 0 0, .bool false]) ∧ Below w.heap.size w w' := by
  rcases h with ⟨h, _⟩ | ⟨_, h⟩
  · rw [hk] at h; cases h
  · exact h

set_option maxRecDepth 100000 in
set_option maxHeartbeats 1000000 in
theorem walk (A : Option Addr) (c : Nat) (bs : List Nat) (w : World) (hA : A = none → c = 0) (hnc : bs.length ≤ c) (hcm : c ≤ maxLen) (hc : bs.length ≤ 140737488351232) (hbs : ∀ x ∈ bs, x < 256) (hr : Rd w w.heap.size 1 A bs.length (bytesV bs)) :
    Calls Try.prog 5 #[.slice A bs.length c] w fun e w' => e = .returned (.bool true) ∧ Below w.heap.size w w' := by
  have Hr := Lib.hid hr
  have Hbs := Lib.hid hbs
  clear hr hbs
  go_enter Try.func5, Try.ntmps5
  go_wp2_with fail
  refine (bytes_any A c bs w.heap.size _ (Nat.le_refl _) hA hnc (by omega) Hr.out).mono ?_
  rintro e w1 ⟨A1, c1, rfl, hown, hb1⟩
  have HO1 := Lib.hid hown
  clear hown
  have HM := Lib.hid (own_form HO1.out)
  have hcm1 : c1 ≤ maxLen := by
    obtain ⟨_, _, hv, _, h3, _⟩ := HM.out
    injection hv with _ _ h; subst h; exact h3
  clear HM
  cases hk : okB bs
  · have HK := Lib.hid hk
    clear hk
    go_wp2_with fail
    refine (open_any A1 c1 bs _ _ (Nat.le_refl _) (fun h => (own_nil HO1.out h).2) (own_cap HO1.out) hcm1 hc Hbs.out (Rd.of_own HO1.out)).mono ?_
    intro e w2 hop
    obtain ⟨rfl, hb2⟩ := open_no hop HK.out
    clear hop
    have hb3 := onward hb1 (Nat.le_refl _) hb2
    go_wp2_with fail
    refine (refopen_any A c bs w.heap.size _ hb3.size hA hnc hcm hc Hbs.out (Hr.out.below hb3)).mono ?_
    intro e w3 hop
    obtain ⟨rfl, hb4⟩ := open_no hop HK.out
    clear hop
    have hb5 := onward hb3 (Nat.le_refl _) hb4
    go_wp2_with fail
    have hRd : Rd (w3.alloc (.cells #[.int .u8 0, .int .u8 0, .int .u8 0, .int .u8 0] 5)) (w3.heap.size + 1) 1 (some ⟨w3.heap.size, 0, none⟩) 4 (bytesV [0, 0, 0, 0]) := rd_alloc w3 _ 5 (0, 0)
    refine (open_any _ 4 [0, 0, 0, 0] _ _ (by simp) (by simp) (Nat.le_refl _) (by unfold maxLen; omega) (by simp) (by simp) hRd).mono ?_
    intro e w4 hop
    obtain ⟨A4, c4, rfl, _, hb6⟩ := open_yes hop closed
    clear hop hRd
    have hb7 := onward (hb5.alloc hb5.size _) (Nat.le_refl _) hb6
    have kn : ∀ w, (convert 22 9 (.slice none 0 0)).run Try.prog w = .ok (.string ByteArray.empty) w := fun w => run_convert_bytes_nil w _ _ Try.underlying22 Try.underlying5 _ _ _ Try.underlying9
    go_wp2_with fail
    go_ret
    exact ⟨rfl, hb7⟩
  · have HK := Lib.hid hk
    clear hk
    go_wp2_with fail
    refine (open_any A1 c1 bs _ _ (Nat.le_refl _) (fun h => (own_nil HO1.out h).2) (own_cap HO1.out) hcm1 hc Hbs.out (Rd.of_own HO1.out)).mono ?_
    intro e w2 hop
    obtain ⟨A2, c2, rfl, hown2, hb2⟩ := open_yes hop HK.out
    clear hop
    have hb3 := onward hb1 (Nat.le_refl _) hb2
    have HL := Lib.hid (show bs.length - 4 = (bs.take (bs.length - 4)).length by simp)
    obtain ⟨n, hn⟩ : ∃ n, bs.length - 4 = n := ⟨_, rfl⟩
    obtain ⟨xs, hxs⟩ : ∃ xs, bs.take (bs.length - 4) = xs := ⟨_, rfl⟩
    rw [hxs, hn] at HL
    have HN := Lib.hid hn
    have HX := Lib.hid hxs
    rw [hxs, hn] at hown2
    rw [hn]
    clear hn hxs
    have HO2 := Lib.hid hown2
    clear hown2
    go_wp2_with fail
    refine (refopen_any A c bs w.heap.size _ hb3.size hA hnc hcm hc Hbs.out (Hr.out.below hb3)).mono ?_
    intro e w3 hop
    obtain ⟨A3, c3, rfl, hown3, hb4⟩ := open_yes hop HK.out
    clear hop
    rw [HX.out, HN.out] at hown3
    rw [HN.out]
    have hb5 := onward hb3 (Nat.le_refl _) hb4
    have HO3 := Lib.hid hown3
    have HO4 := Lib.hid (ownsRow_below HO2.out hb4)
    clear hown3
    go_wp2_with fail
    have hRd : Rd (w3.alloc (.cells #[.int .u8 0, .int .u8 0, .int .u8 0, .int .u8 0] 5)) (w3.heap.size + 1) 1 (some ⟨w3.heap.size, 0, none⟩) 4 (bytesV [0, 0, 0, 0]) := rd_alloc w3 _ 5 (0, 0)
    refine (open_any _ 4 [0, 0, 0, 0] _ _ (by simp) (by simp) (Nat.le_refl _) (by unfold maxLen; omega) (by simp) (by simp) hRd).mono ?_
    intro e w4 hop
    obtain ⟨A4, c4, rfl, _, hb6⟩ := open_yes hop closed
    clear hop hRd
    have hb7 := onward (hb5.alloc hb5.size _) (Nat.le_refl _) hb6
    have k2 := conv_own HL.out (ownsRow_below (HO4.out.alloc _) hb6)
    have k3 := conv_own HL.out (ownsRow_below (HO3.out.alloc _) hb6)
    go_wp2_with fail
    go_ret
    exact ⟨rfl, hb7⟩
set_option maxRecDepth 100000 in
theorem lifted (os : Os) (started : os.Started) (H : Type) (enc : TypeId × Value → H) :
    ReturnsInHanded {} Try.checked os 5 .any (Rows.sumOpensSpec.pre6 enc Try.prog Try.f5 Rows.sumOpensRow.domain false) (Rows.sumOpensSpec.post enc Try.prog Try.f5 false true false false) := by
  refine returnsInHanded_of_change_sized (C := Try.checked) Fr.own started (by kernel_rfl) Try.func5
    (ChangeSpec.witness6 (enc := enc) (C := Try.checked) false ⟨#[], #[.slice none 0 0], []⟩ 8 (by kernel_rfl) (by kernel_rfl) (by kernel_rfl) (by kernel_rfl)) ?_
  intro W base args ds gs before hval0 hW _ hsz0 _
  have hval : ∀ (j : Nat) t v, Try.f5.params[j]? = some t → args[j]? = some v → Value.okWide Try.prog W .any base t v := hval0
  have hsz : (DataW.weightsEach Try.prog (Try.f5.params.toList ++ Rows.sumOpensSpec.plain.varTypes Try.prog) (ds ++ gs)).all (· ≤ reachBytes) = true := hsz0
  clear hval0 hsz0
  obtain ⟨p, q, hA0, hV0, _⟩ := id hW
  have hA : DataW.TrodAll enc Try.prog W 0 (fun _ => true) true Try.f5.params.toList args.toList ds p := hA0
  rw [Try.params5] at hA hval hsz
  obtain ⟨v0, vs0, d0, ds0, p0, q0, hargs, rfl, rfl, h0, r0⟩ := trodAll_cons hA
  obtain ⟨rfl, rfl, rfl⟩ := trodAll_nil r0
  obtain rfl : args = #[v0] := by cases args; simp_all
  obtain ⟨rfl, rfl⟩ := trodVars_none hV0
  refine Fr.of_walk (f := Try.f5) Fr.laidOut (by rw [Try.params5]; intro t ht; simp at ht; (first | (rcases ht with rfl | rfl | rfl | rfl | rfl | rfl) | (rcases ht with rfl | rfl | rfl | rfl | rfl) | (rcases ht with rfl | rfl | rfl | rfl) | (rcases ht with rfl | rfl | rfl) | (rcases ht with rfl | rfl) | (subst ht)) <;> exact ⟨by kernel_rfl, of_decide_eq_true (by kernel_rfl)⟩) rfl rfl Try.underlying4 (fun _ => rfl) hW ?_
  clear hW hA hA0 hV0
  obtain ⟨A, c, bs, rfl, h2, h3, h4, h5, h6⟩ := Sm.openBytes (hval 0 22 v0 rfl rfl) h0 (Op.light_of_each (j := 0) hsz rfl rfl)
  exact walk A c bs W h4 h2 (by unfold maxLen; omega) (by omega) h6 h5

theorem closedFacts : joinedFacts Try.prog 5 Try.f5 Rows.sumOpensSpec Rows.sumOpensRow = true := by
  unfold joinedFacts
  simp only [Bool.and_eq_true]
  refine ⟨⟨⟨⟨⟨⟨⟨⟨⟨⟨⟨⟨⟨⟨⟨⟨⟨⟨⟨⟨⟨⟨⟨⟨⟨⟨⟨⟨⟨⟨⟨?_, ?_⟩, ?_⟩, ?_⟩, ?_⟩, ?_⟩, ?_⟩, ?_⟩, ?_⟩, ?_⟩, ?_⟩, ?_⟩, ?_⟩, ?_⟩, ?_⟩, ?_⟩, ?_⟩, ?_⟩, ?_⟩, ?_⟩, ?_⟩, ?_⟩, ?_⟩, ?_⟩, ?_⟩, ?_⟩, ?_⟩, ?_⟩, ?_⟩, ?_⟩, ?_⟩, ?_⟩
  · as_aux_lemma => kernel_rfl
  · exact Fr.laidOut
  · exact Facts.mapsRowed_
  · as_aux_lemma => kernel_rfl
  · as_aux_lemma => kernel_rfl
  · as_aux_lemma => kernel_rfl
  · exact Facts.stops_
  · as_aux_lemma => kernel_rfl
  · exact Facts.knobs_
  · as_aux_lemma => kernel_rfl
  · as_aux_lemma => kernel_rfl
  · as_aux_lemma => kernel_rfl
  · as_aux_lemma => kernel_rfl
  · as_aux_lemma => kernel_rfl
  · as_aux_lemma => kernel_rfl
  · as_aux_lemma => kernel_rfl
  · as_aux_lemma => kernel_rfl
  · as_aux_lemma => kernel_rfl
  · as_aux_lemma => kernel_rfl
  · as_aux_lemma => kernel_rfl
  · as_aux_lemma => kernel_rfl
  · as_aux_lemma => kernel_rfl
  · exact Facts.keys_
  · as_aux_lemma => kernel_rfl
  · exact Facts.heard_
  · exact Facts.enter_
  · exact Facts.lifts_
  · exact Facts.make_
  · as_aux_lemma => kernel_rfl
  · as_aux_lemma => kernel_rfl
  · as_aux_lemma => kernel_rfl
  · as_aux_lemma => kernel_rfl

theorem proved : Rows.SumOpensSaid :=
  OpenClaim.holds_of_wide 5 Try.f5 rfl rfl rfl rfl rfl rfl rfl ⟨rfl, rfl, rfl, rfl, rfl⟩ rfl rfl rfl rfl rfl (by kernel_rfl) Try.func5 closedFacts
    (of_decide_eq_true (by kernel_rfl)) (by unfold Func.isWrapper; first | (rw [if_pos (by decide +kernel)]; kernel_rfl) | (rw [if_neg (by decide +kernel)]; exact ⟨rfl, rfl⟩))
    (fun os started H enc _ => lifted os started H enc)

end Go.Proofs.Ytfaielkkecphbaa.lawSumOpens
